/- HeapPlays: the round's body. No condition. -/
import Derived.Test.YtlfkmignkilplaaHl
namespace Go.Proofs.Ytlfkmignkilplaa.PHeapPlays
open Go.RowKit Go.Proofs.YtlfkmignkilplaaW.PrintWords Go.Proofs.YtlfkmignkilplaaW.PrintLast Go.Proofs.YtlfkmignkilplaaW.PrintMore
set_option linter.unusedVariables false
set_option linter.unusedSimpArgs false

def putBlk (n : Nat) (x : Code) : Code → Code
  | .block m c => .block m (if m = n then x else putBlk n x c)
  | .seq a b => .seq (putBlk n x a) (putBlk n x b)
  | .loop c => .loop (putBlk n x c)
  | .scope c => .scope (putBlk n x c)
  | .cond t a b => .cond t (putBlk n x a) (putBlk n x b)
  | c => c
noncomputable def B1 : Code := (Try.f3.body.bind (inBlk 1)).getD .skip
set_option maxRecDepth 1000000 in
set_option maxHeartbeats 8000000 in
theorem B1_ret0 (w wq : World) (l : List S34) (A : Option Addr) (c hb j N : Nat) (v : Value) (xs : List S67) (u : Nat → Value) (Q : Exit → Act → World → Prop)
    (hQ : ∀ a w', PE w l A c hb j a w' → Q .normal a w') (hC : ∀ a w', PE w l A c hb j a w' → Q (.exit 1) a w') (hR : ∀ a w', PR w a w' → Q .ret a w') (hP : ∀ c a N v w', Q (.panic c) (Act.put a N v) w' → Q (.panic c) a w')
    (hS : St w wq N hb v xs xs) (hl : xs.length ≤ j) (hj : j < l.length) (hL : l.length ≤ 40) (ht : tot xs ≤ 65536) (hw : WF xs) (hr : Kd.C k34 w A l.length l) (h20 : 20 < (rd_T34 l (j : Int)).f2.length) :
    Code.wp Try.prog B1 Q ⟨#[.slice A l.length c, undef, u 2, .pointer (some ⟨hb, 0, none⟩), v, .int .i64 ((tot xs : Nat) : Int), undef, u 7, undef, u 9, u 10, u 11, u 12, u 13, undef, u 15, u 16, u 17, u 18, u 19, u 20, u 21, undef, undef, undef, undef, undef, undef, undef, undef, undef, undef, undef, .bool true, .bool false, .slice A l.length c, .int .i64 (l.length : Int), .bool false, .slice A l.length c, .int .i64 (l.length : Int), .int .i64 (j : Int), u 41, u 42, u 43, u 44, u 45, u 46, u 47, u 48, u 49, u 50, u 51, u 52, u 53, u 54, u 55, u 56, u 57, u 58, u 59, u 60, u 61, u 62, u 63, u 64, u 65, u 66, u 67, u 68, u 69, u 70, u 71, u 72, u 73, u 74, u 75, u 76, u 77, u 78, u 79, u 80, u 81, u 82, u 83, u 84, u 85, u 86, u 87, u 88, u 89, u 90, u 91, u 92, u 93, u 94, u 95, u 96, u 97, u 98, u 99, u 100, u 101, u 102, u 103, u 104, u 105, u 106, u 107, u 108, u 109, u 110, u 111, u 112, u 113, u 114, u 115, u 116, u 117, u 118, u 119, u 120, u 121, u 122, u 123, u 124, u 125, u 126, u 127, u 128, u 129, u 130, u 131, u 132, u 133, u 134, u 135, u 136, u 137, u 138, u 139, u 140, u 141, u 142, u 143, u 144, u 145, u 146, u 147, u 148, u 149, u 150, u 151, u 152, u 153, u 154, u 155, u 156, u 157, u 158, u 159, u 160, u 161, u 162, u 163, u 164, u 165, u 166, u 167, u 168, u 169, u 170, u 171, u 172, u 173, u 174, u 175, u 176, u 177, u 178, u 179, u 180, u 181, u 182, u 183, u 184, u 185, u 186, u 187, u 188, u 189, u 190, u 191, u 192, u 193, u 194, u 195, u 196, u 197, u 198, u 199, u 200, u 201, u 202, u 203, u 204, u 205, u 206, u 207, u 208, u 209, u 210, u 211, u 212, u 213, u 214, u 215, u 216, u 217, u 218, u 219, u 220, u 221, u 222, u 223, u 224, u 225, u 226, u 227, u 228, u 229, u 230, u 231, u 232, u 233, u 234, u 235, u 236, u 237, u 238, u 239, u 240, u 241, u 242, u 243, u 244, u 245, u 246, u 247, u 248, u 249, u 250, u 251, u 252, u 253, u 254, u 255, u 256, u 257, u 258, u 259, u 260, u 261, u 262, u 263, u 264, u 265, u 266, u 267, u 268, u 269, u 270, u 271, u 272, u 273, u 274, u 275, u 276, u 277, u 278, u 279, u 280, u 281, u 282, u 283, u 284, u 285, u 286, u 287, u 288, u 289, u 290, u 291, u 292, u 293, u 294, u 295, u 296, u 297, u 298, u 299, u 300, u 301, u 302, u 303, u 304, u 305, u 306, u 307, u 308, u 309, u 310, u 311, u 312, u 313, u 314, u 315, u 316, u 317, u 318, u 319, u 320, u 321, u 322, u 323, u 324, u 325, u 326, u 327, u 328, u 329, u 330, u 331, undef, undef, undef, undef, undef, undef, undef, undef, undef, undef, undef, undef, undef, undef, undef, undef, undef, undef, undef, undef, undef, undef, undef, undef, undef, undef, undef, undef, undef, undef, undef, undef, undef, undef, undef, undef, undef, undef, undef, undef, undef, undef, undef, undef, undef, undef, undef, undef, undef, undef, undef, undef, undef, undef, undef, undef, undef, undef, undef, undef, undef, undef, undef, undef, undef, undef, undef, undef, undef, undef, undef, undef, undef, undef, undef, undef, undef, undef, undef, undef, undef, undef, undef, undef, undef, undef], []⟩ wq := by
  have eB : B1 = putBlk 4 B4 B1 := by kernel_rfl
  rw [eB]
  clear eB
  conv => arg 2; arg 3; whnf
  simp only [putBlk, reduceIte, Nat.reduceEqDiff, ↓reduceIte]
  obtain ⟨ade, B, cB, eA, hcB, hC3, x0, x1, x2, x3, x4, x5, x6, x7, x8, x9, x10, x11, x12, x13⟩ := at_T34 hr (j : Int) (by omega) (by omega)
  obtain ⟨o, ho⟩ : ∃ o, o = rd_T34 l (j : Int) := ⟨_, rfl⟩
  rw [← ho] at h20
  rw [← ho] at x0 x1 x2 x3 x4 x5 x6 x7 x8 x9 x10 x11 x12 x13 hcB hC3
  simp only [Int.toNat_natCast] at x0 x1 x2 x3 x4 x5 x6 x7 x8 x9 x10 x11 x12 x13
  replace x0 := (hS.bel.cell (World.block_lt_of_cell? w _ x0)).trans x0
  replace x1 := (hS.bel.cell (World.block_lt_of_cell? w _ x1)).trans x1
  replace x2 := (hS.bel.cell (World.block_lt_of_cell? w _ x2)).trans x2
  replace x3 := (hS.bel.cell (World.block_lt_of_cell? w _ x3)).trans x3
  replace x4 := (hS.bel.cell (World.block_lt_of_cell? w _ x4)).trans x4
  replace x5 := (hS.bel.cell (World.block_lt_of_cell? w _ x5)).trans x5
  replace x6 := (hS.bel.cell (World.block_lt_of_cell? w _ x6)).trans x6
  replace x7 := (hS.bel.cell (World.block_lt_of_cell? w _ x7)).trans x7
  replace x8 := (hS.bel.cell (World.block_lt_of_cell? w _ x8)).trans x8
  replace x9 := (hS.bel.cell (World.block_lt_of_cell? w _ x9)).trans x9
  replace x10 := (hS.bel.cell (World.block_lt_of_cell? w _ x10)).trans x10
  replace x11 := (hS.bel.cell (World.block_lt_of_cell? w _ x11)).trans x11
  replace x12 := (hS.bel.cell (World.block_lt_of_cell? w _ x12)).trans x12
  replace x13 := (hS.bel.cell (World.block_lt_of_cell? w _ x13)).trans x13
  clear ho
  have HS := Aside0.mk hS
  have HC3 := Aside0.mk (And.intro hcB hC3)
  have HF := Aside0.mk (And.intro hl (And.intro hj (And.intro hL (And.intro ht hw))))
  have hu30 := Try.underlying30
  have hu32 := Try.underlying32
  have hu34 := Try.underlying34
  have b1 : decide ((j : Int) < (l.length : Int)) = true := decide_eq_true (by omega)
  have b2 : decide (j < l.length) = true := decide_eq_true hj
  have b3 : 0 ≤ (j : Int) := by omega
  have b4 : (j : Int) < (l.length : Int) := by omega
  have p0 : decide (20 < (o.f2.length : Int)) = true := decide_eq_true (by omega)
  have s0 : decide (20 < o.f2.length) = true := decide_eq_true (by omega)
  clear h20
  clear hS hl hj hL ht hw hr hcB hC3
  subst eA
  go_wp2_with fail
  exact hR _ _ ⟨by kernel_rfl, by rfl, below_alloc HS.out.bel _⟩
set_option maxRecDepth 1000000 in
set_option maxHeartbeats 8000000 in
theorem B1_ret1 (w wq : World) (l : List S34) (A : Option Addr) (c hb j N : Nat) (v : Value) (xs : List S67) (u : Nat → Value) (Q : Exit → Act → World → Prop)
    (hQ : ∀ a w', PE w l A c hb j a w' → Q .normal a w') (hC : ∀ a w', PE w l A c hb j a w' → Q (.exit 1) a w') (hR : ∀ a w', PR w a w' → Q .ret a w') (hP : ∀ c a N v w', Q (.panic c) (Act.put a N v) w' → Q (.panic c) a w')
    (hS : St w wq N hb v xs xs) (hl : xs.length ≤ j) (hj : j < l.length) (hL : l.length ≤ 40) (ht : tot xs ≤ 65536) (hw : WF xs) (hr : Kd.C k34 w A l.length l) (h20 : ¬ 20 < (rd_T34 l (j : Int)).f2.length) (h60 : 60 < (rd_T34 l (j : Int)).f1.size) :
    Code.wp Try.prog B1 Q ⟨#[.slice A l.length c, undef, u 2, .pointer (some ⟨hb, 0, none⟩), v, .int .i64 ((tot xs : Nat) : Int), undef, u 7, undef, u 9, u 10, u 11, u 12, u 13, undef, u 15, u 16, u 17, u 18, u 19, u 20, u 21, undef, undef, undef, undef, undef, undef, undef, undef, undef, undef, undef, .bool true, .bool false, .slice A l.length c, .int .i64 (l.length : Int), .bool false, .slice A l.length c, .int .i64 (l.length : Int), .int .i64 (j : Int), u 41, u 42, u 43, u 44, u 45, u 46, u 47, u 48, u 49, u 50, u 51, u 52, u 53, u 54, u 55, u 56, u 57, u 58, u 59, u 60, u 61, u 62, u 63, u 64, u 65, u 66, u 67, u 68, u 69, u 70, u 71, u 72, u 73, u 74, u 75, u 76, u 77, u 78, u 79, u 80, u 81, u 82, u 83, u 84, u 85, u 86, u 87, u 88, u 89, u 90, u 91, u 92, u 93, u 94, u 95, u 96, u 97, u 98, u 99, u 100, u 101, u 102, u 103, u 104, u 105, u 106, u 107, u 108, u 109, u 110, u 111, u 112, u 113, u 114, u 115, u 116, u 117, u 118, u 119, u 120, u 121, u 122, u 123, u 124, u 125, u 126, u 127, u 128, u 129, u 130, u 131, u 132, u 133, u 134, u 135, u 136, u 137, u 138, u 139, u 140, u 141, u 142, u 143, u 144, u 145, u 146, u 147, u 148, u 149, u 150, u 151, u 152, u 153, u 154, u 155, u 156, u 157, u 158, u 159, u 160, u 161, u 162, u 163, u 164, u 165, u 166, u 167, u 168, u 169, u 170, u 171, u 172, u 173, u 174, u 175, u 176, u 177, u 178, u 179, u 180, u 181, u 182, u 183, u 184, u 185, u 186, u 187, u 188, u 189, u 190, u 191, u 192, u 193, u 194, u 195, u 196, u 197, u 198, u 199, u 200, u 201, u 202, u 203, u 204, u 205, u 206, u 207, u 208, u 209, u 210, u 211, u 212, u 213, u 214, u 215, u 216, u 217, u 218, u 219, u 220, u 221, u 222, u 223, u 224, u 225, u 226, u 227, u 228, u 229, u 230, u 231, u 232, u 233, u 234, u 235, u 236, u 237, u 238, u 239, u 240, u 241, u 242, u 243, u 244, u 245, u 246, u 247, u 248, u 249, u 250, u 251, u 252, u 253, u 254, u 255, u 256, u 257, u 258, u 259, u 260, u 261, u 262, u 263, u 264, u 265, u 266, u 267, u 268, u 269, u 270, u 271, u 272, u 273, u 274, u 275, u 276, u 277, u 278, u 279, u 280, u 281, u 282, u 283, u 284, u 285, u 286, u 287, u 288, u 289, u 290, u 291, u 292, u 293, u 294, u 295, u 296, u 297, u 298, u 299, u 300, u 301, u 302, u 303, u 304, u 305, u 306, u 307, u 308, u 309, u 310, u 311, u 312, u 313, u 314, u 315, u 316, u 317, u 318, u 319, u 320, u 321, u 322, u 323, u 324, u 325, u 326, u 327, u 328, u 329, u 330, u 331, undef, undef, undef, undef, undef, undef, undef, undef, undef, undef, undef, undef, undef, undef, undef, undef, undef, undef, undef, undef, undef, undef, undef, undef, undef, undef, undef, undef, undef, undef, undef, undef, undef, undef, undef, undef, undef, undef, undef, undef, undef, undef, undef, undef, undef, undef, undef, undef, undef, undef, undef, undef, undef, undef, undef, undef, undef, undef, undef, undef, undef, undef, undef, undef, undef, undef, undef, undef, undef, undef, undef, undef, undef, undef, undef, undef, undef, undef, undef, undef, undef, undef, undef, undef, undef, undef], []⟩ wq := by
  have eB : B1 = putBlk 4 B4 B1 := by kernel_rfl
  rw [eB]
  clear eB
  conv => arg 2; arg 3; whnf
  simp only [putBlk, reduceIte, Nat.reduceEqDiff, ↓reduceIte]
  obtain ⟨ade, B, cB, eA, hcB, hC3, x0, x1, x2, x3, x4, x5, x6, x7, x8, x9, x10, x11, x12, x13⟩ := at_T34 hr (j : Int) (by omega) (by omega)
  obtain ⟨o, ho⟩ : ∃ o, o = rd_T34 l (j : Int) := ⟨_, rfl⟩
  rw [← ho] at h20 h60
  rw [← ho] at x0 x1 x2 x3 x4 x5 x6 x7 x8 x9 x10 x11 x12 x13 hcB hC3
  simp only [Int.toNat_natCast] at x0 x1 x2 x3 x4 x5 x6 x7 x8 x9 x10 x11 x12 x13
  replace x0 := (hS.bel.cell (World.block_lt_of_cell? w _ x0)).trans x0
  replace x1 := (hS.bel.cell (World.block_lt_of_cell? w _ x1)).trans x1
  replace x2 := (hS.bel.cell (World.block_lt_of_cell? w _ x2)).trans x2
  replace x3 := (hS.bel.cell (World.block_lt_of_cell? w _ x3)).trans x3
  replace x4 := (hS.bel.cell (World.block_lt_of_cell? w _ x4)).trans x4
  replace x5 := (hS.bel.cell (World.block_lt_of_cell? w _ x5)).trans x5
  replace x6 := (hS.bel.cell (World.block_lt_of_cell? w _ x6)).trans x6
  replace x7 := (hS.bel.cell (World.block_lt_of_cell? w _ x7)).trans x7
  replace x8 := (hS.bel.cell (World.block_lt_of_cell? w _ x8)).trans x8
  replace x9 := (hS.bel.cell (World.block_lt_of_cell? w _ x9)).trans x9
  replace x10 := (hS.bel.cell (World.block_lt_of_cell? w _ x10)).trans x10
  replace x11 := (hS.bel.cell (World.block_lt_of_cell? w _ x11)).trans x11
  replace x12 := (hS.bel.cell (World.block_lt_of_cell? w _ x12)).trans x12
  replace x13 := (hS.bel.cell (World.block_lt_of_cell? w _ x13)).trans x13
  clear ho
  have HS := Aside0.mk hS
  have HC3 := Aside0.mk (And.intro hcB hC3)
  have HF := Aside0.mk (And.intro hl (And.intro hj (And.intro hL (And.intro ht hw))))
  have hu30 := Try.underlying30
  have hu32 := Try.underlying32
  have hu34 := Try.underlying34
  have b1 : decide ((j : Int) < (l.length : Int)) = true := decide_eq_true (by omega)
  have b2 : decide (j < l.length) = true := decide_eq_true hj
  have b3 : 0 ≤ (j : Int) := by omega
  have b4 : (j : Int) < (l.length : Int) := by omega
  have p0 : decide (20 < (o.f2.length : Int)) = false := decide_eq_false (by omega)
  have s0 : decide (20 < o.f2.length) = false := decide_eq_false (by omega)
  have p1 : decide (60 < (o.f1.size : Int)) = true := decide_eq_true (by omega)
  have s1 : decide (60 < o.f1.size) = true := decide_eq_true (by omega)
  clear h20 h60
  clear hS hl hj hL ht hw hr hcB hC3
  subst eA
  go_wp2_with fail
  exact hR _ _ ⟨by kernel_rfl, by rfl, below_alloc HS.out.bel _⟩
set_option maxRecDepth 1000000 in
set_option maxHeartbeats 8000000 in
theorem B1_ret2 (w wq : World) (l : List S34) (A : Option Addr) (c hb j N : Nat) (v : Value) (xs : List S67) (u : Nat → Value) (Q : Exit → Act → World → Prop)
    (hQ : ∀ a w', PE w l A c hb j a w' → Q .normal a w') (hC : ∀ a w', PE w l A c hb j a w' → Q (.exit 1) a w') (hR : ∀ a w', PR w a w' → Q .ret a w') (hP : ∀ c a N v w', Q (.panic c) (Act.put a N v) w' → Q (.panic c) a w')
    (hS : St w wq N hb v xs xs) (hl : xs.length ≤ j) (hj : j < l.length) (hL : l.length ≤ 40) (ht : tot xs ≤ 65536) (hw : WF xs) (hr : Kd.C k34 w A l.length l) (h20 : ¬ 20 < (rd_T34 l (j : Int)).f2.length) (h60 : ¬ 60 < (rd_T34 l (j : Int)).f1.size) (h50 : 50 < (rd_T34 l (j : Int)).f3.f3.size) :
    Code.wp Try.prog B1 Q ⟨#[.slice A l.length c, undef, u 2, .pointer (some ⟨hb, 0, none⟩), v, .int .i64 ((tot xs : Nat) : Int), undef, u 7, undef, u 9, u 10, u 11, u 12, u 13, undef, u 15, u 16, u 17, u 18, u 19, u 20, u 21, undef, undef, undef, undef, undef, undef, undef, undef, undef, undef, undef, .bool true, .bool false, .slice A l.length c, .int .i64 (l.length : Int), .bool false, .slice A l.length c, .int .i64 (l.length : Int), .int .i64 (j : Int), u 41, u 42, u 43, u 44, u 45, u 46, u 47, u 48, u 49, u 50, u 51, u 52, u 53, u 54, u 55, u 56, u 57, u 58, u 59, u 60, u 61, u 62, u 63, u 64, u 65, u 66, u 67, u 68, u 69, u 70, u 71, u 72, u 73, u 74, u 75, u 76, u 77, u 78, u 79, u 80, u 81, u 82, u 83, u 84, u 85, u 86, u 87, u 88, u 89, u 90, u 91, u 92, u 93, u 94, u 95, u 96, u 97, u 98, u 99, u 100, u 101, u 102, u 103, u 104, u 105, u 106, u 107, u 108, u 109, u 110, u 111, u 112, u 113, u 114, u 115, u 116, u 117, u 118, u 119, u 120, u 121, u 122, u 123, u 124, u 125, u 126, u 127, u 128, u 129, u 130, u 131, u 132, u 133, u 134, u 135, u 136, u 137, u 138, u 139, u 140, u 141, u 142, u 143, u 144, u 145, u 146, u 147, u 148, u 149, u 150, u 151, u 152, u 153, u 154, u 155, u 156, u 157, u 158, u 159, u 160, u 161, u 162, u 163, u 164, u 165, u 166, u 167, u 168, u 169, u 170, u 171, u 172, u 173, u 174, u 175, u 176, u 177, u 178, u 179, u 180, u 181, u 182, u 183, u 184, u 185, u 186, u 187, u 188, u 189, u 190, u 191, u 192, u 193, u 194, u 195, u 196, u 197, u 198, u 199, u 200, u 201, u 202, u 203, u 204, u 205, u 206, u 207, u 208, u 209, u 210, u 211, u 212, u 213, u 214, u 215, u 216, u 217, u 218, u 219, u 220, u 221, u 222, u 223, u 224, u 225, u 226, u 227, u 228, u 229, u 230, u 231, u 232, u 233, u 234, u 235, u 236, u 237, u 238, u 239, u 240, u 241, u 242, u 243, u 244, u 245, u 246, u 247, u 248, u 249, u 250, u 251, u 252, u 253, u 254, u 255, u 256, u 257, u 258, u 259, u 260, u 261, u 262, u 263, u 264, u 265, u 266, u 267, u 268, u 269, u 270, u 271, u 272, u 273, u 274, u 275, u 276, u 277, u 278, u 279, u 280, u 281, u 282, u 283, u 284, u 285, u 286, u 287, u 288, u 289, u 290, u 291, u 292, u 293, u 294, u 295, u 296, u 297, u 298, u 299, u 300, u 301, u 302, u 303, u 304, u 305, u 306, u 307, u 308, u 309, u 310, u 311, u 312, u 313, u 314, u 315, u 316, u 317, u 318, u 319, u 320, u 321, u 322, u 323, u 324, u 325, u 326, u 327, u 328, u 329, u 330, u 331, undef, undef, undef, undef, undef, undef, undef, undef, undef, undef, undef, undef, undef, undef, undef, undef, undef, undef, undef, undef, undef, undef, undef, undef, undef, undef, undef, undef, undef, undef, undef, undef, undef, undef, undef, undef, undef, undef, undef, undef, undef, undef, undef, undef, undef, undef, undef, undef, undef, undef, undef, undef, undef, undef, undef, undef, undef, undef, undef, undef, undef, undef, undef, undef, undef, undef, undef, undef, undef, undef, undef, undef, undef, undef, undef, undef, undef, undef, undef, undef, undef, undef, undef, undef, undef, undef], []⟩ wq := by
  have eB : B1 = putBlk 4 B4 B1 := by kernel_rfl
  rw [eB]
  clear eB
  conv => arg 2; arg 3; whnf
  simp only [putBlk, reduceIte, Nat.reduceEqDiff, ↓reduceIte]
  obtain ⟨ade, B, cB, eA, hcB, hC3, x0, x1, x2, x3, x4, x5, x6, x7, x8, x9, x10, x11, x12, x13⟩ := at_T34 hr (j : Int) (by omega) (by omega)
  obtain ⟨o, ho⟩ : ∃ o, o = rd_T34 l (j : Int) := ⟨_, rfl⟩
  rw [← ho] at h20 h60 h50
  rw [← ho] at x0 x1 x2 x3 x4 x5 x6 x7 x8 x9 x10 x11 x12 x13 hcB hC3
  simp only [Int.toNat_natCast] at x0 x1 x2 x3 x4 x5 x6 x7 x8 x9 x10 x11 x12 x13
  replace x0 := (hS.bel.cell (World.block_lt_of_cell? w _ x0)).trans x0
  replace x1 := (hS.bel.cell (World.block_lt_of_cell? w _ x1)).trans x1
  replace x2 := (hS.bel.cell (World.block_lt_of_cell? w _ x2)).trans x2
  replace x3 := (hS.bel.cell (World.block_lt_of_cell? w _ x3)).trans x3
  replace x4 := (hS.bel.cell (World.block_lt_of_cell? w _ x4)).trans x4
  replace x5 := (hS.bel.cell (World.block_lt_of_cell? w _ x5)).trans x5
  replace x6 := (hS.bel.cell (World.block_lt_of_cell? w _ x6)).trans x6
  replace x7 := (hS.bel.cell (World.block_lt_of_cell? w _ x7)).trans x7
  replace x8 := (hS.bel.cell (World.block_lt_of_cell? w _ x8)).trans x8
  replace x9 := (hS.bel.cell (World.block_lt_of_cell? w _ x9)).trans x9
  replace x10 := (hS.bel.cell (World.block_lt_of_cell? w _ x10)).trans x10
  replace x11 := (hS.bel.cell (World.block_lt_of_cell? w _ x11)).trans x11
  replace x12 := (hS.bel.cell (World.block_lt_of_cell? w _ x12)).trans x12
  replace x13 := (hS.bel.cell (World.block_lt_of_cell? w _ x13)).trans x13
  clear ho
  have HS := Aside0.mk hS
  have HC3 := Aside0.mk (And.intro hcB hC3)
  have HF := Aside0.mk (And.intro hl (And.intro hj (And.intro hL (And.intro ht hw))))
  have hu30 := Try.underlying30
  have hu32 := Try.underlying32
  have hu34 := Try.underlying34
  have b1 : decide ((j : Int) < (l.length : Int)) = true := decide_eq_true (by omega)
  have b2 : decide (j < l.length) = true := decide_eq_true hj
  have b3 : 0 ≤ (j : Int) := by omega
  have b4 : (j : Int) < (l.length : Int) := by omega
  have p0 : decide (20 < (o.f2.length : Int)) = false := decide_eq_false (by omega)
  have s0 : decide (20 < o.f2.length) = false := decide_eq_false (by omega)
  have p1 : decide (60 < (o.f1.size : Int)) = false := decide_eq_false (by omega)
  have s1 : decide (60 < o.f1.size) = false := decide_eq_false (by omega)
  have p2 : decide (50 < (o.f3.f3.size : Int)) = true := decide_eq_true (by omega)
  have s2 : decide (50 < o.f3.f3.size) = true := decide_eq_true (by omega)
  clear h20 h60 h50
  clear hS hl hj hL ht hw hr hcB hC3
  subst eA
  go_wp2_with fail
  exact hR _ _ ⟨by kernel_rfl, by rfl, below_alloc HS.out.bel _⟩
set_option maxRecDepth 1000000 in
set_option maxHeartbeats 8000000 in
theorem B1_ok (ha : ArmsP) (w wq : World) (l : List S34) (A : Option Addr) (c hb j N : Nat) (v : Value) (xs : List S67) (u : Nat → Value) (Q : Exit → Act → World → Prop)
    (hQ : ∀ a w', PE w l A c hb j a w' → Q .normal a w') (hC : ∀ a w', PE w l A c hb j a w' → Q (.exit 1) a w') (hR : ∀ a w', PR w a w' → Q .ret a w') (hP : ∀ c a N v w', Q (.panic c) (Act.put a N v) w' → Q (.panic c) a w')
    (hS : St w wq N hb v xs xs) (hl : xs.length ≤ j) (hj : j < l.length) (hL : l.length ≤ 40) (ht : tot xs ≤ 65536) (hw : WF xs) (hr : Kd.C k34 w A l.length l) (h20 : ¬ 20 < (rd_T34 l (j : Int)).f2.length) (h60 : ¬ 60 < (rd_T34 l (j : Int)).f1.size) (h50 : ¬ 50 < (rd_T34 l (j : Int)).f3.f3.size) :
    Code.wp Try.prog B1 Q ⟨#[.slice A l.length c, undef, u 2, .pointer (some ⟨hb, 0, none⟩), v, .int .i64 ((tot xs : Nat) : Int), undef, u 7, undef, u 9, u 10, u 11, u 12, u 13, undef, u 15, u 16, u 17, u 18, u 19, u 20, u 21, undef, undef, undef, undef, undef, undef, undef, undef, undef, undef, undef, .bool true, .bool false, .slice A l.length c, .int .i64 (l.length : Int), .bool false, .slice A l.length c, .int .i64 (l.length : Int), .int .i64 (j : Int), u 41, u 42, u 43, u 44, u 45, u 46, u 47, u 48, u 49, u 50, u 51, u 52, u 53, u 54, u 55, u 56, u 57, u 58, u 59, u 60, u 61, u 62, u 63, u 64, u 65, u 66, u 67, u 68, u 69, u 70, u 71, u 72, u 73, u 74, u 75, u 76, u 77, u 78, u 79, u 80, u 81, u 82, u 83, u 84, u 85, u 86, u 87, u 88, u 89, u 90, u 91, u 92, u 93, u 94, u 95, u 96, u 97, u 98, u 99, u 100, u 101, u 102, u 103, u 104, u 105, u 106, u 107, u 108, u 109, u 110, u 111, u 112, u 113, u 114, u 115, u 116, u 117, u 118, u 119, u 120, u 121, u 122, u 123, u 124, u 125, u 126, u 127, u 128, u 129, u 130, u 131, u 132, u 133, u 134, u 135, u 136, u 137, u 138, u 139, u 140, u 141, u 142, u 143, u 144, u 145, u 146, u 147, u 148, u 149, u 150, u 151, u 152, u 153, u 154, u 155, u 156, u 157, u 158, u 159, u 160, u 161, u 162, u 163, u 164, u 165, u 166, u 167, u 168, u 169, u 170, u 171, u 172, u 173, u 174, u 175, u 176, u 177, u 178, u 179, u 180, u 181, u 182, u 183, u 184, u 185, u 186, u 187, u 188, u 189, u 190, u 191, u 192, u 193, u 194, u 195, u 196, u 197, u 198, u 199, u 200, u 201, u 202, u 203, u 204, u 205, u 206, u 207, u 208, u 209, u 210, u 211, u 212, u 213, u 214, u 215, u 216, u 217, u 218, u 219, u 220, u 221, u 222, u 223, u 224, u 225, u 226, u 227, u 228, u 229, u 230, u 231, u 232, u 233, u 234, u 235, u 236, u 237, u 238, u 239, u 240, u 241, u 242, u 243, u 244, u 245, u 246, u 247, u 248, u 249, u 250, u 251, u 252, u 253, u 254, u 255, u 256, u 257, u 258, u 259, u 260, u 261, u 262, u 263, u 264, u 265, u 266, u 267, u 268, u 269, u 270, u 271, u 272, u 273, u 274, u 275, u 276, u 277, u 278, u 279, u 280, u 281, u 282, u 283, u 284, u 285, u 286, u 287, u 288, u 289, u 290, u 291, u 292, u 293, u 294, u 295, u 296, u 297, u 298, u 299, u 300, u 301, u 302, u 303, u 304, u 305, u 306, u 307, u 308, u 309, u 310, u 311, u 312, u 313, u 314, u 315, u 316, u 317, u 318, u 319, u 320, u 321, u 322, u 323, u 324, u 325, u 326, u 327, u 328, u 329, u 330, u 331, undef, undef, undef, undef, undef, undef, undef, undef, undef, undef, undef, undef, undef, undef, undef, undef, undef, undef, undef, undef, undef, undef, undef, undef, undef, undef, undef, undef, undef, undef, undef, undef, undef, undef, undef, undef, undef, undef, undef, undef, undef, undef, undef, undef, undef, undef, undef, undef, undef, undef, undef, undef, undef, undef, undef, undef, undef, undef, undef, undef, undef, undef, undef, undef, undef, undef, undef, undef, undef, undef, undef, undef, undef, undef, undef, undef, undef, undef, undef, undef, undef, undef, undef, undef, undef, undef], []⟩ wq := by
  have eB : B1 = putBlk 4 B4 B1 := by kernel_rfl
  rw [eB]
  clear eB
  conv => arg 2; arg 3; whnf
  simp only [putBlk, reduceIte, Nat.reduceEqDiff, ↓reduceIte]
  obtain ⟨ade, B, cB, eA, hcB, hC3, x0, x1, x2, x3, x4, x5, x6, x7, x8, x9, x10, x11, x12, x13⟩ := at_T34 hr (j : Int) (by omega) (by omega)
  obtain ⟨o, ho⟩ : ∃ o, o = rd_T34 l (j : Int) := ⟨_, rfl⟩
  rw [← ho] at h20 h60 h50
  rw [← ho] at x0 x1 x2 x3 x4 x5 x6 x7 x8 x9 x10 x11 x12 x13 hcB hC3
  simp only [Int.toNat_natCast] at x0 x1 x2 x3 x4 x5 x6 x7 x8 x9 x10 x11 x12 x13
  replace x0 := (hS.bel.cell (World.block_lt_of_cell? w _ x0)).trans x0
  replace x1 := (hS.bel.cell (World.block_lt_of_cell? w _ x1)).trans x1
  replace x2 := (hS.bel.cell (World.block_lt_of_cell? w _ x2)).trans x2
  replace x3 := (hS.bel.cell (World.block_lt_of_cell? w _ x3)).trans x3
  replace x4 := (hS.bel.cell (World.block_lt_of_cell? w _ x4)).trans x4
  replace x5 := (hS.bel.cell (World.block_lt_of_cell? w _ x5)).trans x5
  replace x6 := (hS.bel.cell (World.block_lt_of_cell? w _ x6)).trans x6
  replace x7 := (hS.bel.cell (World.block_lt_of_cell? w _ x7)).trans x7
  replace x8 := (hS.bel.cell (World.block_lt_of_cell? w _ x8)).trans x8
  replace x9 := (hS.bel.cell (World.block_lt_of_cell? w _ x9)).trans x9
  replace x10 := (hS.bel.cell (World.block_lt_of_cell? w _ x10)).trans x10
  replace x11 := (hS.bel.cell (World.block_lt_of_cell? w _ x11)).trans x11
  replace x12 := (hS.bel.cell (World.block_lt_of_cell? w _ x12)).trans x12
  replace x13 := (hS.bel.cell (World.block_lt_of_cell? w _ x13)).trans x13
  clear ho
  have HS := Aside0.mk hS
  have HC3 := Aside0.mk (And.intro hcB hC3)
  have HF := Aside0.mk (And.intro hl (And.intro hj (And.intro hL (And.intro ht hw))))
  have hu30 := Try.underlying30
  have hu32 := Try.underlying32
  have hu34 := Try.underlying34
  have b1 : decide ((j : Int) < (l.length : Int)) = true := decide_eq_true (by omega)
  have b2 : decide (j < l.length) = true := decide_eq_true hj
  have b3 : 0 ≤ (j : Int) := by omega
  have b4 : (j : Int) < (l.length : Int) := by omega
  have p0 : decide (20 < (o.f2.length : Int)) = false := decide_eq_false (by omega)
  have s0 : decide (20 < o.f2.length) = false := decide_eq_false (by omega)
  have p1 : decide (60 < (o.f1.size : Int)) = false := decide_eq_false (by omega)
  have s1 : decide (60 < o.f1.size) = false := decide_eq_false (by omega)
  have p2 : decide (50 < (o.f3.f3.size : Int)) = false := decide_eq_false (by omega)
  have s2 : decide (50 < o.f3.f3.size) = false := decide_eq_false (by omega)
  have HD := Aside0.mk (And.intro h20 h50)
  have f1 : (o.f2.length : Int) ≤ 20 := by omega
  clear h20 h60 h50
  clear hS hl hj hL ht hw hr hcB hC3
  subst eA
  go_wp2_with fail
  clear x0 x1 x2 x3 x4 x5 x6 x7 x8 x9 x10 x11 x12 x13 b1 b2 b3 b4 p0 p1 p2 s0 s1 s2
  obtain ⟨wl, hwl⟩ : ∃ wl : World, wl = wq.alloc (.cells #[.int .i64 o.f0, .string o.f1, .slice B o.f2.length cB, .int .i64 o.f3.f0, .string o.f3.f1, .int .i64 o.f3.f2, .string o.f3.f3, .int .i64 o.f4, .int .i64 o.f5.f0, .int .i64 o.f5.f1, .string o.f5.f2, .int .i64 o.f6.f0, .int .i64 o.f6.f1, .string o.f6.f2] 34) := ⟨_, rfl⟩
  have HSl := Aside0.mk (show St w wl N hb v xs xs by rw [hwl]; exact HS.out.alloc _)
  have HXl := Aside0.mk (show Bx wl wq.heap.size o B cB by rw [hwl]; exact blk_new wq _)
  have HN := Aside0.mk (show N ≤ wq.heap.size from HS.out.1)
  rw [← hwl]
  clear hwl
  obtain ⟨Av, cv, rfl, hcv⟩ := HS.out.slice
  go_loopg [64] (o.f2.length + 1) (fun kq v64 w' => ∃ (k : Nat), v64 = .int .i64 (k : Int) ∧ Aside0 (k + kq = o.f2.length + 1 ∧ k ≤ o.f2.length) ∧ Aside0 (St w w' N hb (.slice Av xs.length cv) xs xs) ∧ Aside0 (Bx w' wq.heap.size o B cB) ∧ Aside0 (∀ t ∈ o.f2.take k, t.f3.size ≤ 50))
  case atStart => exact ⟨0, rfl, ⟨by omega, by omega⟩, HSl, HXl, ⟨by simp⟩⟩
  case round =>
    clear HSl HXl
    obtain ⟨k, rfl, HK1, HSr, HXr, HZr⟩ := hrel
    by_cases hj : k < o.f2.length
    · have hjd : decide ((k : Int) < (o.f2.length : Int)) = true := decide_eq_true (by omega)
      have hjn : decide (k < o.f2.length) = true := decide_eq_true hj
      have hj0 : 0 ≤ (k : Int) := by omega
      have hj1 : (k : Int) < (o.f2.length : Int) := by omega
      obtain ⟨ade, eade, x0, x1, x2, x3⟩ := at_T30 HC3.out.2 (k : Int) hj0 hj1
      obtain ⟨t, he⟩ : ∃ t, t = rd_T30 o.f2 (k : Int) := ⟨_, rfl⟩
      have HMT := Aside0.mk (show ∀ (h : t.f3.size ≤ 50), ∀ s ∈ o.f2.take (k + 1), s.f3.size ≤ 50 from fun h s hs => by
        rw [List.take_succ_eq_append_getElem hj, List.mem_append, List.mem_singleton] at hs
        rcases hs with hs | hs
        · exact HZr.out s hs
        · rw [hs]; rw [he] at h; unfold rd_T30 at h; rw [Int.toNat_natCast, List.getD_eq_getElem?_getD, List.getElem?_eq_getElem hj] at h; exact h)
      rw [← he] at x0 x1 x2 x3
      simp only [Int.toNat_natCast] at x0 x1 x2 x3
      replace x0 := (HSr.out.bel.cell (World.block_lt_of_cell? w _ x0)).trans x0
      replace x1 := (HSr.out.bel.cell (World.block_lt_of_cell? w _ x1)).trans x1
      replace x2 := (HSr.out.bel.cell (World.block_lt_of_cell? w _ x2)).trans x2
      replace x3 := (HSr.out.bel.cell (World.block_lt_of_cell? w _ x3)).trans x3
      have HJ := Aside0.mk hj
      clear he hj
      subst eade
      obtain ⟨q0, q1, q2, q3, q4, q5, q6, q7, q8, q9, q10, q11, q12, q13⟩ := HXr.out.cells
      by_cases h5 : 50 < t.f3.size
      · have p0 : decide (50 < (t.f3.size : Int)) = true := decide_eq_true (by omega)
        have s0 : decide (50 < t.f3.size) = true := decide_eq_true h5
        clear h5
        go_wp2_with fail
        exact hR _ _ ⟨by kernel_rfl, by rfl, below_alloc HSr.out.bel _⟩
      · have p0 : decide (50 < (t.f3.size : Int)) = false := decide_eq_false (by omega)
        have s0 : decide (50 < t.f3.size) = false := decide_eq_false h5
        have HH5 := Aside0.mk h5
        clear h5
        go_wp2_with fail
        go_roundg (o.f2.length - k)
        case measure => have := HK1.out; have := HJ.out; omega
        case rel => exact ⟨k + 1, by simp, ⟨by have := HK1.out; have := HJ.out; omega, by have := HJ.out; omega⟩, ⟨HSr.out.alloc _⟩, ⟨HXr.out.alloc _⟩, ⟨HMT.out (by have := HH5.out; omega)⟩⟩
    · obtain rfl : k = o.f2.length := by have := HK1.out; omega
      have hjd : decide ((o.f2.length : Int) < (o.f2.length : Int)) = false := decide_eq_false (by omega)
      have hjn : decide (o.f2.length < o.f2.length) = false := decide_eq_false (by omega)
      have HZ := Aside0.mk (show ∀ t ∈ o.f2, t.f3.size ≤ 50 by have := HZr.out; rwa [List.take_length] at this)
      obtain ⟨q0, q1, q2, q3, q4, q5, q6, q7, q8, q9, q10, q11, q12, q13⟩ := HXr.out.cells
      clear hj
      by_cases t5 : o.f5.f0 = 5
      · have g5 : decide (o.f5.f0 = 5) = true := decide_eq_true t5
        have g6 : (o.f5.f0 == 5) = true := beq_iff_eq.mpr t5
        rw [t5] at q8
        by_cases n0 : 0 ≤ o.f5.f1
        · have g7 : decide (0 ≤ o.f5.f1) = true := decide_eq_true n0
          by_cases n1 : o.f5.f1 < (xs.length : Int)
          · have g8 : decide (o.f5.f1 < (xs.length : Int)) = true := decide_eq_true n1
            have HTH := Aside0.mk (show there o.f5 xs.length = true by unfold there; rw [g6, g7, g8]; rfl)
            clear t5 n0 n1
            go_wp2_with fail
            exact ha w _ l _ c hb j N _ _ xs o B cB _ _ (fun a w' h => hQ a w' h) (fun a w' h => hC a w' h) (fun a w' h => hR a w' h) (fun c a N v w' h => hP c a N v w' h) HXr.out HN.out HSr.out HF.out.1 (by have := HF.out; omega) HF.out.2.2.2.1 HF.out.2.2.2.2 (by have := HD.out; omega) HC3.out.2 HZ.out (by have := HD.out; omega) _ HTH.out (by kernel_rfl)
          · have g8 : decide (o.f5.f1 < (xs.length : Int)) = false := decide_eq_false n1
            have HTH := Aside0.mk (show there o.f5 xs.length = false by unfold there; rw [g6, g7, g8]; rfl)
            clear t5 n0 n1
            go_wp2_with fail
            exact ha w _ l _ c hb j N _ _ xs o B cB _ _ (fun a w' h => hQ a w' h) (fun a w' h => hC a w' h) (fun a w' h => hR a w' h) (fun c a N v w' h => hP c a N v w' h) HXr.out HN.out HSr.out HF.out.1 (by have := HF.out; omega) HF.out.2.2.2.1 HF.out.2.2.2.2 (by have := HD.out; omega) HC3.out.2 HZ.out (by have := HD.out; omega) _ HTH.out (by kernel_rfl)
        · have g7 : decide (0 ≤ o.f5.f1) = false := decide_eq_false n0
          have HTH := Aside0.mk (show there o.f5 xs.length = false by unfold there; rw [g6, g7]; rfl)
          clear t5 n0
          go_wp2_with fail
          exact ha w _ l _ c hb j N _ _ xs o B cB _ _ (fun a w' h => hQ a w' h) (fun a w' h => hC a w' h) (fun a w' h => hR a w' h) (fun c a N v w' h => hP c a N v w' h) HXr.out HN.out HSr.out HF.out.1 (by have := HF.out; omega) HF.out.2.2.2.1 HF.out.2.2.2.2 (by have := HD.out; omega) HC3.out.2 HZ.out (by have := HD.out; omega) _ HTH.out (by kernel_rfl)
      · have g5 : decide (o.f5.f0 = 5) = false := decide_eq_false t5
        have g6 : (o.f5.f0 == 5) = false := beq_false_of_ne t5
        have HTH := Aside0.mk (show there o.f5 xs.length = false by unfold there; rw [g6]; rfl)
        clear t5
        go_wp2_with fail
        exact ha w _ l _ c hb j N _ _ xs o B cB _ _ (fun a w' h => hQ a w' h) (fun a w' h => hC a w' h) (fun a w' h => hR a w' h) (fun c a N v w' h => hP c a N v w' h) HXr.out HN.out HSr.out HF.out.1 (by have := HF.out; omega) HF.out.2.2.2.1 HF.out.2.2.2.2 (by have := HD.out; omega) HC3.out.2 HZ.out (by have := HD.out; omega) _ HTH.out (by kernel_rfl)
end Go.Proofs.Ytlfkmignkilplaa.PHeapPlays
