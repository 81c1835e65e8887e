/- (*Graph).Far: what it answers. No condition but that the graph is one, its edges lie in it and each way back ends. -/
import Derived.Test.YtlkmkoajfdmbeaaGh
namespace Go.Proofs.Ytlkmkoajfdmbeaa.PGraphWithout
open Go.RowKit Go.Proofs.YtlkmkoajfdmbeaaW.PrintWords Go.Proofs.YtlkmkoajfdmbeaaW.PrintLast Go.Proofs.YtlkmkoajfdmbeaaW.PrintMore
open Go.Maps Go.MapKept Go.ChangeShapes
set_option linter.unusedVariables false
set_option linter.unusedSimpArgs false

def farV (L : Nat → Nat) (i : Nat) : Int := if L i = 0 then -1 else (L i : Int)
theorem far_set (f : Nat → Int) (j n : Nat) (hj : j < n) (x : Int) (hx : x = f j) : ((List.range j).map f ++ List.replicate (n - j) 0).set ((j : Int)).toNat x = (List.range (j + 1)).map f ++ List.replicate (n - (j + 1)) 0 := by
  subst hx
  apply List.ext_getElem?
  intro i
  simp only [Int.toNat_natCast, List.getElem?_set, List.getElem?_append, List.length_append, List.length_map, List.length_range, List.length_replicate, List.getElem?_replicate, List.getElem?_map]
  by_cases h : i < j
  · rw [if_neg (by omega), if_pos h, if_pos (by omega), List.getElem?_range h, List.getElem?_range (by omega)]
  · by_cases h2 : i = j
    · subst h2
      simp
      omega
    · by_cases h3 : i < n
      · rw [if_neg (by omega), if_neg h, if_pos (by omega), if_neg (by omega), if_pos (by omega)]
      · rw [if_neg (by omega), if_neg h, if_neg (by omega), if_neg (by omega), if_neg (by omega)]
theorem far_set2 (f : Nat → Int) (j n : Nat) (hj : j < n) (x y : Int) (hy : y = f j) : (((List.range j).map f ++ List.replicate (n - j) 0).set ((j : Int)).toNat x).set ((j : Int)).toNat y = (List.range (j + 1)).map f ++ List.replicate (n - (j + 1)) 0 := by
  rw [List.set_set]
  exact far_set f j n hj y hy
set_option maxRecDepth 100000 in
set_option maxHeartbeats 4000000 in
theorem far_any (g n : Nat) (es : List S29) (L : Nat → Nat) (w : World) (base : Nat) (ok : Nat → Prop) (h : Gr w base ok g (n : Int) es) (hk : Gok n es)
    (hval : ∀ i : Int, 0 ≤ i → i < n → rd (walkF n es (fun _ => false) (-1)) i < es.length)
    (hp : ∀ i, i < n → ∃ (K : Nat) (r : List S29), K ≤ 100000 ∧ pathL es (walkF n es (fun _ => false) (-1)) K (i : Int) [] = some r ∧ r.length = L i ∧ L i ≤ 100000) :
    Calls Try.prog 22 #[.pointer (some ⟨g, 0, none⟩)] w fun e w' => ∃ v, e = .returned v ∧ Kd.R (Kd.int .i64) 3 w' w.heap.size (fun _ => True) v ((List.range n).map (farV L)) ∧ Below w.heap.size w w' := by
  have HG := Aside0.mk h
  obtain ⟨v, b, D, hg, _, _, hR, _⟩ := h
  have hc0 : w.cell? ⟨g, 0, none⟩ = some (.int .i64 n) := (blk_cell hg 0).trans rfl
  have hmk := print_make (P := Try.prog) 43 3 .i64 8 Try.underlying43 info3 (by decide) n (by have := hk.nodes; omega)
  have HK := Aside0.mk hk; have HV := Aside0.mk hval; have HP := Aside0.mk hp
  have hn := hk.nodes
  clear hg hk hval hp hR
  have hu56 := Try.underlying56
  have HB1 := Aside0.mk (below_alloc (Below.refl w.heap.size w) (.cells (madeCells #[.int .i64 0] n) 3))
  have HY1 := Aside0.mk (show Kd.R (Kd.int .i64) 3 (w.alloc (.cells (madeCells #[.int .i64 0] n) 3)) w.heap.size (fun _ => True) (.slice (some ⟨w.heap.size, 0, none⟩) n n) (List.replicate n 0) from
    Kd.R_of_own (own_made' w w.heap.size 3 .i64 n (Nat.le_refl _) (by omega)) (fun k hk => trivial))
  go_enter Try.func22, Try.ntmps22
  go_wp2
  generalize (w.alloc (.cells (madeCells #[.int .i64 0] n) 3)) = w1 at HB1 HY1 ⊢
  go_loopg [12] (n + 1) (fun kq v12 w' => ∃ j : Nat, v12 = .int .i64 (j : Int) ∧ Aside0 (j + kq = n + 1 ∧ j ≤ n) ∧ Aside0 (Kd.R (Kd.int .i64) 3 w' w.heap.size (fun _ => True) (.slice (some ⟨w.heap.size, 0, none⟩) n n) ((List.range j).map (farV L) ++ List.replicate (n - j) 0)) ∧ Aside0 (Below w.heap.size w w'))
  case atStart => exact ⟨0, rfl, ⟨by omega, by omega⟩, ⟨by simpa using HY1.out⟩, HB1⟩
  case round =>
    clear HY1 HB1
    obtain ⟨j, rfl, HK1, HY, HB⟩ := hrel
    clear hc0
    by_cases hj : j < n
    · have hjd : decide ((j : Int) < (n : Int)) = true := decide_eq_true (by omega)
      have hj0 : 0 ≤ (j : Int) := by omega
      have hj1 : (j : Int) < (n : Int) := by omega
      obtain ⟨K, r, hK, hr, hrl, hrb⟩ := HP.out j hj
      have HR := Aside0.mk (And.intro hK hr)
      have hrv : r.reverse.length = L j := by rw [List.length_reverse]; exact hrl
      have HRV := Aside0.mk hrv
      have HRB := Aside0.mk hrb
      clear hK hr hrl hrv hrb
      have HJ := Aside0.mk hj
      clear hj
      by_cases hl0 : L j = 0
      · have e1 : ((L j : Int) == 0) = true := by simpa using hl0
        have HF := Aside0.mk (show farV L j = -1 from if_pos hl0)
        clear hl0
        go_wp2_with (first
          | (go_at_call 21; refine (path_any g n es (j : Int) K r wr base ok (Gr.below HG.out HB.out) HK.out hj0 hj1 HR.out.1 HV.out HR.out.2).mono ?_; rintro e w2 ⟨v2, rfl, hv2, hb2⟩; obtain ⟨A2, c2, rfl, _, _⟩ := Kd.R_reads hv2; simp only [HRV.out]; have HY2 := Aside0.mk (Kd.R_below HY.out hb2); have HB2 := Aside0.mk (below_then HB.out HB.out.size hb2); clear hv2 hb2; obtain ⟨hx, hf⟩ := Kd.R_celln (0 : Int) HY2.out (j : Int) hj0 hj1; simp only [Int.toNat_natCast] at hx hf))
        have HY3 := Aside0.mk (Kd.R_putg (Kd.R_putg HY2.out (j : Int) (L j : Int)).1 (j : Int) (-1)).1
        rw [far_set2 (farV L) j n HJ.out _ _ HF.out.symm] at HY3
        have HB3 := Aside0.mk (below_set (below_set HB2.out (Nat.le_refl _) : Below w.heap.size w (w2.setCell ⟨w.heap.size, (j : Int).toNat, none⟩ (.int .i64 (L j : Int)))) (Nat.le_refl _) : Below w.heap.size w ((w2.setCell ⟨w.heap.size, (j : Int).toNat, none⟩ (.int .i64 (L j : Int))).setCell ⟨w.heap.size, (j : Int).toNat, none⟩ (.int .i64 (-1))))
        simp only [Int.toNat_natCast] at HY3 HB3
        go_roundg (n - j)
        case measure => have := HK1.out; omega
        case rel => exact ⟨j + 1, by go_num, ⟨by have := HK1.out; omega, by have := HJ.out; omega⟩, HY3, HB3⟩
      · have e1 : ((L j : Int) == 0) = false := by simpa using hl0
        have HF := Aside0.mk (show farV L j = (L j : Int) from if_neg hl0)
        clear hl0
        go_wp2_with (first
          | (go_at_call 21; refine (path_any g n es (j : Int) K r wr base ok (Gr.below HG.out HB.out) HK.out hj0 hj1 HR.out.1 HV.out HR.out.2).mono ?_; rintro e w2 ⟨v2, rfl, hv2, hb2⟩; obtain ⟨A2, c2, rfl, _, _⟩ := Kd.R_reads hv2; simp only [HRV.out]; have HY2 := Aside0.mk (Kd.R_below HY.out hb2); have HB2 := Aside0.mk (below_then HB.out HB.out.size hb2); clear hv2 hb2; obtain ⟨hx, hf⟩ := Kd.R_celln (0 : Int) HY2.out (j : Int) hj0 hj1; simp only [Int.toNat_natCast] at hx hf))
        have HY3 := Aside0.mk (Kd.R_putg HY2.out (j : Int) (L j : Int)).1
        rw [far_set (farV L) j n HJ.out _ HF.out.symm] at HY3
        have HB3 := Aside0.mk (below_set HB2.out (Nat.le_refl _) : Below w.heap.size w (w2.setCell ⟨w.heap.size, (j : Int).toNat, none⟩ (.int .i64 (L j : Int))))
        simp only [Int.toNat_natCast] at HY3 HB3
        go_roundg (n - j)
        case measure => have := HK1.out; omega
        case rel => exact ⟨j + 1, by go_num, ⟨by have := HK1.out; omega, by have := HJ.out; omega⟩, HY3, HB3⟩
    · obtain rfl : n = j := by have := HK1.out; omega
      have hjd : decide ((n : Int) < (n : Int)) = false := decide_eq_false (by omega)
      clear hj
      have HE := Aside0.mk (show Kd.R (Kd.int .i64) 3 wr w.heap.size (fun _ => True) (.slice (some ⟨w.heap.size, 0, none⟩) n n) ((List.range n).map (farV L)) by have := HY.out; simpa using this)
      go_wp2
      go_ret
      exact ⟨_, rfl, HE.out, HB.out⟩
end Go.Proofs.Ytlkmkoajfdmbeaa.PGraphWithout
