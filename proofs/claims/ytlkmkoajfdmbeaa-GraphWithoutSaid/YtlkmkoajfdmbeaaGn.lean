/- The document's Far: what it computes. No condition but that the edges lie in the graph. -/
import Derived.Test.YtlkmkoajfdmbeaaGm
namespace Go.Proofs.Ytlkmkoajfdmbeaa.PGraphWithout
open Go.RowKit Go.Proofs.YtlkmkoajfdmbeaaW.PrintWords Go.Proofs.YtlkmkoajfdmbeaaW.PrintLast Go.Proofs.YtlkmkoajfdmbeaaW.PrintMore
open Go.Maps Go.MapKept Go.ChangeShapes
set_option linter.unusedVariables false
set_option linter.unusedSimpArgs false

/-- One edge. -/
def fstep (s : List Int × Bool) (e : S41) : List Int × Bool :=
  if 0 ≤ (if 0 ≤ e.f0 then rd s.1 e.f0 else 0) ∧ (rd s.1 e.f1 < 0 ∨ (if 0 ≤ e.f0 then rd s.1 e.f0 else 0) + 1 < rd s.1 e.f1) then (s.1.set e.f1.toNat ((if 0 ≤ e.f0 then rd s.1 e.f0 else 0) + 1), true) else s
def farL (es : List S41) : Nat → List Int → Option (List Int)
  | 0, _ => none
  | k + 1, x => if (es.foldl fstep (x, false)).2 = true then farL es k (es.foldl fstep (x, false)).1 else some (es.foldl fstep (x, false)).1
def Inn41 (n : Nat) (es : List S41) : Prop := ∀ e ∈ es, -1 ≤ e.f0 ∧ e.f0 < n ∧ 0 ≤ e.f1 ∧ e.f1 < n
theorem Inn.to41 {n : Nat} {es : List S29} (h : Inn n es) : Inn41 n (es.map to41) := by
  intro e he
  obtain ⟨y, hy, rfl⟩ := List.mem_map.1 he
  exact h y hy
theorem rd_set (x : List Int) (i j v : Int) (hi : 0 ≤ i) (hj : 0 ≤ j) (hl : j < x.length) : rd (x.set j.toNat v) i = if i = j then v else rd x i := by
  unfold rd
  rw [List.getD_eq_getElem?_getD, List.getElem?_set]
  by_cases h : i = j
  · subst h
    rw [if_pos rfl, if_pos (by omega), if_pos rfl]
    rfl
  · rw [if_neg (by omega), if_neg h, ← List.getD_eq_getElem?_getD]
theorem rd_neg (x : List Int) (i : Int) (h : i < 0) : rd x i = rd x 0 := by
  unfold rd
  rw [show i.toNat = (0 : Int).toNat by omega]
theorem fstep_le {s : List Int × Bool} {e : S41} {M : Int} (h0 : 0 ≤ M) (h : ∀ i, 0 ≤ i → rd s.1 i ≤ M) (h1 : 0 ≤ e.f1) (h2 : e.f1 < s.1.length) : ∀ i, 0 ≤ i → rd (fstep s e).1 i ≤ M + 1 := by
  intro i hi
  have hm : (if 0 ≤ e.f0 then rd s.1 e.f0 else 0) ≤ M := by
    by_cases hf : 0 ≤ e.f0
    · rw [if_pos hf]; exact h _ hf
    · rw [if_neg hf]; exact h0
  unfold fstep
  generalize (if 0 ≤ e.f0 then rd s.1 e.f0 else 0) = m at hm ⊢
  have hi2 := h i hi
  by_cases hc : 0 ≤ m ∧ (rd s.1 e.f1 < 0 ∨ m + 1 < rd s.1 e.f1)
  · rw [if_pos hc]
    show rd (s.1.set e.f1.toNat (m + 1)) i ≤ M + 1
    rw [rd_set _ _ _ _ hi h1 h2]
    split <;> omega
  · rw [if_neg hc]
    omega
theorem fstep_len (s : List Int × Bool) (e : S41) : (fstep s e).1.length = s.1.length := by
  unfold fstep
  generalize (if 0 ≤ e.f0 then rd s.1 e.f0 else 0) = m
  by_cases hc : 0 ≤ m ∧ (rd s.1 e.f1 < 0 ∨ m + 1 < rd s.1 e.f1)
  · rw [if_pos hc]
    exact List.length_set
  · rw [if_neg hc]
set_option maxRecDepth 100000 in
set_option maxHeartbeats 8000000 in
theorem rfar_any (n : Nat) (es : List S41) (K : Nat) (r : List Int) (A : Option Addr) (c : Nat) (w : World) (hn : n ≤ 8192) (hes : Inn41 n es) (hl : es.length ≤ 200) (hK : K ≤ 1000000) (hC : Kd.C k41 w A es.length es)
    (hr : farL es K (List.replicate n (-1)) = some r) :
    Calls Try.prog 23 #[.int .i64 (n : Int), .slice A es.length c] w fun e w' => ∃ v, e = .returned v ∧ Kd.R (Kd.int .i64) 3 w' w.heap.size (fun _ => True) v r ∧ Below w.heap.size w w' := by
  have hmk := print_make (P := Try.prog) 43 3 .i64 8 Try.underlying43 info3 (by decide) n (by omega)
  have HN := Aside0.mk hn; have HE := Aside0.mk hes; have HL := Aside0.mk hl; have HKK := Aside0.mk hK; have HC := Aside0.mk hC; have HR := Aside0.mk hr
  clear hes hK hC hr
  have HB1 := Aside0.mk (below_alloc (Below.refl w.heap.size w) (.cells (madeCells #[.int .i64 0] n) 3))
  have HY1 := Aside0.mk (show Kd.R (Kd.int .i64) 3 (w.alloc (.cells (madeCells #[.int .i64 0] n) 3)) w.heap.size (fun _ => True) (.slice (some ⟨w.heap.size, 0, none⟩) n n) (List.replicate n 0) from
    Kd.R_of_own (own_made' w w.heap.size 3 .i64 n (Nat.le_refl _) (by omega)) (fun k hk => trivial))
  go_enter Try.func23, Try.ntmps23
  go_wp2
  generalize (w.alloc (.cells (madeCells #[.int .i64 0] n) 3)) = w1 at HB1 HY1 ⊢
  go_loopg [6] (n + 1) (fun kq v6 w' => ∃ j : Nat, v6 = .int .i64 (j : Int) ∧ Aside0 (j + kq = n + 1 ∧ j ≤ n) ∧ Aside0 (Kd.R (Kd.int .i64) 3 w' w.heap.size (fun _ => True) (.slice (some ⟨w.heap.size, 0, none⟩) n n) (List.replicate j (-1) ++ List.replicate (n - j) 0)) ∧ Aside0 (Below w.heap.size w w'))
  case atStart => exact ⟨0, rfl, ⟨by omega, by omega⟩, ⟨by simpa using HY1.out⟩, HB1⟩
  case round =>
    clear HY1 HB1
    obtain ⟨j, rfl, HK1, HY, HB⟩ := hrel
    by_cases hj : j < n
    · have hjd : decide ((j : Int) < (n : Int)) = true := decide_eq_true (by omega)
      have hj0 : 0 ≤ (j : Int) := by omega
      have hj1 : (j : Int) < (n : Int) := by omega
      obtain ⟨hx, hf⟩ := Kd.R_celln (0 : Int) HY.out (j : Int) hj0 hj1
      have HY2 := Aside0.mk (Kd.R_putg HY.out (j : Int) (-1)).1
      rw [made_neg j n hj] at HY2
      have HB2 := Aside0.mk (below_set HB.out (Nat.le_refl _) : Below w.heap.size w (wr.setCell ⟨w.heap.size, (j : Int).toNat, none⟩ (.int .i64 (-1))))
      simp only [Int.toNat_natCast] at hx hf HY2 HB2
      go_wp2
      go_roundg (n - j)
      case measure => have := HK1.out; omega
      case rel => exact ⟨j + 1, by go_num, ⟨by have := HK1.out; omega, by omega⟩, HY2, HB2⟩
    · obtain rfl : n = j := by have := HK1.out; omega
      have hjd : decide ((n : Int) < (n : Int)) = false := decide_eq_false (by omega)
      clear hj
      have HY3 := Aside0.mk (show Kd.R (Kd.int .i64) 3 wr w.heap.size (fun _ => True) (.slice (some ⟨w.heap.size, 0, none⟩) n n) (List.replicate n (-1)) by have := HY.out; simpa using this)
      have HB3 := HB
      go_wp2
      clear HY HB HK1 hmk
      go_loopg [7] (K + 1) (fun kq v7 w' => ∃ (x : List Int) (M : Nat), Aside0 ((v7 = .bool true ∧ 1 ≤ kq ∧ farL es (kq - 1) x = some r) ∨ (v7 = .bool false ∧ 1 ≤ kq ∧ x = r)) ∧ Aside0 (x.length = n) ∧ Aside0 (M + (kq - 1) * 200 ≤ K * 200) ∧ Aside0 (∀ i : Int, 0 ≤ i → rd x i ≤ M) ∧ Aside0 (Kd.R (Kd.int .i64) 3 w' w.heap.size (fun _ => True) (.slice (some ⟨w.heap.size, 0, none⟩) n n) x) ∧ Aside0 (Below w.heap.size w w'))
      case atStart => exact ⟨_, 0, ⟨.inl ⟨rfl, by omega, HR.out⟩⟩, ⟨by simp⟩, ⟨by omega⟩, ⟨fun i hi => by unfold rd; rw [List.getD_eq_getElem?_getD, List.getElem?_replicate]; split <;> simp⟩, HY3, HB3⟩
      case round =>
        clear HR HY3 HB3
        obtain ⟨x, M, HA, HXL, HM, HMX, HY, HB⟩ := hrel
        rcases HA.out with ⟨rfl, hk1, hA⟩ | ⟨rfl, hk1, rfl⟩
        · obtain ⟨k1, rfl⟩ : ∃ k, gk = k + 2 := by
            match gk, hk1, hA with
            | 1, _, hA => simp [farL] at hA
            | k + 2, _, _ => exact ⟨k, rfl⟩
          have HA2 := Aside0.mk hA
          clear HA hk1 hA
          rw [show k1 + 2 - 1 = k1 + 1 from rfl] at HA2 HM
          have HMB := Aside0.mk (show M + (k1 + 1) * 200 ≤ 200000000 by have := HM.out; have := HKK.out; omega)
          go_wp2
          obtain ⟨wo, rfl⟩ : ∃ wo : World, wo = wr := ⟨_, rfl⟩
          go_loopg [8, 7] (es.length + 1) (fun kq v8 v7 w' => ∃ (j : Nat) (s : List Int × Bool) (M2 : Nat), v8 = .int .i64 (j : Int) ∧ v7 = .bool s.2 ∧ Aside0 (j + kq = es.length + 1 ∧ j ≤ es.length) ∧ Aside0 ((es.drop j).foldl fstep s = es.foldl fstep (x, false)) ∧ Aside0 (s.1.length = n) ∧ Aside0 (M2 ≤ M + j) ∧ Aside0 (∀ i : Int, 0 ≤ i → rd s.1 i ≤ M2) ∧ Aside0 (Kd.R (Kd.int .i64) 3 w' w.heap.size (fun _ => True) (.slice (some ⟨w.heap.size, 0, none⟩) n n) s.1) ∧ Aside0 (Below w.heap.size w w'))
          case atStart => exact ⟨0, (x, false), M, rfl, rfl, ⟨by omega, by omega⟩, ⟨rfl⟩, HXL, ⟨by omega⟩, HMX, HY, HB⟩
          case round =>
            clear HY HB HMX HXL
            obtain ⟨j, s, M2, rfl, rfl, HK1, HF, HXL, HM2, HMX, HY, HB⟩ := hrel
            by_cases hj : j < es.length
            · have hjd : decide ((j : Int) < (es.length : Int)) = true := decide_eq_true (by omega)
              have hj0 : 0 ≤ (j : Int) := by omega
              have hj1 : (j : Int) < (es.length : Int) := by omega
              obtain ⟨ade, eade, x0, x1, _, _⟩ := at_T41 HC.out (j : Int) hj0 hj1
              obtain ⟨e, he⟩ : ∃ e, e = rd_T41 es (j : Int) := ⟨_, rfl⟩
              have hem : e = es[j] := by rw [he]; simp [rd_T41, List.getD_eq_getElem?_getD, List.getElem?_eq_getElem hj]
              have hd : es.drop j = e :: es.drop (j + 1) := by rw [List.drop_eq_getElem_cons hj, hem]
              have hin := HE.out e (by rw [hem]; exact List.getElem_mem hj)
              rw [← he] at x0 x1
              rw [hd, List.foldl_cons] at HF
              clear he hd hem
              have HLE := Aside0.mk (fstep_le (s := s) (e := e) (M := M2) (by omega) HMX.out hin.2.2.1 (by have := HXL.out; omega))
              have HLN := Aside0.mk ((fstep_len s e).trans HXL.out)
              obtain ⟨fr, tz, wy, at_⟩ := e
              simp only at x0 x1 hin
              simp only [Int.toNat_natCast] at x0 x1
              replace x0 := (HB.out.cell (World.block_lt_of_cell? w _ x0)).trans x0
              replace x1 := (HB.out.cell (World.block_lt_of_cell? w _ x1)).trans x1
              subst eade
              have HJ := Aside0.mk hj
              clear hj
              have ht0 : 0 ≤ tz := hin.2.2.1
              have ht1 : tz < (n : Int) := hin.2.2.2
              obtain ⟨y1, f1⟩ := Kd.R_celln (0 : Int) HY.out tz ht0 ht1
              obtain ⟨z, hz⟩ : ∃ z, z = rd s.1 tz := ⟨_, rfl⟩
              replace y1 : wr.cell? ⟨w.heap.size, tz.toNat, none⟩ = some (.int .i64 z) := by rw [hz]; exact y1
              have HZ := Aside0.mk hz
              clear hz
              by_cases hf : 0 ≤ fr
              · have e0 : decide (0 ≤ fr) = true := decide_eq_true hf
                have hf1 : fr < (n : Int) := hin.2.1
                obtain ⟨y2, _⟩ := Kd.R_celln (0 : Int) HY.out fr hf hf1
                obtain ⟨m, hm⟩ : ∃ m, m = rd s.1 fr := ⟨_, rfl⟩
                replace y2 : wr.cell? ⟨w.heap.size, fr.toNat, none⟩ = some (.int .i64 m) := by rw [hm]; exact y2
                have hmb := HMX.out fr hf
                rw [← hm] at hmb
                have HS := Aside0.mk (show fstep s ⟨fr, tz, wy, at_⟩ = if 0 ≤ m ∧ (z < 0 ∨ m + 1 < z) then (s.1.set tz.toNat (m + 1), true) else s by unfold fstep; simp only; rw [if_pos hf, ← hm, ← HZ.out])
                clear hm hin
                by_cases hm0 : 0 ≤ m
                · have e1 : decide (0 ≤ m) = true := decide_eq_true hm0
                  have hmu : m ≤ 1000000000 := by have h1 := HMB.out; have h2 := HM2.out; have h3 := HJ.out; omega
                  by_cases hz0 : z < 0
                  · have HST := Aside0.mk (HS.out.trans (if_pos ⟨hm0, .inl hz0⟩))
                    have e2 : decide (z < 0) = true := decide_eq_true hz0
                    clear hz0 hmb
                    have HY2 := Aside0.mk (Kd.R_putg HY.out tz (m + 1)).1
                    have HB2 := Aside0.mk (below_set HB.out (Nat.le_refl _) : Below w.heap.size w (wr.setCell ⟨w.heap.size, tz.toNat, none⟩ (.int .i64 (m + 1))))
                    rw [HST.out] at HF HLE HLN
                    go_wp2
                    go_roundg (es.length - j)
                    case measure => have := HK1.out; have := HJ.out; omega
                    case rel => exact ⟨j + 1, _, M2 + 1, by go_num, rfl, ⟨by have := HK1.out; have := HJ.out; omega, by have := HJ.out; omega⟩, HF, HLN, ⟨by have := HM2.out; omega⟩, ⟨fun i hi => by rw [Int.natCast_succ]; exact HLE.out i hi⟩, HY2, HB2⟩
                  · have e2 : decide (z < 0) = false := decide_eq_false hz0
                    by_cases hz1 : m + 1 < z
                    · have HST := Aside0.mk (HS.out.trans (if_pos ⟨hm0, .inr hz1⟩))
                      have e3 : decide (m + 1 < z) = true := decide_eq_true hz1
                      clear hz0 hz1 hmb
                      have HY2 := Aside0.mk (Kd.R_putg HY.out tz (m + 1)).1
                      have HB2 := Aside0.mk (below_set HB.out (Nat.le_refl _) : Below w.heap.size w (wr.setCell ⟨w.heap.size, tz.toNat, none⟩ (.int .i64 (m + 1))))
                      rw [HST.out] at HF HLE HLN
                      go_wp2
                      go_roundg (es.length - j)
                      case measure => have := HK1.out; have := HJ.out; omega
                      case rel => exact ⟨j + 1, _, M2 + 1, by go_num, rfl, ⟨by have := HK1.out; have := HJ.out; omega, by have := HJ.out; omega⟩, HF, HLN, ⟨by have := HM2.out; omega⟩, ⟨fun i hi => by rw [Int.natCast_succ]; exact HLE.out i hi⟩, HY2, HB2⟩
                    · have HST := Aside0.mk (HS.out.trans (if_neg (fun h => h.2.elim hz0 hz1)))
                      have e3 : decide (m + 1 < z) = false := decide_eq_false hz1
                      clear hz0 hz1 hmb
                      rw [HST.out] at HF
                      go_wp2
                      go_roundg (es.length - j)
                      case measure => have := HK1.out; have := HJ.out; omega
                      case rel => exact ⟨j + 1, s, M2, by go_num, rfl, ⟨by have := HK1.out; have := HJ.out; omega, by have := HJ.out; omega⟩, HF, HXL, ⟨by have := HM2.out; omega⟩, HMX, HY, HB⟩
                · have HST := Aside0.mk (HS.out.trans (if_neg (fun h => hm0 h.1)))
                  have e1 : decide (0 ≤ m) = false := decide_eq_false hm0
                  clear hm0 hmb
                  rw [HST.out] at HF
                  go_wp2
                  go_roundg (es.length - j)
                  case measure => have := HK1.out; have := HJ.out; omega
                  case rel => exact ⟨j + 1, s, M2, by go_num, rfl, ⟨by have := HK1.out; have := HJ.out; omega, by have := HJ.out; omega⟩, HF, HXL, ⟨by have := HM2.out; omega⟩, HMX, HY, HB⟩
              · have e0 : decide (0 ≤ fr) = false := decide_eq_false hf
                obtain ⟨m, hm⟩ : ∃ m : Int, m = 0 := ⟨_, rfl⟩
                have hmb : m ≤ (M2 : Int) := by omega
                have HS := Aside0.mk (show fstep s ⟨fr, tz, wy, at_⟩ = if 0 ≤ (0 : Int) ∧ (z < 0 ∨ (0 : Int) + 1 < z) then (s.1.set tz.toNat ((0 : Int) + 1), true) else s by unfold fstep; simp only; rw [if_neg hf, ← HZ.out])
                clear hm hin hf hmb m
                by_cases hz0 : z < 0
                · have HST := Aside0.mk (HS.out.trans (if_pos ⟨by decide, .inl hz0⟩))
                  have e2 : decide (z < 0) = true := decide_eq_true hz0
                  clear hz0
                  have HY2 := Aside0.mk (Kd.R_putg HY.out tz ((0 : Int) + 1)).1
                  have HB2 := Aside0.mk (below_set HB.out (Nat.le_refl _) : Below w.heap.size w (wr.setCell ⟨w.heap.size, tz.toNat, none⟩ (.int .i64 ((0 : Int) + 1))))
                  rw [HST.out] at HF HLE HLN
                  go_wp2
                  go_roundg (es.length - j)
                  case measure => have := HK1.out; have := HJ.out; omega
                  case rel => exact ⟨j + 1, _, M2 + 1, by go_num, rfl, ⟨by have := HK1.out; have := HJ.out; omega, by have := HJ.out; omega⟩, HF, HLN, ⟨by have := HM2.out; omega⟩, ⟨fun i hi => by rw [Int.natCast_succ]; exact HLE.out i hi⟩, HY2, HB2⟩
                · have e2 : decide (z < 0) = false := decide_eq_false hz0
                  by_cases hz1 : 1 < z
                  · have HST := Aside0.mk (HS.out.trans (if_pos ⟨by decide, .inr (by omega)⟩))
                    have e3 : decide (1 < z) = true := decide_eq_true hz1
                    clear hz0 hz1
                    have HY2 := Aside0.mk (Kd.R_putg HY.out tz ((0 : Int) + 1)).1
                    have HB2 := Aside0.mk (below_set HB.out (Nat.le_refl _) : Below w.heap.size w (wr.setCell ⟨w.heap.size, tz.toNat, none⟩ (.int .i64 ((0 : Int) + 1))))
                    rw [HST.out] at HF HLE HLN
                    go_wp2
                    go_roundg (es.length - j)
                    case measure => have := HK1.out; have := HJ.out; omega
                    case rel => exact ⟨j + 1, _, M2 + 1, by go_num, rfl, ⟨by have := HK1.out; have := HJ.out; omega, by have := HJ.out; omega⟩, HF, HLN, ⟨by have := HM2.out; omega⟩, ⟨fun i hi => by rw [Int.natCast_succ]; exact HLE.out i hi⟩, HY2, HB2⟩
                  · have HST := Aside0.mk (HS.out.trans (if_neg (fun h => h.2.elim hz0 (by omega))))
                    have e3 : decide (1 < z) = false := decide_eq_false hz1
                    clear hz0 hz1
                    rw [HST.out] at HF
                    go_wp2
                    go_roundg (es.length - j)
                    case measure => have := HK1.out; have := HJ.out; omega
                    case rel => exact ⟨j + 1, s, M2, by go_num, rfl, ⟨by have := HK1.out; have := HJ.out; omega, by have := HJ.out; omega⟩, HF, HXL, ⟨by have := HM2.out; omega⟩, HMX, HY, HB⟩
            · obtain rfl : j = es.length := by have := HK1.out; omega
              have hjd : decide ((es.length : Int) < (es.length : Int)) = false := decide_eq_false (by omega)
              clear hj
              rw [List.drop_length, List.foldl_nil] at HF
              have hA := HA2.out
              rw [farL, ← HF.out] at hA
              go_wp2
              go_roundg (k1 + 1)
              case measure => omega
              case rel =>
                refine ⟨s.1, M2, ?_, HXL, ⟨by have := HM.out; have := HM2.out; rw [Nat.add_sub_cancel]; omega⟩, HMX, HY, HB⟩
                cases hs2 : s.2 with
                | true =>
                  rw [hs2, if_pos rfl] at hA
                  exact ⟨.inl ⟨rfl, by omega, hA⟩⟩
                | false =>
                  rw [hs2, if_neg (by decide)] at hA
                  exact ⟨.inr ⟨rfl, by omega, Option.some.inj hA⟩⟩
        · go_wp2
          go_ret
          exact ⟨_, rfl, HY.out, HB.out⟩
end Go.Proofs.Ytlkmkoajfdmbeaa.PGraphWithout
