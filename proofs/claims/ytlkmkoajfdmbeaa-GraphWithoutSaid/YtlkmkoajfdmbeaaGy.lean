/- The law GraphLeast, walked: it returns true. No condition but that the slices are read. -/
import Derived.Test.YtlkmkoajfdmbeaaGx
import Derived.BigQuiet
namespace Go.Proofs.Ytlkmkoajfdmbeaa.PGraphWithout
open Go.RowKit Go.Proofs.YtlkmkoajfdmbeaaW.PrintWords Go.Proofs.YtlkmkoajfdmbeaaW.PrintLast Go.Proofs.YtlkmkoajfdmbeaaW.PrintMore
open Go.Maps Go.MapKept Go.ChangeShapes
set_option linter.unusedVariables false
set_option linter.unusedSimpArgs false

theorem right_law (g m : Nat) (es : List S29) (A : Option Addr) (c : Nat) (s : List Bool) (w : World) (base : Nat) (ok : Nat → Prop) (h : Gr w base ok g (m : Int) es) (hk : Gok m es) (hr : Kd.C Kd.bool w A s.length s) :
    Calls Try.prog 16 #[.pointer (some ⟨g, 0, none⟩), .slice A s.length c] w fun e w' => e = .returned (.bool (decide (s.length = m) && !es.any (brk s))) ∧ Below w.heap.size w w' := by
  by_cases hs : s.length = m
  · rw [decide_eq_true hs, Bool.true_and]
    have := right_any g m es A c s w base ok h hk hs hr
    rw [hs]
    exact this
  · rw [decide_eq_false hs, Bool.false_and]
    exact right_len g m es A c s w base ok h hs
theorem right_none (g m : Nat) (es : List S29) (w : World) (base : Nat) (ok : Nat → Prop) (h : Gr w base ok g (m : Int) es) (hk : Gok m es) (b : Bool) (hb : ((m : Int) == 0) = b) :
    Calls Try.prog 16 #[.pointer (some ⟨g, 0, none⟩), .slice none 0 0] w fun e w' => e = .returned (.bool b) ∧ Below w.heap.size w w' := by
  have h1 := right_law g m es none 0 [] w base ok h hk ⟨rfl, by simp, fun h => by simp at h⟩
  have h2 : (decide (([] : List Bool).length = m) && !es.any (brk [])) = b := by
    rw [← hb]
    cases m with
    | zero => rw [inn_zero hk.inn]; rfl
    | succ m => rfl
  rw [h2] at h1
  exact h1
theorem right_got (g m : Nat) (es : List S29) (A : Option Addr) (c : Nat) (G : List Bool) (w : World) (base : Nat) (ok : Nat → Prop) (h : Gr w base ok g (m : Int) es) (hk : Gok m es) (hG : G = rchd (walkF m es (fun _ => false) (-1))) (hr : Kd.C Kd.bool w A G.length G) :
    Calls Try.prog 16 #[.pointer (some ⟨g, 0, none⟩), .slice A m c] w fun e w' => e = .returned (.bool true) ∧ Below w.heap.size w w' := by
  have h1 := right_any g m es A c G w base ok h hk (by rw [hG]; exact rchd_len hk.inn) hr
  have h2 : (!es.any (brk G)) = true := by rw [hG, solve_right hk.inn]; rfl
  rw [h2] at h1
  exact h1
theorem right_set (g m : Nat) (es : List S29) (A : Option Addr) (c : Nat) (s : List Bool) (R : Bool) (w : World) (base : Nat) (ok : Nat → Prop) (h : Gr w base ok g (m : Int) es) (hk : Gok m es) (hs : s.length = m) (hR : R = !es.any (brk s)) (hr : Kd.C Kd.bool w A s.length s) :
    Calls Try.prog 16 #[.pointer (some ⟨g, 0, none⟩), .slice A s.length c] w fun e w' => e = .returned (.bool R) ∧ Below w.heap.size w w' := by
  have h1 := right_law g m es A c s w base ok h hk hr
  rw [decide_eq_true hs, Bool.true_and, ← hR] at h1
  exact h1
theorem rd_map41 {es : List S29} {j : Nat} (hj : j < es.length) : rd_T41 (es.map to41) (j : Int) = to41 (rd_T29 es (j : Int)) := by
  simp [rd_T41, rd_T29, List.getD_eq_getElem?_getD, List.getElem?_eq_getElem hj]
theorem rsolve_any (m : Nat) (es : List S29) (ms : List S41) (hms : ms = es.map to41) (A : Option Addr) (c : Nat) (shut : List Int) (A2 : Option Addr) (c2 : Nat) (w : World) (hk : Gok m es) (hl : ms.length ≤ 100000) (hs : shut.length ≤ 100000) (hr : Kd.C k41 w A ms.length ms) (hc : ms.length ≤ c) (hr2 : Kd.C (Kd.int .i64) w A2 shut.length shut) (hc2 : shut.length ≤ c2) :
    Calls Try.prog 15 #[.int .i64 (m : Int), .slice A ms.length c, .slice A2 shut.length c2] w fun e w' => ∃ v, e = .returned v ∧ Kd.R Kd.bool 4 w' w.heap.size (fun _ => True) v (rchd (walkF m es (fun a => decide (a ∈ shut)) (-1))) ∧ Below w.heap.size w w' := by
  subst hms
  obtain ⟨k, hk2⟩ := rsolve_some (l := es.map to41) (shut := shut) hk.nodes hs hl (Inn.to41 hk.inn) (sol_is hk.inn (Inn.to41 hk.inn) pv_shut)
  exact caulkerref21_Solve.calls k (m : Int) A c _ A2 c2 shut _ w hr hc hr2 hc2 hk2
theorem rsolve_none (m : Nat) (es : List S29) (ms : List S41) (hms : ms = es.map to41) (A : Option Addr) (c : Nat) (w : World) (hk : Gok m es) (hl : ms.length ≤ 100000) (hr : Kd.C k41 w A ms.length ms) (hc : ms.length ≤ c) :
    Calls Try.prog 15 #[.int .i64 (m : Int), .slice A ms.length c, .slice none 0 0] w fun e w' => ∃ v, e = .returned v ∧ Kd.R Kd.bool 4 w' w.heap.size (fun _ => True) v (rchd (walkF m es (fun _ => false) (-1))) ∧ Below w.heap.size w w' := by
  have h := rsolve_any m es ms hms A c [] none 0 w hk hl (by simp) hr hc ⟨rfl, by simp, fun h => by simp at h⟩ (by simp)
  have e1 : (fun a : Int => decide (a ∈ ([] : List Int))) = fun _ => false := by funext a; simp
  rw [e1] at h
  exact h
theorem GraphLeast_early (n : Int) (A : Option Addr) (len c : Nat) (v2 : Value) (w : World) (h : n < 0 ∨ 60 < n ∨ 150 < len) :
    Calls Try.prog 4 #[.int .i64 n, .slice A len c, v2] w fun e w' => e = .returned (.bool true) ∧ Below w.heap.size w w' := by
  have H := Aside0.mk h
  clear h
  go_enter Try.func4, Try.ntmps4
  go_wp2_with (first
    | (go_at_call 8; (with_reducible refine (comes_any w).mono ?_); rintro e w1 ⟨rfl, hb1⟩; have HB1 := Aside0.mk hb1; clear hb1)
    | (go_at_call 13; refine (build_no n A len c _ H.out).mono ?_; rintro e w2 ⟨rfl, rfl⟩))
  go_ret
  exact ⟨rfl, HB1.out⟩
set_option maxRecDepth 100000 in
set_option maxHeartbeats 8000000 in
theorem GraphLeast_late (m : Nat) (l : List S29) (A : Option Addr) (c : Nat) (s : List Bool) (A2 : Option Addr) (c2 : Nat) (w : World) (h1 : m ≤ 60) (hl : l.length ≤ 150) (hr : Kd.C k29 w A l.length l) (hr2 : Kd.C Kd.bool w A2 s.length s) :
    Calls Try.prog 4 #[.int .i64 (m : Int), .slice A l.length c, .slice A2 s.length c2] w fun e w' => e = .returned (.bool true) ∧ Below w.heap.size w w' := by
  have HR := Aside0.mk hr; have HR2 := Aside0.mk hr2; have HN := Aside0.mk h1; have HL := Aside0.mk hl
  obtain ⟨es, hes⟩ : ∃ es, es = addAll (m : Int) l := ⟨_, rfl⟩
  have HE := Aside0.mk hes
  have HK := Aside0.mk (addAll_ok l h1 hl).1
  have HEL := Aside0.mk (addAll_ok l h1 hl).2
  rw [← hes] at HK HEL
  obtain ⟨ms, hms⟩ : ∃ ms, ms = es.map to41 := ⟨_, rfl⟩
  have HM := Aside0.mk hms
  have HML := Aside0.mk (show ms.length = es.length by rw [hms, List.length_map])
  obtain ⟨G, hG⟩ : ∃ G, G = rchd (walkF m es (fun _ => false) (-1)) := ⟨_, rfl⟩
  have HGD := Aside0.mk hG
  have hgl : G.length = m := by rw [hG]; exact rchd_len HK.out.inn
  obtain ⟨b0, hb0⟩ : ∃ b, ((m : Int) == 0) = b := ⟨_, rfl⟩
  have HB0 := Aside0.mk hb0
  have hlz : b0 = true → ((ms.length : Int) == 0) = true := by
    intro h
    rw [h, beq_iff_eq] at hb0
    obtain rfl : m = 0 := by omega
    rw [hms, inn_zero HK.out.inn]
    rfl
  obtain ⟨b1, hb1⟩ : ∃ b, ((s.length : Int) == (m : Int)) = b := ⟨_, rfl⟩
  have HB1' := Aside0.mk hb1
  obtain ⟨R, hR⟩ : ∃ R, R = !es.any (brk s) := ⟨_, rfl⟩
  have HRR := Aside0.mk hR
  clear hr hr2 h1 hl hes hms hG hb0 hR
  have HGL := Aside0.mk hgl
  go_enter Try.func4, Try.ntmps4
  cases b0
  all_goals
    first | (have hlz1 := hlz rfl) | skip
    clear hlz
    go_wp2_with (first
      | (go_at_call 8; (with_reducible refine (comes_any w).mono ?_); rintro e w1 ⟨rfl, hb1⟩; have HB1 := Aside0.mk hb1; clear hb1)
      | (go_at_call 13; refine (build_any (m : Int) l A c w1 (by omega) (by have := HN.out; omega) HL.out (Kd.C_below HR.out HB1.out)).mono ?_; rintro e w2 ⟨g, v, rfl, hg, hv, hb⟩; rw [← HE.out] at hg hv; rw [← HM.out] at hv; obtain ⟨A8, c8, rfl, hcl, hC⟩ := Kd.R_reads hv; have HG2 := Aside0.mk hg; have HC2 := Aside0.mk (And.intro hcl hC); have HB2 := Aside0.mk (below_then HB1.out HB1.out.size hb); have HS1 := Aside0.mk HB1.out.size; clear hg hv hb hcl hC HB1)
      | (go_at_call 14; refine (solve_any g m es _ _ _ HG2.out HK.out).mono ?_; rintro e w3 ⟨v, rfl, hv, hb⟩; rw [← HGD.out] at hv; obtain ⟨A10, c10, hv1, hcl, hC⟩ := Kd.R_reads hv; rw [HGL.out] at hv1; subst hv1; have HG3 := Aside0.mk (Gr.below HG2.out hb); have HC3 := Aside0.mk (And.intro HC2.out.1 (Kd.C_below HC2.out.2 hb)); have HB3 := Aside0.mk (below_then HB2.out HB2.out.size hb); have HX3 := Aside0.mk hC; clear hv hb hcl hC HB2 HC2 HG2)
      | (go_at_call 15; refine (rsolve_none m es ms HM.out A8 c8 _ HK.out (by have := HML.out; have := HEL.out; omega) HC3.out.2 HC3.out.1).mono ?_; rintro e w4 ⟨v, rfl, hv, hb⟩; rw [← HGD.out] at hv; obtain ⟨A11, c11, hv1, hcl, hC⟩ := Kd.R_reads hv; rw [HGL.out] at hv1; subst hv1; have HG4 := Aside0.mk (Gr.below HG3.out hb); have HC4 := Aside0.mk (Kd.C_below HC3.out.2 hb); have HB4 := Aside0.mk (below_then HB3.out HB3.out.size hb); have HX4 := Aside0.mk (Kd.C_below HX3.out hb); have HY4 := Aside0.mk hC; clear hv hb hcl hC HB3 HC3 HG3 HX3)
      | (go_at_call 16; refine (right_got g m es A10 c10 G _ _ _ HG4.out HK.out HGD.out HX4.out).mono ?_; rintro e w5 ⟨rfl, hb⟩; have HG5 := Aside0.mk (Gr.below HG4.out hb); have HC5 := Aside0.mk (Kd.C_below HC4.out hb); have HB5 := Aside0.mk (below_then HB4.out HB4.out.size hb); have HX5 := Aside0.mk (Kd.C_below HX4.out hb); have HY5 := Aside0.mk (Kd.C_below HY4.out hb); clear hb HG4 HC4 HB4 HX4 HY4)
      | (go_at_call 16; refine (right_none g m es _ _ _ HG5.out HK.out _ HB0.out).mono ?_; rintro e w6 ⟨rfl, hb⟩; have hb0 := HB0.out; have HG6 := Aside0.mk (Gr.below HG5.out hb); have HC6 := Aside0.mk (Kd.C_below HC5.out hb); have HB6 := Aside0.mk (below_then HB5.out HB5.out.size hb); have HX6 := Aside0.mk (Kd.C_below HX5.out hb); have HY6 := Aside0.mk (Kd.C_below HY5.out hb); clear hb HG5 HC5 HB5 HX5 HY5))
    clear hb0
    first | clear hlz1 | skip
    go_loopg [57] (m + 1) (fun kq v57 w' => ∃ i : Nat, v57 = .int .i64 (i : Int) ∧ Aside0 (i + kq = m + 1 ∧ i ≤ m) ∧ Aside0 (Gr w' w.heap.size (fun _ => True) g (m : Int) es) ∧ Aside0 (Kd.C k41 w' A8 ms.length ms) ∧ Aside0 (Kd.C Kd.bool w' A10 G.length G) ∧ Aside0 (Kd.C Kd.bool w' A11 G.length G) ∧ Aside0 (Below w.heap.size w w'))
    case atStart => exact ⟨0, rfl, ⟨by omega, by omega⟩, ⟨Gr.lower HG6.out HS1.out⟩, HC6, HX6, HY6, HB6⟩
    case round =>
      clear HG6 HC6 HX6 HY6 HB6 HS1
      obtain ⟨i, rfl, HK2, HG, HC, HX, HY, HB⟩ := hrel
      by_cases hi : i < m
      · have hid : decide ((i : Int) < (m : Int)) = true := decide_eq_true (by omega)
        have hi0 : 0 ≤ (i : Int) := by omega
        have hi1 : (i : Int) < (m : Int) := by omega
        obtain ⟨adf, eadf, y0⟩ := Kd.at_bool HX.out (i : Int) hi0 (by rw [HGL.out]; exact hi1)
        obtain ⟨adg, eadg, z0⟩ := Kd.at_bool HY.out (i : Int) hi0 (by rw [HGL.out]; exact hi1)
        obtain ⟨u, he⟩ : ∃ u, u = rdOf false G (i : Int) := ⟨_, rfl⟩
        rw [← he] at y0 z0
        clear he
        simp only [Int.toNat_natCast] at y0 z0
        subst eadf
        subst eadg
        go_wp2
        go_quiet (fail)
        go_wp2
        go_roundg (m - i)
        case measure => have := HK2.out; omega
        case rel => exact ⟨i + 1, val_succ (n := m) (by omega) (by have := HN.out; omega), ⟨by have := HK2.out; omega, by omega⟩, ⟨Gr.drewN HG.out _⟩, ⟨Kd.C_drewN HC.out _⟩, ⟨Kd.C_drewN HX.out _⟩, ⟨Kd.C_drewN HY.out _⟩, ⟨pw_below_drewN HB.out _⟩⟩
      · obtain rfl : m = i := by have := HK2.out; omega
        have hid : decide ((m : Int) < (m : Int)) = false := decide_eq_false (by omega)
        clear hi HK2 HY
        cases b1 with
        | false =>
          have e1 := HB1'.out
          have hsm : decide (s.length = m) = false := by
            rw [beq_eq_false_iff_ne] at e1
            exact decide_eq_false (by omega)
          have HSM := Aside0.mk hsm
          have e2 : ((s.length : Int) != (m : Int)) = true := by rw [bne, e1]; rfl
          clear hsm
          go_wp2_with (first
            | (go_at_call 16; refine (right_law g m es A2 c2 s _ _ _ HG.out HK.out (Kd.C_below HR2.out HB.out)).mono ?_; rw [HSM.out, Bool.false_and]; rintro e w7 ⟨rfl, hb⟩; have HB7 := Aside0.mk (below_then HB.out HB.out.size hb); clear hb))
          go_ret
          exact ⟨rfl, HB7.out⟩
        | true =>
          have e1 := HB1'.out
          have hsm : s.length = m := by
            rw [beq_iff_eq] at e1
            omega
          have HSM := Aside0.mk hsm
          have e2 : ((s.length : Int) != (m : Int)) = false := by rw [bne, e1]; rfl
          clear hsm
          go_wp2
          go_loopg [80, 13] (es.length + 1) (fun kq v80 v13 w' => ∃ (j : Nat) (b : Bool), v80 = .int .i64 (j : Int) ∧ v13 = .bool b ∧ Aside0 (j + kq = es.length + 1 ∧ j ≤ es.length) ∧ Aside0 ((b && !(es.drop j).any (brk s)) = R) ∧ Aside0 (Gr w' w.heap.size (fun _ => True) g (m : Int) es) ∧ Aside0 (Kd.C k41 w' A8 ms.length ms) ∧ Aside0 (Kd.C Kd.bool w' A10 G.length G) ∧ Aside0 (Below w.heap.size w w'))
          case atStart => exact ⟨0, true, rfl, rfl, ⟨by omega, by omega⟩, ⟨by rw [HRR.out, List.drop_zero, Bool.true_and]⟩, HG, HC, HX, HB⟩
          case round =>
            clear HG HC HX HB
            obtain ⟨j, b, rfl, rfl, HK2, HBR, HG, HC, HX, HB⟩ := hrel
            by_cases hj : j < es.length
            · have hjd : decide ((j : Int) < (ms.length : Int)) = true := decide_eq_true (by have := HML.out; omega)
              have hj0 : 0 ≤ (j : Int) := by omega
              have hj1 : (j : Int) < (ms.length : Int) := by have := HML.out; omega
              obtain ⟨ade, eade, x0, x1, x2, x3⟩ := at_T41 HC.out (j : Int) hj0 hj1
              obtain ⟨y, he⟩ : ∃ y, y = rd_T29 es (j : Int) := ⟨_, rfl⟩
              have hm : rd_T41 ms (j : Int) = to41 y := by rw [he, HM.out]; exact rd_map41 hj
              have hin := HK.out.inn.at_ hj0 (by omega : (j : Int) < es.length)
              rw [← he] at hin
              have hd : es.drop j = y :: es.drop (j + 1) := by
                rw [List.drop_eq_getElem_cons hj, he]
                congr 1
                simp [rd_T29, List.getD_eq_getElem?_getD, List.getElem?_eq_getElem hj]
              rw [hd, List.any_cons] at HBR
              rw [hm] at x0 x1 x2 x3
              clear he hd hm
              obtain ⟨fr, tz, wy, at_⟩ := y
              simp only [to41] at x0 x1 x2 x3
              simp only at hin
              simp only [Int.toNat_natCast] at x0 x1 x2 x3
              subst eade
              have HJ := Aside0.mk hj
              clear hj
              have hcut := below_alloc (Below.refl wr.heap.size wr) (.cells #[.int .i64 fr, .int .i64 tz, .int .i64 wy, .int .i64 at_] 41)
              have HG2 := Aside0.mk (Gr.below HG.out hcut)
              have HC2 := Aside0.mk (Kd.C_below HC.out hcut)
              have HX2 := Aside0.mk (Kd.C_below HX.out hcut)
              have HB2 := Aside0.mk (below_then HB.out HB.out.size hcut)
              have HP2 := Aside0.mk (blk_new wr (.cells #[.int .i64 fr, .int .i64 tz, .int .i64 wy, .int .i64 at_] 41))
              have z0 := blk_cell HP2.out 0
              have z1 := blk_cell HP2.out 1
              simp only [List.getElem?_toArray, List.getElem?_cons_zero, List.getElem?_cons_succ] at z0 z1
              clear hcut
              have ht0 : 0 ≤ tz := hin.2.2.1
              have ht1 : tz < (s.length : Int) := by have := HSM.out; have := hin.2.2.2; omega
              obtain ⟨ads, eads, y1⟩ := Kd.at_bool HR2.out tz ht0 ht1
              obtain ⟨bt_, hbt⟩ : ∃ b, b = rdOf false s tz := ⟨_, rfl⟩
              rw [← hbt] at y1
              replace y1 := (HB2.out.cell (World.block_lt_of_cell? w _ y1)).trans y1
              subst eads
              by_cases hf : fr = -1
              · subst hf
                clear hin
                have e3 : ((-1 : Int) == -1) = true := rfl
                have hbk : brk s ⟨-1, tz, wy, at_⟩ = !bt_ := by unfold brk; simp only; rw [← hbt]; rfl
                cases bt_ <;> cases b
                all_goals
                  have HBK := Aside0.mk hbk
                  clear hbk hbt
                  go_wp2
                  go_roundg (es.length - j)
                  case measure => have := HK2.out; have := HJ.out; omega
                  case rel => exact ⟨j + 1, _, val_succ HJ.out (by have := HEL.out; omega), rfl, ⟨by have := HK2.out; have := HJ.out; omega, by have := HJ.out; omega⟩, ⟨by rw [← HBR.out, HBK.out]; rfl⟩, HG2, HC2, HX2, HB2⟩
              · have e3 : (fr == -1) = false := by simpa using hf
                have hf0 : 0 ≤ fr := by omega
                have hf1 : fr < (s.length : Int) := by have := HSM.out; have := hin.2.1; omega
                clear hin hf
                obtain ⟨adf, eadf, y2⟩ := Kd.at_bool HR2.out fr hf0 hf1
                obtain ⟨bf_, hbf⟩ : ∃ b, b = rdOf false s fr := ⟨_, rfl⟩
                rw [← hbf] at y2
                replace y2 := (HB2.out.cell (World.block_lt_of_cell? w _ y2)).trans y2
                obtain rfl : ads = adf := by injection eadf
                clear eadf
                have hbk : brk s ⟨fr, tz, wy, at_⟩ = (bf_ && !bt_) := by unfold brk; simp only; rw [← hbt, ← hbf, e3]; rfl
                cases bf_ <;> cases bt_ <;> cases b
                all_goals
                  have HBK := Aside0.mk hbk
                  clear hbk hbt hbf
                  go_wp2
                  go_roundg (es.length - j)
                  case measure => have := HK2.out; have := HJ.out; omega
                  case rel => exact ⟨j + 1, _, val_succ HJ.out (by have := HEL.out; omega), rfl, ⟨by have := HK2.out; have := HJ.out; omega, by have := HJ.out; omega⟩, ⟨by rw [← HBR.out, HBK.out]; rfl⟩, HG2, HC2, HX2, HB2⟩
            · obtain rfl : j = ms.length := by have := HK2.out; have := HML.out; omega
              have hjd : decide ((ms.length : Int) < (ms.length : Int)) = false := decide_eq_false (by omega)
              clear hj HK2
              rw [HML.out, List.drop_length] at HBR
              obtain rfl : b = R := by have := HBR.out; simpa using this
              have eb : (b != b) = false := by cases b <;> rfl
              go_wp2_with (first
                | (go_at_call 16; refine (right_set g m es A2 c2 s b _ _ _ HG.out HK.out HSM.out HRR.out (Kd.C_below HR2.out HB.out)).mono ?_; rintro e w7 ⟨rfl, hb⟩; have HB7 := Aside0.mk (below_then HB.out HB.out.size hb); have HX7 := Aside0.mk (Kd.C_below HX.out hb); clear hb HB HX HG HC))
              go_loopg [114] (m + 1) (fun kq v114 w' => ∃ i : Nat, v114 = .int .i64 (i : Int) ∧ Aside0 (i + kq = m + 1 ∧ i ≤ m) ∧ Aside0 (Kd.C Kd.bool w' A10 G.length G) ∧ Aside0 (Below w.heap.size w w'))
              case atStart => exact ⟨0, rfl, ⟨by omega, by omega⟩, HX7, HB7⟩
              case round =>
                clear HX7 HB7
                obtain ⟨i, rfl, HK2, HX, HB⟩ := hrel
                by_cases hi : i < m
                · have hid : decide ((i : Int) < (m : Int)) = true := decide_eq_true (by omega)
                  have hi0 : 0 ≤ (i : Int) := by omega
                  have hi1 : (i : Int) < (m : Int) := by omega
                  have hi2 : (i : Int) < (s.length : Int) := by have := HSM.out; omega
                  obtain ⟨adf, eadf, y0⟩ := Kd.at_bool HX.out (i : Int) hi0 (by rw [HGL.out]; exact hi1)
                  obtain ⟨adg, eadg, z0⟩ := Kd.at_bool HR2.out (i : Int) hi0 hi2
                  have hle : b = true → rdOf false G (i : Int) = true → rdOf false s (i : Int) = true := by
                    intro hb1 hb2
                    have h3 := HRR.out
                    rw [hb1] at h3
                    rw [HGD.out] at hb2
                    exact solve_least HK.out.inn (by simpa using h3.symm) hi0 hi1 hb2
                  replace z0 := (HB.out.cell (World.block_lt_of_cell? w _ z0)).trans z0
                  generalize rdOf false G (i : Int) = ug at y0 hle
                  generalize rdOf false s (i : Int) = us at z0 hle
                  simp only [Int.toNat_natCast] at y0 z0
                  subst eadf
                  subst eadg
                  cases b <;> cases ug <;> cases us
                  all_goals
                    first
                    | (exfalso; have := hle rfl rfl; cases this; done)
                    | (clear hle
                       go_wp2
                       go_roundg (m - i)
                       case measure => have := HK2.out; omega
                       case rel => exact ⟨i + 1, val_succ (n := m) (by omega) (by have := HN.out; omega), ⟨by have := HK2.out; omega, by omega⟩, HX, HB⟩)
                · obtain rfl : m = i := by have := HK2.out; omega
                  have hid : decide ((m : Int) < (m : Int)) = false := decide_eq_false (by omega)
                  clear hi HK2
                  go_wp2
                  go_ret
                  exact ⟨rfl, HB.out⟩
theorem GraphLeast_any (n : Int) (l : List S29) (A : Option Addr) (c : Nat) (s : List Bool) (A2 : Option Addr) (c2 : Nat) (w : World) (hw : (Lit.int .i64 n).wf = true) (hr : Kd.C k29 w A l.length l) (hr2 : Kd.C Kd.bool w A2 s.length s) :
    Calls Try.prog 4 #[.int .i64 n, .slice A l.length c, .slice A2 s.length c2] w fun e w' => e = .returned (.bool true) ∧ Below w.heap.size w w' := by
  by_cases h : n < 0 ∨ 60 < n ∨ 150 < l.length
  · exact GraphLeast_early n A _ c _ w h
  · obtain ⟨m, rfl⟩ : ∃ m : Nat, n = (m : Int) := ⟨n.toNat, by omega⟩
    exact GraphLeast_late m l A c s A2 c2 w (by omega) (by omega) hr hr2
end Go.Proofs.Ytlkmkoajfdmbeaa.PGraphWithout
