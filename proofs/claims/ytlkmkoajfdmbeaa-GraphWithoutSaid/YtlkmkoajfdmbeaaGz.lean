/- The law GraphShut, walked: it returns true. No condition but that the slices are read. -/
import Derived.Test.YtlkmkoajfdmbeaaGy
namespace Go.Proofs.Ytlkmkoajfdmbeaa.PGraphWithout
open Go.RowKit Go.Proofs.YtlkmkoajfdmbeaaW.PrintWords Go.Proofs.YtlkmkoajfdmbeaaW.PrintLast Go.Proofs.YtlkmkoajfdmbeaaW.PrintMore
open Go.Maps Go.MapKept Go.ChangeShapes
set_option linter.unusedVariables false
set_option linter.unusedSimpArgs false
attribute [local go_sem high] eqA41

theorem any_mem (sh : List Int) (t : Int) : sh.any (fun x => x == t) = decide (t ∈ sh) := by
  induction sh with
  | nil => rfl
  | cons x sh ih =>
    rw [List.any_cons, ih]
    by_cases h : x = t
    · subst h; simp
    · have h2 : ¬ t = x := fun e => h e.symm
      simp [h, h2]
theorem drop_head {cu : List S29} {k : Nat} {y : S29} {t : List S29} (h : cu.drop k = y :: t) : k < cu.length ∧ rd_T29 cu (k : Int) = y ∧ cu.drop (k + 1) = t := by
  have hk : k < cu.length := by
    have := congrArg List.length h
    rw [List.length_drop, List.length_cons] at this
    omega
  rw [List.drop_eq_getElem_cons hk] at h
  injection h with h1 h2
  refine ⟨hk, ?_, h2⟩
  rw [← h1]
  simp [rd_T29, List.getD_eq_getElem?_getD, List.getElem?_eq_getElem hk]
theorem GraphShut_early (n : Int) (A : Option Addr) (len c : Nat) (A2 : Option Addr) (len2 c2 : Nat) (w : World) (h : n < 0 ∨ 60 < n ∨ 150 < len) :
    Calls Try.prog 5 #[.int .i64 n, .slice A len c, .slice A2 len2 c2] w fun e w' => e = .returned (.bool true) ∧ Below w.heap.size w w' := by
  have H := Aside0.mk h
  clear h
  go_enter Try.func5, Try.ntmps5
  go_wp2_with (first
    | (go_at_call 8; (with_reducible refine (comes_any w).mono ?_); rintro e w1 ⟨rfl, hb1⟩; have HB1 := Aside0.mk hb1; clear hb1)
    | (go_at_call 13; refine (build_no n A len c _ H.out).mono ?_; rintro e w2 ⟨rfl, rfl⟩))
  go_ret
  exact ⟨rfl, HB1.out⟩
theorem GraphShut_long (m : Nat) (l : List S29) (A : Option Addr) (c : Nat) (A2 : Option Addr) (len2 c2 : Nat) (w : World) (h1 : m ≤ 60) (hl : l.length ≤ 150) (hr : Kd.C k29 w A l.length l) (h : 40 < len2) :
    Calls Try.prog 5 #[.int .i64 (m : Int), .slice A l.length c, .slice A2 len2 c2] w fun e w' => e = .returned (.bool true) ∧ Below w.heap.size w w' := by
  have HR := Aside0.mk hr; have HN := Aside0.mk h1; have HL := Aside0.mk hl
  have d1 : decide (40 < (len2 : Int)) = true := decide_eq_true (by omega)
  clear h hr h1 hl
  go_enter Try.func5, Try.ntmps5
  go_wp2_with (first
    | (go_at_call 8; (with_reducible refine (comes_any w).mono ?_); rintro e w1 ⟨rfl, hb1⟩; have HB1 := Aside0.mk hb1; clear hb1)
    | (go_at_call 13; refine (build_any (m : Int) l A c w1 (by omega) (by have := HN.out; omega) HL.out (Kd.C_below HR.out HB1.out)).mono ?_; rintro e w2 ⟨g, v, rfl, hg, hv, hb⟩; have HB2 := Aside0.mk (below_then HB1.out HB1.out.size hb); clear hg hv hb))
  go_ret
  exact ⟨rfl, HB2.out⟩
set_option maxRecDepth 100000 in
set_option maxHeartbeats 8000000 in
theorem GraphShut_late (m : Nat) (l : List S29) (A : Option Addr) (c : Nat) (sh : List Int) (A2 : Option Addr) (c2 : Nat) (w : World) (h1 : m ≤ 60) (hl : l.length ≤ 150) (hr : Kd.C k29 w A l.length l) (hr2 : Kd.C (Kd.int .i64) w A2 sh.length sh) (hw2 : ∀ x ∈ sh, (Lit.int .i64 x).wf = true) (hc2 : sh.length ≤ c2) (h : sh.length ≤ 40) :
    Calls Try.prog 5 #[.int .i64 (m : Int), .slice A l.length c, .slice A2 sh.length c2] w fun e w' => e = .returned (.bool true) ∧ Below w.heap.size w w' := by
  have HR := Aside0.mk hr; have HR2 := Aside0.mk hr2; have HN := Aside0.mk h1; have HL := Aside0.mk hl; have HW2 := Aside0.mk hw2; have HCC := Aside0.mk hc2; have HSL := Aside0.mk h
  have d1 : decide (40 < (sh.length : Int)) = false := decide_eq_false (by omega)
  obtain ⟨es, hes⟩ : ∃ es, es = addAll (m : Int) l := ⟨_, rfl⟩
  have HE := Aside0.mk hes
  have HK := Aside0.mk (addAll_ok l h1 hl).1
  have HEL := Aside0.mk (addAll_ok l h1 hl).2
  rw [← hes] at HK HEL
  obtain ⟨ms, hms⟩ : ∃ ms, ms = es.map to41 := ⟨_, rfl⟩
  have HM := Aside0.mk hms
  have HML := Aside0.mk (show ms.length = es.length by rw [hms, List.length_map])
  obtain ⟨G, hG⟩ : ∃ G, G = rchd (walkF m es (fun a => decide (a ∈ sh)) (-1)) := ⟨_, rfl⟩
  have HGD := Aside0.mk hG
  have HGL := Aside0.mk (show G.length = m by rw [hG]; exact rchd_len HK.out.inn)
  obtain ⟨cu, hcu⟩ : ∃ cu, cu = es.filter (cutP sh G) := ⟨_, rfl⟩
  have HCU := Aside0.mk hcu
  have HCL := Aside0.mk (show cu.length ≤ es.length by rw [hcu]; exact List.length_filter_le _ _)
  have hu29 := Try.underlying29
  have hu41 := Try.underlying41
  clear hr hr2 h1 hl hes hms hG hw2 hc2 h hcu
  go_enter Try.func5, Try.ntmps5
  go_wp2_with (first
      | (go_at_call 8; (with_reducible refine (comes_any w).mono ?_); rintro e w1 ⟨rfl, hb1⟩; have HB1 := Aside0.mk hb1; clear hb1)
      | (go_at_call 13; refine (build_any (m : Int) l A c w1 (by omega) (by have := HN.out; omega) HL.out (Kd.C_below HR.out HB1.out)).mono ?_; rintro e w2 ⟨g, v, rfl, hg, hv, hb⟩; rw [← HE.out] at hg hv; rw [← HM.out] at hv; obtain ⟨A8, c8, rfl, hcl, hC⟩ := Kd.R_reads hv; have HG2 := Aside0.mk hg; have HC2 := Aside0.mk (And.intro hcl hC); have HB2 := Aside0.mk (below_then HB1.out HB1.out.size hb); clear hg hv hb hcl hC HB1)
      | (go_at_call 17; refine (shut_any g m es A2 c2 sh _ _ _ HG2.out HK.out (Kd.C_below HR2.out HB2.out) HW2.out (by have := HSL.out; omega)).mono ?_; rintro e w3 ⟨v1, v2, rfl, hv1, hv2, hb⟩; rw [← HGD.out] at hv1 hv2; rw [← HCU.out] at hv2; obtain ⟨A10, c10, hv3, _, hC1⟩ := Kd.R_reads hv1; rw [HGL.out] at hv3; subst hv3; obtain ⟨A11, c11, rfl, _, hC2⟩ := Kd.R_reads hv2; have HC3 := Aside0.mk (And.intro HC2.out.1 (Kd.C_below HC2.out.2 hb)); have HB3 := Aside0.mk (below_then HB2.out HB2.out.size hb); have HX3 := Aside0.mk hC1; have HY3 := Aside0.mk hC2; clear hv1 hv2 hb hC1 hC2 HB2 HC2 HG2)
      | (go_at_call 15; refine (rsolve_any m es ms HM.out A8 c8 sh A2 c2 _ HK.out (by have := HML.out; have := HEL.out; omega) (by have := HSL.out; omega) HC3.out.2 HC3.out.1 (Kd.C_below HR2.out HB3.out) HCC.out).mono ?_; rintro e w4 ⟨v, rfl, hv, hb⟩; rw [← HGD.out] at hv; obtain ⟨A12, c12, hv1, _, hC⟩ := Kd.R_reads hv; rw [HGL.out] at hv1; subst hv1; have HC4 := Aside0.mk (Kd.C_below HC3.out.2 hb); have HB4 := Aside0.mk (below_then HB3.out HB3.out.size hb); have HX4 := Aside0.mk (Kd.C_below HX3.out hb); have HY4 := Aside0.mk (Kd.C_below HY3.out hb); have HW4 := Aside0.mk hC; clear hv hb hC HB3 HC3 HX3 HY3))
  clear d1
  go_loopg [52] (m + 1) (fun kq v52 w' => ∃ i : Nat, v52 = .int .i64 (i : Int) ∧ Aside0 (i + kq = m + 1 ∧ i ≤ m) ∧ Aside0 (Kd.C k41 w' A8 ms.length ms) ∧ Aside0 (Kd.C Kd.bool w' A10 G.length G) ∧ Aside0 (Kd.C k29 w' A11 cu.length cu) ∧ Aside0 (Kd.C Kd.bool w' A12 G.length G) ∧ Aside0 (Below w.heap.size w w'))
  case atStart => exact ⟨0, rfl, ⟨by omega, by omega⟩, HC4, HX4, HY4, HW4, HB4⟩
  case round =>
    clear HC4 HX4 HY4 HW4 HB4
    obtain ⟨i, rfl, HK2, HC, HX, HY, HW, HB⟩ := hrel
    by_cases hi : i < m
    · have hid : decide ((i : Int) < (m : Int)) = true := decide_eq_true (by omega)
      have hi0 : 0 ≤ (i : Int) := by omega
      have hi1 : (i : Int) < (m : Int) := by omega
      obtain ⟨adf, eadf, y0⟩ := Kd.at_bool HX.out (i : Int) hi0 (by rw [HGL.out]; exact hi1)
      obtain ⟨adg, eadg, z0⟩ := Kd.at_bool HW.out (i : Int) hi0 (by rw [HGL.out]; exact hi1)
      obtain ⟨u, he⟩ : ∃ u, u = rdOf false G (i : Int) := ⟨_, rfl⟩
      rw [← he] at y0 z0
      clear he
      simp only [Int.toNat_natCast] at y0 z0
      subst eadf
      subst eadg
      go_wp2
      go_quiet (fail)
      go_wp2
      go_roundg (m - i)
      case measure => have := HK2.out; omega
      case rel => exact ⟨i + 1, val_succ (n := m) (by omega) (by have := HN.out; omega), ⟨by have := HK2.out; omega, by omega⟩, ⟨Kd.C_drewN HC.out _⟩, ⟨Kd.C_drewN HX.out _⟩, ⟨Kd.C_drewN HY.out _⟩, ⟨Kd.C_drewN HW.out _⟩, ⟨pw_below_drewN HB.out _⟩⟩
    · obtain rfl : m = i := by have := HK2.out; omega
      have hid : decide ((m : Int) < (m : Int)) = false := decide_eq_false (by omega)
      clear hi HK2 HX
      go_wp2
      go_loopg [67, 14] (es.length + 1) (fun kq v67 v14 w' => ∃ (j k : Nat), v67 = .int .i64 (j : Int) ∧ v14 = .int .i64 (k : Int) ∧ Aside0 (j + kq = es.length + 1 ∧ j ≤ es.length) ∧ Aside0 (k ≤ cu.length ∧ cu.drop k = (es.drop j).filter (cutP sh G)) ∧ Aside0 (Kd.C k41 w' A8 ms.length ms) ∧ Aside0 (Kd.C k29 w' A11 cu.length cu) ∧ Aside0 (Kd.C Kd.bool w' A12 G.length G) ∧ Aside0 (Below w.heap.size w w'))
      case atStart => exact ⟨0, 0, rfl, rfl, ⟨by omega, by omega⟩, ⟨by omega, by rw [List.drop_zero, List.drop_zero]; exact HCU.out⟩, HC, HY, HW, HB⟩
      case round =>
        clear HC HY HW HB
        obtain ⟨j, k, rfl, rfl, HK2, HF, HC, HY, HW, HB⟩ := hrel
        by_cases hj : j < es.length
        · have hjd : decide ((j : Int) < (ms.length : Int)) = true := decide_eq_true (by have := HML.out; omega)
          have hj0 : 0 ≤ (j : Int) := by omega
          have hj1 : (j : Int) < (ms.length : Int) := by have := HML.out; omega
          obtain ⟨ade, eade, x0, x1, x2, x3⟩ := at_T41 HC.out (j : Int) hj0 hj1
          obtain ⟨y, he⟩ : ∃ y, y = rd_T29 es (j : Int) := ⟨_, rfl⟩
          have hm : rd_T41 ms (j : Int) = to41 y := by rw [he, HM.out]; exact rd_map41 hj
          have hin := HK.out.inn.at_ hj0 (by omega : (j : Int) < es.length)
          rw [← he] at hin
          have hd : es.drop j = y :: es.drop (j + 1) := by
            rw [List.drop_eq_getElem_cons hj, he]
            congr 1
            simp [rd_T29, List.getD_eq_getElem?_getD, List.getElem?_eq_getElem hj]
          rw [hd, List.filter_cons] at HF
          rw [hm] at x0 x1 x2 x3
          clear he hd hm
          obtain ⟨fr, tz, wy, at_⟩ := y
          simp only [to41] at x0 x1 x2 x3
          simp only at hin
          simp only [Int.toNat_natCast] at x0 x1 x2 x3
          subst eade
          have HJ := Aside0.mk hj
          have HIN := Aside0.mk hin
          clear hj hin
          have hcut := below_alloc (Below.refl wr.heap.size wr) (.cells #[.int .i64 fr, .int .i64 tz, .int .i64 wy, .int .i64 at_] 41)
          have HC2 := Aside0.mk (Kd.C_below HC.out hcut)
          have HY2 := Aside0.mk (Kd.C_below HY.out hcut)
          have HW2' := Aside0.mk (Kd.C_below HW.out hcut)
          have HB2 := Aside0.mk (below_then HB.out HB.out.size hcut)
          have HP2 := Aside0.mk (blk_new wr (.cells #[.int .i64 fr, .int .i64 tz, .int .i64 wy, .int .i64 at_] 41))
          have z0 := blk_cell HP2.out 0
          have z1 := blk_cell HP2.out 1
          have z2 := blk_cell HP2.out 2
          have z3 := blk_cell HP2.out 3
          simp only [List.getElem?_toArray, List.getElem?_cons_zero, List.getElem?_cons_succ] at z0 z1 z2 z3
          clear hcut
          go_wp2
          clear x0 x1 x2 x3 hjd hj0 hj1
          generalize wr.alloc (.cells #[.int .i64 fr, .int .i64 tz, .int .i64 wy, .int .i64 at_] 41) = wo at HC2 HY2 HW2' HB2 HP2 z0 z1 z2 z3 ⊢
          go_loopg [73, 17] (sh.length + 1) (fun kq v73 v17 w' => ∃ (i : Nat) (b : Bool), v73 = .int .i64 (i : Int) ∧ v17 = .bool b ∧ w' = wo ∧ Aside0 (i + kq = sh.length + 1 ∧ i ≤ sh.length) ∧ Aside0 ((b || (sh.drop i).any (fun x => x == tz)) = decide (tz ∈ sh)))
          case atStart => exact ⟨0, false, rfl, rfl, rfl, ⟨by omega, by omega⟩, ⟨by rw [Bool.false_or, List.drop_zero]; exact any_mem sh tz⟩⟩
          case round =>
            obtain ⟨i, b, rfl, rfl, hww, HK3, HBM⟩ := hrel
            subst hww
            by_cases hi : i < sh.length
            · have hid : decide ((i : Int) < (sh.length : Int)) = true := decide_eq_true (by omega)
              have hi0 : 0 ≤ (i : Int) := by omega
              have hi1 : (i : Int) < (sh.length : Int) := by omega
              obtain ⟨adf, eadf, y0⟩ := Kd.at_int (Kd.C_below HR2.out HB2.out) (i : Int) hi0 hi1
              obtain ⟨u, he⟩ : ∃ u, u = rd sh (i : Int) := ⟨_, rfl⟩
              rw [← he] at y0
              have hd : sh.drop i = u :: sh.drop (i + 1) := by
                rw [List.drop_eq_getElem_cons hi, he]
                congr 1
                simp [rd, List.getD_eq_getElem?_getD, List.getElem?_eq_getElem hi]
              rw [hd, List.any_cons] at HBM
              clear he hd
              simp only [Int.toNat_natCast] at y0
              subst eadf
              have HI := Aside0.mk hi
              clear hi
              cases hq : (u == tz) <;> cases b
              all_goals
                have HQ := Aside0.mk hq
                go_wp2
                go_roundg (sh.length - i)
                case measure => have := HK3.out; have := HI.out; omega
                case rel => exact ⟨i + 1, _, val_succ HI.out (by have := HSL.out; omega), rfl, rfl, ⟨by have := HK3.out; have := HI.out; omega, by have := HI.out; omega⟩, ⟨by rw [← HBM.out, HQ.out]; rfl⟩⟩
            · obtain rfl : i = sh.length := by have := HK3.out; omega
              have hid : decide ((sh.length : Int) < (sh.length : Int)) = false := decide_eq_false (by omega)
              clear hi HK3
              rw [List.drop_length, List.any_nil, Bool.or_false] at HBM
              cases b with
              | false =>
                have hcp : cutP sh G ⟨fr, tz, wy, at_⟩ = false := by unfold cutP; simp only; rw [← HBM.out]; rfl
                have HCP := Aside0.mk hcp
                rw [HCP.out, if_neg (by simp)] at HF
                clear hcp
                go_wp2
                go_roundg (es.length - j)
                case measure => have := HK2.out; have := HJ.out; omega
                case rel => exact ⟨j + 1, k, val_succ HJ.out (by have := HEL.out; omega), rfl, ⟨by have := HK2.out; have := HJ.out; omega, by have := HJ.out; omega⟩, HF, HC2, HY2, HW2', HB2⟩
              | true =>
                by_cases hf : fr = -1
                · subst hf
                  have hcp : cutP sh G ⟨-1, tz, wy, at_⟩ = true := by unfold cutP; simp only; rw [← HBM.out]; rfl
                  have e2 : decide (0 ≤ (-1 : Int)) = false := rfl
                  have HCP := Aside0.mk hcp
                  rw [HCP.out, if_pos rfl] at HF
                  have hdh := drop_head HF.out.2
                  have hk0 : 0 ≤ (k : Int) := by omega
                  have hk1 : (k : Int) < (cu.length : Int) := by have := hdh.1; omega
                  have hkd : decide ((cu.length : Int) ≤ (k : Int)) = false := decide_eq_false (by omega)
                  have hkd2 : decide (cu.length ≤ k) = false := decide_eq_false (by omega)
                  obtain ⟨adc, eadc, c0, c1, c2', c3⟩ := at_T29 HY2.out (k : Int) hk0 hk1
                  rw [hdh.2.1] at c0 c1 c2' c3
                  simp only at c0 c1 c2' c3
                  simp only [Int.toNat_natCast] at c0 c1 c2' c3
                  subst eadc
                  have HDH := Aside0.mk hdh
                  clear hdh hcp
                  have e1 : ((-1 : Int) == -1 && (tz == tz && (wy == wy && at_ == at_))) = true := by simp
                  go_wp2
                  go_quiet (fail)
                  go_wp2
                  go_roundg (es.length - j)
                  case measure => have := HK2.out; have := HJ.out; omega
                  case rel => exact ⟨j + 1, k + 1, val_succ HJ.out (by have := HEL.out; omega), val_succ HDH.out.1 (by have := HEL.out; have := HCL.out; omega), ⟨by have := HK2.out; have := HJ.out; omega, by have := HJ.out; omega⟩, ⟨HDH.out.1, HDH.out.2.2⟩, ⟨Kd.C_drewN HC2.out _⟩, ⟨Kd.C_drewN HY2.out _⟩, ⟨Kd.C_drewN HW2'.out _⟩, ⟨pw_below_drewN HB2.out _⟩⟩
                · have hf0 : 0 ≤ fr := by have := HIN.out.1; omega
                  have hf1 : fr < (G.length : Int) := by have := HIN.out.2.1; have := HGL.out; omega
                  have e2 : decide (0 ≤ fr) = true := decide_eq_true hf0
                  obtain ⟨adw, eadw, w0⟩ := Kd.at_bool HW2'.out fr hf0 hf1
                  obtain ⟨bf_, hbf⟩ : ∃ b, b = rdOf false G fr := ⟨_, rfl⟩
                  rw [← hbf] at w0
                  subst eadw
                  have hcp : cutP sh G ⟨fr, tz, wy, at_⟩ = bf_ := by
                    unfold cutP
                    simp only
                    rw [← HBM.out, ← hbf]
                    have : (fr == -1) = false := by simpa using hf
                    rw [this]
                    rfl
                  clear hf hbf
                  have hf2 : fr < (m : Int) := by have := HIN.out.2.1; omega
                  cases bf_ with
                  | false =>
                    have HCP := Aside0.mk hcp
                    rw [HCP.out, if_neg (by simp)] at HF
                    clear hcp
                    go_wp2
                    go_roundg (es.length - j)
                    case measure => have := HK2.out; have := HJ.out; omega
                    case rel => exact ⟨j + 1, k, val_succ HJ.out (by have := HEL.out; omega), rfl, ⟨by have := HK2.out; have := HJ.out; omega, by have := HJ.out; omega⟩, HF, HC2, HY2, HW2', HB2⟩
                  | true =>
                    have HCP := Aside0.mk hcp
                    rw [HCP.out, if_pos rfl] at HF
                    have hdh := drop_head HF.out.2
                    have hk0 : 0 ≤ (k : Int) := by omega
                    have hk1 : (k : Int) < (cu.length : Int) := by have := hdh.1; omega
                    have hkd : decide ((cu.length : Int) ≤ (k : Int)) = false := decide_eq_false (by omega)
                    have hkd2 : decide (cu.length ≤ k) = false := decide_eq_false (by omega)
                    obtain ⟨adc, eadc, c0, c1, c2', c3⟩ := at_T29 HY2.out (k : Int) hk0 hk1
                    rw [hdh.2.1] at c0 c1 c2' c3
                    simp only at c0 c1 c2' c3
                    simp only [Int.toNat_natCast] at c0 c1 c2' c3
                    subst eadc
                    have HDH := Aside0.mk hdh
                    clear hdh hcp
                    have e1 : (fr == fr && (tz == tz && (wy == wy && at_ == at_))) = true := by simp
                    go_wp2
                    go_quiet (fail)
                    go_wp2
                    go_roundg (es.length - j)
                    case measure => have := HK2.out; have := HJ.out; omega
                    case rel => exact ⟨j + 1, k + 1, val_succ HJ.out (by have := HEL.out; omega), val_succ HDH.out.1 (by have := HEL.out; have := HCL.out; omega), ⟨by have := HK2.out; have := HJ.out; omega, by have := HJ.out; omega⟩, ⟨HDH.out.1, HDH.out.2.2⟩, ⟨Kd.C_drewN HC2.out _⟩, ⟨Kd.C_drewN HY2.out _⟩, ⟨Kd.C_drewN HW2'.out _⟩, ⟨pw_below_drewN HB2.out _⟩⟩
        · obtain rfl : j = ms.length := by have := HK2.out; have := HML.out; omega
          have hjd : decide ((ms.length : Int) < (ms.length : Int)) = false := decide_eq_false (by omega)
          clear hj HK2
          rw [HML.out, List.drop_length, List.filter_nil] at HF
          obtain rfl : k = cu.length := by
            have h1 := congrArg List.length HF.out.2
            have h2 := HF.out.1
            rw [List.length_drop, List.length_nil] at h1
            omega
          have e1 : ((cu.length : Int) == (cu.length : Int)) = true := by simp
          go_wp2
          go_ret
          exact ⟨by simp, HB.out⟩
theorem GraphShut_any (n : Int) (l : List S29) (A : Option Addr) (c : Nat) (sh : List Int) (A2 : Option Addr) (c2 : Nat) (w : World) (hw : (Lit.int .i64 n).wf = true) (hr : Kd.C k29 w A l.length l) (hr2 : Kd.C (Kd.int .i64) w A2 sh.length sh) (hw2 : ∀ x ∈ sh, (Lit.int .i64 x).wf = true) (hc2 : sh.length ≤ c2) :
    Calls Try.prog 5 #[.int .i64 n, .slice A l.length c, .slice A2 sh.length c2] w fun e w' => e = .returned (.bool true) ∧ Below w.heap.size w w' := by
  by_cases h : n < 0 ∨ 60 < n ∨ 150 < l.length
  · exact GraphShut_early n A _ c A2 _ c2 w h
  · obtain ⟨m, rfl⟩ : ∃ m : Nat, n = (m : Int) := ⟨n.toNat, by omega⟩
    by_cases h2 : 40 < sh.length
    · exact GraphShut_long m l A c A2 _ c2 w (by omega) (by omega) hr h2
    · exact GraphShut_late m l A c sh A2 c2 w (by omega) (by omega) hr hr2 hw2 hc2 (by omega)
end Go.Proofs.Ytlkmkoajfdmbeaa.PGraphWithout
