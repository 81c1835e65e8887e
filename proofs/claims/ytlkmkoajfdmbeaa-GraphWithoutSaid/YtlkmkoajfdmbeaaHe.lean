/- The law GraphWithout, walked: it returns true. No condition but that the slice is read. -/
import Derived.Test.YtlkmkoajfdmbeaaHd
namespace Go.Proofs.Ytlkmkoajfdmbeaa.PGraphWithout
open Go.RowKit Go.Proofs.YtlkmkoajfdmbeaaW.PrintWords Go.Proofs.YtlkmkoajfdmbeaaW.PrintLast Go.Proofs.YtlkmkoajfdmbeaaW.PrintMore
open Go.Maps Go.MapKept Go.ChangeShapes
set_option linter.unusedVariables false
set_option linter.unusedSimpArgs false

theorem row_take {w : World} {A : Option Addr} {ms : List S41} {k : Nat} (h : Kd.C k41 w A ms.length ms) (hk : k ≤ ms.length) : Kd.C k41 w A k (ms.take k) := by
  have h1 := Kd.C_take h hk
  rw [show (ms.take k).length = k by rw [List.length_take]; omega] at h1
  exact h1
theorem row_drop {w : World} {A : Option Addr} {ms : List S41} {k c : Nat} (h : Kd.C k41 w A ms.length ms) (hk : k ≤ ms.length) (hc : ms.length ≤ c) : Kd.C k41 w (if c = k then A else Option.map (fun x => x.add (k * 4)) A) (ms.length - k) (ms.drop k) := by
  have h1 := Kd.C_drop (c := c) h hk hc
  rw [show (ms.drop k).length = ms.length - k from List.length_drop] at h1
  exact h1
theorem one_row {w : World} {ade : Addr} {ms : List S41} {k c : Nat} {y : S41} (h : Kd.C k41 w (some ade) ms.length ms) (hk : k < ms.length) (hc : ms.length ≤ c) (hy : rd_T41 ms (k : Int) = y) : Kd.C k41 w (if c = k then some ade else some (ade.add (k * 4))) 1 [y] := by
  have h1 := row_drop h (Nat.le_of_lt hk) hc
  have h2 : ms.drop k = y :: ms.drop (k + 1) := by
    rw [List.drop_eq_getElem_cons hk, ← rd41 hk, hy]
  have h3 := row_take (k := 1) (show Kd.C k41 w (if c = k then some ade else Option.map (fun x => x.add (k * 4)) (some ade)) (ms.drop k).length (ms.drop k) by rw [List.length_drop]; exact h1) (by rw [List.length_drop]; omega)
  rw [h2] at h3
  exact h3
set_option maxRecDepth 100000 in
set_option maxHeartbeats 8000000 in
theorem GraphWithout_out (m : Nat) (l : List S29) (A : Option Addr) (c : Nat) (edge : Int) (w : World) (h1 : m ≤ 60) (hl : l.length ≤ 150) (hr : Kd.C k29 w A l.length l) (hw : (Lit.int .i64 edge).wf = true) (hin : ¬ (0 ≤ edge ∧ edge < (addAll (m : Int) l).length)) :
    Calls Try.prog 6 #[.int .i64 (m : Int), .slice A l.length c, .int .i64 edge] w fun e w' => e = .returned (.bool true) ∧ Below w.heap.size w w' := by
  have HR := Aside0.mk hr; have HN := Aside0.mk h1; have HL := Aside0.mk hl; have HWF := Aside0.mk hw
  obtain ⟨es, hes⟩ : ∃ es, es = addAll (m : Int) l := ⟨_, rfl⟩
  have HE := Aside0.mk hes
  have HK := Aside0.mk (addAll_ok l h1 hl).1
  have HEL := Aside0.mk (addAll_ok l h1 hl).2
  rw [← hes] at HK HEL
  obtain ⟨ms, hms⟩ : ∃ ms, ms = es.map to41 := ⟨_, rfl⟩
  have HM := Aside0.mk hms
  have HML := Aside0.mk (show ms.length = es.length by rw [hms, List.length_map])
  obtain ⟨G, hG⟩ : ∃ G, G = rchd (walkF m es (fun _ => false) (-1)) := ⟨_, rfl⟩
  have HGD := Aside0.mk hG
  have HGL := Aside0.mk (show G.length = m by rw [hG]; exact rchd_len HK.out.inn)
  obtain ⟨H, hH⟩ : ∃ H, H = rchd (walkF m es (fun _ => false) edge) := ⟨_, rfl⟩
  have HHD := Aside0.mk hH
  have HHL := Aside0.mk (show H.length = m by rw [hH]; exact rchd_len HK.out.inn)
  rw [← hes] at hin
  have hu41 := Try.underlying41
  have hu35 := Try.underlying35
  have HIN := Aside0.mk hin
  have HHG := Aside0.mk (show H = G by rw [hH, hG]; exact less_out HK.out.inn hin)
  rcases (show (decide (0 ≤ edge) = false) ∨ (decide (0 ≤ edge) = true ∧ decide (edge < (ms.length : Int)) = false) from by
    by_cases h0 : 0 ≤ edge
    · exact .inr ⟨decide_eq_true h0, decide_eq_false (by have := HML.out; omega)⟩
    · exact .inl (decide_eq_false h0)) with d0 | ⟨d0, d1⟩
  all_goals
    clear hr h1 hl hes hms hG hH hin hw
    go_enter Try.func6, Try.ntmps6
    go_wp2_with (first
      | (go_at_call 8; (with_reducible refine (comes_any w).mono ?_); rintro e w1 ⟨rfl, hb1⟩; have HB1 := Aside0.mk hb1; clear hb1)
      | (go_at_call 13; refine (build_any (m : Int) l A c w1 (by omega) (by have := HN.out; omega) HL.out (Kd.C_below HR.out HB1.out)).mono ?_; rintro e w2 ⟨g, v, rfl, hg, hv, hb⟩; rw [← HE.out] at hg hv; rw [← HM.out] at hv; obtain ⟨A8, c8, rfl, hcl, hC⟩ := Kd.R_reads hv; have HG2 := Aside0.mk (Gr.lower hg HB1.out.size); have HC2 := Aside0.mk hC; have HCL := Aside0.mk hcl; have HB2 := Aside0.mk (below_then HB1.out HB1.out.size hb); clear hg hv hb hC HB1)
      | (go_at_call 14; refine (solve_any g m es _ _ _ HG2.out HK.out).mono ?_; rintro e w3 ⟨v, rfl, hv, hb⟩; rw [← HGD.out] at hv; obtain ⟨A10, c10, hv1, _, hC⟩ := Kd.R_reads hv; rw [HGL.out] at hv1; subst hv1; have HG3 := Aside0.mk (Gr.below HG2.out hb); have HC3 := Aside0.mk (Kd.C_below HC2.out hb); have HB3 := Aside0.mk (below_then HB2.out HB2.out.size hb); have HX3 := Aside0.mk hC; clear hv hb hC HB2 HC2 HG2)
      | (go_at_call 18; refine (without_any g m es edge _ _ _ HG3.out HK.out HWF.out).mono ?_; rintro e w4 ⟨v, rfl, hv, hb⟩; rw [← HHD.out] at hv; obtain ⟨A11, c11, hv1, _, hC⟩ := Kd.R_reads hv; rw [HHL.out] at hv1; subst hv1; have HG4 := Aside0.mk (Gr.below HG3.out hb); have HC4 := Aside0.mk (Kd.C_below HC3.out hb); have HB4 := Aside0.mk (below_then HB3.out HB3.out.size hb); have HX4 := Aside0.mk (Kd.C_below HX3.out hb); have HY4 := Aside0.mk hC; clear hv hb hC HB3 HC3 HG3 HX3)
      | (go_at_call 15; refine (rsolve_rest m es ms edge A8 c8 _ HK.out (by rw [HM.out]; exact Inn.to41 HK.out.inn) (by rw [HM.out]; exact pv_out HIN.out) (by have := HML.out; have := HEL.out; omega) HC4.out HCL.out).mono ?_; rintro e w5 ⟨v, rfl, hv, hb⟩; rw [← HHD.out] at hv; obtain ⟨A13, c13, hv1, _, hC⟩ := Kd.R_reads hv; rw [HHL.out] at hv1; subst hv1; have HG5 := Aside0.mk (Gr.below HG4.out hb); have HC5 := Aside0.mk (Kd.C_below HC4.out hb); have HB5 := Aside0.mk (below_then HB4.out HB4.out.size hb); have HX5 := Aside0.mk (Kd.C_below HX4.out hb); have HY5 := Aside0.mk (Kd.C_below HY4.out hb); have HW5 := Aside0.mk hC; clear hv hb hC HB4 HC4 HG4 HX4 HY4))
    go_loopg [59] (m + 1) (fun kq v59 w' => ∃ i : Nat, v59 = .int .i64 (i : Int) ∧ Aside0 (i + kq = m + 1 ∧ i ≤ m) ∧ Aside0 (Gr w' w.heap.size (fun _ => True) g (m : Int) es) ∧ Aside0 (Kd.C k41 w' A8 ms.length ms) ∧ Aside0 (Kd.C Kd.bool w' A10 G.length G) ∧ Aside0 (Kd.C Kd.bool w' A11 H.length H) ∧ Aside0 (Kd.C Kd.bool w' A13 H.length H) ∧ Aside0 (Below w.heap.size w w'))
    case atStart => exact ⟨0, rfl, ⟨by omega, by omega⟩, HG5, HC5, HX5, HY5, HW5, HB5⟩
    case round =>
      clear HG5 HC5 HX5 HY5 HW5 HB5
      obtain ⟨i, rfl, HK2, HG, HC, HX, HY, HW, HB⟩ := hrel
      by_cases hi : i < m
      · have hid : decide ((i : Int) < (m : Int)) = true := decide_eq_true (by omega)
        have hi0 : 0 ≤ (i : Int) := by omega
        have hi1 : (i : Int) < (m : Int) := by omega
        obtain ⟨adx, eadx, x0⟩ := Kd.at_bool HX.out (i : Int) hi0 (by rw [HGL.out]; exact hi1)
        obtain ⟨ady, eady, y0⟩ := Kd.at_bool HY.out (i : Int) hi0 (by rw [HHL.out]; exact hi1)
        obtain ⟨adz, eadz, z0⟩ := Kd.at_bool HW.out (i : Int) hi0 (by rw [HHL.out]; exact hi1)
        have hla : rdOf false H (i : Int) = true → rdOf false G (i : Int) = true := fun h => by
          rw [HHD.out] at h
          rw [HGD.out]
          exact less_all HK.out.inn hi0 hi1 h
        obtain ⟨ug, hug⟩ : ∃ u, u = rdOf false G (i : Int) := ⟨_, rfl⟩
        obtain ⟨uh, huh⟩ : ∃ u, u = rdOf false H (i : Int) := ⟨_, rfl⟩
        rw [← hug] at x0 hla
        rw [← huh] at y0 z0 hla
        have HUG := Aside0.mk hug; have HUH := Aside0.mk huh; have HI := Aside0.mk hi
        clear hug huh hi
        simp only [Int.toNat_natCast] at x0 y0 z0
        subst eadx
        subst eady
        subst eadz
        cases uh with
        | true =>
          obtain rfl := hla rfl
          clear hla
          go_wp2
          go_quiet (fail)
          go_wp2
          go_quiet (fail)
          go_wp2
          go_roundg (m - i)
          case measure => have := HK2.out; have := HI.out; omega
          case rel => exact ⟨i + 1, val_succ (n := m) HI.out (by have := HN.out; omega), ⟨by have := HK2.out; have := HI.out; omega, by have := HI.out; omega⟩, ⟨Gr.drewN HG.out _⟩, ⟨Kd.C_drewN HC.out _⟩, ⟨Kd.C_drewN HX.out _⟩, ⟨Kd.C_drewN HY.out _⟩, ⟨Kd.C_drewN HW.out _⟩, ⟨pw_below_drewN HB.out _⟩⟩
        | false =>
          clear hla
          cases ug with
          | false =>
            go_wp2
            go_quiet (fail)
            go_wp2
            go_quiet (fail)
            go_wp2
            go_roundg (m - i)
            case measure => have := HK2.out; have := HI.out; omega
            case rel => exact ⟨i + 1, val_succ (n := m) HI.out (by have := HN.out; omega), ⟨by have := HK2.out; have := HI.out; omega, by have := HI.out; omega⟩, ⟨Gr.drewN HG.out _⟩, ⟨Kd.C_drewN HC.out _⟩, ⟨Kd.C_drewN HX.out _⟩, ⟨Kd.C_drewN HY.out _⟩, ⟨Kd.C_drewN HW.out _⟩, ⟨pw_below_drewN HB.out _⟩⟩
          | true =>
            exfalso
            have h1 := HUG.out
            have h2 := HUH.out
            rw [HHG.out, ← h1] at h2
            cases h2
      · obtain rfl : m = i := by have := HK2.out; omega
        have hid : decide ((m : Int) < (m : Int)) = false := decide_eq_false (by omega)
        clear hi HK2
        go_wp2
        go_ret
        exact ⟨rfl, HB.out⟩
set_option maxRecDepth 100000 in
set_option maxHeartbeats 8000000 in
theorem GraphWithout_in (m : Nat) (l : List S29) (A : Option Addr) (c : Nat) (k : Nat) (w : World) (h1 : m ≤ 60) (hl : l.length ≤ 150) (hr : Kd.C k29 w A l.length l) (hw : (Lit.int .i64 (k : Int)).wf = true) (hin : k < (addAll (m : Int) l).length) :
    Calls Try.prog 6 #[.int .i64 (m : Int), .slice A l.length c, .int .i64 (k : Int)] w fun e w' => e = .returned (.bool true) ∧ Below w.heap.size w w' := by
  have HR := Aside0.mk hr; have HN := Aside0.mk h1; have HL := Aside0.mk hl; have HWF := Aside0.mk hw
  obtain ⟨es, hes⟩ : ∃ es, es = addAll (m : Int) l := ⟨_, rfl⟩
  have HE := Aside0.mk hes
  have HK := Aside0.mk (addAll_ok l h1 hl).1
  have HEL := Aside0.mk (addAll_ok l h1 hl).2
  rw [← hes] at HK HEL
  obtain ⟨ms, hms⟩ : ∃ ms, ms = es.map to41 := ⟨_, rfl⟩
  have HM := Aside0.mk hms
  have HML := Aside0.mk (show ms.length = es.length by rw [hms, List.length_map])
  obtain ⟨G, hG⟩ : ∃ G, G = rchd (walkF m es (fun _ => false) (-1)) := ⟨_, rfl⟩
  have HGD := Aside0.mk hG
  have HGL := Aside0.mk (show G.length = m by rw [hG]; exact rchd_len HK.out.inn)
  obtain ⟨H, hH⟩ : ∃ H, H = rchd (walkF m es (fun _ => false) (k : Int)) := ⟨_, rfl⟩
  have HHD := Aside0.mk hH
  have HHL := Aside0.mk (show H.length = m by rw [hH]; exact rchd_len HK.out.inn)
  rw [← hes] at hin
  have hu41 := Try.underlying41
  have hu35 := Try.underlying35
  have HIN := Aside0.mk hin
  have hk0 : 0 ≤ (k : Int) := by omega
  have hk1 : (k : Int) < (ms.length : Int) := by have := HML.out; omega
  have hk2 : (k : Int) + 1 ≤ (ms.length : Int) := by omega
  have hkb : (k : Int) ≤ 150 := by have := HEL.out; have := HML.out; omega
  obtain ⟨k1, hkk⟩ : ∃ k1, k1 = k + 1 := ⟨_, rfl⟩
  have hwk : wrap64 ((k : Int) + 1) = (k1 : Int) := by rw [hkk]; unfold wrap64; omega
  have hk5 : (k1 : Int) ≤ (ms.length : Int) := by omega
  have hk6 : 0 ≤ (k1 : Int) := by omega
  have hk7 : k1 - k = 1 := by omega
  have hk4 : k < ms.length := by omega
  have hk8 : (k : Int) ≤ (k1 : Int) := by omega
  have hk9 : ms.length ≤ 150 := by have := HEL.out; have := HML.out; omega
  have HKK1 := Aside0.mk hkk
  clear hkk
  obtain ⟨⟨ea, eb, ec, ed⟩, he0⟩ : ∃ e, rd_T29 es (k : Int) = e := ⟨_, rfl⟩
  have HE0 := Aside0.mk he0
  have HMK := Aside0.mk (show rd_T41 ms (k : Int) = to41 ⟨ea, eb, ec, ed⟩ by rw [← he0, hms]; exact rd_map41 hin)
  clear he0
  have d0 : decide (0 ≤ (k : Int)) = true := decide_eq_true hk0
  have d1 : decide ((k : Int) < (ms.length : Int)) = true := decide_eq_true hk1
  clear hr h1 hl hes hms hG hH hin hw
  go_enter Try.func6, Try.ntmps6
  go_wp2_with (first
      | (go_at_call 8; (with_reducible refine (comes_any w).mono ?_); rintro e w1 ⟨rfl, hb1⟩; have HB1 := Aside0.mk hb1; clear hb1)
      | (go_at_call 13; refine (build_any (m : Int) l A c w1 (by omega) (by have := HN.out; omega) HL.out (Kd.C_below HR.out HB1.out)).mono ?_; rintro e w2 ⟨g, v, rfl, hg, hv, hb⟩; rw [← HE.out] at hg hv; rw [← HM.out] at hv; obtain ⟨A8, c8, rfl, hcl, hC⟩ := Kd.R_reads hv; have HG2 := Aside0.mk (Gr.lower hg HB1.out.size); have HC2 := Aside0.mk hC; have HCL := Aside0.mk hcl; have HB2 := Aside0.mk (below_then HB1.out HB1.out.size hb); clear hg hv hb hC HB1)
      | (go_at_call 14; refine (solve_any g m es _ _ _ HG2.out HK.out).mono ?_; rintro e w3 ⟨v, rfl, hv, hb⟩; rw [← HGD.out] at hv; obtain ⟨A10, c10, hv1, _, hC⟩ := Kd.R_reads hv; rw [HGL.out] at hv1; subst hv1; have HG3 := Aside0.mk (Gr.below HG2.out hb); have HC3 := Aside0.mk (Kd.C_below HC2.out hb); have HB3 := Aside0.mk (below_then HB2.out HB2.out.size hb); have HX3 := Aside0.mk hC; clear hv hb hC HB2 HC2 HG2)
      | (go_at_call 18; refine (without_any g m es (k : Int) _ _ _ HG3.out HK.out HWF.out).mono ?_; rintro e w4 ⟨v, rfl, hv, hb⟩; rw [← HHD.out] at hv; obtain ⟨A11, c11, hv1, _, hC⟩ := Kd.R_reads hv; rw [HHL.out] at hv1; subst hv1; have HG4 := Aside0.mk (Gr.below HG3.out hb); have HC4 := Aside0.mk (Kd.C_below HC3.out hb); have HB4 := Aside0.mk (below_then HB3.out HB3.out.size hb); have HX4 := Aside0.mk (Kd.C_below HX3.out hb); have HY4 := Aside0.mk hC; clear hv hb hC HB3 HC3 HG3 HX3)
)
  have hcl := HCL.out
  have hk3 : (k : Int) ≤ (c8 : Int) := by omega
  have hk10 : (k1 : Int) ≤ (c8 : Int) := by omega
  have hdr := below_drew1 (Below.refl w4.heap.size w4)
  have HG7 := Aside0.mk (Gr.below HG4.out hdr)
  have HC7 := Aside0.mk (Kd.C_below HC4.out hdr)
  have HX7 := Aside0.mk (Kd.C_below HX4.out hdr)
  have HY7 := Aside0.mk (Kd.C_below HY4.out hdr)
  have HB7 := Aside0.mk (below_then HB4.out HB4.out.size hdr)
  clear hdr HG4 HC4 HX4 HY4 HB4
  obtain ⟨w7, hw7⟩ : ∃ w7 : World, w7 = w4.drew := ⟨_, rfl⟩
  rw [← hw7] at HG7 HC7 HX7 HY7 HB7
  have HTK := Aside0.mk (row_take HC7.out (show k ≤ ms.length by omega))
  obtain ⟨A48, hA48⟩ : ∃ X, (if c8 = k1 then A8 else Option.map (fun x => x.add (k1 * 4)) A8) = X := ⟨_, rfl⟩
  have HTD := Aside0.mk (show Kd.C k41 w7 A48 (ms.length - k1) (ms.drop k1) by rw [← hA48]; exact row_drop HC7.out (show k1 ≤ ms.length by omega) hcl)
  refine start_ (n := 11) (S := fun w' => True) (ds := []) #[false, false, false, false, false, false, false, false, false, false, false] (by kernel_rfl) rfl rfl trivial (fun hHeld => ?_)
  rw [← hw7]; clear hw7 hHeld; have hHeld : True := trivial
  refine pure_ (i := 1) (N := some 41) (v := ?_) (a' := ?_) #[false, true, false, false, false, false, false, false, false, false, false] rfl rfl (by kernel_rfl) (fun _ _ _ h => h) (Or.inl ⟨by rfl, ?_⟩) ?_ ?_
  rotate_left
  · intro w'
    go_simp
    with_reducible rfl
  rotate_left
  · simp only [Act.put, List.setIfInBounds_toArray, List.set_cons_zero, List.set_cons_succ, i64_w, i32_w]
    rfl
  refine pure_ (i := 2) (N := some 42) (v := ?_) (a' := ?_) #[false, true, true, false, false, false, false, false, false, false, false] rfl rfl (by kernel_rfl) (fun _ _ _ h => h) (Or.inl ⟨by rfl, ?_⟩) ?_ ?_
  rotate_left
  · intro w'
    go_simp
    with_reducible rfl
  rotate_left
  · simp only [Act.put, List.setIfInBounds_toArray, List.set_cons_zero, List.set_cons_succ, i64_w, i32_w]
    rfl
  refine pure_ (i := 3) (N := some 43) (v := ?_) (a' := ?_) #[false, true, true, true, false, false, false, false, false, false, false] rfl rfl (by kernel_rfl) (fun _ _ _ h => h) (Or.inl ⟨by rfl, ?_⟩) ?_ ?_
  rotate_left
  · intro w'
    go_simp
    with_reducible rfl
  rotate_left
  · simp only [Act.put, List.setIfInBounds_toArray, List.set_cons_zero, List.set_cons_succ, i64_w, i32_w]
    rfl
  refine pure_ (i := 5) (N := some 45) (v := ?_) (a' := ?_) #[false, true, true, true, false, true, false, false, false, false, false] rfl rfl (by kernel_rfl) (fun _ _ _ h => h) (Or.inl ⟨by rfl, ?_⟩) ?_ ?_
  rotate_left
  · intro w'
    go_simp
    with_reducible rfl
  rotate_left
  · simp only [Act.put, List.setIfInBounds_toArray, List.set_cons_zero, List.set_cons_succ, i64_w, i32_w]
    rfl
  refine pure_ (i := 6) (N := some 46) (v := ?_) (a' := ?_) #[false, true, true, true, false, true, true, false, false, false, false] rfl rfl (by kernel_rfl) (fun _ _ _ h => h) (Or.inl ⟨by rfl, ?_⟩) ?_ ?_
  rotate_left
  · intro w'
    go_simp
    with_reducible rfl
  rotate_left
  · simp only [Act.put, List.setIfInBounds_toArray, List.set_cons_zero, List.set_cons_succ, i64_w, i32_w]
    rfl
  refine pure_ (i := 7) (N := some 47) (v := ?_) (a' := ?_) #[false, true, true, true, false, true, true, true, false, false, false] rfl rfl (by kernel_rfl) (fun _ _ _ h => h) (Or.inl ⟨by rfl, ?_⟩) ?_ ?_
  rotate_left
  · intro w'
    go_simp
    with_reducible rfl
  rotate_left
  · simp only [Act.put, List.setIfInBounds_toArray, List.set_cons_zero, List.set_cons_succ, i64_w, i32_w]
    rfl
  refine pure_ (i := 8) (N := some 48) (v := ?_) (a' := ?_) #[false, true, true, true, false, true, true, true, true, false, false] rfl rfl (by kernel_rfl) (fun _ _ _ h => h) (Or.inl ⟨by rfl, ?_⟩) ?_ ?_
  rotate_left
  · intro w'
    go_simp
    with_reducible rfl
  rotate_left
  · simp only [Act.put, List.setIfInBounds_toArray, List.set_cons_zero, List.set_cons_succ, i64_w, i32_w]
    rfl
  refine one_ (i := 0) (N := some 40) #[true, true, true, true, false, true, true, true, true, false, false] rfl rfl (by kernel_rfl) (by decide) (fun K hK => ?_)
  refine value_ (v := .slice (some ⟨w7.heap.size, 0, none⟩) 0 0) (w1 := w7.alloc (.cells #[] 41)) (by rfl) rfl (by go_simp) ?_
  refine hK.out _ _ trivial (fun hHeld => ?_)
  clear hK K
  refine one_ (i := 4) (N := some 44) #[true, true, true, true, true, true, true, true, true, false, false] rfl rfl (by kernel_rfl) (by decide) (fun K hK => ?_)
  have hb8 := below_alloc (Below.refl w7.heap.size w7) (.cells #[] 41)
  have HE8 := Aside0.mk (show Kd.R k41 41 (w7.alloc (.cells #[] 41)) w7.heap.size (fun _ => True) (.slice (some ⟨w7.heap.size, 0, none⟩) 0 0) [] from ⟨fun _ _ => trivial, [], ⟨by simp, .inr ⟨w7.heap.size, 0, #[], rfl, Nat.le_refl _, heap_alloc_new w7 _, Nat.le_refl _, by decide, by simp, by simp⟩⟩, Reps.none _ _⟩)
  have HT8 := Aside0.mk (ReadsRow.imp_ HTK.out hb8 (fun _ _ h => h))
  refine Kd.R_append_rows_step k41 (Rr := k41.K w7) (w0 := w7) w7.heap.size (by rfl) _ _ 35 41 (.agg #[.int .i64 0, .int .i64 0, .int .i64 0, .int .i64 0]) 32 rfl Try.underlying35 info41 rfl (by decide) (by decide) (.slice (some ⟨w7.heap.size, 0, none⟩) 0 0) [] (ms.take k) A8 k c8 (fun _ => True) (fun _ => False) rfl rfl HE8.out HT8.out (fun x cs h => by rw [k41_open h]; exact k41_mkM _ _ _ x) (fun _ h => h.elim) (fun _ _ => trivial) hb8 hb8.size (by simp; omega) ?_
  intro v8 w8 hR8 hB8 hg8 hat8
  have HO8 := Aside0.mk hR8; have HB8 := Aside0.mk hB8
  clear hR8 hB8 hg8 hat8 hb8 HE8 HT8
  refine hK.out _ _ trivial (fun hHeld => ?_)
  clear hK K
  refine norm_ (a' := ?_) ?_ ?_
  rotate_left
  · show Act.put _ (some 44) _ = _
    simp only [Act.put, List.setIfInBounds_toArray, List.set_cons_zero, List.set_cons_succ]
    rfl
  refine one_ (i := 9) (N := some 49) #[true, true, true, true, true, true, true, true, true, true, false] rfl rfl (by kernel_rfl) (by decide) (fun K hK => ?_)
  have HT9 := Aside0.mk (ReadsRow.imp_ HTD.out HB8.out (fun _ _ h => h))
  refine Kd.R_append_rows_step k41 (Rr := k41.K w7) (w0 := w7) w7.heap.size (by rfl) _ _ 35 41 (.agg #[.int .i64 0, .int .i64 0, .int .i64 0, .int .i64 0]) 32 rfl Try.underlying35 info41 rfl (by decide) (by decide) v8 ([] ++ ms.take k) (ms.drop k1) A48 (ms.length - k1) (c8 - k1) (fun _ => True) (fun _ => False) rfl rfl HO8.out HT9.out (fun x cs h => by rw [k41_open h]; exact k41_mkM _ _ _ x) (fun _ h => h.elim) (fun _ _ => trivial) HB8.out HB8.out.size (by simp; omega) ?_
  intro v9 w9 hR9 hB9 hg9 hat9
  obtain ⟨rest, hrest⟩ : ∃ rest, rest = [] ++ ms.take k ++ ms.drop k1 := ⟨_, rfl⟩
  rw [← hrest] at hR9
  have HREST := Aside0.mk hrest; have HRL := Aside0.mk (show rest.length ≤ 100000 by rw [hrest]; simp; omega)
  clear hrest
  obtain ⟨AR, cR, rfl, hcr, hCr⟩ := Kd.R_reads hR9
  have HCR := Aside0.mk hCr; have HLR := Aside0.mk hcr; have HB9 := Aside0.mk hB9
  clear hR9 hB9 hg9 hat9 hCr hcr HT9 HO8 HB8
  refine hK.out _ _ trivial (fun hHeld => ?_)
  clear hK K
  refine norm_ (a' := ?_) ?_ ?_
  rotate_left
  · show Act.put _ (some 49) _ = _
    simp only [Act.put, List.setIfInBounds_toArray, List.set_cons_zero, List.set_cons_succ]
    rfl
  refine pure_ (i := 10) (N := some 12) (v := ?_) (a' := ?_) #[true, true, true, true, true, true, true, true, true, true, true] rfl rfl (by kernel_rfl) (fun _ _ _ h => h) (Or.inl ⟨by rfl, ?_⟩) ?_ ?_
  rotate_left
  · intro w'
    go_simp
    with_reducible rfl
  rotate_left
  · simp only [Act.put, List.setIfInBounds_toArray, List.set_cons_zero, List.set_cons_succ, i64_w, i32_w]
    rfl
  refine done_ (by kernel_rfl) ?_
  have hb9 := HB9.out
  have HG4 := Aside0.mk (Gr.below HG7.out hb9); have HC4 := Aside0.mk (Kd.C_below HC7.out hb9); have HX4 := Aside0.mk (Kd.C_below HX7.out hb9); have HY4 := Aside0.mk (Kd.C_below HY7.out hb9); have HB4 := Aside0.mk (below_then HB7.out HB7.out.size hb9)
  clear hb9 HB9 HG7 HC7 HX7 HY7 HB7 HTK HTD
  go_wp2_with (first | (go_at_call 15; refine (rsolve_rest m es rest (k : Int) AR cR _ HK.out (by rw [HREST.out, List.nil_append, HKK1.out, HM.out]; exact inn_rest HK.out.inn k) (by rw [HREST.out, List.nil_append, HKK1.out, HM.out]; exact pv_rest HIN.out) HRL.out HCR.out HLR.out).mono ?_; rintro e w5 ⟨v, rfl, hv, hb⟩; rw [← HHD.out] at hv; obtain ⟨A13, c13, hv1, _, hC⟩ := Kd.R_reads hv; rw [HHL.out] at hv1; subst hv1; have HG5 := Aside0.mk (Gr.below HG4.out hb); have HC5 := Aside0.mk (Kd.C_below HC4.out hb); have HB5 := Aside0.mk (below_then HB4.out HB4.out.size hb); have HX5 := Aside0.mk (Kd.C_below HX4.out hb); have HY5 := Aside0.mk (Kd.C_below HY4.out hb); have HW5 := Aside0.mk hC; clear hv hb hC HB4 HC4 HG4 HX4 HY4))
  go_loopg [59] (m + 1) (fun kq v59 w' => ∃ i : Nat, v59 = .int .i64 (i : Int) ∧ Aside0 (i + kq = m + 1 ∧ i ≤ m) ∧ Aside0 (Gr w' w.heap.size (fun _ => True) g (m : Int) es) ∧ Aside0 (Kd.C k41 w' A8 ms.length ms) ∧ Aside0 (Kd.C Kd.bool w' A10 G.length G) ∧ Aside0 (Kd.C Kd.bool w' A11 H.length H) ∧ Aside0 (Kd.C Kd.bool w' A13 H.length H) ∧ Aside0 (Below w.heap.size w w'))
  case atStart => exact ⟨0, rfl, ⟨by omega, by omega⟩, HG5, HC5, HX5, HY5, HW5, HB5⟩
  case round =>
    clear HG5 HC5 HX5 HY5 HW5 HB5
    obtain ⟨i, rfl, HK2, HG, HC, HX, HY, HW, HB⟩ := hrel
    by_cases hi : i < m
    · have hid : decide ((i : Int) < (m : Int)) = true := decide_eq_true (by omega)
      have hi0 : 0 ≤ (i : Int) := by omega
      have hi1 : (i : Int) < (m : Int) := by omega
      obtain ⟨adx, eadx, x0⟩ := Kd.at_bool HX.out (i : Int) hi0 (by rw [HGL.out]; exact hi1)
      obtain ⟨ady, eady, y0⟩ := Kd.at_bool HY.out (i : Int) hi0 (by rw [HHL.out]; exact hi1)
      obtain ⟨adz, eadz, z0⟩ := Kd.at_bool HW.out (i : Int) hi0 (by rw [HHL.out]; exact hi1)
      have hla : rdOf false H (i : Int) = true → rdOf false G (i : Int) = true := fun h => by
        rw [HHD.out] at h
        rw [HGD.out]
        exact less_all HK.out.inn hi0 hi1 h
      obtain ⟨ug, hug⟩ : ∃ u, u = rdOf false G (i : Int) := ⟨_, rfl⟩
      obtain ⟨uh, huh⟩ : ∃ u, u = rdOf false H (i : Int) := ⟨_, rfl⟩
      rw [← hug] at x0 hla
      rw [← huh] at y0 z0 hla
      have HUG := Aside0.mk hug; have HUH := Aside0.mk huh; have HI := Aside0.mk hi
      clear hug huh hi
      simp only [Int.toNat_natCast] at x0 y0 z0
      subst eadx
      subst eady
      subst eadz
      cases uh with
      | true =>
        obtain rfl := hla rfl
        clear hla
        go_wp2
        go_quiet (fail)
        go_wp2
        go_quiet (fail)
        go_wp2
        go_roundg (m - i)
        case measure => have := HK2.out; have := HI.out; omega
        case rel => exact ⟨i + 1, val_succ (n := m) HI.out (by have := HN.out; omega), ⟨by have := HK2.out; have := HI.out; omega, by have := HI.out; omega⟩, ⟨Gr.drewN HG.out _⟩, ⟨Kd.C_drewN HC.out _⟩, ⟨Kd.C_drewN HX.out _⟩, ⟨Kd.C_drewN HY.out _⟩, ⟨Kd.C_drewN HW.out _⟩, ⟨pw_below_drewN HB.out _⟩⟩
      | false =>
        clear hla
        cases ug with
        | false =>
          go_wp2
          go_quiet (fail)
          go_wp2
          go_quiet (fail)
          go_wp2
          go_roundg (m - i)
          case measure => have := HK2.out; have := HI.out; omega
          case rel => exact ⟨i + 1, val_succ (n := m) HI.out (by have := HN.out; omega), ⟨by have := HK2.out; have := HI.out; omega, by have := HI.out; omega⟩, ⟨Gr.drewN HG.out _⟩, ⟨Kd.C_drewN HC.out _⟩, ⟨Kd.C_drewN HX.out _⟩, ⟨Kd.C_drewN HY.out _⟩, ⟨Kd.C_drewN HW.out _⟩, ⟨pw_below_drewN HB.out _⟩⟩
        | true =>
          obtain ⟨ade, eade, p0, p1, p2, p3⟩ := at_T41 HC.out (k : Int) hk0 hk1
          rw [HMK.out] at p0 p1 p2 p3
          simp only [to41] at p0 p1 p2 p3
          simp only [Int.toNat_natCast] at p0 p1 p2 p3
          have HGT := Aside0.mk (show rdOf false (rchd (walkF m es (fun _ => false) (-1))) (i : Int) = true by rw [← HGD.out]; exact HUG.out.symm)
          have HHF := Aside0.mk (show rdOf false (rchd (walkF m es (fun _ => false) (k : Int))) (i : Int) = false by rw [← HHD.out]; exact HUH.out.symm)
          subst eade
          obtain ⟨A100, hA100⟩ : ∃ X, (if c8 = k then some ade else some (ade.add (k * 4))) = X := ⟨_, rfl⟩
          have HONE := Aside0.mk (show ∀ W : World, Kd.C k41 W (some ade) ms.length ms → Kd.C k41 W A100 1 [to41 ⟨ea, eb, ec, ed⟩] from fun W h => by rw [← hA100]; exact one_row h hk4 hcl HMK.out)
          go_wp2
          go_quiet (fail)
          go_wp2
          have hdr : Below wr.heap.size wr ((wr.drewN nq).drew) := below_drew1 (pw_below_drewN (Below.refl _ _) nq)
          have cc := fun {p : Addr} {v : Value} (h : wr.cell? p = some v) => (hdr.cell (World.block_lt_of_cell? _ _ h)).trans h
          have x7 := cc x0
          have y7 := cc y0
          replace p0 := cc p0
          replace p1 := cc p1
          replace p2 := cc p2
          replace p3 := cc p3
          have HG7 := Aside0.mk (Gr.below HG.out hdr)
          have HC7 := Aside0.mk (Kd.C_below HC.out hdr)
          have HX7 := Aside0.mk (Kd.C_below HX.out hdr)
          have HY7 := Aside0.mk (Kd.C_below HY.out hdr)
          have HW7 := Aside0.mk (Kd.C_below HW.out hdr)
          have HB7 := Aside0.mk (below_then HB.out HB.out.size hdr)
          clear cc hdr
          obtain ⟨w7, hw7⟩ : ∃ w7 : World, w7 = (wr.drewN nq).drew := ⟨_, rfl⟩
          rw [← hw7] at HG7 HC7 HX7 HY7 HW7 HB7 x7 y7 p0 p1 p2 p3
          clear x0 y0 z0 HG HC HX HY HW HB
          refine start_ (n := 28) (S := fun w' => w'.cell? (adx.add i) = some (.bool true) ∧ w'.cell? (ady.add i) = some (.bool false) ∧ w'.cell? (ade.add (k * 4)) = some (.int .i64 ea) ∧ w'.cell? ⟨(ade.add (k * 4)).block, (ade.add (k * 4)).off + 1, none⟩ = some (.int .i64 eb) ∧ w'.cell? ⟨(ade.add (k * 4)).block, (ade.add (k * 4)).off + 2, none⟩ = some (.int .i64 ec) ∧ w'.cell? ⟨(ade.add (k * 4)).block, (ade.add (k * 4)).off + 3, none⟩ = some (.int .i64 ed)) (ds := [24, 25]) #[false, false, false, false, false, false, false, false, false, false, false, false, false, false, false, false, false, false, false, false, false, false, false, false, false, false, false, false] (by kernel_rfl) rfl rfl (by rw [← hw7]; exact ⟨x7, y7, p0, p1, p2, p3⟩) (fun hHeld => ?_)
          rw [← hw7] at hHeld ⊢; clear hw7
          refine pure_ (i := 0) (N := some 84) (v := ?_) (a' := ?_) #[true, false, false, false, false, false, false, false, false, false, false, false, false, false, false, false, false, false, false, false, false, false, false, false, false, false, false, false] rfl rfl (by kernel_rfl) (fun _ _ _ h => h) (Or.inl ⟨by rfl, ?_⟩) ?_ ?_
          rotate_left
          · intro w'
            go_simp
            with_reducible rfl
          rotate_left
          · simp only [Act.put, List.setIfInBounds_toArray, List.set_cons_zero, List.set_cons_succ, i64_w, i32_w]
            rfl
          refine pure_ (i := 1) (N := some 85) (v := ?_) (a' := ?_) #[true, true, false, false, false, false, false, false, false, false, false, false, false, false, false, false, false, false, false, false, false, false, false, false, false, false, false, false] rfl rfl (by kernel_rfl) (fun _ _ _ h => h) (Or.inl ⟨by rfl, ?_⟩) ?_ ?_
          rotate_left
          · intro w'
            go_simp
            with_reducible rfl
          rotate_left
          · simp only [Act.put, List.setIfInBounds_toArray, List.set_cons_zero, List.set_cons_succ, i64_w, i32_w]
            rfl
          refine pure_ (i := 2) (N := some 86) (v := ?_) (a' := ?_) #[true, true, true, false, false, false, false, false, false, false, false, false, false, false, false, false, false, false, false, false, false, false, false, false, false, false, false, false] rfl rfl (by kernel_rfl) (fun _ _ _ h => h) (Or.inl ⟨by rfl, ?_⟩) ?_ ?_
          rotate_left
          · intro w'
            go_simp
            with_reducible rfl
          rotate_left
          · simp only [Act.put, List.setIfInBounds_toArray, List.set_cons_zero, List.set_cons_succ, i64_w, i32_w]
            rfl
          refine take_ (i := 3) (N := some 87) (v := ?_) (a' := ?_) #[true, true, true, true, false, false, false, false, false, false, false, false, false, false, false, false, false, false, false, false, false, false, false, false, false, false, false, false] rfl rfl (by kernel_rfl) (fun _ _ _ h => h) (Or.inl ⟨by rfl, ?_⟩) hHeld ?_ ?_
          rotate_left
          · rintro w' ⟨s0, s1, s2, s3, s4, s5⟩
            go_simp
            with_reducible rfl
          rotate_left
          · simp only [Act.put, List.setIfInBounds_toArray, List.set_cons_zero, List.set_cons_succ, i64_w, i32_w]
            rfl
          refine pure_ (i := 4) (N := some 88) (v := ?_) (a' := ?_) #[true, true, true, true, true, false, false, false, false, false, false, false, false, false, false, false, false, false, false, false, false, false, false, false, false, false, false, false] rfl rfl (by kernel_rfl) (fun _ _ _ h => h) (Or.inl ⟨by rfl, ?_⟩) ?_ ?_
          rotate_left
          · intro w'
            go_simp
            with_reducible rfl
          rotate_left
          · simp only [Act.put, List.setIfInBounds_toArray, List.set_cons_zero, List.set_cons_succ, i64_w, i32_w]
            rfl
          refine pure_ (i := 5) (N := some 89) (v := ?_) (a' := ?_) #[true, true, true, true, true, true, false, false, false, false, false, false, false, false, false, false, false, false, false, false, false, false, false, false, false, false, false, false] rfl rfl (by kernel_rfl) (fun _ _ _ h => h) (Or.inl ⟨by rfl, ?_⟩) ?_ ?_
          rotate_left
          · intro w'
            go_simp
            with_reducible rfl
          rotate_left
          · simp only [Act.put, List.setIfInBounds_toArray, List.set_cons_zero, List.set_cons_succ, i64_w, i32_w]
            rfl
          refine pure_ (i := 6) (N := some 90) (v := ?_) (a' := ?_) #[true, true, true, true, true, true, true, false, false, false, false, false, false, false, false, false, false, false, false, false, false, false, false, false, false, false, false, false] rfl rfl (by kernel_rfl) (fun _ _ _ h => h) (Or.inl ⟨by rfl, ?_⟩) ?_ ?_
          rotate_left
          · intro w'
            go_simp
            with_reducible rfl
          rotate_left
          · simp only [Act.put, List.setIfInBounds_toArray, List.set_cons_zero, List.set_cons_succ, i64_w, i32_w]
            rfl
          refine pure_ (i := 7) (N := some 91) (v := ?_) (a' := ?_) #[true, true, true, true, true, true, true, true, false, false, false, false, false, false, false, false, false, false, false, false, false, false, false, false, false, false, false, false] rfl rfl (by kernel_rfl) (fun _ _ _ h => h) (Or.inl ⟨by rfl, ?_⟩) ?_ ?_
          rotate_left
          · intro w'
            go_simp
            with_reducible rfl
          rotate_left
          · simp only [Act.put, List.setIfInBounds_toArray, List.set_cons_zero, List.set_cons_succ, i64_w, i32_w]
            rfl
          refine take_ (i := 8) (N := some 92) (v := ?_) (a' := ?_) #[true, true, true, true, true, true, true, true, true, false, false, false, false, false, false, false, false, false, false, false, false, false, false, false, false, false, false, false] rfl rfl (by kernel_rfl) (fun _ _ _ h => h) (Or.inl ⟨by rfl, ?_⟩) hHeld ?_ ?_
          rotate_left
          · rintro w' ⟨s0, s1, s2, s3, s4, s5⟩
            go_simp
            with_reducible rfl
          rotate_left
          · simp only [Act.put, List.setIfInBounds_toArray, List.set_cons_zero, List.set_cons_succ, i64_w, i32_w]
            rfl
          refine pure_ (i := 9) (N := some 93) (v := ?_) (a' := ?_) #[true, true, true, true, true, true, true, true, true, true, false, false, false, false, false, false, false, false, false, false, false, false, false, false, false, false, false, false] rfl rfl (by kernel_rfl) (fun _ _ _ h => h) (Or.inl ⟨by rfl, ?_⟩) ?_ ?_
          rotate_left
          · intro w'
            go_simp
            with_reducible rfl
          rotate_left
          · simp only [Act.put, List.setIfInBounds_toArray, List.set_cons_zero, List.set_cons_succ, i64_w, i32_w]
            rfl
          refine pure_ (i := 10) (N := some 94) (v := ?_) (a' := ?_) #[true, true, true, true, true, true, true, true, true, true, true, false, false, false, false, false, false, false, false, false, false, false, false, false, false, false, false, false] rfl rfl (by kernel_rfl) (fun _ _ _ h => h) (Or.inl ⟨by rfl, ?_⟩) ?_ ?_
          rotate_left
          · intro w'
            go_simp
            with_reducible rfl
          rotate_left
          · simp only [Act.put, List.setIfInBounds_toArray, List.set_cons_zero, List.set_cons_succ, i64_w, i32_w]
            rfl
          refine pure_ (i := 11) (N := some 95) (v := ?_) (a' := ?_) #[true, true, true, true, true, true, true, true, true, true, true, true, false, false, false, false, false, false, false, false, false, false, false, false, false, false, false, false] rfl rfl (by kernel_rfl) (fun _ _ _ h => h) (Or.inl ⟨by rfl, ?_⟩) ?_ ?_
          rotate_left
          · intro w'
            go_simp
            with_reducible rfl
          rotate_left
          · simp only [Act.put, List.setIfInBounds_toArray, List.set_cons_zero, List.set_cons_succ, i64_w, i32_w]
            rfl
          refine pure_ (i := 12) (N := some 96) (v := ?_) (a' := ?_) #[true, true, true, true, true, true, true, true, true, true, true, true, true, false, false, false, false, false, false, false, false, false, false, false, false, false, false, false] rfl rfl (by kernel_rfl) (fun _ _ _ h => h) (Or.inl ⟨by rfl, ?_⟩) ?_ ?_
          rotate_left
          · intro w'
            go_simp
            with_reducible rfl
          rotate_left
          · simp only [Act.put, List.setIfInBounds_toArray, List.set_cons_zero, List.set_cons_succ, i64_w, i32_w]
            rfl
          refine pure_ (i := 13) (N := some 97) (v := ?_) (a' := ?_) #[true, true, true, true, true, true, true, true, true, true, true, true, true, true, false, false, false, false, false, false, false, false, false, false, false, false, false, false] rfl rfl (by kernel_rfl) (fun _ _ _ h => h) (Or.inl ⟨by rfl, ?_⟩) ?_ ?_
          rotate_left
          · intro w'
            go_simp
            with_reducible rfl
          rotate_left
          · simp only [Act.put, List.setIfInBounds_toArray, List.set_cons_zero, List.set_cons_succ, i64_w, i32_w]
            rfl
          refine pure_ (i := 14) (N := some 98) (v := ?_) (a' := ?_) #[true, true, true, true, true, true, true, true, true, true, true, true, true, true, true, false, false, false, false, false, false, false, false, false, false, false, false, false] rfl rfl (by kernel_rfl) (fun _ _ _ h => h) (Or.inl ⟨by rfl, ?_⟩) ?_ ?_
          rotate_left
          · intro w'
            go_simp
            with_reducible rfl
          rotate_left
          · simp only [Act.put, List.setIfInBounds_toArray, List.set_cons_zero, List.set_cons_succ, i64_w, i32_w]
            rfl
          refine pure_ (i := 15) (N := some 99) (v := ?_) (a' := ?_) #[true, true, true, true, true, true, true, true, true, true, true, true, true, true, true, true, false, false, false, false, false, false, false, false, false, false, false, false] rfl rfl (by kernel_rfl) (fun _ _ _ h => h) (Or.inl ⟨by rfl, ?_⟩) ?_ ?_
          rotate_left
          · intro w'
            go_simp
            with_reducible rfl
          rotate_left
          · simp only [Act.put, List.setIfInBounds_toArray, List.set_cons_zero, List.set_cons_succ, i64_w, i32_w]
            rfl
          refine pure_ (i := 16) (N := some 100) (v := ?_) (a' := ?_) #[true, true, true, true, true, true, true, true, true, true, true, true, true, true, true, true, true, false, false, false, false, false, false, false, false, false, false, false] rfl rfl (by kernel_rfl) (fun _ _ _ h => h) (Or.inl ⟨by rfl, ?_⟩) ?_ ?_
          rotate_left
          · intro w'
            go_simp
            with_reducible rfl
          rotate_left
          · simp only [Act.put, List.setIfInBounds_toArray, List.set_cons_zero, List.set_cons_succ, i64_w, i32_w]
            rfl
          refine pure_ (i := 17) (N := some 101) (v := ?_) (a' := ?_) #[true, true, true, true, true, true, true, true, true, true, true, true, true, true, true, true, true, true, false, false, false, false, false, false, false, false, false, false] rfl rfl (by kernel_rfl) (fun _ _ _ h => h) (Or.inl ⟨by rfl, ?_⟩) ?_ ?_
          rotate_left
          · intro w'
            go_simp
            with_reducible rfl
          rotate_left
          · simp only [Act.put, List.setIfInBounds_toArray, List.set_cons_zero, List.set_cons_succ, i64_w, i32_w]
            rfl
          refine pure_ (i := 18) (N := some 102) (v := ?_) (a' := ?_) #[true, true, true, true, true, true, true, true, true, true, true, true, true, true, true, true, true, true, true, false, false, false, false, false, false, false, false, false] rfl rfl (by kernel_rfl) (fun _ _ _ h => h) (Or.inl ⟨by rfl, ?_⟩) ?_ ?_
          rotate_left
          · intro w'
            go_simp
            with_reducible rfl
          rotate_left
          · simp only [Act.put, List.setIfInBounds_toArray, List.set_cons_zero, List.set_cons_succ, i64_w, i32_w]
            rfl
          refine pure_ (i := 20) (N := some 104) (v := ?_) (a' := ?_) #[true, true, true, true, true, true, true, true, true, true, true, true, true, true, true, true, true, true, true, false, true, false, false, false, false, false, false, false] rfl rfl (by kernel_rfl) (fun _ _ _ h => h) (Or.inl ⟨by rfl, ?_⟩) ?_ ?_
          rotate_left
          · intro w'
            go_simp
            with_reducible rfl
          rotate_left
          · simp only [Act.put, List.setIfInBounds_toArray, List.set_cons_zero, List.set_cons_succ, i64_w, i32_w]
            rfl
          refine pure_ (i := 21) (N := some 105) (v := ?_) (a' := ?_) #[true, true, true, true, true, true, true, true, true, true, true, true, true, true, true, true, true, true, true, false, true, true, false, false, false, false, false, false] rfl rfl (by kernel_rfl) (fun _ _ _ h => h) (Or.inl ⟨by rfl, ?_⟩) ?_ ?_
          rotate_left
          · intro w'
            go_simp
            with_reducible rfl
          rotate_left
          · simp only [Act.put, List.setIfInBounds_toArray, List.set_cons_zero, List.set_cons_succ, i64_w, i32_w]
            rfl
          refine pure_ (i := 22) (N := some 106) (v := ?_) (a' := ?_) #[true, true, true, true, true, true, true, true, true, true, true, true, true, true, true, true, true, true, true, false, true, true, true, false, false, false, false, false] rfl rfl (by kernel_rfl) (fun _ _ _ h => h) (Or.inl ⟨by rfl, ?_⟩) ?_ ?_
          rotate_left
          · intro w'
            go_simp
            with_reducible rfl
          rotate_left
          · simp only [Act.put, List.setIfInBounds_toArray, List.set_cons_zero, List.set_cons_succ, i64_w, i32_w]
            rfl
          refine take_ (i := 23) (N := some 107) (v := ?_) (a' := ?_) #[true, true, true, true, true, true, true, true, true, true, true, true, true, true, true, true, true, true, true, false, true, true, true, true, false, false, false, false] rfl rfl (by kernel_rfl) (fun _ _ _ h => h) (Or.inl ⟨by rfl, ?_⟩) hHeld ?_ ?_
          rotate_left
          · rintro w' ⟨s0, s1, s2, s3, s4, s5⟩
            go_simp
            with_reducible rfl
          rotate_left
          · simp only [Act.put, List.setIfInBounds_toArray, List.set_cons_zero, List.set_cons_succ, i64_w, i32_w]
            rfl
          refine one_ (i := 19) (N := some 103) #[true, true, true, true, true, true, true, true, true, true, true, true, true, true, true, true, true, true, true, true, true, true, true, true, false, false, false, false] rfl rfl (by kernel_rfl) (by decide) (fun K hK => ?_)
          refine goes_ (f := 21) Try.func21 (by kernel_rfl) rfl #[.pointer (some ⟨g, 0, none⟩), .int .i64 (i : Int)] (by rfl) rfl rfl (by simp [Act.eval]) ?_
          refine (way_to g m es (i : Int) w7 _ _ HG7.out HK.out HN.out hi0 hi1 HGT.out).mono ?_
          rintro e w8 ⟨v8, pl, rfl, hpl, hv8, hb8⟩
          obtain ⟨A9, c9, rfl, _, hC9⟩ := Kd.R_reads hv8
          refine ⟨_, rfl, ?_⟩
          have HG8 := Aside0.mk (Gr.below HG7.out hb8); have HC8 := Aside0.mk (Kd.C_below HC7.out hb8); have HX8 := Aside0.mk (Kd.C_below HX7.out hb8); have HY8 := Aside0.mk (Kd.C_below HY7.out hb8); have HW8 := Aside0.mk (Kd.C_below HW7.out hb8); have HB8 := Aside0.mk (below_then HB7.out HB7.out.size hb8); have HP8 := Aside0.mk hC9; have HPN := Aside0.mk hpl.2.2
          have HON := Aside0.mk (on_way HK.out.inn HIN.out hi0 hi1 HHF.out hpl.1 hpl.2.1)
          rw [HE0.out] at HON
          have cc := fun {p : Addr} {v : Value} (h : w7.cell? p = some v) => (hb8.cell (World.block_lt_of_cell? _ _ h)).trans h
          refine hK.out _ _ ⟨cc x7, cc y7, cc p0, cc p1, cc p2, cc p3⟩ (fun hHeld => ?_)
          clear hK K cc hb8 hv8 hC9 hpl x7 y7 p0 p1 p2 p3 HG7 HC7 HX7 HY7 HW7 HB7
          refine norm_ (a' := ?_) ?_ ?_
          rotate_left
          · show Act.put _ (some 103) _ = _
            simp only [Act.put, List.setIfInBounds_toArray, List.set_cons_zero, List.set_cons_succ]
            rfl
          refine last_ (i := 24) (N := some 108) #[true, true, true, true, true, true, true, true, true, true, true, true, true, true, true, true, true, true, true, true, true, true, true, true, true, false, false, false] rfl rfl (by kernel_rfl) (by decide) (fun K hK => ?_)
          refine goes_ (f := 20) Try.func20 (by kernel_rfl) rfl #[.slice A9 pl.length c9, .agg #[.int .i64 ea, .int .i64 eb, .int .i64 ec, .int .i64 ed]] (by rfl) rfl rfl (by simp [Act.eval]) ?_
          refine (find_yes pl ⟨ea, eb, ec, ed⟩ A9 c9 w8 HP8.out HPN.out HON.out).mono ?_
          rintro e w9 ⟨rfl, hb9⟩
          refine ⟨_, rfl, ?_⟩
          have HG9 := Aside0.mk (Gr.below HG8.out hb9); have HC9 := Aside0.mk (Kd.C_below HC8.out hb9); have HX9 := Aside0.mk (Kd.C_below HX8.out hb9); have HY9 := Aside0.mk (Kd.C_below HY8.out hb9); have HW9 := Aside0.mk (Kd.C_below HW8.out hb9); have HB9 := Aside0.mk (below_then HB8.out HB8.out.size hb9)
          refine hK.out _ _ ?_
          clear hK K hHeld hb9 HG8 HC8 HX8 HY8 HW8 HB8 HP8
          refine norm_ (a' := ?_) ?_ ?_
          rotate_left
          · show Act.put _ (some 108) _ = _
            simp only [Act.put, List.setIfInBounds_toArray, List.set_cons_zero, List.set_cons_succ]
            rfl
          refine last_ (i := 25) (N := some 109) #[true, true, true, true, true, true, true, true, true, true, true, true, true, true, true, true, true, true, true, true, true, true, true, true, true, true, false, false] rfl rfl (by kernel_rfl) (by decide) (fun K hK => ?_)
          refine goes_ (f := 19) Try.func19 (by kernel_rfl) rfl #[.slice A100 1 (c8 - k), .agg #[.int .i64 ea, .int .i64 eb, .int .i64 ec, .int .i64 ed]] (by rfl) rfl rfl (by simp [Act.eval]) ?_
          refine (in_one ⟨ea, eb, ec, ed⟩ A100 (c8 - k) w9 (HONE.out w9 HC9.out) (by omega)).mono ?_
          rintro e w10 ⟨rfl, hb10⟩
          refine ⟨_, rfl, ?_⟩
          have HG10 := Aside0.mk (Gr.below HG9.out hb10); have HC10 := Aside0.mk (Kd.C_below HC9.out hb10); have HX10 := Aside0.mk (Kd.C_below HX9.out hb10); have HY10 := Aside0.mk (Kd.C_below HY9.out hb10); have HW10 := Aside0.mk (Kd.C_below HW9.out hb10); have HB10 := Aside0.mk (below_then HB9.out HB9.out.size hb10)
          refine hK.out _ _ ?_
          clear hK K hb10 HG9 HC9 HX9 HY9 HW9 HB9
          refine norm_ (a' := ?_) ?_ ?_
          rotate_left
          · show Act.put _ (some 109) _ = _
            simp only [Act.put, List.setIfInBounds_toArray, List.set_cons_zero, List.set_cons_succ]
            rfl
          refine pure_ (i := 26) (N := some 110) (v := ?_) (a' := ?_) #[true, true, true, true, true, true, true, true, true, true, true, true, true, true, true, true, true, true, true, true, true, true, true, true, true, true, true, false] rfl rfl (by kernel_rfl) (fun _ _ _ h => h) (Or.inl ⟨by rfl, ?_⟩) ?_ ?_
          rotate_left
          · intro w'
            go_simp
            with_reducible rfl
          rotate_left
          · simp only [Act.put, List.setIfInBounds_toArray, List.set_cons_zero, List.set_cons_succ, i64_w, i32_w]
            rfl
          refine pure_ (i := 27) (N := some 111) (v := ?_) (a' := ?_) #[true, true, true, true, true, true, true, true, true, true, true, true, true, true, true, true, true, true, true, true, true, true, true, true, true, true, true, true] rfl rfl (by kernel_rfl) (fun _ _ _ h => h) (Or.inl ⟨by rfl, ?_⟩) ?_ ?_
          rotate_left
          · intro w'
            go_simp
            with_reducible rfl
          rotate_left
          · simp only [Act.put, List.setIfInBounds_toArray, List.set_cons_zero, List.set_cons_succ, i64_w, i32_w]
            rfl
          refine done_ (by kernel_rfl) ?_
          go_wp2
          go_roundg (m - i)
          case measure => have := HK2.out; have := HI.out; omega
          case rel => exact ⟨i + 1, val_succ (n := m) HI.out (by have := HN.out; omega), ⟨by have := HK2.out; have := HI.out; omega, by have := HI.out; omega⟩, HG10, HC10, HX10, HY10, HW10, HB10⟩
    · obtain rfl : m = i := by have := HK2.out; omega
      have hid : decide ((m : Int) < (m : Int)) = false := decide_eq_false (by omega)
      clear hi HK2
      go_wp2
      go_ret
      exact ⟨rfl, HB.out⟩
theorem GraphWithout_any (n : Int) (l : List S29) (A : Option Addr) (c : Nat) (edge : Int) (w : World) (hw : (Lit.int .i64 n).wf = true) (hr : Kd.C k29 w A l.length l) (hw2 : (Lit.int .i64 edge).wf = true) :
    Calls Try.prog 6 #[.int .i64 n, .slice A l.length c, .int .i64 edge] w fun e w' => e = .returned (.bool true) ∧ Below w.heap.size w w' := by
  by_cases h : n < 0 ∨ 60 < n ∨ 150 < l.length
  · exact GraphWithout_early n A _ c _ w h
  · obtain ⟨m, rfl⟩ : ∃ m : Nat, n = (m : Int) := ⟨n.toNat, by omega⟩
    by_cases h2 : 0 ≤ edge ∧ edge < (addAll (m : Int) l).length
    · obtain ⟨k, rfl⟩ : ∃ k : Nat, edge = (k : Int) := ⟨edge.toNat, by omega⟩
      exact GraphWithout_in m l A c k w (by omega) (by omega) hr hw2 (by omega)
    · exact GraphWithout_out m l A c edge w (by omega) (by omega) hr hw2 h2
end Go.Proofs.Ytlkmkoajfdmbeaa.PGraphWithout
