/- The law GraphPaths, walked: it returns true. No condition but that the slice is read. -/
import Derived.Test.YtlkmkoajfdmbeaaHb
import Derived.Test.YtlkmkoajfdmbeaaGz
namespace Go.Proofs.Ytlkmkoajfdmbeaa.PGraphWithout
open Go.RowKit Go.Proofs.YtlkmkoajfdmbeaaW.PrintWords Go.Proofs.YtlkmkoajfdmbeaaW.PrintLast Go.Proofs.YtlkmkoajfdmbeaaW.PrintMore
open Go.Maps Go.MapKept Go.ChangeShapes
set_option linter.unusedVariables false
set_option linter.unusedSimpArgs false

/-- What the way to a node is: where null comes, a chain of edges that is as long as is told; else none. -/
def Way (m : Nat) (es : List S29) (D : List Int) (node : Int) (pl : List S29) : Prop :=
  (0 ≤ node ∧ node < m ∧ 0 ≤ rd D node ∧ (pl.length : Int) = rd D node ∧ Chain (-1) pl node ∧ ∀ e ∈ pl, e ∈ es) ∨ ((node < 0 ∨ (m : Int) ≤ node ∨ rd D node < 0) ∧ pl = [])
theorem far_small {n : Nat} {es : List S29} (L : Nat → Nat) (h : ∀ i, i < n → ∃ (K : Nat) (r : List S29), K ≤ 100000 ∧ pathL es (walkF n es (fun _ => false) (-1)) K (i : Int) [] = some r ∧ r.length = L i ∧ L i ≤ 100000) {a : Int} (h0 : 0 ≤ a) (h1 : a < n) : rd ((List.range n).map (farV L)) a ≤ 100000 := by
  obtain ⟨_, _, _, _, _, h2⟩ := h a.toNat (by omega)
  unfold rd
  rw [List.getD_eq_getElem?_getD, List.getElem?_map, List.getElem?_range (by omega)]
  show farV L a.toNat ≤ 100000
  unfold farV
  split <;> omega
theorem in_yes (es : List S29) (ms : List S41) (x : S29) (A : Option Addr) (c : Nat) (w : World) (hr : Kd.C k41 w A ms.length ms) (hc : ms.length ≤ c) (hn : ms.length ≤ 100000) (hm : ms = es.map to41) (hx : x ∈ es) :
    Calls Try.prog 19 #[.slice A ms.length c, .agg #[.int .i64 x.f0, .int .i64 x.f1, .int .i64 x.f2, .int .i64 x.f3]] w fun e w' => e = .returned (.bool true) ∧ Below w.heap.size w w' := by
  have h := in_any ms x A c w hr hc hn
  have h2 : ms.any (fun y => same41 y x) = true := by rw [hm]; exact in_mem.2 hx
  rw [h2] at h
  exact h
theorem GraphPaths_early (n : Int) (A : Option Addr) (len c : Nat) (v2 : Value) (w : World) (h : n < 0 ∨ 60 < n ∨ 150 < len) :
    Calls Try.prog 7 #[.int .i64 n, .slice A len c, v2] w fun e w' => e = .returned (.bool true) ∧ Below w.heap.size w w' := by
  have H := Aside0.mk h
  clear h
  go_enter Try.func7, Try.ntmps7
  go_wp2_with (first
    | (go_at_call 8; (with_reducible refine (comes_any w).mono ?_); rintro e w1 ⟨rfl, hb1⟩; have HB1 := Aside0.mk hb1; clear hb1)
    | (go_at_call 13; refine (build_no n A len c _ H.out).mono ?_; rintro e w2 ⟨rfl, rfl⟩))
  go_ret
  exact ⟨rfl, HB1.out⟩
/-- The way, as Path tells it. -/
theorem way_any (g m : Nat) (es : List S29) (D : List Int) (node : Int) (w : World) (base : Nat) (ok : Nat → Prop) (h : Gr w base ok g (m : Int) es) (hk : Gok m es) (hm : m ≤ 60)
    (hD : ∀ a : Int, 0 ≤ a → a < m → ∃ r : List S29, pathL es (walkF m es (fun _ => false) (-1)) (m + 1) a [] = some r ∧ (0 ≤ rd D a → (r.length : Int) = rd D a ∧ Chain (-1) r.reverse a ∧ ∀ e ∈ r, e ∈ es) ∧ (rd D a < 0 → r = [])) :
    Calls Try.prog 21 #[.pointer (some ⟨g, 0, none⟩), .int .i64 node] w fun e w' => ∃ v pl, e = .returned v ∧ Way m es D node pl ∧ Kd.R k29 29 w' w.heap.size (fun _ => True) v pl ∧ Below w.heap.size w w' := by
  by_cases hx : node < 0 ∨ (m : Int) ≤ node
  · refine (path_out g m es node w base ok h hx).mono ?_
    rintro e w' ⟨v, rfl, hv, hb⟩
    exact ⟨v, [], rfl, .inr ⟨by omega, rfl⟩, hv, hb⟩
  · obtain ⟨r, hr, h1, h2⟩ := hD node (by omega) (by omega)
    refine (path_any g m es node (m + 1) r w base ok h hk (by omega) (by omega) (by omega) (walk_val hk.inn) hr).mono ?_
    rintro e w' ⟨v, rfl, hv, hb⟩
    refine ⟨v, r.reverse, rfl, ?_, hv, hb⟩
    by_cases h3 : 0 ≤ rd D node
    · obtain ⟨h4, h5, h6⟩ := h1 h3
      exact .inl ⟨by omega, by omega, h3, by rw [List.length_reverse]; exact h4, h5, fun e he => h6 e (List.mem_reverse.1 he)⟩
    · rw [h2 (by omega)]
      exact .inr ⟨by omega, rfl⟩
set_option maxRecDepth 100000 in
set_option maxHeartbeats 8000000 in
theorem GraphPaths_late (m : Nat) (l : List S29) (A : Option Addr) (c : Nat) (node : Int) (w : World) (h1 : m ≤ 60) (hl : l.length ≤ 150) (hr : Kd.C k29 w A l.length l) :
    Calls Try.prog 7 #[.int .i64 (m : Int), .slice A l.length c, .int .i64 node] w fun e w' => e = .returned (.bool true) ∧ Below w.heap.size w w' := by
  have HR := Aside0.mk hr; have HN := Aside0.mk h1; have HL := Aside0.mk hl
  obtain ⟨es, hes⟩ : ∃ es, es = addAll (m : Int) l := ⟨_, rfl⟩
  have HE := Aside0.mk hes
  have HK := Aside0.mk (addAll_ok l h1 hl).1
  have HEL := Aside0.mk (addAll_ok l h1 hl).2
  rw [← hes] at HK HEL
  obtain ⟨ms, hms⟩ : ∃ ms, ms = es.map to41 := ⟨_, rfl⟩
  have HM := Aside0.mk hms
  have HML := Aside0.mk (show ms.length = es.length by rw [hms, List.length_map])
  obtain ⟨L, K, hK, hfar, hps, hway⟩ := paths_ok HK.out.inn h1
  rw [← hms] at hfar
  obtain ⟨D, hD⟩ : ∃ D, D = (List.range m).map (farV L) := ⟨_, rfl⟩
  rw [← hD] at hfar hway
  have HDD := Aside0.mk hD
  have HDL := Aside0.mk (show D.length = m by rw [hD]; simp)
  have HKK := Aside0.mk hK; have HFAR := Aside0.mk hfar; have HPS := Aside0.mk hps; have HWAY := Aside0.mk hway
  have hu29 := Try.underlying29
  clear hr h1 hl hes hms hD hK hfar hps hway
  go_enter Try.func7, Try.ntmps7
  go_wp2_with (first
      | (go_at_call 8; (with_reducible refine (comes_any w).mono ?_); rintro e w1 ⟨rfl, hb1⟩; have HB1 := Aside0.mk hb1; clear hb1)
      | (go_at_call 13; refine (build_any (m : Int) l A c w1 (by omega) (by have := HN.out; omega) HL.out (Kd.C_below HR.out HB1.out)).mono ?_; rintro e w2 ⟨g, v, rfl, hg, hv, hb⟩; rw [← HE.out] at hg hv; rw [← HM.out] at hv; obtain ⟨A8, c8, rfl, hcl, hC⟩ := Kd.R_reads hv; have HG2 := Aside0.mk hg; have HC2 := Aside0.mk (And.intro hcl hC); have HB2 := Aside0.mk (below_then HB1.out HB1.out.size hb); clear hg hv hb hcl hC HB1)
      | (go_at_call 21; refine (way_any g m es D node _ _ _ HG2.out HK.out HN.out HWAY.out).mono ?_; rintro e w3 ⟨v, pl, rfl, hway, hv, hb⟩; obtain ⟨A10, c10, rfl, _, hC1⟩ := Kd.R_reads hv; have HPL := Aside0.mk hway; have HC3 := Aside0.mk (And.intro HC2.out.1 (Kd.C_below HC2.out.2 hb)); have HB3 := Aside0.mk (below_then HB2.out HB2.out.size hb); have HG3 := Aside0.mk (Gr.below HG2.out hb); have HX3 := Aside0.mk hC1; clear hv hb hC1 hway HB2 HC2 HG2)
      | (go_at_call 22; refine (far_any g m es L _ _ _ HG3.out HK.out (walk_val HK.out.inn) HPS.out).mono ?_; rintro e w4 ⟨v, rfl, hv, hb⟩; rw [← HDD.out] at hv; obtain ⟨A11, c11, hv3, _, hC1⟩ := Kd.R_reads hv; rw [HDL.out] at hv3; subst hv3; have HC4 := Aside0.mk (And.intro HC3.out.1 (Kd.C_below HC3.out.2 hb)); have HB4 := Aside0.mk (below_then HB3.out HB3.out.size hb); have HX4 := Aside0.mk (Kd.C_below HX3.out hb); have HY4 := Aside0.mk hC1; clear hv hb hC1 HB3 HC3 HG3 HX3)
      | (go_at_call 23; refine (rfar_any m ms K D A8 c8 _ HK.out.nodes (by rw [HM.out]; exact Inn.to41 HK.out.inn) (by have := HML.out; have := HEL.out; omega) HKK.out HC4.out.2 HFAR.out).mono ?_; rintro e w5 ⟨v, rfl, hv, hb⟩; obtain ⟨A12, c12, hv3, _, hC1⟩ := Kd.R_reads hv; rw [HDL.out] at hv3; subst hv3; have HC5 := Aside0.mk (And.intro HC4.out.1 (Kd.C_below HC4.out.2 hb)); have HB5 := Aside0.mk (below_then HB4.out HB4.out.size hb); have HX5 := Aside0.mk (Kd.C_below HX4.out hb); have HY5 := Aside0.mk (Kd.C_below HY4.out hb); have HW5 := Aside0.mk hC1; clear hv hb hC1 HB4 HC4 HX4 HY4))
  go_loopg [38] (m + 1) (fun kq v38 w' => ∃ i : Nat, v38 = .int .i64 (i : Int) ∧ Aside0 (i + kq = m + 1 ∧ i ≤ m) ∧ Aside0 (Kd.C k41 w' A8 ms.length ms) ∧ Aside0 (Kd.C k29 w' A10 pl.length pl) ∧ Aside0 (Kd.C (Kd.int .i64) w' A11 D.length D) ∧ Aside0 (Kd.C (Kd.int .i64) w' A12 D.length D) ∧ Aside0 (Below w.heap.size w w'))
  case atStart => exact ⟨0, rfl, ⟨by omega, by omega⟩, ⟨HC5.out.2⟩, HX5, HY5, HW5, HB5⟩
  case round =>
    have HCC := Aside0.mk HC5.out.1
    clear HC5 HX5 HY5 HW5 HB5
    obtain ⟨i, rfl, HK2, HC, HX, HY, HW, HB⟩ := hrel
    by_cases hi : i < m
    · have hid : decide ((i : Int) < (m : Int)) = true := decide_eq_true (by omega)
      have hi0 : 0 ≤ (i : Int) := by omega
      have hi1 : (i : Int) < (m : Int) := by omega
      obtain ⟨adf, eadf, y0⟩ := Kd.at_int HY.out (i : Int) hi0 (by rw [HDL.out]; exact hi1)
      obtain ⟨adg, eadg, z0⟩ := Kd.at_int HW.out (i : Int) hi0 (by rw [HDL.out]; exact hi1)
      obtain ⟨u, he⟩ : ∃ u, u = rd D (i : Int) := ⟨_, rfl⟩
      rw [← he] at y0 z0
      clear he
      simp only [Int.toNat_natCast] at y0 z0
      subst eadf
      subst eadg
      go_wp2
      go_quiet (fail)
      go_wp2
      go_roundg (m - i)
      case measure => have := HK2.out; omega
      case rel => exact ⟨i + 1, val_succ (n := m) (by omega) (by have := HN.out; omega), ⟨by have := HK2.out; omega, by omega⟩, ⟨Kd.C_drewN HC.out _⟩, ⟨Kd.C_drewN HX.out _⟩, ⟨Kd.C_drewN HY.out _⟩, ⟨Kd.C_drewN HW.out _⟩, ⟨pw_below_drewN HB.out _⟩⟩
    · obtain rfl : m = i := by have := HK2.out; omega
      have hid : decide ((m : Int) < (m : Int)) = false := decide_eq_false (by omega)
      clear hi HK2 HY
      rcases HPL.out with ⟨q0, q1, q2, q3, q4, q5⟩ | ⟨q0, rfl⟩
      · have f0 : decide (node < 0) = false := decide_eq_false (by omega)
        have f1 : decide ((m : Int) ≤ node) = false := decide_eq_false (by omega)
        obtain ⟨adn, eadn, n0⟩ := Kd.at_int HW.out node q0 (by rw [HDL.out]; exact q1)
        have hdn : rd D node = (pl.length : Int) := q3.symm
        rw [hdn] at n0
        have f2 : decide ((pl.length : Int) < 0) = false := decide_eq_false (by omega)
        subst eadn
        have HQ4 := Aside0.mk q4; have HQ5 := Aside0.mk q5
        have HPB := Aside0.mk (show pl.length ≤ 100000 by have h9 := far_small (n := m) (es := es) L HPS.out q0 q1; rw [← HDD.out] at h9; omega)
        clear q2 q3 q4 q5 HPL
        replace hdn := Aside0.mk hdn
        go_wp2
        clear n0 f0 f1 f2
        go_loopg [76, 14] (pl.length + 1) (fun kq v76 v14 w' => ∃ (j : Nat) (at_ : Int), v76 = .int .i64 (j : Int) ∧ v14 = .int .i64 at_ ∧ Aside0 (j + kq = pl.length + 1 ∧ j ≤ pl.length) ∧ Aside0 (Chain at_ (pl.drop j) node) ∧ Aside0 (Kd.C k41 w' A8 ms.length ms) ∧ Aside0 (Kd.C k29 w' A10 pl.length pl) ∧ Aside0 (Kd.C (Kd.int .i64) w' (some adn) D.length D) ∧ Aside0 (Below w.heap.size w w'))
        case atStart => exact ⟨0, -1, rfl, rfl, ⟨by omega, by omega⟩, ⟨by rw [List.drop_zero]; exact HQ4.out⟩, HC, HX, HW, HB⟩
        case round =>
          clear HC HX HW HB HQ4
          obtain ⟨j, at_, rfl, rfl, HK2, HCH, HC, HX, HW, HB⟩ := hrel
          by_cases hj : j < pl.length
          · have hjd : decide ((j : Int) < (pl.length : Int)) = true := decide_eq_true (by omega)
            have hj0 : 0 ≤ (j : Int) := by omega
            have hj1 : (j : Int) < (pl.length : Int) := by omega
            obtain ⟨ade, eade, x0, x1, x2, x3⟩ := at_T29 HX.out (j : Int) hj0 hj1
            obtain ⟨y, he⟩ : ∃ y, y = rd_T29 pl (j : Int) := ⟨_, rfl⟩
            have hym : y = pl[j] := by rw [he]; simp [rd_T29, List.getD_eq_getElem?_getD, List.getElem?_eq_getElem hj]
            have HYE := Aside0.mk (HQ5.out y (by rw [hym]; exact List.getElem_mem hj))
            have hd : pl.drop j = y :: pl.drop (j + 1) := by rw [List.drop_eq_getElem_cons hj, hym]
            rw [hd] at HCH
            rw [← he] at x0 x1 x2 x3
            clear he hd hym
            obtain ⟨fr, tz, wy, sa⟩ := y
            simp only at x0 x1 x2 x3
            simp only [Int.toNat_natCast] at x0 x1 x2 x3
            obtain rfl : fr = at_ := HCH.out.1
            have HCH2 := Aside0.mk HCH.out.2
            subst eade
            have HJ := Aside0.mk hj
            clear hj HCH
            have hcut := below_alloc (Below.refl wr.heap.size wr) (.cells #[.int .i64 fr, .int .i64 tz, .int .i64 wy, .int .i64 sa] 29)
            have HC2 := Aside0.mk (Kd.C_below HC.out hcut)
            have HX2 := Aside0.mk (Kd.C_below HX.out hcut)
            have HW2 := Aside0.mk (Kd.C_below HW.out hcut)
            have HB2 := Aside0.mk (below_then HB.out HB.out.size hcut)
            have HP2 := Aside0.mk (blk_new wr (.cells #[.int .i64 fr, .int .i64 tz, .int .i64 wy, .int .i64 sa] 29))
            have z0 := blk_cell HP2.out 0
            have z1 := blk_cell HP2.out 1
            have z2 := blk_cell HP2.out 2
            have z3 := blk_cell HP2.out 3
            simp only [List.getElem?_toArray, List.getElem?_cons_zero, List.getElem?_cons_succ] at z0 z1 z2 z3
            have e1 : (fr != fr) = false := by simp
            clear hcut
            go_wp2_with (first
              | (go_at_call 19; refine (in_yes es ms ⟨fr, tz, wy, sa⟩ A8 c8 _ HC2.out HCC.out (by have := HML.out; have := HEL.out; omega) HM.out HYE.out).mono ?_; rintro e w6 ⟨rfl, hb⟩; have HC3 := Aside0.mk (Kd.C_below HC2.out hb); have HX3 := Aside0.mk (Kd.C_below HX2.out hb); have HW3 := Aside0.mk (Kd.C_below HW2.out hb); have HB3 := Aside0.mk (below_then HB2.out HB2.out.size hb); have HP3 := Aside0.mk (blk_below HP2.out hb); have c1 := blk_cell HP3.out 1; simp only [List.getElem?_toArray, List.getElem?_cons_zero, List.getElem?_cons_succ] at c1; clear hb HC2 HX2 HW2 HB2 HP2 z0 z1 z2 z3))
            go_roundg (pl.length - j)
            case measure => have := HK2.out; have := HJ.out; omega
            case rel => exact ⟨j + 1, tz, val_succ HJ.out (by have := HPB.out; omega), rfl, ⟨by have := HK2.out; have := HJ.out; omega, by have := HJ.out; omega⟩, HCH2, HC3, HX3, HW3, HB3⟩
          · obtain rfl : j = pl.length := by have := HK2.out; omega
            have hjd : decide ((pl.length : Int) < (pl.length : Int)) = false := decide_eq_false (by omega)
            clear hj HK2
            rw [List.drop_length] at HCH
            obtain rfl : at_ = node := HCH.out
            obtain ⟨adn2, eadn, n0⟩ := Kd.at_int HW.out at_ q0 (by rw [HDL.out]; exact q1)
            obtain rfl : adn = adn2 := by injection eadn
            rw [hdn.out] at n0
            have e1 : (at_ == at_) = true := by simp
            have e2 : ((pl.length : Int) == (pl.length : Int)) = true := by simp
            go_wp2
            go_ret
            exact ⟨by simp, HB.out⟩
      · by_cases g0 : node < 0
        · have f0 : decide (node < 0) = true := decide_eq_true g0
          clear HPL q0 g0
          go_wp2
          go_ret
          exact ⟨rfl, HB.out⟩
        · have f0 : decide (node < 0) = false := decide_eq_false g0
          by_cases g1 : (m : Int) ≤ node
          · have f1 : decide ((m : Int) ≤ node) = true := decide_eq_true g1
            clear HPL q0 g0 g1
            go_wp2
            go_ret
            exact ⟨rfl, HB.out⟩
          · have f1 : decide ((m : Int) ≤ node) = false := decide_eq_false g1
            obtain ⟨adn, eadn, n0⟩ := Kd.at_int HW.out node (by omega) (by rw [HDL.out]; omega)
            have hneg : rd D node < 0 := by omega
            generalize rd D node = z at n0 hneg
            have f2 : decide (z < 0) = true := decide_eq_true hneg
            have g2 : 0 ≤ node := by omega
            have g3 : node < (m : Int) := by omega
            subst eadn
            clear HPL q0 g0 g1 hneg
            go_wp2
            go_ret
            exact ⟨rfl, HB.out⟩
theorem GraphPaths_any (n : Int) (l : List S29) (A : Option Addr) (c : Nat) (node : Int) (w : World) (hw : (Lit.int .i64 n).wf = true) (hr : Kd.C k29 w A l.length l) (hw2 : (Lit.int .i64 node).wf = true) :
    Calls Try.prog 7 #[.int .i64 n, .slice A l.length c, .int .i64 node] w fun e w' => e = .returned (.bool true) ∧ Below w.heap.size w w' := by
  by_cases h : n < 0 ∨ 60 < n ∨ 150 < l.length
  · exact GraphPaths_early n A _ c _ w h
  · obtain ⟨m, rfl⟩ : ∃ m : Nat, n = (m : Int) := ⟨n.toNat, by omega⟩
    exact GraphPaths_late m l A c node w (by omega) (by omega) hr
end Go.Proofs.Ytlkmkoajfdmbeaa.PGraphWithout
