/- The law GraphAdds, walked: it returns true. No condition but that the slice is read. -/
import Derived.Test.YtlkmkoajfdmbeaaGm
namespace Go.Proofs.Ytlkmkoajfdmbeaa.PGraphWithout
open Go.RowKit Go.Proofs.YtlkmkoajfdmbeaaW.PrintWords Go.Proofs.YtlkmkoajfdmbeaaW.PrintLast Go.Proofs.YtlkmkoajfdmbeaaW.PrintMore
open Go.Maps Go.MapKept Go.ChangeShapes
set_option linter.unusedVariables false
set_option linter.unusedSimpArgs false
attribute [local go_sem high] eqA29

theorem Gr.lower {w : World} {b1 base : Nat} {ok : Nat → Prop} {g : Nat} {n : Int} {es : List S29} (h : Gr w b1 ok g n es) (hb : base ≤ b1) : Gr w base ok g n es := by
  obtain ⟨v, b, D, hg, okg, bg, hR, okb, bb, hG, hS, hD⟩ := h
  exact ⟨v, b, D, hg, okg, by omega, Kd.R_lower hR hb, okb, by omega, hG, hS, hD⟩
theorem blk_below {w w1 : World} {k : Nat} {o : Obj} (h : w.heap[k]? = some o) (hb : Below w.heap.size w w1) : w1.heap[k]? = some o := (hb.block k (Array.getElem?_eq_some_iff.1 h).1).trans h
theorem add_own {w w1 : World} {base s : Nat} {ok : Nat → Prop} {v : Value} {es : List S29} (h : Kd.R k29 29 w base ok v es) (hk : Kept w w1 (fun k => some k ≠ v.ownBlock ∧ k ≠ s)) : Kd.R k29 29 w1 base (fun _ => True) v es :=
  Kd.R_mono (Kd.R_step (Kd.R_tight rfl h) (fun k hb hlt => hk.2 k hlt (fun hs => hs.1 hb))) (fun _ _ => trivial)
theorem add_gr {w w1 : World} {base s : Nat} {ok : Nat → Prop} {v : Value} {es zs : List S29} {g : Nat} {n : Int} (h : Kd.R k29 29 w base ok v es) (hg : Gr w1 base (fun k => (some k ≠ v.ownBlock ∧ k ≠ s) ∨ w.heap.size ≤ k) g n zs) : Gr w1 base (fun k => some k ≠ v.ownBlock) g n zs := by
  refine Gr.mono hg (fun k hk => ?_)
  rcases hk with hk | hk
  · exact hk.1
  · intro he
    obtain ⟨inner, ho⟩ := Kd.R_own h
    have := own_lt ho k he.symm
    omega
theorem app_gr {w w1 : World} {base : Nat} {v v1 : Value} {zs : List S29} {g : Nat} {n : Int} (h : Gr w base (fun k => some k ≠ v.ownBlock) g n zs) (hg : w.grownBy w1 v.ownBlock) (hat : v1.ownBlock = v.ownBlock ∨ ∃ b, v1.ownBlock = some b ∧ w.heap.size ≤ b) : Gr w1 base (fun k => some k ≠ v1.ownBlock) g n zs := by
  refine Gr.mono (Gr.move (Gr.bound h) (fun k hk hlt => hg.block k hlt hk.1)) (fun k hk => ?_)
  rcases hat with hat | ⟨b, hb, hle⟩
  · rw [hat]; exact hk.1
  · rw [hb]
    intro he
    injection he with he
    have := hk.2.2
    omega
theorem val_succ {i n : Nat} (h : i < n) (hn : n ≤ 100000000) : Value.int .i64 (wrap64 ((i : Int) + 1)) = .int .i64 ((i + 1 : Nat) : Int) := by
  rw [wrap_succ (n := n) (by omega) (by omega) (by omega)]
  rfl
/-- What is wanted of Add. -/
def wantF (b : Bool) (x : S29) (l : List S29) : Int := if b then 1 else if l.any (same29 x) then 4 else 0
theorem add_law (g : Nat) (n : Int) (es : List S29) (x : S29) (w0 w : World) (base : Nat) (ok : Nat → Prop) (h : Gr w base ok g n es) (hB : Below base w0 w) (hle : base ≤ w.heap.size) (hn : n ≤ 8192) (hl : es.length < 16384) :
    Calls Try.prog 10 #[.pointer (some ⟨g, 0, none⟩), .agg #[.int .i64 x.f0, .int .i64 x.f1, .int .i64 x.f2, .int .i64 x.f3]] w fun e w' => e = .returned (.int .i64 (wantF (badB n x) x es)) ∧ Gr w' base (fun k => ok k ∨ w.heap.size ≤ k) g n (addE n es x) ∧ Below base w0 w' ∧ Kept w w' ok := by
  have lift : ∀ {w' : World}, Below w.heap.size w w' → addE n es x = es → Gr w' base (fun k => ok k ∨ w.heap.size ≤ k) g n (addE n es x) ∧ Below base w0 w' ∧ Kept w w' ok := fun hb ha => by
    rw [ha]
    exact ⟨(h.below hb).mono (fun _ hk => .inl hk), below_then hB hle hb, ⟨hb.size, fun k hk _ => hb.block k hk⟩⟩
  cases hbb : badB n x with
  | true =>
    refine (add_bad g n es x w base ok h (badB_iff.1 hbb)).mono ?_
    rintro e w' ⟨rfl, hb⟩
    exact ⟨by rw [show wantF true x es = 1 from rfl], lift hb (by unfold addE; rw [hbb]; rfl)⟩
  | false =>
    have hnb : ¬ bad n x := fun hc => by rw [badB_iff.2 hc] at hbb; cases hbb
    unfold bad at hnb
    cases ht : es.any (same29 x) with
    | true =>
      refine (add_twice g n es x w0 w base ok h hB hle (by omega) (by omega) (by omega) (by omega) hn (by omega) ht).mono ?_
      rintro e w' ⟨rfl, hb⟩
      exact ⟨by unfold wantF; rw [ht]; rfl, lift hb (by unfold addE; rw [hbb, ht]; rfl)⟩
    | false =>
      refine (add_ok g n es x w0 w base ok h hB hle (by omega) (by omega) (by omega) (by omega) hn (by omega) ht hl).mono ?_
      rintro e w' ⟨rfl, hg, hb, hk⟩
      have ha : addE n es x = es ++ [x] := by unfold addE; rw [hbb, ht]; rfl
      rw [ha]
      exact ⟨by unfold wantF; rw [ht]; rfl, hg, hb, hk⟩
theorem want_step {b : Bool} {x y : S29} {l : List S29} {j : Nat} (hj : j < l.length) (hy : rd_T29 l (j : Int) = y) :
    (same29 x y = false → wantF b x (l.take (j + 1)) = wantF b x (l.take j)) ∧ (same29 x y = true → (wantF b x (l.take j) == 0) = false → wantF b x (l.take (j + 1)) = wantF b x (l.take j)) ∧ (same29 x y = true → (wantF b x (l.take j) == 0) = true → wantF b x (l.take (j + 1)) = 4) := by
  have ht : l.take (j + 1) = l.take j ++ [y] := by
    rw [List.take_succ_eq_append_getElem hj, ← hy]
    simp [rd_T29, List.getD_eq_getElem?_getD, List.getElem?_eq_getElem hj]
  unfold wantF
  rw [ht, List.any_append, List.any_cons, List.any_nil, Bool.or_false]
  cases b <;> cases (l.take j).any (same29 x) <;> cases same29 x y <;> simp
theorem want_zero {n : Int} {x : S29} {l : List S29} : ((wantF (badB n x) x l == 0) = true → addE n l x = l ++ [x]) ∧ ((wantF (badB n x) x l == 0) = false → addE n l x = l) := by
  unfold wantF addE
  cases badB n x <;> cases l.any (same29 x) <;> simp
theorem bad_cases (n a b c d : Int) : (decide (a < -1) = true ∧ badB n ⟨a, b, c, d⟩ = true) ∨ ((decide (a < -1) = false ∧ decide (n ≤ a) = true) ∧ badB n ⟨a, b, c, d⟩ = true) ∨ ((decide (a < -1) = false ∧ decide (n ≤ a) = false ∧ decide (b < 0) = true) ∧ badB n ⟨a, b, c, d⟩ = true) ∨
    ((decide (a < -1) = false ∧ decide (n ≤ a) = false ∧ decide (b < 0) = false ∧ decide (n ≤ b) = true) ∧ badB n ⟨a, b, c, d⟩ = true) ∨ ((decide (a < -1) = false ∧ decide (n ≤ a) = false ∧ decide (b < 0) = false ∧ decide (n ≤ b) = false) ∧ badB n ⟨a, b, c, d⟩ = false) := by
  unfold badB
  simp only
  cases decide (a < -1) <;> cases decide (n ≤ a) <;> cases decide (b < 0) <;> cases decide (n ≤ b) <;> simp
theorem GraphAdds_early (n : Int) (A : Option Addr) (len c : Nat) (w : World) (h : 150 < len ∨ 9000 < n ∨ n < 0 ∨ 8192 < n) :
    Calls Try.prog 3 #[.int .i64 n, .slice A len c] w fun e w' => e = .returned (.bool true) ∧ Below w.heap.size w w' := by
  by_cases h1 : 150 < len
  · have d1 : decide (150 < (len : Int)) = true := decide_eq_true (by omega)
    clear h
    go_enter Try.func3, Try.ntmps3
    go_wp2_with (first
          | (go_at_call 8; (with_reducible refine (comes_any w).mono ?_); rintro e w1 ⟨rfl, hb1⟩; have HB1 := Aside0.mk hb1; clear hb1))
    go_ret
    exact ⟨rfl, HB1.out⟩
  · have d1 : decide (150 < (len : Int)) = false := decide_eq_false (by omega)
    by_cases h2 : 9000 < n
    · have d2 : decide (9000 < n) = true := decide_eq_true (by omega)
      clear h
      go_enter Try.func3, Try.ntmps3
      go_wp2_with (first
          | (go_at_call 8; (with_reducible refine (comes_any w).mono ?_); rintro e w1 ⟨rfl, hb1⟩; have HB1 := Aside0.mk hb1; clear hb1))
      go_ret
      exact ⟨rfl, HB1.out⟩
    · have d2 : decide (9000 < n) = false := decide_eq_false (by omega)
      have h3 : n < 0 ∨ 8192 < n := by omega
      have H3 := Aside0.mk h3
      by_cases h4 : n < 0
      · have d3 : decide (n < 0) = true := decide_eq_true h4
        clear h h3
        go_enter Try.func3, Try.ntmps3
        go_wp2_with (first
          | (go_at_call 8; (with_reducible refine (comes_any w).mono ?_); rintro e w1 ⟨rfl, hb1⟩; have HB1 := Aside0.mk hb1; clear hb1)
          | (go_at_call 9; refine (new_none n _ H3.out).mono ?_; rintro e w2 ⟨rfl, rfl⟩))
        go_ret
        exact ⟨rfl, HB1.out⟩
      · have d3 : decide (n < 0) = false := decide_eq_false h4
        have d4 : decide (8192 < n) = true := decide_eq_true (by omega)
        clear h h3
        go_enter Try.func3, Try.ntmps3
        go_wp2_with (first
          | (go_at_call 8; (with_reducible refine (comes_any w).mono ?_); rintro e w1 ⟨rfl, hb1⟩; have HB1 := Aside0.mk hb1; clear hb1)
          | (go_at_call 9; refine (new_none n _ H3.out).mono ?_; rintro e w2 ⟨rfl, rfl⟩))
        go_ret
        exact ⟨rfl, HB1.out⟩
set_option maxRecDepth 100000 in
set_option maxHeartbeats 8000000 in
theorem GraphAdds_late (m : Nat) (l : List S29) (A : Option Addr) (c : Nat) (w : World) (h1 : m ≤ 8192) (hl : l.length ≤ 150) (hr : Kd.C k29 w A l.length l) :
    Calls Try.prog 3 #[.int .i64 (m : Int), .slice A l.length c] w fun e w' => e = .returned (.bool true) ∧ Below w.heap.size w w' := by
  have HR := Aside0.mk hr; have HN := Aside0.mk h1; have HL := Aside0.mk hl
  have d1 : decide (150 < (l.length : Int)) = false := decide_eq_false (by omega)
  have d2 : decide (9000 < (m : Int)) = false := decide_eq_false (by omega)
  have d3 : decide ((m : Int) < 0) = false := decide_eq_false (by omega)
  have d4 : decide (8192 < (m : Int)) = false := decide_eq_false (by omega)
  have hu29 := Try.underlying29
  clear hr h1
  go_enter Try.func3, Try.ntmps3
  go_wp2_with (first
          | (go_at_call 8; (with_reducible refine (comes_any w).mono ?_); rintro e w1 ⟨rfl, hb1⟩; have HB1 := Aside0.mk hb1; clear hb1)
          | (go_at_call 9; refine (new_some (m : Int) w1 (by omega) (by have := HN.out; omega)).mono ?_; rintro e w2 ⟨g, rfl, hg2, hb2⟩; have HG2 := Aside0.mk (Gr.mono hg2 (ok' := fun k => some k ≠ Value.ownBlock (.slice none 0 0)) (fun _ _ => by intro hc; cases hc)); have HB2 := Aside0.mk (below_then HB1.out HB1.out.size hb2); have HS := Aside0.mk HB1.out.size; clear hg2 hb2 HB1))
  clear d1 d2 d3 d4
  have HO2 := Aside0.mk (Kd.R_nil k29 29 w2 w.heap.size (fun _ => True))
  replace HG2 : Aside0 (Gr w2 w.heap.size (fun k => some k ≠ Value.ownBlock (.slice none 0 0)) g (m : Int) []) := ⟨Gr.lower HG2.out HS.out⟩
  go_loopg [49, 7] (l.length + 1) (fun kq v49 v7 w' => ∃ (j : Nat) (es : List S29), v49 = .int .i64 (j : Int) ∧ Aside0 (j + kq = l.length + 1 ∧ j ≤ l.length) ∧ Aside0 (es.length ≤ j) ∧ Aside0 (Gr w' w.heap.size (fun k => some k ≠ v7.ownBlock) g (m : Int) es) ∧ Aside0 (Kd.R k29 29 w' w.heap.size (fun _ => True) v7 es) ∧ Aside0 (Below w.heap.size w w'))
  case atStart => exact ⟨0, [], rfl, ⟨by omega, by omega⟩, ⟨by simp⟩, HG2, HO2, HB2⟩
  case round =>
    clear HG2 HO2 HB2
    obtain ⟨j, es, rfl, HK1, HLE, HG, HO, HB⟩ := hrel
    obtain ⟨Ao, co, rfl, hcl, hCo⟩ := Kd.R_reads HO.out
    have HCO := Aside0.mk (And.intro hcl hCo)
    clear hcl hCo
    by_cases hj : j < l.length
    · have hjd : decide ((j : Int) < (l.length : Int)) = true := decide_eq_true (by omega)
      have hj0 : 0 ≤ (j : Int) := by omega
      have hj1 : (j : Int) < (l.length : Int) := by omega
      obtain ⟨ade, eade, x0, x1, x2, x3⟩ := at_T29 HR.out (j : Int) hj0 hj1
      obtain ⟨y, he⟩ : ∃ y, y = rd_T29 l (j : Int) := ⟨_, rfl⟩
      rw [← he] at x0 x1 x2 x3
      clear he
      obtain ⟨ya, yb, yc, yd⟩ := y
      simp only at x0 x1 x2 x3
      simp only [Int.toNat_natCast] at x0 x1 x2 x3
      replace x0 := (HB.out.cell (World.block_lt_of_cell? w _ x0)).trans x0
      replace x1 := (HB.out.cell (World.block_lt_of_cell? w _ x1)).trans x1
      replace x2 := (HB.out.cell (World.block_lt_of_cell? w _ x2)).trans x2
      replace x3 := (HB.out.cell (World.block_lt_of_cell? w _ x3)).trans x3
      subst eade
      have HJ := Aside0.mk hj
      clear hj
      obtain ⟨wo, hwo⟩ : ∃ wo : World, wo = wr.alloc (.cells #[.int .i64 ya, .int .i64 yb, .int .i64 yc, .int .i64 yd] 29) := ⟨_, rfl⟩
      have HP2 := Aside0.mk (show wo.heap[wr.heap.size]? = some (.cells #[.int .i64 ya, .int .i64 yb, .int .i64 yc, .int .i64 yd] 29 (0, 0)) by rw [hwo]; exact blk_new wr (.cells #[.int .i64 ya, .int .i64 yb, .int .i64 yc, .int .i64 yd] 29))
      have HB2 := Aside0.mk (show Below w.heap.size w wo by rw [hwo]; exact below_alloc HB.out _)
      have HG2 := Aside0.mk (show Gr wo w.heap.size (fun k => some k ≠ Value.ownBlock (.slice Ao es.length co) ∧ k ≠ wr.heap.size) g (m : Int) es by rw [hwo]; exact Gr.alloc (Gr.mono (Gr.bound HG.out) (fun k hk => ⟨hk.1, Nat.ne_of_lt hk.2.2⟩)) _)
      have HO2 := Aside0.mk (show Kd.R k29 29 wo w.heap.size (fun k => k ≠ wr.heap.size) (.slice Ao es.length co) es by rw [hwo]; exact Kd.R_alloc (Kd.R_mono (Kd.R_bound HO.out) (fun k hk => Nat.ne_of_lt hk.2.2.1)) _)
      have HC2 := Aside0.mk (show Kd.C k29 wo Ao es.length es by rw [hwo]; exact Kd.C_below HCO.out.2 (below_alloc (Below.refl _ _) _))
      rcases bad_cases (m : Int) ya yb yc yd with ⟨c1, hbb⟩ | ⟨⟨c1, c2⟩, hbb⟩ | ⟨⟨c1, c2, c3⟩, hbb⟩ | ⟨⟨c1, c2, c3, c4⟩, hbb⟩ | ⟨⟨c1, c2, c3, c4⟩, hbb⟩
      all_goals
        have HBB := Aside0.mk hbb
        clear hbb
        go_wp2
        rw [← hwo]
        clear hwo x0 x1 x2 x3
        first | clear c4 | skip
        first | clear c3 | skip
        first | clear c2 | skip
        clear c1
        go_loopg [75, 10] (es.length + 1) (fun kq v75 v10 w' => ∃ (i : Nat) (z : Int), v75 = .int .i64 (i : Int) ∧ v10 = .int .i64 z ∧ Aside0 (i + kq = es.length + 1 ∧ i ≤ es.length) ∧ Aside0 (z = wantF (badB (m : Int) ⟨ya, yb, yc, yd⟩) ⟨ya, yb, yc, yd⟩ (es.take i)) ∧ Aside0 (Below wo.heap.size wo w'))
        case atStart => exact ⟨0, _, rfl, rfl, ⟨by omega, by omega⟩, ⟨by rw [HBB.out]; rfl⟩, ⟨Below.refl _ _⟩⟩
        case round =>
          obtain ⟨i, z, rfl, rfl, HK2, HZ, HBi⟩ := hrel
          by_cases hi : i < es.length
          · have hid : decide ((i : Int) < (es.length : Int)) = true := decide_eq_true (by omega)
            have hi0 : 0 ≤ (i : Int) := by omega
            have hi1 : (i : Int) < (es.length : Int) := by omega
            obtain ⟨adf, eadf, y0, y1, y2, y3⟩ := at_T29 HC2.out (i : Int) hi0 hi1
            obtain ⟨u, he⟩ : ∃ u, u = rd_T29 es (i : Int) := ⟨_, rfl⟩
            rw [← he] at y0 y1 y2 y3
            have HST := Aside0.mk (want_step (b := badB (m : Int) ⟨ya, yb, yc, yd⟩) (x := ⟨ya, yb, yc, yd⟩) hi he.symm)
            clear he
            obtain ⟨ua, ub, uc, ud⟩ := u
            simp only at y0 y1 y2 y3
            simp only [Int.toNat_natCast] at y0 y1 y2 y3
            replace y0 := (HBi.out.cell (World.block_lt_of_cell? wo _ y0)).trans y0
            replace y1 := (HBi.out.cell (World.block_lt_of_cell? wo _ y1)).trans y1
            replace y2 := (HBi.out.cell (World.block_lt_of_cell? wo _ y2)).trans y2
            replace y3 := (HBi.out.cell (World.block_lt_of_cell? wo _ y3)).trans y3
            subst eadf
            have HI := Aside0.mk hi
            clear hi
            have HP3 := Aside0.mk (blk_alloc (blk_below HP2.out HBi.out) (.cells #[.int .i64 ua, .int .i64 ub, .int .i64 uc, .int .i64 ud] 29))
            have z0 := blk_cell HP3.out 0
            have z1 := blk_cell HP3.out 1
            have z2 := blk_cell HP3.out 2
            have z3 := blk_cell HP3.out 3
            simp only [List.getElem?_toArray, List.getElem?_cons_zero, List.getElem?_cons_succ] at z0 z1 z2 z3
            have HB3 := Aside0.mk (below_alloc HBi.out (.cells #[.int .i64 ua, .int .i64 ub, .int .i64 uc, .int .i64 ud] 29))
            by_cases hs : same29 ⟨ya, yb, yc, yd⟩ ⟨ua, ub, uc, ud⟩ = true
            · have e1 : (ya == ua && (yb == ub && (yc == uc && yd == ud))) = true := hs
              have HSS := Aside0.mk hs
              clear hs
              cases hz : (z == 0) with
              | true =>
                have HW := Aside0.mk (HST.out.2.2 HSS.out (by rw [← HZ.out]; exact hz))
                go_wp2
                go_roundg (es.length - i)
                case measure => have := HK2.out; omega
                case rel => exact ⟨i + 1, 4, val_succ HI.out (by have := HLE.out; have := HJ.out; omega), rfl, ⟨by have := HK2.out; have := HI.out; omega, by have := HI.out; omega⟩, ⟨HW.out.symm⟩, HB3⟩
              | false =>
                have HW := Aside0.mk (HST.out.2.1 HSS.out (by rw [← HZ.out]; exact hz))
                go_wp2
                go_roundg (es.length - i)
                case measure => have := HK2.out; omega
                case rel => exact ⟨i + 1, z, val_succ HI.out (by have := HLE.out; have := HJ.out; omega), rfl, ⟨by have := HK2.out; have := HI.out; omega, by have := HI.out; omega⟩, ⟨by rw [HW.out]; exact HZ.out⟩, HB3⟩
            · have e1 : (ya == ua && (yb == ub && (yc == uc && yd == ud))) = false := by simpa [same29] using hs
              have HW := Aside0.mk (HST.out.1 (by simpa using hs))
              clear hs
              go_wp2
              go_roundg (es.length - i)
              case measure => have := HK2.out; omega
              case rel => exact ⟨i + 1, z, val_succ HI.out (by have := HLE.out; have := HJ.out; omega), rfl, ⟨by have := HK2.out; have := HI.out; omega, by have := HI.out; omega⟩, ⟨by rw [HW.out]; exact HZ.out⟩, HB3⟩
          · obtain rfl : i = es.length := by have := HK2.out; omega
            have hid : decide ((es.length : Int) < (es.length : Int)) = false := decide_eq_false (by omega)
            clear hi
            rw [List.take_length] at HZ
            have HP4 := Aside0.mk (blk_below HP2.out HBi.out)
            have HG4 := Aside0.mk (Gr.below HG2.out HBi.out)
            have HB4 := Aside0.mk (below_then HB2.out HB2.out.size HBi.out)
            have HO4 := Aside0.mk (Kd.R_below HO2.out HBi.out)
            have z0 := blk_cell HP4.out 0
            have z1 := blk_cell HP4.out 1
            have z2 := blk_cell HP4.out 2
            have z3 := blk_cell HP4.out 3
            simp only [List.getElem?_toArray, List.getElem?_cons_zero, List.getElem?_cons_succ] at z0 z1 z2 z3
            clear HBi HC2 HG2 HO2
            cases hz : (z == 0) with
            | true =>
              have HE := Aside0.mk (want_zero.1 (by rw [← HZ.out]; exact hz))
              go_wp2_with (first
                | (go_at_call 10; refine (add_law g (m : Int) es ⟨ya, yb, yc, yd⟩ w _ w.heap.size _ HG4.out HB4.out HB4.out.size (by have := HN.out; omega) (by have := HLE.out; have := HJ.out; omega)).mono ?_; rintro e w5 ⟨he, hg5, hb5, hk5⟩; rw [← HZ.out] at he; subst he; have HP5 := Aside0.mk (blk_kept HP4.out hk5 (fun h => h.2 rfl)); have HO5 := Aside0.mk (add_own HO4.out hk5); have HG5 := Aside0.mk (add_gr HO4.out hg5); have HB5 := Aside0.mk hb5; have c0 := blk_cell HP5.out 0; have c1 := blk_cell HP5.out 1; have c2 := blk_cell HP5.out 2; have c3 := blk_cell HP5.out 3; simp only [List.getElem?_toArray, List.getElem?_cons_zero, List.getElem?_cons_succ] at c0 c1 c2 c3; clear hg5 hb5 hk5)
                | ((with_reducible refine gate_builtin (b := .append) (xs := #[.tmp 94, .tmp 96]) rfl ?_); at_builtin; refine Kd.R_append k29 (w0 := w) w.heap.size rfl (.tmp 94) (.tmp 96) 22 29 (.agg #[.int .i64 0, .int .i64 0, .int .i64 0, .int .i64 0]) 32 rfl Try.underlying22 info29 rfl (by decide) (by omega) (.slice Ao es.length co) es ⟨ya, yb, yc, yd⟩ [.int .i64 ya, .int .i64 yb, .int .i64 yc, .int .i64 yd] (fun _ => True) (fun _ => False) rfl rfl (k29_mkM _ _ _ ⟨ya, yb, yc, yd⟩) (fun _ hk => hk.elim) (fun _ _ => trivial) HO5.out HB5.out HB5.out.size ?aL ?_; (case aL => have := HLE.out; have := HJ.out; simp; omega); intro v1 w7 ho hb hg hat; have HO7 := Aside0.mk ho; have HB7 := Aside0.mk hb; have HG7 := Aside0.mk (app_gr HG5.out hg hat); clear ho hb hg hat))
              go_roundg (l.length - j)
              case measure => have := HK1.out; omega
              case rel => exact ⟨j + 1, _, by go_num, ⟨by have := HK1.out; have := HJ.out; omega, by have := HJ.out; omega⟩, ⟨by have := HLE.out; rw [List.length_append, List.length_singleton]; omega⟩, by rw [HE.out] at HG7; exact HG7, HO7, HB7⟩
            | false =>
              have HE := Aside0.mk (want_zero.2 (by rw [← HZ.out]; exact hz))
              go_wp2_with (first
                | (go_at_call 10; refine (add_law g (m : Int) es ⟨ya, yb, yc, yd⟩ w _ w.heap.size _ HG4.out HB4.out HB4.out.size (by have := HN.out; omega) (by have := HLE.out; have := HJ.out; omega)).mono ?_; rintro e w5 ⟨he, hg5, hb5, hk5⟩; rw [← HZ.out] at he; subst he; have HO5 := Aside0.mk (add_own HO4.out hk5); have HG5 := Aside0.mk (add_gr HO4.out hg5); have HB5 := Aside0.mk hb5; clear hg5 hb5 hk5))
              go_roundg (l.length - j)
              case measure => have := HK1.out; omega
              case rel => exact ⟨j + 1, es, by go_num, ⟨by have := HK1.out; have := HJ.out; omega, by have := HJ.out; omega⟩, ⟨by have := HLE.out; omega⟩, by rw [HE.out] at HG5; exact HG5, HO5, HB5⟩
    · obtain rfl : j = l.length := by have := HK1.out; omega
      have hjd : decide ((l.length : Int) < (l.length : Int)) = false := decide_eq_false (by omega)
      clear hj
      have HLS := Aside0.mk (show es.length ≤ 150 by have := HLE.out; omega)
      clear HLE
      go_wp2_with (first
        | (go_at_call 11; refine (edges_any g m es _ _ _ HG.out (by have := HLS.out; omega)).mono ?_; rintro e w3 ⟨v3, rfl, hv3, hb3⟩; obtain ⟨A3, c3, rfl, hcl3, hC3⟩ := Kd.R_reads hv3; have HC3 := Aside0.mk hC3; have HC4 := Aside0.mk (Kd.C_below HCO.out.2 hb3); have HB3 := Aside0.mk (below_then HB.out HB.out.size hb3); have HG3 := Aside0.mk (Gr.below HG.out hb3); clear hv3 hcl3 hC3 hb3)
        | (go_at_call 12; refine (len_any g (m : Int) es _ _ _ HG3.out).mono ?_; rintro e w4 ⟨rfl, rfl⟩; skip))
      go_loopg [114] (es.length + 1) (fun kq v114 w' => ∃ (i : Nat), v114 = .int .i64 (i : Int) ∧ Aside0 (i + kq = es.length + 1 ∧ i ≤ es.length) ∧ Aside0 (Kd.C k29 w' A3 es.length es) ∧ Aside0 (Kd.C k29 w' Ao es.length es) ∧ Aside0 (Below w.heap.size w w'))
      case atStart => exact ⟨0, rfl, ⟨by omega, by omega⟩, HC3, HC4, HB3⟩
      case round =>
        clear HC3 HC4 HB3 HG3
        obtain ⟨i, rfl, HK2, HC3, HC4, HB3⟩ := hrel
        by_cases hi : i < es.length
        · have hid : decide ((i : Int) < (es.length : Int)) = true := decide_eq_true (by omega)
          have hi0 : 0 ≤ (i : Int) := by omega
          have hi1 : (i : Int) < (es.length : Int) := by omega
          obtain ⟨adf, eadf, y0, y1, y2, y3⟩ := at_T29 HC3.out (i : Int) hi0 hi1
          obtain ⟨adg, eadg, z0, z1, z2, z3⟩ := at_T29 HC4.out (i : Int) hi0 hi1
          obtain ⟨u, he⟩ : ∃ u, u = rd_T29 es (i : Int) := ⟨_, rfl⟩
          rw [← he] at y0 y1 y2 y3 z0 z1 z2 z3
          clear he
          obtain ⟨ua, ub, uc, ud⟩ := u
          simp only at y0 y1 y2 y3 z0 z1 z2 z3
          simp only [Int.toNat_natCast] at y0 y1 y2 y3 z0 z1 z2 z3
          subst eadf
          subst eadg
          have e1 : (ua == ua && (ub == ub && (uc == uc && ud == ud))) = true := by simp
          go_wp2
          go_quiet (fail)
          go_wp2
          go_roundg (es.length - i)
          case measure => have := HK2.out; omega
          case rel => exact ⟨i + 1, val_succ (n := es.length) (by omega) (by have := HLS.out; omega), ⟨by have := HK2.out; omega, by omega⟩, ⟨Kd.C_drewN HC3.out _⟩, ⟨Kd.C_drewN HC4.out _⟩, ⟨pw_below_drewN HB3.out _⟩⟩
        · obtain rfl : i = es.length := by have := HK2.out; omega
          have hid : decide ((es.length : Int) < (es.length : Int)) = false := decide_eq_false (by omega)
          clear hi
          go_wp2
          go_ret
          exact ⟨rfl, HB3.out⟩
theorem GraphAdds_any (n : Int) (l : List S29) (A : Option Addr) (c : Nat) (w : World) (hw : (Lit.int .i64 n).wf = true) (hr : Kd.C k29 w A l.length l) :
    Calls Try.prog 3 #[.int .i64 n, .slice A l.length c] w fun e w' => e = .returned (.bool true) ∧ Below w.heap.size w w' := by
  by_cases h : 150 < l.length ∨ 9000 < n ∨ n < 0 ∨ 8192 < n
  · exact GraphAdds_early n A _ c w h
  · obtain ⟨m, rfl⟩ : ∃ m : Nat, n = (m : Int) := ⟨n.toNat, by omega⟩
    exact GraphAdds_late m l A c w (by omega) (by omega) hr
end Go.Proofs.Ytlkmkoajfdmbeaa.PGraphWithout
