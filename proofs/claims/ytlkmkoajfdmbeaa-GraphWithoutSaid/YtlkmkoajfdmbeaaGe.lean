/- (*Graph).walk: what it computes. No condition but that the graph is one and its edges lie in it. -/
import Derived.Test.YtlkmkoajfdmbeaaGd
namespace Go.Proofs.Ytlkmkoajfdmbeaa.PGraphWithout
open Go.RowKit Go.Proofs.YtlkmkoajfdmbeaaW.PrintWords Go.Proofs.YtlkmkoajfdmbeaaW.PrintLast Go.Proofs.YtlkmkoajfdmbeaaW.PrintMore
open Go.Maps Go.MapKept Go.ChangeShapes
set_option linter.unusedVariables false
set_option linter.unusedSimpArgs false

/-! ### What it computes -/
/-- One edge out of a node that null came to. -/
def wstep (es : List S29) (F : Int → Bool) (skip : Int) (s : List Int × List Int) (k : Int) : List Int × List Int :=
  if k = skip ∨ F (rd_T29 es k).f1 = true ∨ 0 ≤ rd s.1 (rd_T29 es k).f1 then s else (s.1.set (rd_T29 es k).f1.toNat k, s.2 ++ [(rd_T29 es k).f1])
def wl (es : List S29) (F : Int → Bool) (skip : Int) : Nat → List Int → List Int → Option (List Int)
  | 0, _, _ => none
  | _ + 1, x, [] => some x
  | k + 1, x, a :: t => wl es F skip k ((outs es a).foldl (wstep es F skip) (x, t)).1 ((outs es a).foldl (wstep es F skip) (x, t)).2
def neg (x : List Int) : Nat := (x.filter fun z => decide (z < 0)).length
theorem neg_set {x : List Int} {i : Nat} {k : Int} (hi : i < x.length) (hx : x.getD i 0 < 0) (hk : 0 ≤ k) : neg (x.set i k) + 1 = neg x := by
  induction x generalizing i with
  | nil => simp at hi
  | cons z r ih =>
    unfold neg at ih ⊢
    cases i with
    | zero =>
      have hz : z < 0 := by simpa using hx
      simp [List.filter_cons, hz, show ¬ k < 0 by omega]
    | succ i =>
      have := ih (i := i) (by simpa using hi) (by simpa using hx)
      by_cases hz : z < 0
      · simp [List.filter_cons, hz] at this ⊢; omega
      · simp [List.filter_cons, hz] at this ⊢; omega
/-- The edges lie in the graph. -/
def Inn (n : Nat) (es : List S29) : Prop := ∀ e ∈ es, -1 ≤ e.f0 ∧ e.f0 < n ∧ 0 ≤ e.f1 ∧ e.f1 < n
theorem Inn.at_ {n : Nat} {es : List S29} (h : Inn n es) {k : Int} (h0 : 0 ≤ k) (h1 : k < es.length) : -1 ≤ (rd_T29 es k).f0 ∧ (rd_T29 es k).f0 < n ∧ 0 ≤ (rd_T29 es k).f1 ∧ (rd_T29 es k).f1 < n := by
  have hk : k.toNat < es.length := by omega
  have : rd_T29 es k = es[k.toNat] := by simp [rd_T29, List.getD_eq_getElem?_getD, List.getElem?_eq_getElem hk]
  rw [this]
  exact h _ (List.getElem_mem hk)
/-- What a round keeps. -/
def Wok (n : Nat) (s : List Int × List Int) : Prop := s.1.length = n ∧ s.2.length + neg s.1 ≤ n + 1 ∧ ∀ a ∈ s.2, -1 ≤ a ∧ a < n
theorem Wok.step {n : Nat} {es : List S29} {F : Int → Bool} {skip : Int} {s : List Int × List Int} (h : Wok n s) (hes : Inn n es) {k : Int} (h0 : 0 ≤ k) (h1 : k < es.length) : Wok n (wstep es F skip s k) := by
  obtain ⟨a1, a2, a3⟩ := h
  have hk := hes.at_ h0 h1
  unfold wstep
  split
  · exact ⟨a1, a2, a3⟩
  · rename_i hc
    have hneg : rd s.1 (rd_T29 es k).f1 < 0 := by omega
    have := neg_set (x := s.1) (i := (rd_T29 es k).f1.toNat) (k := k) (by omega) hneg h0
    refine ⟨by rw [List.length_set]; exact a1, by simp only [List.length_append, List.length_singleton]; omega, fun a ha => ?_⟩
    rcases List.mem_append.1 ha with ha | ha
    · exact a3 a ha
    · rw [List.mem_singleton.1 ha]; omega

theorem neg_start (n : Nat) : neg (List.replicate n (-1)) = n := by
  unfold neg
  rw [List.filter_eq_self.2 (fun z hz => by rw [List.eq_of_mem_replicate hz]; decide), List.length_replicate]
theorem Wok.start (n : Nat) : Wok n (List.replicate n (-1), [-1]) := by
  refine ⟨List.length_replicate, by rw [neg_start]; simp; omega, fun a ha => ?_⟩
  have : a = -1 := List.mem_singleton.1 ha
  omega
/-! ### What the walk reads -/
/-- The edges that leave a node, as the look-up answers them. -/
theorem gr_outs {w : World} {b : Nat} {es : List S29} {D : DataW Unit} (h : w.ownsGroups Try.prog 3 (b + 1) 3 .i64 b es.length D) (hD : Rep D es) (hn : es.length ≤ 16384) {a : Int} (ha : (Lit.int .i64 a).wf = true) :
    ∃ A c, (∀ w' : World, w'.heap[b]? = w.heap[b]? → (Instr.lookup 54 (.map (some b)) (.int .i64 a) false).run Try.prog w' = .ok (.slice A (outs es a).length c) w') ∧ (outs es a).length ≤ c ∧ Kd.C (Kd.int .i64) w A (outs es a).length (outs es a) := by
  obtain ⟨es0, clock, u, zs, hb, hlk, hat, hoi, hzl, _⟩ := gr_look h (by simp only [maxLen]; omega) ha
  obtain rfl := hD.at_ hat hoi
  have hR : (Kd.int .i64).R 3 w (b + 1) (fun _ => True) u (outs es a) := Kd.R_of_own (by have := hoi.1; simpa [encs] using this) (fun _ _ => trivial)
  obtain ⟨A, c, rfl, hc, hC⟩ := Kd.R_reads hR
  exact ⟨A, c, fun w' hw => hlk w' (hw.trans hb), hc, hC⟩
theorem add_zero' (ad : Addr) : ad.add 0 = ad := by
  obtain ⟨b, o, s⟩ := ad
  cases s <;> simp [Addr.add]
theorem made_neg (j n : Nat) (hj : j < n) : (List.replicate j (-1 : Int) ++ List.replicate (n - j) 0).set ((j : Int)).toNat (-1) = List.replicate (j + 1) (-1) ++ List.replicate (n - (j + 1)) 0 := by
  apply List.ext_getElem?
  intro i
  simp only [Int.toNat_natCast, List.getElem?_set, List.getElem?_append, List.length_append, List.length_replicate, List.getElem?_replicate]
  by_cases h : i < j
  · rw [if_neg (by omega), if_pos h, if_pos h, if_pos (by omega), if_pos (by omega)]
  · by_cases h2 : i = j
    · subst h2; simp; omega
    · by_cases h3 : i < n
      · rw [if_neg (by omega), if_neg h, if_pos (by omega), if_neg (by omega), if_pos (by omega)]
      · rw [if_neg (by omega), if_neg h, if_neg (by omega), if_neg (by omega), if_neg (by omega)]
set_option maxRecDepth 100000 in
set_option maxHeartbeats 2000000 in
theorem walk_any (g n : Nat) (es : List S29) (sv : Value) (F : Int → Bool) (skip : Int) (K : Nat) (r : List Int) (w : World) (base : Nat) (ok : Nat → Prop) (h : Gr w base ok g (n : Int) es) (hes : Inn n es) (hn : n ≤ 8192) (hl : es.length ≤ 16384)
    (hsh : ∀ (w' : World) (a : Int), Below w.heap.size w w' → 0 ≤ a → a < n → (Instr.lookup 61 sv (.int .i64 a) false).run Try.prog w' = .ok (.bool (F a)) w') (hsk : (Lit.int .i64 skip).wf = true)
    (hr : wl es F skip K (List.replicate n (-1)) [-1] = some r) :
    Calls Try.prog 27 #[.pointer (some ⟨g, 0, none⟩), sv, .int .i64 skip] w fun e w' => ∃ v, e = .returned v ∧ Kd.R (Kd.int .i64) 3 w' w.heap.size (fun _ => True) v r ∧ Below w.heap.size w w' := by
  obtain ⟨v, b, D, hg, okg, bg, hR, okb, bb, hG, hS, hD⟩ := h
  have hc0 : w.cell? ⟨g, 0, none⟩ = some (.int .i64 n) := (blk_cell hg 0).trans rfl
  obtain ⟨A, c, rfl, hcl, hC⟩ := Kd.R_reads hR
  have hmk := print_make (P := Try.prog) 43 3 .i64 8 Try.underlying43 info3 (by decide) n (by omega)
  have HG0 := Aside0.mk hg; have HM0 := Aside0.mk hG; have HD := Aside0.mk hD; have HC := Aside0.mk hC; have HCL := Aside0.mk hcl
  have HL := Aside0.mk hl; have HN := Aside0.mk hn; have HES := Aside0.mk hes; have HSH := Aside0.mk hsh; have HSK := Aside0.mk hsk; have HR := Aside0.mk hr
  clear hg hR hC hl hcl hG hS hD bg bb okg okb hn hes hsh hr
  have hu56 := Try.underlying56
  have hu29 := Try.underlying29
  have HB1 := Aside0.mk (below_alloc (Below.refl w.heap.size w) (.cells (madeCells #[.int .i64 0] n) 3))
  have HY1 := Aside0.mk (show Kd.R (Kd.int .i64) 3 (w.alloc (.cells (madeCells #[.int .i64 0] n) 3)) w.heap.size (fun k => k = w.heap.size) (.slice (some ⟨w.heap.size, 0, none⟩) n n) (List.replicate n 0) from
    Kd.R_of_own (own_made' w w.heap.size 3 .i64 n (Nat.le_refl _) (by have := HN.out; omega)) (fun k hk => by simpa [Value.ownBlock] using hk.symm))
  go_enter Try.func27, Try.ntmps27
  go_wp2
  generalize (w.alloc (.cells (madeCells #[.int .i64 0] n) 3)) = w1 at HB1 HY1 ⊢
  go_loopg [21] (n + 1) (fun kq v21 w' => ∃ j : Nat, v21 = .int .i64 (j : Int) ∧ Aside0 (j + kq = n + 1 ∧ j ≤ n) ∧ Aside0 (Kd.R (Kd.int .i64) 3 w' w.heap.size (fun k => k = w.heap.size) (.slice (some ⟨w.heap.size, 0, none⟩) n n) (List.replicate j (-1) ++ List.replicate (n - j) 0)) ∧ Aside0 (Below w.heap.size w w'))
  case atStart => exact ⟨0, rfl, ⟨by omega, by omega⟩, ⟨by simpa using HY1.out⟩, HB1⟩
  case round =>
    clear HY1 HB1
    obtain ⟨j, rfl, HK1, HY, HB⟩ := hrel
    by_cases hj : j < n
    · have hjd : decide ((j : Int) < (n : Int)) = true := decide_eq_true (by omega)
      have hj0 : 0 ≤ (j : Int) := by omega
      have hj1 : (j : Int) < (n : Int) := by omega
      have hn1 := HN.out
      obtain ⟨hx, hf⟩ := Kd.R_celln (0 : Int) HY.out (j : Int) hj0 hj1
      have HY2 := Aside0.mk (Kd.R_putg HY.out (j : Int) (-1)).1
      rw [made_neg j n hj] at HY2
      have HB2 := Aside0.mk (below_set HB.out (Nat.le_refl _) : Below w.heap.size w (wr.setCell ⟨w.heap.size, (j : Int).toNat, none⟩ (.int .i64 (-1))))
      simp only [Int.toNat_natCast] at hx hf HY2 HB2
      go_wp2
      go_roundg (n - j)
      case measure => have := HK1.out; omega
      case rel => exact ⟨j + 1, by go_num, ⟨by have := HK1.out; omega, by omega⟩, HY2, HB2⟩
    · obtain rfl : n = j := by have := HK1.out; omega
      have hjd : decide ((n : Int) < (n : Int)) = false := decide_eq_false (by omega)
      clear hj
      go_wp2
      replace HY := Aside0.mk (Kd.R_mono (Kd.R_elderB HY.out wr.heap.size (Nat.le_refl _)) (fun _ hk => hk.1))
      have HY3 := Aside0.mk (Kd.R_alloc HY.out (.cells #[.int .i64 (-1)] 3))
      have HB3 := Aside0.mk (below_alloc HB.out (.cells #[.int .i64 (-1)] 3))
      have HT3 := Aside0.mk (show Kd.Q (Kd.int .i64) 3 (wr.alloc (.cells #[.int .i64 (-1)] 3)) w.heap.size (fun k => k ≠ w.heap.size) (.slice (some ⟨wr.heap.size, 0, none⟩) 1 1) [-1] from
        Kd.Q_of_R (Kd.R_of_own (own_lit wr w.heap.size 3 .i64 [-1] HB.out.size (by decide)) (fun k hk => by have h1 := Kd.R_lt HY.out w.heap.size (by simp [Value.ownBlock]); have h2 : wr.heap.size = k := (by simpa [Value.ownBlock] using hk); omega)))
      generalize wr.alloc (.cells #[.int .i64 (-1)] 3) = w3 at HY3 HB3 HT3 ⊢
      have HW3 := Aside0.mk (show Wok n (List.replicate n (-1), [-1]) from Wok.start n)
      replace HY3 := Aside0.mk (show Kd.R (Kd.int .i64) 3 w3 w.heap.size (fun k => k = w.heap.size) (.slice (some ⟨w.heap.size, 0, none⟩) n n) (List.replicate n (-1)) by have := HY3.out; simpa using this)
      clear HY HB HK1
      go_loopg [9] K (fun kq v9 w' => ∃ x t : List Int, Aside0 (wl es F skip kq x t = some r) ∧ Aside0 (Wok n (x, t)) ∧ Aside0 (Kd.R (Kd.int .i64) 3 w' w.heap.size (fun k => k = w.heap.size) (.slice (some ⟨w.heap.size, 0, none⟩) n n) x) ∧ Aside0 (Kd.Q (Kd.int .i64) 3 w' w.heap.size (fun k => k ≠ w.heap.size) v9 t) ∧ Aside0 (Below w.heap.size w w'))
      case atStart => exact ⟨_, _, HR, HW3, HY3, HT3, HB3⟩
      case round =>
        clear HR HW3 HY3 HT3 HB3
        obtain ⟨x, t, HA, HW, HY, HT, HB⟩ := hrel
        cases gk with
        | zero => exact absurd HA.out (by simp [wl])
        | succ k1 =>
          have H := HA.out
          clear HA
          obtain ⟨A9, c9, hv9, hc9⟩ := Kd.Q_slice HT.out
          cases t with
          | nil =>
            simp only [wl] at H
            obtain rfl := Option.some.inj H
            simp only [List.length_nil] at hv9
            subst hv9
            go_wp2
            go_ret
            exact ⟨_, rfl, Kd.R_mono HY.out (fun _ _ => trivial), HB.out⟩
          | cons a t =>
            simp only [wl] at H
            simp only [List.length_cons] at hv9 hc9
            subst hv9
            have HA := Aside0.mk H
            clear H
            have ha := HW.out.2.2 a (by simp)
            have hwfa : (Lit.int .i64 a).wf = true := by have := HN.out; exact WalkArith.wf_i64 (by omega)
            obtain ⟨Ao, co, hlk0, hco, hCo⟩ := gr_outs HM0.out HD.out HL.out hwfa
            have hlk := hlk0 wr (HB.out.block b (by have h1 := HM0.out; obtain ⟨es0, clock, hb, _⟩ := h1; exact (Array.getElem?_eq_some_iff.1 hb).1))
            have HCO := Aside0.mk (And.intro hco hCo)
            clear hlk0 hwfa hco hCo
            -- the first of the queue
            obtain ⟨ad, ead, hx0⟩ := Kd.at_int (Kd.Q_reads' HT.out).2.2 0 (by decide) (by simp)
            subst ead
            simp only [Int.toNat_zero] at hx0
            have hrd0 : rd (a :: t) 0 = a := rfl
            rw [hrd0, add_zero'] at hx0
            clear hrd0
            obtain ⟨i3, hi3, _, hs3, _⟩ := info_parts info3
            have hcut := cut_from (P := Try.prog) 43 3 .i64 Try.underlying43 hi3 1 hs3 (some ad) (t.length + 1) c9 1 (by decide) (by omega)
            have HT2 := Aside0.mk (Kd.Q_drop (k := 1) HT.out (by simp))
            simp only [List.drop_succ_cons, List.drop_zero, Nat.add_sub_cancel] at HT2
            obtain ⟨A2, hA2⟩ : ∃ A2, A2 = (if c9 = 1 then some ad else (some ad).map (·.add (1 * 1))) := ⟨_, rfl⟩
            replace HT2 := Aside0.mk (show Kd.Q (Kd.int .i64) 3 wr w.heap.size (fun k => k ≠ w.heap.size) (.slice A2 t.length (c9 - 1)) t by rw [hA2]; exact HT2.out)
            replace hcut : ∀ W : World, (Instr.slice 43 (.slice (some ad) (t.length + 1) c9) (some (.int .i64 1)) none none).run Try.prog W = .ok (.slice A2 t.length (c9 - 1)) W := by
              intro W
              rw [hcut W, hA2]
              rfl
            have hc2 : w.cell? ⟨g, 2, none⟩ = some (.map (some b)) := (blk_cell HG0.out 2).trans rfl
            replace hc2 := (HB.out.cell (World.block_lt_of_cell? w _ hc2)).trans hc2
            clear hA2 hi3 hs3
            have hpos : decide (0 < ((t.length : Int) + 1)) = true := decide_eq_true (by omega)
            go_wp2
            clear hlk hcut hpos hx0
            have HAA := Aside0.mk ha
            clear ha
            obtain ⟨zs, hzs⟩ : ∃ zs, zs = outs es a := ⟨_, rfl⟩
            have hlen0 : (outs es a).length = zs.length := by rw [hzs]
            have hzb : zs.length ≤ 16384 := by have h1 := HL.out; have h2 := outs_len es a; rw [hzs]; omega
            rw [← hzs] at HA HCO
            have HZM := Aside0.mk (show ∀ k ∈ zs, 0 ≤ k ∧ k < es.length from fun k hk => by rw [hzs] at hk; have := outs_mem hk; exact ⟨this.1, this.2.1⟩)
            simp only [hlen0]
            clear hzs hlen0
            go_loopg [44, 9] (zs.length + 1) (fun kq v44 v9 w' => ∃ (j : Nat) (x2 t2 : List Int), v44 = .int .i64 (j : Int) ∧ Aside0 (j + kq = zs.length + 1 ∧ j ≤ zs.length) ∧ Aside0 ((zs.drop j).foldl (wstep es F skip) (x2, t2) = zs.foldl (wstep es F skip) (x, t)) ∧ Aside0 (Wok n (x2, t2)) ∧ Aside0 (Kd.R (Kd.int .i64) 3 w' w.heap.size (fun k => k = w.heap.size) (.slice (some ⟨w.heap.size, 0, none⟩) n n) x2) ∧ Aside0 (Kd.Q (Kd.int .i64) 3 w' w.heap.size (fun k => k ≠ w.heap.size) v9 t2) ∧ Aside0 (Below w.heap.size w w'))
            case atStart => exact ⟨0, x, t, rfl, ⟨by omega, by omega⟩, ⟨rfl⟩, ⟨⟨HW.out.1, by have h1 := HW.out.2.1; have h2 : (a :: t).length + neg x ≤ n + 1 := h1; rw [List.length_cons] at h2; show t.length + neg x ≤ n + 1; omega, fun z hz => HW.out.2.2 z (List.mem_cons_of_mem _ hz)⟩⟩, HY, HT2, HB⟩
            case round =>
              clear HY HT HT2 HB HW
              obtain ⟨j, x2, t2, rfl, HK1, HF, HW, HY, HT, HB⟩ := hrel
              by_cases hj : j < zs.length
              · have hjd : decide ((j : Int) < (zs.length : Int)) = true := decide_eq_true (by omega)
                have hj0 : 0 ≤ (j : Int) := by omega
                have hj1 : (j : Int) < (zs.length : Int) := by omega
                -- the edge's number
                obtain ⟨ado, eado, hxo⟩ := Kd.at_int HCO.out.2 (j : Int) hj0 hj1
                obtain ⟨k, hk⟩ : ∃ k, k = rd zs (j : Int) := ⟨_, rfl⟩
                have hkz : zs.drop j = k :: zs.drop (j + 1) := by
                  rw [List.drop_eq_getElem_cons hj, hk]
                  congr 1
                  simp [rd, List.getD_eq_getElem?_getD, List.getElem?_eq_getElem hj]
                have hkm : k ∈ zs := by
                  have : k ∈ zs.drop j := by rw [hkz]; exact List.mem_cons_self
                  exact List.mem_of_mem_drop this
                rw [← hk] at hxo
                clear hk
                replace hxo := (HB.out.cell (World.block_lt_of_cell? w _ hxo)).trans hxo
                simp only [Int.toNat_natCast] at hxo
                subst eado
                have hk01 := HZM.out k hkm
                have HKE := Aside0.mk hkz
                clear hkz hkm
                have hk0 : 0 ≤ k := hk01.1
                have hk1 : k < (es.length : Int) := hk01.2
                -- the edge
                obtain ⟨ade, eade, _, hxe, _, _⟩ := at_T29 HC.out k hk0 hk1
                have hto := HES.out.at_ hk0 hk1
                have HST := Aside0.mk (Wok.step (F := F) (skip := skip) HW.out HES.out hk0 hk1)
                rw [HKE.out, List.foldl_cons] at HF
                obtain ⟨tz, hte⟩ : ∃ tz, tz = (rd_T29 es k).f1 := ⟨_, rfl⟩
                rw [← hte] at hxe hto
                replace hxe := (HB.out.cell (World.block_lt_of_cell? w _ hxe)).trans hxe
                subst eade
                have hto0 : 0 ≤ tz := hto.2.2.1
                have hto1 : tz < (n : Int) := hto.2.2.2
                have hs := HSH.out wr tz HB.out hto0 hto1
                obtain ⟨hxb, hfb⟩ := Kd.R_celln (0 : Int) HY.out tz hto0 hto1
                obtain ⟨z, hz⟩ : ∃ z, z = rd x2 tz := ⟨_, rfl⟩
                replace hxb : wr.cell? ⟨w.heap.size, tz.toNat, none⟩ = some (.int .i64 z) := by rw [hz]; exact hxb
                have hc1 : w.cell? ⟨g, 1, none⟩ = some (.slice (some ade) es.length c) := (blk_cell HG0.out 1).trans rfl
                replace hc1 := (HB.out.cell (World.block_lt_of_cell? w _ hc1)).trans hc1
                have HTE := Aside0.mk hte
                have HZ := Aside0.mk hz
                clear hte hz hto hk01 hc2 hc0
                by_cases cs : k = skip
                · have HWS := Aside0.mk (show wstep es F skip (x2, t2) k = (x2, t2) from if_pos (.inl cs))
                  have e1 : (k == skip) = true := by simpa using cs
                  clear cs
                  go_wp2
                  go_roundg (zs.length - j)
                  case measure => have := HK1.out; omega
                  case rel => exact ⟨j + 1, x2, t2, by go_num, ⟨by have := HK1.out; omega, by omega⟩, ⟨by rw [← HF.out, HWS.out]⟩, HW, HY, HT, HB⟩
                · have e1 : (k == skip) = false := by simpa using cs
                  by_cases cf : F tz = true
                  · have HWS := Aside0.mk (show wstep es F skip (x2, t2) k = (x2, t2) from if_pos (.inr (.inl (by rw [← HTE.out]; exact cf))))
                    clear cs
                    rw [cf] at hs
                    clear cf
                    go_wp2
                    go_roundg (zs.length - j)
                    case measure => have := HK1.out; omega
                    case rel => exact ⟨j + 1, x2, t2, by go_num, ⟨by have := HK1.out; omega, by omega⟩, ⟨by rw [← HF.out, HWS.out]⟩, HW, HY, HT, HB⟩
                  · by_cases cz : 0 ≤ z
                    · have HWS := Aside0.mk (show wstep es F skip (x2, t2) k = (x2, t2) from if_pos (.inr (.inr (by rw [← HTE.out, ← HZ.out]; exact cz))))
                      have cf' : F tz = false := by simpa using cf
                      clear cs cf
                      rw [cf'] at hs
                      clear cf'
                      have e2 : decide (0 ≤ z) = true := decide_eq_true cz
                      clear cz
                      go_wp2
                      go_roundg (zs.length - j)
                      case measure => have := HK1.out; omega
                      case rel => exact ⟨j + 1, x2, t2, by go_num, ⟨by have := HK1.out; omega, by omega⟩, ⟨by rw [← HF.out, HWS.out]⟩, HW, HY, HT, HB⟩
                    · have HWS := Aside0.mk (show wstep es F skip (x2, t2) k = (x2.set tz.toNat k, t2 ++ [tz]) from (if_neg (by rw [← HTE.out, ← HZ.out]; rintro (h | h | h); exact cs h; exact cf h; exact cz h)).trans (by rw [← HTE.out]))
                      have cf' : F tz = false := by simpa using cf
                      clear cs cf
                      rw [cf'] at hs
                      clear cf'
                      have e2 : decide (0 ≤ z) = false := decide_eq_false cz
                      clear cz
                      have HY2 := Aside0.mk (Kd.R_putg HY.out tz k).1
                      have HB2 := Aside0.mk (below_set HB.out (Nat.le_refl _) : Below w.heap.size w (wr.setCell ⟨w.heap.size, tz.toNat, none⟩ (.int .i64 k)))
                      have HT2 := Aside0.mk (Kd.Q_far HT.out (p := ⟨w.heap.size, tz.toNat, none⟩) (fun _ hk => hk) (.int .i64 k))
                      have HN1 := Aside0.mk (HT.out.1)
                      rw [HWS.out] at HST
                      go_wp2_with (first | ((with_reducible refine gate_builtin (b := .append) (xs := #[.tmp 75, .tmp 77]) rfl ?_); at_builtin; refine Kd.Q_append (Kd.int .i64) (w0 := w) w.heap.size rfl (.tmp 75) (.tmp 77) 43 3 (.int .i64 0) 8 rfl Try.underlying43 info3 rfl (by decide) (by omega) u9 t2 tz [.int .i64 tz] (fun k => k ≠ w.heap.size) (fun _ => False) rfl (by simp [Act.eval]) ?aP (fun _ hk => hk.elim) ?aF ?aO ?aB ?aS ?aL ?_; (case aP => exact rfl); (case aB => exact HB2.out); (case aF => exact (fun q hq => by have := Kd.R_lt HY2.out w.heap.size (by simp [Value.ownBlock]); omega)); (case aO => exact HT2.out); (case aS => exact HB2.out.size); (case aL => have h1 := HW.out.2.1; have h3 := HN.out; have h2 : t2.length + neg x2 ≤ n + 1 := h1; omega); intro v1 w4 ho hb hg hat; have n0_ := Aside0.mk hb; have n1_ := Aside0.mk ho; have n2_ := Aside0.mk (Kd.R_grown HY2.out hg (fun q hq he => HN1.out q he.symm hq)); clear HB2 HT2 HY2 HB HT HY; have HB := n0_; have HT := n1_; have HY := n2_; clear n0_ n1_ n2_ hb ho hg hat hs hxb hfb hxe hxo hc1))
                      go_roundg (zs.length - j)
                      case measure => have := HK1.out; omega
                      case rel => exact ⟨j + 1, _, _, by go_num, ⟨by have := HK1.out; omega, by omega⟩, ⟨by rw [← HF.out, HWS.out]⟩, HST, HY, HT, HB⟩
              · obtain rfl : j = zs.length := by have := HK1.out; omega
                have hjd : decide ((zs.length : Int) < (zs.length : Int)) = false := decide_eq_false (by omega)
                clear hj
                rw [List.drop_length] at HF
                rw [← HF.out] at HA
                go_wp2
                go_roundg k1
                case measure => omega
                case rel => exact ⟨x2, t2, HA, HW, HY, HT, HB⟩
end Go.Proofs.Ytlkmkoajfdmbeaa.PGraphWithout
