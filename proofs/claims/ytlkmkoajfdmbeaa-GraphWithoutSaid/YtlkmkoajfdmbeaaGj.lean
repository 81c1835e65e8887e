/- (*Graph).Shut: what it answers. No condition but that the graph is one, its edges lie in it and the numbers are ints. -/
import Derived.Test.YtlkmkoajfdmbeaaGi
namespace Go.Proofs.Ytlkmkoajfdmbeaa.PGraphWithout
open Go.RowKit Go.Proofs.YtlkmkoajfdmbeaaW.PrintWords Go.Proofs.YtlkmkoajfdmbeaaW.PrintLast Go.Proofs.YtlkmkoajfdmbeaaW.PrintMore
open Go.Maps Go.MapKept Go.ChangeShapes
set_option linter.unusedVariables false
set_option linter.unusedSimpArgs false

/-! ### A set of numbers as a map of bools -/
def shD (l : List Int) : DataW Unit := l.foldl (fun D x => D.put (.int .i64 x) (.lit (.bool true))) (.map [])
theorem shD_snoc (l : List Int) (x : Int) : shD (l ++ [x]) = (shD l).put (.int .i64 x) (.lit (.bool true)) := by simp [shD]
theorem shD_at (l : List Int) (a : Int) : IsMap (shD l) ∧ (shD l).atKey (.int .i64 a) (.lit (.bool false)) = .lit (.bool (decide (a ∈ l))) := by
  rw [← List.reverse_reverse l]
  generalize l.reverse = m
  induction m with
  | nil => exact ⟨isMap_empty, by simp [shD, DataW.atKey]⟩
  | cons x m ih =>
    rw [List.reverse_cons, shD_snoc]
    refine ⟨ih.1.put _ _, ?_⟩
    by_cases h : x = a
    · subst h
      have hk : WideAt.IsKeyLit (.int .i64 x) := trivial
      rw [atKey_put_same ih.1 hk]
      simp
    · rw [atKey_put_other (by intro he; injection he with _ he; exact h he.symm), ih.2]
      have : ¬ a = x := fun e => h e.symm
      simp [this]
/-- What a look-up in a map of bools answers, in every world that leaves its block alone. -/
theorem bool_look {w : World} {sb N : Nat} {l : List Int} (h : w.ownsMap Try.prog 3 (plainElem Try.prog 4) sb N (shD l)) {a : Int} (ha : (Lit.int .i64 a).wf = true) (w' : World) (hw : w'.heap[sb]? = w.heap[sb]?) :
    (Instr.lookup 61 (.map (some sb)) (.int .i64 a) false).run Try.prog w' = .ok (.bool (decide (a ∈ l))) w' := by
  obtain ⟨v, ps, hrun, hv⟩ := h.lookup keyed3 Try.underlying61 (z := .bool false) (zd := .lit (.bool false)) (by kernel_rfl) (plainElem_bool Try.underlying4 false) (key3 ha)
  obtain ⟨es, clock, hb, F, hs, hD⟩ := h
  rw [(shD_at l a).2] at hv
  have hve : v = .bool (decide (a ∈ l)) := by
    unfold plainElem at hv
    rw [show Try.prog.underlying 4 = some .bool from Try.underlying4] at hv
    cases v <;> simp at hv
    exact congrArg Value.bool hv.1
  subst hve
  exact look_moves (z := .bool false) keyed3 Try.underlying61 (fun _ => by kernel_rfl) hb F (key3 ha) hrun w' (hw.trans hb)
/-- The edges along which something would come to what is shut. -/
def cutP (l : List Int) (s : List Bool) (e : S29) : Bool := decide (e.f1 ∈ l) && (e.f0 == -1 || rdOf false s e.f0)
set_option maxRecDepth 100000 in
set_option maxHeartbeats 4000000 in
theorem shut_any (g n : Nat) (es : List S29) (A : Option Addr) (c : Nat) (l : List Int) (w : World) (base : Nat) (ok : Nat → Prop) (h : Gr w base ok g (n : Int) es) (hk : Gok n es) (hr : Kd.C (Kd.int .i64) w A l.length l) (hw : ∀ x ∈ l, (Lit.int .i64 x).wf = true) (hl : l.length ≤ 1000) :
    Calls Try.prog 17 #[.pointer (some ⟨g, 0, none⟩), .slice A l.length c] w fun e w' => ∃ v1 v2, e = .returned (.tuple #[v1, v2]) ∧ Kd.R Kd.bool 4 w' w.heap.size (fun _ => True) v1 (rchd (walkF n es (fun a => decide (a ∈ l)) (-1))) ∧
      Kd.R k29 29 w' w.heap.size (fun _ => True) v2 (es.filter (cutP l (rchd (walkF n es (fun a => decide (a ∈ l)) (-1))))) ∧ Below w.heap.size w w' := by
  have HG := Aside0.mk h; have HK := Aside0.mk hk; have HR := Aside0.mk hr; have HW := Aside0.mk hw; have HL := Aside0.mk hl
  obtain ⟨v, b, D, hg, _, _, hR, _⟩ := h
  obtain ⟨A2, c2, rfl, hcl, hC⟩ := Kd.R_reads hR
  have HG0 := Aside0.mk hg; have HC := Aside0.mk hC
  have hmm := @run_makeMap Try.prog
  clear hg hk hr hw hR hcl hC
  have hu56 := Try.underlying56
  have hu29 := Try.underlying29
  have HB1 := Aside0.mk (below_alloc (Below.refl w.heap.size w) (.map #[] 0))
  have HM1 := Aside0.mk (World.ownsMap_made w Try.prog 3 (plainElem (H := Unit) Try.prog 4))
  go_enter Try.func17, Try.ntmps17
  go_wp2
  generalize w.alloc (.map #[] 0) = w1 at HB1 HM1 ⊢
  go_loopg [16] (l.length + 1) (fun kq v16 w' => ∃ j : Nat, v16 = .int .i64 (j : Int) ∧ Aside0 (j + kq = l.length + 1 ∧ j ≤ l.length) ∧ Aside0 (w'.ownsMap Try.prog 3 (plainElem (H := Unit) Try.prog 4) w.heap.size j (shD (l.take j))) ∧ Aside0 (Below w.heap.size w w'))
  case atStart => exact ⟨0, rfl, ⟨by omega, by omega⟩, HM1, HB1⟩
  case round =>
    clear HM1 HB1 hmm
    obtain ⟨j, rfl, HK1, HM, HB⟩ := hrel
    by_cases hj : j < l.length
    · have hjd : decide ((j : Int) < (l.length : Int)) = true := decide_eq_true (by omega)
      have hj0 : 0 ≤ (j : Int) := by omega
      have hj1 : (j : Int) < (l.length : Int) := by omega
      obtain ⟨ad, ead, hx⟩ := Kd.at_int HR.out (j : Int) hj0 hj1
      obtain ⟨x, hxe⟩ : ∃ x, x = rd l (j : Int) := ⟨_, rfl⟩
      have hxl : x = l[j] := by rw [hxe]; simp [rd, List.getD_eq_getElem?_getD, List.getElem?_eq_getElem hj]
      rw [← hxe] at hx
      replace hx := (HB.out.cell (World.block_lt_of_cell? w _ hx)).trans hx
      simp only [Int.toNat_natCast] at hx
      subst ead
      have HKY := Aside0.mk (key3 (HW.out x (by rw [hxl]; exact List.getElem_mem hj)))
      have HT := Aside0.mk (show shD (l.take (j + 1)) = (shD (l.take j)).put (.int .i64 x) (.lit (.bool true)) by rw [List.take_succ_eq_append_getElem hj, shD_snoc, hxl])
      clear hxe hxl
      go_wp2_with (first | (at_mapUpdate; refine wpList_mapUpdate_own _ rfl _ _ _ 61 rfl 3 4 keyed3 Try.underlying61 _ w.heap.size j (shD (l.take j)) rfl HM.out (by unfold maxLen; omega) _ _ _ rfl rfl HKY.out _ [] (plainElem_bool Try.underlying4 true) ?_; intro w2 hown2 hgrow2; have HM2 := Aside0.mk hown2; have HB2 := Aside0.mk (HB.out.grown hgrow2 HB.out.size (fun k hk => by injection hk with hk; omega)); clear hown2 hgrow2 hx))
      rw [← HT.out] at HM2
      go_roundg (l.length - j)
      case measure => have := HK1.out; omega
      case rel => exact ⟨j + 1, by go_num, ⟨by have := HK1.out; omega, by omega⟩, HM2, HB2⟩
    · obtain rfl : j = l.length := by have := HK1.out; omega
      have hjd : decide ((l.length : Int) < (l.length : Int)) = false := decide_eq_false (by omega)
      clear hj
      obtain ⟨wo, rfl⟩ : ∃ wo : World, wo = wr := ⟨_, rfl⟩
      rw [List.take_length] at HM
      have HSH := Aside0.mk (show ∀ (w' : World) (a : Int), Below wo.heap.size wo w' → 0 ≤ a → a < n → (Instr.lookup 61 (.map (some w.heap.size)) (.int .i64 a) false).run Try.prog w' = .ok (.bool ((fun a => decide (a ∈ l)) a)) w' from
        fun w' a hb h0 h1 => bool_look HM.out (WalkArith.wf_i64 (by have := HK.out.nodes; omega)) w' (hb.block _ (World.ownsMap.lt HM.out)))
      obtain ⟨x, hx⟩ : ∃ x, x = rchd (walkF n es (fun a => decide (a ∈ l)) (-1)) := ⟨_, rfl⟩
      have hxn : x.length = n := by rw [hx]; simp [rchd, walkF_length HK.out.inn]
      have HX := Aside0.mk hx; have HXN := Aside0.mk hxn
      clear hx hxn
      have hlm := HK.out.edges
      have hc1 : w.cell? ⟨g, 1, none⟩ = some (.slice A2 es.length c2) := (blk_cell HG0.out 1).trans rfl
      go_wp2_with (first
        | (go_at_call 27; refine (walk_any g n es (.map (some w.heap.size)) (fun a => decide (a ∈ l)) (-1) (n + 2) _ wo base ok (Gr.below HG.out HB.out) HK.out.inn HK.out.nodes HK.out.edges HSH.out (by decide) (walkF_some HK.out.inn _ _)).mono ?_; rintro e w5 ⟨v1, rfl, hv1, hb1⟩; obtain ⟨A1, c1, rfl, hc1', hC1⟩ := Kd.R_reads hv1; have HC1 := Aside0.mk (And.intro hc1' hC1); have HB1 := Aside0.mk hb1; clear hv1 hb1 hc1' hC1)
        | (go_at_call 26; refine (reach_any _ A1 c1 w5 HC1.out.2 HC1.out.1 (by rw [walkF_length HK.out.inn]; exact HK.out.nodes)).mono ?_; rintro e w6 ⟨v2, rfl, hv2, hb2⟩; rw [← HX.out] at hv2; obtain ⟨A6, c6, rfl, _, _⟩ := Kd.R_reads hv2; rw [HXN.out] at hv2; simp only [HXN.out]; have HV6 := Aside0.mk (Kd.R_lower hv2 (Nat.le_trans HB.out.size HB1.out.size)); have HB6 := Aside0.mk (below_then HB1.out HB1.out.size hb2); clear hv2 hb2; have HB7 := Aside0.mk (below_then HB.out HB.out.size HB6.out); replace hc1 := (HB7.out.cell (World.block_lt_of_cell? w _ hc1)).trans hc1))
      have HO7 := Aside0.mk (Kd.R_nil k29 29 w6 wo.heap.size (fun _ => True))
      clear HB1 HC1
      go_loopg [32, 10] (es.length + 1) (fun kq v32 v10 w' => ∃ (j : Nat) (out : List S29), v32 = .int .i64 (j : Int) ∧ Aside0 (j + kq = es.length + 1 ∧ j ≤ es.length) ∧ Aside0 (out ++ (es.drop j).filter (cutP l x) = es.filter (cutP l x)) ∧ Aside0 (out.length ≤ j) ∧ Aside0 (Kd.R k29 29 w' wo.heap.size (fun _ => True) v10 out) ∧ Aside0 (Kd.R Kd.bool 4 w' w.heap.size (fun _ => True) (.slice A6 n c6) x) ∧ Aside0 (Below wo.heap.size wo w'))
      case atStart => exact ⟨0, [], rfl, ⟨by omega, by omega⟩, ⟨rfl⟩, ⟨by simp⟩, HO7, HV6, HB6⟩
      case round =>
        clear HO7 HV6 HB6 HB7
        obtain ⟨j, out, rfl, HK1, HF, HOL, HO, HV, HBo⟩ := hrel
        have HBW := Aside0.mk (below_then HB.out HB.out.size HBo.out)
        clear hc1
        by_cases hj : j < es.length
        · have hjd : decide ((j : Int) < (es.length : Int)) = true := decide_eq_true (by omega)
          have hj0 : 0 ≤ (j : Int) := by omega
          have hj1 : (j : Int) < (es.length : Int) := by omega
          obtain ⟨ade, eade, x0, x1, x2, x3⟩ := at_T29 HC.out (j : Int) hj0 hj1
          have hin := HK.out.inn.at_ hj0 hj1
          obtain ⟨e, he⟩ : ∃ e, e = rd_T29 es (j : Int) := ⟨_, rfl⟩
          have hd : es.drop j = e :: es.drop (j + 1) := by
            rw [List.drop_eq_getElem_cons hj, he]
            congr 1
            simp [rd_T29, List.getD_eq_getElem?_getD, List.getElem?_eq_getElem hj]
          rw [← he] at x0 x1 x2 x3 hin
          rw [hd, List.filter_cons] at HF
          clear he hd
          obtain ⟨fr, tz, wy, at_⟩ := e
          simp only at x0 x1 x2 x3 hin
          simp only [Int.toNat_natCast] at x0 x1 x2 x3
          replace x0 := (HBW.out.cell (World.block_lt_of_cell? w _ x0)).trans x0
          replace x1 := (HBW.out.cell (World.block_lt_of_cell? w _ x1)).trans x1
          replace x2 := (HBW.out.cell (World.block_lt_of_cell? w _ x2)).trans x2
          replace x3 := (HBW.out.cell (World.block_lt_of_cell? w _ x3)).trans x3
          subst eade
          have HBo2 := Aside0.mk (below_alloc HBo.out (.cells #[.int .i64 fr, .int .i64 tz, .int .i64 wy, .int .i64 at_] 29))
          have HBW2 := Aside0.mk (below_alloc HBW.out (.cells #[.int .i64 fr, .int .i64 tz, .int .i64 wy, .int .i64 at_] 29))
          have HO2 := Aside0.mk (Kd.R_alloc HO.out (.cells #[.int .i64 fr, .int .i64 tz, .int .i64 wy, .int .i64 at_] 29))
          have HV2 := Aside0.mk (Kd.R_alloc HV.out (.cells #[.int .i64 fr, .int .i64 tz, .int .i64 wy, .int .i64 at_] 29))
          have hlk := HSH.out _ tz HBo2.out hin.2.2.1 hin.2.2.2
          (try simp only at hlk)
          have HJ := Aside0.mk hj
          clear hj
          by_cases ht : tz ∈ l
          · rw [decide_eq_true ht] at hlk
            by_cases hf : fr = -1
            · subst hf
              have HP := Aside0.mk (show cutP l x ⟨-1, tz, wy, at_⟩ = true by unfold cutP; simp [ht])
              rw [HP.out, if_pos rfl] at HF
              clear hin ht
              have e2 : ((-1 : Int) == -1) = true := rfl
              go_wp2_with (first | ((with_reducible refine gate_builtin (b := .append) (xs := #[.tmp 52, .tmp 54]) rfl ?_); at_builtin; refine Kd.R_append k29 (w0 := wo) wo.heap.size rfl (.tmp 52) (.tmp 54) 22 29 (.agg #[.int .i64 0, .int .i64 0, .int .i64 0, .int .i64 0]) 32 rfl Try.underlying22 info29 rfl (by decide) (by omega) u10 out ⟨(-1), tz, wy, at_⟩ [.int .i64 (-1), .int .i64 tz, .int .i64 wy, .int .i64 at_] (fun _ => True) (fun _ => False) rfl (by simp [Act.eval]) (k29_mkM _ _ _ ⟨(-1), tz, wy, at_⟩) (fun _ hk => hk.elim) (fun _ _ => trivial) HO2.out HBo2.out HBo2.out.size ?aL ?_; (case aL => have := HOL.out; have := HJ.out; omega); intro v1 w7 ho hb hg hat; have n0_ := Aside0.mk ho; have n1_ := Aside0.mk (Kd.R_over HV2.out (Kd.R_lower HO2.out HB.out.size) (by intro q hq; rcases List.mem_cons.1 hq with h | h; rw [h]; decide; cases h) hg); have n2_ := Aside0.mk hb; clear HO2 HV2 HBo2 HBW2 HO HV HBo HBW ho hb hg hat hlk x0 x1 x2 x3))
              go_roundg (es.length - j)
              case measure => have := HK1.out; omega
              case rel => exact ⟨j + 1, _, by go_num, ⟨by have := HK1.out; have := HJ.out; omega, by have := HJ.out; omega⟩, ⟨by rw [← HF.out]; simp⟩, ⟨by have := HOL.out; simp; omega⟩, n0_, n1_, n2_⟩
            · have e2 : (fr == -1) = false := by simpa using hf
              have hf0 : 0 ≤ fr := by omega
              have hf1 : fr < (n : Int) := hin.2.1
              obtain ⟨ads, eads, y1⟩ := Kd.at_bool (by have h := (Kd.R_reads' HV2.out).2.2; rw [HXN.out] at h; exact h) fr hf0 hf1
              obtain ⟨bf_, hbf⟩ : ∃ b, b = rdOf false x fr := ⟨_, rfl⟩
              rw [← hbf] at y1
              subst eads
              have HP := Aside0.mk (show cutP l x ⟨fr, tz, wy, at_⟩ = bf_ by unfold cutP; simp [ht, e2, hbf])
              rw [HP.out] at HF
              clear hin ht hf hbf
              cases bf_ with
              | true =>
                rw [if_pos rfl] at HF
                go_wp2_with (first | ((with_reducible refine gate_builtin (b := .append) (xs := #[.tmp 52, .tmp 54]) rfl ?_); at_builtin; refine Kd.R_append k29 (w0 := wo) wo.heap.size rfl (.tmp 52) (.tmp 54) 22 29 (.agg #[.int .i64 0, .int .i64 0, .int .i64 0, .int .i64 0]) 32 rfl Try.underlying22 info29 rfl (by decide) (by omega) u10 out ⟨fr, tz, wy, at_⟩ [.int .i64 fr, .int .i64 tz, .int .i64 wy, .int .i64 at_] (fun _ => True) (fun _ => False) rfl (by simp [Act.eval]) (k29_mkM _ _ _ ⟨fr, tz, wy, at_⟩) (fun _ hk => hk.elim) (fun _ _ => trivial) HO2.out HBo2.out HBo2.out.size ?aL ?_; (case aL => have := HOL.out; have := HJ.out; omega); intro v1 w7 ho hb hg hat; have n0_ := Aside0.mk ho; have n1_ := Aside0.mk (Kd.R_over HV2.out (Kd.R_lower HO2.out HB.out.size) (by intro q hq; rcases List.mem_cons.1 hq with h | h; rw [h]; decide; cases h) hg); have n2_ := Aside0.mk hb; clear HO2 HV2 HBo2 HBW2 HO HV HBo HBW ho hb hg hat hlk x0 x1 x2 x3))
                go_roundg (es.length - j)
                case measure => have := HK1.out; omega
                case rel => exact ⟨j + 1, _, by go_num, ⟨by have := HK1.out; have := HJ.out; omega, by have := HJ.out; omega⟩, ⟨by rw [← HF.out]; simp⟩, ⟨by have := HOL.out; simp; omega⟩, n0_, n1_, n2_⟩
              | false =>
                rw [if_neg (by decide)] at HF
                go_wp2
                go_roundg (es.length - j)
                case measure => have := HK1.out; omega
                case rel => exact ⟨j + 1, out, by go_num, ⟨by have := HK1.out; have := HJ.out; omega, by have := HJ.out; omega⟩, HF, ⟨by have := HOL.out; omega⟩, HO2, HV2, HBo2⟩
          · rw [decide_eq_false ht] at hlk
            have HP := Aside0.mk (show cutP l x ⟨fr, tz, wy, at_⟩ = false by unfold cutP; simp [ht])
            rw [HP.out, if_neg (by decide)] at HF
            clear hin ht
            go_wp2
            go_roundg (es.length - j)
            case measure => have := HK1.out; omega
            case rel => exact ⟨j + 1, out, by go_num, ⟨by have := HK1.out; have := HJ.out; omega, by have := HJ.out; omega⟩, HF, ⟨by have := HOL.out; omega⟩, HO2, HV2, HBo2⟩
        · obtain rfl : j = es.length := by have := HK1.out; omega
          have hjd : decide ((es.length : Int) < (es.length : Int)) = false := decide_eq_false (by omega)
          clear hj
          rw [List.drop_length, List.filter_nil, List.append_nil] at HF
          go_wp2
          go_ret2
          exact ⟨_, _, rfl, by rw [← HX.out]; exact HV.out, by rw [← HX.out, ← HF.out]; exact Kd.R_lower HO.out HB.out.size, HBW.out⟩
end Go.Proofs.Ytlkmkoajfdmbeaa.PGraphWithout
