/- Right, Edges: what they answer. No condition but that the graph is one and its edges lie in it. -/
import Derived.Test.YtlkmkoajfdmbeaaGf
import Derived.WalkSpells
namespace Go.Proofs.Ytlkmkoajfdmbeaa.PGraphWithout
open Go.RowKit Go.Proofs.YtlkmkoajfdmbeaaW.PrintWords Go.Proofs.YtlkmkoajfdmbeaaW.PrintLast Go.Proofs.YtlkmkoajfdmbeaaW.PrintMore
open Go.Maps Go.MapKept Go.ChangeShapes
set_option linter.unusedVariables false
set_option linter.unusedSimpArgs false

/-! ### Right -/
/-- An edge that breaks a set: it leads out of it (or from null) to what isn't in it. -/
def brk (s : List Bool) (e : S29) : Bool := (e.f0 == -1 || rdOf false s e.f0) && !rdOf false s e.f1
set_option maxRecDepth 100000 in
theorem right_len (g n : Nat) (es : List S29) (A : Option Addr) (c : Nat) (s : List Bool) (w : World) (base : Nat) (ok : Nat → Prop) (h : Gr w base ok g (n : Int) es) (hs : s.length ≠ n) :
    Calls Try.prog 16 #[.pointer (some ⟨g, 0, none⟩), .slice A s.length c] w fun e w' => e = .returned (.bool false) ∧ Below w.heap.size w w' := by
  obtain ⟨v, b, D, hg, _⟩ := h
  have hc0 : w.cell? ⟨g, 0, none⟩ = some (.int .i64 n) := (blk_cell hg 0).trans rfl
  have e1 : ((s.length : Int) != (n : Int)) = true := by simp; omega
  clear hg hs
  have hu56 := Try.underlying56
  go_enter Try.func16, Try.ntmps16
  go_wp2
  go_ret
  exact ⟨rfl, Below.refl _ _⟩
set_option maxRecDepth 100000 in
set_option maxHeartbeats 2000000 in
theorem right_any (g n : Nat) (es : List S29) (A : Option Addr) (c : Nat) (s : List Bool) (w : World) (base : Nat) (ok : Nat → Prop) (h : Gr w base ok g (n : Int) es) (hk : Gok n es) (hs : s.length = n) (hr : Kd.C Kd.bool w A s.length s) :
    Calls Try.prog 16 #[.pointer (some ⟨g, 0, none⟩), .slice A n c] w fun e w' => e = .returned (.bool (!es.any (brk s))) ∧ Below w.heap.size w w' := by
  obtain ⟨v, b, D, hg, _, _, hR, _⟩ := h
  have hc0 : w.cell? ⟨g, 0, none⟩ = some (.int .i64 n) := (blk_cell hg 0).trans rfl
  obtain ⟨A2, c2, rfl, hcl, hC⟩ := Kd.R_reads hR
  have hc1 : w.cell? ⟨g, 1, none⟩ = some (.slice A2 es.length c2) := (blk_cell hg 1).trans rfl
  have e1 : ((n : Int) != (n : Int)) = false := by simp
  rw [hs] at hr
  have HG0 := Aside0.mk hg; have HC := Aside0.mk hC; have HS := Aside0.mk hs; have HK := Aside0.mk hk; have HR := Aside0.mk hr
  have hlm := hk.edges
  clear hg hC hs hk hr hR hcl
  have hu56 := Try.underlying56
  have hu29 := Try.underlying29
  go_enter Try.func16, Try.ntmps16
  go_wp2
  go_loopg [19] (es.length + 1) (fun kq v19 w' => ∃ j : Nat, v19 = .int .i64 (j : Int) ∧ Aside0 (j + kq = es.length + 1 ∧ j ≤ es.length) ∧ Aside0 (es.any (brk s) = (es.drop j).any (brk s)) ∧ Aside0 (Below w.heap.size w w'))
  case atStart => exact ⟨0, rfl, ⟨by omega, by omega⟩, ⟨rfl⟩, ⟨Below.refl _ _⟩⟩
  case round =>
    obtain ⟨j, rfl, HK1, HF, HB⟩ := hrel
    clear e1
    by_cases hj : j < es.length
    · have hjd : decide ((j : Int) < (es.length : Int)) = true := decide_eq_true (by omega)
      have hj0 : 0 ≤ (j : Int) := by omega
      have hj1 : (j : Int) < (es.length : Int) := by omega
      obtain ⟨ade, eade, x0, x1, x2, x3⟩ := at_T29 HC.out (j : Int) hj0 hj1
      have hin := HK.out.inn.at_ hj0 hj1
      obtain ⟨e, he⟩ : ∃ e, e = rd_T29 es (j : Int) := ⟨_, rfl⟩
      have hd : es.drop j = e :: es.drop (j + 1) := by
        rw [List.drop_eq_getElem_cons hj, he]
        congr 1
        simp [rd_T29, List.getD_eq_getElem?_getD, List.getElem?_eq_getElem hj]
      rw [← he] at x0 x1 x2 x3 hin
      rw [hd, List.any_cons] at HF
      clear he hd
      obtain ⟨fr, tz, wy, at_⟩ := e
      simp only at x0 x1 x2 x3 hin
      simp only [Int.toNat_natCast] at x0 x1 x2 x3
      replace x0 := (HB.out.cell (World.block_lt_of_cell? w _ x0)).trans x0
      replace x1 := (HB.out.cell (World.block_lt_of_cell? w _ x1)).trans x1
      replace x2 := (HB.out.cell (World.block_lt_of_cell? w _ x2)).trans x2
      replace x3 := (HB.out.cell (World.block_lt_of_cell? w _ x3)).trans x3
      subst eade
      have HB2 := Aside0.mk (below_alloc HB.out (.cells #[.int .i64 fr, .int .i64 tz, .int .i64 wy, .int .i64 at_] 29))
      -- what the set says of the end
      have ht0 : 0 ≤ tz := hin.2.2.1
      have ht1 : tz < (n : Int) := hin.2.2.2
      obtain ⟨ads, eads, y1⟩ := Kd.at_bool HR.out tz ht0 ht1
      obtain ⟨bt_, hbt⟩ : ∃ b, b = rdOf false s tz := ⟨_, rfl⟩
      rw [← hbt] at y1
      replace y1 := (HB2.out.cell (World.block_lt_of_cell? w _ y1)).trans y1
      subst eads
      by_cases hf : fr = -1
      · subst hf
        clear hin
        have e2 : ((-1 : Int) == -1) = true := rfl
        cases bt_ with
        | true =>
          have HBK := Aside0.mk (show brk s ⟨-1, tz, wy, at_⟩ = false by unfold brk; simp only; rw [← hbt]; rfl)
          clear hbt
          go_wp2
          go_roundg (es.length - j)
          case measure => have := HK1.out; omega
          case rel => exact ⟨j + 1, by go_num, ⟨by have := HK1.out; omega, by omega⟩, ⟨by rw [HF.out, HBK.out, Bool.false_or]⟩, HB2⟩
        | false =>
          have HBK := Aside0.mk (show brk s ⟨-1, tz, wy, at_⟩ = true by unfold brk; simp only; rw [← hbt]; rfl)
          clear hbt
          go_wp2
          go_ret
          exact ⟨by rw [HF.out, HBK.out]; rfl, HB2.out⟩
      · have e2 : (fr == -1) = false := by simpa using hf
        have hf0 : 0 ≤ fr := by omega
        have hf1 : fr < (n : Int) := hin.2.1
        clear hin hf
        obtain ⟨adf, eadf, y2⟩ := Kd.at_bool HR.out fr hf0 hf1
        obtain ⟨bf_, hbf⟩ : ∃ b, b = rdOf false s fr := ⟨_, rfl⟩
        rw [← hbf] at y2
        replace y2 := (HB2.out.cell (World.block_lt_of_cell? w _ y2)).trans y2
        obtain rfl : ads = adf := by injection eadf
        clear eadf
        have hbk : brk s ⟨fr, tz, wy, at_⟩ = (bf_ && !bt_) := by unfold brk; simp only; rw [← hbt, ← hbf, e2]; rfl
        cases bf_ <;> cases bt_
        all_goals
          have HBK := Aside0.mk hbk
          clear hbk hbt hbf
        · go_wp2
          go_roundg (es.length - j)
          case measure => have := HK1.out; omega
          case rel => exact ⟨j + 1, by go_num, ⟨by have := HK1.out; omega, by omega⟩, ⟨by rw [HF.out, HBK.out]; rfl⟩, HB2⟩
        · go_wp2
          go_roundg (es.length - j)
          case measure => have := HK1.out; omega
          case rel => exact ⟨j + 1, by go_num, ⟨by have := HK1.out; omega, by omega⟩, ⟨by rw [HF.out, HBK.out]; rfl⟩, HB2⟩
        · go_wp2
          go_ret
          exact ⟨by rw [HF.out, HBK.out]; rfl, HB2.out⟩
        · go_wp2
          go_roundg (es.length - j)
          case measure => have := HK1.out; omega
          case rel => exact ⟨j + 1, by go_num, ⟨by have := HK1.out; omega, by omega⟩, ⟨by rw [HF.out, HBK.out]; rfl⟩, HB2⟩
    · obtain rfl : j = es.length := by have := HK1.out; omega
      have hjd : decide ((es.length : Int) < (es.length : Int)) = false := decide_eq_false (by omega)
      clear hj
      rw [List.drop_length] at HF
      go_wp2
      go_ret
      exact ⟨by rw [HF.out]; rfl, HB.out⟩

/-! ### Clone, Edges -/
set_option maxRecDepth 100000 in
theorem clone_any (es : List S29) (A : Option Addr) (c : Nat) (w : World) (hr : Kd.C k29 w A es.length es) (hc : es.length ≤ c) (hn : es.length ≤ 16384) :
    Calls Try.prog 25 #[.slice A es.length c] w fun e w' => ∃ v, e = .returned v ∧ Kd.R k29 29 w' w.heap.size (fun _ => True) v es ∧ Below w.heap.size w w' := by
  cases A with
  | none =>
    have h0 : es.length = 0 := by
      rcases Nat.eq_zero_or_pos es.length with h | h
      · exact h
      · obtain ⟨ad, h, _⟩ := hr.2.2 h
        cases h
    obtain rfl := List.eq_nil_of_length_eq_zero h0
    have heq := fun W : World => Lib.run_eql_slice_nil (P := Try.prog) W 22 29 none 0 c 0 0 Try.underlying22
    clear hr h0 hn
    go_enter Try.func25, Try.ntmps25
    go_wp2
    go_ret
    exact ⟨_, rfl, Kd.R_nil _ _ _ _ _, Below.refl _ _⟩
  | some ad =>
    have heq := fun W : World => Lib.run_eql_slice_nil (P := Try.prog) W 22 29 (some ad) es.length c 0 0 Try.underlying22
    have HR := Aside0.mk hr
    have HN := Aside0.mk hn
    clear hr hc hn
    have HB := Aside0.mk (below_alloc (Below.refl w.heap.size w) (.cells #[] 29))
    have HE := Aside0.mk (show Kd.R k29 29 (w.alloc (.cells #[] 29)) w.heap.size (fun _ => True) (.slice (some ⟨w.heap.size, 0, none⟩) 0 0) [] from
      ⟨fun _ _ => trivial, [], ⟨by simp, .inr ⟨w.heap.size, 0, #[], rfl, Nat.le_refl _, heap_alloc_new w _, Nat.le_refl _, by decide, by simp, by simp⟩⟩, Reps.none _ _⟩)
    go_enter Try.func25, Try.ntmps25
    go_wp2_with (first | ((with_reducible refine gate_builtin (b := .append) (xs := #[.tmp 5, .tmp 6]) rfl ?_); at_builtin; refine Kd.R_append_rows k29 (Rr := k29.K w) (w0 := w) w.heap.size rfl (.tmp 5) (.tmp 6) 22 29 (.agg #[.int .i64 0, .int .i64 0, .int .i64 0, .int .i64 0]) 32 rfl Try.underlying22 info29 rfl (by decide) (by omega) (.slice (some ⟨w.heap.size, 0, none⟩) 0 0) [] es (some ad) es.length c (fun _ => True) (fun _ => False) rfl rfl ?aO ?aR ?aK (fun _ hk => hk.elim) (fun _ _ => trivial) ?aB ?aS ?aL ?_; (case aO => exact HE.out); (case aR => exact ReadsRow.imp_ HR.out (below_alloc (Below.refl w.heap.size w) _) (fun _ _ h => h)); (case aK => exact (fun x cs h => by rw [k29_open h]; exact k29_mkM _ _ _ x)); (case aB => exact HB.out); (case aS => exact HB.out.size); (case aL => have := HN.out; simp; omega); intro v1 w1 ho hb hg hat; have n0_ := Aside0.mk hb; have n1_ := Aside0.mk ho; clear HB HE ho hb hg hat))
    go_ret
    exact ⟨_, rfl, n1_.out, n0_.out⟩
set_option maxRecDepth 100000 in
theorem edges_any (g n : Nat) (es : List S29) (w : World) (base : Nat) (ok : Nat → Prop) (h : Gr w base ok g (n : Int) es) (hn : es.length ≤ 16384) :
    Calls Try.prog 11 #[.pointer (some ⟨g, 0, none⟩)] w fun e w' => ∃ v, e = .returned v ∧ Kd.R k29 29 w' w.heap.size (fun _ => True) v es ∧ Below w.heap.size w w' := by
  obtain ⟨v, b, D, hg, _, _, hR, _⟩ := h
  obtain ⟨A2, c2, rfl, hcl, hC⟩ := Kd.R_reads hR
  have hc1 : w.cell? ⟨g, 1, none⟩ = some (.slice A2 es.length c2) := (blk_cell hg 1).trans rfl
  have HC := Aside0.mk (And.intro hcl hC); have HN := Aside0.mk hn
  clear hg hR hcl hC hn
  have hu56 := Try.underlying56
  go_enter Try.func11, Try.ntmps11
  go_wp2_with (first | (go_at_call 25; refine (clone_any es A2 c2 w HC.out.2 HC.out.1 HN.out).mono ?_; rintro e w1 ⟨v1, rfl, hv1, hb1⟩; have HV := Aside0.mk (And.intro hv1 hb1); clear hv1 hb1))
  go_ret
  exact ⟨_, rfl, HV.out.1, HV.out.2⟩
end Go.Proofs.Ytlkmkoajfdmbeaa.PGraphWithout
