/- Store: what it answers, and what the heap is behind it. No condition but that the heap is one. -/
import Derived.Test.YtlfkmignkilplaaHb
import Derived.StillTailTactics
namespace Go.Proofs.Ytlfkmignkilplaa.PHeapPlays
open Go.RowKit Go.Proofs.YtlfkmignkilplaaW.PrintWords Go.Proofs.YtlfkmignkilplaaW.PrintLast Go.Proofs.YtlfkmignkilplaaW.PrintMore
set_option linter.unusedVariables false
set_option linter.unusedSimpArgs false

/-- Element k of cell i is u. -/
def putL (xs : List S67) (i k : Int) (u : S32) : List S67 := xs.set i.toNat ⟨(rd_T67 xs i).f0, (rd_T67 xs i).f1, (rd_T67 xs i).f2, (rd_T67 xs i).f3.set k.toNat u⟩
theorem putL_length (xs : List S67) (i k : Int) (u : S32) : (putL xs i k u).length = xs.length := List.length_set
theorem rd_in (xs : List S67) (i : Int) (h : i.toNat < xs.length) : rd_T67 xs i = xs[i.toNat] := by simp [rd_T67, List.getD_eq_getElem?_getD, List.getElem?_eq_getElem h]
theorem tot_set (xs : List S67) (x : S67) : ∀ (i : Nat) (h : i < xs.length), x.f3.length = xs[i].f3.length → tot (xs.set i x) = tot xs := by
  unfold tot
  induction xs with
  | nil => intro i h; simp at h
  | cons y r ih =>
    intro i h he
    cases i with
    | zero => simpa using he
    | succ i =>
      simp only [List.length_cons, Nat.add_lt_add_iff_right] at h
      simp only [List.set_cons_succ, List.map_cons, List.sum_cons]
      rw [ih i h (by simpa using he)]
theorem tot_put (xs : List S67) (i k : Int) (u : S32) (h0 : 0 ≤ i) (h1 : i < xs.length) : tot (putL xs i k u) = tot xs := by
  have hi : i.toNat < xs.length := by omega
  refine tot_set xs _ i.toNat hi ?_
  rw [← rd_in xs i hi]
  simp

/-- A heap at g whose list is v. -/
def Hq (w : World) (base : Nat) (ok : Nat → Prop) (g : Nat) (v : Value) (xs : List S67) : Prop :=
  w.heap[g]? = some (.cells #[v, .int .i64 (tot xs : Nat)] 26 (0, 0)) ∧ ok g ∧ base ≤ g ∧ Kd.S k67 67 w base ok v xs
theorem Hq.below {w w1 : World} {base : Nat} {ok : Nat → Prop} {g : Nat} {v : Value} {xs : List S67} (h : Hq w base ok g v xs) (hb : Below w.heap.size w w1) : Hq w1 base ok g v xs := ⟨blk_below h.1 hb, h.2.1, h.2.2.1, Kd.S_below h.2.2.2 hb⟩
/-- What a store into element k of cell i wants, and what it leaves. -/
theorem Hq.store {w : World} {base : Nat} {ok : Nat → Prop} {g b c : Nat} {xs : List S67} (h : Hq w base ok g (.slice (some ⟨b, 0, none⟩) xs.length c) xs) (i k : Int) (h0 : 0 ≤ i) (h1 : i < xs.length) (k0 : 0 ≤ k) (k1 : k < (rd_T67 xs i).f3.length) (u : S32) :
    ∃ b6 c6, w.cell? ⟨b, i.toNat * 7 + 6, none⟩ = some (.slice (some ⟨b6, 0, none⟩) (rd_T67 xs i).f3.length c6) ∧ (rd_T67 xs i).f3.length ≤ c6 ∧ b6 < w.heap.size ∧ base ≤ b6 ∧ ok b6 ∧
      w.cell? ⟨b6, k.toNat * 3, none⟩ = some (.int .i64 (rd_T32 (rd_T67 xs i).f3 k).f0) ∧ w.cell? ⟨b6, k.toNat * 3 + 1, none⟩ = some (.int .i64 (rd_T32 (rd_T67 xs i).f3 k).f1) ∧ w.cell? ⟨b6, k.toNat * 3 + 2, none⟩ = some (.string (rd_T32 (rd_T67 xs i).f3 k).f2) ∧ (∀ j, w.frozen? ⟨b6, k.toNat * 3 + j, none⟩ = false) ∧
      ∃ v, Hq (((w.setCell ⟨b6, k.toNat * 3, none⟩ (.int .i64 u.f0)).setCell ⟨b6, k.toNat * 3 + 1, none⟩ (.int .i64 u.f1)).setCell ⟨b6, k.toNat * 3 + 2, none⟩ (.string u.f2)) base ok g v (putL xs i k u) := by
  obtain ⟨hg, okg, bg, hS⟩ := h
  obtain ⟨oki, cs, hcl, hM, hcc, hoki, hback⟩ := Kd.S_borrow hS z67 i h0 h1
  have hM' : k67.M w base oki (rd_T67 xs i) cs := hM
  obtain ⟨v6, rfl, hR⟩ := k67_openM hM'
  have hkn : k.toNat < (rd_T67 xs i).f3.length := by omega
  obtain ⟨b6, c6, rfl, hb6, hl6, _⟩ := Kd.R_form hR (by omega)
  obtain ⟨_, hcap, hC6⟩ := Kd.R_reads' hR
  obtain ⟨ce, hcel, hMe, hcce, hfre⟩ := Kd.R_elem hR z32 k k0 (by omega)
  have hMe' : k32.M w base (fun k => oki k ∧ k ≠ b6) (rd_T32 (rd_T67 xs i).f3 k) ce := hMe
  obtain rfl := k32_openM hMe'
  have hseg := Kd.R_seg hR k k0 (by omega) (c := [.int .i64 (rd_T32 (rd_T67 xs i).f3 k).f0, .int .i64 (rd_T32 (rd_T67 xs i).f3 k).f1, .string (rd_T32 (rd_T67 xs i).f3 k).f2]) (seg := [.int .i64 u.f0, .int .i64 u.f1, .string u.f2]) (j := 0) hcel hcce (by show 0 + 3 ≤ 3; omega) (x' := u) (okp := fun _ => False) (k32_mkM _ _ _ u) (fun _ h => h.elim)
  obtain ⟨hR2, hg2⟩ := hseg
  have e6 : some b6 = (Value.slice (some ⟨b6, 0, none⟩) (rd_T67 xs i).f3.length c6).ownBlock := by simp [Value.ownBlock]
  have hb6ok : oki b6 := hR.1 b6 e6.symm
  have hw : w.setCells b6 (k.toNat * k32.sz + 0) [.int .i64 u.f0, .int .i64 u.f1, .string u.f2] = ((w.setCell ⟨b6, k.toNat * 3, none⟩ (.int .i64 u.f0)).setCell ⟨b6, k.toNat * 3 + 1, none⟩ (.int .i64 u.f1)).setCell ⟨b6, k.toNat * 3 + 2, none⟩ (.string u.f2) := rfl
  rw [hw] at hR2 hg2
  have hx' := hback (x' := ⟨(rd_T67 xs i).f0, (rd_T67 xs i).f1, (rd_T67 xs i).f2, (rd_T67 xs i).f3.set k.toNat u⟩) hg2 (fun q hq => by injection hq with hq; subst hq; exact hb6ok) (by
    have := k67_mkM (((w.setCell ⟨b6, k.toNat * 3, none⟩ (.int .i64 u.f0)).setCell ⟨b6, k.toNat * 3 + 1, none⟩ (.int .i64 u.f1)).setCell ⟨b6, k.toNat * 3 + 2, none⟩ (.string u.f2)) base oki (⟨(rd_T67 xs i).f0, (rd_T67 xs i).f1, (rd_T67 xs i).f2, (rd_T67 xs i).f3.set k.toNat u⟩ : S67) hR2
    exact this)
  have hcell6 := hcc 6 _ rfl
  rw [add_plain] at hcell6
  have hne : g ≠ b6 := by
    obtain ⟨cells, hc⟩ := Kd.R_typed hR b6 e6.symm
    exact blk_ne hg hc (by decide)
  refine ⟨b6, c6, hcell6, hcap, hl6, hb6, (hoki b6 hb6ok).1, hcce 0 _ rfl, hcce 1 _ rfl, hcce 2 _ rfl, hfre, _, ?_, okg, bg, hx'⟩
  rw [tot_put xs i k u h0 h1]
  exact blk_far (blk_far (blk_far hg hne _) hne _) hne _
theorem Hq.hp {w : World} {base : Nat} {ok : Nat → Prop} {g : Nat} {v : Value} {xs : List S67} (h : Hq w base ok g v xs) : Hp w base ok g xs := ⟨v, h⟩
theorem Hp.to_at {w : World} {base : Nat} {ok : Nat → Prop} {g : Nat} {xs : List S67} (h : Hp w base ok g xs) (hp : 0 < xs.length) : ∃ b c, xs.length ≤ c ∧ Hq w base ok g (.slice (some ⟨b, 0, none⟩) xs.length c) xs := by
  obtain ⟨v, hg, okg, bg, hS⟩ := h
  obtain ⟨b, c, rfl, _, _, _⟩ := Kd.S_form hS hp
  exact ⟨b, c, (Kd.S_reads' hS).2.1, hg, okg, bg, hS⟩
theorem pw_below_low {base : Nat} {w w1 : World} (h : Below w.heap.size w w1) (hb : base ≤ w.heap.size) : Below base w w1 := h.mono hb
set_option maxRecDepth 100000 in
theorem store_ok (g : Nat) (xs : List S67) (x : S32) (i : Int) (u : S32) (w : World) (base : Nat) (ok : Nat → Prop) (h : Hp w base ok g xs) (ht : there x xs.length = true) (hi : 0 ≤ i) (hi2 : i < (rd_T67 xs x.f1).f3.length) (hle : base ≤ w.heap.size) :
    Calls Try.prog 11 #[.pointer (some ⟨g, 0, none⟩), .agg #[.int .i64 x.f0, .int .i64 x.f1, .string x.f2], .int .i64 i, .agg #[.int .i64 u.f0, .int .i64 u.f1, .string u.f2]] w fun e w' => e = .returned (.int .i64 0) ∧ Hp w' base ok g (putL xs x.f1 i u) ∧ Below base w w' ∧ Kept w w' ok := by
  have hx := ht
  unfold there at hx
  simp only [Bool.and_eq_true, decide_eq_true_eq, beq_iff_eq] at hx
  obtain ⟨b, c, hl, hq⟩ := h.to_at (by omega)
  have hu26 := Try.underlying26
  have hu32 := Try.underlying32
  have hu67 := Try.underlying67
  obtain ⟨wo, hwo⟩ : ∃ wo : World, wo = (w.alloc (.cells #[.int .i64 x.f0, .int .i64 x.f1, .string x.f2] 32)).alloc (.cells #[.int .i64 u.f0, .int .i64 u.f1, .string u.f2] 32) := ⟨_, rfl⟩
  have HB := Aside0.mk (show Below w.heap.size w wo by rw [hwo]; exact below_alloc (below_alloc (Below.refl _ _) _) _)
  have HP := Aside0.mk (show wo.heap[w.heap.size + 1]? = some (.cells #[.int .i64 u.f0, .int .i64 u.f1, .string u.f2] 32 (0, 0)) by rw [hwo]; have := blk_new (w.alloc (.cells #[.int .i64 x.f0, .int .i64 x.f1, .string x.f2] 32)) (.cells #[.int .i64 u.f0, .int .i64 u.f1, .string u.f2] 32); simpa using this)
  have HQ := Aside0.mk (hq.below HB.out)
  have HT := Aside0.mk ht
  have d1 : decide (i < 0) = false := decide_eq_false (by omega)
  have d2 : decide (((rd_T67 xs x.f1).f3.length : Int) ≤ i) = false := decide_eq_false (by omega)
  have HX := Aside0.mk hx
  have HLE := Aside0.mk hle
  clear ht hx hq h hle
  go_enter Try.func11, Try.ntmps11
  go_wp2_with fail
  rw [← hwo]
  clear hwo
  go_wp2_with (go_at_call 28; refine (find_some g b xs.length c _ x _ HQ.out.1 HT.out hl).mono ?_; rintro e w2 ⟨rfl, hb⟩; have HB2 := Aside0.mk (below_step HB.out hb); have HP2 := Aside0.mk (blk_below HP.out hb); have HQ2 := Aside0.mk (HQ.out.below hb); have c0 := (blk_cell HP2.out 0).trans rfl; have c1 := (blk_cell HP2.out 1).trans rfl; have c2 := (blk_cell HP2.out 2).trans rfl; clear hb; obtain ⟨b6, c6, x6, hl6, hb6, hbb6, hok6, y0, y1, y2, hfr, v, hq3⟩ := HQ2.out.store x.f1 i HX.out.2.1 HX.out.2.2 hi hi2 u; have HQ3 := Aside0.mk hq3; have y0f : w2.frozen? ⟨b6, i.toNat * 3, none⟩ = false := hfr 0; have y1f := hfr 1; have y2f := hfr 2; have HO6 := Aside0.mk (And.intro hbb6 hok6); clear hfr hq3 hbb6 hok6 hb6)
  go_still_tail 7, (by kernel_rfl)
  change wpList _ _ _ _ _ w2.drew
  go_wp2
  go_ret
  exact ⟨rfl, (HQ3.out.hp).move (fun _ _ _ => rfl), (((((HB2.out.mono HLE.out).setCell (p := ⟨b6, i.toNat * 3, none⟩) HO6.out.1 _).setCell (p := ⟨b6, i.toNat * 3 + 1, none⟩) HO6.out.1 _).setCell (p := ⟨b6, i.toNat * 3 + 2, none⟩) HO6.out.1 _).drew), ((((Kept.of_below HB2.out ok).setCell (p := ⟨b6, i.toNat * 3, none⟩) (.inl HO6.out.2) _).setCell (p := ⟨b6, i.toNat * 3 + 1, none⟩) (.inl HO6.out.2) _).setCell (p := ⟨b6, i.toNat * 3 + 2, none⟩) (.inl HO6.out.2) _).drew⟩
set_option maxRecDepth 100000 in
theorem store_none (g : Nat) (xs : List S67) (x : S32) (i : Int) (u : S32) (w : World) (base : Nat) (ok : Nat → Prop) (h : Hp w base ok g xs) (ht : there x xs.length = false) :
    Calls Try.prog 11 #[.pointer (some ⟨g, 0, none⟩), .agg #[.int .i64 x.f0, .int .i64 x.f1, .string x.f2], .int .i64 i, .agg #[.int .i64 u.f0, .int .i64 u.f1, .string u.f2]] w fun e w' => e = .returned (.int .i64 3) ∧ Below w.heap.size w w' := by
  obtain ⟨A, c, hg, hl⟩ := h.head
  have hu26 := Try.underlying26
  have hu32 := Try.underlying32
  have hu67 := Try.underlying67
  obtain ⟨wo, hwo⟩ : ∃ wo : World, wo = (w.alloc (.cells #[.int .i64 x.f0, .int .i64 x.f1, .string x.f2] 32)).alloc (.cells #[.int .i64 u.f0, .int .i64 u.f1, .string u.f2] 32) := ⟨_, rfl⟩
  have HB := Aside0.mk (show Below w.heap.size w wo by rw [hwo]; exact below_alloc (below_alloc (Below.refl _ _) _) _)
  have HG := Aside0.mk (blk_below hg HB.out)
  have HT := Aside0.mk ht
  clear hg ht
  go_enter Try.func11, Try.ntmps11
  go_wp2_with fail
  rw [← hwo]
  clear hwo
  go_wp2_with (go_at_call 28; refine (find_none g A xs.length c _ x _ HG.out HT.out).mono ?_; rintro e w2 ⟨rfl, hb⟩; have HB2 := Aside0.mk (below_step HB.out hb); clear hb)
  go_ret
  exact ⟨rfl, HB2.out⟩
set_option maxRecDepth 100000 in
theorem store_low (g : Nat) (xs : List S67) (x : S32) (i : Int) (u : S32) (w : World) (base : Nat) (ok : Nat → Prop) (h : Hp w base ok g xs) (ht : there x xs.length = true) (hi : i < 0) :
    Calls Try.prog 11 #[.pointer (some ⟨g, 0, none⟩), .agg #[.int .i64 x.f0, .int .i64 x.f1, .string x.f2], .int .i64 i, .agg #[.int .i64 u.f0, .int .i64 u.f1, .string u.f2]] w fun e w' => e = .returned (.int .i64 1) ∧ Below w.heap.size w w' := by
  have hx := ht
  unfold there at hx
  simp only [Bool.and_eq_true, decide_eq_true_eq, beq_iff_eq] at hx
  obtain ⟨b, c, A6, c6, hg, hl, x0, x1, x2, x3, x4, x5, x6, hl6, hC⟩ := h.at_ x.f1 hx.2.1 hx.2.2
  have hu26 := Try.underlying26
  have hu32 := Try.underlying32
  have hu67 := Try.underlying67
  obtain ⟨wo, hwo⟩ : ∃ wo : World, wo = (w.alloc (.cells #[.int .i64 x.f0, .int .i64 x.f1, .string x.f2] 32)).alloc (.cells #[.int .i64 u.f0, .int .i64 u.f1, .string u.f2] 32) := ⟨_, rfl⟩
  have HB := Aside0.mk (show Below w.heap.size w wo by rw [hwo]; exact below_alloc (below_alloc (Below.refl _ _) _) _)
  have HG := Aside0.mk (blk_below hg HB.out)
  have HT := Aside0.mk ht
  generalize hy : rd_T67 xs x.f1 = y at *
  have MV : ∀ {w2 : World} {a : Addr} {v : Value}, Below wo.heap.size wo w2 → w.cell? a = some v → w2.cell? a = some v := fun hb hc => pw_cell_below (below_step HB.out hb) hc
  have d1 : decide (i < 0) = true := decide_eq_true hi
  clear hg ht hx hy
  go_enter Try.func11, Try.ntmps11
  go_wp2_with fail
  rw [← hwo]
  clear hwo
  go_wp2_with (go_at_call 28; refine (find_some g b xs.length c _ x _ HG.out HT.out hl).mono ?_; rintro e w2 ⟨rfl, hb⟩; have k6 := MV hb x6; have HB2 := Aside0.mk (below_step HB.out hb); clear hb)
  go_ret
  exact ⟨rfl, HB2.out⟩
set_option maxRecDepth 100000 in
theorem store_high (g : Nat) (xs : List S67) (x : S32) (i : Int) (u : S32) (w : World) (base : Nat) (ok : Nat → Prop) (h : Hp w base ok g xs) (ht : there x xs.length = true) (hi : 0 ≤ i) (hi2 : ((rd_T67 xs x.f1).f3.length : Int) ≤ i) :
    Calls Try.prog 11 #[.pointer (some ⟨g, 0, none⟩), .agg #[.int .i64 x.f0, .int .i64 x.f1, .string x.f2], .int .i64 i, .agg #[.int .i64 u.f0, .int .i64 u.f1, .string u.f2]] w fun e w' => e = .returned (.int .i64 1) ∧ Below w.heap.size w w' := by
  have hx := ht
  unfold there at hx
  simp only [Bool.and_eq_true, decide_eq_true_eq, beq_iff_eq] at hx
  obtain ⟨b, c, A6, c6, hg, hl, x0, x1, x2, x3, x4, x5, x6, hl6, hC⟩ := h.at_ x.f1 hx.2.1 hx.2.2
  have hu26 := Try.underlying26
  have hu32 := Try.underlying32
  have hu67 := Try.underlying67
  obtain ⟨wo, hwo⟩ : ∃ wo : World, wo = (w.alloc (.cells #[.int .i64 x.f0, .int .i64 x.f1, .string x.f2] 32)).alloc (.cells #[.int .i64 u.f0, .int .i64 u.f1, .string u.f2] 32) := ⟨_, rfl⟩
  have HB := Aside0.mk (show Below w.heap.size w wo by rw [hwo]; exact below_alloc (below_alloc (Below.refl _ _) _) _)
  have HG := Aside0.mk (blk_below hg HB.out)
  have HT := Aside0.mk ht
  generalize hy : rd_T67 xs x.f1 = y at *
  have MV : ∀ {w2 : World} {a : Addr} {v : Value}, Below wo.heap.size wo w2 → w.cell? a = some v → w2.cell? a = some v := fun hb hc => pw_cell_below (below_step HB.out hb) hc
  have d1 : decide (i < 0) = false := decide_eq_false (by omega)
  have d2 : decide ((y.f3.length : Int) ≤ i) = true := decide_eq_true hi2
  clear hg ht hx hy
  go_enter Try.func11, Try.ntmps11
  go_wp2_with fail
  rw [← hwo]
  clear hwo
  go_wp2_with (go_at_call 28; refine (find_some g b xs.length c _ x _ HG.out HT.out hl).mono ?_; rintro e w2 ⟨rfl, hb⟩; have k6 := MV hb x6; have HB2 := Aside0.mk (below_step HB.out hb); clear hb)
  go_ret
  exact ⟨rfl, HB2.out⟩
end Go.Proofs.Ytlfkmignkilplaa.PHeapPlays
