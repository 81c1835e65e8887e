/- The law HeapPlays: what its acts are in memory, the heap and the model side by side. No condition. -/
import Derived.Test.YtlfkmignkilplaaHg
namespace Go.Proofs.Ytlfkmignkilplaa.PHeapPlays
open Go.RowKit Go.Proofs.YtlfkmignkilplaaW.PrintWords Go.Proofs.YtlfkmignkilplaaW.PrintLast Go.Proofs.YtlfkmignkilplaaW.PrintMore
set_option linter.unusedVariables false
set_option linter.unusedSimpArgs false

/-! ### An act -/
structure S34 where
  f0 : Int
  f1 : ByteArray
  f2 : List S30
  f3 : S30
  f4 : Int
  f5 : S32
  f6 : S32
def z34 : S34 := ⟨0, ⟨#[]⟩, [], z30, 0, z32, z32⟩
def k34 : Kd S34 := Kd.iso (Kd.pair (Kd.int .i64) (Kd.pair Kd.string (Kd.pair (Kd.slice 30 k30) (Kd.pair k30 (Kd.pair (Kd.int .i64) (Kd.pair k32 k32)))))) (fun x : S34 => (x.f0, x.f1, x.f2, x.f3, x.f4, x.f5, x.f6))
theorem k34_open {w : World} {x : S34} {cs : List Value} (h : k34.K w x cs) : ∃ A c, cs = [.int .i64 x.f0, .string x.f1, .slice A x.f2.length c, .int .i64 x.f3.f0, .string x.f3.f1, .int .i64 x.f3.f2, .string x.f3.f3, .int .i64 x.f4, .int .i64 x.f5.f0, .int .i64 x.f5.f1, .string x.f5.f2, .int .i64 x.f6.f0, .int .i64 x.f6.f1, .string x.f6.f2] ∧ x.f2.length ≤ c ∧ k30.C w A x.f2.length x.f2 := by
  obtain ⟨_, _, rfl, rfl, ⟨_, _, rfl, rfl, ⟨_, _, rfl, ⟨A, c, rfl, l2, g2⟩, ⟨_, _, rfl, s3, ⟨_, _, rfl, rfl, ⟨_, _, rfl, s5, s6⟩⟩⟩⟩⟩⟩ := h
  obtain rfl := k30_open s3
  obtain rfl := k32_open s5
  obtain rfl := k32_open s6
  exact ⟨A, c, rfl, l2, g2⟩
theorem k34_mk (w : World) (x : S34) {A : Option Addr} {c : Nat} (l2 : x.f2.length ≤ c) (g2 : k30.C w A x.f2.length x.f2) : k34.K w x [.int .i64 x.f0, .string x.f1, .slice A x.f2.length c, .int .i64 x.f3.f0, .string x.f3.f1, .int .i64 x.f3.f2, .string x.f3.f3, .int .i64 x.f4, .int .i64 x.f5.f0, .int .i64 x.f5.f1, .string x.f5.f2, .int .i64 x.f6.f0, .int .i64 x.f6.f1, .string x.f6.f2] :=
  ⟨[_], _, rfl, rfl, [_], _, rfl, rfl, [_], _, rfl, ⟨A, c, rfl, l2, g2⟩, [_, _, _, _], _, rfl, k30_mk w x.f3, [_], _, rfl, rfl, [_, _, _], _, rfl, k32_mk w x.f5, k32_mk w x.f6⟩
def rd_T34 (xs : List S34) (i : Int) : S34 := xs.getD i.toNat z34
theorem at_T34 {w : World} {A : Option Addr} {n : Nat} {xs : List S34} (h : Kd.C k34 w A n xs) (i : Int) (h0 : 0 ≤ i) (h1 : i < n) : ∃ ad B c, A = some ad ∧ (rd_T34 xs i).f2.length ≤ c ∧ k30.C w B (rd_T34 xs i).f2.length (rd_T34 xs i).f2 ∧ w.cell? (ad.add (i.toNat * 14)) = some (.int .i64 (rd_T34 xs i).f0) ∧
    w.cell? ⟨(ad.add (i.toNat * 14)).block, (ad.add (i.toNat * 14)).off + 1, none⟩ = some (.string (rd_T34 xs i).f1) ∧ w.cell? ⟨(ad.add (i.toNat * 14)).block, (ad.add (i.toNat * 14)).off + 2, none⟩ = some (.slice B (rd_T34 xs i).f2.length c) ∧
    w.cell? ⟨(ad.add (i.toNat * 14)).block, (ad.add (i.toNat * 14)).off + 3, none⟩ = some (.int .i64 (rd_T34 xs i).f3.f0) ∧ w.cell? ⟨(ad.add (i.toNat * 14)).block, (ad.add (i.toNat * 14)).off + 4, none⟩ = some (.string (rd_T34 xs i).f3.f1) ∧ w.cell? ⟨(ad.add (i.toNat * 14)).block, (ad.add (i.toNat * 14)).off + 5, none⟩ = some (.int .i64 (rd_T34 xs i).f3.f2) ∧ w.cell? ⟨(ad.add (i.toNat * 14)).block, (ad.add (i.toNat * 14)).off + 6, none⟩ = some (.string (rd_T34 xs i).f3.f3) ∧
    w.cell? ⟨(ad.add (i.toNat * 14)).block, (ad.add (i.toNat * 14)).off + 7, none⟩ = some (.int .i64 (rd_T34 xs i).f4) ∧ w.cell? ⟨(ad.add (i.toNat * 14)).block, (ad.add (i.toNat * 14)).off + 8, none⟩ = some (.int .i64 (rd_T34 xs i).f5.f0) ∧ w.cell? ⟨(ad.add (i.toNat * 14)).block, (ad.add (i.toNat * 14)).off + 9, none⟩ = some (.int .i64 (rd_T34 xs i).f5.f1) ∧ w.cell? ⟨(ad.add (i.toNat * 14)).block, (ad.add (i.toNat * 14)).off + 10, none⟩ = some (.string (rd_T34 xs i).f5.f2) ∧
    w.cell? ⟨(ad.add (i.toNat * 14)).block, (ad.add (i.toNat * 14)).off + 11, none⟩ = some (.int .i64 (rd_T34 xs i).f6.f0) ∧ w.cell? ⟨(ad.add (i.toNat * 14)).block, (ad.add (i.toNat * 14)).off + 12, none⟩ = some (.int .i64 (rd_T34 xs i).f6.f1) ∧ w.cell? ⟨(ad.add (i.toNat * 14)).block, (ad.add (i.toNat * 14)).off + 13, none⟩ = some (.string (rd_T34 xs i).f6.f2) := by
  obtain ⟨ad, c, e, _, hK, hc0⟩ := Kd.C_get h z34 i h0 h1
  have hc : ∀ j u, c[j]? = some u → w.cell? (ad.add (i.toNat * 14 + j)) = some u := hc0
  obtain ⟨B, c2, rfl, l2, g2⟩ := k34_open hK
  have f : ∀ (j : Nat) (u : Value), 0 < j → ([.int .i64 (rd_T34 xs i).f0, .string (rd_T34 xs i).f1, .slice B (rd_T34 xs i).f2.length c2, .int .i64 (rd_T34 xs i).f3.f0, .string (rd_T34 xs i).f3.f1, .int .i64 (rd_T34 xs i).f3.f2, .string (rd_T34 xs i).f3.f3, .int .i64 (rd_T34 xs i).f4, .int .i64 (rd_T34 xs i).f5.f0, .int .i64 (rd_T34 xs i).f5.f1, .string (rd_T34 xs i).f5.f2, .int .i64 (rd_T34 xs i).f6.f0, .int .i64 (rd_T34 xs i).f6.f1, .string (rd_T34 xs i).f6.f2] : List Value)[j]? = some u → w.cell? ⟨(ad.add (i.toNat * 14)).block, (ad.add (i.toNat * 14)).off + j, none⟩ = some u := fun j u hj hu => by rw [← add_field _ _ j hj]; exact hc j u hu
  exact ⟨ad, B, c2, e, l2, g2, hc 0 _ rfl, f 1 _ (by omega) rfl, f 2 _ (by omega) rfl, f 3 _ (by omega) rfl, f 4 _ (by omega) rfl, f 5 _ (by omega) rfl, f 6 _ (by omega) rfl, f 7 _ (by omega) rfl, f 8 _ (by omega) rfl, f 9 _ (by omega) rfl, f 10 _ (by omega) rfl, f 11 _ (by omega) rfl, f 12 _ (by omega) rfl, f 13 _ (by omega) rfl⟩

/-! ### The heap and the model -/
/-- At hb lies a heap of ys, v is the model's list xs; no block is both's; all are below N. -/
def St (w0 w : World) (N hb : Nat) (v : Value) (ys xs : List S67) : Prop :=
  N ≤ w.heap.size ∧ Below w0.heap.size w0 w ∧ ∃ okH okA : Nat → Prop, Hp w w0.heap.size okH hb ys ∧ Kd.S k67 40 w w0.heap.size okA v xs ∧ (∀ k, okH k → k < N) ∧ (∀ k, okA k → k < N ∧ ¬ okH k)
section
variable {w0 w w1 : World} {N hb : Nat} {v : Value} {ys xs : List S67}
theorem St.below (h : St w0 w N hb v ys xs) (hb1 : Below w.heap.size w w1) : St w0 w1 N hb v ys xs := by
  obtain ⟨hN, hB, okH, okA, h1, h2, h3, h4⟩ := h
  exact ⟨Nat.le_trans hN hb1.size, below_then hB hB.size hb1, okH, okA, h1.below hb1, Kd.S_below h2 hb1, h3, h4⟩
theorem St.alloc (h : St w0 w N hb v ys xs) (o : Obj) : St w0 (w.alloc o) N hb v ys xs := h.below (below_alloc (Below.refl _ _) o)
theorem St.drew (h : St w0 w N hb v ys xs) : St w0 w.drew N hb v ys xs := h.below (below_drew (Below.refl _ _))
theorem St.drewN (h : St w0 w N hb v ys xs) (m : Nat) : St w0 (w.drewN m) N hb v ys xs := h.below (pw_below_drewN (Below.refl _ _) m)
theorem St.renew (h : St w0 w N hb v ys xs) : St w0 w w.heap.size hb v ys xs := by
  obtain ⟨hN, hB, okH, okA, h1, h2, h3, h4⟩ := h
  exact ⟨Nat.le_refl _, hB, okH, okA, h1, h2, fun k hk => by have := h3 k hk; omega, fun k hk => ⟨by have := (h4 k hk).1; omega, (h4 k hk).2⟩⟩
theorem St.bel (h : St w0 w N hb v ys xs) : Below w0.heap.size w0 w := h.2.1
theorem St.hp (h : St w0 w N hb v ys xs) : ∃ ok, Hp w w0.heap.size ok hb ys := by
  obtain ⟨_, _, okH, _, h1, _⟩ := h
  exact ⟨okH, h1⟩
/-- Behind a call that turns the heap alone. -/
theorem St.turn (h : St w0 w N hb v ys xs) {zs : List S67} (hc : ∀ okH : Nat → Prop, Hp w w0.heap.size okH hb ys → (∃ ok' : Nat → Prop, (∀ k, ok' k → okH k ∨ w.heap.size ≤ k) ∧ Hp w1 w0.heap.size ok' hb zs) ∧ Below w0.heap.size w w1 ∧ Kept w w1 okH) : St w0 w1 w1.heap.size hb v zs xs := by
  obtain ⟨hN, hB, okH, okA, h1, h2, h3, h4⟩ := h
  obtain ⟨⟨ok', ho, hh⟩, hb, hk⟩ := hc okH h1
  refine ⟨Nat.le_refl _, hB.trans hb, fun k => ok' k ∧ w0.heap.size ≤ k ∧ k < w1.heap.size, fun k => okA k, hh.bound, Kd.S_kept h2 hk (fun k hk => (h4 k hk).2), fun k hk => hk.2.2, fun k hk => ⟨by have h5 := (h4 k hk).1; have h6 := hb.size; omega, fun hn => ?_⟩⟩
  rcases ho k hn.1 with h5 | h5
  · exact (h4 k hk).2 h5
  · have := (h4 k hk).1
    omega
theorem St.object (h : St w0 w N hb v ys xs) (cls : ByteArray) (fields : List S30) (A : Option Addr) (cap : Nat) (hr : Kd.C k30 w A fields.length fields) (hz : ∀ t ∈ fields, t.f3.size ≤ 140737488351232) (hl : ys.length < 4096) (ht : tot ys + fields.length ≤ 65536) :
    Calls Try.prog 6 #[.pointer (some ⟨hb, 0, none⟩), .string cls, .slice A fields.length cap] w fun e w' => e = .returned (.tuple #[.agg #[.int .i64 5, .int .i64 (ys.length : Nat), .string ⟨#[]⟩], .int .i64 0]) ∧ St w0 w' w'.heap.size hb v (ys ++ [⟨cls, z30, false, fields.map emptyL⟩]) xs ∧ Below w0.heap.size w w' ∧ (∀ k, N ≤ k → k < w.heap.size → w'.heap[k]? = w.heap[k]?) := by
  obtain ⟨hN, hB, okH, okA, h1, h2, h3, h4⟩ := h
  refine (object_ok hb ys cls fields A cap w w w0.heap.size okH h1 hr hz (Below.refl _ _) hB.size hl ht).mono ?_
  rintro e w' ⟨rfl, hh, hb1, hk⟩
  refine ⟨rfl, ⟨Nat.le_refl _, hB.trans hb1, _, okA, hh.bound, Kd.S_kept h2 hk (fun k hk => (h4 k hk).2), fun k hk => hk.2.2, fun k hk => ⟨by have h5 := (h4 k hk).1; have h6 := hb1.size; omega, fun hn => ?_⟩⟩, hb1, fun k hkN hlt => hk.2 k hlt (fun h => by have := h3 k h; omega)⟩
  rcases hn.1 with h5 | h5
  · exact (h4 k hk).2 h5
  · have := (h4 k hk).1
    omega
theorem St.objectFull (h : St w0 w N hb v ys xs) (cls : ByteArray) (n : Nat) (A : Option Addr) (cap : Nat) (hn : n ≤ 1000000) (hl : ys.length ≤ 4096) (ht : tot ys ≤ 65536) (hf : 65536 < tot ys + n) :
    Calls Try.prog 6 #[.pointer (some ⟨hb, 0, none⟩), .string cls, .slice A n cap] w fun e w' => e = .returned (.tuple #[.agg #[.int .i64 0, .int .i64 0, .string ⟨#[]⟩], .int .i64 2]) ∧ St w0 w' N hb v ys xs ∧ Below w.heap.size w w' := by
  obtain ⟨ok, h1⟩ := h.hp
  refine (object_full hb ys cls n A cap w _ ok h1 hn hl ht (.inl hf)).mono ?_
  rintro e w' ⟨rfl, hb1⟩
  exact ⟨rfl, h.below hb1, hb1⟩
theorem St.array (h : St w0 w N hb v ys xs) (t : S30) (m : Nat) (hz : t.f3.size ≤ 140737488351232) (hl : ys.length < 4096) (ht : tot ys + m ≤ 65536) :
    Calls Try.prog 9 #[.pointer (some ⟨hb, 0, none⟩), .agg #[.int .i64 t.f0, .string t.f1, .int .i64 t.f2, .string t.f3], .int .i64 (m : Int)] w fun e w' => e = .returned (.tuple #[.agg #[.int .i64 5, .int .i64 (ys.length : Nat), .string ⟨#[]⟩], .int .i64 0]) ∧ St w0 w' w'.heap.size hb v (ys ++ [⟨⟨#[]⟩, t, true, List.replicate m (emptyL t)⟩]) xs ∧ Below w0.heap.size w w' ∧ (∀ k, N ≤ k → k < w.heap.size → w'.heap[k]? = w.heap[k]?) := by
  obtain ⟨hN, hB, okH, okA, h1, h2, h3, h4⟩ := h
  refine (array_ok hb ys t m w w w0.heap.size okH h1 hz (Below.refl _ _) hB.size hl ht).mono ?_
  rintro e w' ⟨rfl, hh, hb1, hk⟩
  refine ⟨rfl, ⟨Nat.le_refl _, hB.trans hb1, _, okA, hh.bound, Kd.S_kept h2 hk (fun k hk => (h4 k hk).2), fun k hk => hk.2.2, fun k hk => ⟨by have h5 := (h4 k hk).1; have h6 := hb1.size; omega, fun hn => ?_⟩⟩, hb1, fun k hkN hlt => hk.2 k hlt (fun h => by have := h3 k h; omega)⟩
  rcases hn.1 with h5 | h5
  · exact (h4 k hk).2 h5
  · have := (h4 k hk).1
    omega
theorem St.arrayNot (h : St w0 w N hb v ys xs) (t : S30) (n : Int) (r : Int) (hl : ys.length ≤ 4096) (ht : tot ys ≤ 65536) (hn : n < 0 ∧ r = 1 ∨ 0 ≤ n ∧ 65536 < tot ys + n ∧ r = 2) :
    Calls Try.prog 9 #[.pointer (some ⟨hb, 0, none⟩), .agg #[.int .i64 t.f0, .string t.f1, .int .i64 t.f2, .string t.f3], .int .i64 n] w fun e w' => e = .returned (.tuple #[.agg #[.int .i64 0, .int .i64 0, .string ⟨#[]⟩], .int .i64 r]) ∧ St w0 w' N hb v ys xs ∧ Below w.heap.size w w' := by
  obtain ⟨ok, h1⟩ := h.hp
  have lift : ∀ {r : Int}, (Calls Try.prog 9 #[.pointer (some ⟨hb, 0, none⟩), .agg #[.int .i64 t.f0, .string t.f1, .int .i64 t.f2, .string t.f3], .int .i64 n] w fun e w' => e = .returned (.tuple #[.agg #[.int .i64 0, .int .i64 0, .string ⟨#[]⟩], .int .i64 r]) ∧ Below w.heap.size w w') → Calls Try.prog 9 #[.pointer (some ⟨hb, 0, none⟩), .agg #[.int .i64 t.f0, .string t.f1, .int .i64 t.f2, .string t.f3], .int .i64 n] w fun e w' => e = .returned (.tuple #[.agg #[.int .i64 0, .int .i64 0, .string ⟨#[]⟩], .int .i64 r]) ∧ St w0 w' N hb v ys xs ∧ Below w.heap.size w w' := fun hc => hc.mono (by
    rintro e w' ⟨rfl, hb1⟩
    exact ⟨rfl, h.below hb1, hb1⟩)
  rcases hn with ⟨hn, rfl⟩ | ⟨h0, hn, rfl⟩
  · exact lift (array_neg hb ys t n w w0.heap.size ok hn)
  · by_cases h2 : 65536 < n
    · exact lift (array_big hb ys t n w w0.heap.size ok h2)
    · exact lift (array_room hb ys t n w _ ok h1 h0 (by omega) hl ht (.inl (by omega)))
theorem St.load (h : St w0 w N hb v ys xs) (x : S32) (i : Int) (r : S32) (c : Int) (hr : loadL ys x i = (r, c)) :
    Calls Try.prog 10 #[.pointer (some ⟨hb, 0, none⟩), .agg #[.int .i64 x.f0, .int .i64 x.f1, .string x.f2], .int .i64 i] w fun e w' => e = .returned (.tuple #[.agg #[.int .i64 r.f0, .int .i64 r.f1, .string r.f2], .int .i64 c]) ∧ St w0 w' N hb v ys xs ∧ Below w.heap.size w w' := by
  obtain ⟨ok, h1⟩ := h.hp
  refine (load_any hb ys x i r c w _ ok h1 hr).mono ?_
  rintro e w' ⟨rfl, hb1⟩
  exact ⟨rfl, h.below hb1, hb1⟩
theorem St.store (h : St w0 w N hb v ys xs) (x : S32) (i : Int) (u : S32) (c : Int) (zs : List S67) (hc : storeC ys x i = c) (hz : storeL ys x i u = zs) :
    Calls Try.prog 11 #[.pointer (some ⟨hb, 0, none⟩), .agg #[.int .i64 x.f0, .int .i64 x.f1, .string x.f2], .int .i64 i, .agg #[.int .i64 u.f0, .int .i64 u.f1, .string u.f2]] w fun e w' => e = .returned (.int .i64 c) ∧ St w0 w' w'.heap.size hb v zs xs ∧ Below w0.heap.size w w' ∧ (∀ k, N ≤ k → k < w.heap.size → w'.heap[k]? = w.heap[k]?) := by
  obtain ⟨hN, hB, okH, okA, h1, h2, h3, h4⟩ := h
  refine (store_any hb ys x i u w _ okH h1 hB.size c zs hc hz).mono ?_
  rintro e w' ⟨rfl, hh, hb1, hk⟩
  exact ⟨rfl, ⟨Nat.le_refl _, hB.trans hb1, okH, okA, hh, Kd.S_kept h2 hk (fun k hk => (h4 k hk).2), fun k hk => by have := h3 k hk; have := hb1.size; omega, fun k hk => ⟨by have := (h4 k hk).1; have := hb1.size; omega, (h4 k hk).2⟩⟩, hb1, fun k hkN hlt => hk.2 k hlt (fun h => by have := h3 k h; omega)⟩
/-- What an append to the model wants, and what it leaves. -/
theorem St.wants (h : St w0 w N hb v ys xs) : ∃ okA : Nat → Prop, (∀ k, okA k → k < N) ∧ Kd.S k67 40 w w0.heap.size (fun k => (okA k ∨ N ≤ k) ∧ ¬ (N ≤ k)) v xs ∧ (∀ k, N ≤ k → (okA k ∨ N ≤ k) ∧ some k ≠ v.ownBlock) ∧
    ∀ {W1 : World} {v1 : Value} {x : S67}, Kd.S k67 40 W1 w0.heap.size (fun k => okA k ∨ N ≤ k) v1 (xs ++ [x]) → Below w0.heap.size w0 W1 → w.grownBy W1 v.ownBlock → St w0 W1 W1.heap.size hb v1 ys (xs ++ [x]) := by
  obtain ⟨hN, hB, okH, okA, h1, h2, h3, h4⟩ := h
  have hS : Kd.S k67 40 w w0.heap.size (fun k => (okA k ∨ N ≤ k) ∧ ¬ (N ≤ k)) v xs := Kd.S_mono h2 (fun k hk => ⟨.inl hk, by have := (h4 k hk).1; omega⟩)
  refine ⟨okA, fun k hk => (h4 k hk).1, hS, fun k hk => ⟨.inr hk, fun he => ?_⟩, fun hS1 hB1 hg => ?_⟩
  · have := (h4 k ((Kd.S_R h2).1 k he.symm)).1
    omega
  · refine ⟨Nat.le_refl _, hB1, okH, _, h1.move (fun k hk hlt => hg.block k hlt (fun he => (h4 k ((Kd.S_R h2).1 k he.symm)).2 hk)), Kd.S_bound hS1, fun k hk => by have := h3 k hk; have := hg.size; omega, fun k hk => ⟨hk.2.2.1, fun hn => ?_⟩⟩
    rcases hk.1 with h5 | h5
    · exact (h4 k h5).2 hn
    · have := h3 k hn
      omega
theorem St.slice (h : St w0 w N hb v ys xs) : ∃ A c, v = .slice A xs.length c ∧ xs.length ≤ c := by
  obtain ⟨_, _, _, okA, _, h2, _⟩ := h
  obtain ⟨A, c, rfl, hl, _⟩ := Kd.S_reads h2
  exact ⟨A, c, rfl, hl⟩
theorem St.cells (h : St w0 w N hb v ys xs) (i : Int) (h0 : 0 ≤ i) (h1 : i < xs.length) : ∃ b c A6 c6, v = .slice (some ⟨b, 0, none⟩) xs.length c ∧ xs.length ≤ c ∧
    w.cell? ⟨b, i.toNat * 7, none⟩ = some (.string (rd_T67 xs i).f0) ∧ w.cell? ⟨b, i.toNat * 7 + 1, none⟩ = some (.int .i64 (rd_T67 xs i).f1.f0) ∧ w.cell? ⟨b, i.toNat * 7 + 2, none⟩ = some (.string (rd_T67 xs i).f1.f1) ∧ w.cell? ⟨b, i.toNat * 7 + 3, none⟩ = some (.int .i64 (rd_T67 xs i).f1.f2) ∧ w.cell? ⟨b, i.toNat * 7 + 4, none⟩ = some (.string (rd_T67 xs i).f1.f3) ∧
    w.cell? ⟨b, i.toNat * 7 + 5, none⟩ = some (.bool (rd_T67 xs i).f2) ∧ w.cell? ⟨b, i.toNat * 7 + 6, none⟩ = some (.slice A6 (rd_T67 xs i).f3.length c6) ∧ (rd_T67 xs i).f3.length ≤ c6 ∧ k32.C w A6 (rd_T67 xs i).f3.length (rd_T67 xs i).f3 := by
  obtain ⟨_, _, _, okA, _, hS, _⟩ := h
  obtain ⟨b, c, rfl, _, _, _⟩ := Kd.S_form hS (by omega)
  obtain ⟨_, hl, hC⟩ := Kd.S_reads' hS
  obtain ⟨ad, A6, c6, had, x0, x1, x2, x3, x4, x5, x6, x7, x8⟩ := at_T67 hC i h0 h1
  injection had with had
  subst had
  simp only [add_plain] at x0 x1 x2 x3 x4 x5 x6
  exact ⟨b, c, A6, c6, rfl, hl, x0, x1, x2, x3, x4, x5, x6, x7, x8⟩
/-- What a store into the model wants, and what it leaves. -/
theorem St.put (h : St w0 w N hb v ys xs) (i k : Int) (h0 : 0 ≤ i) (h1 : i < xs.length) (k0 : 0 ≤ k) (k1 : k < (rd_T67 xs i).f3.length) (u : S32) :
    ∃ b c b6 c6, v = .slice (some ⟨b, 0, none⟩) xs.length c ∧ xs.length ≤ c ∧ w.cell? ⟨b, i.toNat * 7 + 6, none⟩ = some (.slice (some ⟨b6, 0, none⟩) (rd_T67 xs i).f3.length c6) ∧ (rd_T67 xs i).f3.length ≤ c6 ∧ b6 < N ∧ w0.heap.size ≤ b6 ∧
      w.cell? ⟨b6, k.toNat * 3, none⟩ = some (.int .i64 (rd_T32 (rd_T67 xs i).f3 k).f0) ∧ w.cell? ⟨b6, k.toNat * 3 + 1, none⟩ = some (.int .i64 (rd_T32 (rd_T67 xs i).f3 k).f1) ∧ w.cell? ⟨b6, k.toNat * 3 + 2, none⟩ = some (.string (rd_T32 (rd_T67 xs i).f3 k).f2) ∧ (∀ j, w.frozen? ⟨b6, k.toNat * 3 + j, none⟩ = false) ∧
      St w0 (((w.setCell ⟨b6, k.toNat * 3, none⟩ (.int .i64 u.f0)).setCell ⟨b6, k.toNat * 3 + 1, none⟩ (.int .i64 u.f1)).setCell ⟨b6, k.toNat * 3 + 2, none⟩ (.string u.f2)) N hb v ys (putL xs i k u) := by
  obtain ⟨hN, hB, okH, okA, hH, hS, h3, h4⟩ := h
  obtain ⟨b, c, rfl, _, _, _⟩ := Kd.S_form hS (by omega)
  obtain ⟨_, hlc, _⟩ := Kd.S_reads' hS
  obtain ⟨oki, cs, hcl, hM, hcc, hoki, hback⟩ := Kd.S_borrow hS z67 i h0 h1
  have hM' : k67.M w w0.heap.size oki (rd_T67 xs i) cs := hM
  obtain ⟨v6, rfl, hR⟩ := k67_openM hM'
  have hkn : k.toNat < (rd_T67 xs i).f3.length := by omega
  obtain ⟨b6, c6, rfl, hb6, hl6, _⟩ := Kd.R_form hR (by omega)
  obtain ⟨_, hcap, hC6⟩ := Kd.R_reads' hR
  obtain ⟨ce, hcel, hMe, hcce, hfre⟩ := Kd.R_elem hR z32 k k0 (by omega)
  have hMe' : k32.M w w0.heap.size (fun k => oki k ∧ k ≠ b6) (rd_T32 (rd_T67 xs i).f3 k) ce := hMe
  obtain rfl := k32_openM hMe'
  have hseg := Kd.R_seg hR k k0 (by omega) (c := [.int .i64 (rd_T32 (rd_T67 xs i).f3 k).f0, .int .i64 (rd_T32 (rd_T67 xs i).f3 k).f1, .string (rd_T32 (rd_T67 xs i).f3 k).f2]) (seg := [.int .i64 u.f0, .int .i64 u.f1, .string u.f2]) (j := 0) hcel hcce (by show 0 + 3 ≤ 3; omega) (x' := u) (okp := fun _ => False) (k32_mkM _ _ _ u) (fun _ h => h.elim)
  obtain ⟨hR2, hg2⟩ := hseg
  have e6 : some b6 = (Value.slice (some ⟨b6, 0, none⟩) (rd_T67 xs i).f3.length c6).ownBlock := by simp [Value.ownBlock]
  have hb6ok : oki b6 := hR.1 b6 e6.symm
  have hb6A := h4 b6 (hoki b6 hb6ok).1
  have hw : w.setCells b6 (k.toNat * k32.sz + 0) [.int .i64 u.f0, .int .i64 u.f1, .string u.f2] = ((w.setCell ⟨b6, k.toNat * 3, none⟩ (.int .i64 u.f0)).setCell ⟨b6, k.toNat * 3 + 1, none⟩ (.int .i64 u.f1)).setCell ⟨b6, k.toNat * 3 + 2, none⟩ (.string u.f2) := rfl
  rw [hw] at hR2 hg2
  have hx' := hback (x' := ⟨(rd_T67 xs i).f0, (rd_T67 xs i).f1, (rd_T67 xs i).f2, (rd_T67 xs i).f3.set k.toNat u⟩) hg2 (fun q hq => by injection hq with hq; subst hq; exact hb6ok) (by
    have := k67_mkM (((w.setCell ⟨b6, k.toNat * 3, none⟩ (.int .i64 u.f0)).setCell ⟨b6, k.toNat * 3 + 1, none⟩ (.int .i64 u.f1)).setCell ⟨b6, k.toNat * 3 + 2, none⟩ (.string u.f2)) w0.heap.size oki (⟨(rd_T67 xs i).f0, (rd_T67 xs i).f1, (rd_T67 xs i).f2, (rd_T67 xs i).f3.set k.toNat u⟩ : S67) hR2
    exact this)
  have hcell6 := hcc 6 _ rfl
  rw [add_plain] at hcell6
  refine ⟨b, c, b6, c6, rfl, hlc, hcell6, hcap, hb6A.1, hb6, hcce 0 _ rfl, hcce 1 _ rfl, hcce 2 _ rfl, hfre, by rw [← hw]; exact Nat.le_trans hN (by rw [hw]; exact hg2.size), ?_, okH, okA, hH.move (fun q hq hlt => hg2.block q hlt (fun he => by injection he with he; subst he; exact hb6A.2 hq)), hx', h3, h4⟩
  exact ((hB.setCell (p := ⟨b6, k.toNat * 3, none⟩) hb6 _).setCell (p := ⟨b6, k.toNat * 3 + 1, none⟩) hb6 _).setCell (p := ⟨b6, k.toNat * 3 + 2, none⟩) hb6 _
end
end Go.Proofs.Ytlfkmignkilplaa.PHeapPlays
