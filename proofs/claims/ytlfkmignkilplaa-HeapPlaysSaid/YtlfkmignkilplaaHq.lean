/- HeapPlays: an act played. No condition. -/
import Derived.Test.YtlfkmignkilplaaHm
import Derived.Test.YtlfkmignkilplaaHn
import Derived.Test.YtlfkmignkilplaaHo
import Derived.Test.YtlfkmignkilplaaHp
import Derived.Test.YtlfkmignkilplaaHt
namespace Go.Proofs.Ytlfkmignkilplaa.PHeapPlays
open Go.RowKit Go.Proofs.YtlfkmignkilplaaW.PrintWords Go.Proofs.YtlfkmignkilplaaW.PrintLast Go.Proofs.YtlfkmignkilplaaW.PrintMore
set_option linter.unusedVariables false
set_option linter.unusedSimpArgs false

/-- Any act of a good size, in memory: the switch plays it. -/
theorem arms : ArmsP := by
  intro w wq l A c hb j N ob v xs o B cB ts Q hQ hC hR hP hx hN hS hl hj ht hw hn hr hz hy th hth hf
  subst hth
  rw [hf]
  clear hf
  by_cases k0 : o.f0 = 0
  · by_cases h1 : 65536 < tot xs + o.f2.length
    · exact a_object_full w wq l A c hb j N ob v xs o B cB (fun k => ts.getD k undef) Q hQ hC hR hP hx hN hS hl hj ht hw k0 h1 hn _
    · exact a_object_ok w wq l A c hb j N ob v xs o B cB (fun k => ts.getD k undef) Q hQ hC hR hP hx hN hS hl hj ht hw k0 (by omega) hn hr hz _
  · by_cases k1 : o.f0 = 1
    · by_cases h1 : o.f4 < 0
      · exact a_array_neg w wq l A c hb j N ob v xs o B cB (fun k => ts.getD k undef) Q hQ hC hR hP hx hN hS hl hj ht hw k1 h1 _
      · by_cases h2 : 65536 < o.f4
        · exact a_array_big w wq l A c hb j N ob v xs o B cB (fun k => ts.getD k undef) Q hQ hC hR hP hx hN hS hl hj ht hw k1 h2 _
        · by_cases h3 : 65536 < ((tot xs : Nat) : Int) + o.f4
          · exact a_array_full w wq l A c hb j N ob v xs o B cB (fun k => ts.getD k undef) Q hQ hC hR hP hx hN hS hl hj ht hw k1 (by omega) (by omega) h3 _
          · by_cases h4 : 5000 < o.f4
            · exact a_array_5000 w wq l A c hb j N ob v xs o B cB (fun k => ts.getD k undef) Q hQ hC hR hP hx hN hS hl hj ht hw k1 (by omega) h4 (by omega) hy _
            · exact a_array_ok w wq l A c hb j N ob v xs o B cB (fun k => ts.getD k undef) Q hQ hC hR hP hx hN hS hl hj ht hw k1 (by omega) (by omega) (by omega) hy _
    · cases hth : there o.f5 xs.length with
      | false =>
        by_cases k2 : o.f0 = 2
        · exact a_load_missing w wq l A c hb j N ob v xs o B cB (fun k => ts.getD k undef) Q hQ hC hR hP hx hN hS hl hj ht hw k2 hth
        · exact a_store_missing w wq l A c hb j N ob v xs o B cB (fun k => ts.getD k undef) Q hQ hC hR hP hx hN hS hl hj ht hw (beq_false_of_ne k0) (beq_false_of_ne k1) (beq_false_of_ne k2) hth
      | true =>
        by_cases k2 : o.f0 = 2
        · by_cases h1 : o.f4 < 0
          · exact a_load_low w wq l A c hb j N ob v xs o B cB (fun k => ts.getD k undef) Q hQ hC hR hP hx hN hS hl hj ht hw k2 hth h1
          · by_cases h2 : o.f4 < ((rd_T67 xs o.f5.f1).f3.length : Int)
            · exact a_load_ok w wq l A c hb j N ob v xs o B cB (fun k => ts.getD k undef) Q hQ hC hR hP hx hN hS hl hj ht hw k2 hth (by omega) h2
            · exact a_load_high w wq l A c hb j N ob v xs o B cB (fun k => ts.getD k undef) Q hQ hC hR hP hx hN hS hl hj ht hw k2 hth (by omega) (by omega)
        · by_cases h1 : o.f4 < 0
          · exact a_store_low w wq l A c hb j N ob v xs o B cB (fun k => ts.getD k undef) Q hQ hC hR hP hx hN hS hl hj ht hw (beq_false_of_ne k0) (beq_false_of_ne k1) (beq_false_of_ne k2) hth h1
          · by_cases h2 : o.f4 < ((rd_T67 xs o.f5.f1).f3.length : Int)
            · exact a_store_ok w wq l A c hb j N ob v xs o B cB (fun k => ts.getD k undef) Q hQ hC hR hP hx hN hS hl hj ht hw (beq_false_of_ne k0) (beq_false_of_ne k1) (beq_false_of_ne k2) hth (by omega) h2
            · exact a_store_high w wq l A c hb j N ob v xs o B cB (fun k => ts.getD k undef) Q hQ hC hR hP hx hN hS hl hj ht hw (beq_false_of_ne k0) (beq_false_of_ne k1) (beq_false_of_ne k2) hth (by omega) (by omega)
end Go.Proofs.Ytlfkmignkilplaa.PHeapPlays
