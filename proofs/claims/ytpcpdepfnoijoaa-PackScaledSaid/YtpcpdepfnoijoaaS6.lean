/-
  Part of a proof: A size twice as great, one place lower, is packed as the same (slipsticklaw19.PackScaled).
-/
import Derived.Test.YtpcpdepfnoijoaaQ2
import Derived.Test.YtpcpdepfnoijoaaB5
import Derived.Test.YtpcpdepfnoijoaaVcB
set_option linter.unusedVariables false
set_option linter.unusedSimpArgs false
set_option maxRecDepth 100000
namespace Go.Proofs.Ytpcpdepfnoijoaa
open Go.Vc
theorem rOf {a : List Int} {s : St} {K : AV → St → Prop} (hl : a.length < 2^30) (ha : U32 a) (hk : K (bl (toB (pN a))) s) : CallsA Try.prog 32 [.sl 1 (a.map eU)] s K := by
  refine callsA_of Try.func32 rfl rfl (Nat.le_of_ble_eq_true rfl) ?_
  refine vc_seq ?_
  refine vc_regionW (qm 1) [0] rfl rfl ?_
  refine vq rfl rfl (q_assign rfl) ?_
  refine vendW ?_
  refine vc_seq ?_
  refine vc_regionW (qm 3) [0, 1] rfl rfl ?_
  refine vq rfl rfl (q_buildS sl48 zo4 (by decide) rfl rfl rfl rfl (by decide)) ?_
  refine vq rfl rfl (q_assign rfl) ?_
  refine vendW ?_
  refine vc_seq ?_
  refine vc_seq ?_
  refine vc_regionW (qm 1) [0] rfl rfl ?_
  refine vq rfl rfl (q_assign rfl) ?_
  refine vendW ?_
  refine vc_block ?_
  refine vc_loopS (α := Nat × AV × List Bool × St) [3, 4, 5, 6, 8, 9, 10, 11, 12, 13, 14, 15, 16, 17, 18, 19, 20, 21, 22, 23, 24, 25, 26, 27, 28, 29] (fun q => [(4, .int (q.1 : Int)), (3, q.2.1)]) (fun q => q.2.2.2) (fun q => (q.1 ≤ a.length ∧ q.2.2.1.length = 32 * q.1 ∧ bN q.2.2.1 = pN (a.take q.1)) ∧ OwnSt s q.2.1 4 1 (q.2.2.1.map eT) q.2.2.2) (fun q => a.length - q.1) (0, .slx 1 [], [], s) ⟨⟨by simp, rfl, by simp [bN, pN]⟩, OwnSt.slx _ _ _⟩ rfl ⟨rfl, rfl, trivial⟩ (fun _ => rfl) ?_
  intro ⟨i, x, l, s1⟩ ⟨⟨hi, hll, hv⟩, ho⟩
  simp only at hi hll hv ho ⊢
  refine vc_seq ?_
  refine vc_seq ?_
  refine vc_regionW (qm 15) [0, 1, 2, 3] rfl rfl ?_
  refine vq rfl rfl (q_move rfl) ?_
  refine vq rfl rfl (q_move rfl) ?_
  refine vq rfl rfl (q_len sl53 rfl (by first | exact lenM | rfl)) ?_
  refine vq rfl rfl (q_lt rfl rfl) ?_
  refine vendW ?_
  refine vc_condD rfl (fun h11 => ?_) (fun h11 => ?_)
  ·
    refine vc_skip ?_
    refine vc_seq ?_
    refine vc_block ?_
    refine vc_seq ?_
    refine vc_regionW (qm 31) [0, 1, 2, 3, 4] rfl rfl ?_
    refine vq rfl rfl (q_move rfl) ?_
    refine vq rfl rfl (q_move rfl) ?_
    refine vq rfl rfl (q_index sl53 rfl rfl (by omega) (by first | exact nthI (by omega) | exact nthM (by omega))) ?_
    refine vq rfl rfl (q_load sc92 rfl) ?_
    refine vq rfl rfl (q_assign rfl) ?_
    refine vendW ?_
    refine vc_seq ?_
    refine vc_regionW (qm 1) [0] rfl rfl ?_
    refine vq rfl rfl (q_assign rfl) ?_
    refine vendW ?_
    refine vc_block ?_
    refine vc_loopS (α := Nat × AV × List Bool × St) [3, 5, 6, 18, 19, 20, 21, 22, 23, 24, 25, 26, 27, 28, 29] (fun q => [(6, .int (q.1 : Int)), (5, .v (.int .u32 (((a.getD i 0).toNat / 2 ^ q.1 : Nat) : Int))), (3, q.2.1)]) (fun q => q.2.2.2) (fun q => (q.1 ≤ 32 ∧ q.2.2.1.length = 32 * i + q.1 ∧ bN q.2.2.1 = pN (a.take i) + 2 ^ (32 * i) * ((a.getD i 0).toNat % 2 ^ q.1)) ∧ OwnSt s q.2.1 4 1 (q.2.2.1.map eT) q.2.2.2) (fun q => 32 - q.1) (0, x, l, s1) ⟨⟨by simp, hll, by simp [hv, Nat.mod_one]⟩, ho⟩ rfl ⟨rfl, (congrArg (fun z : Int => some (AV.v (.int .u32 z))) (of_init ha i)), rfl, trivial⟩ (fun _ => rfl) ?_
    intro ⟨k, x2, l2, s2⟩ ⟨⟨hk2, hll2, hv2⟩, ho2⟩
    simp only at hk2 hll2 hv2 ho2 ⊢
    refine vc_seq ?_
    refine vc_seq ?_
    refine vc_regionW (qm 3) [0, 1] rfl rfl ?_
    refine vq rfl rfl (q_move rfl) ?_
    refine vq rfl rfl (q_lt rfl rfl) ?_
    refine vendW ?_
    refine vc_condD rfl (fun h19 => ?_) (fun h19 => ?_)
    ·
      refine vc_skip ?_
      refine vc_seq ?_
      refine vc_block ?_
      refine vc_seq ?_
      refine vc_regionW (qm 95) [0, 1, 2, 3, 4, 5, 6] rfl rfl ?_
      refine vq rfl rfl (q_move rfl) ?_
      refine vq rfl rfl (q_move rfl) ?_
      refine vq rfl rfl (q_rem rfl rfl (by omega) rfl) ?_
      refine vq rfl rfl (q_eq rfl rfl) ?_
      refine vq rfl rfl (q_buildS sl48 zo4 (by decide) rfl rfl rfl rfl (by decide)) ?_
      refine ve rfl rfl (e_append sl48 zo4 rfl rfl ho2 (SrcOK.slx 1 _) (rowsC1_one rfl) (by simp [maxLen_eq]; omega) (fun x3 s3 ho3 => ?_))
      refine vq rfl rfl (q_assign rfl) ?_
      refine vendW ?_
      refine vc_regionW (qm 7) [0, 1, 2] rfl rfl ?_
      refine vq rfl rfl (q_move rfl) ?_
      refine vq rfl rfl (q_quo rfl rfl (by omega) rfl) ?_
      refine vq rfl rfl (q_assign rfl) ?_
      refine vendW ?_
      refine vc_regionW (qm 7) [0, 1, 2] rfl rfl ?_
      refine vq rfl rfl (q_move rfl) ?_
      refine vq rfl rfl (q_add rfl rfl (w64 (by omega))) ?_
      refine vq rfl rfl (q_assign rfl) ?_
      refine vendW ?_
      refine ⟨(k + 1, x3, l2 ++ [((a.getD i 0).toNat).testBit k], s3), ⟨⟨by simp only; omega, by simp only [List.length_append, List.length_singleton]; omega, of_bit hll2 hv2⟩, by rw [List.map_append]; exact of_own ho3⟩, by simp only; omega, ?_, ⟨rfl, (congrArg (fun z : Int => some (AV.v (.int .u32 z))) (half_u32 ha i k)), rfl, trivial⟩, rfl⟩
      repeat (first | exact Same.refl | refine Same.upd rfl ?_ | refine Same.drop rfl ?_)
    refine vc_exit ?_
    refine vc_regionW (qm 7) [0, 1, 2] rfl rfl ?_
    refine vq rfl rfl (q_move rfl) ?_
    refine vq rfl rfl (q_add rfl rfl (w64 (by omega))) ?_
    refine vq rfl rfl (q_assign rfl) ?_
    refine vendW ?_
    refine ⟨(i + 1, x2, l2, s2), ⟨⟨by simp only; omega, by simp only; omega, of_take ha (by omega) (by omega) hv2⟩, ho2⟩, by simp only; omega, ?_, ⟨rfl, rfl, trivial⟩, rfl⟩
    repeat (first | exact Same.refl | refine Same.upd rfl ?_ | refine Same.drop rfl ?_)
  refine vc_exit ?_
  refine vc_seq ?_
  refine vc_frz (i := 3) ho rfl ?_
  refine vc_regionW (qm 5) [0, 1, 2] rfl rfl ?_
  refine vq rfl rfl (q_move rfl) ?_
  refine ve rfl rfl (e_callF go64 rfl (rCut (b := l) (by omega) ?_))
  refine vq rfl rfl (q_assign rfl) ?_
  refine vendW ?_
  refine vc_ret ?_
  have e : i = a.length := by omega
  subst e
  rw [List.take_length] at hv
  rw [← hv] at hk
  exact ret1 rfl rfl (Le.refl _) (Cv.le (Le.refl _) _) hk
theorem many_0 {s : St} {K : AV → St → Prop} (hk : K (.int 0) s) : CallsA Try.prog 143 [.int 0] s K := by
  refine callsA_of Try.func143 rfl rfl (Nat.le_of_ble_eq_true rfl) ?_
  refine vc_seq ?_
  refine vc_regionW (qm 1) [0] rfl rfl ?_
  refine vq rfl rfl (q_assign rfl) ?_
  refine vendW ?_
  refine vc_seq ?_
  refine vc_seq ?_
  refine vc_regionW (qm 1) [0] rfl rfl ?_
  refine vq rfl rfl (q_move rfl) ?_
  refine vendW ?_
  refine vc_block ?_
  refine vc_seq ?_
  refine vc_seq ?_
  refine vc_regionW (qm 3) [0, 1] rfl rfl ?_
  refine vq rfl rfl (q_eq rfl rfl) ?_
  refine vq rfl rfl (q_assign rfl) ?_
  refine vendW ?_
  refine vc_condT rfl (by decide) ?_
  refine vc_skip ?_
  refine vc_condT rfl (by decide) ?_
  refine vc_seq ?_
  refine vc_regionW (qm 1) [0] rfl rfl ?_
  refine vq rfl rfl (q_assign rfl) ?_
  refine vendW ?_
  refine vc_ret ?_
  exact ret1 rfl rfl (Le.refl _) (Cv.le (Le.refl _) _) hk
theorem many_1 {s : St} {K : AV → St → Prop} (hk : K (.int 0) s) : CallsA Try.prog 143 [.int 1] s K := by
  refine callsA_of Try.func143 rfl rfl (Nat.le_of_ble_eq_true rfl) ?_
  refine vc_seq ?_
  refine vc_regionW (qm 1) [0] rfl rfl ?_
  refine vq rfl rfl (q_assign rfl) ?_
  refine vendW ?_
  refine vc_seq ?_
  refine vc_seq ?_
  refine vc_regionW (qm 1) [0] rfl rfl ?_
  refine vq rfl rfl (q_move rfl) ?_
  refine vendW ?_
  refine vc_block ?_
  refine vc_seq ?_
  refine vc_seq ?_
  refine vc_regionW (qm 3) [0, 1] rfl rfl ?_
  refine vq rfl rfl (q_eq rfl rfl) ?_
  refine vq rfl rfl (q_assign rfl) ?_
  refine vendW ?_
  refine vc_condF rfl (by decide) ?_
  refine vc_regionW (qm 3) [0, 1] rfl rfl ?_
  refine vq rfl rfl (q_eq rfl rfl) ?_
  refine vq rfl rfl (q_assign rfl) ?_
  refine vendW ?_
  refine vc_condT rfl (by decide) ?_
  refine vc_seq ?_
  refine vc_regionW (qm 1) [0] rfl rfl ?_
  refine vq rfl rfl (q_assign rfl) ?_
  refine vendW ?_
  refine vc_ret ?_
  exact ret1 rfl rfl (Le.refl _) (Cv.le (Le.refl _) _) hk
theorem many_2 {s : St} {K : AV → St → Prop} (hk : K (.int 1) s) : CallsA Try.prog 143 [.int 2] s K := by
  refine callsA_of Try.func143 rfl rfl (Nat.le_of_ble_eq_true rfl) ?_
  refine vc_seq ?_
  refine vc_regionW (qm 1) [0] rfl rfl ?_
  refine vq rfl rfl (q_assign rfl) ?_
  refine vendW ?_
  refine vc_seq ?_
  refine vc_seq ?_
  refine vc_regionW (qm 1) [0] rfl rfl ?_
  refine vq rfl rfl (q_move rfl) ?_
  refine vendW ?_
  refine vc_block ?_
  refine vc_seq ?_
  refine vc_seq ?_
  refine vc_regionW (qm 3) [0, 1] rfl rfl ?_
  refine vq rfl rfl (q_eq rfl rfl) ?_
  refine vq rfl rfl (q_assign rfl) ?_
  refine vendW ?_
  refine vc_condF rfl (by decide) ?_
  refine vc_regionW (qm 3) [0, 1] rfl rfl ?_
  refine vq rfl rfl (q_eq rfl rfl) ?_
  refine vq rfl rfl (q_assign rfl) ?_
  refine vendW ?_
  refine vc_condF rfl (by decide) ?_
  refine vc_seq ?_
  refine vc_seq ?_
  refine vc_regionW (qm 3) [0, 1] rfl rfl ?_
  refine vq rfl rfl (q_eq rfl rfl) ?_
  refine vq rfl rfl (q_assign rfl) ?_
  refine vendW ?_
  refine vc_condT rfl (by decide) ?_
  refine vc_skip ?_
  refine vc_condT rfl (by decide) ?_
  refine vc_seq ?_
  refine vc_regionW (qm 1) [0] rfl rfl ?_
  refine vq rfl rfl (q_assign rfl) ?_
  refine vendW ?_
  refine vc_ret ?_
  exact ret1 rfl rfl (Le.refl _) (Cv.le (Le.refl _) _) hk
theorem many_7 {s : St} {K : AV → St → Prop} (hk : K (.int 1) s) : CallsA Try.prog 143 [.int 7] s K := by
  refine callsA_of Try.func143 rfl rfl (Nat.le_of_ble_eq_true rfl) ?_
  refine vc_seq ?_
  refine vc_regionW (qm 1) [0] rfl rfl ?_
  refine vq rfl rfl (q_assign rfl) ?_
  refine vendW ?_
  refine vc_seq ?_
  refine vc_seq ?_
  refine vc_regionW (qm 1) [0] rfl rfl ?_
  refine vq rfl rfl (q_move rfl) ?_
  refine vendW ?_
  refine vc_block ?_
  refine vc_seq ?_
  refine vc_seq ?_
  refine vc_regionW (qm 3) [0, 1] rfl rfl ?_
  refine vq rfl rfl (q_eq rfl rfl) ?_
  refine vq rfl rfl (q_assign rfl) ?_
  refine vendW ?_
  refine vc_condF rfl (by decide) ?_
  refine vc_regionW (qm 3) [0, 1] rfl rfl ?_
  refine vq rfl rfl (q_eq rfl rfl) ?_
  refine vq rfl rfl (q_assign rfl) ?_
  refine vendW ?_
  refine vc_condF rfl (by decide) ?_
  refine vc_seq ?_
  refine vc_seq ?_
  refine vc_regionW (qm 3) [0, 1] rfl rfl ?_
  refine vq rfl rfl (q_eq rfl rfl) ?_
  refine vq rfl rfl (q_assign rfl) ?_
  refine vendW ?_
  refine vc_condF rfl (by decide) ?_
  refine vc_regionW (qm 3) [0, 1] rfl rfl ?_
  refine vq rfl rfl (q_eq rfl rfl) ?_
  refine vq rfl rfl (q_assign rfl) ?_
  refine vendW ?_
  refine vc_condT rfl (by decide) ?_
  refine vc_seq ?_
  refine vc_regionW (qm 1) [0] rfl rfl ?_
  refine vq rfl rfl (q_assign rfl) ?_
  refine vendW ?_
  refine vc_ret ?_
  exact ret1 rfl rfl (Le.refl _) (Cv.le (Le.refl _) _) hk
theorem many_3 {s : St} {K : AV → St → Prop} (hk : K (.int 2) s) : CallsA Try.prog 143 [.int 3] s K := by
  refine callsA_of Try.func143 rfl rfl (Nat.le_of_ble_eq_true rfl) ?_
  refine vc_seq ?_
  refine vc_regionW (qm 1) [0] rfl rfl ?_
  refine vq rfl rfl (q_assign rfl) ?_
  refine vendW ?_
  refine vc_seq ?_
  refine vc_seq ?_
  refine vc_regionW (qm 1) [0] rfl rfl ?_
  refine vq rfl rfl (q_move rfl) ?_
  refine vendW ?_
  refine vc_block ?_
  refine vc_seq ?_
  refine vc_seq ?_
  refine vc_regionW (qm 3) [0, 1] rfl rfl ?_
  refine vq rfl rfl (q_eq rfl rfl) ?_
  refine vq rfl rfl (q_assign rfl) ?_
  refine vendW ?_
  refine vc_condF rfl (by decide) ?_
  refine vc_regionW (qm 3) [0, 1] rfl rfl ?_
  refine vq rfl rfl (q_eq rfl rfl) ?_
  refine vq rfl rfl (q_assign rfl) ?_
  refine vendW ?_
  refine vc_condF rfl (by decide) ?_
  refine vc_seq ?_
  refine vc_seq ?_
  refine vc_regionW (qm 3) [0, 1] rfl rfl ?_
  refine vq rfl rfl (q_eq rfl rfl) ?_
  refine vq rfl rfl (q_assign rfl) ?_
  refine vendW ?_
  refine vc_condF rfl (by decide) ?_
  refine vc_regionW (qm 3) [0, 1] rfl rfl ?_
  refine vq rfl rfl (q_eq rfl rfl) ?_
  refine vq rfl rfl (q_assign rfl) ?_
  refine vendW ?_
  refine vc_condF rfl (by decide) ?_
  refine vc_seq ?_
  refine vc_seq ?_
  refine vc_regionW (qm 3) [0, 1] rfl rfl ?_
  refine vq rfl rfl (q_eq rfl rfl) ?_
  refine vq rfl rfl (q_assign rfl) ?_
  refine vendW ?_
  refine vc_condT rfl (by decide) ?_
  refine vc_skip ?_
  refine vc_condT rfl (by decide) ?_
  refine vc_seq ?_
  refine vc_regionW (qm 1) [0] rfl rfl ?_
  refine vq rfl rfl (q_assign rfl) ?_
  refine vendW ?_
  refine vc_ret ?_
  exact ret1 rfl rfl (Le.refl _) (Cv.le (Le.refl _) _) hk
theorem many_4 {s : St} {K : AV → St → Prop} (hk : K (.int 2) s) : CallsA Try.prog 143 [.int 4] s K := by
  refine callsA_of Try.func143 rfl rfl (Nat.le_of_ble_eq_true rfl) ?_
  refine vc_seq ?_
  refine vc_regionW (qm 1) [0] rfl rfl ?_
  refine vq rfl rfl (q_assign rfl) ?_
  refine vendW ?_
  refine vc_seq ?_
  refine vc_seq ?_
  refine vc_regionW (qm 1) [0] rfl rfl ?_
  refine vq rfl rfl (q_move rfl) ?_
  refine vendW ?_
  refine vc_block ?_
  refine vc_seq ?_
  refine vc_seq ?_
  refine vc_regionW (qm 3) [0, 1] rfl rfl ?_
  refine vq rfl rfl (q_eq rfl rfl) ?_
  refine vq rfl rfl (q_assign rfl) ?_
  refine vendW ?_
  refine vc_condF rfl (by decide) ?_
  refine vc_regionW (qm 3) [0, 1] rfl rfl ?_
  refine vq rfl rfl (q_eq rfl rfl) ?_
  refine vq rfl rfl (q_assign rfl) ?_
  refine vendW ?_
  refine vc_condF rfl (by decide) ?_
  refine vc_seq ?_
  refine vc_seq ?_
  refine vc_regionW (qm 3) [0, 1] rfl rfl ?_
  refine vq rfl rfl (q_eq rfl rfl) ?_
  refine vq rfl rfl (q_assign rfl) ?_
  refine vendW ?_
  refine vc_condF rfl (by decide) ?_
  refine vc_regionW (qm 3) [0, 1] rfl rfl ?_
  refine vq rfl rfl (q_eq rfl rfl) ?_
  refine vq rfl rfl (q_assign rfl) ?_
  refine vendW ?_
  refine vc_condF rfl (by decide) ?_
  refine vc_seq ?_
  refine vc_seq ?_
  refine vc_regionW (qm 3) [0, 1] rfl rfl ?_
  refine vq rfl rfl (q_eq rfl rfl) ?_
  refine vq rfl rfl (q_assign rfl) ?_
  refine vendW ?_
  refine vc_condF rfl (by decide) ?_
  refine vc_seq ?_
  refine vc_regionW (qm 3) [0, 1] rfl rfl ?_
  refine vq rfl rfl (q_eq rfl rfl) ?_
  refine vq rfl rfl (q_assign rfl) ?_
  refine vendW ?_
  refine vc_condT rfl (by decide) ?_
  refine vc_skip ?_
  refine vc_condT rfl (by decide) ?_
  refine vc_seq ?_
  refine vc_regionW (qm 1) [0] rfl rfl ?_
  refine vq rfl rfl (q_assign rfl) ?_
  refine vendW ?_
  refine vc_ret ?_
  exact ret1 rfl rfl (Le.refl _) (Cv.le (Le.refl _) _) hk
theorem many_5 {s : St} {K : AV → St → Prop} (hk : K (.int 2) s) : CallsA Try.prog 143 [.int 5] s K := by
  refine callsA_of Try.func143 rfl rfl (Nat.le_of_ble_eq_true rfl) ?_
  refine vc_seq ?_
  refine vc_regionW (qm 1) [0] rfl rfl ?_
  refine vq rfl rfl (q_assign rfl) ?_
  refine vendW ?_
  refine vc_seq ?_
  refine vc_seq ?_
  refine vc_regionW (qm 1) [0] rfl rfl ?_
  refine vq rfl rfl (q_move rfl) ?_
  refine vendW ?_
  refine vc_block ?_
  refine vc_seq ?_
  refine vc_seq ?_
  refine vc_regionW (qm 3) [0, 1] rfl rfl ?_
  refine vq rfl rfl (q_eq rfl rfl) ?_
  refine vq rfl rfl (q_assign rfl) ?_
  refine vendW ?_
  refine vc_condF rfl (by decide) ?_
  refine vc_regionW (qm 3) [0, 1] rfl rfl ?_
  refine vq rfl rfl (q_eq rfl rfl) ?_
  refine vq rfl rfl (q_assign rfl) ?_
  refine vendW ?_
  refine vc_condF rfl (by decide) ?_
  refine vc_seq ?_
  refine vc_seq ?_
  refine vc_regionW (qm 3) [0, 1] rfl rfl ?_
  refine vq rfl rfl (q_eq rfl rfl) ?_
  refine vq rfl rfl (q_assign rfl) ?_
  refine vendW ?_
  refine vc_condF rfl (by decide) ?_
  refine vc_regionW (qm 3) [0, 1] rfl rfl ?_
  refine vq rfl rfl (q_eq rfl rfl) ?_
  refine vq rfl rfl (q_assign rfl) ?_
  refine vendW ?_
  refine vc_condF rfl (by decide) ?_
  refine vc_seq ?_
  refine vc_seq ?_
  refine vc_regionW (qm 3) [0, 1] rfl rfl ?_
  refine vq rfl rfl (q_eq rfl rfl) ?_
  refine vq rfl rfl (q_assign rfl) ?_
  refine vendW ?_
  refine vc_condF rfl (by decide) ?_
  refine vc_seq ?_
  refine vc_regionW (qm 3) [0, 1] rfl rfl ?_
  refine vq rfl rfl (q_eq rfl rfl) ?_
  refine vq rfl rfl (q_assign rfl) ?_
  refine vendW ?_
  refine vc_condF rfl (by decide) ?_
  refine vc_regionW (qm 3) [0, 1] rfl rfl ?_
  refine vq rfl rfl (q_eq rfl rfl) ?_
  refine vq rfl rfl (q_assign rfl) ?_
  refine vendW ?_
  refine vc_condT rfl (by decide) ?_
  refine vc_seq ?_
  refine vc_regionW (qm 1) [0] rfl rfl ?_
  refine vq rfl rfl (q_assign rfl) ?_
  refine vendW ?_
  refine vc_ret ?_
  exact ret1 rfl rfl (Le.refl _) (Cv.le (Le.refl _) _) hk
theorem many_6 {s : St} {K : AV → St → Prop} (hk : K (.int 3) s) : CallsA Try.prog 143 [.int 6] s K := by
  refine callsA_of Try.func143 rfl rfl (Nat.le_of_ble_eq_true rfl) ?_
  refine vc_seq ?_
  refine vc_regionW (qm 1) [0] rfl rfl ?_
  refine vq rfl rfl (q_assign rfl) ?_
  refine vendW ?_
  refine vc_seq ?_
  refine vc_seq ?_
  refine vc_regionW (qm 1) [0] rfl rfl ?_
  refine vq rfl rfl (q_move rfl) ?_
  refine vendW ?_
  refine vc_block ?_
  refine vc_seq ?_
  refine vc_seq ?_
  refine vc_regionW (qm 3) [0, 1] rfl rfl ?_
  refine vq rfl rfl (q_eq rfl rfl) ?_
  refine vq rfl rfl (q_assign rfl) ?_
  refine vendW ?_
  refine vc_condF rfl (by decide) ?_
  refine vc_regionW (qm 3) [0, 1] rfl rfl ?_
  refine vq rfl rfl (q_eq rfl rfl) ?_
  refine vq rfl rfl (q_assign rfl) ?_
  refine vendW ?_
  refine vc_condF rfl (by decide) ?_
  refine vc_seq ?_
  refine vc_seq ?_
  refine vc_regionW (qm 3) [0, 1] rfl rfl ?_
  refine vq rfl rfl (q_eq rfl rfl) ?_
  refine vq rfl rfl (q_assign rfl) ?_
  refine vendW ?_
  refine vc_condF rfl (by decide) ?_
  refine vc_regionW (qm 3) [0, 1] rfl rfl ?_
  refine vq rfl rfl (q_eq rfl rfl) ?_
  refine vq rfl rfl (q_assign rfl) ?_
  refine vendW ?_
  refine vc_condF rfl (by decide) ?_
  refine vc_seq ?_
  refine vc_seq ?_
  refine vc_regionW (qm 3) [0, 1] rfl rfl ?_
  refine vq rfl rfl (q_eq rfl rfl) ?_
  refine vq rfl rfl (q_assign rfl) ?_
  refine vendW ?_
  refine vc_condF rfl (by decide) ?_
  refine vc_seq ?_
  refine vc_regionW (qm 3) [0, 1] rfl rfl ?_
  refine vq rfl rfl (q_eq rfl rfl) ?_
  refine vq rfl rfl (q_assign rfl) ?_
  refine vendW ?_
  refine vc_condF rfl (by decide) ?_
  refine vc_regionW (qm 3) [0, 1] rfl rfl ?_
  refine vq rfl rfl (q_eq rfl rfl) ?_
  refine vq rfl rfl (q_assign rfl) ?_
  refine vendW ?_
  refine vc_condF rfl (by decide) ?_
  refine vc_seq ?_
  refine vc_regionW (qm 3) [0, 1] rfl rfl ?_
  refine vq rfl rfl (q_eq rfl rfl) ?_
  refine vq rfl rfl (q_assign rfl) ?_
  refine vendW ?_
  refine vc_condT rfl (by decide) ?_
  refine vc_seq ?_
  refine vc_regionW (qm 1) [0] rfl rfl ?_
  refine vq rfl rfl (q_assign rfl) ?_
  refine vendW ?_
  refine vc_ret ?_
  exact ret1 rfl rfl (Le.refl _) (Cv.le (Le.refl _) _) hk
def manyK (k : Int) : Int := if k = 0 ∨ k = 1 then 0 else if k = 2 ∨ k = 7 then 1 else if k = 3 ∨ k = 4 ∨ k = 5 then 2 else 3
theorem manyN {k : Int} {s : St} {K : AV → St → Prop} (h0 : 0 ≤ k) (h7 : k ≤ 7) (hk : K (.int (manyK k)) s) : CallsA Try.prog 143 [.int k] s K := by
  have h : k = 0 ∨ k = 1 ∨ k = 2 ∨ k = 3 ∨ k = 4 ∨ k = 5 ∨ k = 6 ∨ k = 7 := by omega
  rcases h with rfl | rfl | rfl | rfl | rfl | rfl | rfl | rfl
  · exact many_0 hk
  · exact many_1 hk
  · exact many_2 hk
  · exact many_3 hk
  · exact many_4 hk
  · exact many_5 hk
  · exact many_6 hk
  · exact many_7 hk
theorem uses6_eq {x : Nd} (h0 : 0 ≤ x.k) (h7 : x.k ≤ 7) : (([[AV.int x.a], [.int x.b], [.int x.c]] : List (List AV)).take (max (manyK x.k) 0).toNat).drop (0 : Int).toNat = (usesN x).map eI := by
  obtain ⟨k, a, b, c⟩ := x
  have h : k = 0 ∨ k = 1 ∨ k = 2 ∨ k = 3 ∨ k = 4 ∨ k = 5 ∨ k = 6 ∨ k = 7 := by simp only at h0 h7; omega
  rcases h with rfl | rfl | rfl | rfl | rfl | rfl | rfl | rfl <;> rfl
theorem uses6 {x : Nd} {s : St} {K : AV → St → Prop} (h0 : 0 ≤ x.k) (h7 : x.k ≤ 7) (hk : K (ints (usesN x)) s) : CallsA Try.prog 93 [.agg (ndR x)] s K := by
  refine callsA_of Try.func93 rfl rfl (Nat.le_of_ble_eq_true rfl) ?_
  refine vc_seq ?_
  refine vc_regionW (qm 3) [0, 1] rfl rfl ?_
  refine vq rfl rfl (q_box rfl rfl) ?_
  refine vq rfl rfl (q_assign rfl) ?_
  refine vendW ?_
  refine vc_seq ?_
  refine vc_regionW (qm 255) [0, 1, 2, 3, 4, 5, 6, 7] rfl rfl ?_
  refine vq rfl rfl (q_field fo89_1 rfl (Nat.le_of_ble_eq_true rfl)) ?_
  refine vq rfl rfl (q_load sc3 rfl) ?_
  refine vq rfl rfl (q_field fo89_2 rfl (Nat.le_of_ble_eq_true rfl)) ?_
  refine vq rfl rfl (q_load sc3 rfl) ?_
  refine vq rfl rfl (q_field fo89_3 rfl (Nat.le_of_ble_eq_true rfl)) ?_
  refine vq rfl rfl (q_load sc3 rfl) ?_
  refine vq rfl rfl (q_buildS sl40 zo3 (by decide) rfl rfl rfl rfl (by decide)) ?_
  refine vq rfl rfl (q_assign rfl) ?_
  refine vendW ?_
  refine vc_seq ?_
  refine vc_regionW (qm 127) [0, 1, 2, 3, 4, 5, 6] rfl rfl ?_
  refine vq rfl rfl (q_move rfl) ?_
  refine vq rfl rfl (q_field fo89_0 rfl (Nat.le_of_ble_eq_true rfl)) ?_
  refine vq rfl rfl (q_load sc3 rfl) ?_
  refine vq rfl rfl (q_callF go143 rfl (fun s => manyN h0 h7 ⟨rfl, rfl⟩)) ?_
  refine vq rfl rfl (q_max rfl rfl) ?_
  refine vq rfl rfl (q_sliceX sl40 rfl rfl rfl (by omega) (by unfold manyK; omega) (by unfold manyK; simp; omega)) ?_
  refine vq rfl rfl (q_assign rfl) ?_
  refine vendW ?_
  refine vc_ret ?_
  exact ret1 rfl rfl (Le.refl _) (Cv.le (Le.refl _) _) (by rw [ints, ← uses6_eq h0 h7] at hk; exact hk)
theorem bit6 {n : Int} {s : St} {K : AV → St → Prop} (h : n = 0 ∨ n = 1) (hk : K (.bool true) s) : CallsA Try.prog 175 [.int n] s K := by
  refine callsA_of Try.func175 rfl rfl (Nat.le_of_ble_eq_true rfl) ?_
  refine vc_seq ?_
  refine vc_regionW (qm 1) [0] rfl rfl ?_
  refine vq rfl rfl (q_assign rfl) ?_
  refine vendW ?_
  refine vc_seq ?_
  refine vc_regionW (qm 127) [0, 1, 2, 3, 4, 5, 6] rfl rfl ?_
  refine vq rfl rfl (q_move rfl) ?_
  refine vq rfl rfl (q_eq rfl rfl) ?_
  refine vq rfl rfl (q_move rfl) ?_
  refine vgrp [3, 4, 5] [6] [6, 7] 8 (.v (.bool (true))) ?_ ?_
  ·
    by_cases hg2 : n = 0
    ·
      refine g_skip rfl rfl rfl (by first | (rw [decide_eq_true hg2]; simp; done) | (intro e; have e2 := Value.bool.inj e; rw [decide_eq_true hg2] at e2; cases e2; done) | (simp [hg2]; done) | simp_all) ?_
      refine g_skip rfl rfl rfl (by first | (rw [decide_eq_true hg2]; simp; done) | (intro e; have e2 := Value.bool.inj e; rw [decide_eq_true hg2] at e2; cases e2; done) | (simp [hg2]; done) | simp_all) ?_
      refine vq rfl rfl (q_pickT rfl (by first | exact (decide_eq_true hg2) | exact hg2 | (simp [hg2]; done) | simp_all) rfl) ?_
      refine vendW ⟨rfl, congrArg (fun b => some (AV.v (Value.bool b))) (by first | (simp only [decide_eq_true hg2]; done) | (simp only [decide_eq_true hg2]; rfl) | (simp [hg2]; done) | simp_all), ?_⟩
      repeat (first | exact Same.refl | refine Same.upd rfl ?_)
    ·
      refine gq_run rfl rfl rfl rfl (by first | exact congrArg Value.bool (decide_eq_false hg2) | (rw [decide_eq_false hg2]; done) | (simp [hg2]; done) | simp_all) (q_move rfl) ?_
      refine gq_run rfl rfl rfl rfl (by first | exact congrArg Value.bool (decide_eq_false hg2) | (rw [decide_eq_false hg2]; done) | (simp [hg2]; done) | simp_all) (q_eq rfl rfl) ?_
      refine vq rfl rfl (q_pickF rfl (by first | exact (decide_eq_false hg2) | exact hg2 | (simp [hg2]; done) | simp_all) rfl) ?_
      refine vendW ⟨rfl, congrArg (fun b => some (AV.v (Value.bool b))) (by first | (simp only [decide_eq_false hg2]; done) | (simp only [decide_eq_false hg2]; rfl) | (simp [hg2]; done) | simp_all), ?_⟩
      repeat (first | exact Same.refl | refine Same.upd rfl ?_)
  refine vq rfl rfl (q_assign rfl) ?_
  refine vendW ?_
  refine vc_ret ?_
  exact ret1 rfl rfl (Le.refl _) (Cv.le (Le.refl _) _) hk
structure Rt (x : Nd) (n : Nat) : Prop where
  h0 : 0 ≤ x.k
  h6 : x.k ≤ 6
  c : x.k = 0 → (x.a = 0 ∨ x.a = 1) ∧ x.b = 0 ∧ x.c = 0
  a1 : ¬ 1 ≤ manyK x.k → x.k ≠ 0 → x.a = 0
  a2 : ¬ 2 ≤ manyK x.k → x.b = 0
  a3 : ¬ 3 ≤ manyK x.k → x.c = 0
  u : ∀ a ∈ usesN x, 0 ≤ a ∧ a < n
theorem Rt.of {x : Nd} {i n : Nat} (h : NdOK i x) (hi : i ≤ n) : Rt x n := by
  obtain ⟨⟨h0, h6⟩, hu, hp⟩ := h
  have hu2 : ∀ a ∈ usesN x, 0 ≤ a ∧ a < n := fun a ha => by have := hu a ha; omega
  obtain ⟨k, a, b, c⟩ := x
  simp only at h0 h6
  have h : k = 0 ∨ k = 1 ∨ k = 2 ∨ k = 3 ∨ k = 4 ∨ k = 5 ∨ k = 6 := by omega
  rcases h with rfl | rfl | rfl | rfl | rfl | rfl | rfl <;> simp [plainN] at hp <;> refine ⟨by simp, by simp, ?_, ?_, ?_, ?_, hu2⟩ <;> simp [manyK] <;> omega
theorem manyK_nn (k : Int) : 0 ≤ manyK k := by unfold manyK; split <;> (try split) <;> (try split) <;> decide
theorem right6 {x : Nd} {n : Nat} {s : St} {K : AV → St → Prop} (h : Rt x n) (hn : n < 2^40) (hk : K (.bool true) s) : CallsA Try.prog 142 [.agg (ndR x), .int (n : Int)] s K := by
  have hm := manyK_nn x.k
  have hul := usesN_len x
  refine callsA_of Try.func142 rfl rfl (Nat.le_of_ble_eq_true rfl) ?_
  refine vc_seq ?_
  refine vc_regionW (qm 3) [0, 1] rfl rfl ?_
  refine vq rfl rfl (q_box rfl rfl) ?_
  refine vq rfl rfl (q_assign rfl) ?_
  refine vendW ?_
  refine vc_seq ?_
  refine vc_regionW (qm 15) [0, 1, 2, 3] rfl rfl ?_
  refine vq rfl rfl (q_field fo89_0 rfl (Nat.le_of_ble_eq_true rfl)) ?_
  refine vq rfl rfl (q_load sc3 rfl) ?_
  refine vq rfl rfl (q_callF go143 rfl (fun s => manyN h.h0 (by have := h.h6; omega) ⟨rfl, rfl⟩)) ?_
  refine vq rfl rfl (q_assign rfl) ?_
  refine vendW ?_
  refine vc_seq ?_
  refine vc_seq ?_
  refine vc_regionW (qm 3) [0, 1] rfl rfl ?_
  refine vq rfl rfl (q_move rfl) ?_
  refine vq rfl rfl (q_lt rfl rfl) ?_
  refine vendW ?_
  refine vc_condF rfl (decide_eq_false (by omega)) ?_
  refine vc_skip ?_
  refine vc_seq ?_
  refine vc_regionW (qm 7) [0, 1, 2] rfl rfl ?_
  refine vq rfl rfl (q_loadA ag89 rfl rfl) ?_
  refine vq rfl rfl (q_callF go93 rfl (fun s => uses6 (x := x) h.h0 (by have := h.h6; omega) ⟨rfl, rfl⟩)) ?_
  refine vq rfl rfl (q_assign rfl) ?_
  refine vendW ?_
  refine vc_seq ?_
  refine vc_seq ?_
  refine vc_regionW (qm 1) [0] rfl rfl ?_
  refine vq rfl rfl (q_assign rfl) ?_
  refine vendW ?_
  refine vc_block ?_
  refine vc_loopS (α := Nat) [4, 7, 15, 16, 17, 18, 19, 20, 21, 22, 23, 24, 25, 26, 27, 28, 29, 30, 31, 32, 33] (fun i => [(7, .int (i : Int))]) (fun i => s) (fun i => i ≤ (usesN x).length) (fun i => (usesN x).length - i) 0 (by simp) rfl ⟨rfl, trivial⟩ (fun _ => rfl) ?_
  intro i hok
  refine vc_seq ?_
  refine vc_seq ?_
  refine vc_regionW (qm 15) [0, 1, 2, 3] rfl rfl ?_
  refine vq rfl rfl (q_move rfl) ?_
  refine vq rfl rfl (q_move rfl) ?_
  refine vq rfl rfl (q_len sl40 rfl (by first | exact lenM | rfl)) ?_
  refine vq rfl rfl (q_lt rfl rfl) ?_
  refine vendW ?_
  refine vc_condD rfl (fun h18 => ?_) (fun h18 => ?_)
  ·
    refine vc_skip ?_
    refine vc_seq ?_
    refine vc_block ?_
    refine vc_seq ?_
    have hui := h.u _ (getD_mem (l := usesN x) (i := i) (by omega))
    refine vc_regionW (qm 8191) [0, 1, 2, 3, 4, 5, 6, 7, 8, 9, 10, 11, 12] rfl rfl ?_
    refine vq rfl rfl (q_move rfl) ?_
    refine vq rfl rfl (q_move rfl) ?_
    refine vq rfl rfl (q_index sl40 rfl rfl (by omega) (by first | exact nthI (by omega) | exact nthM (by omega))) ?_
    refine vq rfl rfl (q_load sc3 rfl) ?_
    refine vq rfl rfl (q_lt rfl rfl) ?_
    refine vq rfl rfl (q_move rfl) ?_
    refine vgrp [6, 7, 8, 9, 10, 11, 12] [] [27, 28, 29, 30, 31, 32] 33 (.v (.bool (false))) ?_ ?_
    ·
      by_cases hg5 : (usesN x).getD i default < 0
      ·
        exact absurd hg5 (by omega)
      ·
        refine gq_run rfl rfl rfl rfl (by first | exact congrArg Value.bool (decide_eq_false hg5) | (rw [decide_eq_false hg5]; done) | (simp [hg5]; done) | simp_all) (q_move rfl) ?_
        refine gq_run rfl rfl rfl rfl (by first | exact congrArg Value.bool (decide_eq_false hg5) | (rw [decide_eq_false hg5]; done) | (simp [hg5]; done) | simp_all) (q_move rfl) ?_
        refine gq_run rfl rfl rfl rfl (by first | exact congrArg Value.bool (decide_eq_false hg5) | (rw [decide_eq_false hg5]; done) | (simp [hg5]; done) | simp_all) (q_index sl40 rfl rfl (by omega) (by first | exact nthI (by omega) | exact nthM (by omega))) ?_
        refine gq_run rfl rfl rfl rfl (by first | exact congrArg Value.bool (decide_eq_false hg5) | (rw [decide_eq_false hg5]; done) | (simp [hg5]; done) | simp_all) (q_load sc3 rfl) ?_
        refine gq_run rfl rfl rfl rfl (by first | exact congrArg Value.bool (decide_eq_false hg5) | (rw [decide_eq_false hg5]; done) | (simp [hg5]; done) | simp_all) (q_move rfl) ?_
        refine gq_run rfl rfl rfl rfl (by first | exact congrArg Value.bool (decide_eq_false hg5) | (rw [decide_eq_false hg5]; done) | (simp [hg5]; done) | simp_all) (q_ge rfl rfl) ?_
        refine vq rfl rfl (q_pickF rfl (by first | exact (decide_eq_false hg5) | exact hg5 | (simp [hg5]; done) | simp_all) rfl) ?_
        refine vendW ⟨rfl, congrArg (fun b => some (AV.v (Value.bool b))) (by first | (simp only [decide_eq_false hg5]; done) | (simp only [decide_eq_false hg5]; rfl) | (simp [hg5]; done) | simp_all), ?_⟩
        repeat (first | exact Same.refl | refine Same.upd rfl ?_)
    refine vendW ?_
    refine vc_condF rfl (by first | (simp; done) | (simp; omega) | simp_all) ?_
    refine vc_skip ?_
    refine vc_regionW (qm 7) [0, 1, 2] rfl rfl ?_
    refine vq rfl rfl (q_move rfl) ?_
    refine vq rfl rfl (q_add rfl rfl (w64 (by omega))) ?_
    refine vq rfl rfl (q_assign rfl) ?_
    refine vendW ?_
    refine ⟨i + 1, by omega, by omega, ?_, ⟨rfl, trivial⟩, rfl⟩
    repeat (first | exact Same.refl | refine Same.upd rfl ?_ | refine Same.drop rfl ?_)
  refine vc_exit ?_
  refine vc_seq ?_
  refine vc_seq ?_
  refine vc_regionW (qm 7) [0, 1, 2] rfl rfl ?_
  refine vq rfl rfl (q_field fo89_0 rfl (Nat.le_of_ble_eq_true rfl)) ?_
  refine vq rfl rfl (q_load sc3 rfl) ?_
  refine vq rfl rfl (q_eq rfl rfl) ?_
  refine vendW ?_
  refine vc_condD rfl (fun h36 => ?_) (fun h36 => ?_)
  ·
    refine vc_seq ?_
    obtain ⟨hA, hB, hC⟩ := h.c h36
    refine vc_regionW (qm 16383) [0, 1, 2, 3, 4, 5, 6, 7, 8, 9, 10, 11, 12, 13] rfl rfl ?_
    refine vq rfl rfl (q_field fo89_1 rfl (Nat.le_of_ble_eq_true rfl)) ?_
    refine vq rfl rfl (q_load sc3 rfl) ?_
    refine vq rfl rfl (q_callF go175 rfl (fun s => bit6 (h.c h36).1 ⟨rfl, rfl⟩)) ?_
    refine vq rfl rfl (q_move rfl) ?_
    refine vgrp [4, 5, 6, 7] [8, 9, 10, 11, 12, 13] [41, 42, 43] 44 (.v (.bool (true))) ?_ ?_
    ·
      by_cases hg3 : True
      ·
        refine gq_run rfl rfl rfl rfl (by first | exact congrArg Value.bool (decide_eq_true hg3) | (rw [decide_eq_true hg3]; done) | (simp [hg3]; done) | simp_all) (q_field fo89_2 rfl (Nat.le_of_ble_eq_true rfl)) ?_
        refine gq_run rfl rfl rfl rfl (by first | exact congrArg Value.bool (decide_eq_true hg3) | (rw [decide_eq_true hg3]; done) | (simp [hg3]; done) | simp_all) (q_load sc3 rfl) ?_
        refine gq_run rfl rfl rfl rfl (by first | exact congrArg Value.bool (decide_eq_true hg3) | (rw [decide_eq_true hg3]; done) | (simp [hg3]; done) | simp_all) (q_eq rfl rfl) ?_
        refine vq rfl rfl (q_pickT rfl (by first | exact (decide_eq_true hg3) | exact hg3 | (simp [hg3]; done) | simp_all) rfl) ?_
        refine vendW ⟨rfl, congrArg (fun b => some (AV.v (Value.bool b))) (by first | (simp only [decide_eq_true hg3]; done) | (simp only [decide_eq_true hg3]; rfl) | (simp [hg3]; done) | simp_all), ?_⟩
        repeat (first | exact Same.refl | refine Same.upd rfl ?_)
      ·
        refine g_skip rfl rfl rfl (by first | (rw [decide_eq_false hg3]; simp; done) | (intro e; have e2 := Value.bool.inj e; rw [decide_eq_false hg3] at e2; cases e2; done) | (simp [hg3]; done) | simp_all) ?_
        refine g_skip rfl rfl rfl (by first | (rw [decide_eq_false hg3]; simp; done) | (intro e; have e2 := Value.bool.inj e; rw [decide_eq_false hg3] at e2; cases e2; done) | (simp [hg3]; done) | simp_all) ?_
        refine g_skip rfl rfl rfl (by first | (rw [decide_eq_false hg3]; simp; done) | (intro e; have e2 := Value.bool.inj e; rw [decide_eq_false hg3] at e2; cases e2; done) | (simp [hg3]; done) | simp_all) ?_
        refine vq rfl rfl (q_pickF rfl (by first | exact (decide_eq_false hg3) | exact hg3 | (simp [hg3]; done) | simp_all) rfl) ?_
        refine vendW ⟨rfl, congrArg (fun b => some (AV.v (Value.bool b))) (by first | (simp only [decide_eq_false hg3]; done) | (simp only [decide_eq_false hg3]; rfl) | (simp [hg3]; done) | simp_all), ?_⟩
        repeat (first | exact Same.refl | refine Same.upd rfl ?_)
    refine vq rfl rfl (q_move rfl) ?_
    refine vgrp [9, 10, 11, 12] [13] [46, 47, 48] 49 (.v (.bool (true))) ?_ ?_
    ·
      by_cases hg8 : True
      ·
        refine gq_run rfl rfl rfl rfl (by first | exact congrArg Value.bool (decide_eq_true hg8) | (rw [decide_eq_true hg8]; done) | (simp [hg8]; done) | simp_all) (q_field fo89_3 rfl (Nat.le_of_ble_eq_true rfl)) ?_
        refine gq_run rfl rfl rfl rfl (by first | exact congrArg Value.bool (decide_eq_true hg8) | (rw [decide_eq_true hg8]; done) | (simp [hg8]; done) | simp_all) (q_load sc3 rfl) ?_
        refine gq_run rfl rfl rfl rfl (by first | exact congrArg Value.bool (decide_eq_true hg8) | (rw [decide_eq_true hg8]; done) | (simp [hg8]; done) | simp_all) (q_eq rfl rfl) ?_
        refine vq rfl rfl (q_pickT rfl (by first | exact (decide_eq_true hg8) | exact hg8 | (simp [hg8]; done) | simp_all) rfl) ?_
        refine vendW ⟨rfl, congrArg (fun b => some (AV.v (Value.bool b))) (by first | (simp only [decide_eq_true hg8]; done) | (simp only [decide_eq_true hg8]; rfl) | (simp [hg8]; done) | simp_all), ?_⟩
        repeat (first | exact Same.refl | refine Same.upd rfl ?_)
      ·
        refine g_skip rfl rfl rfl (by first | (rw [decide_eq_false hg8]; simp; done) | (intro e; have e2 := Value.bool.inj e; rw [decide_eq_false hg8] at e2; cases e2; done) | (simp [hg8]; done) | simp_all) ?_
        refine g_skip rfl rfl rfl (by first | (rw [decide_eq_false hg8]; simp; done) | (intro e; have e2 := Value.bool.inj e; rw [decide_eq_false hg8] at e2; cases e2; done) | (simp [hg8]; done) | simp_all) ?_
        refine g_skip rfl rfl rfl (by first | (rw [decide_eq_false hg8]; simp; done) | (intro e; have e2 := Value.bool.inj e; rw [decide_eq_false hg8] at e2; cases e2; done) | (simp [hg8]; done) | simp_all) ?_
        refine vq rfl rfl (q_pickF rfl (by first | exact (decide_eq_false hg8) | exact hg8 | (simp [hg8]; done) | simp_all) rfl) ?_
        refine vendW ⟨rfl, congrArg (fun b => some (AV.v (Value.bool b))) (by first | (simp only [decide_eq_false hg8]; done) | (simp only [decide_eq_false hg8]; rfl) | (simp [hg8]; done) | simp_all), ?_⟩
        repeat (first | exact Same.refl | refine Same.upd rfl ?_)
    refine vq rfl rfl (q_assign rfl) ?_
    refine vendW ?_
    refine vc_ret ?_
    exact ret1 rfl rfl (Le.refl _) (Cv.le (Le.refl _) _) hk
  refine vc_skip ?_
  refine vc_seq ?_
  refine vc_seq ?_
  refine vc_regionW (qm 7) [0, 1, 2] rfl rfl ?_
  refine vq rfl rfl (q_field fo89_0 rfl (Nat.le_of_ble_eq_true rfl)) ?_
  refine vq rfl rfl (q_load sc3 rfl) ?_
  refine vq rfl rfl (q_eq rfl rfl) ?_
  refine vendW ?_
  refine vc_condF rfl (decide_eq_false (by have := h.h6; omega)) ?_
  refine vc_skip ?_
  refine vc_seq ?_
  have q1 := fun e => h.a1 e h36
  have q2 := h.a2
  have q3 := h.a3
  refine vc_regionW (qm 67108863) [0, 1, 2, 3, 4, 5, 6, 7, 8, 9, 10, 11, 12, 13, 14, 15, 16, 17, 18, 19, 20, 21, 22, 23, 24, 25] rfl rfl ?_
  refine vq rfl rfl (q_move rfl) ?_
  refine vq rfl rfl (q_ge rfl rfl) ?_
  refine vq rfl rfl (q_move rfl) ?_
  refine vgrp [3, 4, 5, 6] [7, 8, 9, 10, 11, 12, 13, 14, 15, 16, 17, 18, 19, 20, 21, 22, 23, 24, 25] [64, 65, 66] 67 (.v (.bool (true))) ?_ ?_
  ·
    by_cases hg2 : 1 ≤ manyK x.k
    ·
      refine g_skip rfl rfl rfl (by first | (rw [decide_eq_true hg2]; simp; done) | (intro e; have e2 := Value.bool.inj e; rw [decide_eq_true hg2] at e2; cases e2; done) | (simp [hg2]; done) | simp_all) ?_
      refine g_skip rfl rfl rfl (by first | (rw [decide_eq_true hg2]; simp; done) | (intro e; have e2 := Value.bool.inj e; rw [decide_eq_true hg2] at e2; cases e2; done) | (simp [hg2]; done) | simp_all) ?_
      refine g_skip rfl rfl rfl (by first | (rw [decide_eq_true hg2]; simp; done) | (intro e; have e2 := Value.bool.inj e; rw [decide_eq_true hg2] at e2; cases e2; done) | (simp [hg2]; done) | simp_all) ?_
      refine vq rfl rfl (q_pickT rfl (by first | exact (decide_eq_true hg2) | exact hg2 | (simp [hg2]; done) | simp_all) rfl) ?_
      refine vendW ⟨rfl, congrArg (fun b => some (AV.v (Value.bool b))) (by first | (simp only [decide_eq_true hg2]; done) | (simp only [decide_eq_true hg2]; rfl) | (simp [hg2]; done) | simp_all), ?_⟩
      repeat (first | exact Same.refl | refine Same.upd rfl ?_)
    ·
      refine gq_run rfl rfl rfl rfl (by first | exact congrArg Value.bool (decide_eq_false hg2) | (rw [decide_eq_false hg2]; done) | (simp [hg2]; done) | simp_all) (q_field fo89_1 rfl (Nat.le_of_ble_eq_true rfl)) ?_
      refine gq_run rfl rfl rfl rfl (by first | exact congrArg Value.bool (decide_eq_false hg2) | (rw [decide_eq_false hg2]; done) | (simp [hg2]; done) | simp_all) (q_load sc3 rfl) ?_
      refine gq_run rfl rfl rfl rfl (by first | exact congrArg Value.bool (decide_eq_false hg2) | (rw [decide_eq_false hg2]; done) | (simp [hg2]; done) | simp_all) (q_eq rfl rfl) ?_
      refine vq rfl rfl (q_pickF rfl (by first | exact (decide_eq_false hg2) | exact hg2 | (simp [hg2]; done) | simp_all) rfl) ?_
      refine vendW ⟨rfl, congrArg (fun b => some (AV.v (Value.bool b))) (by first | (simp only [decide_eq_false hg2]; done) | (simp only [decide_eq_false hg2]; rfl) | (simp [hg2]; done) | simp_all), ?_⟩
      repeat (first | exact Same.refl | refine Same.upd rfl ?_)
  refine vq rfl rfl (q_move rfl) ?_
  refine vgrp [8, 9, 10, 11, 12, 13, 14, 15] [16, 17, 18, 19, 20, 21, 22, 23, 24, 25] [69, 70, 71, 72, 73, 74, 75] 76 (.v (.bool (true))) ?_ ?_
  ·
    by_cases hg7 : True
    ·
      refine gq_run rfl rfl rfl rfl (by first | exact congrArg Value.bool (decide_eq_true hg7) | (rw [decide_eq_true hg7]; done) | (simp [hg7]; done) | simp_all) (q_move rfl) ?_
      refine gq_run rfl rfl rfl rfl (by first | exact congrArg Value.bool (decide_eq_true hg7) | (rw [decide_eq_true hg7]; done) | (simp [hg7]; done) | simp_all) (q_ge rfl rfl) ?_
      refine gq_run rfl rfl rfl rfl (by first | exact congrArg Value.bool (decide_eq_true hg7) | (rw [decide_eq_true hg7]; done) | (simp [hg7]; done) | simp_all) (q_move rfl) ?_
      by_cases hg10 : 2 ≤ manyK x.k
      ·
        refine g_skip rfl rfl rfl (by first | (rw [decide_eq_true hg10]; simp; done) | (intro e; have e2 := Value.bool.inj e; rw [decide_eq_true hg10] at e2; cases e2; done) | (simp [hg10]; done) | simp_all) ?_
        refine g_skip rfl rfl rfl (by first | (rw [decide_eq_true hg10]; simp; done) | (intro e; have e2 := Value.bool.inj e; rw [decide_eq_true hg10] at e2; cases e2; done) | (simp [hg10]; done) | simp_all) ?_
        refine g_skip rfl rfl rfl (by first | (rw [decide_eq_true hg10]; simp; done) | (intro e; have e2 := Value.bool.inj e; rw [decide_eq_true hg10] at e2; cases e2; done) | (simp [hg10]; done) | simp_all) ?_
        refine gq_run rfl rfl rfl rfl (by first | exact congrArg Value.bool (decide_eq_true hg7) | (rw [decide_eq_true hg7]; done) | (simp [hg7]; done) | simp_all) (q_pickT rfl (by first | exact (decide_eq_true hg10) | exact hg10 | (simp [hg10]; done) | simp_all) rfl) ?_
        refine vq rfl rfl (q_pickT rfl (by first | exact (decide_eq_true hg7) | exact hg7 | (simp [hg7]; done) | simp_all) rfl) ?_
        refine vendW ⟨rfl, congrArg (fun b => some (AV.v (Value.bool b))) (by first | (simp only [decide_eq_true hg7, decide_eq_true hg10]; done) | (simp only [decide_eq_true hg7, decide_eq_true hg10]; rfl) | (simp [hg7, hg10]; done) | simp_all), ?_⟩
        repeat (first | exact Same.refl | refine Same.upd rfl ?_)
      ·
        refine gq_run rfl rfl rfl rfl (by first | exact congrArg Value.bool (decide_eq_false hg10) | (rw [decide_eq_false hg10]; done) | (simp [hg10]; done) | simp_all) (q_field fo89_2 rfl (Nat.le_of_ble_eq_true rfl)) ?_
        refine gq_run rfl rfl rfl rfl (by first | exact congrArg Value.bool (decide_eq_false hg10) | (rw [decide_eq_false hg10]; done) | (simp [hg10]; done) | simp_all) (q_load sc3 rfl) ?_
        refine gq_run rfl rfl rfl rfl (by first | exact congrArg Value.bool (decide_eq_false hg10) | (rw [decide_eq_false hg10]; done) | (simp [hg10]; done) | simp_all) (q_eq rfl rfl) ?_
        refine gq_run rfl rfl rfl rfl (by first | exact congrArg Value.bool (decide_eq_true hg7) | (rw [decide_eq_true hg7]; done) | (simp [hg7]; done) | simp_all) (q_pickF rfl (by first | exact (decide_eq_false hg10) | exact hg10 | (simp [hg10]; done) | simp_all) rfl) ?_
        refine vq rfl rfl (q_pickT rfl (by first | exact (decide_eq_true hg7) | exact hg7 | (simp [hg7]; done) | simp_all) rfl) ?_
        refine vendW ⟨rfl, congrArg (fun b => some (AV.v (Value.bool b))) (by first | (simp only [decide_eq_true hg7, decide_eq_false hg10]; done) | (simp only [decide_eq_true hg7, decide_eq_false hg10]; rfl) | (simp [hg7, hg10]; done) | simp_all), ?_⟩
        repeat (first | exact Same.refl | refine Same.upd rfl ?_)
    ·
      refine g_skip rfl rfl rfl (by first | (rw [decide_eq_false hg7]; simp; done) | (intro e; have e2 := Value.bool.inj e; rw [decide_eq_false hg7] at e2; cases e2; done) | (simp [hg7]; done) | simp_all) ?_
      refine g_skip rfl rfl rfl (by first | (rw [decide_eq_false hg7]; simp; done) | (intro e; have e2 := Value.bool.inj e; rw [decide_eq_false hg7] at e2; cases e2; done) | (simp [hg7]; done) | simp_all) ?_
      refine g_skip rfl rfl rfl (by first | (rw [decide_eq_false hg7]; simp; done) | (intro e; have e2 := Value.bool.inj e; rw [decide_eq_false hg7] at e2; cases e2; done) | (simp [hg7]; done) | simp_all) ?_
      refine g_skip rfl rfl rfl (by simp [undef]) ?_
      refine g_skip rfl rfl rfl (by simp [undef]) ?_
      refine g_skip rfl rfl rfl (by simp [undef]) ?_
      refine g_skip rfl rfl rfl (by first | (rw [decide_eq_false hg7]; simp; done) | (intro e; have e2 := Value.bool.inj e; rw [decide_eq_false hg7] at e2; cases e2; done) | (simp [hg7]; done) | simp_all) ?_
      refine vq rfl rfl (q_pickF rfl (by first | exact (decide_eq_false hg7) | exact hg7 | (simp [hg7]; done) | simp_all) rfl) ?_
      refine vendW ⟨rfl, congrArg (fun b => some (AV.v (Value.bool b))) (by first | (simp only [decide_eq_false hg7]; done) | (simp only [decide_eq_false hg7]; rfl) | (simp [hg7]; done) | simp_all), ?_⟩
      repeat (first | exact Same.refl | refine Same.upd rfl ?_)
  refine vq rfl rfl (q_move rfl) ?_
  refine vgrp [17, 18, 19, 20, 21, 22, 23, 24] [25] [78, 79, 80, 81, 82, 83, 84] 85 (.v (.bool (true))) ?_ ?_
  ·
    by_cases hg16 : True
    ·
      refine gq_run rfl rfl rfl rfl (by first | exact congrArg Value.bool (decide_eq_true hg16) | (rw [decide_eq_true hg16]; done) | (simp [hg16]; done) | simp_all) (q_move rfl) ?_
      refine gq_run rfl rfl rfl rfl (by first | exact congrArg Value.bool (decide_eq_true hg16) | (rw [decide_eq_true hg16]; done) | (simp [hg16]; done) | simp_all) (q_ge rfl rfl) ?_
      refine gq_run rfl rfl rfl rfl (by first | exact congrArg Value.bool (decide_eq_true hg16) | (rw [decide_eq_true hg16]; done) | (simp [hg16]; done) | simp_all) (q_move rfl) ?_
      by_cases hg19 : 3 ≤ manyK x.k
      ·
        refine g_skip rfl rfl rfl (by first | (rw [decide_eq_true hg19]; simp; done) | (intro e; have e2 := Value.bool.inj e; rw [decide_eq_true hg19] at e2; cases e2; done) | (simp [hg19]; done) | simp_all) ?_
        refine g_skip rfl rfl rfl (by first | (rw [decide_eq_true hg19]; simp; done) | (intro e; have e2 := Value.bool.inj e; rw [decide_eq_true hg19] at e2; cases e2; done) | (simp [hg19]; done) | simp_all) ?_
        refine g_skip rfl rfl rfl (by first | (rw [decide_eq_true hg19]; simp; done) | (intro e; have e2 := Value.bool.inj e; rw [decide_eq_true hg19] at e2; cases e2; done) | (simp [hg19]; done) | simp_all) ?_
        refine gq_run rfl rfl rfl rfl (by first | exact congrArg Value.bool (decide_eq_true hg16) | (rw [decide_eq_true hg16]; done) | (simp [hg16]; done) | simp_all) (q_pickT rfl (by first | exact (decide_eq_true hg19) | exact hg19 | (simp [hg19]; done) | simp_all) rfl) ?_
        refine vq rfl rfl (q_pickT rfl (by first | exact (decide_eq_true hg16) | exact hg16 | (simp [hg16]; done) | simp_all) rfl) ?_
        refine vendW ⟨rfl, congrArg (fun b => some (AV.v (Value.bool b))) (by first | (simp only [decide_eq_true hg16, decide_eq_true hg19]; done) | (simp only [decide_eq_true hg16, decide_eq_true hg19]; rfl) | (simp [hg16, hg19]; done) | simp_all), ?_⟩
        repeat (first | exact Same.refl | refine Same.upd rfl ?_)
      ·
        refine gq_run rfl rfl rfl rfl (by first | exact congrArg Value.bool (decide_eq_false hg19) | (rw [decide_eq_false hg19]; done) | (simp [hg19]; done) | simp_all) (q_field fo89_3 rfl (Nat.le_of_ble_eq_true rfl)) ?_
        refine gq_run rfl rfl rfl rfl (by first | exact congrArg Value.bool (decide_eq_false hg19) | (rw [decide_eq_false hg19]; done) | (simp [hg19]; done) | simp_all) (q_load sc3 rfl) ?_
        refine gq_run rfl rfl rfl rfl (by first | exact congrArg Value.bool (decide_eq_false hg19) | (rw [decide_eq_false hg19]; done) | (simp [hg19]; done) | simp_all) (q_eq rfl rfl) ?_
        refine gq_run rfl rfl rfl rfl (by first | exact congrArg Value.bool (decide_eq_true hg16) | (rw [decide_eq_true hg16]; done) | (simp [hg16]; done) | simp_all) (q_pickF rfl (by first | exact (decide_eq_false hg19) | exact hg19 | (simp [hg19]; done) | simp_all) rfl) ?_
        refine vq rfl rfl (q_pickT rfl (by first | exact (decide_eq_true hg16) | exact hg16 | (simp [hg16]; done) | simp_all) rfl) ?_
        refine vendW ⟨rfl, congrArg (fun b => some (AV.v (Value.bool b))) (by first | (simp only [decide_eq_true hg16, decide_eq_false hg19]; done) | (simp only [decide_eq_true hg16, decide_eq_false hg19]; rfl) | (simp [hg16, hg19]; done) | simp_all), ?_⟩
        repeat (first | exact Same.refl | refine Same.upd rfl ?_)
    ·
      refine g_skip rfl rfl rfl (by first | (rw [decide_eq_false hg16]; simp; done) | (intro e; have e2 := Value.bool.inj e; rw [decide_eq_false hg16] at e2; cases e2; done) | (simp [hg16]; done) | simp_all) ?_
      refine g_skip rfl rfl rfl (by first | (rw [decide_eq_false hg16]; simp; done) | (intro e; have e2 := Value.bool.inj e; rw [decide_eq_false hg16] at e2; cases e2; done) | (simp [hg16]; done) | simp_all) ?_
      refine g_skip rfl rfl rfl (by first | (rw [decide_eq_false hg16]; simp; done) | (intro e; have e2 := Value.bool.inj e; rw [decide_eq_false hg16] at e2; cases e2; done) | (simp [hg16]; done) | simp_all) ?_
      refine g_skip rfl rfl rfl (by simp [undef]) ?_
      refine g_skip rfl rfl rfl (by simp [undef]) ?_
      refine g_skip rfl rfl rfl (by simp [undef]) ?_
      refine g_skip rfl rfl rfl (by first | (rw [decide_eq_false hg16]; simp; done) | (intro e; have e2 := Value.bool.inj e; rw [decide_eq_false hg16] at e2; cases e2; done) | (simp [hg16]; done) | simp_all) ?_
      refine vq rfl rfl (q_pickF rfl (by first | exact (decide_eq_false hg16) | exact hg16 | (simp [hg16]; done) | simp_all) rfl) ?_
      refine vendW ⟨rfl, congrArg (fun b => some (AV.v (Value.bool b))) (by first | (simp only [decide_eq_false hg16]; done) | (simp only [decide_eq_false hg16]; rfl) | (simp [hg16]; done) | simp_all), ?_⟩
      repeat (first | exact Same.refl | refine Same.upd rfl ?_)
  refine vq rfl rfl (q_assign rfl) ?_
  refine vendW ?_
  refine vc_ret ?_
  exact ret1 rfl rfl (Le.refl _) (Cv.le (Le.refl _) _) hk
end Go.Proofs.Ytpcpdepfnoijoaa

set_option linter.unusedVariables false
set_option linter.unusedSimpArgs false
namespace Go.Vc
def b2i (b : Bool) : Int := if b then 1 else 0
theorem b2i_01 (b : Bool) : b2i b = 0 ∨ b2i b = 1 := by cases b <;> simp [b2i]
theorem b2i_inj {a b : Bool} : b2i a = b2i b ↔ a = b := by cases a <;> cases b <;> simp [b2i]
def gateV (x : Nd) (inp : Bool) (v : Nat → Bool) : Bool :=
  if x.k = 0 then decide (x.a = 1) else if x.k = 1 then inp else if x.k = 2 then !bv v x.a else if x.k = 3 then bv v x.a && bv v x.b
  else if x.k = 4 then bv v x.a || bv v x.b else if x.k = 5 then bv v x.a ^^ bv v x.b else bif bv v x.c then bv v x.b else bv v x.a
def valL (nd : List Nd) (inp : Nat → Bool) : Nat → List Bool
  | 0 => []
  | i + 1 => valL nd inp i ++ [gateV (nd.getD i default) (inp i) (fun j => (valL nd inp i).getD j false)]
theorem valL_len (nd : List Nd) (inp : Nat → Bool) : ∀ i, (valL nd inp i).length = i
  | 0 => rfl
  | i + 1 => by simp [valL, valL_len nd inp i]
theorem valL_stay (nd : List Nd) (inp : Nat → Bool) {i j : Nat} (h : j < i) : ∀ d, (valL nd inp (i + d)).getD j false = (valL nd inp i).getD j false
  | 0 => rfl
  | d + 1 => by
    rw [← valL_stay nd inp h d, ← Nat.add_assoc, valL, getD_front (by rw [valL_len]; omega)]
def valN (nd : List Nd) (inp : Nat → Bool) (j : Nat) : Bool := (valL nd inp nd.length).getD j false
theorem valN_eq (nd : List Nd) (inp : Nat → Bool) {i j : Nat} (h : j < i) (hi : i ≤ nd.length) : valN nd inp j = (valL nd inp i).getD j false := by
  obtain ⟨d, hd⟩ := Nat.exists_eq_add_of_le hi
  unfold valN
  rw [hd]; exact valL_stay nd inp h d
theorem valN_at (nd : List Nd) (inp : Nat → Bool) {i : Nat} (hi : i < nd.length) : valN nd inp i = gateV (nd.getD i default) (inp i) (fun j => (valL nd inp i).getD j false) := by
  rw [valN_eq nd inp (Nat.lt_succ_self i) hi, valL]
  have := getD_end (valL nd inp i) (gateV (nd.getD i default) (inp i) (fun j => (valL nd inp i).getD j false)) false
  rwa [valL_len] at this
theorem valN_in (nd : List Nd) (inp : Nat → Bool) {i : Nat} (hi : i < nd.length) (hk : (nd.getD i default).k = 1) : valN nd inp i = inp i := by
  rw [valN_at nd inp hi, gateV, if_neg (by omega), if_pos hk]
theorem valN_mod {nd : List Nd} (hw : WfB nd) (inp : Nat → Bool) : Mod (valN nd inp) nd := by
  intro i hi
  have hx := hw i hi
  have e := valN_at nd inp hi
  have hb : ∀ a ∈ usesN (nd.getD i default), bv (fun j => (valL nd inp i).getD j false) a = bv (valN nd inp) a := fun a ha => by
    have h1 := hx.us a ha
    unfold bv
    exact (valN_eq nd inp (by omega) (by omega)).symm
  generalize nd.getD i default = x at *
  unfold gateV at e
  refine ⟨fun h => ?_, fun h => ?_, fun h => ?_, fun h => ?_, fun h => ?_, fun h => ?_⟩ <;> rw [e]
  · rw [if_pos h]
  · rw [if_neg (by omega), if_neg (by omega), if_pos h, hb _ (by simp [usesN, h])]
  · rw [if_neg (by omega), if_neg (by omega), if_neg (by omega), if_pos h, hb x.a (by simp [usesN, h]), hb x.b (by simp [usesN, h])]
  · rw [if_neg (by omega), if_neg (by omega), if_neg (by omega), if_neg (by omega), if_pos h, hb x.a (by simp [usesN, h]), hb x.b (by simp [usesN, h])]
  · rw [if_neg (by omega), if_neg (by omega), if_neg (by omega), if_neg (by omega), if_neg (by omega), if_pos h, hb x.a (by simp [usesN, h]), hb x.b (by simp [usesN, h])]
  · rw [if_neg (by omega), if_neg (by omega), if_neg (by omega), if_neg (by omega), if_neg (by omega), if_neg (by omega), hb x.a (by simp [usesN, h]), hb x.b (by simp [usesN, h]), hb x.c (by simp [usesN, h])]
def oneV (x : Nd) (V : List Int) : Int :=
  if x.k = 2 then 1 - V.getD x.a.toNat default else if x.k = 3 then min (V.getD x.a.toNat default) (V.getD x.b.toNat default) else if x.k = 4 then max (V.getD x.a.toNat default) (V.getD x.b.toNat default)
  else if x.k = 5 then (V.getD x.a.toNat default + V.getD x.b.toNat default) % 2 else if V.getD x.c.toNat default = 1 then V.getD x.b.toNat default else V.getD x.a.toNat default
def vlI (nd : List Nd) (inp : Nat → Bool) (i n : Nat) : List Int := (valL nd inp i).map b2i ++ List.replicate (n - i) 0
theorem vlI_len (nd : List Nd) (inp : Nat → Bool) {i n : Nat} (h : i ≤ n) : (vlI nd inp i n).length = n := by simp [vlI, valL_len]; omega
theorem vlI_get (nd : List Nd) (inp : Nat → Bool) {i n j : Nat} (h : j < i) (d : Int) : (vlI nd inp i n).getD j d = b2i ((valL nd inp i).getD j false) := by
  unfold vlI
  rw [getD_front (by rw [List.length_map, valL_len]; exact h)]
  have h2 : j < (valL nd inp i).length := by rw [valL_len]; exact h
  simp [List.getD_eq_getElem?_getD, List.getElem?_map, List.getElem?_eq_getElem h2]
theorem vlI_set (nd : List Nd) (inp : Nat → Bool) {i n : Nat} (h : i < n) {x : Int} (hx : x = b2i (gateV (nd.getD i default) (inp i) (fun j => (valL nd inp i).getD j false))) : (vlI nd inp i n).set i x = vlI nd inp (i + 1) n := by
  unfold vlI
  rw [List.set_append_right _ _ (by rw [List.length_map, valL_len]; exact Nat.le_refl _), List.length_map, valL_len, Nat.sub_self, show n - i = (n - (i + 1)) + 1 by omega, List.replicate_succ, List.set_cons_zero, valL, List.map_append, List.append_assoc, hx]
  rfl
theorem one_gate {nd : List Nd} {inp : Nat → Bool} {i n : Nat} {x : Nd} (hx : NdOK i x) (h0 : x.k ≠ 0) (h1 : x.k ≠ 1) (b : Bool) : oneV x (vlI nd inp i n) = b2i (gateV x b (fun j => (valL nd inp i).getD j false)) := by
  have hb : ∀ a ∈ usesN x, (vlI nd inp i n).getD a.toNat default = b2i (bv (fun j => (valL nd inp i).getD j false) a) := fun a ha => by
    have := hx.us a ha
    rw [vlI_get nd inp (by omega)]; rfl
  have hk := hx.kd
  unfold oneV gateV
  rw [if_neg h0, if_neg h1]
  by_cases h2 : x.k = 2
  · rw [if_pos h2, if_pos h2, hb x.a (by simp [usesN, h2])]
    cases bv (fun j => (valL nd inp i).getD j false) x.a <;> rfl
  · rw [if_neg h2, if_neg h2]
    by_cases h3 : x.k = 3
    · rw [if_pos h3, if_pos h3, hb x.a (by simp [usesN, h3]), hb x.b (by simp [usesN, h3])]
      cases bv (fun j => (valL nd inp i).getD j false) x.a <;> cases bv (fun j => (valL nd inp i).getD j false) x.b <;> rfl
    · rw [if_neg h3, if_neg h3]
      by_cases h4 : x.k = 4
      · rw [if_pos h4, if_pos h4, hb x.a (by simp [usesN, h4]), hb x.b (by simp [usesN, h4])]
        cases bv (fun j => (valL nd inp i).getD j false) x.a <;> cases bv (fun j => (valL nd inp i).getD j false) x.b <;> rfl
      · rw [if_neg h4, if_neg h4]
        by_cases h5 : x.k = 5
        · rw [if_pos h5, if_pos h5, hb x.a (by simp [usesN, h5]), hb x.b (by simp [usesN, h5])]
          cases bv (fun j => (valL nd inp i).getD j false) x.a <;> cases bv (fun j => (valL nd inp i).getD j false) x.b <;> rfl
        · have h6 : x.k = 6 := by omega
          rw [if_neg h5, if_neg h5, hb x.a (by simp [usesN, h6]), hb x.b (by simp [usesN, h6]), hb x.c (by simp [usesN, h6])]
          cases bv (fun j => (valL nd inp i).getD j false) x.a <;> cases bv (fun j => (valL nd inp i).getD j false) x.b <;> cases bv (fun j => (valL nd inp i).getD j false) x.c <;> rfl
abbrev fV (V : List Int) (b : Int) : Bool := decide (V.getD b.toNat default = 1)
def wvI (V : List Int) (bits : List Int) : Nat := bN (bits.map (fV V))
def eP (l : List Int) : List AV := [.sl 1 (l.map eU)]
def outP (V : List Int) (q : Pt) : List Int := pts (wvI V q.bits) (wd (wvI V q.bits))
def bkL (V bits : List Int) (k : Nat) : List Bool := (bits.take k).map (fV V) ++ List.replicate (bits.length - k) false
theorem bkL_zero (V bits : List Int) : bkL V bits 0 = List.replicate bits.length false := by simp [bkL]
theorem bkL_len (V bits : List Int) {k : Nat} (h : k ≤ bits.length) : (bkL V bits k).length = bits.length := by simp [bkL]; omega
theorem bkL_set (V : List Int) {bits : List Int} {k : Nat} (h : k < bits.length) (d : Bool) : ((bkL V bits k).map eT).set ((k : Int)).toNat ((eT d).set 0 (AV.bool (decide (V.getD (bits.getD ((k : Int)).toNat default).toNat default = 1)))) = (bkL V bits (k + 1)).map eT := by
  have e : (eT d).set 0 (AV.bool (decide (V.getD (bits.getD ((k : Int)).toNat default).toNat default = 1))) = eT (fV V (bits.getD k default)) := rfl
  rw [e, Int.toNat_natCast, ← List.map_set]
  congr 1
  unfold bkL
  rw [List.set_append_right _ _ (by simp; omega), List.length_map, List.length_take, Nat.min_eq_left (by omega), Nat.sub_self, show bits.length - k = (bits.length - (k + 1)) + 1 by omega, List.replicate_succ, List.set_cons_zero, map_take_succ h, List.append_assoc]
  rfl
theorem bkL_last (V : List Int) {bits : List Int} {k : Nat} (h : k < bits.length) : (bkL V bits (k + 1)).getD ((k : Int)).toNat false = fV V (bits.getD k default) := by
  unfold bkL
  rw [Int.toNat_natCast, map_take_succ h, List.append_assoc]
  have hl : ((bits.take k).map (fV V)).length = k := by simp; omega
  have key : ∀ (A R : List Bool) (y : Bool), (A ++ ([y] ++ R)).getD A.length false = y := fun A R y => by simp [List.getD_eq_getElem?_getD]
  have := key ((bits.take k).map (fV V)) (List.replicate (bits.length - (k + 1)) false) (fV V (bits.getD k default))
  rw [hl] at this
  exact this
theorem bkL_cut (V : List Int) {bits : List Int} {last : Nat} (h1 : last ≤ bits.length) (h2 : last = 0 ∨ fV V (bits.getD (last - 1) default) = true) (h3 : ∀ j, last ≤ j → j < bits.length → fV V (bits.getD j default) = false) :
    (bkL V bits bits.length).take last = toB (wvI V bits) ∧ wd (wvI V bits) ≤ bits.length := by
  have e0 : bkL V bits bits.length = bits.map (fV V) := by simp [bkL]
  have hg : ∀ j, j < bits.length → (bits.map (fV V)).getD j false = fV V (bits.getD j default) := fun j hj => by simp [List.getD_eq_getElem?_getD, hj]
  rw [e0]
  refine ⟨cut_eq (by rw [List.length_map]; exact h1) ?_ fun j a b => ?_, ?_⟩
  · by_cases e : last = 0
    · left; exact e
    · right; rw [hg _ (by omega)]; exact h2.resolve_left e
  · rw [List.length_map] at b; rw [hg _ b]; exact h3 j a b
  · have := wd_mono (bN_lt (bits.map (fV V)))
    rw [List.length_map] at this; exact this
theorem wvI_val {nd : List Nd} {inp : Nat → Bool} : ∀ {bits : List Int}, (∀ b ∈ bits, 0 ≤ b ∧ b < nd.length) → wvI ((valL nd inp nd.length).map b2i) bits = wv (valN nd inp) bits
  | [], _ => rfl
  | b :: l, h => by
    have hb := h b (by simp)
    have ih := wvI_val (inp := inp) (bits := l) fun x hx => h x (by simp [hx])
    unfold wvI at ih ⊢
    rw [List.map_cons, bN, wv, ih]
    congr 2
    have hl : b.toNat < (valL nd inp nd.length).length := by rw [valL_len]; omega
    have e : ((valL nd inp nd.length).map b2i).getD b.toNat default = b2i ((valL nd inp nd.length).getD b.toNat false) := by
      simp [List.getD_eq_getElem?_getD, List.getElem?_map, List.getElem?_eq_getElem hl]
    show decide (((valL nd inp nd.length).map b2i).getD b.toNat default = 1) = valN nd inp b.toNat
    rw [e]
    unfold valN
    cases (valL nd inp nd.length).getD b.toNat false <;> rfl
theorem vc_stEq {P : Program} {N : Nat} {Q : EQ} {env : Env} {s s' : St} {c : Code} (h : s = s') (k : VC P N c Q env s') : VC P N c Q env s := h ▸ k
def InpOK (nt : Net) (prts : List (List Int)) (inp : Nat → Bool) : Prop := ∀ i, i < nt.ins.length → ∀ k, k < (nt.ins.getD i default).bits.length → inp ((nt.ins.getD i default).bits.getD k default).toNat = (pN (prts.getD i default)).testBit k
structure InOK (nt : Net) (prts : List (List Int)) (inp : Nat → Bool) (i k : Nat) (I : List Int) : Prop where
  len : I.length = nt.nodes.length
  c : ∀ j, I.getD j default = 0 ∨ (I.getD j default = 1 ∧ inp j = true)
  d : ∀ i' k', i' < nt.ins.length → k' < (nt.ins.getD i' default).bits.length → (i' < i ∨ (i' = i ∧ k' < k)) → (pN (prts.getD i' default)).testBit k' = true → ((nt.ins.getD i' default).bits.getD k' default).toNat < I.length → I.getD ((nt.ins.getD i' default).bits.getD k' default).toNat default = 1
theorem InOK.init (nt : Net) (prts : List (List Int)) (inp : Nat → Bool) : InOK nt prts inp 0 0 (List.replicate nt.nodes.length 0) :=
  ⟨by simp, fun j => .inl (by
    rcases Nat.lt_or_ge j nt.nodes.length with h | h
    · simp [List.getD_eq_getElem?_getD, h]
    · simp [List.getD_eq_getElem?_getD, h]), fun i' k' _ _ h => by omega⟩
theorem InOK.skip {nt : Net} {prts : List (List Int)} {inp : Nat → Bool} {i k : Nat} {I : List Int} (h : InOK nt prts inp i k I) (hb : (pN (prts.getD i default)).testBit k = false) : InOK nt prts inp i (k + 1) I :=
  ⟨h.len, h.c, fun i' k' h1 h2 h3 h4 h5 => by
    by_cases e : i' = i ∧ k' = k
    · obtain ⟨rfl, rfl⟩ := e; rw [hb] at h4; cases h4
    · exact h.d i' k' h1 h2 (by omega) h4 h5⟩
theorem InOK.put {nt : Net} {prts : List (List Int)} {inp : Nat → Bool} {i k : Nat} {I : List Int} (h : InOK nt prts inp i k I) (hin : InpOK nt prts inp) (hi : i < nt.ins.length) (hk : k < (nt.ins.getD i default).bits.length) (hb : (pN (prts.getD i default)).testBit k = true) :
    InOK nt prts inp i (k + 1) (I.set ((nt.ins.getD i default).bits.getD k default).toNat 1) := by
  have hv : inp ((nt.ins.getD i default).bits.getD k default).toNat = true := by rw [hin i hi k hk, hb]
  generalize hx : ((nt.ins.getD i default).bits.getD k default).toNat = x at *
  refine ⟨by rw [List.length_set]; exact h.len, fun j => ?_, fun i' k' h1 h2 h3 h4 h5 => ?_⟩
  · by_cases e : j = x
    · subst e
      rcases Nat.lt_or_ge j I.length with hj | hj
      · right; exact ⟨getD_setS hj, hv⟩
      · rw [List.set_eq_of_length_le hj]; exact h.c j
    · rw [getD_setN (Ne.symm e)]; exact h.c j
  · rw [List.length_set] at h5
    by_cases e : ((nt.ins.getD i' default).bits.getD k' default).toNat = x
    · rw [e] at h5 ⊢; exact getD_setS h5
    · rw [getD_setN (Ne.symm e)]
      by_cases e2 : i' = i ∧ k' = k
      · obtain ⟨rfl, rfl⟩ := e2; exact absurd hx e
      · exact h.d i' k' h1 h2 (by omega) h4 h5
theorem InOK.next {nt : Net} {prts : List (List Int)} {inp : Nat → Bool} {i k : Nat} {I : List Int} (h : InOK nt prts inp i k I) (hk : wd (pN (prts.getD i default)) ≤ k) : InOK nt prts inp (i + 1) 0 I :=
  ⟨h.len, h.c, fun i' k' h1 h2 h3 h4 h5 => by
    by_cases e : i' = i ∧ k ≤ k'
    · obtain ⟨rfl, e⟩ := e
      rw [Nat.testBit_lt_two_pow (Nat.lt_of_lt_of_le (wd_lt _) (Nat.pow_le_pow_right (by decide) (by omega)))] at h4; cases h4
    · exact h.d i' k' h1 h2 (by omega) h4 h5⟩
theorem InOK.done {nt : Net} {prts : List (List Int)} {inp : Nat → Bool} {k : Nat} {I : List Int} (h : InOK nt prts inp nt.ins.length k I) (hin : InpOK nt prts inp) (hr : ∀ q ∈ nt.ins, ∀ b ∈ q.bits, 0 ≤ b ∧ b < nt.nodes.length) : ∀ i, i < nt.ins.length → ∀ k, k < (nt.ins.getD i default).bits.length →
    I.getD ((nt.ins.getD i default).bits.getD k default).toNat default = b2i (inp ((nt.ins.getD i default).bits.getD k default).toNat) := by
  intro i hi k hk
  rcases h.c ((nt.ins.getD i default).bits.getD k default).toNat with h1 | h1
  · rw [h1]
    by_cases hb : (pN (prts.getD i default)).testBit k = true
    · have hr2 := hr _ (getD_mem hi) _ (getD_mem hk)
      have hl : ((nt.ins.getD i default).bits.getD k default).toNat < I.length := by rw [h.len]; omega
      have := h.d i k hi hk (.inl hi) hb hl
      rw [h1] at this; cases this
    · rw [hin i hi k hk, eq_false_of_ne_true hb]; rfl
  · rw [h1.1, h1.2]; rfl
theorem cut_range {M w last : Nat} (hM : M < 2 ^ w) (h1 : last ≤ w) (h2 : last = 0 ∨ M.testBit (last - 1) = true) (h3 : ∀ j, last ≤ j → j < w → M.testBit j = false) : ((List.range w).map M.testBit).take last = toB M := by
  have hg : ∀ j, j < w → ((List.range w).map M.testBit).getD j false = M.testBit j := fun j hj => by simp [List.getD_eq_getElem?_getD, hj]
  have e : bN ((List.range w).map M.testBit) = M := by
    apply Nat.eq_of_testBit_eq
    intro i
    rw [bN_bit]
    rcases Nat.lt_or_ge i w with h | h
    · exact hg i h
    · rw [Nat.testBit_lt_two_pow (Nat.lt_of_lt_of_le hM (Nat.pow_le_pow_right (by decide) h))]
      simp [List.getD_eq_getElem?_getD, h]
  have := cut_eq (b := (List.range w).map M.testBit) (n := last) (by simpa using h1) ?_ ?_
  · rw [e] at this; exact this
  · by_cases h0 : last = 0
    · left; exact h0
    · right; rw [hg _ (by omega)]; exact h2.resolve_left h0
  · intro j a b
    rw [List.length_map, List.length_range] at b
    rw [hg j b]; exact h3 j a b
theorem low_bit {b : List Bool} {w i : Nat} (h : i < w) : (bN b % 2 ^ w).testBit i = b.getD i false := by
  rw [Nat.testBit_mod_two_pow, decide_eq_true h, Bool.true_and, bN_bit]
theorem word_bit {n : Int} {w i : Nat} (h : i < w) : (iw n w).testBit i = decide ((n / 2 ^ i).tmod 2 ≠ 0) := by
  rw [iw_bit n h, ← decide_not]
  apply decide_eq_decide.2
  generalize n / 2 ^ i = m
  have h1 := Int.emod_two_eq m
  have h2 : m.tmod 2 = 0 ↔ m % 2 = 0 := by
    rw [← Int.dvd_iff_tmod_eq_zero, Int.dvd_iff_emod_eq_zero]
  exact (not_congr h2).symm
theorem half_odd {n : Int} {i : Nat} (h : decide ((n / 2 ^ i).tmod 2 ≠ 0) = true) : (n / 2 ^ i - 1).tdiv 2 = n / 2 ^ (i + 1) := by
  have e : n / 2 ^ (i + 1) = n / 2 ^ i / 2 := by
    rw [show (2 : Int) ^ (i + 1) = 2 ^ i * 2 from Int.pow_succ _ _, Int.ediv_ediv_of_nonneg (Int.le_of_lt (Int.pow_pos (by decide)))]
  rw [e]
  generalize n / 2 ^ i = m at *
  have h0 := of_decide_eq_true h
  have h2 : m.tmod 2 = 0 ↔ m % 2 = 0 := by
    rw [← Int.dvd_iff_tmod_eq_zero, Int.dvd_iff_emod_eq_zero]
  have h3 : m % 2 = 1 := by
    rcases Int.emod_two_eq m with h4 | h4
    · exact absurd (h2.2 h4) h0
    · exact h4
  have hd : (2 : Int) ∣ m - 1 := ⟨m / 2, by omega⟩
  rw [Int.tdiv_eq_ediv_of_dvd hd]; omega
theorem half_even {n : Int} {i : Nat} (h : decide ((n / 2 ^ i).tmod 2 ≠ 0) = false) : (n / 2 ^ i).tdiv 2 = n / 2 ^ (i + 1) := by
  have e : n / 2 ^ (i + 1) = n / 2 ^ i / 2 := by
    rw [show (2 : Int) ^ (i + 1) = 2 ^ i * 2 from Int.pow_succ _ _, Int.ediv_ediv_of_nonneg (Int.le_of_lt (Int.pow_pos (by decide)))]
  rw [e]
  generalize n / 2 ^ i = m at *
  have h0 : m.tmod 2 = 0 := by
    have := of_decide_eq_false h
    exact Classical.not_not.1 this
  exact Int.tdiv_eq_ediv_of_dvd (Int.dvd_iff_tmod_eq_zero.2 h0)
theorem div_bd {n : Int} (hn : -4611686018427387904 ≤ n ∧ n < 4611686018427387904) (i : Nat) : -4611686018427387904 ≤ n / 2 ^ i ∧ n / 2 ^ i < 4611686018427387904 := by
  have hp : (0 : Int) < 2 ^ i := Int.pow_pos (by decide)
  constructor
  · apply (Int.le_ediv_iff_mul_le hp).2
    have : (1 : Int) ≤ 2 ^ i := hp
    have h1 := Int.mul_le_mul_of_nonneg_left this (show (0 : Int) ≤ 4611686018427387904 by decide)
    omega
  · apply Int.ediv_lt_of_lt_mul hp
    have : (1 : Int) ≤ 2 ^ i := hp
    have h1 := Int.mul_le_mul_of_nonneg_left this (show (0 : Int) ≤ 4611686018427387904 by decide)
    omega
theorem tdiv_bd {m : Int} (h1 : -4611686018427387905 ≤ m) (h2 : m ≤ 4611686018427387904) : -9223372036854775808 ≤ m.tdiv 2 ∧ m.tdiv 2 ≤ 9223372036854775807 := by
  have h3 := Int.tmod_add_mul_tdiv m 2
  have h4 := Int.tmod_lt_of_pos m (show (0 : Int) < 2 by decide)
  have h5 := Int.lt_tmod_of_pos m (show (0 : Int) < 2 by decide)
  omega
end Go.Vc

set_option linter.unusedVariables false
set_option maxRecDepth 100000
namespace Go.Proofs.Ytpcpdepfnoijoaa
open Go.Vc
theorem plain_0 {x : Nd} {s : St} {K : AV → St → Prop} (h : x.k = 0) (hk : K (.agg (ndR ⟨x.k, x.a % 2, 0, 0⟩)) s) : CallsA Try.prog 165 [.agg (ndR x)] s K := by
  refine callsA_of Try.func165 rfl rfl (Nat.le_of_ble_eq_true rfl) ?_
  refine vc_seq ?_
  refine vc_regionW (qm 1) [0, 1] rfl rfl ?_
  refine vq rfl rfl (q_box rfl rfl) ?_
  refine ve rfl rfl (e_alloc zr89 (fun k2 hk2 => ?_))
  refine vendW ?_
  refine vc_seq ?_
  refine vc_seq ?_
  refine vc_regionW (qm 3) [0, 1] rfl rfl ?_
  refine vq rfl rfl (q_field fo89_0 rfl (Nat.le_of_ble_eq_true rfl)) ?_
  refine vq rfl rfl (q_load sc3 rfl) ?_
  refine vendW ?_
  refine vc_block ?_
  refine vc_seq ?_
  refine vc_regionW (qm 3) [0, 1] rfl rfl ?_
  refine vq rfl rfl (q_eq rfl rfl) ?_
  refine vq rfl rfl (q_assign rfl) ?_
  refine vendW ?_
  refine vc_condT rfl (by simp [h]) ?_
  refine vc_seq ?_
  refine vc_regionW (qm 63) [0, 1, 2, 3, 4, 5, 6] rfl rfl ?_
  refine vq rfl rfl (q_field fo89_0 rfl (Nat.le_of_ble_eq_true rfl)) ?_
  refine vq rfl rfl (q_load sc3 rfl) ?_
  refine vq rfl rfl (q_field fo89_1 rfl (Nat.le_of_ble_eq_true rfl)) ?_
  refine vq rfl rfl (q_load sc3 rfl) ?_
  refine vq rfl rfl (q_and rfl rfl (and1_i64 _)) ?_
  refine vq rfl rfl (q_build pl89 zr89 rfl rfl) ?_
  refine vn rfl rfl (e_storeN sz89 rfl rfl rfl rfl (upd_same _ _ _) rfl ?_)
  refine vendW ?_
  refine vc_ret ?_
  exact retC rfl ag89 rfl (upd_same _ _ _) rfl (Le.new2 hk2) (Cv.le (Le.new2 hk2) _) hk
theorem plain_7 {x : Nd} {s : St} {K : AV → St → Prop} (h : x.k = 7) (hk : K (.agg (ndR ⟨x.k, x.a, x.b % 2, 0⟩)) s) : CallsA Try.prog 165 [.agg (ndR x)] s K := by
  refine callsA_of Try.func165 rfl rfl (Nat.le_of_ble_eq_true rfl) ?_
  refine vc_seq ?_
  refine vc_regionW (qm 1) [0, 1] rfl rfl ?_
  refine vq rfl rfl (q_box rfl rfl) ?_
  refine ve rfl rfl (e_alloc zr89 (fun k2 hk2 => ?_))
  refine vendW ?_
  refine vc_seq ?_
  refine vc_seq ?_
  refine vc_regionW (qm 3) [0, 1] rfl rfl ?_
  refine vq rfl rfl (q_field fo89_0 rfl (Nat.le_of_ble_eq_true rfl)) ?_
  refine vq rfl rfl (q_load sc3 rfl) ?_
  refine vendW ?_
  refine vc_block ?_
  refine vc_seq ?_
  refine vc_regionW (qm 3) [0, 1] rfl rfl ?_
  refine vq rfl rfl (q_eq rfl rfl) ?_
  refine vq rfl rfl (q_assign rfl) ?_
  refine vendW ?_
  refine vc_condF rfl (by simp [h]) ?_
  refine vc_seq ?_
  refine vc_regionW (qm 3) [0, 1] rfl rfl ?_
  refine vq rfl rfl (q_eq rfl rfl) ?_
  refine vq rfl rfl (q_assign rfl) ?_
  refine vendW ?_
  refine vc_condT rfl (by simp [h]) ?_
  refine vc_seq ?_
  refine vc_regionW (qm 255) [0, 1, 2, 3, 4, 5, 6, 7, 8] rfl rfl ?_
  refine vq rfl rfl (q_field fo89_0 rfl (Nat.le_of_ble_eq_true rfl)) ?_
  refine vq rfl rfl (q_load sc3 rfl) ?_
  refine vq rfl rfl (q_field fo89_1 rfl (Nat.le_of_ble_eq_true rfl)) ?_
  refine vq rfl rfl (q_load sc3 rfl) ?_
  refine vq rfl rfl (q_field fo89_2 rfl (Nat.le_of_ble_eq_true rfl)) ?_
  refine vq rfl rfl (q_load sc3 rfl) ?_
  refine vq rfl rfl (q_and rfl rfl (and1_i64 _)) ?_
  refine vq rfl rfl (q_build pl89 zr89 rfl rfl) ?_
  refine vn rfl rfl (e_storeN sz89 rfl rfl rfl rfl (upd_same _ _ _) rfl ?_)
  refine vendW ?_
  refine vc_ret ?_
  exact retC rfl ag89 rfl (upd_same _ _ _) rfl (Le.new2 hk2) (Cv.le (Le.new2 hk2) _) hk
theorem plain_2 {x : Nd} {s : St} {K : AV → St → Prop} (h : x.k = 2) (hk : K (.agg (ndR ⟨x.k, x.a, 0, 0⟩)) s) : CallsA Try.prog 165 [.agg (ndR x)] s K := by
  refine callsA_of Try.func165 rfl rfl (Nat.le_of_ble_eq_true rfl) ?_
  refine vc_seq ?_
  refine vc_regionW (qm 1) [0, 1] rfl rfl ?_
  refine vq rfl rfl (q_box rfl rfl) ?_
  refine ve rfl rfl (e_alloc zr89 (fun k2 hk2 => ?_))
  refine vendW ?_
  refine vc_seq ?_
  refine vc_seq ?_
  refine vc_regionW (qm 3) [0, 1] rfl rfl ?_
  refine vq rfl rfl (q_field fo89_0 rfl (Nat.le_of_ble_eq_true rfl)) ?_
  refine vq rfl rfl (q_load sc3 rfl) ?_
  refine vendW ?_
  refine vc_block ?_
  refine vc_seq ?_
  refine vc_regionW (qm 3) [0, 1] rfl rfl ?_
  refine vq rfl rfl (q_eq rfl rfl) ?_
  refine vq rfl rfl (q_assign rfl) ?_
  refine vendW ?_
  refine vc_condF rfl (by simp [h]) ?_
  refine vc_seq ?_
  refine vc_regionW (qm 3) [0, 1] rfl rfl ?_
  refine vq rfl rfl (q_eq rfl rfl) ?_
  refine vq rfl rfl (q_assign rfl) ?_
  refine vendW ?_
  refine vc_condF rfl (by simp [h]) ?_
  refine vc_seq ?_
  refine vc_regionW (qm 3) [0, 1] rfl rfl ?_
  refine vq rfl rfl (q_eq rfl rfl) ?_
  refine vq rfl rfl (q_assign rfl) ?_
  refine vendW ?_
  refine vc_condT rfl (by simp [h]) ?_
  refine vc_seq ?_
  refine vc_regionW (qm 31) [0, 1, 2, 3, 4, 5] rfl rfl ?_
  refine vq rfl rfl (q_field fo89_0 rfl (Nat.le_of_ble_eq_true rfl)) ?_
  refine vq rfl rfl (q_load sc3 rfl) ?_
  refine vq rfl rfl (q_field fo89_1 rfl (Nat.le_of_ble_eq_true rfl)) ?_
  refine vq rfl rfl (q_load sc3 rfl) ?_
  refine vq rfl rfl (q_build pl89 zr89 rfl rfl) ?_
  refine vn rfl rfl (e_storeN sz89 rfl rfl rfl rfl (upd_same _ _ _) rfl ?_)
  refine vendW ?_
  refine vc_ret ?_
  exact retC rfl ag89 rfl (upd_same _ _ _) rfl (Le.new2 hk2) (Cv.le (Le.new2 hk2) _) hk
theorem plain_3 {x : Nd} {s : St} {K : AV → St → Prop} (h : x.k = 3) (hk : K (.agg (ndR ⟨x.k, x.a, x.b, 0⟩)) s) : CallsA Try.prog 165 [.agg (ndR x)] s K := by
  refine callsA_of Try.func165 rfl rfl (Nat.le_of_ble_eq_true rfl) ?_
  refine vc_seq ?_
  refine vc_regionW (qm 1) [0, 1] rfl rfl ?_
  refine vq rfl rfl (q_box rfl rfl) ?_
  refine ve rfl rfl (e_alloc zr89 (fun k2 hk2 => ?_))
  refine vendW ?_
  refine vc_seq ?_
  refine vc_seq ?_
  refine vc_regionW (qm 3) [0, 1] rfl rfl ?_
  refine vq rfl rfl (q_field fo89_0 rfl (Nat.le_of_ble_eq_true rfl)) ?_
  refine vq rfl rfl (q_load sc3 rfl) ?_
  refine vendW ?_
  refine vc_block ?_
  refine vc_seq ?_
  refine vc_regionW (qm 3) [0, 1] rfl rfl ?_
  refine vq rfl rfl (q_eq rfl rfl) ?_
  refine vq rfl rfl (q_assign rfl) ?_
  refine vendW ?_
  refine vc_condF rfl (by simp [h]) ?_
  refine vc_seq ?_
  refine vc_regionW (qm 3) [0, 1] rfl rfl ?_
  refine vq rfl rfl (q_eq rfl rfl) ?_
  refine vq rfl rfl (q_assign rfl) ?_
  refine vendW ?_
  refine vc_condF rfl (by simp [h]) ?_
  refine vc_seq ?_
  refine vc_regionW (qm 3) [0, 1] rfl rfl ?_
  refine vq rfl rfl (q_eq rfl rfl) ?_
  refine vq rfl rfl (q_assign rfl) ?_
  refine vendW ?_
  refine vc_condF rfl (by simp [h]) ?_
  refine vc_seq ?_
  refine vc_seq ?_
  refine vc_regionW (qm 3) [0, 1] rfl rfl ?_
  refine vq rfl rfl (q_eq rfl rfl) ?_
  refine vq rfl rfl (q_assign rfl) ?_
  refine vendW ?_
  refine vc_condT rfl (by simp [h]) ?_
  refine vc_skip ?_
  refine vc_condT rfl (by simp [h]) ?_
  refine vc_seq ?_
  refine vc_regionW (qm 127) [0, 1, 2, 3, 4, 5, 6, 7] rfl rfl ?_
  refine vq rfl rfl (q_field fo89_0 rfl (Nat.le_of_ble_eq_true rfl)) ?_
  refine vq rfl rfl (q_load sc3 rfl) ?_
  refine vq rfl rfl (q_field fo89_1 rfl (Nat.le_of_ble_eq_true rfl)) ?_
  refine vq rfl rfl (q_load sc3 rfl) ?_
  refine vq rfl rfl (q_field fo89_2 rfl (Nat.le_of_ble_eq_true rfl)) ?_
  refine vq rfl rfl (q_load sc3 rfl) ?_
  refine vq rfl rfl (q_build pl89 zr89 rfl rfl) ?_
  refine vn rfl rfl (e_storeN sz89 rfl rfl rfl rfl (upd_same _ _ _) rfl ?_)
  refine vendW ?_
  refine vc_ret ?_
  exact retC rfl ag89 rfl (upd_same _ _ _) rfl (Le.new2 hk2) (Cv.le (Le.new2 hk2) _) hk
theorem plain_4 {x : Nd} {s : St} {K : AV → St → Prop} (h : x.k = 4) (hk : K (.agg (ndR ⟨x.k, x.a, x.b, 0⟩)) s) : CallsA Try.prog 165 [.agg (ndR x)] s K := by
  refine callsA_of Try.func165 rfl rfl (Nat.le_of_ble_eq_true rfl) ?_
  refine vc_seq ?_
  refine vc_regionW (qm 1) [0, 1] rfl rfl ?_
  refine vq rfl rfl (q_box rfl rfl) ?_
  refine ve rfl rfl (e_alloc zr89 (fun k2 hk2 => ?_))
  refine vendW ?_
  refine vc_seq ?_
  refine vc_seq ?_
  refine vc_regionW (qm 3) [0, 1] rfl rfl ?_
  refine vq rfl rfl (q_field fo89_0 rfl (Nat.le_of_ble_eq_true rfl)) ?_
  refine vq rfl rfl (q_load sc3 rfl) ?_
  refine vendW ?_
  refine vc_block ?_
  refine vc_seq ?_
  refine vc_regionW (qm 3) [0, 1] rfl rfl ?_
  refine vq rfl rfl (q_eq rfl rfl) ?_
  refine vq rfl rfl (q_assign rfl) ?_
  refine vendW ?_
  refine vc_condF rfl (by simp [h]) ?_
  refine vc_seq ?_
  refine vc_regionW (qm 3) [0, 1] rfl rfl ?_
  refine vq rfl rfl (q_eq rfl rfl) ?_
  refine vq rfl rfl (q_assign rfl) ?_
  refine vendW ?_
  refine vc_condF rfl (by simp [h]) ?_
  refine vc_seq ?_
  refine vc_regionW (qm 3) [0, 1] rfl rfl ?_
  refine vq rfl rfl (q_eq rfl rfl) ?_
  refine vq rfl rfl (q_assign rfl) ?_
  refine vendW ?_
  refine vc_condF rfl (by simp [h]) ?_
  refine vc_seq ?_
  refine vc_seq ?_
  refine vc_regionW (qm 3) [0, 1] rfl rfl ?_
  refine vq rfl rfl (q_eq rfl rfl) ?_
  refine vq rfl rfl (q_assign rfl) ?_
  refine vendW ?_
  refine vc_condF rfl (by simp [h]) ?_
  refine vc_seq ?_
  refine vc_regionW (qm 3) [0, 1] rfl rfl ?_
  refine vq rfl rfl (q_eq rfl rfl) ?_
  refine vq rfl rfl (q_assign rfl) ?_
  refine vendW ?_
  refine vc_condT rfl (by simp [h]) ?_
  refine vc_skip ?_
  refine vc_condT rfl (by simp [h]) ?_
  refine vc_seq ?_
  refine vc_regionW (qm 127) [0, 1, 2, 3, 4, 5, 6, 7] rfl rfl ?_
  refine vq rfl rfl (q_field fo89_0 rfl (Nat.le_of_ble_eq_true rfl)) ?_
  refine vq rfl rfl (q_load sc3 rfl) ?_
  refine vq rfl rfl (q_field fo89_1 rfl (Nat.le_of_ble_eq_true rfl)) ?_
  refine vq rfl rfl (q_load sc3 rfl) ?_
  refine vq rfl rfl (q_field fo89_2 rfl (Nat.le_of_ble_eq_true rfl)) ?_
  refine vq rfl rfl (q_load sc3 rfl) ?_
  refine vq rfl rfl (q_build pl89 zr89 rfl rfl) ?_
  refine vn rfl rfl (e_storeN sz89 rfl rfl rfl rfl (upd_same _ _ _) rfl ?_)
  refine vendW ?_
  refine vc_ret ?_
  exact retC rfl ag89 rfl (upd_same _ _ _) rfl (Le.new2 hk2) (Cv.le (Le.new2 hk2) _) hk
theorem plain_5 {x : Nd} {s : St} {K : AV → St → Prop} (h : x.k = 5) (hk : K (.agg (ndR ⟨x.k, x.a, x.b, 0⟩)) s) : CallsA Try.prog 165 [.agg (ndR x)] s K := by
  refine callsA_of Try.func165 rfl rfl (Nat.le_of_ble_eq_true rfl) ?_
  refine vc_seq ?_
  refine vc_regionW (qm 1) [0, 1] rfl rfl ?_
  refine vq rfl rfl (q_box rfl rfl) ?_
  refine ve rfl rfl (e_alloc zr89 (fun k2 hk2 => ?_))
  refine vendW ?_
  refine vc_seq ?_
  refine vc_seq ?_
  refine vc_regionW (qm 3) [0, 1] rfl rfl ?_
  refine vq rfl rfl (q_field fo89_0 rfl (Nat.le_of_ble_eq_true rfl)) ?_
  refine vq rfl rfl (q_load sc3 rfl) ?_
  refine vendW ?_
  refine vc_block ?_
  refine vc_seq ?_
  refine vc_regionW (qm 3) [0, 1] rfl rfl ?_
  refine vq rfl rfl (q_eq rfl rfl) ?_
  refine vq rfl rfl (q_assign rfl) ?_
  refine vendW ?_
  refine vc_condF rfl (by simp [h]) ?_
  refine vc_seq ?_
  refine vc_regionW (qm 3) [0, 1] rfl rfl ?_
  refine vq rfl rfl (q_eq rfl rfl) ?_
  refine vq rfl rfl (q_assign rfl) ?_
  refine vendW ?_
  refine vc_condF rfl (by simp [h]) ?_
  refine vc_seq ?_
  refine vc_regionW (qm 3) [0, 1] rfl rfl ?_
  refine vq rfl rfl (q_eq rfl rfl) ?_
  refine vq rfl rfl (q_assign rfl) ?_
  refine vendW ?_
  refine vc_condF rfl (by simp [h]) ?_
  refine vc_seq ?_
  refine vc_seq ?_
  refine vc_regionW (qm 3) [0, 1] rfl rfl ?_
  refine vq rfl rfl (q_eq rfl rfl) ?_
  refine vq rfl rfl (q_assign rfl) ?_
  refine vendW ?_
  refine vc_condF rfl (by simp [h]) ?_
  refine vc_seq ?_
  refine vc_regionW (qm 3) [0, 1] rfl rfl ?_
  refine vq rfl rfl (q_eq rfl rfl) ?_
  refine vq rfl rfl (q_assign rfl) ?_
  refine vendW ?_
  refine vc_condF rfl (by simp [h]) ?_
  refine vc_regionW (qm 3) [0, 1] rfl rfl ?_
  refine vq rfl rfl (q_eq rfl rfl) ?_
  refine vq rfl rfl (q_assign rfl) ?_
  refine vendW ?_
  refine vc_condT rfl (by simp [h]) ?_
  refine vc_seq ?_
  refine vc_regionW (qm 127) [0, 1, 2, 3, 4, 5, 6, 7] rfl rfl ?_
  refine vq rfl rfl (q_field fo89_0 rfl (Nat.le_of_ble_eq_true rfl)) ?_
  refine vq rfl rfl (q_load sc3 rfl) ?_
  refine vq rfl rfl (q_field fo89_1 rfl (Nat.le_of_ble_eq_true rfl)) ?_
  refine vq rfl rfl (q_load sc3 rfl) ?_
  refine vq rfl rfl (q_field fo89_2 rfl (Nat.le_of_ble_eq_true rfl)) ?_
  refine vq rfl rfl (q_load sc3 rfl) ?_
  refine vq rfl rfl (q_build pl89 zr89 rfl rfl) ?_
  refine vn rfl rfl (e_storeN sz89 rfl rfl rfl rfl (upd_same _ _ _) rfl ?_)
  refine vendW ?_
  refine vc_ret ?_
  exact retC rfl ag89 rfl (upd_same _ _ _) rfl (Le.new2 hk2) (Cv.le (Le.new2 hk2) _) hk
theorem plain_6 {x : Nd} {s : St} {K : AV → St → Prop} (h : x.k = 6) (hk : K (.agg (ndR x)) s) : CallsA Try.prog 165 [.agg (ndR x)] s K := by
  refine callsA_of Try.func165 rfl rfl (Nat.le_of_ble_eq_true rfl) ?_
  refine vc_seq ?_
  refine vc_regionW (qm 1) [0, 1] rfl rfl ?_
  refine vq rfl rfl (q_box rfl rfl) ?_
  refine ve rfl rfl (e_alloc zr89 (fun k2 hk2 => ?_))
  refine vendW ?_
  refine vc_seq ?_
  refine vc_seq ?_
  refine vc_regionW (qm 3) [0, 1] rfl rfl ?_
  refine vq rfl rfl (q_field fo89_0 rfl (Nat.le_of_ble_eq_true rfl)) ?_
  refine vq rfl rfl (q_load sc3 rfl) ?_
  refine vendW ?_
  refine vc_block ?_
  refine vc_seq ?_
  refine vc_regionW (qm 3) [0, 1] rfl rfl ?_
  refine vq rfl rfl (q_eq rfl rfl) ?_
  refine vq rfl rfl (q_assign rfl) ?_
  refine vendW ?_
  refine vc_condF rfl (by simp [h]) ?_
  refine vc_seq ?_
  refine vc_regionW (qm 3) [0, 1] rfl rfl ?_
  refine vq rfl rfl (q_eq rfl rfl) ?_
  refine vq rfl rfl (q_assign rfl) ?_
  refine vendW ?_
  refine vc_condF rfl (by simp [h]) ?_
  refine vc_seq ?_
  refine vc_regionW (qm 3) [0, 1] rfl rfl ?_
  refine vq rfl rfl (q_eq rfl rfl) ?_
  refine vq rfl rfl (q_assign rfl) ?_
  refine vendW ?_
  refine vc_condF rfl (by simp [h]) ?_
  refine vc_seq ?_
  refine vc_seq ?_
  refine vc_regionW (qm 3) [0, 1] rfl rfl ?_
  refine vq rfl rfl (q_eq rfl rfl) ?_
  refine vq rfl rfl (q_assign rfl) ?_
  refine vendW ?_
  refine vc_condF rfl (by simp [h]) ?_
  refine vc_seq ?_
  refine vc_regionW (qm 3) [0, 1] rfl rfl ?_
  refine vq rfl rfl (q_eq rfl rfl) ?_
  refine vq rfl rfl (q_assign rfl) ?_
  refine vendW ?_
  refine vc_condF rfl (by simp [h]) ?_
  refine vc_regionW (qm 3) [0, 1] rfl rfl ?_
  refine vq rfl rfl (q_eq rfl rfl) ?_
  refine vq rfl rfl (q_assign rfl) ?_
  refine vendW ?_
  refine vc_condF rfl (by simp [h]) ?_
  refine vc_seq ?_
  refine vc_regionW (qm 3) [0, 1] rfl rfl ?_
  refine vq rfl rfl (q_eq rfl rfl) ?_
  refine vq rfl rfl (q_assign rfl) ?_
  refine vendW ?_
  refine vc_condT rfl (by simp [h]) ?_
  refine vc_seq ?_
  refine vc_regionW (qm 1) [0, 1] rfl rfl ?_
  refine vq rfl rfl (q_loadA ag89 rfl rfl) ?_
  refine vn rfl rfl (e_storeN sz89 rfl rfl rfl rfl (upd_same _ _ _) rfl ?_)
  refine vendW ?_
  refine vc_ret ?_
  exact retC rfl ag89 rfl (upd_same _ _ _) rfl (Le.new2 hk2) (Cv.le (Le.new2 hk2) _) hk
theorem plain_o {x : Nd} {s : St} {K : AV → St → Prop} (h : x.k ≠ 0 ∧ x.k ≠ 2 ∧ x.k ≠ 7 ∧ x.k ≠ 3 ∧ x.k ≠ 4 ∧ x.k ≠ 5 ∧ x.k ≠ 6) (hk : K (.agg (ndR ⟨x.k, 0, 0, 0⟩)) s) : CallsA Try.prog 165 [.agg (ndR x)] s K := by
  refine callsA_of Try.func165 rfl rfl (Nat.le_of_ble_eq_true rfl) ?_
  refine vc_seq ?_
  refine vc_regionW (qm 1) [0, 1] rfl rfl ?_
  refine vq rfl rfl (q_box rfl rfl) ?_
  refine ve rfl rfl (e_alloc zr89 (fun k2 hk2 => ?_))
  refine vendW ?_
  refine vc_seq ?_
  refine vc_seq ?_
  refine vc_regionW (qm 3) [0, 1] rfl rfl ?_
  refine vq rfl rfl (q_field fo89_0 rfl (Nat.le_of_ble_eq_true rfl)) ?_
  refine vq rfl rfl (q_load sc3 rfl) ?_
  refine vendW ?_
  refine vc_block ?_
  refine vc_seq ?_
  refine vc_regionW (qm 3) [0, 1] rfl rfl ?_
  refine vq rfl rfl (q_eq rfl rfl) ?_
  refine vq rfl rfl (q_assign rfl) ?_
  refine vendW ?_
  refine vc_condF rfl (by simp [h]) ?_
  refine vc_seq ?_
  refine vc_regionW (qm 3) [0, 1] rfl rfl ?_
  refine vq rfl rfl (q_eq rfl rfl) ?_
  refine vq rfl rfl (q_assign rfl) ?_
  refine vendW ?_
  refine vc_condF rfl (by simp [h]) ?_
  refine vc_seq ?_
  refine vc_regionW (qm 3) [0, 1] rfl rfl ?_
  refine vq rfl rfl (q_eq rfl rfl) ?_
  refine vq rfl rfl (q_assign rfl) ?_
  refine vendW ?_
  refine vc_condF rfl (by simp [h]) ?_
  refine vc_seq ?_
  refine vc_seq ?_
  refine vc_regionW (qm 3) [0, 1] rfl rfl ?_
  refine vq rfl rfl (q_eq rfl rfl) ?_
  refine vq rfl rfl (q_assign rfl) ?_
  refine vendW ?_
  refine vc_condF rfl (by simp [h]) ?_
  refine vc_seq ?_
  refine vc_regionW (qm 3) [0, 1] rfl rfl ?_
  refine vq rfl rfl (q_eq rfl rfl) ?_
  refine vq rfl rfl (q_assign rfl) ?_
  refine vendW ?_
  refine vc_condF rfl (by simp [h]) ?_
  refine vc_regionW (qm 3) [0, 1] rfl rfl ?_
  refine vq rfl rfl (q_eq rfl rfl) ?_
  refine vq rfl rfl (q_assign rfl) ?_
  refine vendW ?_
  refine vc_condF rfl (by simp [h]) ?_
  refine vc_seq ?_
  refine vc_regionW (qm 3) [0, 1] rfl rfl ?_
  refine vq rfl rfl (q_eq rfl rfl) ?_
  refine vq rfl rfl (q_assign rfl) ?_
  refine vendW ?_
  refine vc_condF rfl (by simp [h]) ?_
  refine vc_skip ?_
  refine vc_seq ?_
  refine vc_regionW (qm 7) [0, 1, 2, 3] rfl rfl ?_
  refine vq rfl rfl (q_field fo89_0 rfl (Nat.le_of_ble_eq_true rfl)) ?_
  refine vq rfl rfl (q_load sc3 rfl) ?_
  refine vq rfl rfl (q_build pl89 zr89 rfl rfl) ?_
  refine vn rfl rfl (e_storeN sz89 rfl rfl rfl rfl (upd_same _ _ _) rfl ?_)
  refine vendW ?_
  refine vc_ret ?_
  exact retC rfl ag89 rfl (upd_same _ _ _) rfl (Le.new2 hk2) (Cv.le (Le.new2 hk2) _) hk
theorem plain {x : Nd} {s : St} {K : AV → St → Prop} (hk : K (.agg (ndR (plainN x))) s) : CallsA Try.prog 165 [.agg (ndR x)] s K := by
  by_cases h0 : x.k = 0
  · exact plain_0 h0 (by simpa [plainN, h0] using hk)
  by_cases h7 : x.k = 7
  · exact plain_7 h7 (by simpa [plainN, h7] using hk)
  by_cases h2 : x.k = 2
  · exact plain_2 h2 (by simpa [plainN, h2] using hk)
  by_cases h3 : x.k = 3
  · exact plain_3 h3 (by simpa [plainN, h3] using hk)
  by_cases h4 : x.k = 4
  · exact plain_4 h4 (by simpa [plainN, h4] using hk)
  by_cases h5 : x.k = 5
  · exact plain_5 h5 (by simpa [plainN, h5] using hk)
  by_cases h6 : x.k = 6
  · exact plain_6 h6 (by simpa [plainN, h6] using hk)
  exact plain_o ⟨h0, h2, h7, h3, h4, h5, h6⟩ (by simpa [plainN, h0, h2, h7, h3, h4, h5, h6] using hk)
theorem beyond1 {n : Net} {i : Int} {s : St} {K : AV → St → Prop} (hn : n.nodes.length < 2^50) (hk : K (.bool (beyond n.nodes.length i)) s) : CallsA Try.prog 164 [.int i, .box (netR n)] s K := by
  refine callsA_of Try.func164 rfl rfl (Nat.le_of_ble_eq_true rfl) ?_
  refine vc_seq ?_
  refine vc_regionW (qm 1) [0] rfl rfl ?_
  refine vq rfl rfl (q_assign rfl) ?_
  refine vendW ?_
  refine vc_seq ?_
  refine vc_regionW (qm 1023) [0, 1, 2, 3, 4, 5, 6, 7, 8, 9] rfl rfl ?_
  refine vq rfl rfl (q_move rfl) ?_
  refine vq rfl rfl (q_lt rfl rfl) ?_
  refine vq rfl rfl (q_move rfl) ?_
  refine vgrp [3, 4, 5, 6, 7, 8] [9] [7, 8, 9, 10, 11] 12 (.v (.bool (decide (i < 0) || decide ((n.nodes.length : Int) ≤ i)))) ?_ ?_
  ·
    by_cases hg2 : i < 0
    ·
      refine g_skip rfl rfl rfl (by first | (rw [decide_eq_true hg2]; simp; done) | (intro e; have e2 := Value.bool.inj e; rw [decide_eq_true hg2] at e2; cases e2; done) | (simp [hg2]; done) | simp_all) ?_
      refine g_skip rfl rfl rfl (by first | (rw [decide_eq_true hg2]; simp; done) | (intro e; have e2 := Value.bool.inj e; rw [decide_eq_true hg2] at e2; cases e2; done) | (simp [hg2]; done) | simp_all) ?_
      refine g_skip rfl rfl rfl (by first | (rw [decide_eq_true hg2]; simp; done) | (intro e; have e2 := Value.bool.inj e; rw [decide_eq_true hg2] at e2; cases e2; done) | (simp [hg2]; done) | simp_all) ?_
      refine g_skip rfl rfl rfl (by first | (rw [decide_eq_true hg2]; simp; done) | (intro e; have e2 := Value.bool.inj e; rw [decide_eq_true hg2] at e2; cases e2; done) | (simp [hg2]; done) | simp_all) ?_
      refine g_skip rfl rfl rfl (by first | (rw [decide_eq_true hg2]; simp; done) | (intro e; have e2 := Value.bool.inj e; rw [decide_eq_true hg2] at e2; cases e2; done) | (simp [hg2]; done) | simp_all) ?_
      refine vq rfl rfl (q_pickT rfl (by first | exact (decide_eq_true hg2) | exact hg2 | (simp [hg2]; done) | simp_all) rfl) ?_
      refine vendW ⟨rfl, congrArg (fun b => some (AV.v (Value.bool b))) (by first | (simp only [decide_eq_true hg2]; done) | (simp only [decide_eq_true hg2]; rfl) | (simp [hg2]; done) | simp_all), ?_⟩
      repeat (first | exact Same.refl | refine Same.upd rfl ?_)
    ·
      refine gq_run rfl rfl rfl rfl (by first | exact congrArg Value.bool (decide_eq_false hg2) | (rw [decide_eq_false hg2]; done) | (simp [hg2]; done) | simp_all) (q_move rfl) ?_
      refine gq_run rfl rfl rfl rfl (by first | exact congrArg Value.bool (decide_eq_false hg2) | (rw [decide_eq_false hg2]; done) | (simp [hg2]; done) | simp_all) (q_field fo25_0 rfl (Nat.le_of_ble_eq_true rfl)) ?_
      refine gq_run rfl rfl rfl rfl (by first | exact congrArg Value.bool (decide_eq_false hg2) | (rw [decide_eq_false hg2]; done) | (simp [hg2]; done) | simp_all) (q_load sc22 rfl) ?_
      refine gq_run rfl rfl rfl rfl (by first | exact congrArg Value.bool (decide_eq_false hg2) | (rw [decide_eq_false hg2]; done) | (simp [hg2]; done) | simp_all) (q_len sl22 rfl (by first | exact lenM | rfl)) ?_
      refine gq_run rfl rfl rfl rfl (by first | exact congrArg Value.bool (decide_eq_false hg2) | (rw [decide_eq_false hg2]; done) | (simp [hg2]; done) | simp_all) (q_ge rfl rfl) ?_
      refine vq rfl rfl (q_pickF rfl (by first | exact (decide_eq_false hg2) | exact hg2 | (simp [hg2]; done) | simp_all) rfl) ?_
      refine vendW ⟨rfl, congrArg (fun b => some (AV.v (Value.bool b))) (by first | (simp only [decide_eq_false hg2]; done) | (simp only [decide_eq_false hg2]; rfl) | (simp [hg2]; done) | simp_all), ?_⟩
      repeat (first | exact Same.refl | refine Same.upd rfl ?_)
  refine vq rfl rfl (q_assign rfl) ?_
  refine vendW ?_
  refine vc_ret ?_
  exact ret1 rfl rfl (Le.refl _) (Cv.le (Le.refl _) _) hk
theorem beyond2 {n : Net} {p : Pt} {s : St} {K : AV → St → Prop} (hn : n.nodes.length < 2^50) (hb : p.bits.length < 2^40) (hk : K (.bool (badPort n.nodes.length p)) s) : CallsA Try.prog 167 [.agg (ptR p), .box [.clo 164 [] [.box (netR n)]]] s K := by
  refine callsA_of Try.func167 rfl rfl (Nat.le_of_ble_eq_true rfl) ?_
  refine vc_seq ?_
  refine vc_regionW (qm 3) [0, 1] rfl rfl ?_
  refine vq rfl rfl (q_box rfl rfl) ?_
  refine vq rfl rfl (q_assign rfl) ?_
  refine vendW ?_
  refine vc_seq ?_
  refine vc_regionW (qm 2047) [0, 1, 2, 3, 4, 5, 6, 7, 8, 9, 10] rfl rfl ?_
  refine vq rfl rfl (q_field fo91_1 rfl (Nat.le_of_ble_eq_true rfl)) ?_
  refine vq rfl rfl (q_load sc40 rfl) ?_
  refine vq rfl rfl (q_len sl40 rfl (by first | exact lenM | rfl)) ?_
  refine vq rfl rfl (q_eq rfl rfl) ?_
  refine vq rfl rfl (q_move rfl) ?_
  refine vgrp [5, 6, 7, 8, 9] [10] [9, 10, 11, 12] 13 (.v (.bool (decide ((p.bits.length : Int) = 0) || p.bits.any (beyond n.nodes.length)))) ?_ ?_
  ·
    by_cases hg4 : (p.bits.length : Int) = 0
    ·
      refine g_skip rfl rfl rfl (by first | (rw [decide_eq_true hg4]; simp; done) | (intro e; have e2 := Value.bool.inj e; rw [decide_eq_true hg4] at e2; cases e2; done) | (simp [hg4]; done) | simp_all) ?_
      refine g_skip rfl rfl rfl (by first | (rw [decide_eq_true hg4]; simp; done) | (intro e; have e2 := Value.bool.inj e; rw [decide_eq_true hg4] at e2; cases e2; done) | (simp [hg4]; done) | simp_all) ?_
      refine g_skip rfl rfl rfl (by first | (rw [decide_eq_true hg4]; simp; done) | (intro e; have e2 := Value.bool.inj e; rw [decide_eq_true hg4] at e2; cases e2; done) | (simp [hg4]; done) | simp_all) ?_
      refine g_skip rfl rfl rfl (by first | (rw [decide_eq_true hg4]; simp; done) | (intro e; have e2 := Value.bool.inj e; rw [decide_eq_true hg4] at e2; cases e2; done) | (simp [hg4]; done) | simp_all) ?_
      refine vq rfl rfl (q_pickT rfl (by first | exact (decide_eq_true hg4) | exact hg4 | (simp [hg4]; done) | simp_all) rfl) ?_
      refine vendW ⟨rfl, congrArg (fun b => some (AV.v (Value.bool b))) (by first | (simp only [decide_eq_true hg4]; done) | (simp only [decide_eq_true hg4]; rfl) | (simp [hg4]; done) | simp_all), ?_⟩
      repeat (first | exact Same.refl | refine Same.upd rfl ?_)
    ·
      refine gq_run rfl rfl rfl rfl (by first | exact congrArg Value.bool (decide_eq_false hg4) | (rw [decide_eq_false hg4]; done) | (simp [hg4]; done) | simp_all) (q_field fo91_1 rfl (Nat.le_of_ble_eq_true rfl)) ?_
      refine gq_run rfl rfl rfl rfl (by first | exact congrArg Value.bool (decide_eq_false hg4) | (rw [decide_eq_false hg4]; done) | (simp [hg4]; done) | simp_all) (q_load sc40 rfl) ?_
      refine gq_run rfl rfl rfl rfl (by first | exact congrArg Value.bool (decide_eq_false hg4) | (rw [decide_eq_false hg4]; done) | (simp [hg4]; done) | simp_all) (q_load sc214 rfl) ?_
      refine gq_run rfl rfl rfl rfl (by first | exact congrArg Value.bool (decide_eq_false hg4) | (rw [decide_eq_false hg4]; done) | (simp [hg4]; done) | simp_all) (q_callF go166 rfl (fun s => containsI (by omega) go164 (fun i _ K hk => beyond1 hn hk) ⟨rfl, rfl⟩)) ?_
      refine vq rfl rfl (q_pickF rfl (by first | exact (decide_eq_false hg4) | exact hg4 | (simp [hg4]; done) | simp_all) rfl) ?_
      refine vendW ⟨rfl, congrArg (fun b => some (AV.v (Value.bool b))) (by first | (simp only [decide_eq_false hg4]; done) | (simp only [decide_eq_false hg4]; rfl) | (simp [hg4]; done) | simp_all), ?_⟩
      repeat (first | exact Same.refl | refine Same.upd rfl ?_)
  refine vq rfl rfl (q_assign rfl) ?_
  refine vendW ?_
  refine vc_ret ?_
  have e : decide ((p.bits.length : Int) = 0) = decide (p.bits.length = 0) := by by_cases hh : p.bits.length = 0 <;> simp [hh]
  unfold badPort at hk
  rw [← e] at hk
  exact ret1 rfl rfl (Le.refl _) (Cv.le (Le.refl _) _) hk
theorem formless {n : Net} {s : St} {K : AV → St → Prop} (hn : n.nodes.length < 2^40) (hp : n.ins.length + n.outs.length < 2^40) (hb : ∀ p ∈ n.ins ++ n.outs, p.bits.length < 2^40) (hk : K (.bool (formlessN n)) s) : CallsA Try.prog 125 [netA n] s K := by
  refine callsA_of Try.func125 rfl rfl (Nat.le_of_ble_eq_true rfl) ?_
  refine vc_seq ?_
  refine vc_regionW (qm 3) [0, 1] rfl rfl ?_
  refine vq rfl rfl (q_box rfl rfl) ?_
  refine vq rfl rfl (q_assign rfl) ?_
  refine vendW ?_
  refine vc_seq ?_
  refine vc_regionW (qm 1) [0, 1, 2] rfl rfl ?_
  refine vq rfl rfl (q_makeFunc rfl rfl) ?_
  refine ve rfl rfl (e_alloc zr214 (fun k3 hk3 => ?_))
  refine vn rfl rfl (e_store sz214 rfl rfl rfl (upd_same _ _ _) rfl ?_)
  refine vendW ?_
  refine vc_frzC (i := 3) hk3 (upd_upd _ _ _ _) rfl ?_
  refine vc_seq ?_
  refine vc_seq ?_
  refine vc_regionW (qm 15) [0, 1, 2, 3] rfl rfl ?_
  refine vq rfl rfl (q_field fo25_0 rfl (Nat.le_of_ble_eq_true rfl)) ?_
  refine vq rfl rfl (q_load sc22 rfl) ?_
  refine vq rfl rfl (q_len sl22 rfl (by first | exact lenM | rfl)) ?_
  refine vq rfl rfl (q_move rfl) ?_
  refine vendW ?_
  refine vc_block ?_
  refine vc_loopS (α := Nat) [2, 5, 10, 11, 12, 13, 14, 15, 16, 17, 18, 19, 20, 21, 22, 23, 24, 25, 26, 27, 28, 29, 30, 31, 32, 33, 34] (fun i => [(10, .int (i : Int))]) (fun i => s) (fun i => i ≤ n.nodes.length ∧ ∀ j, j < i → badNode n.nodes.length (n.nodes.getD j default) = false) (fun i => n.nodes.length - i) 0 ⟨by simp, by simp⟩ rfl ⟨rfl, trivial⟩ (fun _ => rfl) ?_
  intro i hok
  refine vc_seq ?_
  refine vc_regionW (qm 1) [0] rfl rfl ?_
  refine vq rfl rfl (q_lt rfl rfl) ?_
  refine vendW ?_
  refine vc_seq ?_
  refine vc_condD rfl (fun h => ?_) (fun h => ?_)
  ·
    refine vc_skip ?_
    refine vc_seq ?_
    refine vc_block ?_
    refine vc_seq ?_
    refine vc_regionW (qm 3) [0, 1, 2, 3] rfl rfl ?_
    refine vq rfl rfl (q_index sl22 rfl rfl (by omega) (by first | exact nthI (by omega) | exact nthM (by omega))) ?_
    refine vq rfl rfl (q_loadA ag89 rfl rfl) ?_
    refine ve rfl rfl (e_alloc zr89 (fun k5 hk5 => ?_))
    refine vn rfl rfl (e_storeN sz89 rfl rfl rfl rfl (upd_same _ _ _) rfl ?_)
    refine vendW ?_
    refine vc_frzC (i := 5) hk5 (upd_upd _ _ _ _) rfl ?_
    refine vc_seq ?_
    refine vc_regionDW mx (qm 1048575) [0, 1, 2, 3, 4, 5, 6, 7, 8, 9, 10, 11, 12, 13, 14, 15, 16, 17, 18, 19] (by kernel_rfl) ?_
    refine vq rfl rfl (q_field fo89_0 rfl (Nat.le_of_ble_eq_true rfl)) ?_
    refine vq rfl rfl (q_load sc3 rfl) ?_
    refine vq rfl rfl (q_lt rfl rfl) ?_
    refine vq rfl rfl (q_move rfl) ?_
    refine vgrp [4, 5, 6, 7] [8, 9, 10, 11, 12, 13, 14, 15, 16, 17, 18, 19] [18, 19, 20] 21 (.v (.bool (decide ((n.nodes.getD i default).k < 0) || decide (8 ≤ (n.nodes.getD i default).k)))) ?_ ?_
    ·
      by_cases hg3 : (n.nodes.getD i default).k < 0
      ·
        refine g_skip rfl rfl rfl (by first | (rw [decide_eq_true hg3]; simp; done) | (intro e; have e2 := Value.bool.inj e; rw [decide_eq_true hg3] at e2; cases e2; done) | (simp [hg3]; done) | simp_all) ?_
        refine g_skip rfl rfl rfl (by first | (rw [decide_eq_true hg3]; simp; done) | (intro e; have e2 := Value.bool.inj e; rw [decide_eq_true hg3] at e2; cases e2; done) | (simp [hg3]; done) | simp_all) ?_
        refine g_skip rfl rfl rfl (by first | (rw [decide_eq_true hg3]; simp; done) | (intro e; have e2 := Value.bool.inj e; rw [decide_eq_true hg3] at e2; cases e2; done) | (simp [hg3]; done) | simp_all) ?_
        refine vq rfl rfl (q_pickT rfl (by first | exact (decide_eq_true hg3) | exact hg3 | (simp [hg3]; done) | simp_all) rfl) ?_
        refine vendW ⟨rfl, congrArg (fun b => some (AV.v (Value.bool b))) (by first | (simp only [decide_eq_true hg3]; done) | (simp only [decide_eq_true hg3]; rfl) | (simp [hg3]; done) | simp_all), ?_⟩
        repeat (first | exact Same.refl | refine Same.upd rfl ?_)
      ·
        refine gq_run rfl rfl rfl rfl (by first | exact congrArg Value.bool (decide_eq_false hg3) | (rw [decide_eq_false hg3]; done) | (simp [hg3]; done) | simp_all) (q_field fo89_0 rfl (Nat.le_of_ble_eq_true rfl)) ?_
        refine gq_run rfl rfl rfl rfl (by first | exact congrArg Value.bool (decide_eq_false hg3) | (rw [decide_eq_false hg3]; done) | (simp [hg3]; done) | simp_all) (q_load sc3 rfl) ?_
        refine gq_run rfl rfl rfl rfl (by first | exact congrArg Value.bool (decide_eq_false hg3) | (rw [decide_eq_false hg3]; done) | (simp [hg3]; done) | simp_all) (q_ge rfl rfl) ?_
        refine vq rfl rfl (q_pickF rfl (by first | exact (decide_eq_false hg3) | exact hg3 | (simp [hg3]; done) | simp_all) rfl) ?_
        refine vendW ⟨rfl, congrArg (fun b => some (AV.v (Value.bool b))) (by first | (simp only [decide_eq_false hg3]; done) | (simp only [decide_eq_false hg3]; rfl) | (simp [hg3]; done) | simp_all), ?_⟩
        repeat (first | exact Same.refl | refine Same.upd rfl ?_)
    refine vq rfl rfl (q_move rfl) ?_
    refine vgrp [9, 10, 11, 12, 13] [14, 15, 16, 17, 18, 19] [23, 24, 25, 26] 27 (.v (.bool ((decide ((n.nodes.getD i default).k < 0) || decide (8 ≤ (n.nodes.getD i default).k)) || !decide (ndL (plainN (n.nodes.getD i default)) = ndL (n.nodes.getD i default))))) ?_ ?_
    ·
      by_cases hg8 : (decide ((n.nodes.getD i default).k < 0) || decide (8 ≤ (n.nodes.getD i default).k)) = true
      ·
        refine g_skip rfl rfl rfl (by first | (rw [hg8]; simp; done) | (intro e; have e2 := Value.bool.inj e; rw [hg8] at e2; cases e2; done) | (simp [hg8]; done) | simp_all) ?_
        refine g_skip rfl rfl rfl (by first | (rw [hg8]; simp; done) | (intro e; have e2 := Value.bool.inj e; rw [hg8] at e2; cases e2; done) | (simp [hg8]; done) | simp_all) ?_
        refine g_skip rfl rfl rfl (by first | (rw [hg8]; simp; done) | (intro e; have e2 := Value.bool.inj e; rw [hg8] at e2; cases e2; done) | (simp [hg8]; done) | simp_all) ?_
        refine g_skip rfl rfl rfl (by first | (rw [hg8]; simp; done) | (intro e; have e2 := Value.bool.inj e; rw [hg8] at e2; cases e2; done) | (simp [hg8]; done) | simp_all) ?_
        refine vq rfl rfl (q_pickT rfl (by first | exact hg8 | exact hg8 | (simp [hg8]; done) | simp_all) rfl) ?_
        refine vendW ⟨rfl, congrArg (fun b => some (AV.v (Value.bool b))) (by first | (simp only [hg8]; done) | (simp only [hg8]; rfl) | (simp [hg8]; done) | simp_all), ?_⟩
        repeat (first | exact Same.refl | refine Same.upd rfl ?_)
      ·
        refine gq_run rfl rfl rfl rfl (congrArg Value.bool (eq_false_of_ne_true hg8)) (q_loadA ag89 rfl rfl) ?_
        refine gq_run rfl rfl rfl rfl (congrArg Value.bool (eq_false_of_ne_true hg8)) (q_callF go165 rfl (fun s => plain ⟨rfl, rfl⟩)) ?_
        refine gq_run rfl rfl rfl rfl (congrArg Value.bool (eq_false_of_ne_true hg8)) (q_loadA ag89 rfl rfl) ?_
        refine gq_run rfl rfl rfl rfl (congrArg Value.bool (eq_false_of_ne_true hg8)) (q_neN si89 rfl rfl (ms := ndL (plainN (n.nodes.getD i default))) (ns := ndL (n.nodes.getD i default)) rfl rfl rfl rfl) ?_
        refine vq rfl rfl (q_pickF rfl (by first | exact (eq_false_of_ne_true hg8) | exact hg8 | (simp [hg8]; done) | simp_all) rfl) ?_
        refine vendW ⟨rfl, congrArg (fun b => some (AV.v (Value.bool b))) (by first | (simp only [eq_false_of_ne_true hg8]; done) | (simp only [eq_false_of_ne_true hg8]; rfl) | (simp [hg8]; done) | simp_all), ?_⟩
        repeat (first | exact Same.refl | refine Same.upd rfl ?_)
    refine vq rfl rfl (q_move rfl) ?_
    refine vgrp [15, 16, 17, 18, 19] [] [29, 30, 31, 32] 33 (.v (.bool (((decide ((n.nodes.getD i default).k < 0) || decide (8 ≤ (n.nodes.getD i default).k)) || !decide (ndL (plainN (n.nodes.getD i default)) = ndL (n.nodes.getD i default))) || (usesN (n.nodes.getD i default)).any (beyond n.nodes.length)))) ?_ ?_
    ·
      by_cases hg14 : ((decide ((n.nodes.getD i default).k < 0) || decide (8 ≤ (n.nodes.getD i default).k)) || !decide (ndL (plainN (n.nodes.getD i default)) = ndL (n.nodes.getD i default))) = true
      ·
        refine g_skip rfl rfl rfl (by first | (rw [hg14]; simp; done) | (intro e; have e2 := Value.bool.inj e; rw [hg14] at e2; cases e2; done) | (simp [hg14]; done) | simp_all) ?_
        refine g_skip rfl rfl rfl (by first | (rw [hg14]; simp; done) | (intro e; have e2 := Value.bool.inj e; rw [hg14] at e2; cases e2; done) | (simp [hg14]; done) | simp_all) ?_
        refine g_skip rfl rfl rfl (by first | (rw [hg14]; simp; done) | (intro e; have e2 := Value.bool.inj e; rw [hg14] at e2; cases e2; done) | (simp [hg14]; done) | simp_all) ?_
        refine g_skip rfl rfl rfl (by first | (rw [hg14]; simp; done) | (intro e; have e2 := Value.bool.inj e; rw [hg14] at e2; cases e2; done) | (simp [hg14]; done) | simp_all) ?_
        refine vq rfl rfl (q_pickT rfl (by first | exact hg14 | exact hg14 | (simp [hg14]; done) | simp_all) rfl) ?_
        refine vendW ⟨rfl, congrArg (fun b => some (AV.v (Value.bool b))) (by first | (simp only [hg14]; done) | (simp only [hg14]; rfl) | (simp [hg14]; done) | simp_all), ?_⟩
        repeat (first | exact Same.refl | refine Same.upd rfl ?_)
      ·
        refine gq_run rfl rfl rfl rfl (congrArg Value.bool (eq_false_of_ne_true hg14)) (q_loadA ag89 rfl rfl) ?_
        refine gq_run rfl rfl rfl rfl (congrArg Value.bool (eq_false_of_ne_true hg14)) (q_callF go78 rfl (fun s => uses ⟨rfl, rfl⟩)) ?_
        refine gq_run rfl rfl rfl rfl (congrArg Value.bool (eq_false_of_ne_true hg14)) (q_load sc214 rfl) ?_
        refine gq_run rfl rfl rfl rfl (congrArg Value.bool (eq_false_of_ne_true hg14)) (q_callF go166 rfl (fun s => containsI (by have := usesN_len (n.nodes.getD i default); omega) go164 (fun i _ K hk => beyond1 (by omega) hk) ⟨rfl, rfl⟩)) ?_
        refine vq rfl rfl (q_pickF rfl (by first | exact (eq_false_of_ne_true hg14) | exact hg14 | (simp [hg14]; done) | simp_all) rfl) ?_
        refine vendW ⟨rfl, congrArg (fun b => some (AV.v (Value.bool b))) (by first | (simp only [eq_false_of_ne_true hg14]; done) | (simp only [eq_false_of_ne_true hg14]; rfl) | (simp [hg14]; done) | simp_all), ?_⟩
        repeat (first | exact Same.refl | refine Same.upd rfl ?_)
    refine vendW ?_
    refine vc_cond rfl (fun h => ?_) (fun h => ?_)
    ·
      refine vc_seq ?_
      refine vc_regionW (qm 1) [0] rfl rfl ?_
      refine vq rfl rfl (q_assign rfl) ?_
      refine vendW ?_
      refine vc_ret ?_
      have e : formlessN n = true := by unfold formlessN; rw [any_some (i := i) (by omega) (by rw [badNode_eq]; exact h)]; rfl
      rw [e] at hk
      exact ret1 rfl rfl (Le.refl _) (Cv.le (Le.refl _) _) hk
    refine vc_skip ?_
    refine vc_regionW (qm 3) [0, 1] rfl rfl ?_
    refine vq rfl rfl (q_add rfl rfl (w64 (by omega))) ?_
    refine vq rfl rfl (q_move rfl) ?_
    refine vendW ?_
    refine ⟨i + 1, ⟨by omega, fun j hj => by by_cases e : j = i; (· subst e; exact (by rw [badNode_eq]; exact h)); (· exact hok.2 j (by omega))⟩, by omega, ?_, ⟨rfl, trivial⟩, rfl⟩
    repeat (first | exact Same.refl | refine Same.upd rfl ?_ | refine Same.drop rfl ?_)
  refine vc_exit ?_
  refine vc_seq ?_
  refine vc_regionW (qm 31) [0, 1, 2, 3, 4] rfl rfl ?_
  refine vq rfl rfl (q_loadA ag25 rfl rfl) ?_
  refine vq rfl rfl (q_callF go127 rfl (fun s => portsN hp ⟨rfl, rfl⟩)) ?_
  refine vq rfl rfl (q_makeFunc rfl rfl) ?_
  refine vq rfl rfl (q_callF go126 rfl (fun s => containsP (by simp; omega) go167 (fun i hi K hk => beyond2 (by omega) (hb _ (getD_mem hi)) hk) ⟨rfl, rfl⟩)) ?_
  refine vq rfl rfl (q_assign rfl) ?_
  refine vendW ?_
  refine vc_ret ?_
  have e : formlessN n = (n.ins ++ n.outs).any (badPort n.nodes.length) := by unfold formlessN; rw [any_none fun j hj => hok.2 j (by omega)]; rfl
  rw [e] at hk
  exact ret1 rfl rfl (Le.refl _) (Cv.le (Le.refl _) _) hk
end Go.Proofs.Ytpcpdepfnoijoaa

set_option linter.unusedVariables false
set_option maxRecDepth 100000
namespace Go.Proofs.Ytpcpdepfnoijoaa
open Go.Vc
theorem twice {l : List Pt} {s : St} {K : AV → St → Prop} (hl : l.length < 2^40) (hk : K (.bool (dupN l)) s) : CallsA Try.prog 130 [.sl 2 (l.map ptR)] s K := by
  refine callsA_of Try.func130 rfl rfl (Nat.le_of_ble_eq_true rfl) ?_
  refine vc_seq ?_
  refine vc_regionW (qm 1) [0] rfl rfl ?_
  refine vq rfl rfl (q_assign rfl) ?_
  refine vendW ?_
  refine vc_seq ?_
  refine vc_regionW (qm 2) [0, 1] rfl rfl ?_
  refine ve rfl rfl (e_makeMap (fun k hk0 => ?_))
  refine vq rfl rfl (q_assign rfl) ?_
  refine vendW ?_
  refine vc_seq ?_
  refine vc_seq ?_
  refine vc_regionW (qm 7) [0, 1, 2] rfl rfl ?_
  refine vq rfl rfl (q_move rfl) ?_
  refine vq rfl rfl (q_len sl23 rfl (by first | exact lenM | rfl)) ?_
  refine vq rfl rfl (q_move rfl) ?_
  refine vendW ?_
  refine vc_block ?_
  refine vc_loopS (α := Nat) [2, 5, 9, 10, 11, 12, 13, 14, 15, 16, 17, 18, 19, 20] (fun i => [(9, .int (i : Int))]) (fun i => (upd s k (mapR ((l.take i).map (fun p => (p.name, AV.bool true)))))) (fun i => i ≤ l.length ∧ ∀ j, j < i → hasName (l.take j) (l.getD j default).name = false) (fun i => l.length - i) 0 ⟨by simp, by simp⟩ rfl ⟨rfl, trivial⟩ (fun _ => rfl) ?_
  intro i hok
  refine vc_seq ?_
  refine vc_regionW (qm 1) [0] rfl rfl ?_
  refine vq rfl rfl (q_lt rfl rfl) ?_
  refine vendW ?_
  refine vc_seq ?_
  refine vc_condD rfl (fun h => ?_) (fun h => ?_)
  ·
    refine vc_skip ?_
    refine vc_seq ?_
    refine vc_block ?_
    refine vc_seq ?_
    refine vc_regionW (qm 3) [0, 1, 2, 3] rfl rfl ?_
    refine vq rfl rfl (q_index sl23 rfl rfl (by omega) (by first | exact nthI (by omega) | exact nthM (by omega))) ?_
    refine vq rfl rfl (q_loadA ag91 rfl rfl) ?_
    refine ve rfl rfl (e_alloc zr91 (fun k5 hk5 => ?_))
    refine vn rfl rfl (e_storeN sz91 rfl rfl rfl rfl (upd_same _ _ _) rfl ?_)
    refine vendW ?_
    refine vc_frzC (i := 5) hk5 (upd_upd _ _ _ _) rfl ?_
    refine vc_seq ?_
    refine vc_seq ?_
    refine vc_regionW (qm 7) [0, 1, 2, 3] rfl rfl ?_
    refine vq rfl rfl (q_move rfl) ?_
    refine vq rfl rfl (q_field fo91_0 rfl (Nat.le_of_ble_eq_true rfl)) ?_
    refine vq rfl rfl (q_load sc9 rfl) ?_
    refine ve rfl rfl (e_lookup mp221 pk9 zv4 rfl rfl (upd_same _ _ _) (lookName _ _) ?_)
    refine vendW ?_
    refine vc_cond rfl (fun h2 => ?_) (fun h2 => ?_)
    ·
      refine vc_seq ?_
      refine vc_regionW (qm 1) [0] rfl rfl ?_
      refine vq rfl rfl (q_assign rfl) ?_
      refine vendW ?_
      refine vc_ret ?_
      have e : dupN l = true := range_any (i := i) (by omega) h2
      rw [e] at hk
      exact ret1 rfl rfl (Le.new1 hk0) (Cv.le (Le.new1 hk0) _) hk
    refine vc_skip ?_
    refine vc_regionW (qm 7) [0, 1, 2, 3] rfl rfl ?_
    refine vq rfl rfl (q_move rfl) ?_
    refine vq rfl rfl (q_field fo91_0 rfl (Nat.le_of_ble_eq_true rfl)) ?_
    refine vq rfl rfl (q_load sc9 rfl) ?_
    refine vn rfl rfl (e_mapNew mp221 pk9 rfl rfl rfl (upd_same _ _ _) (by rw [mapGet_names, h2]; rfl) ?_)
    refine vendW ?_
    refine vc_regionW (qm 3) [0, 1] rfl rfl ?_
    refine vq rfl rfl (q_add rfl rfl (w64 (by omega))) ?_
    refine vq rfl rfl (q_move rfl) ?_
    refine vendW ?_
    refine ⟨i + 1, ⟨by omega, fun j hj => by by_cases e : j = i; (· subst e; exact h2); (· exact hok.2 j (by omega))⟩, by omega, ?_, ⟨rfl, trivial⟩, (by rw [upd_upd, map_take_succ (by omega)])⟩
    repeat (first | exact Same.refl | refine Same.upd rfl ?_ | refine Same.drop rfl ?_)
  refine vc_exit ?_
  refine vc_seq ?_
  refine vc_regionW (qm 1) [0] rfl rfl ?_
  refine vq rfl rfl (q_assign rfl) ?_
  refine vendW ?_
  refine vc_ret ?_
  have e : dupN l = false := range_none fun j hj => hok.2 j (by omega)
  rw [e] at hk
  exact ret1 rfl rfl (Le.new1 hk0) (Cv.le (Le.new1 hk0) _) hk
theorem name {b : ByteArray} {s : St} {K : AV → St → Prop} (hb : b.size < 2^40) (hk : K (.bool (nameN b)) s) : CallsA Try.prog 129 [.v (.string b)] s K := by
  refine callsA_of Try.func129 rfl rfl (Nat.le_of_ble_eq_true rfl) ?_
  refine vc_seq ?_
  refine vc_regionW (qm 1) [0] rfl rfl ?_
  refine vq rfl rfl (q_assign rfl) ?_
  refine vendW ?_
  refine vc_seq ?_
  refine vc_seq ?_
  refine vc_regionW (qm 4095) [0, 1, 2, 3, 4, 5, 6, 7, 8, 9, 10, 11] rfl rfl ?_
  refine vq rfl rfl (q_move rfl) ?_
  refine vq rfl rfl (q_eqS rfl rfl) ?_
  refine vq rfl rfl (q_move rfl) ?_
  refine vgrp [3, 4, 5, 6] [7, 8, 9, 10, 11] [9, 10, 11] 12 (.v (.bool ((b.toList == ({ data := #[] } : ByteArray).toList) || decide (20 < (b.size : Int))))) ?_ ?_
  ·
    by_cases hg2 : (b.toList == ({ data := #[] } : ByteArray).toList) = true
    ·
      refine g_skip rfl rfl rfl (by first | (rw [hg2]; simp; done) | (intro e; have e2 := Value.bool.inj e; rw [hg2] at e2; cases e2; done) | (simp [hg2]; done) | simp_all) ?_
      refine g_skip rfl rfl rfl (by first | (rw [hg2]; simp; done) | (intro e; have e2 := Value.bool.inj e; rw [hg2] at e2; cases e2; done) | (simp [hg2]; done) | simp_all) ?_
      refine g_skip rfl rfl rfl (by first | (rw [hg2]; simp; done) | (intro e; have e2 := Value.bool.inj e; rw [hg2] at e2; cases e2; done) | (simp [hg2]; done) | simp_all) ?_
      refine vq rfl rfl (q_pickT rfl (by first | exact hg2 | exact hg2 | (simp [hg2]; done) | simp_all) rfl) ?_
      refine vendW ⟨rfl, congrArg (fun b => some (AV.v (Value.bool b))) (by first | (simp only [hg2]; done) | (simp only [hg2]; rfl) | (simp [hg2]; done) | simp_all), ?_⟩
      repeat (first | exact Same.refl | refine Same.upd rfl ?_)
    ·
      refine gq_run rfl rfl rfl rfl (congrArg Value.bool (eq_false_of_ne_true hg2)) (q_move rfl) ?_
      refine gq_run rfl rfl rfl rfl (congrArg Value.bool (eq_false_of_ne_true hg2)) (q_lenS st9 rfl) ?_
      refine gq_run rfl rfl rfl rfl (congrArg Value.bool (eq_false_of_ne_true hg2)) (q_gt rfl rfl) ?_
      refine vq rfl rfl (q_pickF rfl (by first | exact (eq_false_of_ne_true hg2) | exact hg2 | (simp [hg2]; done) | simp_all) rfl) ?_
      refine vendW ⟨rfl, congrArg (fun b => some (AV.v (Value.bool b))) (by first | (simp only [eq_false_of_ne_true hg2]; done) | (simp only [eq_false_of_ne_true hg2]; rfl) | (simp [hg2]; done) | simp_all), ?_⟩
      repeat (first | exact Same.refl | refine Same.upd rfl ?_)
  refine vq rfl rfl (q_move rfl) ?_
  refine vgrp [8, 9, 10, 11] [] [14, 15, 16] 17 (.v (.bool (((b.toList == ({ data := #[] } : ByteArray).toList) || decide (20 < (b.size : Int))) || kws.any (fun k => b.toList == k.toList)))) ?_ ?_
  ·
    by_cases hg7 : ((b.toList == ({ data := #[] } : ByteArray).toList) || decide (20 < (b.size : Int))) = true
    ·
      refine g_skip rfl rfl rfl (by first | (rw [hg7]; simp; done) | (intro e; have e2 := Value.bool.inj e; rw [hg7] at e2; cases e2; done) | (simp [hg7]; done) | simp_all) ?_
      refine g_skip rfl rfl rfl (by first | (rw [hg7]; simp; done) | (intro e; have e2 := Value.bool.inj e; rw [hg7] at e2; cases e2; done) | (simp [hg7]; done) | simp_all) ?_
      refine g_skip rfl rfl rfl (by first | (rw [hg7]; simp; done) | (intro e; have e2 := Value.bool.inj e; rw [hg7] at e2; cases e2; done) | (simp [hg7]; done) | simp_all) ?_
      refine vq rfl rfl (q_pickT rfl (by first | exact hg7 | exact hg7 | (simp [hg7]; done) | simp_all) rfl) ?_
      refine vendW ⟨rfl, congrArg (fun b => some (AV.v (Value.bool b))) (by first | (simp only [hg7]; done) | (simp only [hg7]; rfl) | (simp [hg7]; done) | simp_all), ?_⟩
      repeat (first | exact Same.refl | refine Same.upd rfl ?_)
    ·
      refine gq_run rfl rfl rfl rfl (congrArg Value.bool (eq_false_of_ne_true hg7)) (q_callF go171 rfl (fun s => keywords ⟨rfl, rfl⟩)) ?_
      refine gq_run rfl rfl rfl rfl (congrArg Value.bool (eq_false_of_ne_true hg7)) (q_move rfl) ?_
      refine gq_run rfl rfl rfl rfl (congrArg Value.bool (eq_false_of_ne_true hg7)) (q_callF go170 rfl (fun s => containsS (by decide) ⟨rfl, rfl⟩)) ?_
      refine vq rfl rfl (q_pickF rfl (by first | exact (eq_false_of_ne_true hg7) | exact hg7 | (simp [hg7]; done) | simp_all) rfl) ?_
      refine vendW ⟨rfl, congrArg (fun b => some (AV.v (Value.bool b))) (by first | (simp only [eq_false_of_ne_true hg7]; done) | (simp only [eq_false_of_ne_true hg7]; rfl) | (simp [hg7]; done) | simp_all), ?_⟩
      repeat (first | exact Same.refl | refine Same.upd rfl ?_)
  refine vendW ?_
  refine vc_cond rfl (fun h1 => ?_) (fun h1 => ?_)
  ·
    refine vc_seq ?_
    refine vc_regionW (qm 1) [0] rfl rfl ?_
    refine vq rfl rfl (q_assign rfl) ?_
    refine vendW ?_
    refine vc_ret ?_
    have e : nameN b = false := by unfold nameN badName1; rw [h1]; rfl
    rw [e] at hk
    exact ret1 rfl rfl (Le.refl _) (Cv.le (Le.refl _) _) hk
  refine vc_skip ?_
  refine vc_seq ?_
  refine vc_seq ?_
  refine vc_regionW (qm 15) [0, 1, 2, 3] rfl rfl ?_
  refine vq rfl rfl (q_move rfl) ?_
  refine vq rfl rfl (q_toBytes st9 sl139 ik5 rfl (by omega)) ?_
  refine vq rfl rfl (q_len sl139 rfl (by first | exact lenM | rfl)) ?_
  refine vq rfl rfl (q_move rfl) ?_
  refine vendW ?_
  refine vc_block ?_
  refine vc_loopS (α := Nat) [2, 3, 4, 5, 21, 22, 23, 24, 25, 26, 27, 28, 29, 30, 31, 32, 33, 34, 35, 36, 37, 38, 39, 40, 41, 42, 43, 44, 45, 46, 47, 48, 49, 50] (fun i => [(21, .int (i : Int))]) (fun i => s) (fun i => i ≤ b.size ∧ ∀ j, j < i → badCh j (chA b j) = false) (fun i => b.size - i) 0 ⟨by simp, by simp⟩ rfl ⟨rfl, trivial⟩ (fun _ => rfl) ?_
  intro i hok
  have hsd := size_data b
  refine vc_seq ?_
  refine vc_regionW (qm 1) [0] rfl rfl ?_
  refine vq rfl rfl (q_lt rfl rfl) ?_
  refine vendW ?_
  refine vc_seq ?_
  refine vc_condD rfl (fun h => ?_) (fun h => ?_)
  ·
    refine vc_skip ?_
    refine vc_seq ?_
    refine vc_block ?_
    refine vc_seq ?_
    refine vc_regionW (qm 31) [0, 1, 2, 3, 4] rfl rfl ?_
    refine vq rfl rfl (q_move rfl) ?_
    refine vq rfl rfl (q_index sl139 rfl rfl (by omega) (by first | exact nthI (by omega) | exact nthM (by omega))) ?_
    refine vq rfl rfl (q_load sc5 rfl) ?_
    refine vq rfl rfl (q_assign rfl) ?_
    refine vq rfl rfl (q_assign rfl) ?_
    refine vendW ?_
    refine vc_seq ?_
    refine vc_regionW (qm 127) [0, 1, 2, 3, 4, 5, 6] rfl rfl ?_
    refine vq rfl rfl (q_move rfl) ?_
    refine vq rfl rfl (q_ge rfl rfl) ?_
    refine vq rfl rfl (q_move rfl) ?_
    refine vgrp [3, 4, 5] [6] [29, 30] 31 (.v (.bool (decide (97 ≤ chA b i) && decide (chA b i ≤ 122)))) ?_ ?_
    ·
      by_cases hg2 : 97 ≤ chA b i
      ·
        refine gq_run rfl rfl rfl rfl (by first | exact congrArg Value.bool (decide_eq_true hg2) | (rw [decide_eq_true hg2]; done) | (simp [hg2]; done) | simp_all) (q_move rfl) ?_
        refine gq_run rfl rfl rfl rfl (by first | exact congrArg Value.bool (decide_eq_true hg2) | (rw [decide_eq_true hg2]; done) | (simp [hg2]; done) | simp_all) (q_le rfl rfl) ?_
        refine vq rfl rfl (q_pickT rfl (by first | exact (decide_eq_true hg2) | exact hg2 | (simp [hg2]; done) | simp_all) rfl) ?_
        refine vendW ⟨rfl, congrArg (fun b => some (AV.v (Value.bool b))) (by first | (simp only [decide_eq_true hg2]; done) | (simp only [decide_eq_true hg2]; rfl) | (simp [hg2]; done) | simp_all), ?_⟩
        repeat (first | exact Same.refl | refine Same.upd rfl ?_)
      ·
        refine g_skip rfl rfl rfl (by first | (rw [decide_eq_false hg2]; simp; done) | (intro e; have e2 := Value.bool.inj e; rw [decide_eq_false hg2] at e2; cases e2; done) | (simp [hg2]; done) | simp_all) ?_
        refine g_skip rfl rfl rfl (by first | (rw [decide_eq_false hg2]; simp; done) | (intro e; have e2 := Value.bool.inj e; rw [decide_eq_false hg2] at e2; cases e2; done) | (simp [hg2]; done) | simp_all) ?_
        refine vq rfl rfl (q_pickF rfl (by first | exact (decide_eq_false hg2) | exact hg2 | (simp [hg2]; done) | simp_all) rfl) ?_
        refine vendW ⟨rfl, congrArg (fun b => some (AV.v (Value.bool b))) (by first | (simp only [decide_eq_false hg2]; done) | (simp only [decide_eq_false hg2]; rfl) | (simp [hg2]; done) | simp_all), ?_⟩
        repeat (first | exact Same.refl | refine Same.upd rfl ?_)
    refine vq rfl rfl (q_assign rfl) ?_
    refine vendW ?_
    refine vc_seq ?_
    refine vc_regionW (qm 262143) [0, 1, 2, 3, 4, 5, 6, 7, 8, 9, 10, 11, 12, 13, 14, 15, 16, 17] rfl rfl ?_
    refine vq rfl rfl (q_move rfl) ?_
    refine vq rfl rfl (q_not rfl) ?_
    refine vq rfl rfl (q_move rfl) ?_
    refine vgrp [3, 4, 5, 6, 7, 8, 9, 10, 11, 12, 13, 14, 15, 16, 17] [] [35, 36, 37, 38, 39, 40, 41, 42, 43, 44, 45, 46, 47, 48] 49 (.v (.bool (!(decide (97 ≤ chA b i) && decide (chA b i ≤ 122)) && (decide ((i : Int) = 0) || (decide (chA b i ≠ 95) && (decide (chA b i < 48) || decide (57 < chA b i))))))) ?_ ?_
    ·
      by_cases hg2 : (!(decide (97 ≤ chA b i) && decide (chA b i ≤ 122))) = true
      ·
        refine gq_run rfl rfl rfl rfl (congrArg Value.bool hg2) (q_move rfl) ?_
        refine gq_run rfl rfl rfl rfl (congrArg Value.bool hg2) (q_eq rfl rfl) ?_
        refine gq_run rfl rfl rfl rfl (congrArg Value.bool hg2) (q_move rfl) ?_
        by_cases hg5 : (i : Int) = 0
        ·
          refine g_skip rfl rfl rfl (by first | (rw [decide_eq_true hg5]; simp; done) | (intro e; have e2 := Value.bool.inj e; rw [decide_eq_true hg5] at e2; cases e2; done) | (simp [hg5]; done) | simp_all) ?_
          refine g_skip rfl rfl rfl (by first | (rw [decide_eq_true hg5]; simp; done) | (intro e; have e2 := Value.bool.inj e; rw [decide_eq_true hg5] at e2; cases e2; done) | (simp [hg5]; done) | simp_all) ?_
          refine g_skip rfl rfl rfl (by first | (rw [decide_eq_true hg5]; simp; done) | (intro e; have e2 := Value.bool.inj e; rw [decide_eq_true hg5] at e2; cases e2; done) | (simp [hg5]; done) | simp_all) ?_
          refine g_skip rfl rfl rfl (by simp [undef]) ?_
          refine g_skip rfl rfl rfl (by simp [undef]) ?_
          refine g_skip rfl rfl rfl (by simp [undef]) ?_
          refine g_skip rfl rfl rfl (by simp [undef]) ?_
          refine g_skip rfl rfl rfl (by simp [undef]) ?_
          refine g_skip rfl rfl rfl (by simp [undef]) ?_
          refine g_skip rfl rfl rfl (by first | (rw [decide_eq_true hg5]; simp; done) | (intro e; have e2 := Value.bool.inj e; rw [decide_eq_true hg5] at e2; cases e2; done) | (simp [hg5]; done) | simp_all) ?_
          refine gq_run rfl rfl rfl rfl (congrArg Value.bool hg2) (q_pickT rfl (by first | exact (decide_eq_true hg5) | exact hg5 | (simp [hg5]; done) | simp_all) rfl) ?_
          refine vq rfl rfl (q_pickT rfl (by first | exact hg2 | exact hg2 | (simp [hg2]; done) | simp_all) rfl) ?_
          refine vendW ⟨rfl, congrArg (fun b => some (AV.v (Value.bool b))) (by first | (simp only [hg2, decide_eq_true hg5]; done) | (simp only [hg2, decide_eq_true hg5]; rfl) | (simp [hg2, hg5]; done) | simp_all), ?_⟩
          repeat (first | exact Same.refl | refine Same.upd rfl ?_)
        ·
          refine gq_run rfl rfl rfl rfl (by first | exact congrArg Value.bool (decide_eq_false hg5) | (rw [decide_eq_false hg5]; done) | (simp [hg5]; done) | simp_all) (q_move rfl) ?_
          refine gq_run rfl rfl rfl rfl (by first | exact congrArg Value.bool (decide_eq_false hg5) | (rw [decide_eq_false hg5]; done) | (simp [hg5]; done) | simp_all) (q_ne rfl rfl) ?_
          refine gq_run rfl rfl rfl rfl (by first | exact congrArg Value.bool (decide_eq_false hg5) | (rw [decide_eq_false hg5]; done) | (simp [hg5]; done) | simp_all) (q_move rfl) ?_
          by_cases hg8 : chA b i ≠ 95
          ·
            refine gq_run rfl rfl rfl rfl (by first | exact congrArg Value.bool (decide_eq_true hg8) | (rw [decide_eq_true hg8]; done) | (simp [hg8]; done) | simp_all) (q_move rfl) ?_
            refine gq_run rfl rfl rfl rfl (by first | exact congrArg Value.bool (decide_eq_true hg8) | (rw [decide_eq_true hg8]; done) | (simp [hg8]; done) | simp_all) (q_lt rfl rfl) ?_
            refine gq_run rfl rfl rfl rfl (by first | exact congrArg Value.bool (decide_eq_true hg8) | (rw [decide_eq_true hg8]; done) | (simp [hg8]; done) | simp_all) (q_move rfl) ?_
            by_cases hg11 : chA b i < 48
            ·
              refine g_skip rfl rfl rfl (by first | (rw [decide_eq_true hg11]; simp; done) | (intro e; have e2 := Value.bool.inj e; rw [decide_eq_true hg11] at e2; cases e2; done) | (simp [hg11]; done) | simp_all) ?_
              refine g_skip rfl rfl rfl (by first | (rw [decide_eq_true hg11]; simp; done) | (intro e; have e2 := Value.bool.inj e; rw [decide_eq_true hg11] at e2; cases e2; done) | (simp [hg11]; done) | simp_all) ?_
              refine gq_run rfl rfl rfl rfl (by first | exact congrArg Value.bool (decide_eq_true hg8) | (rw [decide_eq_true hg8]; done) | (simp [hg8]; done) | simp_all) (q_pickT rfl (by first | exact (decide_eq_true hg11) | exact hg11 | (simp [hg11]; done) | simp_all) rfl) ?_
              refine gq_run rfl rfl rfl rfl (by first | exact congrArg Value.bool (decide_eq_false hg5) | (rw [decide_eq_false hg5]; done) | (simp [hg5]; done) | simp_all) (q_pickT rfl (by first | exact (decide_eq_true hg8) | exact hg8 | (simp [hg8]; done) | simp_all) rfl) ?_
              refine gq_run rfl rfl rfl rfl (congrArg Value.bool hg2) (q_pickF rfl (by first | exact (decide_eq_false hg5) | exact hg5 | (simp [hg5]; done) | simp_all) rfl) ?_
              refine vq rfl rfl (q_pickT rfl (by first | exact hg2 | exact hg2 | (simp [hg2]; done) | simp_all) rfl) ?_
              refine vendW ⟨rfl, congrArg (fun b => some (AV.v (Value.bool b))) (by first | (simp only [hg2, decide_eq_false hg5, decide_eq_true hg8, decide_eq_true hg11]; done) | (simp only [hg2, decide_eq_false hg5, decide_eq_true hg8, decide_eq_true hg11]; rfl) | (simp [hg2, hg5, hg8, hg11]; done) | simp_all), ?_⟩
              repeat (first | exact Same.refl | refine Same.upd rfl ?_)
            ·
              refine gq_run rfl rfl rfl rfl (by first | exact congrArg Value.bool (decide_eq_false hg11) | (rw [decide_eq_false hg11]; done) | (simp [hg11]; done) | simp_all) (q_move rfl) ?_
              refine gq_run rfl rfl rfl rfl (by first | exact congrArg Value.bool (decide_eq_false hg11) | (rw [decide_eq_false hg11]; done) | (simp [hg11]; done) | simp_all) (q_gt rfl rfl) ?_
              refine gq_run rfl rfl rfl rfl (by first | exact congrArg Value.bool (decide_eq_true hg8) | (rw [decide_eq_true hg8]; done) | (simp [hg8]; done) | simp_all) (q_pickF rfl (by first | exact (decide_eq_false hg11) | exact hg11 | (simp [hg11]; done) | simp_all) rfl) ?_
              refine gq_run rfl rfl rfl rfl (by first | exact congrArg Value.bool (decide_eq_false hg5) | (rw [decide_eq_false hg5]; done) | (simp [hg5]; done) | simp_all) (q_pickT rfl (by first | exact (decide_eq_true hg8) | exact hg8 | (simp [hg8]; done) | simp_all) rfl) ?_
              refine gq_run rfl rfl rfl rfl (congrArg Value.bool hg2) (q_pickF rfl (by first | exact (decide_eq_false hg5) | exact hg5 | (simp [hg5]; done) | simp_all) rfl) ?_
              refine vq rfl rfl (q_pickT rfl (by first | exact hg2 | exact hg2 | (simp [hg2]; done) | simp_all) rfl) ?_
              refine vendW ⟨rfl, congrArg (fun b => some (AV.v (Value.bool b))) (by first | (simp only [hg2, decide_eq_false hg5, decide_eq_true hg8, decide_eq_false hg11]; done) | (simp only [hg2, decide_eq_false hg5, decide_eq_true hg8, decide_eq_false hg11]; rfl) | (simp [hg2, hg5, hg8, hg11]; done) | simp_all), ?_⟩
              repeat (first | exact Same.refl | refine Same.upd rfl ?_)
          ·
            refine g_skip rfl rfl rfl (by first | (rw [decide_eq_false hg8]; simp; done) | (intro e; have e2 := Value.bool.inj e; rw [decide_eq_false hg8] at e2; cases e2; done) | (simp [hg8]; done) | simp_all) ?_
            refine g_skip rfl rfl rfl (by first | (rw [decide_eq_false hg8]; simp; done) | (intro e; have e2 := Value.bool.inj e; rw [decide_eq_false hg8] at e2; cases e2; done) | (simp [hg8]; done) | simp_all) ?_
            refine g_skip rfl rfl rfl (by first | (rw [decide_eq_false hg8]; simp; done) | (intro e; have e2 := Value.bool.inj e; rw [decide_eq_false hg8] at e2; cases e2; done) | (simp [hg8]; done) | simp_all) ?_
            refine g_skip rfl rfl rfl (by simp [undef]) ?_
            refine g_skip rfl rfl rfl (by simp [undef]) ?_
            refine g_skip rfl rfl rfl (by first | (rw [decide_eq_false hg8]; simp; done) | (intro e; have e2 := Value.bool.inj e; rw [decide_eq_false hg8] at e2; cases e2; done) | (simp [hg8]; done) | simp_all) ?_
            refine gq_run rfl rfl rfl rfl (by first | exact congrArg Value.bool (decide_eq_false hg5) | (rw [decide_eq_false hg5]; done) | (simp [hg5]; done) | simp_all) (q_pickF rfl (by first | exact (decide_eq_false hg8) | exact hg8 | (simp [hg8]; done) | simp_all) rfl) ?_
            refine gq_run rfl rfl rfl rfl (congrArg Value.bool hg2) (q_pickF rfl (by first | exact (decide_eq_false hg5) | exact hg5 | (simp [hg5]; done) | simp_all) rfl) ?_
            refine vq rfl rfl (q_pickT rfl (by first | exact hg2 | exact hg2 | (simp [hg2]; done) | simp_all) rfl) ?_
            refine vendW ⟨rfl, congrArg (fun b => some (AV.v (Value.bool b))) (by first | (simp only [hg2, decide_eq_false hg5, decide_eq_false hg8]; done) | (simp only [hg2, decide_eq_false hg5, decide_eq_false hg8]; rfl) | (simp [hg2, hg5, hg8]; done) | simp_all), ?_⟩
            repeat (first | exact Same.refl | refine Same.upd rfl ?_)
      ·
        refine g_skip rfl rfl rfl (by first | (rw [(eq_false_of_ne_true hg2)]; simp; done) | (intro e; have e2 := Value.bool.inj e; rw [(eq_false_of_ne_true hg2)] at e2; cases e2; done) | (simp [hg2]; done) | simp_all) ?_
        refine g_skip rfl rfl rfl (by first | (rw [(eq_false_of_ne_true hg2)]; simp; done) | (intro e; have e2 := Value.bool.inj e; rw [(eq_false_of_ne_true hg2)] at e2; cases e2; done) | (simp [hg2]; done) | simp_all) ?_
        refine g_skip rfl rfl rfl (by first | (rw [(eq_false_of_ne_true hg2)]; simp; done) | (intro e; have e2 := Value.bool.inj e; rw [(eq_false_of_ne_true hg2)] at e2; cases e2; done) | (simp [hg2]; done) | simp_all) ?_
        refine g_skip rfl rfl rfl (by simp [undef]) ?_
        refine g_skip rfl rfl rfl (by simp [undef]) ?_
        refine g_skip rfl rfl rfl (by simp [undef]) ?_
        refine g_skip rfl rfl rfl (by simp [undef]) ?_
        refine g_skip rfl rfl rfl (by simp [undef]) ?_
        refine g_skip rfl rfl rfl (by simp [undef]) ?_
        refine g_skip rfl rfl rfl (by simp [undef]) ?_
        refine g_skip rfl rfl rfl (by simp [undef]) ?_
        refine g_skip rfl rfl rfl (by simp [undef]) ?_
        refine g_skip rfl rfl rfl (by simp [undef]) ?_
        refine g_skip rfl rfl rfl (by first | (rw [(eq_false_of_ne_true hg2)]; simp; done) | (intro e; have e2 := Value.bool.inj e; rw [(eq_false_of_ne_true hg2)] at e2; cases e2; done) | (simp [hg2]; done) | simp_all) ?_
        refine vq rfl rfl (q_pickF rfl (by first | exact (eq_false_of_ne_true hg2) | exact hg2 | (simp [hg2]; done) | simp_all) rfl) ?_
        refine vendW ⟨rfl, congrArg (fun b => some (AV.v (Value.bool b))) (by first | (simp only [eq_false_of_ne_true hg2]; done) | (simp only [eq_false_of_ne_true hg2]; rfl) | (simp [hg2]; done) | simp_all), ?_⟩
        repeat (first | exact Same.refl | refine Same.upd rfl ?_)
    refine vendW ?_
    refine vc_cond rfl (fun h2 => ?_) (fun h2 => ?_)
    ·
      refine vc_seq ?_
      refine vc_regionW (qm 1) [0] rfl rfl ?_
      refine vq rfl rfl (q_assign rfl) ?_
      refine vendW ?_
      refine vc_ret ?_
      have e : nameN b = false := by unfold nameN; rw [range_any (i := i) (by omega) h2]; simp
      rw [e] at hk
      exact ret1 rfl rfl (Le.refl _) (Cv.le (Le.refl _) _) hk
    refine vc_skip ?_
    refine vc_regionW (qm 3) [0, 1] rfl rfl ?_
    refine vq rfl rfl (q_add rfl rfl (w64 (by omega))) ?_
    refine vq rfl rfl (q_move rfl) ?_
    refine vendW ?_
    refine ⟨i + 1, ⟨by omega, fun j hj => by by_cases e : j = i; (· subst e; exact h2); (· exact hok.2 j (by omega))⟩, by omega, ?_, ⟨rfl, trivial⟩, rfl⟩
    repeat (first | exact Same.refl | refine Same.upd rfl ?_ | refine Same.drop rfl ?_)
  refine vc_exit ?_
  refine vc_seq ?_
  refine vc_regionW (qm 1) [0] rfl rfl ?_
  refine vq rfl rfl (q_assign rfl) ?_
  refine vendW ?_
  refine vc_ret ?_
  have e : nameN b = true := by unfold nameN badName1; rw [h1, range_none fun j hj => hok.2 j (by omega)]; rfl
  rw [e] at hk
  exact ret1 rfl rfl (Le.refl _) (Cv.le (Le.refl _) _) hk
theorem homeless {n : Net} {s : St} {K : AV → St → Prop} (hn : n.nodes.length < 2^40) (hi : n.ins.length < 2^40) (hb : (inBits n).length < 2^40) (hin : ∀ i ∈ inBits n, 0 ≤ i ∧ i < n.nodes.length) (hk : K (.bool (homelessN n)) s) : CallsA Try.prog 131 [netA n] s K := by
  refine callsA_of Try.func131 rfl rfl (Nat.le_of_ble_eq_true rfl) ?_
  refine vc_seq ?_
  refine vc_regionW (qm 3) [0, 1] rfl rfl ?_
  refine vq rfl rfl (q_box rfl rfl) ?_
  refine vq rfl rfl (q_assign rfl) ?_
  refine vendW ?_
  refine vc_seq ?_
  refine vc_regionW (qm 23) [0, 1, 2, 3, 4] rfl rfl ?_
  refine vq rfl rfl (q_field fo25_0 rfl (Nat.le_of_ble_eq_true rfl)) ?_
  refine vq rfl rfl (q_load sc22 rfl) ?_
  refine vq rfl rfl (q_len sl22 rfl (by first | exact lenM | rfl)) ?_
  refine ve rfl rfl (e_make sl40 zr3 rfl (List.cons_ne_nil _ _) rfl rfl (by omega) (by omega) (by omega) (by omega) (fun k hk0 => ?_))
  refine vq rfl rfl (q_assign rfl) ?_
  refine vendW ?_
  refine vc_seq ?_
  refine vc_seq ?_
  refine vc_regionW (qm 15) [0, 1, 2, 3] rfl rfl ?_
  refine vq rfl rfl (q_field fo25_1 rfl (Nat.le_of_ble_eq_true rfl)) ?_
  refine vq rfl rfl (q_load sc23 rfl) ?_
  refine vq rfl rfl (q_len sl23 rfl (by first | exact lenM | rfl)) ?_
  refine vq rfl rfl (q_move rfl) ?_
  refine vendW ?_
  refine vc_block ?_
  refine vc_loopS (α := Nat) [5, 7, 18, 19, 20, 21, 22, 23, 24, 25, 26, 27, 28, 29, 30, 31, 32, 33, 34, 35, 36] (fun i => [(18, .int (i : Int))]) (fun i => (upd s k (.arr 3 1 ((bumpAll (c0 n) (preBits n i)).map eI)))) (fun i => i ≤ n.ins.length) (fun i => n.ins.length - i) 0 (by simp) (by simp [bumpAll, preBits, c0, eI]) ⟨rfl, trivial⟩ (fun _ => rfl) ?_
  intro i hok
  refine vc_seq ?_
  refine vc_regionW (qm 1) [0] rfl rfl ?_
  refine vq rfl rfl (q_lt rfl rfl) ?_
  refine vendW ?_
  refine vc_seq ?_
  refine vc_condD rfl (fun h => ?_) (fun h => ?_)
  ·
    refine vc_skip ?_
    refine vc_seq ?_
    refine vc_block ?_
    refine vc_seq ?_
    refine vc_regionW (qm 3) [0, 1, 2, 3] rfl rfl ?_
    refine vq rfl rfl (q_index sl23 rfl rfl (by omega) (by first | exact nthI (by omega) | exact nthM (by omega))) ?_
    refine vq rfl rfl (q_loadA ag91 rfl rfl) ?_
    refine ve rfl rfl (e_alloc zr91 (fun k5 hk5 => ?_))
    refine vn rfl rfl (e_storeN sz91 rfl rfl rfl rfl (upd_same _ _ _) rfl ?_)
    refine vendW ?_
    refine vc_frzC (i := 5) hk5 (upd_upd _ _ _ _) rfl ?_
    refine vc_seq ?_
    refine vc_regionW (qm 15) [0, 1, 2, 3] rfl rfl ?_
    refine vq rfl rfl (q_field fo91_1 rfl (Nat.le_of_ble_eq_true rfl)) ?_
    refine vq rfl rfl (q_load sc40 rfl) ?_
    refine vq rfl rfl (q_len sl40 rfl (by first | exact lenM | rfl)) ?_
    refine vq rfl rfl (q_move rfl) ?_
    refine vendW ?_
    refine vc_block ?_
    have hil : i < n.ins.length := by omega
    have hbl := preBits_le n (i + 1)
    rw [preBits_succ hil, List.length_append] at hbl
    refine vc_loopS (α := Nat) [7, 25, 26, 27, 28, 29, 30, 31, 32, 33, 34, 35] (fun j => [(25, .int (j : Int))]) (fun j => (upd s k (.arr 3 1 ((midCnt n i j).map eI)))) (fun j => j ≤ (n.ins.getD i default).bits.length) (fun j => (n.ins.getD i default).bits.length - j) 0 (by simp) (by simp [midCnt]) ⟨rfl, trivial⟩ (fun _ => rfl) ?_
    intro j hok
    refine vc_seq ?_
    refine vc_regionW (qm 1) [0] rfl rfl ?_
    refine vq rfl rfl (q_lt rfl rfl) ?_
    refine vendW ?_
    refine vc_seq ?_
    refine vc_condD rfl (fun hjl0 => ?_) (fun hjl0 => ?_)
    ·
      refine vc_skip ?_
      refine vc_seq ?_
      refine vc_block ?_
      refine vc_seq ?_
      refine vc_regionW (qm 7) [0, 1, 2] rfl rfl ?_
      refine vq rfl rfl (q_index sl40 rfl rfl (by omega) (by first | exact nthI (by omega) | exact nthM (by omega))) ?_
      refine vq rfl rfl (q_load sc3 rfl) ?_
      refine vq rfl rfl (q_assign rfl) ?_
      refine vendW ?_
      have hjl : j < (n.ins.getD i default).bits.length := by omega
      have hat := hin _ (mem_inBits hil hjl)
      refine vc_regionW (qm 107262463439540776796592199985646769019834926564739147021788491549774112240588375814414994385335227421520254865491888406830031062495572559571469192048672831) [0, 1, 2, 3, 4, 5, 6] rfl rfl ?_
      refine vq rfl rfl (q_move rfl) ?_
      refine vq rfl rfl (q_move rfl) ?_
      refine vq rfl rfl (q_indexH sl40 rfl rfl (by omega) (by omega)) ?_
      refine vr rfl rfl rfl (e_loadE sc3 rfl (upd_same _ _ _) (nthM (by rw [midCnt_len]; omega)) rfl ⟨rfl, rfl⟩) ?_
      refine vq rfl rfl (q_add rfl rfl (w64 (by have := midCnt_bd (j := j) hil ((n.ins.getD i default).bits.getD j default).toNat; show _ ≤ (midCnt n i j).getD _ 0 + 1 ∧ (midCnt n i j).getD _ 0 + 1 ≤ _; omega))) ?_
      refine vq rfl rfl (q_indexH sl40 rfl rfl (by omega) (by omega)) ?_
      refine vn rfl rfl (e_storeE sz3 rfl rfl rfl (upd_same _ _ _) (nthM (by rw [midCnt_len]; omega)) rfl ?_)
      refine vendW ?_
      refine vc_regionW (qm 3) [0, 1] rfl rfl ?_
      refine vq rfl rfl (q_add rfl rfl (w64 (by omega))) ?_
      refine vq rfl rfl (q_move rfl) ?_
      refine vendW ?_
      refine ⟨j + 1, by omega, by omega, ?_, ⟨rfl, trivial⟩, (by rw [upd_upd, bumpSet, midCnt_succ hjl])⟩
      repeat (first | exact Same.refl | refine Same.upd rfl ?_ | refine Same.drop rfl ?_)
    refine vc_exit ?_
    have hlast : ¬ j < (n.ins.getD i default).bits.length := by omega
    refine vc_regionW (qm 3) [0, 1] rfl rfl ?_
    refine vq rfl rfl (q_add rfl rfl (w64 (by omega))) ?_
    refine vq rfl rfl (q_move rfl) ?_
    refine vendW ?_
    refine ⟨i + 1, by omega, by omega, ?_, ⟨rfl, trivial⟩, (by rw [midCnt_end hil hlast])⟩
    repeat (first | exact Same.refl | refine Same.upd rfl ?_ | refine Same.drop rfl ?_)
  refine vc_exit ?_
  refine vc_seq ?_
  refine vc_seq ?_
  refine vc_regionW (qm 15) [0, 1, 2, 3] rfl rfl ?_
  refine vq rfl rfl (q_field fo25_0 rfl (Nat.le_of_ble_eq_true rfl)) ?_
  refine vq rfl rfl (q_load sc22 rfl) ?_
  refine vq rfl rfl (q_len sl22 rfl (by first | exact lenM | rfl)) ?_
  refine vq rfl rfl (q_move rfl) ?_
  refine vendW ?_
  refine vc_block ?_
  refine vc_loopS (α := Nat) [2, 8, 9, 10, 40, 41, 42, 43, 44, 45, 46, 47, 48, 49, 50, 51, 52, 53, 54] (fun i => [(40, .int (i : Int))]) (fun i => (upd s k (.arr 3 1 ((counts n).map eI)))) (fun i => i ≤ n.nodes.length ∧ ∀ j, j < i → (counts n).getD j 0 = wantN (n.nodes.getD j default)) (fun i => n.nodes.length - i) 0 ⟨by simp, by simp⟩ (by rw [counts_eq, show i = n.ins.length by omega]) ⟨rfl, trivial⟩ (fun _ => rfl) ?_
  intro i hok
  refine vc_seq ?_
  refine vc_regionW (qm 1) [0] rfl rfl ?_
  refine vq rfl rfl (q_lt rfl rfl) ?_
  refine vendW ?_
  refine vc_seq ?_
  refine vc_condD rfl (fun h => ?_) (fun h => ?_)
  ·
    refine vc_skip ?_
    refine vc_seq ?_
    refine vc_block ?_
    refine vc_seq ?_
    refine vc_regionW (qm 23) [0, 1, 2, 3, 4, 5] rfl rfl ?_
    refine vq rfl rfl (q_move rfl) ?_
    refine vq rfl rfl (q_index sl22 rfl rfl (by omega) (by first | exact nthI (by omega) | exact nthM (by omega))) ?_
    refine vq rfl rfl (q_loadA ag89 rfl rfl) ?_
    refine ve rfl rfl (e_alloc zr89 (fun k9 hk9 => ?_))
    refine vq rfl rfl (q_assign rfl) ?_
    refine vn rfl rfl (e_storeN sz89 rfl rfl rfl rfl (upd_same _ _ _) rfl ?_)
    refine vendW ?_
    refine vc_frzC (i := 9) hk9 (upd_upd _ _ _ _) rfl ?_
    refine vc_seq ?_
    refine vc_regionW (qm 1) [0] rfl rfl ?_
    refine vq rfl rfl (q_assign rfl) ?_
    refine vendW ?_
    refine vc_seq ?_
    refine vc_seq ?_
    refine vc_regionW (qm 7) [0, 1, 2] rfl rfl ?_
    refine vq rfl rfl (q_field fo89_0 rfl (Nat.le_of_ble_eq_true rfl)) ?_
    refine vq rfl rfl (q_load sc3 rfl) ?_
    refine vq rfl rfl (q_eq rfl rfl) ?_
    refine vendW ?_
    refine vc_condD rfl (fun h3 => ?_) (fun h3 => ?_)
    ·
      refine vc_regionW (qm 1) [0] rfl rfl ?_
      refine vq rfl rfl (q_assign rfl) ?_
      refine vendW ?_
      refine vc_seq ?_
      refine vc_regionW (qm 107262463439540776796592199985646769019834926564739147021788491549774112240588375814414994385335227421520254865491888406830031062495572559571469192048672831) [0, 1, 2, 3, 4, 5] rfl rfl ?_
      refine vq rfl rfl (q_move rfl) ?_
      refine vq rfl rfl (q_move rfl) ?_
      refine vq rfl rfl (q_indexH sl40 rfl rfl (by omega) (by omega)) ?_
      refine vr rfl rfl rfl (e_loadE sc3 rfl (upd_same _ _ _) (nthI (by rw [counts_len]; omega)) rfl ⟨rfl, rfl⟩) ?_
      refine vq rfl rfl (q_move rfl) ?_
      refine vq rfl rfl (q_ne rfl rfl) ?_
      refine vendW ?_
      refine vc_condD rfl (fun h2 => ?_) (fun h2 => ?_)
      ·
        refine vc_seq ?_
        refine vc_regionW (qm 1) [0] rfl rfl ?_
        refine vq rfl rfl (q_assign rfl) ?_
        refine vendW ?_
        refine vc_ret ?_
        have e : homelessN n = true := range_any (i := i) (by omega) (by have e5 : ¬ (counts n).getD i 0 = wantN (n.nodes.getD i default) := (by unfold wantN; rw [if_pos h3]; exact h2); rw [decide_eq_false e5]; rfl)
        rw [e] at hk
        exact ret1 rfl rfl (Le.new1 hk0) (Cv.le (Le.new1 hk0) _) hk
      refine vc_skip ?_
      refine vc_regionW (qm 3) [0, 1] rfl rfl ?_
      refine vq rfl rfl (q_add rfl rfl (w64 (by omega))) ?_
      refine vq rfl rfl (q_move rfl) ?_
      refine vendW ?_
      refine ⟨i + 1, ⟨by omega, fun j hj => by by_cases e : j = i; (· subst e; have e5 := h2; simp only [Decidable.not_not] at e5; refine Eq.trans e5 ?_; unfold wantN; first | rw [if_pos h3] | rw [if_neg h3]); (· exact hok.2 j (by omega))⟩, by omega, ?_, ⟨rfl, trivial⟩, rfl⟩
      repeat (first | exact Same.refl | refine Same.upd rfl ?_ | refine Same.drop rfl ?_)
    refine vc_skip ?_
    refine vc_seq ?_
    refine vc_regionW (qm 107262463439540776796592199985646769019834926564739147021788491549774112240588375814414994385335227421520254865491888406830031062495572559571469192048672831) [0, 1, 2, 3, 4, 5] rfl rfl ?_
    refine vq rfl rfl (q_move rfl) ?_
    refine vq rfl rfl (q_move rfl) ?_
    refine vq rfl rfl (q_indexH sl40 rfl rfl (by omega) (by omega)) ?_
    refine vr rfl rfl rfl (e_loadE sc3 rfl (upd_same _ _ _) (nthI (by rw [counts_len]; omega)) rfl ⟨rfl, rfl⟩) ?_
    refine vq rfl rfl (q_move rfl) ?_
    refine vq rfl rfl (q_ne rfl rfl) ?_
    refine vendW ?_
    refine vc_condD rfl (fun h2 => ?_) (fun h2 => ?_)
    ·
      refine vc_seq ?_
      refine vc_regionW (qm 1) [0] rfl rfl ?_
      refine vq rfl rfl (q_assign rfl) ?_
      refine vendW ?_
      refine vc_ret ?_
      have e : homelessN n = true := range_any (i := i) (by omega) (by have e5 : ¬ (counts n).getD i 0 = wantN (n.nodes.getD i default) := (by unfold wantN; rw [if_neg h3]; exact h2); rw [decide_eq_false e5]; rfl)
      rw [e] at hk
      exact ret1 rfl rfl (Le.new1 hk0) (Cv.le (Le.new1 hk0) _) hk
    refine vc_skip ?_
    refine vc_regionW (qm 3) [0, 1] rfl rfl ?_
    refine vq rfl rfl (q_add rfl rfl (w64 (by omega))) ?_
    refine vq rfl rfl (q_move rfl) ?_
    refine vendW ?_
    refine ⟨i + 1, ⟨by omega, fun j hj => by by_cases e : j = i; (· subst e; have e5 := h2; simp only [Decidable.not_not] at e5; refine Eq.trans e5 ?_; unfold wantN; first | rw [if_pos h3] | rw [if_neg h3]); (· exact hok.2 j (by omega))⟩, by omega, ?_, ⟨rfl, trivial⟩, rfl⟩
    repeat (first | exact Same.refl | refine Same.upd rfl ?_ | refine Same.drop rfl ?_)
  refine vc_exit ?_
  refine vc_seq ?_
  refine vc_regionW (qm 1) [0] rfl rfl ?_
  refine vq rfl rfl (q_assign rfl) ?_
  refine vendW ?_
  refine vc_ret ?_
  have e : homelessN n = false := range_none fun j hj => by rw [hok.2 j (by omega)]; simp
  rw [e] at hk
  exact ret1 rfl rfl (Le.new1 hk0) (Cv.le (Le.new1 hk0) _) hk
end Go.Proofs.Ytpcpdepfnoijoaa
