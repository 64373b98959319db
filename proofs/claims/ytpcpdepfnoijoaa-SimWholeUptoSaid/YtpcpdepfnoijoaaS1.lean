/-
  Part of a proof: Whatever net, script and number of cycles come in, of bulk at most 1048576: SimWhole returns true, and what came in reads as it did.
-/
import Derived.Test.YtpcpdepfnoijoaaS5
import Derived.Test.YtpcpdepfnoijoaaS10
set_option linter.unusedVariables false
set_option maxRecDepth 100000
namespace Go.Proofs.Ytpcpdepfnoijoaa
open Go.Vc
theorem part {l : List Int} {i : Int} {s : St} {K : AV → St → Prop} (hl : l.length < 2^60) (hk : K (.v (.int .u32 (natPart l i))) s) : CallsA Try.prog 86 [natA l, .int i] s K := by
  refine callsA_of Try.func86 rfl rfl (Nat.le_of_ble_eq_true rfl) ?_
  refine vc_seq ?_
  refine vc_regionW (qm 1) [0] rfl rfl ?_
  refine vq rfl rfl (q_assign rfl) ?_
  refine vendW ?_
  refine vc_seq ?_
  refine vc_seq ?_
  refine vc_regionW (qm 255) [0, 1, 2, 3, 4, 5, 6, 7] rfl rfl ?_
  refine vq rfl rfl (q_move rfl) ?_
  refine vq rfl rfl (q_lt rfl rfl) ?_
  refine vq rfl rfl (q_move rfl) ?_
  refine vgrp [3, 4, 5, 6, 7] [] [8, 9, 10, 11] 12 (.v (.bool (decide (i < 0) || decide ((l.length : Int) ≤ i)))) ?_ ?_
  ·
    by_cases hg2 : i < 0
    ·
      refine g_skip rfl rfl rfl (by first | (rw [decide_eq_true hg2]; simp; done) | (intro e; have e2 := Value.bool.inj e; rw [decide_eq_true hg2] at e2; cases e2; done) | (simp [hg2]; done) | simp_all) ?_
      refine g_skip rfl rfl rfl (by first | (rw [decide_eq_true hg2]; simp; done) | (intro e; have e2 := Value.bool.inj e; rw [decide_eq_true hg2] at e2; cases e2; done) | (simp [hg2]; done) | simp_all) ?_
      refine g_skip rfl rfl rfl (by first | (rw [decide_eq_true hg2]; simp; done) | (intro e; have e2 := Value.bool.inj e; rw [decide_eq_true hg2] at e2; cases e2; done) | (simp [hg2]; done) | simp_all) ?_
      refine g_skip rfl rfl rfl (by first | (rw [decide_eq_true hg2]; simp; done) | (intro e; have e2 := Value.bool.inj e; rw [decide_eq_true hg2] at e2; cases e2; done) | (simp [hg2]; done) | simp_all) ?_
      refine vq rfl rfl (q_pickT rfl (by first | exact (decide_eq_true hg2) | exact hg2 | (simp [hg2]; done) | simp_all) rfl) ?_
      refine vendW ⟨rfl, congrArg (fun b => some (AV.v (Value.bool b))) (by first | (simp only [decide_eq_true hg2]; done) | (simp only [decide_eq_true hg2]; rfl) | (simp [hg2]; done) | simp_all), ?_⟩
      repeat (first | exact Same.refl | refine Same.upd rfl ?_)
    ·
      refine gq_run rfl rfl rfl rfl (by first | exact congrArg Value.bool (decide_eq_false hg2) | (rw [decide_eq_false hg2]; done) | (simp [hg2]; done) | simp_all) (q_move rfl) ?_
      refine gq_run rfl rfl rfl rfl (by first | exact congrArg Value.bool (decide_eq_false hg2) | (rw [decide_eq_false hg2]; done) | (simp [hg2]; done) | simp_all) (q_move rfl) ?_
      refine gq_run rfl rfl rfl rfl (by first | exact congrArg Value.bool (decide_eq_false hg2) | (rw [decide_eq_false hg2]; done) | (simp [hg2]; done) | simp_all) (q_len sl61 rfl (by first | exact lenM | rfl)) ?_
      refine gq_run rfl rfl rfl rfl (by first | exact congrArg Value.bool (decide_eq_false hg2) | (rw [decide_eq_false hg2]; done) | (simp [hg2]; done) | simp_all) (q_ge rfl rfl) ?_
      refine vq rfl rfl (q_pickF rfl (by first | exact (decide_eq_false hg2) | exact hg2 | (simp [hg2]; done) | simp_all) rfl) ?_
      refine vendW ⟨rfl, congrArg (fun b => some (AV.v (Value.bool b))) (by first | (simp only [decide_eq_false hg2]; done) | (simp only [decide_eq_false hg2]; rfl) | (simp [hg2]; done) | simp_all), ?_⟩
      repeat (first | exact Same.refl | refine Same.upd rfl ?_)
  refine vendW ?_
  refine vc_cond rfl (fun h => ?_) (fun h => ?_)
  ·
    refine vc_seq ?_
    refine vc_regionW (qm 1) [0] rfl rfl ?_
    refine vq rfl rfl (q_assign rfl) ?_
    refine vendW ?_
    refine vc_ret ?_
    have e : natPart l i = 0 := by unfold natPart; split; rfl; simp at h; rw [List.getD_eq_getElem?_getD, List.getElem?_eq_none (by omega)]; rfl
    rw [e] at hk
    exact ret1 rfl rfl (Le.refl _) (Cv.le (Le.refl _) _) hk
  refine vc_skip ?_
  refine vc_seq ?_
  refine vc_regionW (qm 31) [0, 1, 2, 3, 4] rfl rfl ?_
  refine vq rfl rfl (q_move rfl) ?_
  refine vq rfl rfl (q_move rfl) ?_
  refine vq rfl rfl (q_index sl61 rfl rfl (by simp at h; omega) (nthM (by simp at h; omega))) ?_
  refine vq rfl rfl (q_load sc92 rfl) ?_
  refine vq rfl rfl (q_assign rfl) ?_
  refine vendW ?_
  refine vc_ret ?_
  have e : natPart l i = l.getD i.toNat 0 := by simp at h; unfold natPart; rw [if_neg (by omega)]
  rw [e] at hk
  exact ret1 rfl rfl (Le.refl _) (Cv.le (Le.refl _) _) hk
theorem trim {l : List Int} {s : St} {K : AV → St → Prop} (hl : l.length < 2^60) (hk : K (.slx 1 ((natTrim l).map eU)) s) : CallsA Try.prog 87 [natA l] s K := by
  refine callsA_of Try.func87 rfl rfl (Nat.le_of_ble_eq_true rfl) ?_
  refine vc_seq ?_
  refine vc_regionW (qm 1) [0] rfl rfl ?_
  refine vq rfl rfl (q_assign rfl) ?_
  refine vendW ?_
  refine vc_seq ?_
  refine vc_regionW (qm 7) [0, 1, 2] rfl rfl ?_
  refine vq rfl rfl (q_move rfl) ?_
  refine vq rfl rfl (q_len sl61 rfl (by first | exact lenM | rfl)) ?_
  refine vq rfl rfl (q_assign rfl) ?_
  refine vendW ?_
  refine vc_seq ?_
  refine vc_block ?_
  refine vc_loopS (α := Nat) [3, 6, 7, 8, 9, 10, 11, 12, 13, 14, 15, 16, 17] (fun n => [(3, .int (n : Int))]) (fun n => s) (fun n => n ≤ l.length ∧ trimN l n = trimN l l.length) (fun n => n) l.length ⟨Nat.le_refl _, rfl⟩ rfl ⟨rfl, trivial⟩ (fun _ => rfl) ?_
  intro n hok
  refine vc_seq ?_
  refine vc_seq ?_
  refine vc_regionW (qm 1023) [0, 1, 2, 3, 4, 5, 6, 7, 8, 9] rfl rfl ?_
  refine vq rfl rfl (q_move rfl) ?_
  refine vq rfl rfl (q_gt rfl rfl) ?_
  refine vq rfl rfl (q_move rfl) ?_
  refine vgrp [3, 4, 5, 6, 7, 8, 9] [] [9, 10, 11, 12, 13, 14] 15 (.v (.bool (decide ((0 : Int) < n) && decide (l.getD ((n : Int) - 1).toNat 0 = 0)))) ?_ ?_
  ·
    by_cases hg2 : (0 : Int) < n
    ·
      refine gq_run rfl rfl rfl rfl (by first | exact congrArg Value.bool (decide_eq_true hg2) | (rw [decide_eq_true hg2]; done) | (simp [hg2]; done) | simp_all) (q_move rfl) ?_
      refine gq_run rfl rfl rfl rfl (by first | exact congrArg Value.bool (decide_eq_true hg2) | (rw [decide_eq_true hg2]; done) | (simp [hg2]; done) | simp_all) (q_move rfl) ?_
      refine gq_run rfl rfl rfl rfl (by first | exact congrArg Value.bool (decide_eq_true hg2) | (rw [decide_eq_true hg2]; done) | (simp [hg2]; done) | simp_all) (q_sub rfl rfl (w64 (by omega))) ?_
      refine gq_run rfl rfl rfl rfl (by first | exact congrArg Value.bool (decide_eq_true hg2) | (rw [decide_eq_true hg2]; done) | (simp [hg2]; done) | simp_all) (q_index sl61 rfl rfl (by omega) (by first | exact nthI (by omega) | exact nthM (by omega))) ?_
      refine gq_run rfl rfl rfl rfl (by first | exact congrArg Value.bool (decide_eq_true hg2) | (rw [decide_eq_true hg2]; done) | (simp [hg2]; done) | simp_all) (q_load sc92 rfl) ?_
      refine gq_run rfl rfl rfl rfl (by first | exact congrArg Value.bool (decide_eq_true hg2) | (rw [decide_eq_true hg2]; done) | (simp [hg2]; done) | simp_all) (q_eq rfl rfl) ?_
      refine vq rfl rfl (q_pickT rfl (by first | exact (decide_eq_true hg2) | exact hg2 | (simp [hg2]; done) | simp_all) rfl) ?_
      refine vendW ⟨rfl, congrArg (fun b => some (AV.v (Value.bool b))) (by first | (simp only [decide_eq_true hg2]; done) | (simp only [decide_eq_true hg2]; rfl) | (simp [hg2]; done) | simp_all), ?_⟩
      repeat (first | exact Same.refl | refine Same.upd rfl ?_)
    ·
      refine g_skip rfl rfl rfl (by first | (rw [decide_eq_false hg2]; simp; done) | (intro e; have e2 := Value.bool.inj e; rw [decide_eq_false hg2] at e2; cases e2; done) | (simp [hg2]; done) | simp_all) ?_
      refine g_skip rfl rfl rfl (by first | (rw [decide_eq_false hg2]; simp; done) | (intro e; have e2 := Value.bool.inj e; rw [decide_eq_false hg2] at e2; cases e2; done) | (simp [hg2]; done) | simp_all) ?_
      refine g_skip rfl rfl rfl (by first | (rw [decide_eq_false hg2]; simp; done) | (intro e; have e2 := Value.bool.inj e; rw [decide_eq_false hg2] at e2; cases e2; done) | (simp [hg2]; done) | simp_all) ?_
      refine g_skip rfl rfl rfl (by first | (rw [decide_eq_false hg2]; simp; done) | (intro e; have e2 := Value.bool.inj e; rw [decide_eq_false hg2] at e2; cases e2; done) | (simp [hg2]; done) | simp_all) ?_
      refine g_skip rfl rfl rfl (by first | (rw [decide_eq_false hg2]; simp; done) | (intro e; have e2 := Value.bool.inj e; rw [decide_eq_false hg2] at e2; cases e2; done) | (simp [hg2]; done) | simp_all) ?_
      refine g_skip rfl rfl rfl (by first | (rw [decide_eq_false hg2]; simp; done) | (intro e; have e2 := Value.bool.inj e; rw [decide_eq_false hg2] at e2; cases e2; done) | (simp [hg2]; done) | simp_all) ?_
      refine vq rfl rfl (q_pickF rfl (by first | exact (decide_eq_false hg2) | exact hg2 | (simp [hg2]; done) | simp_all) rfl) ?_
      refine vendW ⟨rfl, congrArg (fun b => some (AV.v (Value.bool b))) (by first | (simp only [decide_eq_false hg2]; done) | (simp only [decide_eq_false hg2]; rfl) | (simp [hg2]; done) | simp_all), ?_⟩
      repeat (first | exact Same.refl | refine Same.upd rfl ?_)
  refine vendW ?_
  refine vc_cond rfl (fun h => ?_) (fun h => ?_)
  ·
    refine vc_skip ?_
    refine vc_block ?_
    refine vc_regionW (qm 7) [0, 1, 2] rfl rfl ?_
    refine vq rfl rfl (q_move rfl) ?_
    refine vq rfl rfl (q_sub rfl rfl (w64 (by omega))) ?_
    refine vq rfl rfl (q_assign rfl) ?_
    refine vendW ?_
    refine ⟨n - 1, ⟨by omega, by simp at h; obtain ⟨m, rfl⟩ : ∃ m, n = m + 1 := ⟨n - 1, by omega⟩; have e := hok.2; rw [trimN, if_pos (by simpa using h.2)] at e; simpa using e⟩, (by simp at h; omega), ?_, ⟨(by simp at h; exact congrArg (fun z : Int => some (AV.int z)) (by omega)), trivial⟩, rfl⟩
    repeat (first | exact Same.refl | refine Same.upd rfl ?_ | refine Same.drop rfl ?_)
  refine vc_exit ?_
  refine vc_seq ?_
  refine vc_regionW (qm 31) [0, 1, 2, 3, 4] rfl rfl ?_
  refine vq rfl rfl (q_move rfl) ?_
  refine vq rfl rfl (q_move rfl) ?_
  refine vq rfl rfl (q_move rfl) ?_
  refine vq rfl rfl (q_slice3 sl61 rfl rfl rfl rfl (by omega) (by omega) (by simp; omega)) ?_
  refine vq rfl rfl (q_assign rfl) ?_
  refine vendW ?_
  refine vc_ret ?_
  have e : n = trimN l l.length := by
    rw [← hok.2]; cases n with
    | zero => rfl
    | succ m =>
      rw [trimN, if_neg]
      intro e
      have e2 : (((m + 1 : Nat) : Int) - 1).toNat = m := by omega
      rw [e2, e] at h; simp at h
  have e2 : ((l.map eU).take (n : Int).toNat).drop (0 : Int).toNat = (natTrim l).map eU := by unfold natTrim; rw [← e]; simp
  rw [← e2] at hk
  exact ret1 rfl rfl (Le.refl _) (Cv.le (Le.refl _) _) hk
theorem bit {l : List Int} {i : Nat} {s : St} {K : AV → St → Prop} (hl : l.length < 2^60) (hu : U32 l) (hi : i < 2^60) (hk : K (.int (natBit l i)) s) : CallsA Try.prog 81 [natA l, .int (i : Int)] s K := by
  refine callsA_of Try.func81 rfl rfl (Nat.le_of_ble_eq_true rfl) ?_
  refine vc_seq ?_
  refine vc_regionW (qm 1) [0] rfl rfl ?_
  refine vq rfl rfl (q_assign rfl) ?_
  refine vendW ?_
  refine vc_seq ?_
  refine vc_seq ?_
  refine vc_regionW (qm 3) [0, 1] rfl rfl ?_
  refine vq rfl rfl (q_move rfl) ?_
  refine vq rfl rfl (q_lt rfl rfl) ?_
  refine vendW ?_
  refine vc_condF rfl (by first | (simp; done) | (simp; omega) | simp_all) ?_
  refine vc_skip ?_
  refine vc_seq ?_
  refine vc_regionW (qm 1015) [0, 1, 2, 3, 4, 5, 6, 7, 8, 9] rfl rfl ?_
  refine vq rfl rfl (q_move rfl) ?_
  refine vq rfl rfl (q_move rfl) ?_
  refine vq rfl rfl (q_quo rfl rfl (by decide) (quo32 (by omega) (by omega))) ?_
  refine ve rfl rfl (e_callF go86 rfl (part hl ?_))
  refine vq rfl rfl (q_move rfl) ?_
  refine vq rfl rfl (q_rem rfl rfl (by decide) (rem32 (by omega))) ?_
  refine vq rfl rfl (q_shr rfl rfl (by omega) (natBit_shr l i)) ?_
  refine vq rfl rfl (q_and rfl rfl (and1_u32 (div_pow_u32 (hu.get _).1 (hu.get _).2 _).1 (div_pow_u32 (hu.get _).1 (hu.get _).2 _).2)) ?_
  refine vq rfl rfl (q_conv us92 ik3 rfl (w64 (by omega))) ?_
  refine vq rfl rfl (q_assign rfl) ?_
  refine vendW ?_
  refine vc_ret ?_
  exact ret1 rfl rfl (Le.refl _) (Cv.le (Le.refl _) _) hk
theorem len {l : List Int} {s : St} {K : AV → St → Prop} (hl : l.length < 2^50) (hu : U32 l) (hk : K (.int (natLen l : Int)) s) : CallsA Try.prog 136 [natA l] s K := by
  refine callsA_of Try.func136 rfl rfl (Nat.le_of_ble_eq_true rfl) ?_
  refine vc_seq ?_
  refine vc_regionW (qm 1) [0] rfl rfl ?_
  refine vq rfl rfl (q_assign rfl) ?_
  refine vendW ?_
  refine vc_seq ?_
  refine vc_regionW (qm 5) [0, 1, 2] rfl rfl ?_
  refine vq rfl rfl (q_move rfl) ?_
  refine ve rfl rfl (e_callF go87 rfl (trim (by omega) ?_))
  refine vq rfl rfl (q_assign rfl) ?_
  refine vendW ?_
  refine vc_seq ?_
  refine vc_seq ?_
  have htl := natTrim_len l
  have htu := natTrim_u32 hu
  refine vc_regionW (qm 7) [0, 1, 2] rfl rfl ?_
  refine vq rfl rfl (q_move rfl) ?_
  refine vq rfl rfl (q_len sl61 rfl lenMx) ?_
  refine vq rfl rfl (q_eq rfl rfl) ?_
  refine vendW ?_
  refine vc_condD rfl (fun h10 => ?_) (fun h10 => ?_)
  ·
    refine vc_seq ?_
    refine vc_regionW (qm 1) [0] rfl rfl ?_
    refine vq rfl rfl (q_assign rfl) ?_
    refine vendW ?_
    refine vc_ret ?_
    have e : natLen l = 0 := by unfold natLen; rw [if_pos (List.eq_nil_of_length_eq_zero (by omega))]
    rw [e] at hk
    exact ret1 rfl rfl (Le.refl _) (Cv.le (Le.refl _) _) hk
  refine vc_skip ?_
  refine vc_seq ?_
  refine vc_regionW (qm 31) [0, 1, 2, 3, 4] rfl rfl ?_
  refine vq rfl rfl (q_move rfl) ?_
  refine vq rfl rfl (q_len sl61 rfl lenMx) ?_
  refine vq rfl rfl (q_sub rfl rfl (w64 (by omega))) ?_
  refine vq rfl rfl (q_mul rfl rfl (w64 (by omega))) ?_
  refine vq rfl rfl (q_assign rfl) ?_
  refine vendW ?_
  refine vc_seq ?_
  refine vc_seq ?_
  refine vc_regionW (qm 127) [0, 1, 2, 3, 4, 5, 6] rfl rfl ?_
  refine vq rfl rfl (q_move rfl) ?_
  refine vq rfl rfl (q_move rfl) ?_
  refine vq rfl rfl (q_len sl61 rfl lenMx) ?_
  refine vq rfl rfl (q_sub rfl rfl (w64 (by omega))) ?_
  refine vq rfl rfl (q_indexX sl61 rfl rfl (by omega) (nthM (by omega))) ?_
  refine vq rfl rfl (q_load sc92 rfl) ?_
  refine vq rfl rfl (q_assign rfl) ?_
  refine vendW ?_
  refine vc_block ?_
  refine vc_loopS (α := Nat × Int) [4, 5, 21, 22, 23, 24, 25, 26] (fun a => [(4, .int (32 * (((natTrim l).length : Int) - 1) + (((topLen 32 ((natTrim l).getD ((natTrim l).length - 1) 0)) : Int) - a.1))), (5, .v (.int .u32 a.2))]) (fun a => s) (fun a => a.1 ≤ topLen 32 ((natTrim l).getD ((natTrim l).length - 1) 0) ∧ a.1 = topLen 32 a.2 ∧ a.2 < 4294967296) (fun a => a.1) (topLen 32 ((natTrim l).getD ((natTrim l).length - 1) 0), ((natTrim l).getD ((natTrim l).length - 1) 0)) ⟨Nat.le_refl _, rfl, (htu.get _).2⟩ rfl ⟨(congrArg (fun z : Int => some (AV.int z)) (by simp only; omega)), (congrArg (fun z => some (AV.v (Value.int .u32 ((natTrim l).getD z 0)))) (by omega)), trivial⟩ (fun _ => rfl) ?_
  intro ⟨c, v⟩ ⟨hc, hv, hlt⟩
  simp only at hc hv hlt ⊢
  have hT : topLen 32 ((natTrim l).getD ((natTrim l).length - 1) 0) ≤ 32 := topLen_le _ _
  refine vc_seq ?_
  refine vc_seq ?_
  refine vc_regionW (qm 3) [0, 1] rfl rfl ?_
  refine vq rfl rfl (q_move rfl) ?_
  refine vq rfl rfl (q_gt rfl rfl) ?_
  refine vendW ?_
  refine vc_condD rfl (fun h => ?_) (fun h => ?_)
  ·
    refine vc_skip ?_
    refine vc_seq ?_
    refine vc_block ?_
    refine vc_regionW (qm 7) [0, 1, 2] rfl rfl ?_
    refine vq rfl rfl (q_move rfl) ?_
    refine vq rfl rfl (q_add rfl rfl (w64 (by omega))) ?_
    refine vq rfl rfl (q_assign rfl) ?_
    refine vendW ?_
    refine vc_regionW (qm 7) [0, 1, 2] rfl rfl ?_
    refine vq rfl rfl (q_move rfl) ?_
    refine vq rfl rfl (q_shr rfl rfl (by decide) (shr1_u32)) ?_
    refine vq rfl rfl (q_assign rfl) ?_
    refine vendW ?_
    have e1 : c = topLen 32 (v / 2) + 1 := by rw [hv, topLen_st 31 (v / 2) (by show v / 2 < 2147483648; omega), ← hv, hv]; rw [topLen, if_pos h]
    refine ⟨(c - 1, v / 2), ⟨by simp only; omega, by simp only; omega, by simp only; omega⟩, (by simp only; omega), ?_, ⟨(congrArg (fun z : Int => some (AV.int z)) (by simp only; omega)), rfl, trivial⟩, rfl⟩
    repeat (first | exact Same.refl | refine Same.upd rfl ?_ | refine Same.drop rfl ?_)
  refine vc_exit ?_
  refine vc_seq ?_
  refine vc_regionW (qm 3) [0, 1] rfl rfl ?_
  refine vq rfl rfl (q_move rfl) ?_
  refine vq rfl rfl (q_assign rfl) ?_
  refine vendW ?_
  refine vc_ret ?_
  have e0 : c = 0 := by rw [hv, topLen, if_neg h]
  have e : ((natLen l : Nat) : Int) = 32 * (((natTrim l).length : Int) - 1) + (((topLen 32 ((natTrim l).getD ((natTrim l).length - 1) 0)) : Int) - c) := by
    unfold natLen
    rw [if_neg (by intro e; rw [e] at h10; exact h10 rfl)]
    have : (((natTrim l).length - 1 : Nat) : Int) = ((natTrim l).length : Int) - 1 := by omega
    subst e0
    omega
  rw [e] at hk
  exact ret1 rfl rfl (Le.refl _) (Cv.le (Le.refl _) _) hk
theorem told {l : List Int} {f : Nat} {s : St} {K : AV → St → Prop} (hf : isGo Try.prog f = true) (h : CallsA Try.prog f [natA l] s K) : CallsA Try.prog 137 [.clo f [] [], natA l] s K := by
  refine callsA_of Try.func137 rfl rfl (Nat.le_of_ble_eq_true rfl) ?_
  refine vc_seq ?_
  refine vc_regionW (qm 1) [0] rfl rfl ?_
  refine vq rfl rfl (q_assign rfl) ?_
  refine vendW ?_
  refine vc_seq ?_
  refine vc_regionW (qm 11) [0, 1, 2, 3] rfl rfl ?_
  refine vq rfl rfl (q_move rfl) ?_
  refine vq rfl rfl (q_move rfl) ?_
  refine ve rfl rfl (e_call hf rfl rfl (h.mono fun r s2 hk => ?_))
  refine vq rfl rfl (q_assign rfl) ?_
  refine vendW ?_
  refine vc_ret ?_
  exact ret1 rfl rfl (Le.refl _) (Cv.le (Le.refl _) _) hk
theorem isNaN {m : Int} {s : St} {K : AV → St → Prop} (hk : K (.bool false) s) : CallsA Try.prog 138 [.v (.int .u32 m)] s K := by
  refine callsA_of Try.func138 rfl rfl (Nat.le_of_ble_eq_true rfl) ?_
  refine vc_seq ?_
  refine vc_regionW (qm 1) [0] rfl rfl ?_
  refine vq rfl rfl (q_assign rfl) ?_
  refine vendW ?_
  refine vc_seq ?_
  refine vc_regionW (qm 15) [0, 1, 2, 3] rfl rfl ?_
  refine vq rfl rfl (q_move rfl) ?_
  refine vq rfl rfl (q_move rfl) ?_
  refine vq rfl rfl (q_ne rfl rfl) ?_
  refine vq rfl rfl (q_assign rfl) ?_
  refine vendW ?_
  refine vc_ret ?_
  have e : decide (m ≠ m) = false := by simp
  rw [← e] at hk
  exact ret1 rfl rfl (Le.refl _) (Cv.le (Le.refl _) _) hk
theorem compare {m n : Int} {s : St} {K : AV → St → Prop} (hk : K (.int (if m < n then -1 else if n < m then 1 else 0)) s) : CallsA Try.prog 85 [.v (.int .u32 m), .v (.int .u32 n)] s K := by
  refine callsA_of Try.func85 rfl rfl (Nat.le_of_ble_eq_true rfl) ?_
  refine vc_seq ?_
  refine vc_regionW (qm 1) [0] rfl rfl ?_
  refine vq rfl rfl (q_assign rfl) ?_
  refine vendW ?_
  refine vc_seq ?_
  refine vc_regionW (qm 5) [0, 1, 2] rfl rfl ?_
  refine vq rfl rfl (q_move rfl) ?_
  refine ve rfl rfl (e_callF go138 rfl (isNaN ?_))
  refine vq rfl rfl (q_assign rfl) ?_
  refine vendW ?_
  refine vc_seq ?_
  refine vc_regionW (qm 5) [0, 1, 2] rfl rfl ?_
  refine vq rfl rfl (q_move rfl) ?_
  refine ve rfl rfl (e_callF go138 rfl (isNaN ?_))
  refine vq rfl rfl (q_assign rfl) ?_
  refine vendW ?_
  refine vc_seq ?_
  refine vc_seq ?_
  refine vc_regionW (qm 1) [0] rfl rfl ?_
  refine vq rfl rfl (q_move rfl) ?_
  refine vendW ?_
  refine vc_condF rfl rfl ?_
  refine vc_skip ?_
  refine vc_seq ?_
  refine vc_seq ?_
  refine vc_regionW (qm 1) [0] rfl rfl ?_
  refine vq rfl rfl (q_move rfl) ?_
  refine vendW ?_
  refine vc_condF rfl rfl ?_
  refine vc_skip ?_
  refine vc_seq ?_
  refine vc_seq ?_
  refine vc_regionW (qm 7) [0, 1, 2] rfl rfl ?_
  refine vq rfl rfl (q_move rfl) ?_
  refine vq rfl rfl (q_move rfl) ?_
  refine vq rfl rfl (q_lt rfl rfl) ?_
  refine vendW ?_
  refine vc_condD rfl (fun h1 => ?_) (fun h1 => ?_)
  ·
    refine vc_seq ?_
    refine vc_regionW (qm 1) [0] rfl rfl ?_
    refine vq rfl rfl (q_assign rfl) ?_
    refine vendW ?_
    refine vc_ret ?_
    rw [if_pos h1] at hk
    exact ret1 rfl rfl (Le.refl _) (Cv.le (Le.refl _) _) hk
  refine vc_skip ?_
  refine vc_seq ?_
  refine vc_seq ?_
  refine vc_regionW (qm 7) [0, 1, 2] rfl rfl ?_
  refine vq rfl rfl (q_move rfl) ?_
  refine vq rfl rfl (q_move rfl) ?_
  refine vq rfl rfl (q_gt rfl rfl) ?_
  refine vendW ?_
  refine vc_condD rfl (fun h2 => ?_) (fun h2 => ?_)
  ·
    refine vc_seq ?_
    refine vc_regionW (qm 1) [0] rfl rfl ?_
    refine vq rfl rfl (q_assign rfl) ?_
    refine vendW ?_
    refine vc_ret ?_
    rw [if_neg h1, if_pos h2] at hk
    exact ret1 rfl rfl (Le.refl _) (Cv.le (Le.refl _) _) hk
  refine vc_skip ?_
  refine vc_seq ?_
  refine vc_regionW (qm 1) [0] rfl rfl ?_
  refine vq rfl rfl (q_assign rfl) ?_
  refine vendW ?_
  refine vc_ret ?_
  rw [if_neg h1, if_neg h2] at hk
  exact ret1 rfl rfl (Le.refl _) (Cv.le (Le.refl _) _) hk
theorem cmp {x y : List Int} {s : St} {K : AV → St → Prop} (hx : x.length < 2^50) (hy : y.length < 2^50) (hk : K (.int (natCmp x y)) s) : CallsA Try.prog 49 [natA x, natA y] s K := by
  refine callsA_of Try.func49 rfl rfl (Nat.le_of_ble_eq_true rfl) ?_
  refine vc_seq ?_
  refine vc_regionW (qm 1) [0] rfl rfl ?_
  refine vq rfl rfl (q_assign rfl) ?_
  refine vendW ?_
  refine vc_seq ?_
  refine vc_seq ?_
  refine vc_regionW (qm 127) [0, 1, 2, 3, 4, 5, 6] rfl rfl ?_
  refine vq rfl rfl (q_move rfl) ?_
  refine vq rfl rfl (q_len sl61 rfl (by first | exact lenM | rfl)) ?_
  refine vq rfl rfl (q_move rfl) ?_
  refine vq rfl rfl (q_len sl61 rfl (by first | exact lenM | rfl)) ?_
  refine vq rfl rfl (q_max rfl rfl) ?_
  refine vq rfl rfl (q_sub rfl rfl (w64 (by omega))) ?_
  refine vq rfl rfl (q_assign rfl) ?_
  refine vendW ?_
  refine vc_block ?_
  refine vc_loopS (α := Nat) [4, 5, 6, 13, 14, 15, 16, 17, 18, 19, 20, 21, 22, 23, 24, 25, 26] (fun n => [(5, .int ((n : Int) - 1))]) (fun n => s) (fun n => n ≤ max x.length y.length ∧ cmpG x y n = natCmp x y) (fun n => n) (max x.length y.length) ⟨Nat.le_refl _, rfl⟩ rfl ⟨(congrArg (fun z : Int => some (AV.int z)) (by omega)), trivial⟩ (fun _ => rfl) ?_
  intro n hok
  refine vc_seq ?_
  refine vc_seq ?_
  refine vc_regionW (qm 3) [0, 1] rfl rfl ?_
  refine vq rfl rfl (q_move rfl) ?_
  refine vq rfl rfl (q_ge rfl rfl) ?_
  refine vendW ?_
  refine vc_condD rfl (fun h => ?_) (fun h => ?_)
  ·
    refine vc_skip ?_
    refine vc_seq ?_
    refine vc_block ?_
    refine vc_seq ?_
    refine vc_regionW (qm 155) [0, 1, 2, 3, 4, 5, 6, 7] rfl rfl ?_
    refine vq rfl rfl (q_move rfl) ?_
    refine vq rfl rfl (q_move rfl) ?_
    refine ve rfl rfl (e_callF go86 rfl (part (by omega) ?_))
    refine vq rfl rfl (q_move rfl) ?_
    refine vq rfl rfl (q_move rfl) ?_
    refine ve rfl rfl (e_callF go86 rfl (part (by omega) ?_))
    refine ve rfl rfl (e_callF go85 rfl (compare ?_))
    refine vq rfl rfl (q_assign rfl) ?_
    refine vendW ?_
    refine vc_seq ?_
    refine vc_regionW (qm 3) [0, 1] rfl rfl ?_
    refine vq rfl rfl (q_move rfl) ?_
    refine vq rfl rfl (q_ne rfl rfl) ?_
    refine vendW ?_
    refine vc_condD rfl (fun h2 => ?_) (fun h2 => ?_)
    ·
      refine vc_seq ?_
      refine vc_regionW (qm 3) [0, 1] rfl rfl ?_
      refine vq rfl rfl (q_move rfl) ?_
      refine vq rfl rfl (q_assign rfl) ?_
      refine vendW ?_
      refine vc_ret ?_
      have e : natCmp x y = (if natPart x ((n : Int) - 1) < natPart y ((n : Int) - 1) then -1 else if natPart y ((n : Int) - 1) < natPart x ((n : Int) - 1) then 1 else 0) := by rw [← hok.2]; exact cmpG_stop x y (by omega) h2
      rw [e] at hk
      exact ret1 rfl rfl (Le.refl _) (Cv.le (Le.refl _) _) hk
    refine vc_skip ?_
    refine vc_regionW (qm 7) [0, 1, 2] rfl rfl ?_
    refine vq rfl rfl (q_move rfl) ?_
    refine vq rfl rfl (q_sub rfl rfl (w64 (by omega))) ?_
    refine vq rfl rfl (q_assign rfl) ?_
    refine vendW ?_
    refine ⟨n - 1, ⟨by omega, by rw [← hok.2]; exact (cmpG_go x y (by omega) h2).symm⟩, by omega, ?_, ⟨(congrArg (fun z : Int => some (AV.int z)) (by omega)), trivial⟩, rfl⟩
    repeat (first | exact Same.refl | refine Same.upd rfl ?_ | refine Same.drop rfl ?_)
  refine vc_exit ?_
  refine vc_seq ?_
  refine vc_regionW (qm 1) [0] rfl rfl ?_
  refine vq rfl rfl (q_assign rfl) ?_
  refine vendW ?_
  refine vc_ret ?_
  have e : natCmp x y = 0 := by rw [← hok.2, show n = 0 by omega]; rfl
  rw [e] at hk
  exact ret1 rfl rfl (Le.refl _) (Cv.le (Le.refl _) _) hk
theorem of {n : Int} {s : St} {K : AV → St → Prop} (h0 : 0 ≤ n) (hn : n < 18446744073709551616) (hk : K (.slx 1 ((natTrim [n % 4294967296, n / 4294967296]).map eU)) s) : CallsA Try.prog 50 [.v (.int .u64 n)] s K := by
  refine callsA_of Try.func50 rfl rfl (Nat.le_of_ble_eq_true rfl) ?_
  refine vc_seq ?_
  refine vc_regionW (qm 1) [0] rfl rfl ?_
  refine vq rfl rfl (q_assign rfl) ?_
  refine vendW ?_
  refine vc_seq ?_
  refine vc_regionW (qm 191) [0, 1, 2, 3, 4, 5, 6, 7] rfl rfl ?_
  refine vq rfl rfl (q_move rfl) ?_
  refine vq rfl rfl (q_conv us56 ik92 rfl (IntKind.wrap_u32 _)) ?_
  refine vq rfl rfl (q_move rfl) ?_
  refine vq rfl rfl (q_shr rfl rfl (by decide) shr64_32) ?_
  refine vq rfl rfl (q_conv us56 ik92 rfl (show _ = n / 4294967296 by rw [IntKind.wrap_u32]; omega)) ?_
  refine vq rfl rfl (q_buildS sl61 zo92 (by decide) rfl rfl rfl rfl (by decide)) ?_
  refine ve rfl rfl (e_callF go87 rfl (CallsA.le (ALes.cons (ale_slx 1 _) ALes.nil) (trim (l := [n % 4294967296, n / 4294967296]) (by simp) ?_)))
  refine vq rfl rfl (q_assign rfl) ?_
  refine vendW ?_
  refine vc_ret ?_
  exact ret1 rfl rfl (Le.refl _) (Cv.le (Le.refl _) _) hk
theorem addStore {s : St} {k : Nat} {x y : List Int} {i : Nat} (hN : i < max x.length y.length + 1) :
    upd (upd s k (.arr 92 1 (((addG x y i).1 ++ List.replicate (max x.length y.length + 1 - i) 0).map eU))) k (.arr 92 1 ((((addG x y i).1 ++ List.replicate (max x.length y.length + 1 - i) 0).map eU).set (i : Int).toNat
      ((eU ((((addG x y i).1 ++ List.replicate (max x.length y.length + 1 - i) 0)).getD (i : Int).toNat default)).set 0 (.v (.int .u32 (((addG x y i).2 + (natPart x i + natPart y i)) % 4294967296)))))) =
    upd s k (.arr 92 1 (((addG x y (i + 1)).1 ++ List.replicate (max x.length y.length + 1 - (i + 1)) 0).map eU)) := by
  rw [upd_upd]
  congr 2
  have e := set_mid eU (addG x y i).1 (((addG x y i).2 + (natPart x i + natPart y i)) % 4294967296) 0 (max x.length y.length - i)
  rw [addG_len] at e
  rw [show max x.length y.length + 1 - i = max x.length y.length - i + 1 by omega, show max x.length y.length + 1 - (i + 1) = max x.length y.length - i by omega]
  exact e
theorem add {x y : List Int} {s : St} {K : AV → St → Prop} (hx : x.length < 2^40) (hy : y.length < 2^40) (ux : U32 x) (uy : U32 y) (hk : K (.slx 1 ((natAdd x y).map eU)) s) : CallsA Try.prog 84 [natA x, natA y] s K := by
  refine callsA_of Try.func84 rfl rfl (Nat.le_of_ble_eq_true rfl) ?_
  refine vc_seq ?_
  refine vc_regionW (qm 1) [0] rfl rfl ?_
  refine vq rfl rfl (q_assign rfl) ?_
  refine vendW ?_
  refine vc_seq ?_
  refine vc_regionW (qm 127) [0, 1, 2, 3, 4, 5, 6] rfl rfl ?_
  refine vq rfl rfl (q_move rfl) ?_
  refine vq rfl rfl (q_len sl61 rfl (by first | exact lenM | rfl)) ?_
  refine vq rfl rfl (q_move rfl) ?_
  refine vq rfl rfl (q_len sl61 rfl (by first | exact lenM | rfl)) ?_
  refine vq rfl rfl (q_max rfl rfl) ?_
  refine vq rfl rfl (q_add rfl rfl (w64 (by omega))) ?_
  refine vq rfl rfl (q_assign rfl) ?_
  refine vendW ?_
  refine vc_seq ?_
  refine vc_regionW (qm 5) [0, 1, 2] rfl rfl ?_
  refine vq rfl rfl (q_move rfl) ?_
  refine ve rfl rfl (e_make sl61 zr92 rfl (List.cons_ne_nil _ _) rfl rfl (by omega) (by omega) (by omega) (by omega) (fun k hk0 => ?_))
  refine vq rfl rfl (q_assign rfl) ?_
  refine vendW ?_
  refine vc_seq ?_
  refine vc_regionW (qm 1) [0] rfl rfl ?_
  refine vq rfl rfl (q_assign rfl) ?_
  refine vendW ?_
  refine vc_seq ?_
  refine vc_seq ?_
  refine vc_regionW (qm 7) [0, 1, 2] rfl rfl ?_
  refine vq rfl rfl (q_move rfl) ?_
  refine vq rfl rfl (q_len sl61 rfl (by first | exact lenM | rfl)) ?_
  refine vq rfl rfl (q_move rfl) ?_
  refine vendW ?_
  refine vc_block ?_
  refine vc_loopS (α := Nat) [7, 8, 19, 20, 21, 22, 23, 24, 25, 26, 27, 28, 29, 30, 31, 32, 33, 34, 35, 36, 37, 38, 39, 40] (fun i => [(19, .int (i : Int)), (7, .v (.int .u64 (addG x y i).2))]) (fun i => (upd s k (.arr 92 1 (((addG x y i).1 ++ List.replicate (max x.length y.length + 1 - i) 0).map eU)))) (fun i => i ≤ max x.length y.length + 1) (fun i => max x.length y.length + 1 - i) 0 (by simp) (by rw [show (max (x.length : Int) y.length + 1).toNat = max x.length y.length + 1 - 0 by omega, List.map_append, List.map_replicate]; rfl) ⟨rfl, rfl, trivial⟩ (fun _ => rfl) ?_
  intro i hok
  have hc := addG_carry ux uy i
  have hp1 := natPart_u32 ux (i : Int)
  have hp2 := natPart_u32 uy (i : Int)
  refine vc_seq ?_
  refine vc_regionW (qm 1) [0] rfl rfl ?_
  refine vq rfl rfl (q_lt rfl rfl) ?_
  refine vendW ?_
  refine vc_seq ?_
  refine vc_condD rfl (fun h => ?_) (fun h => ?_)
  ·
    refine vc_skip ?_
    refine vc_seq ?_
    refine vc_block ?_
    refine vc_seq ?_
    refine vc_regionW (qm 3) [0, 1] rfl rfl ?_
    refine vq rfl rfl (q_move rfl) ?_
    refine vq rfl rfl (q_assign rfl) ?_
    refine vendW ?_
    refine vc_seq ?_
    refine vc_regionW (qm 3959) [0, 1, 2, 3, 4, 5, 6, 7, 8, 9, 10, 11] rfl rfl ?_
    refine vq rfl rfl (q_move rfl) ?_
    refine vq rfl rfl (q_move rfl) ?_
    refine vq rfl rfl (q_move rfl) ?_
    refine ve rfl rfl (e_callF go86 rfl (part (by omega) ?_))
    refine vq rfl rfl (q_conv us92 ik56 rfl (wrapU64 (natPart_u32 ux _))) ?_
    refine vq rfl rfl (q_move rfl) ?_
    refine vq rfl rfl (q_move rfl) ?_
    refine ve rfl rfl (e_callF go86 rfl (part (by omega) ?_))
    refine vq rfl rfl (q_conv us92 ik56 rfl (wrapU64 (natPart_u32 uy _))) ?_
    refine vq rfl rfl (q_add rfl rfl (wrapU64b (by omega))) ?_
    refine vq rfl rfl (q_add rfl rfl (wrapU64b (by omega))) ?_
    refine vq rfl rfl (q_assign rfl) ?_
    refine vendW ?_
    refine vc_seq ?_
    refine vc_regionW (qm 31) [0, 1, 2, 3, 4, 5] rfl rfl ?_
    refine vq rfl rfl (q_move rfl) ?_
    refine vq rfl rfl (q_move rfl) ?_
    refine vq rfl rfl (q_move rfl) ?_
    refine vq rfl rfl (q_conv us56 ik92 rfl (IntKind.wrap_u32 _)) ?_
    refine vq rfl rfl (q_indexH sl61 rfl rfl (by omega) (by omega)) ?_
    refine vn rfl rfl (e_storeE sz92 rfl rfl rfl (upd_same _ _ _) (nthM (by simp [addG_len]; omega)) rfl ?_)
    refine vendW ?_
    refine vc_regionW (qm 7) [0, 1, 2] rfl rfl ?_
    refine vq rfl rfl (q_move rfl) ?_
    refine vq rfl rfl (q_shr rfl rfl (by decide) shr64_32) ?_
    refine vq rfl rfl (q_assign rfl) ?_
    refine vendW ?_
    refine vc_regionW (qm 3) [0, 1] rfl rfl ?_
    refine vq rfl rfl (q_add rfl rfl (w64 (by omega))) ?_
    refine vq rfl rfl (q_move rfl) ?_
    refine vendW ?_
    have hN : i < max x.length y.length + 1 := by omega
    refine ⟨i + 1, by omega, by omega, ?_, ⟨rfl, rfl, trivial⟩, (addStore hN)⟩
    repeat (first | exact Same.refl | refine Same.upd rfl ?_ | refine Same.drop rfl ?_)
  refine vc_exit ?_
  refine vc_seq ?_
  have hi : i = max x.length y.length + 1 := by omega
  subst hi
  rw [Nat.sub_self, List.replicate_zero, List.append_nil]
  refine vc_frz (OwnSt.mk hk0 (by simp [addG_len]; omega)) (i := 6) rfl ?_
  refine vc_regionW (qm 5) [0, 1, 2] rfl rfl ?_
  refine vq rfl rfl (q_move rfl) ?_
  refine ve rfl rfl (e_callF go137 rfl (told go87 (trim (by rw [addG_len]; omega) ?_)))
  refine vq rfl rfl (q_assign rfl) ?_
  refine vendW ?_
  refine vc_ret ?_
  exact ret1 rfl rfl (Le.refl _) (Cv.le (Le.refl _) _) hk
end Go.Proofs.Ytpcpdepfnoijoaa

set_option linter.unusedVariables false
namespace Go.Vc
def eU8 (n : Int) : List AV := [.v (.int .u8 n)]
def w8 (m : Int) : Int := IntKind.u8.wrap m
theorem rowSet8 (c : List Int) (m : Nat) (z v : Int) : ((c.map eU8).set m ((eU8 z).set 0 (.v (.int .u8 v)))) = (c.set m v).map eU8 := by rw [List.map_set]; rfl
def rstN (n : Net) (v : List Int) : Nat → List Int
  | 0 => v
  | i + 1 => if (ndI n i).k = 7 then (rstN n v i).set i (w8 (ndI n i).b) else rstN n v i
theorem rstN_len (n : Net) (v : List Int) : ∀ i, (rstN n v i).length = v.length
  | 0 => rfl
  | i + 1 => by rw [rstN]; split <;> simp [rstN_len n v i]
def toldN (x : Nd) (f : Int → Int) : Int :=
  if x.k = 2 then bitsV .xor .u8 1 (f x.a) else if x.k = 3 then bitsV .and .u8 (f x.a) (f x.b) else if x.k = 4 then bitsV .or .u8 (f x.a) (f x.b)
  else if x.k = 5 then bitsV .xor .u8 (f x.a) (f x.b) else if f x.c = 1 then f x.b else f x.a
def insJ (p : Pt) (num : List Int) (v : List Int) : Nat → List Int
  | 0 => v
  | j + 1 => (insJ p num v j).set (p.bits.getD j default).toNat (w8 (natBit num j))
theorem insJ_len (p : Pt) (num v : List Int) : ∀ j, (insJ p num v j).length = v.length
  | 0 => rfl
  | j + 1 => by rw [insJ]; simp [insJ_len p num v j]
def insN (n : Net) (ins : List (List Int)) (v : List Int) : Nat → List Int
  | 0 => v
  | i + 1 => insJ (n.ins.getD i default) (ins.getD i default) (insN n ins v i) (n.ins.getD i default).bits.length
theorem insN_len (n : Net) (ins : List (List Int)) (v : List Int) : ∀ i, (insN n ins v i).length = v.length
  | 0 => rfl
  | i + 1 => by rw [insN, insJ_len, insN_len n ins v i]
def stepV1 (n : Net) (at_ : Int) (v : List Int) : List Int :=
  let x := ndI n at_.toNat
  if x.k = 0 then v.set at_.toNat (w8 x.a) else if x.k = 1 ∨ x.k = 7 then v else v.set at_.toNat (toldN x fun i => v.getD i.toNat default)
theorem stepV1_len (n : Net) (a : Int) (v : List Int) : (stepV1 n a v).length = v.length := by unfold stepV1; simp only; split <;> (try split) <;> simp
def valG (n : Net) (ord : List Int) (v : List Int) : Nat → List Int
  | 0 => v
  | i + 1 => stepV1 n (ord.getD i default) (valG n ord v i)
theorem valG_len (n : Net) (ord v : List Int) : ∀ i, (valG n ord v i).length = v.length
  | 0 => rfl
  | i + 1 => by rw [valG, stepV1_len, valG_len n ord v i]
def outG (bits : List Int) (v : List Int) (parts : List Int) : Nat → List Int
  | 0 => parts
  | k + 1 => let l := outG bits v parts k
    l.set (k / 32) (bitsV .or .u32 (l.getD (k / 32) 0) (IntKind.u32.wrap (IntKind.u32.wrap (v.getD (bits.getD k default).toNat default) * 2 ^ (min (k % 32) 32))))
def outP (p : Pt) (v : List Int) : List Int := natAdd (outG p.bits v (List.replicate ((p.bits.length + 31) / 32) 0) p.bits.length) []
def fitsN (n : Net) (ins : List (List Int)) : Bool := decide (ins.length = n.ins.length) && (List.range n.ins.length).all fun i => decide (natLen (ins.getD i default) ≤ (n.ins.getD i default).bits.length)
def lookV (n : Net) (ord : List Int) (v : List Int) (ins : List (List Int)) : List Int := valG n ord (insN n ins v n.ins.length) ord.length
def peekN (n : Net) (ord : List Int) (v : List Int) (ins : List (List Int)) : List (List Int) := n.outs.map fun p => outP p (lookV n ord v ins)
def nextG (n : Net) (v : List Int) : Nat → List Int
  | 0 => v
  | i + 1 => if (ndI n i).k = 7 then (nextG n v i).set i (v.getD (ndI n i).a.toNat default) else nextG n v i
theorem nextG_len (n : Net) (v : List Int) : ∀ i, (nextG n v i).length = v.length
  | 0 => rfl
  | i + 1 => by rw [nextG]; split <;> simp [nextG_len n v i]
def stateN (n : Net) (v : List Int) : Nat → List Int
  | 0 => []
  | i + 1 => if (ndI n i).k = 7 then stateN n v i ++ [v.getD i default] else stateN n v i
theorem stateN_len (n : Net) (v : List Int) : ∀ i, (stateN n v i).length ≤ i
  | 0 => Nat.le_refl _
  | i + 1 => by rw [stateN]; have := stateN_len n v i; split <;> simp <;> omega
end Go.Vc
namespace Go.Vc
abbrev simC (n : Net) (ord : List Int) (kv len : Nat) : Res := .cells [.sl 4 (n.nodes.map ndR), .sl 2 (n.ins.map ptR), .sl 2 (n.outs.map ptR), ints ord, .hdr kv 1 len]
structure SimS (s : St) (p kv e : Nat) (n : Net) (ord v : List Int) : Prop where
  hp : s p = some (simC n ord kv v.length)
  hv : s kv = some (.arr e 1 (v.map eU8))
  ne : p ≠ kv
theorem SimS.set {s : St} {p kv e : Nat} {n : Net} {ord v v' : List Int} (h : SimS s p kv e n ord v) (hl : v'.length = v.length) : SimS (upd s kv (.arr e 1 (v'.map eU8))) p kv e n ord v' :=
  ⟨by rw [hl]; exact (upd_ne _ _ h.ne).trans h.hp, upd_same _ _ _, h.ne⟩
theorem SimS.le {s s' : St} {p kv e : Nat} {n : Net} {ord v : List Int} (h : SimS s p kv e n ord v) (hl : Le s s') : SimS s' p kv e n ord v := ⟨hl _ _ h.hp, hl _ _ h.hv, h.ne⟩
structure NetV (n : Net) (ord : List Int) : Prop where
  us : ∀ i, i < n.nodes.length → ∀ a ∈ usesN (ndI n i), 0 ≤ a ∧ a < n.nodes.length
  od : ∀ a ∈ ord, 0 ≤ a ∧ a < n.nodes.length
  bi : ∀ p ∈ n.ins ++ n.outs, (∀ a ∈ p.bits, 0 ≤ a ∧ a < n.nodes.length) ∧ p.bits.length < 1099511627776
  kd : ∀ i, i < n.nodes.length → 0 ≤ (ndI n i).k ∧ (ndI n i).k < 8
  ln : n.nodes.length < 1099511627776 ∧ ord.length < 1099511627776 ∧ n.ins.length < 1099511627776 ∧ n.outs.length < 1099511627776
structure InsB (ins : List (List Int)) : Prop where
  ln : ins.length < 1099511627776
  pt : ∀ x ∈ ins, U32 x ∧ x.length < 1099511627776
theorem InsB.get {ins : List (List Int)} (h : InsB ins) (i : Nat) : U32 (ins.getD i default) ∧ (ins.getD i default).length < 1099511627776 := by
  rcases Nat.lt_or_ge i ins.length with hi | hi
  · exact h.pt _ (getD_mem hi)
  · rw [List.getD_eq_getElem?_getD, List.getElem?_eq_none hi]
    exact ⟨(by intro x hx; cases hx), (by decide)⟩
theorem CallsA.wk {P : Program} {f : FuncId} {avs : List AV} {s : St} {K : AV → St → Prop} (h : CallsA P f avs s (fun r s' => ∃ r', ALe r r' ∧ K r' s')) : CallsA P f avs s K :=
  fun w vs hs hr => (h w vs hs hr).mono fun e w' he => by
    cases e with
    | returned v =>
      obtain ⟨r, s', h1, h2, h3, r', h4, h5⟩ := he
      exact ⟨r', s', h4 w' _ v h1, h2, h3, h5⟩
    | panicked c => exact he
    | outgrown => exact he
theorem ne_none {s : St} {p k : Nat} {r : Res} (hk : s k = none) (hp : s p = some r) : p ≠ k := fun e => by subst e; rw [hk] at hp; cases hp
end Go.Vc
namespace Go.Vc
theorem outG_len (bits v parts : List Int) : ∀ k, (outG bits v parts k).length = parts.length
  | 0 => rfl
  | k + 1 => by rw [outG]; simp [outG_len bits v parts k]
theorem lookV_len {n : Net} {ord v : List Int} {ins : List (List Int)} : (lookV n ord v ins).length = v.length := by unfold lookV; rw [valG_len, insN_len]
theorem stepV1_0 {n : Net} {a : Int} {v : List Int} (h : (ndI n a.toNat).k = 0) : stepV1 n a v = v.set a.toNat (w8 (ndI n a.toNat).a) := by unfold stepV1; simp only [h, if_true]
theorem stepV1_1 {n : Net} {a : Int} {v : List Int} (h : (ndI n a.toNat).k = 1 ∨ (ndI n a.toNat).k = 7) : stepV1 n a v = v := by
  unfold stepV1; simp only; rw [if_neg (by omega), if_pos h]
theorem stepV1_2 {n : Net} {a : Int} {v : List Int} (h0 : ¬ (ndI n a.toNat).k = 0) (h1 : ¬ (ndI n a.toNat).k = 1) (h7 : ¬ (ndI n a.toNat).k = 7) : stepV1 n a v = v.set a.toNat (toldN (ndI n a.toNat) fun i => v.getD i.toNat default) := by
  unfold stepV1; simp only; rw [if_neg h0, if_neg (by omega)]
theorem or_u32 (a b : Int) : 0 ≤ bitsV .or .u32 a b ∧ bitsV .or .u32 a b < 4294967296 := by
  unfold bitsV
  simp only [IntKind.wrap_u32]
  omega
theorem outG_u32 (bits v : List Int) {n : Nat} : ∀ k, U32 (outG bits v (List.replicate n 0) k)
  | 0 => fun x hx => by have := (List.mem_replicate.1 hx).2; omega
  | k + 1 => fun x hx => by
    rw [outG] at hx
    rcases List.mem_or_eq_of_mem_set hx with hx | rfl
    · exact outG_u32 bits v k x hx
    · exact or_u32 _ _
end Go.Vc
namespace Go.Vc
theorem rowSetU (c : List Int) (m : Nat) (z v : Int) : ((c.map eU).set m ((eU z).set 0 (.v (.int .u32 v)))) = (c.set m v).map eU := by rw [List.map_set]; rfl
end Go.Vc
namespace Go.Vc
section
variable {P : Program} {env : Env} {s : St} {d : Option Nat} {ty : TypeId} {pos : String} {af : Array Edge} {gd : Option (Nat × Bool)}
variable {a b : Operand} {x y : AV} {t t2 : TypeId} {K : AV → St → Prop}
theorem SrcOK.arrN {k e sz n : Nat} {xs : List (List AV)} (hk : s k = some (.arr e sz xs)) (hn : n = xs.length) : SrcOK s (.hdr k sz n) sz xs := by
  subst hn; exact SrcOK.arr hk
theorem e_copyN {e bb n : Nat} {kd : Nat} (xs ys : List (List AV)) {ts : TypeId} (hT : slT P t = some (e, 1, bb)) (ha : evA env a = some (.hdr kd 1 n)) (hn : n = xs.length) (hb : evA env b = some y) (hk : s kd = some (.arr e 1 xs)) (hsrc : SrcOK s y 1 ys) (hc : rowsC1 ys) (hl : xs.length = ys.length)
    (h : K (.int ys.length) (upd s kd (.arr e 1 ys))) : EffOK P ⟨d, .call ⟨.builtin .copy, #[a, b], #[t, ts]⟩, ty, pos, af, gd⟩ env s K := by
  subst hn; exact e_copy hT ha hb hk hsrc hc hl h
end
end Go.Vc
namespace Go.Vc
theorem Cv.trans {s s' s'' : St} {x y z : AV} (hl : Le s' s) (h : Cv s s' x y) (k : Cv s' s'' y z) : Cv s s'' x z := fun w v hs hr => k w v (hs.le hl) (h w v hs hr)
end Go.Vc

set_option linter.unusedVariables false
set_option linter.unusedSimpArgs false
set_option maxRecDepth 100000
namespace Go.Proofs.Ytpcpdepfnoijoaa
open Go.Vc
theorem reset {p kv : Nat} {n : Net} {ord v : List Int} {s : St} {K : AV → St → Prop} (hS : SimS s p kv 5 n ord v) (hN : NetV n ord) (hl : v.length = n.nodes.length) (hk : K (.tup []) (upd s kv (.arr 5 1 ((rstN n v n.nodes.length).map eU8)))) : CallsA Try.prog 48 [ptv p 0] s K := by
  have hln := hN.ln.1
  refine callsA_of Try.func48 rfl rfl (Nat.le_of_ble_eq_true rfl) ?_
  refine vc_seq ?_
  refine vc_regionW (qm 214524926879081553593184399971293538039669853129478294043576983099548224481176751628829988770670454843040509730983776813660062124991145119142938384097345663) [0, 1, 2, 3, 4, 5, 6] rfl rfl ?_
  refine vq rfl rfl (q_move rfl) ?_
  refine vq rfl rfl (q_nil rfl) ?_
  refine vq rfl rfl (q_fieldP fo141_0 rfl) ?_
  refine vq rfl rfl (q_fieldP fo25_0 rfl) ?_
  refine vr rfl rfl rfl (e_load sc22 rfl hS.hp rfl ⟨rfl, rfl⟩) ?_
  refine vq rfl rfl (q_len sl22 rfl (by first | exact lenM | rfl)) ?_
  refine vq rfl rfl (q_move rfl) ?_
  refine vendW ?_
  refine vc_block ?_
  refine vc_loopS (α := Nat) [2, 3, 10, 11, 12, 13, 14, 15, 16, 17, 18, 19, 20, 21, 22, 23, 24, 25, 26, 27] (fun i => [(10, .int (i : Int))]) (fun i => (upd s kv (.arr 5 1 ((rstN n v i).map eU8)))) (fun i => i ≤ n.nodes.length) (fun i => n.nodes.length - i) 0 (by simp) (by rw [rstN]; exact (upd_self _ _ _ hS.hv).symm) ⟨rfl, trivial⟩ (fun _ => rfl) ?_
  intro i hok
  refine vc_seq ?_
  refine vc_regionW (qm 1) [0] rfl rfl ?_
  refine vq rfl rfl (q_lt rfl rfl) ?_
  refine vendW ?_
  refine vc_seq ?_
  refine vc_condD rfl (fun h => ?_) (fun h => ?_)
  ·
    refine vc_skip ?_
    refine vc_seq ?_
    refine vc_block ?_
    refine vc_seq ?_
    refine vc_regionW (qm 23) [0, 1, 2, 3, 4, 5] rfl rfl ?_
    refine vq rfl rfl (q_move rfl) ?_
    refine vq rfl rfl (q_index sl22 rfl rfl (by omega) (by first | exact nthI (by omega) | exact nthM (by omega))) ?_
    refine vq rfl rfl (q_loadA ag89 rfl rfl) ?_
    refine ve rfl rfl (e_alloc zr89 (fun k3 hk3 => ?_))
    refine vq rfl rfl (q_assign rfl) ?_
    refine vn rfl rfl (e_storeN sz89 rfl rfl rfl rfl (upd_same _ _ _) rfl ?_)
    refine vendW ?_
    refine vc_frzC (i := 3) hk3 (upd_upd _ _ _ _) rfl ?_
    refine vc_seq ?_
    refine vc_regionW (qm 7) [0, 1, 2] rfl rfl ?_
    refine vq rfl rfl (q_field fo89_0 rfl (Nat.le_of_ble_eq_true rfl)) ?_
    refine vq rfl rfl (q_load sc3 rfl) ?_
    refine vq rfl rfl (q_eq rfl rfl) ?_
    refine vendW ?_
    refine vc_condD rfl (fun h17 => ?_) (fun h17 => ?_)
    ·
      refine vc_regionDW mx (qm 107262463439540776796592199985646769019834926564739147021788491549774112240588375814414994385335227421520254865491888406830031062495572559571469192048673279) [0, 1, 2, 3, 4, 5, 6, 7, 8, 9] (by kernel_rfl) ?_
      refine vq rfl rfl (q_move rfl) ?_
      refine vq rfl rfl (q_nil rfl) ?_
      refine vq rfl rfl (q_fieldP fo141_2 rfl) ?_
      refine vr rfl rfl rfl (e_load sc139 rfl (hS.set (rstN_len n v i)).hp rfl ⟨rfl, rfl⟩) ?_
      refine vq rfl rfl (q_move rfl) ?_
      refine vq rfl rfl (q_field fo89_2 rfl (Nat.le_of_ble_eq_true rfl)) ?_
      refine vq rfl rfl (q_load sc3 rfl) ?_
      refine vq rfl rfl (q_conv us3 ik5 rfl rfl) ?_
      refine vq rfl rfl (q_indexH sl139 rfl rfl (by omega) (by have := rstN_len n v i; omega)) ?_
      refine vn rfl rfl (e_storeE sz5 rfl rfl rfl (upd_same _ _ _) (nthI (by rw [rstN_len]; omega)) rfl ?_)
      refine vendW ?_
      refine vc_regionW (qm 3) [0, 1] rfl rfl ?_
      refine vq rfl rfl (q_add rfl rfl (w64 (by omega))) ?_
      refine vq rfl rfl (q_move rfl) ?_
      refine vendW ?_
      refine ⟨i + 1, by omega, by omega, ?_, ⟨rfl, trivial⟩, (by rw [upd_upd, rowSet8, rstN, if_pos h17]; rfl)⟩
      repeat (first | exact Same.refl | refine Same.upd rfl ?_ | refine Same.drop rfl ?_)
    refine vc_skip ?_
    refine vc_regionW (qm 3) [0, 1] rfl rfl ?_
    refine vq rfl rfl (q_add rfl rfl (w64 (by omega))) ?_
    refine vq rfl rfl (q_move rfl) ?_
    refine vendW ?_
    refine ⟨i + 1, by omega, by omega, ?_, ⟨rfl, trivial⟩, (by rw [rstN, if_neg h17])⟩
    repeat (first | exact Same.refl | refine Same.upd rfl ?_ | refine Same.drop rfl ?_)
  refine vc_exit ?_
  have e : i = n.nodes.length := by omega
  subst e
  exact ret0 rfl (Le.refl _) hk
theorem fits {ins : List (List Int)} {p kv : Nat} {n : Net} {ord v : List Int} {s : St} {K : AV → St → Prop} (hS : SimS s p kv 5 n ord v) (hN : NetV n ord) (hl : v.length = n.nodes.length) (hI : InsB ins) (hk : K (.bool (fitsN n ins)) s) : CallsA Try.prog 80 [ptv p 0, natsA ins] s K := by
  have hln := hN.ln
  have hil := hI.ln
  refine callsA_of Try.func80 rfl rfl (Nat.le_of_ble_eq_true rfl) ?_
  refine vc_seq ?_
  refine vc_regionW (qm 1) [0] rfl rfl ?_
  refine vq rfl rfl (q_assign rfl) ?_
  refine vendW ?_
  refine vc_seq ?_
  refine vc_seq ?_
  refine vc_regionW (qm 858099707516326214372737599885174152158679412517913176174307932398192897924707006515319955082681819372162038923935107254640248499964580476571753536389382655) [0, 1, 2, 3, 4, 5, 6, 7, 8] rfl rfl ?_
  refine vq rfl rfl (q_move rfl) ?_
  refine vq rfl rfl (q_len sl35 rfl lenM) ?_
  refine vq rfl rfl (q_move rfl) ?_
  refine vq rfl rfl (q_nil rfl) ?_
  refine vq rfl rfl (q_fieldP fo141_0 rfl) ?_
  refine vq rfl rfl (q_fieldP fo25_1 rfl) ?_
  refine vr rfl rfl rfl (e_load sc23 rfl hS.hp rfl ⟨rfl, rfl⟩) ?_
  refine vq rfl rfl (q_len sl23 rfl (by first | exact lenM | rfl)) ?_
  refine vq rfl rfl (q_ne rfl rfl) ?_
  refine vendW ?_
  refine vc_condD rfl (fun h15 => ?_) (fun h15 => ?_)
  ·
    refine vc_seq ?_
    refine vc_regionW (qm 1) [0] rfl rfl ?_
    refine vq rfl rfl (q_assign rfl) ?_
    refine vendW ?_
    refine vc_ret ?_
    have e : fitsN n ins = false := by unfold fitsN; rw [decide_eq_false (by omega)]; rfl
    rw [e] at hk
    exact ret1 rfl rfl (Le.refl _) (Cv.le (Le.refl _) _) hk
  refine vc_skip ?_
  refine vc_seq ?_
  refine vc_seq ?_
  refine vc_regionW (qm 214524926879081553593184399971293538039669853129478294043576983099548224481176751628829988770670454843040509730983776813660062124991145119142938384097345663) [0, 1, 2, 3, 4, 5, 6] rfl rfl ?_
  refine vq rfl rfl (q_move rfl) ?_
  refine vq rfl rfl (q_nil rfl) ?_
  refine vq rfl rfl (q_fieldP fo141_0 rfl) ?_
  refine vq rfl rfl (q_fieldP fo25_1 rfl) ?_
  refine vr rfl rfl rfl (e_load sc23 rfl hS.hp rfl ⟨rfl, rfl⟩) ?_
  refine vq rfl rfl (q_len sl23 rfl (by first | exact lenM | rfl)) ?_
  refine vq rfl rfl (q_move rfl) ?_
  refine vendW ?_
  refine vc_block ?_
  refine vc_loopS (α := Nat) [4, 5, 6, 22, 23, 24, 25, 26, 27, 28, 29, 30, 31, 32, 33, 34, 35, 36] (fun i => [(22, .int (i : Int))]) (fun i => s) (fun i => i ≤ n.ins.length ∧ ∀ j, j < i → natLen (ins.getD j default) ≤ (n.ins.getD j default).bits.length) (fun i => n.ins.length - i) 0 ⟨Nat.zero_le _, fun j hj => by omega⟩ rfl ⟨rfl, trivial⟩ (fun _ => rfl) ?_
  intro i hok
  refine vc_seq ?_
  refine vc_regionW (qm 1) [0] rfl rfl ?_
  refine vq rfl rfl (q_lt rfl rfl) ?_
  refine vendW ?_
  refine vc_seq ?_
  refine vc_condD rfl (fun h => ?_) (fun h => ?_)
  ·
    refine vc_skip ?_
    refine vc_seq ?_
    refine vc_block ?_
    refine vc_seq ?_
    refine vc_regionW (qm 23) [0, 1, 2, 3, 4, 5] rfl rfl ?_
    refine vq rfl rfl (q_move rfl) ?_
    refine vq rfl rfl (q_index sl23 rfl rfl (by omega) (by first | exact nthI (by omega) | exact nthM (by omega))) ?_
    refine vq rfl rfl (q_loadA ag91 rfl rfl) ?_
    refine ve rfl rfl (e_alloc zr91 (fun k6 hk6 => ?_))
    refine vq rfl rfl (q_assign rfl) ?_
    refine vn rfl rfl (e_storeN sz91 rfl rfl rfl rfl (upd_same _ _ _) rfl ?_)
    refine vendW ?_
    refine vc_frzC (i := 6) hk6 (upd_upd _ _ _ _) rfl ?_
    refine vc_seq ?_
    refine vc_regionDW mx (qm 511) [0, 1, 2, 3, 4, 5, 6, 7, 8] (by kernel_rfl) ?_
    refine vq rfl rfl (q_move rfl) ?_
    refine vq rfl rfl (q_move rfl) ?_
    refine vq rfl rfl (q_index sl35 rfl rfl (by omega) (by first | exact nthI (by omega) | exact nthM (by omega))) ?_
    refine vq rfl rfl (q_load sc61 rfl) ?_
    refine vq rfl rfl (q_callF go136 rfl (fun s => len (by have := (hI.get i).2; omega) (hI.get i).1 ⟨rfl, rfl⟩)) ?_
    refine vq rfl rfl (q_field fo91_1 rfl (Nat.le_of_ble_eq_true rfl)) ?_
    refine vq rfl rfl (q_load sc40 rfl) ?_
    refine vq rfl rfl (q_len sl40 rfl (by first | exact lenM | rfl)) ?_
    refine vq rfl rfl (q_gt rfl rfl) ?_
    refine vendW ?_
    refine vc_condD rfl (fun h35 => ?_) (fun h35 => ?_)
    ·
      refine vc_seq ?_
      refine vc_regionW (qm 1) [0] rfl rfl ?_
      refine vq rfl rfl (q_assign rfl) ?_
      refine vendW ?_
      refine vc_ret ?_
      have e : fitsN n ins = false := by
        unfold fitsN
        rw [Bool.and_eq_false_iff]
        right
        rw [List.all_eq_false]
        exact ⟨i, by simp; omega, fun e => by have := of_decide_eq_true e; omega⟩
      rw [e] at hk
      exact ret1 rfl rfl (Le.refl _) (Cv.le (Le.refl _) _) hk
    refine vc_skip ?_
    refine vc_regionW (qm 3) [0, 1] rfl rfl ?_
    refine vq rfl rfl (q_add rfl rfl (w64 (by omega))) ?_
    refine vq rfl rfl (q_move rfl) ?_
    refine vendW ?_
    refine ⟨i + 1, ⟨by omega, fun j hj => by by_cases e : j = i; (· subst e; omega); (· exact hok.2 j (by omega))⟩, by omega, ?_, ⟨rfl, trivial⟩, rfl⟩
    repeat (first | exact Same.refl | refine Same.upd rfl ?_ | refine Same.drop rfl ?_)
  refine vc_exit ?_
  refine vc_seq ?_
  refine vc_regionW (qm 1) [0] rfl rfl ?_
  refine vq rfl rfl (q_assign rfl) ?_
  refine vendW ?_
  refine vc_ret ?_
  have e : fitsN n ins = true := by
    unfold fitsN
    rw [Bool.and_eq_true]
    refine ⟨by simp; omega, List.all_eq_true.2 fun j hj => ?_⟩
    exact decide_eq_true (hok.2 j (by simp at hj; omega))
  rw [e] at hk
  exact ret1 rfl rfl (Le.refl _) (Cv.le (Le.refl _) _) hk
theorem peek1 {a : Int} {p kv : Nat} {n : Net} {ord v : List Int} {s : St} {K : AV → St → Prop} (hS : SimS s p kv 5 n ord v) (h0 : 0 ≤ a ∧ a < v.length) (hk : K (.v (.int .u8 (v.getD a.toNat default))) s) : CallsA Try.prog 82 [.int a, .box [ptv p 0]] s K := by
  refine callsA_of Try.func82 rfl rfl (Nat.le_of_ble_eq_true rfl) ?_
  refine vc_seq ?_
  refine vc_regionW (qm 1) [0] rfl rfl ?_
  refine vq rfl rfl (q_assign rfl) ?_
  refine vendW ?_
  refine vc_seq ?_
  refine vc_regionW (qm 965362170955866991169329799870820921178514339082652323196096423947967010165295382329734949468017046793682293789426995661470279562460153036143222728438055167) [0, 1, 2, 3, 4, 5, 6, 7] rfl rfl ?_
  refine vq rfl rfl (q_load sc93 rfl) ?_
  refine vq rfl rfl (q_nil rfl) ?_
  refine vq rfl rfl (q_fieldP fo141_2 rfl) ?_
  refine vr rfl rfl rfl (e_load sc139 rfl hS.hp rfl ⟨rfl, rfl⟩) ?_
  refine vq rfl rfl (q_move rfl) ?_
  refine vq rfl rfl (q_indexH sl139 rfl rfl (by omega) (by omega)) ?_
  refine vr rfl rfl rfl (e_loadE sc5 rfl hS.hv (nthM (by omega)) rfl ⟨rfl, rfl⟩) ?_
  refine vq rfl rfl (q_assign rfl) ?_
  refine vendW ?_
  refine vc_ret ?_
  exact ret1 rfl rfl (Le.refl _) (Cv.le (Le.refl _) _) hk
theorem toldV {x : Nd} {f : Int → Int} {g : Nat} {fs cs : List AV} {s : St} {K : AV → St → Prop} (hgo : isGo Try.prog g = true) (hx : 2 ≤ x.k ∧ x.k ≤ 6) (hof : ∀ a ∈ usesN x, CallsA Try.prog g (fs ++ ([.int a] ++ cs)) s fun r s2 => r = .v (.int .u8 (f a)) ∧ s2 = s) (hk : K (.v (.int .u8 (toldN x f))) s) : CallsA Try.prog 83 [.agg (ndR x), .clo g fs cs] s K := by
  refine callsA_of Try.func83 rfl rfl (Nat.le_of_ble_eq_true rfl) ?_
  refine vc_seq ?_
  refine vc_regionW (qm 3) [0, 1] rfl rfl ?_
  refine vq rfl rfl (q_box rfl rfl) ?_
  refine vq rfl rfl (q_assign rfl) ?_
  refine vendW ?_
  refine vc_seq ?_
  refine vc_seq ?_
  refine vc_regionW (qm 3) [0, 1] rfl rfl ?_
  refine vq rfl rfl (q_field fo89_0 rfl (Nat.le_of_ble_eq_true rfl)) ?_
  refine vq rfl rfl (q_load sc3 rfl) ?_
  refine vendW ?_
  refine vc_block ?_
  refine vc_seq ?_
  refine vc_regionW (qm 3) [0, 1] rfl rfl ?_
  refine vq rfl rfl (q_eq rfl rfl) ?_
  refine vq rfl rfl (q_assign rfl) ?_
  refine vendW ?_
  refine vc_condD rfl (fun h7 => ?_) (fun h7 => ?_)
  ·
    refine vc_seq ?_
    refine vc_regionW (qm 107262463439540776796592199985646769019834926564739147021788491549774112240588375814414994385335227421520254865491888406830031062495572559571469192048672831) [0, 1, 2, 3, 4, 5] rfl rfl ?_
    refine vq rfl rfl (q_move rfl) ?_
    refine vq rfl rfl (q_field fo89_1 rfl (Nat.le_of_ble_eq_true rfl)) ?_
    refine vq rfl rfl (q_load sc3 rfl) ?_
    refine vr rfl rfl rfl (e_call hgo rfl rfl (hof x.a (by simp [usesN, h7]))) ?_
    refine vq rfl rfl (q_xor rfl rfl rfl) ?_
    refine vq rfl rfl (q_assign rfl) ?_
    refine vendW ?_
    refine vc_ret ?_
    have e : toldN x f = bitsV .xor .u8 1 (f x.a) := by unfold toldN; simp [h7]
    rw [e] at hk
    exact ret1 rfl rfl (Le.refl _) (Cv.le (Le.refl _) _) hk
  refine vc_seq ?_
  refine vc_regionW (qm 3) [0, 1] rfl rfl ?_
  refine vq rfl rfl (q_eq rfl rfl) ?_
  refine vq rfl rfl (q_assign rfl) ?_
  refine vendW ?_
  refine vc_condD rfl (fun h14 => ?_) (fun h14 => ?_)
  ·
    refine vc_seq ?_
    refine vc_regionDW mx (qm 1823461878472193205542067399755995073337193751600565499370404356346159908090002388845054904550698866165844332713362102916110528062424733512714976264827438079) [0, 1, 2, 3, 4, 5, 6, 7, 8, 9] (by kernel_rfl) ?_
    refine vq rfl rfl (q_move rfl) ?_
    refine vq rfl rfl (q_field fo89_1 rfl (Nat.le_of_ble_eq_true rfl)) ?_
    refine vq rfl rfl (q_load sc3 rfl) ?_
    refine vr rfl rfl rfl (e_call hgo rfl rfl (hof x.a (by simp [usesN, h7, h14]))) ?_
    refine vq rfl rfl (q_move rfl) ?_
    refine vq rfl rfl (q_field fo89_2 rfl (Nat.le_of_ble_eq_true rfl)) ?_
    refine vq rfl rfl (q_load sc3 rfl) ?_
    refine vr rfl rfl rfl (e_call hgo rfl rfl (hof x.b (by simp [usesN, h7, h14]))) ?_
    refine vq rfl rfl (q_and rfl rfl rfl) ?_
    refine vq rfl rfl (q_assign rfl) ?_
    refine vendW ?_
    refine vc_ret ?_
    have e : toldN x f = bitsV .and .u8 (f x.a) (f x.b) := by unfold toldN; simp [h7, h14]
    rw [e] at hk
    exact ret1 rfl rfl (Le.refl _) (Cv.le (Le.refl _) _) hk
  refine vc_seq ?_
  refine vc_regionW (qm 3) [0, 1] rfl rfl ?_
  refine vq rfl rfl (q_eq rfl rfl) ?_
  refine vq rfl rfl (q_assign rfl) ?_
  refine vendW ?_
  refine vc_condD rfl (fun h25 => ?_) (fun h25 => ?_)
  ·
    refine vc_seq ?_
    refine vc_regionDW mx (qm 1823461878472193205542067399755995073337193751600565499370404356346159908090002388845054904550698866165844332713362102916110528062424733512714976264827438079) [0, 1, 2, 3, 4, 5, 6, 7, 8, 9] (by kernel_rfl) ?_
    refine vq rfl rfl (q_move rfl) ?_
    refine vq rfl rfl (q_field fo89_1 rfl (Nat.le_of_ble_eq_true rfl)) ?_
    refine vq rfl rfl (q_load sc3 rfl) ?_
    refine vr rfl rfl rfl (e_call hgo rfl rfl (hof x.a (by simp [usesN, h7, h14, h25]))) ?_
    refine vq rfl rfl (q_move rfl) ?_
    refine vq rfl rfl (q_field fo89_2 rfl (Nat.le_of_ble_eq_true rfl)) ?_
    refine vq rfl rfl (q_load sc3 rfl) ?_
    refine vr rfl rfl rfl (e_call hgo rfl rfl (hof x.b (by simp [usesN, h7, h14, h25]))) ?_
    refine vq rfl rfl (q_or rfl rfl rfl) ?_
    refine vq rfl rfl (q_assign rfl) ?_
    refine vendW ?_
    refine vc_ret ?_
    have e : toldN x f = bitsV .or .u8 (f x.a) (f x.b) := by unfold toldN; simp [h7, h14, h25]
    rw [e] at hk
    exact ret1 rfl rfl (Le.refl _) (Cv.le (Le.refl _) _) hk
  refine vc_seq ?_
  refine vc_regionW (qm 3) [0, 1] rfl rfl ?_
  refine vq rfl rfl (q_eq rfl rfl) ?_
  refine vq rfl rfl (q_assign rfl) ?_
  refine vendW ?_
  refine vc_condD rfl (fun h36 => ?_) (fun h36 => ?_)
  ·
    refine vc_seq ?_
    refine vc_regionDW mx (qm 1823461878472193205542067399755995073337193751600565499370404356346159908090002388845054904550698866165844332713362102916110528062424733512714976264827438079) [0, 1, 2, 3, 4, 5, 6, 7, 8, 9] (by kernel_rfl) ?_
    refine vq rfl rfl (q_move rfl) ?_
    refine vq rfl rfl (q_field fo89_1 rfl (Nat.le_of_ble_eq_true rfl)) ?_
    refine vq rfl rfl (q_load sc3 rfl) ?_
    refine vr rfl rfl rfl (e_call hgo rfl rfl (hof x.a (by simp [usesN, h7, h14, h25, h36]))) ?_
    refine vq rfl rfl (q_move rfl) ?_
    refine vq rfl rfl (q_field fo89_2 rfl (Nat.le_of_ble_eq_true rfl)) ?_
    refine vq rfl rfl (q_load sc3 rfl) ?_
    refine vr rfl rfl rfl (e_call hgo rfl rfl (hof x.b (by simp [usesN, h7, h14, h25, h36]))) ?_
    refine vq rfl rfl (q_xor rfl rfl rfl) ?_
    refine vq rfl rfl (q_assign rfl) ?_
    refine vendW ?_
    refine vc_ret ?_
    have e : toldN x f = bitsV .xor .u8 (f x.a) (f x.b) := by unfold toldN; simp [h7, h14, h25, h36]
    rw [e] at hk
    exact ret1 rfl rfl (Le.refl _) (Cv.le (Le.refl _) _) hk
  refine vc_skip ?_
  refine vc_seq ?_
  refine vc_seq ?_
  refine vc_regionW (qm 107262463439540776796592199985646769019834926564739147021788491549774112240588375814414994385335227421520254865491888406830031062495572559571469192048672799) [0, 1, 2, 3, 4] rfl rfl ?_
  refine vq rfl rfl (q_move rfl) ?_
  refine vq rfl rfl (q_field fo89_3 rfl (Nat.le_of_ble_eq_true rfl)) ?_
  refine vq rfl rfl (q_load sc3 rfl) ?_
  refine vr rfl rfl rfl (e_call hgo rfl rfl (hof x.c (by simp [usesN, show x.k = 6 by omega]))) ?_
  refine vq rfl rfl (q_eq rfl rfl) ?_
  refine vendW ?_
  refine vc_condD rfl (fun h51 => ?_) (fun h51 => ?_)
  ·
    refine vc_seq ?_
    refine vc_regionW (qm 107262463439540776796592199985646769019834926564739147021788491549774112240588375814414994385335227421520254865491888406830031062495572559571469192048672799) [0, 1, 2, 3, 4] rfl rfl ?_
    refine vq rfl rfl (q_move rfl) ?_
    refine vq rfl rfl (q_field fo89_2 rfl (Nat.le_of_ble_eq_true rfl)) ?_
    refine vq rfl rfl (q_load sc3 rfl) ?_
    refine vr rfl rfl rfl (e_call hgo rfl rfl (hof x.b (by simp [usesN, show x.k = 6 by omega]))) ?_
    refine vq rfl rfl (q_assign rfl) ?_
    refine vendW ?_
    refine vc_ret ?_
    have e : toldN x f = f x.b := by unfold toldN; simp [h7, h14, h25, h36, h51]
    rw [e] at hk
    exact ret1 rfl rfl (Le.refl _) (Cv.le (Le.refl _) _) hk
  refine vc_skip ?_
  refine vc_seq ?_
  refine vc_regionW (qm 107262463439540776796592199985646769019834926564739147021788491549774112240588375814414994385335227421520254865491888406830031062495572559571469192048672799) [0, 1, 2, 3, 4] rfl rfl ?_
  refine vq rfl rfl (q_move rfl) ?_
  refine vq rfl rfl (q_field fo89_1 rfl (Nat.le_of_ble_eq_true rfl)) ?_
  refine vq rfl rfl (q_load sc3 rfl) ?_
  refine vr rfl rfl rfl (e_call hgo rfl rfl (hof x.a (by simp [usesN, show x.k = 6 by omega]))) ?_
  refine vq rfl rfl (q_assign rfl) ?_
  refine vendW ?_
  refine vc_ret ?_
  have e : toldN x f = f x.a := by unfold toldN; simp [h7, h14, h25, h36, h51]
  rw [e] at hk
  exact ret1 rfl rfl (Le.refl _) (Cv.le (Le.refl _) _) hk
theorem peek {ins : List (List Int)} {p kv : Nat} {n : Net} {ord v : List Int} {s : St} {K : AV → St → Prop} (hS : SimS s p kv 5 n ord v) (hN : NetV n ord) (hl : v.length = n.nodes.length) (hI : InsB ins) (hk1 : fitsN n ins = false → K (.tup [natsA [], .int 5]) s) (hk2 : fitsN n ins = true → K (.tup [natsA (peekN n ord v ins), .int 0]) (upd s kv (.arr 5 1 (((lookV n ord v ins)).map eU8)))) : CallsA Try.prog 46 [ptv p 0, natsA ins] s K := by
  have hln := hN.ln
  have hil := hI.ln
  have hnl := hN.ln.1
  refine callsA_of Try.func46 rfl rfl (Nat.le_of_ble_eq_true rfl) ?_
  refine vc_seq ?_
  refine vc_regionW (qm 7) [0, 1, 2] rfl rfl ?_
  refine vq rfl rfl (q_box rfl rfl) ?_
  refine vq rfl rfl (q_assign rfl) ?_
  refine vq rfl rfl (q_assign rfl) ?_
  refine vendW ?_
  refine vc_seq ?_
  refine vc_seq ?_
  refine vc_regionW (qm 53631231719770388398296099992823384509917463282369573510894245774887056120294187907207497192667613710760127432745944203415015531247786279785734596024336399) [0, 1, 2, 3] rfl rfl ?_
  refine vq rfl rfl (q_load sc93 rfl) ?_
  refine vq rfl rfl (q_move rfl) ?_
  refine vr rfl rfl rfl (e_callF go80 rfl (fits hS hN hl hI ⟨rfl, rfl⟩)) ?_
  refine vq rfl rfl (q_not rfl) ?_
  refine vendW ?_
  refine vc_cond rfl (fun h23 => ?_) (fun h23 => ?_)
  ·
    refine vc_seq ?_
    refine vc_regionW (qm 3) [0, 1] rfl rfl ?_
    refine vq rfl rfl (q_assign rfl) ?_
    refine vq rfl rfl (q_assign rfl) ?_
    refine vendW ?_
    refine vc_ret ?_
    have e : fitsN n ins = false := by simpa using h23
    exact ret2 rfl rfl rfl (Le.refl _) (Cv.ale (Le.refl _) (ale_nil 1)) (Cv.le (Le.refl _) _) (hk1 e)
  refine vc_skip ?_
  refine vc_seq ?_
  refine vc_seq ?_
  have hft : fitsN n ins = true := by simpa using h23
  have hfl : ins.length = n.ins.length := by unfold fitsN at hft; simp at hft; exact hft.1
  refine vc_regionW (qm 214524926879081553593184399971293538039669853129478294043576983099548224481176751628829988770670454843040509730983776813660062124991145119142938384097345663) [0, 1, 2, 3, 4, 5, 6] rfl rfl ?_
  refine vq rfl rfl (q_load sc93 rfl) ?_
  refine vq rfl rfl (q_nil rfl) ?_
  refine vq rfl rfl (q_fieldP fo141_0 rfl) ?_
  refine vq rfl rfl (q_fieldP fo25_1 rfl) ?_
  refine vr rfl rfl rfl (e_load sc23 rfl hS.hp rfl ⟨rfl, rfl⟩) ?_
  refine vq rfl rfl (q_len sl23 rfl (by first | exact lenM | rfl)) ?_
  refine vq rfl rfl (q_move rfl) ?_
  refine vendW ?_
  refine vc_block ?_
  refine vc_loopS (α := Nat) [6, 7, 8, 9, 30, 31, 32, 33, 34, 35, 36, 37, 38, 39, 40, 41, 42, 43, 44, 45, 46, 47, 48, 49, 50, 51, 52, 53, 54, 55, 56, 57] (fun i => [(30, .int (i : Int))]) (fun i => (upd s kv (.arr 5 1 ((insN n ins v i).map eU8)))) (fun i => i ≤ n.ins.length) (fun i => n.ins.length - i) 0 (by simp) (by rw [insN]; exact (upd_self _ _ _ hS.hv).symm) ⟨rfl, trivial⟩ (fun _ => rfl) ?_
  intro i hok
  refine vc_seq ?_
  refine vc_regionW (qm 1) [0] rfl rfl ?_
  refine vq rfl rfl (q_lt rfl rfl) ?_
  refine vendW ?_
  refine vc_seq ?_
  refine vc_condD rfl (fun h => ?_) (fun h => ?_)
  ·
    refine vc_skip ?_
    refine vc_seq ?_
    refine vc_block ?_
    refine vc_seq ?_
    refine vc_regionW (qm 23) [0, 1, 2, 3, 4, 5] rfl rfl ?_
    refine vq rfl rfl (q_move rfl) ?_
    refine vq rfl rfl (q_index sl23 rfl rfl (by omega) (by first | exact nthI (by omega) | exact nthM (by omega))) ?_
    refine vq rfl rfl (q_loadA ag91 rfl rfl) ?_
    refine ve rfl rfl (e_alloc zr91 (fun k7 hk7 => ?_))
    refine vq rfl rfl (q_assign rfl) ?_
    refine vn rfl rfl (e_storeN sz91 rfl rfl rfl rfl (upd_same _ _ _) rfl ?_)
    refine vendW ?_
    refine vc_frzC (i := 7) hk7 (upd_upd _ _ _ _) rfl ?_
    refine vc_seq ?_
    refine vc_regionW (qm 15) [0, 1, 2, 3] rfl rfl ?_
    refine vq rfl rfl (q_field fo91_1 rfl (Nat.le_of_ble_eq_true rfl)) ?_
    refine vq rfl rfl (q_load sc40 rfl) ?_
    refine vq rfl rfl (q_len sl40 rfl (by first | exact lenM | rfl)) ?_
    refine vq rfl rfl (q_move rfl) ?_
    refine vendW ?_
    refine vc_block ?_
    refine vc_loopS (α := Nat) [8, 9, 38, 39, 40, 41, 42, 43, 44, 45, 46, 47, 48, 49, 50, 51, 52, 53, 54, 55, 56] (fun j => [(38, .int (j : Int))]) (fun j => (upd s kv (.arr 5 1 ((insJ (n.ins.getD i default) (ins.getD i default) (insN n ins v i) j).map eU8)))) (fun j => j ≤ (n.ins.getD i default).bits.length) (fun j => (n.ins.getD i default).bits.length - j) 0 (by simp) rfl ⟨rfl, trivial⟩ (fun _ => rfl) ?_
    intro j hjk
    refine vc_seq ?_
    refine vc_regionW (qm 1) [0] rfl rfl ?_
    refine vq rfl rfl (q_lt rfl rfl) ?_
    refine vendW ?_
    refine vc_seq ?_
    refine vc_condD rfl (fun h => ?_) (fun h => ?_)
    ·
      refine vc_skip ?_
      refine vc_seq ?_
      refine vc_block ?_
      refine vc_seq ?_
      refine vc_regionW (qm 31) [0, 1, 2, 3, 4] rfl rfl ?_
      refine vq rfl rfl (q_move rfl) ?_
      refine vq rfl rfl (q_index sl40 rfl rfl (by omega) (by first | exact nthI (by omega) | exact nthM (by omega))) ?_
      refine vq rfl rfl (q_load sc3 rfl) ?_
      refine vq rfl rfl (q_assign rfl) ?_
      refine vq rfl rfl (q_assign rfl) ?_
      refine vendW ?_
      have hi : i < n.ins.length := by omega
      have hj : j < (n.ins.getD i default).bits.length := by omega
      have hpb := hN.bi _ (List.mem_append_left _ (getD_mem hi))
      have hat := hpb.1 _ (getD_mem hj)
      have hpl := hpb.2
      have hS9 := hS.set (v' := insJ (n.ins.getD i default) (ins.getD i default) (insN n ins v i) j) (by rw [insJ_len, insN_len])
      refine vc_regionDW mx (qm 107262463439540776796592199985646769019834926564739147021788491549774112240588375814414994385335227421520254865491888406830031062495572559571469192048680959) [0, 1, 2, 3, 4, 5, 6, 7, 8, 9, 10, 11, 12, 13] (by kernel_rfl) ?_
      refine vq rfl rfl (q_load sc93 rfl) ?_
      refine vq rfl rfl (q_nil rfl) ?_
      refine vq rfl rfl (q_fieldP fo141_2 rfl) ?_
      refine vr rfl rfl rfl (e_load sc139 rfl hS9.hp rfl ⟨rfl, rfl⟩) ?_
      refine vq rfl rfl (q_move rfl) ?_
      refine vq rfl rfl (q_move rfl) ?_
      refine vq rfl rfl (q_move rfl) ?_
      refine vq rfl rfl (q_index sl35 rfl rfl (by omega) (by first | exact nthI (by omega) | exact nthM (by omega))) ?_
      refine vq rfl rfl (q_load sc61 rfl) ?_
      refine vq rfl rfl (q_move rfl) ?_
      refine vq rfl rfl (q_callF go81 rfl (fun s => bit (by have := (hI.get i).2; omega) (hI.get i).1 (by omega) ⟨rfl, rfl⟩)) ?_
      refine vq rfl rfl (q_conv us3 ik5 rfl rfl) ?_
      refine vq rfl rfl (q_indexH sl139 rfl rfl (by omega) (by rw [insJ_len, insN_len]; omega)) ?_
      refine vn rfl rfl (e_storeE sz5 rfl rfl rfl (upd_same _ _ _) (nthM (by rw [insJ_len, insN_len]; omega)) rfl ?_)
      refine vendW ?_
      refine vc_regionW (qm 3) [0, 1] rfl rfl ?_
      refine vq rfl rfl (q_add rfl rfl (w64 (by omega))) ?_
      refine vq rfl rfl (q_move rfl) ?_
      refine vendW ?_
      refine ⟨j + 1, by omega, by omega, ?_, ⟨rfl, trivial⟩, (by rw [upd_upd, rowSet8, insJ]; rfl)⟩
      repeat (first | exact Same.refl | refine Same.upd rfl ?_ | refine Same.drop rfl ?_)
    refine vc_exit ?_
    refine vc_regionW (qm 3) [0, 1] rfl rfl ?_
    refine vq rfl rfl (q_add rfl rfl (w64 (by omega))) ?_
    refine vq rfl rfl (q_move rfl) ?_
    refine vendW ?_
    refine ⟨i + 1, by omega, by omega, ?_, ⟨rfl, trivial⟩, (by rw [insN, show (n.ins.getD i default).bits.length = j by omega])⟩
    repeat (first | exact Same.refl | refine Same.upd rfl ?_ | refine Same.drop rfl ?_)
  refine vc_exit ?_
  refine vc_seq ?_
  refine vc_regionW (qm 3) [0, 1] rfl rfl ?_
  refine vq rfl rfl (q_makeFunc rfl rfl) ?_
  refine vq rfl rfl (q_assign rfl) ?_
  refine vendW ?_
  refine vc_seq ?_
  refine vc_seq ?_
  have hi2 : i = n.ins.length := by omega
  subst hi2
  have hS2 := hS.set (v' := insN n ins v n.ins.length) (insN_len _ _ _ _)
  refine vc_regionW (qm 107262463439540776796592199985646769019834926564739147021788491549774112240588375814414994385335227421520254865491888406830031062495572559571469192048672831) [0, 1, 2, 3, 4, 5] rfl rfl ?_
  refine vq rfl rfl (q_load sc93 rfl) ?_
  refine vq rfl rfl (q_nil rfl) ?_
  refine vq rfl rfl (q_fieldP fo141_1 rfl) ?_
  refine vr rfl rfl rfl (e_load sc40 rfl hS2.hp rfl ⟨rfl, rfl⟩) ?_
  refine vq rfl rfl (q_len sl40 rfl (by first | exact lenM | rfl)) ?_
  refine vq rfl rfl (q_move rfl) ?_
  refine vendW ?_
  refine vc_block ?_
  refine vc_loopS (α := Nat) [12, 13, 64, 65, 66, 67, 68, 69, 70, 71, 72, 73, 74, 75, 76, 77, 78, 79, 80, 81, 82, 83, 84, 85, 86, 87, 88, 89, 90, 91, 92, 93, 94, 95, 96, 97, 98, 99, 100, 101] (fun i => [(64, .int (i : Int))]) (fun i => (upd s kv (.arr 5 1 ((valG n ord (insN n ins v n.ins.length) i).map eU8)))) (fun i => i ≤ ord.length) (fun i => ord.length - i) 0 (by simp) rfl ⟨rfl, trivial⟩ (fun _ => rfl) ?_
  intro i hok
  refine vc_seq ?_
  refine vc_regionW (qm 1) [0] rfl rfl ?_
  refine vq rfl rfl (q_lt rfl rfl) ?_
  refine vendW ?_
  refine vc_seq ?_
  refine vc_condD rfl (fun h => ?_) (fun h => ?_)
  ·
    refine vc_skip ?_
    refine vc_seq ?_
    refine vc_block ?_
    refine vc_seq ?_
    refine vc_regionW (qm 7) [0, 1, 2] rfl rfl ?_
    refine vq rfl rfl (q_index sl40 rfl rfl (by omega) (by first | exact nthI (by omega) | exact nthM (by omega))) ?_
    refine vq rfl rfl (q_load sc3 rfl) ?_
    refine vq rfl rfl (q_assign rfl) ?_
    refine vendW ?_
    refine vc_seq ?_
    have hil2 : i < ord.length := by omega
    have hat := hN.od _ (getD_mem hil2)
    have hS3 := hS.set (v' := valG n ord (insN n ins v n.ins.length) i) (by rw [valG_len, insN_len])
    refine vc_regionW (qm 214524926879081553593184399971293538039669853129478294043576983099548224481176751628829988770670454843040509730983776813660062124991145119142938384097345791) [0, 1, 2, 3, 4, 5, 6, 7, 8, 9] rfl rfl ?_
    refine vq rfl rfl (q_load sc93 rfl) ?_
    refine vq rfl rfl (q_nil rfl) ?_
    refine vq rfl rfl (q_fieldP fo141_0 rfl) ?_
    refine vq rfl rfl (q_fieldP fo25_0 rfl) ?_
    refine vr rfl rfl rfl (e_load sc22 rfl hS3.hp rfl ⟨rfl, rfl⟩) ?_
    refine vq rfl rfl (q_move rfl) ?_
    refine vq rfl rfl (q_index sl22 rfl rfl (by omega) (nthM (by omega))) ?_
    refine vq rfl rfl (q_loadA ag89 rfl rfl) ?_
    refine ve rfl rfl (e_alloc zr89 (fun k13 hk13 => ?_))
    refine vn rfl rfl (e_storeN sz89 rfl rfl rfl rfl (upd_same _ _ _) rfl ?_)
    refine vendW ?_
    refine vc_frzC (i := 13) hk13 (upd_upd _ _ _ _) rfl ?_
    refine vc_seq ?_
    refine vc_regionW (qm 3) [0, 1] rfl rfl ?_
    refine vq rfl rfl (q_field fo89_0 rfl (Nat.le_of_ble_eq_true rfl)) ?_
    refine vq rfl rfl (q_load sc3 rfl) ?_
    refine vendW ?_
    refine vc_block ?_
    refine vc_seq ?_
    refine vc_regionW (qm 3) [0, 1] rfl rfl ?_
    refine vq rfl rfl (q_eq rfl rfl) ?_
    refine vq rfl rfl (q_assign rfl) ?_
    refine vendW ?_
    refine vc_condD rfl (fun h87 => ?_) (fun h87 => ?_)
    ·
      refine vc_regionDW mx (qm 107262463439540776796592199985646769019834926564739147021788491549774112240588375814414994385335227421520254865491888406830031062495572559571469192048673279) [0, 1, 2, 3, 4, 5, 6, 7, 8, 9] (by kernel_rfl) ?_
      refine vq rfl rfl (q_load sc93 rfl) ?_
      refine vq rfl rfl (q_nil rfl) ?_
      refine vq rfl rfl (q_fieldP fo141_2 rfl) ?_
      refine vr rfl rfl rfl (e_load sc139 rfl hS3.hp rfl ⟨rfl, rfl⟩) ?_
      refine vq rfl rfl (q_move rfl) ?_
      refine vq rfl rfl (q_field fo89_1 rfl (Nat.le_of_ble_eq_true rfl)) ?_
      refine vq rfl rfl (q_load sc3 rfl) ?_
      refine vq rfl rfl (q_conv us3 ik5 rfl rfl) ?_
      refine vq rfl rfl (q_indexH sl139 rfl rfl (by omega) (by rw [valG_len, insN_len]; omega)) ?_
      refine vn rfl rfl (e_storeE sz5 rfl rfl rfl (upd_same _ _ _) (nthM (by rw [valG_len, insN_len]; omega)) rfl ?_)
      refine vendW ?_
      refine vc_regionW (qm 3) [0, 1] rfl rfl ?_
      refine vq rfl rfl (q_add rfl rfl (w64 (by omega))) ?_
      refine vq rfl rfl (q_move rfl) ?_
      refine vendW ?_
      refine ⟨i + 1, by omega, by omega, ?_, ⟨rfl, trivial⟩, (by rw [upd_upd, rowSet8, valG, stepV1_0 h87]; rfl)⟩
      repeat (first | exact Same.refl | refine Same.upd rfl ?_ | refine Same.drop rfl ?_)
    refine vc_seq ?_
    refine vc_seq ?_
    refine vc_regionW (qm 3) [0, 1] rfl rfl ?_
    refine vq rfl rfl (q_eq rfl rfl) ?_
    refine vq rfl rfl (q_assign rfl) ?_
    refine vendW ?_
    refine vc_condD rfl (fun h98 => ?_) (fun h98 => ?_)
    ·
      refine vc_skip ?_
      refine vc_condT rfl (decide_eq_true h98) ?_
      refine vc_skip ?_
      refine vc_regionW (qm 3) [0, 1] rfl rfl ?_
      refine vq rfl rfl (q_add rfl rfl (w64 (by omega))) ?_
      refine vq rfl rfl (q_move rfl) ?_
      refine vendW ?_
      refine ⟨i + 1, by omega, by omega, ?_, ⟨rfl, trivial⟩, (by rw [valG, stepV1_1 (.inl h98)])⟩
      repeat (first | exact Same.refl | refine Same.upd rfl ?_ | refine Same.drop rfl ?_)
    refine vc_regionW (qm 3) [0, 1] rfl rfl ?_
    refine vq rfl rfl (q_eq rfl rfl) ?_
    refine vq rfl rfl (q_assign rfl) ?_
    refine vendW ?_
    refine vc_condD rfl (fun h98b => ?_) (fun h98b => ?_)
    ·
      refine vc_skip ?_
      refine vc_regionW (qm 3) [0, 1] rfl rfl ?_
      refine vq rfl rfl (q_add rfl rfl (w64 (by omega))) ?_
      refine vq rfl rfl (q_move rfl) ?_
      refine vendW ?_
      refine ⟨i + 1, by omega, by omega, ?_, ⟨rfl, trivial⟩, (by rw [valG, stepV1_1 (.inr h98b)])⟩
      repeat (first | exact Same.refl | refine Same.upd rfl ?_ | refine Same.drop rfl ?_)
    have hkd := hN.kd _ (show (ord.getD i default).toNat < n.nodes.length by omega)
    change ¬ (ndI n (ord.getD i default).toNat).k = 0 at h87
    change ¬ (ndI n (ord.getD i default).toNat).k = 1 at h98
    change ¬ (ndI n (ord.getD i default).toNat).k = 7 at h98b
    have hxk : 2 ≤ (ndI n (ord.getD i default).toNat).k ∧ (ndI n (ord.getD i default).toNat).k ≤ 6 := by constructor <;> omega
    refine vc_regionDW mx (qm 1823461878472193205542067399755995073337193751600565499370404356346159908090002388845054904550698866165844332713362102916110528062424733512714976264827437567) [0, 1, 2, 3, 4, 5, 6, 7, 8, 9] (by kernel_rfl) ?_
    refine vq rfl rfl (q_load sc93 rfl) ?_
    refine vq rfl rfl (q_nil rfl) ?_
    refine vq rfl rfl (q_fieldP fo141_2 rfl) ?_
    refine vr rfl rfl rfl (e_load sc139 rfl hS3.hp rfl ⟨rfl, rfl⟩) ?_
    refine vq rfl rfl (q_move rfl) ?_
    refine vq rfl rfl (q_loadA ag89 rfl rfl) ?_
    refine vq rfl rfl (q_move rfl) ?_
    refine vr rfl rfl rfl (e_callF go83 rfl (toldV go82 hxk (fun a ha => peek1 hS3 (by rw [valG_len, insN_len]; have := hN.us _ (show (ord.getD i default).toNat < n.nodes.length by omega) a ha; omega) ⟨rfl, rfl⟩) ⟨rfl, rfl⟩)) ?_
    refine vq rfl rfl (q_indexH sl139 rfl rfl (by omega) (by rw [valG_len, insN_len]; omega)) ?_
    refine vn rfl rfl (e_storeE sz5 rfl rfl rfl (upd_same _ _ _) (nthM (by rw [valG_len, insN_len]; omega)) rfl ?_)
    refine vendW ?_
    refine vc_regionW (qm 3) [0, 1] rfl rfl ?_
    refine vq rfl rfl (q_add rfl rfl (w64 (by omega))) ?_
    refine vq rfl rfl (q_move rfl) ?_
    refine vendW ?_
    refine ⟨i + 1, by omega, by omega, ?_, ⟨rfl, trivial⟩, (by rw [upd_upd, rowSet8, valG, stepV1_2 h87 h98 h98b])⟩
    repeat (first | exact Same.refl | refine Same.upd rfl ?_ | refine Same.drop rfl ?_)
  refine vc_exit ?_
  refine vc_seq ?_
  refine vc_regionW (qm 1) [0] rfl rfl ?_
  refine vq rfl rfl (q_assign rfl) ?_
  refine vendW ?_
  refine vc_seq ?_
  refine vc_seq ?_
  have hi2 : i = ord.length := by omega
  subst hi2
  have hS4 : SimS (upd s kv (.arr 5 1 ((lookV n ord v ins).map eU8))) p kv 5 n ord (lookV n ord v ins) := hS.set (by rw [lookV_len])
  change VC _ _ _ _ _ (upd s kv (.arr 5 1 ((lookV n ord v ins).map eU8)))
  refine vc_regionW (qm 214524926879081553593184399971293538039669853129478294043576983099548224481176751628829988770670454843040509730983776813660062124991145119142938384097345663) [0, 1, 2, 3, 4, 5, 6] rfl rfl ?_
  refine vq rfl rfl (q_load sc93 rfl) ?_
  refine vq rfl rfl (q_nil rfl) ?_
  refine vq rfl rfl (q_fieldP fo141_0 rfl) ?_
  refine vq rfl rfl (q_fieldP fo25_2 rfl) ?_
  refine vr rfl rfl rfl (e_load sc23 rfl hS4.hp rfl ⟨rfl, rfl⟩) ?_
  refine vq rfl rfl (q_len sl23 rfl (by first | exact lenM | rfl)) ?_
  refine vq rfl rfl (q_move rfl) ?_
  refine vendW ?_
  refine vc_block ?_
  refine vc_loopS (α := Nat × AV × St) [14, 16, 17, 18, 19, 108, 109, 110, 111, 112, 113, 114, 115, 116, 117, 118, 119, 120, 121, 122, 123, 124, 125, 126, 127, 128, 129, 130, 131, 132, 133, 134, 135, 136, 137, 138, 139, 140, 141, 142, 143, 144, 145, 146, 147] (fun a => [(108, .int (a.1 : Int)), (14, a.2.1)]) (fun a => a.2.2) (fun a => a.1 ≤ n.outs.length ∧ OwnSt (upd s kv (.arr 5 1 ((lookV n ord v ins).map eU8))) a.2.1 61 1 ((((n.outs.take a.1).map fun p => outP p (lookV n ord v ins))).map eN) a.2.2) (fun a => n.outs.length - a.1) (0, nilS, _) ⟨Nat.zero_le _, OwnSt.nil _ _ _⟩ rfl ⟨rfl, rfl, trivial⟩ (fun _ => rfl) ?_
  intro ⟨i, x, S⟩ ⟨hi, ho⟩
  simp only at hi ho ⊢
  refine vc_seq ?_
  refine vc_regionW (qm 1) [0] rfl rfl ?_
  refine vq rfl rfl (q_lt rfl rfl) ?_
  refine vendW ?_
  refine vc_seq ?_
  refine vc_condD rfl (fun h => ?_) (fun h => ?_)
  ·
    refine vc_skip ?_
    refine vc_seq ?_
    refine vc_block ?_
    refine vc_seq ?_
    refine vc_regionW (qm 3) [0, 1, 2, 3] rfl rfl ?_
    refine vq rfl rfl (q_index sl23 rfl rfl (by omega) (by first | exact nthI (by omega) | exact nthM (by omega))) ?_
    refine vq rfl rfl (q_loadA ag91 rfl rfl) ?_
    refine ve rfl rfl (e_alloc zr91 (fun k16 hk16 => ?_))
    refine vn rfl rfl (e_storeN sz91 rfl rfl rfl rfl (upd_same _ _ _) rfl ?_)
    refine vendW ?_
    refine vc_frzC (i := 16) hk16 (upd_upd _ _ _ _) rfl ?_
    refine vc_seq ?_
    have hi : i < n.outs.length := by omega
    have hpb := hN.bi _ (List.mem_append_right _ (getD_mem hi))
    have hpl := hpb.2
    refine vc_regionW (qm 191) [0, 1, 2, 3, 4, 5, 6, 7] rfl rfl ?_
    refine vq rfl rfl (q_field fo91_1 rfl (Nat.le_of_ble_eq_true rfl)) ?_
    refine vq rfl rfl (q_load sc40 rfl) ?_
    refine vq rfl rfl (q_len sl40 rfl (by first | exact lenM | rfl)) ?_
    refine vq rfl rfl (q_add rfl rfl (w64 (by omega))) ?_
    refine vq rfl rfl (q_sub rfl rfl (w64 (by omega))) ?_
    refine vq rfl rfl (q_quo rfl rfl (by decide) (quo32 (by omega) (by omega))) ?_
    refine ve rfl rfl (e_make sl61 zr92 rfl (List.cons_ne_nil _ _) rfl rfl (by omega) (by omega) (by omega) (by omega) (fun k hk0 => ?_))
    refine vq rfl rfl (q_assign rfl) ?_
    refine vendW ?_
    refine vc_seq ?_
    refine vc_seq ?_
    refine vc_regionW (qm 15) [0, 1, 2, 3] rfl rfl ?_
    refine vq rfl rfl (q_field fo91_1 rfl (Nat.le_of_ble_eq_true rfl)) ?_
    refine vq rfl rfl (q_load sc40 rfl) ?_
    refine vq rfl rfl (q_len sl40 rfl (by first | exact lenM | rfl)) ?_
    refine vq rfl rfl (q_move rfl) ?_
    refine vendW ?_
    refine vc_block ?_
    refine vc_loopS (α := Nat) [18, 19, 122, 123, 124, 125, 126, 127, 128, 129, 130, 131, 132, 133, 134, 135, 136, 137, 138, 139, 140, 141] (fun j => [(122, .int (j : Int))]) (fun j => (upd S k (.arr 92 1 ((outG (n.outs.getD i default).bits (lookV n ord v ins) (List.replicate (((n.outs.getD i default).bits.length + 31) / 32) 0) j).map eU)))) (fun j => j ≤ (n.outs.getD i default).bits.length) (fun j => (n.outs.getD i default).bits.length - j) 0 (by simp) (by rw [show ((((n.outs.getD i default).bits.length : Int) + 32 - 1) / 32).toNat = (((n.outs.getD i default).bits.length + 31) / 32) by omega, outG, List.map_replicate]; rfl) ⟨rfl, trivial⟩ (fun _ => rfl) ?_
    intro j hjk
    refine vc_seq ?_
    refine vc_regionW (qm 1) [0] rfl rfl ?_
    refine vq rfl rfl (q_lt rfl rfl) ?_
    refine vendW ?_
    refine vc_seq ?_
    refine vc_condD rfl (fun h => ?_) (fun h => ?_)
    ·
      refine vc_skip ?_
      refine vc_seq ?_
      refine vc_block ?_
      refine vc_seq ?_
      refine vc_regionW (qm 31) [0, 1, 2, 3, 4] rfl rfl ?_
      refine vq rfl rfl (q_move rfl) ?_
      refine vq rfl rfl (q_index sl40 rfl rfl (by omega) (by first | exact nthI (by omega) | exact nthM (by omega))) ?_
      refine vq rfl rfl (q_load sc3 rfl) ?_
      refine vq rfl rfl (q_assign rfl) ?_
      refine vq rfl rfl (q_assign rfl) ?_
      refine vendW ?_
      have hj : j < (n.outs.getD i default).bits.length := by omega
      have hat := hpb.1 _ (getD_mem hj)
      have hS6 := (hS4.le ho.le).le (Le.new1 (r1 := .arr 92 1 ((outG (n.outs.getD i default).bits (lookV n ord v ins) (List.replicate (((n.outs.getD i default).bits.length + 31) / 32) 0) j).map eU)) hk0)
      have hdl : j / 32 < (((n.outs.getD i default).bits.length + 31) / 32) := by omega
      refine vc_regionDW mx (qm 1930724341911733982338659599741641842357028678165304646392192847895934020330590764659469898936034093587364587578853991322940559124920306072286445456876126207) [0, 1, 2, 3, 4, 5, 6, 7, 8, 9, 10, 11, 12, 13, 14] (by kernel_rfl) ?_
      refine vq rfl rfl (q_move rfl) ?_
      refine vq rfl rfl (q_move rfl) ?_
      refine vq rfl rfl (q_quo rfl rfl (by decide) (quo32 (by omega) (by omega))) ?_
      refine vq rfl rfl (q_indexH sl61 rfl rfl (by omega) (by omega)) ?_
      refine vr rfl rfl rfl (e_loadE sc92 rfl (upd_same _ _ _) (nthM (by rw [outG_len, List.length_replicate]; omega)) rfl ⟨rfl, rfl⟩) ?_
      refine vq rfl rfl (q_move rfl) ?_
      refine vq rfl rfl (q_move rfl) ?_
      refine vr rfl rfl rfl (e_call go82 rfl rfl (peek1 hS6 (by rw [lookV_len]; omega) ⟨rfl, rfl⟩)) ?_
      refine vq rfl rfl (q_conv us5 ik92 rfl rfl) ?_
      refine vq rfl rfl (q_move rfl) ?_
      refine vq rfl rfl (q_rem rfl rfl (by decide) (rem32 (by omega))) ?_
      refine vq rfl rfl (q_shl rfl rfl (by omega) rfl) ?_
      refine vq rfl rfl (q_or rfl rfl rfl) ?_
      refine vq rfl rfl (q_indexH sl61 rfl rfl (by omega) (by omega)) ?_
      refine vn rfl rfl (e_storeE sz92 rfl rfl rfl (upd_same _ _ _) (nthM (by rw [outG_len, List.length_replicate]; omega)) rfl ?_)
      refine vendW ?_
      refine vc_regionW (qm 3) [0, 1] rfl rfl ?_
      refine vq rfl rfl (q_add rfl rfl (w64 (by omega))) ?_
      refine vq rfl rfl (q_move rfl) ?_
      refine vendW ?_
      refine ⟨j + 1, by omega, by omega, ?_, ⟨rfl, trivial⟩, (by rw [upd_upd, rowSetU, outG]; rfl)⟩
      repeat (first | exact Same.refl | refine Same.upd rfl ?_ | refine Same.drop rfl ?_)
    refine vc_exit ?_
    have hj2 : j = (n.outs.getD i default).bits.length := by omega
    subst hj2
    refine vc_frz (OwnSt.mk hk0 (by rw [List.length_map, outG_len, List.length_replicate]; omega)) (i := 17) rfl ?_
    refine vc_regionW (qm 43) [0, 1, 2, 3, 4, 5] rfl rfl ?_
    refine vq rfl rfl (q_move rfl) ?_
    refine vq rfl rfl (q_move rfl) ?_
    refine ve rfl rfl (e_callF go84 rfl (CallsA.le (ALes.cons (ALe.refl _) (ALes.cons (ale_nil 1) ALes.nil)) (CallsA.wk (add (y := []) (by rw [outG_len, List.length_replicate]; omega) (by simp) (outG_u32 _ _ _) (by intro x hx; cases hx) ⟨_, ale_slx 1 _, ?_⟩))))
    refine vq rfl rfl (q_buildS sl35 zo61 (by decide) rfl rfl rfl rfl (by decide)) ?_
    refine ve rfl rfl (e_append sl35 zo61 rfl rfl ho (SrcOK.slx 1 _) (rowsC1_one rfl) (by simp [maxLen_eq]; omega) (fun x3 s3 ho3 => ?_))
    refine vq rfl rfl (q_assign rfl) ?_
    refine vendW ?_
    refine vc_regionW (qm 3) [0, 1] rfl rfl ?_
    refine vq rfl rfl (q_add rfl rfl (w64 (by omega))) ?_
    refine vq rfl rfl (q_move rfl) ?_
    refine vendW ?_
    refine ⟨(i + 1, x3, s3), ⟨by simp only; omega, by rw [map_take_succ (by omega), List.map_append]; exact ho3⟩, by simp only; omega, ?_, ⟨rfl, rfl, trivial⟩, rfl⟩
    repeat (first | exact Same.refl | refine Same.upd rfl ?_ | refine Same.drop rfl ?_)
  refine vc_exit ?_
  refine vc_seq ?_
  refine vc_regionW (qm 7) [0, 1, 2] rfl rfl ?_
  refine vq rfl rfl (q_move rfl) ?_
  refine vq rfl rfl (q_assign rfl) ?_
  refine vq rfl rfl (q_assign rfl) ?_
  refine vendW ?_
  refine vc_ret ?_
  have e : i = n.outs.length := by omega
  subst e
  rw [List.take_length] at ho
  exact ret2 rfl rfl rfl ho.le ho.frz (Cv.le ho.le _) (hk2 hft)
end Go.Proofs.Ytpcpdepfnoijoaa

set_option linter.unusedVariables false
set_option linter.unusedSimpArgs false
set_option maxRecDepth 100000
namespace Go.Proofs.Ytpcpdepfnoijoaa
open Go.Vc
theorem flat_get_mem {us : List (List Int)} {a : Int} (h : a ∈ us.flatten) : ∃ m, a ∈ us.getD m [] := by
  obtain ⟨l, hl, ha⟩ := List.mem_flatten.1 h
  obtain ⟨m, hm, rfl⟩ := List.mem_iff_getElem.1 hl
  exact ⟨m, by simpa [List.getD_eq_getElem?_getD, hm] using ha⟩
theorem bkG_mem {l : List Int} {a : Int} {m : Nat} : ∀ i, a ∈ (bkG l i).getD m [] → 0 ≤ a ∧ a < i
  | 0, h => by
    simp only [bkG, List.getD_eq_getElem?_getD, List.getElem?_replicate] at h
    split at h <;> cases h
  | i + 1, h => by
    rw [bkG] at h
    rcases uStep_mem h with h | h
    · have := bkG_mem i h; omega
    · subst h; omega
theorem lvOf_len {n : Net} (h : errN n = 0) : (lvOf n).length = n.nodes.length := by
  have hn : n.nodes.length ≤ 262144 := by
    unfold errN at h
    by_cases hh : 262144 < n.nodes.length ∨ 64 < n.ins.length + n.outs.length
    · rw [if_pos hh] at h; cases h
    · omega
  obtain ⟨b, h1, h2⟩ := levelsR_inv n (by omega)
  unfold lvOf; rw [if_pos h, h1.lv]
theorem errN_ok {n : Net} (h : errN n = 0) : n.nodes.length ≤ 262144 ∧ n.ins.length + n.outs.length ≤ 64 ∧ ¬ formlessN n = true := by
  unfold errN at h
  by_cases hh : 262144 < n.nodes.length ∨ 64 < n.ins.length + n.outs.length
  · rw [if_pos hh] at h; cases h
  · rw [if_neg hh] at h
    by_cases hf : formlessN n = true
    · rw [if_pos hf] at h; cases h
    · exact ⟨by omega, by omega, hf⟩
theorem orderN_mem {n : Net} (h : errN n = 0) {a : Int} (ha : a ∈ orderN n) : 0 ≤ a ∧ a < n.nodes.length := by
  unfold orderN at ha
  split at ha
  · cases ha
  · obtain ⟨m, hm⟩ := flat_get_mem ha
    have := bkG_mem _ hm
    rw [lvOf_len h] at this; exact this
theorem orderN_len {n : Net} (h : errN n = 0) : (orderN n).length = n.nodes.length := by
  unfold orderN
  split
  · rename_i e; rw [← lvOf_len h, e, List.length_nil]
  · rename_i e
    have hl := List.length_pos_iff.2 e
    obtain ⟨h1, h2⟩ := order_facts h hl
    rw [bk_flat (l := lvOf n) (fun m hm => ⟨(h2 m).1, maxL_ge hm⟩) _ (Nat.le_refl _), lvOf_len h]
theorem formless_node {n : Net} (h : ¬ formlessN n = true) {i : Nat} (hi : i < n.nodes.length) : 0 ≤ (ndI n i).k ∧ (ndI n i).k < 8 ∧ plainN (ndI n i) = ndI n i := by
  have h1 : badNode n.nodes.length (ndI n i) = false := by
    cases hb : badNode n.nodes.length (ndI n i) with
    | false => rfl
    | true => exact absurd (by unfold formlessN; rw [any_some hi hb]; rfl) h
  unfold badNode at h1
  simp at h1
  exact ⟨h1.1.1.1, h1.1.1.2, h1.1.2⟩
theorem netV_of {n : Net} (hB : NetB n) (h : errN n = 0) : NetV n (orderN n) := by
  obtain ⟨h1, h2, h3⟩ := errN_ok h
  refine ⟨formless_uses h3, fun a ha => orderN_mem h ha, fun p hp => ⟨formless_bits h3 p hp, by have := hB.bits p hp; omega⟩, fun i hi => ?_, by omega, by rw [orderN_len h]; omega, by omega, by omega⟩
  have := formless_node h3 hi
  exact ⟨this.1, this.2.1⟩
def zerosN (n : Net) : List Int := List.replicate n.nodes.length 0
theorem mk8 (n : Net) : List.replicate (n.nodes.length : Int).toNat ([Value.int .u8 0].map AV.v) = (zerosN n).map eU8 := by
  unfold zerosN; rw [List.map_replicate, show (n.nodes.length : Int).toNat = n.nodes.length by omega]; rfl
theorem newSim {n : Net} {s : St} {K : AV → St → Prop} (hB : NetB n) (hk1 : errN n ≠ 0 → K (.tup [.v (.pointer none), .int (errN n)]) s) (hk2 : errN n = 0 → ∀ p kv, s kv = none → s p = none → p ≠ kv → K (.tup [ptv p 0, .int 0]) (upd (upd s kv (.arr 5 1 ((rstN n (zerosN n) n.nodes.length).map eU8))) p (simC n (orderN n) kv n.nodes.length))) : CallsA Try.prog 44 [netA n] s K := by
  have hb1 := hB.nodes
  refine callsA_of Try.func44 rfl rfl (Nat.le_of_ble_eq_true rfl) ?_
  refine vc_seq ?_
  refine vc_regionW (qm 7) [0, 1, 2] rfl rfl ?_
  refine vq rfl rfl (q_box rfl rfl) ?_
  refine vq rfl rfl (q_assign rfl) ?_
  refine vq rfl rfl (q_assign rfl) ?_
  refine vendW ?_
  refine vc_seq ?_
  refine vc_regionW (qm 125) [0, 1, 2, 3, 4, 5, 6] rfl rfl ?_
  refine vq rfl rfl (q_loadA ag25 rfl rfl) ?_
  refine ve rfl rfl (e_callF go79 rfl (order hB ?_))
  refine vq rfl rfl (q_move rfl) ?_
  refine vq rfl rfl (q_extract rfl rfl) ?_
  refine vq rfl rfl (q_extract rfl rfl) ?_
  refine vq rfl rfl (q_assign rfl) ?_
  refine vq rfl rfl (q_assign rfl) ?_
  refine vendW ?_
  refine vc_seq ?_
  refine vc_seq ?_
  refine vc_regionW (qm 3) [0, 1] rfl rfl ?_
  refine vq rfl rfl (q_move rfl) ?_
  refine vq rfl rfl (q_ne rfl rfl) ?_
  refine vendW ?_
  refine vc_condD rfl (fun h13 => ?_) (fun h13 => ?_)
  ·
    refine vc_seq ?_
    refine vc_regionW (qm 7) [0, 1, 2] rfl rfl ?_
    refine vq rfl rfl (q_move rfl) ?_
    refine vq rfl rfl (q_assign rfl) ?_
    refine vq rfl rfl (q_assign rfl) ?_
    refine vendW ?_
    refine vc_ret ?_
    exact ret2 rfl rfl rfl (Le.refl _) (Cv.le (Le.refl _) _) (Cv.le (Le.refl _) _) (hk1 h13)
  refine vc_skip ?_
  refine vc_seq ?_
  have hE : errN n = 0 := by omega
  obtain ⟨hb2, hb3, _⟩ := errN_ok hE
  have hb4 := hB.ins
  have hb5 := hB.outs
  refine vc_regionDW mx (qm 703) [0, 1, 2, 3, 4, 5, 6, 7, 8, 9] (by kernel_rfl) ?_
  refine vq rfl rfl (q_loadA ag25 rfl rfl) ?_
  refine vq rfl rfl (q_callF go67 rfl (fun s => cloneNet (by omega) (by omega) (by omega) (fun p hp => by have := hB.bits p hp; omega) ⟨rfl, rfl⟩)) ?_
  refine vq rfl rfl (q_move rfl) ?_
  refine vq rfl rfl (q_field fo25_0 rfl (Nat.le_of_ble_eq_true rfl)) ?_
  refine vq rfl rfl (q_load sc22 rfl) ?_
  refine vq rfl rfl (q_len sl22 rfl (by first | exact lenM | rfl)) ?_
  refine ve rfl rfl (e_make sl139 zr5 rfl (List.cons_ne_nil _ _) rfl rfl (by omega) (by omega) (by omega) (by omega) (fun kv hkv => ?_))
  refine vq rfl rfl (q_build pl141 zr141 rfl rfl) ?_
  refine ve rfl rfl (e_box rfl rfl (fun p hp => ?_))
  refine vq rfl rfl (q_assign rfl) ?_
  refine vendW ?_
  have hne : p ≠ kv := fun e => by subst e; rw [upd_same] at hp; cases hp
  have hsp : s p = none := by rw [upd_ne _ _ hne] at hp; exact hp
  rw [mk8]
  rw [show n.nodes.length = (zerosN n).length by simp [zerosN]]
  refine vc_seq ?_
  refine vc_regionW (qm 1) [0, 1] rfl rfl ?_
  refine vq rfl rfl (q_move rfl) ?_
  refine ve rfl rfl (e_callF go48 rfl (reset (v := zerosN n) (ord := orderN n) ⟨upd_same _ _ _, (upd_ne _ _ hne.symm).trans (upd_same _ _ _), hne⟩ (netV_of hB hE) (by simp [zerosN]) ?_))
  refine vendW ?_
  rw [upd_comm _ hne, upd_upd]
  rw [show (zerosN n).length = n.nodes.length by simp [zerosN]]
  refine vc_seq ?_
  refine vc_regionW (qm 7) [0, 1, 2] rfl rfl ?_
  refine vq rfl rfl (q_move rfl) ?_
  refine vq rfl rfl (q_assign rfl) ?_
  refine vq rfl rfl (q_assign rfl) ?_
  refine vendW ?_
  refine vc_ret ?_
  exact ret2 rfl rfl rfl (Le.refl _) (Cv.le (Le.refl _) _) (Cv.le (Le.refl _) _) (hk2 hE p kv hkv hsp hne)
theorem step_no {ins : List (List Int)} {p kv : Nat} {n : Net} {ord v : List Int} {s : St} {K : AV → St → Prop} (hS : SimS s p kv 5 n ord v) (hN : NetV n ord) (hl : v.length = n.nodes.length) (hI : InsB ins) (hf : fitsN n ins = false) (hk : K (.tup [natsA [], .int 5]) s) : CallsA Try.prog 45 [ptv p 0, natsA ins] s K := by
  refine callsA_of Try.func45 rfl rfl (Nat.le_of_ble_eq_true rfl) ?_
  refine vc_seq ?_
  refine vc_regionW (qm 3) [0, 1] rfl rfl ?_
  refine vq rfl rfl (q_assign rfl) ?_
  refine vq rfl rfl (q_assign rfl) ?_
  refine vendW ?_
  refine vc_seq ?_
  refine vc_regionW (qm 251) [0, 1, 2, 3, 4, 5, 6, 7] rfl rfl ?_
  refine vq rfl rfl (q_move rfl) ?_
  refine vq rfl rfl (q_move rfl) ?_
  refine ve rfl rfl (e_callF go46 rfl (peek hS hN hl hI (fun _ => ?_) (fun h2 => by rw [hf] at h2; cases h2)))
  refine vq rfl rfl (q_move rfl) ?_
  refine vq rfl rfl (q_extract rfl rfl) ?_
  refine vq rfl rfl (q_extract rfl rfl) ?_
  refine vq rfl rfl (q_assign rfl) ?_
  refine vq rfl rfl (q_assign rfl) ?_
  refine vendW ?_
  refine vc_seq ?_
  refine vc_seq ?_
  refine vc_regionW (qm 3) [0, 1] rfl rfl ?_
  refine vq rfl rfl (q_move rfl) ?_
  refine vq rfl rfl (q_ne rfl rfl) ?_
  refine vendW ?_
  refine vc_condT rfl (by rfl) ?_
  refine vc_seq ?_
  refine vc_regionW (qm 7) [0, 1, 2] rfl rfl ?_
  refine vq rfl rfl (q_move rfl) ?_
  refine vq rfl rfl (q_assign rfl) ?_
  refine vq rfl rfl (q_assign rfl) ?_
  refine vendW ?_
  refine vc_ret ?_
  exact ret2 rfl rfl rfl (Le.refl _) (Cv.ale (Le.refl _) (ale_nil 1)) (Cv.le (Le.refl _) _) hk
theorem step_ok {ins : List (List Int)} {p kv : Nat} {n : Net} {ord v : List Int} {s : St} {K : AV → St → Prop} (hS : SimS s p kv 5 n ord v) (hN : NetV n ord) (hl : v.length = n.nodes.length) (hI : InsB ins) (hf : fitsN n ins = true) (hk : ∀ kn, s kn = none → K (.tup [natsA (peekN n ord v ins), .int 0]) (upd (upd (upd s kv (.arr 5 1 ((lookV n ord v ins).map eU8))) kn (.arr 5 1 ((nextG n (lookV n ord v ins) n.nodes.length).map eU8))) p (simC n ord kn v.length))) : CallsA Try.prog 45 [ptv p 0, natsA ins] s K := by
  have hln := hN.ln
  have hnl := hN.ln.1
  have hvl : (lookV n ord v ins).length = v.length := lookV_len
  refine callsA_of Try.func45 rfl rfl (Nat.le_of_ble_eq_true rfl) ?_
  refine vc_seq ?_
  refine vc_regionW (qm 3) [0, 1] rfl rfl ?_
  refine vq rfl rfl (q_assign rfl) ?_
  refine vq rfl rfl (q_assign rfl) ?_
  refine vendW ?_
  refine vc_seq ?_
  refine vc_regionW (qm 251) [0, 1, 2, 3, 4, 5, 6, 7] rfl rfl ?_
  refine vq rfl rfl (q_move rfl) ?_
  refine vq rfl rfl (q_move rfl) ?_
  refine ve rfl rfl (e_callF go46 rfl (peek hS hN hl hI (fun h2 => by rw [hf] at h2; cases h2) (fun _ => ?_)))
  refine vq rfl rfl (q_move rfl) ?_
  refine vq rfl rfl (q_extract rfl rfl) ?_
  refine vq rfl rfl (q_extract rfl rfl) ?_
  refine vq rfl rfl (q_assign rfl) ?_
  refine vq rfl rfl (q_assign rfl) ?_
  refine vendW ?_
  refine vc_seq ?_
  refine vc_seq ?_
  refine vc_regionW (qm 3) [0, 1] rfl rfl ?_
  refine vq rfl rfl (q_move rfl) ?_
  refine vq rfl rfl (q_ne rfl rfl) ?_
  refine vendW ?_
  refine vc_condF rfl rfl ?_
  refine vc_skip ?_
  refine vc_seq ?_
  have hS1 : SimS (upd s kv (.arr 5 1 ((lookV n ord v ins).map eU8))) p kv 5 n ord (lookV n ord v ins) := hS.set lookV_len
  refine vc_regionW (qm 107262463439540776796592199985646769019834926564739147021788491549774112240588375814414994385335227421520254865491888406830031062495572559571469192048672863) [0, 1, 2, 3, 4, 5, 6] rfl rfl ?_
  refine vq rfl rfl (q_move rfl) ?_
  refine vq rfl rfl (q_nil rfl) ?_
  refine vq rfl rfl (q_fieldP fo141_2 rfl) ?_
  refine vr rfl rfl rfl (e_load sc139 rfl hS1.hp rfl ⟨rfl, rfl⟩) ?_
  refine vq rfl rfl (q_len sl139 rfl (by first | exact lenM | rfl)) ?_
  refine ve rfl rfl (e_make sl139 zr5 rfl (List.cons_ne_nil _ _) rfl rfl (by omega) (by omega) (by omega) (by omega) (fun kn hkn => ?_))
  refine vq rfl rfl (q_assign rfl) ?_
  refine vendW ?_
  refine vc_seq ?_
  refine vc_regionW (qm 214524926879081553593184399971293538039669853129478294043576983099548224481176751628829988770670454843040509730983776813660062124991145119142938384097345567) [0, 1, 2, 3, 4, 5] rfl rfl ?_
  refine vq rfl rfl (q_move rfl) ?_
  refine vq rfl rfl (q_move rfl) ?_
  refine vq rfl rfl (q_nil rfl) ?_
  refine vq rfl rfl (q_fieldP fo141_2 rfl) ?_
  refine vr rfl rfl rfl (e_load sc139 rfl (hS1.le (Le.new1 hkn)).hp rfl ⟨rfl, rfl⟩) ?_
  refine ve rfl rfl (e_copyN _ ((lookV n ord v ins).map eU8) sl139 rfl (by simp) rfl (upd_same _ _ _) (SrcOK.arrN (hS1.le (Le.new1 hkn)).hv (by simp)) (rowsC1_map (fun _ => rfl) _) (by simp) ?_)
  refine vendW ?_
  rw [upd_upd]
  have hS6 : ∀ B, SimS (upd (upd s kv (.arr 5 1 ((lookV n ord v ins).map eU8))) kn (.arr 5 1 B)) p kv 5 n ord (lookV n ord v ins) := fun B => hS1.le (Le.new1 hkn)
  have hS5 := hS6 ((lookV n ord v ins).map eU8)
  refine vc_seq ?_
  refine vc_seq ?_
  refine vc_regionW (qm 214524926879081553593184399971293538039669853129478294043576983099548224481176751628829988770670454843040509730983776813660062124991145119142938384097345663) [0, 1, 2, 3, 4, 5, 6] rfl rfl ?_
  refine vq rfl rfl (q_move rfl) ?_
  refine vq rfl rfl (q_nil rfl) ?_
  refine vq rfl rfl (q_fieldP fo141_0 rfl) ?_
  refine vq rfl rfl (q_fieldP fo25_0 rfl) ?_
  refine vr rfl rfl rfl (e_load sc22 rfl hS5.hp rfl ⟨rfl, rfl⟩) ?_
  refine vq rfl rfl (q_len sl22 rfl (by first | exact lenM | rfl)) ?_
  refine vq rfl rfl (q_move rfl) ?_
  refine vendW ?_
  refine vc_block ?_
  refine vc_loopS (α := Nat) [9, 10, 38, 39, 40, 41, 42, 43, 44, 45, 46, 47, 48, 49, 50, 51, 52, 53, 54, 55, 56, 57] (fun i => [(38, .int (i : Int))]) (fun i => (upd (upd s kv (.arr 5 1 ((lookV n ord v ins).map eU8))) kn (.arr 5 1 (((nextG n (lookV n ord v ins) i)).map eU8)))) (fun i => i ≤ n.nodes.length) (fun i => n.nodes.length - i) 0 (by simp) rfl ⟨rfl, trivial⟩ (fun _ => rfl) ?_
  intro i hok
  refine vc_seq ?_
  refine vc_regionW (qm 1) [0] rfl rfl ?_
  refine vq rfl rfl (q_lt rfl rfl) ?_
  refine vendW ?_
  refine vc_seq ?_
  refine vc_condD rfl (fun h => ?_) (fun h => ?_)
  ·
    refine vc_skip ?_
    refine vc_seq ?_
    refine vc_block ?_
    refine vc_seq ?_
    refine vc_regionW (qm 23) [0, 1, 2, 3, 4, 5] rfl rfl ?_
    refine vq rfl rfl (q_move rfl) ?_
    refine vq rfl rfl (q_index sl22 rfl rfl (by omega) (by first | exact nthI (by omega) | exact nthM (by omega))) ?_
    refine vq rfl rfl (q_loadA ag89 rfl rfl) ?_
    refine ve rfl rfl (e_alloc zr89 (fun k10 hk10 => ?_))
    refine vq rfl rfl (q_assign rfl) ?_
    refine vn rfl rfl (e_storeN sz89 rfl rfl rfl rfl (upd_same _ _ _) rfl ?_)
    refine vendW ?_
    refine vc_frzC (i := 10) hk10 (upd_upd _ _ _ _) rfl ?_
    refine vc_seq ?_
    refine vc_regionW (qm 7) [0, 1, 2] rfl rfl ?_
    refine vq rfl rfl (q_field fo89_0 rfl (Nat.le_of_ble_eq_true rfl)) ?_
    refine vq rfl rfl (q_load sc3 rfl) ?_
    refine vq rfl rfl (q_eq rfl rfl) ?_
    refine vendW ?_
    refine vc_condD rfl (fun h45 => ?_) (fun h45 => ?_)
    ·
      have hi : i < n.nodes.length := by omega
      have hda := hN.us i hi (ndI n i).a (by unfold usesN; rw [if_pos (.inr h45)]; simp)
      change 0 ≤ (n.nodes.getD i default).a ∧ (n.nodes.getD i default).a < _ at hda
      refine vc_regionDW mx (qm 7293847513888772822168269599023980293348775006402261997481617425384639632360009555380219618202795464663377330853448411664442112249698934050859905059309750271) [0, 1, 2, 3, 4, 5, 6, 7, 8, 9, 10, 11] (by kernel_rfl) ?_
      refine vq rfl rfl (q_move rfl) ?_
      refine vq rfl rfl (q_move rfl) ?_
      refine vq rfl rfl (q_move rfl) ?_
      refine vq rfl rfl (q_nil rfl) ?_
      refine vq rfl rfl (q_fieldP fo141_2 rfl) ?_
      refine vr rfl rfl rfl (e_load sc139 rfl (hS6 _).hp rfl ⟨rfl, rfl⟩) ?_
      refine vq rfl rfl (q_field fo89_1 rfl (Nat.le_of_ble_eq_true rfl)) ?_
      refine vq rfl rfl (q_load sc3 rfl) ?_
      refine vq rfl rfl (q_indexH sl139 rfl rfl (by omega) (by omega)) ?_
      refine vr rfl rfl rfl (e_loadE sc5 rfl (hS6 _).hv (nthM (by omega)) rfl ⟨rfl, rfl⟩) ?_
      refine vq rfl rfl (q_indexH sl139 rfl rfl (by omega) (by omega)) ?_
      refine vn rfl rfl (e_storeE sz5 rfl rfl rfl (upd_same _ _ _) (nthI (by rw [nextG_len]; omega)) rfl ?_)
      refine vendW ?_
      refine vc_regionW (qm 3) [0, 1] rfl rfl ?_
      refine vq rfl rfl (q_add rfl rfl (w64 (by omega))) ?_
      refine vq rfl rfl (q_move rfl) ?_
      refine vendW ?_
      refine ⟨i + 1, by omega, by omega, ?_, ⟨rfl, trivial⟩, (by rw [upd_upd, rowSet8, nextG, if_pos h45]; rfl)⟩
      repeat (first | exact Same.refl | refine Same.upd rfl ?_ | refine Same.drop rfl ?_)
    refine vc_skip ?_
    refine vc_regionW (qm 3) [0, 1] rfl rfl ?_
    refine vq rfl rfl (q_add rfl rfl (w64 (by omega))) ?_
    refine vq rfl rfl (q_move rfl) ?_
    refine vendW ?_
    refine ⟨i + 1, by omega, by omega, ?_, ⟨rfl, trivial⟩, (by rw [nextG, if_neg h45])⟩
    repeat (first | exact Same.refl | refine Same.upd rfl ?_ | refine Same.drop rfl ?_)
  refine vc_exit ?_
  refine vc_seq ?_
  refine vc_regionW (qm 15) [0, 1, 2, 3, 4] rfl rfl ?_
  refine vq rfl rfl (q_move rfl) ?_
  refine vq rfl rfl (q_move rfl) ?_
  refine vq rfl rfl (q_nil rfl) ?_
  refine vq rfl rfl (q_fieldP fo141_2 rfl) ?_
  refine vn rfl rfl (e_store sz139 rfl rfl rfl (hS6 _).hp rfl ?_)
  refine vendW ?_
  have hskn : s kn = none := by cases e : s kn with | none => rfl | some r => (by_cases e2 : kn = kv; (· subst e2; rw [upd_same] at hkn; cases hkn); (· rw [upd_ne _ _ e2, e] at hkn; cases hkn))
  refine vc_seq ?_
  refine vc_regionW (qm 7) [0, 1, 2] rfl rfl ?_
  refine vq rfl rfl (q_move rfl) ?_
  refine vq rfl rfl (q_assign rfl) ?_
  refine vq rfl rfl (q_assign rfl) ?_
  refine vendW ?_
  refine vc_ret ?_
  have e : i = n.nodes.length := by omega
  subst e
  rw [hvl]
  exact ret2 rfl rfl rfl (Le.refl _) (Cv.le (Le.refl _) _) (Cv.le (Le.refl _) _) (hk kn hskn)
def vAtN (n : Net) (sc : List (List (List Int))) : Nat → List Int
  | 0 => rstN n (zerosN n) n.nodes.length
  | i + 1 => nextG n (lookV n (orderN n) (vAtN n sc i) (sc.getD i default)) n.nodes.length
theorem vAtN_len (n : Net) (sc : List (List (List Int))) : ∀ i, (vAtN n sc i).length = n.nodes.length
  | 0 => by rw [vAtN, rstN_len]; simp [zerosN]
  | i + 1 => by rw [vAtN, nextG_len, lookV_len, vAtN_len n sc i]
def outAt (n : Net) (sc : List (List (List Int))) (i : Nat) : List (List Int) := peekN n (orderN n) (vAtN n sc i) (sc.getD i default)
def outsN (n : Net) (sc : List (List (List Int))) (i : Nat) : List (List (List Int)) := (List.range i).map (outAt n sc)
theorem outsN_len (n : Net) (sc : List (List (List Int))) (i : Nat) : (outsN n sc i).length = i := by simp [outsN]
theorem outsN_succ (n : Net) (sc : List (List (List Int))) (i : Nat) : outsN n sc (i + 1) = outsN n sc i ++ [outAt n sc i] := by simp [outsN, List.range_succ]
def fitsAll (n : Net) (sc : List (List (List Int))) : Bool := (List.range sc.length).all fun i => fitsN n (sc.getD i default)
structure ScB (sc : List (List (List Int))) : Prop where
  ln : sc.length < 1099511627776
  it : ∀ x ∈ sc, InsB x
theorem sim_move {s s0 S : St} {x : AV} {e8 p kv kn : Nat} {n : Net} {ord v v1 v2 : List Int} {e : Nat} {rows : List (List AV)} (hle : Le s s0) (hsk : s kv = none ∧ s p = none) (hS : SimS s0 p kv e8 n ord v) (ho : OwnSt s0 x e 1 rows S) (hkn : S kn = none) (hl : v2.length = v.length) :
    ∃ s0', SimS s0' p kn e8 n ord v2 ∧ OwnSt s0' x e 1 rows (upd (upd (upd S kv (.arr e8 1 (v1.map eU8))) kn (.arr e8 1 (v2.map eU8))) p (simC n ord kn v.length)) ∧ Le s s0' ∧ s kn = none ∧ s p = none := by
  have hk0 := ho.none hkn
  have hskn : s kn = none := by
    cases h : s kn with
    | none => rfl
    | some r => rw [hle _ _ h] at hk0; cases hk0
  have hpn : p ≠ kn := ne_none hk0 hS.hp
  have hvn : kv ≠ kn := ne_none hk0 hS.hv
  have h1 := ho.other (r := .arr e8 1 (v1.map eU8)) hS.hv
  have h2 := h1.add (r := .arr e8 1 (v2.map eU8)) (p := kn) (by rw [upd_ne _ _ hvn.symm]; exact hkn)
  have h3 := h2.other (r := simC n ord kn v.length) (p := p) ((upd_ne _ _ hpn).trans ((upd_ne _ _ hS.ne).trans hS.hp))
  exact ⟨_, ⟨by rw [hl]; exact upd_same _ _ _, (upd_ne _ _ hpn.symm).trans (upd_same _ _ _), hpn⟩, h3, ((hle.updN hsk.1).updN hskn).updN hsk.2, hskn, hsk.2⟩
theorem run_no {n : Net} {sc : List (List (List Int))} {s : St} {K : AV → St → Prop} (hB : NetB n) (hE : errN n ≠ 0) (hk : K (.tup [scriptA [], .int (errN n)]) s) : CallsA Try.prog 12 [netA n, scriptA sc] s K := by
  refine callsA_of Try.func12 rfl rfl (Nat.le_of_ble_eq_true rfl) ?_
  refine vc_seq ?_
  refine vc_regionW (qm 7) [0, 1, 2] rfl rfl ?_
  refine vq rfl rfl (q_box rfl rfl) ?_
  refine vq rfl rfl (q_assign rfl) ?_
  refine vq rfl rfl (q_assign rfl) ?_
  refine vendW ?_
  refine vc_seq ?_
  refine vc_regionW (qm 125) [0, 1, 2, 3, 4, 5, 6] rfl rfl ?_
  refine vq rfl rfl (q_loadA ag25 rfl rfl) ?_
  refine ve rfl rfl (e_callF go44 rfl (newSim hB (fun _ => ?_) (fun h2 => absurd h2 hE)))
  refine vq rfl rfl (q_move rfl) ?_
  refine vq rfl rfl (q_extract rfl rfl) ?_
  refine vq rfl rfl (q_extract rfl rfl) ?_
  refine vq rfl rfl (q_assign rfl) ?_
  refine vq rfl rfl (q_assign rfl) ?_
  refine vendW ?_
  refine vc_seq ?_
  refine vc_seq ?_
  refine vc_regionW (qm 3) [0, 1] rfl rfl ?_
  refine vq rfl rfl (q_move rfl) ?_
  refine vq rfl rfl (q_ne rfl rfl) ?_
  refine vendW ?_
  refine vc_condT rfl (by exact decide_eq_true hE) ?_
  refine vc_seq ?_
  refine vc_regionW (qm 7) [0, 1, 2] rfl rfl ?_
  refine vq rfl rfl (q_move rfl) ?_
  refine vq rfl rfl (q_assign rfl) ?_
  refine vq rfl rfl (q_assign rfl) ?_
  refine vendW ?_
  refine vc_ret ?_
  exact ret2 rfl rfl rfl (Le.refl _) (Cv.ale (Le.refl _) (ale_nil 1)) (Cv.le (Le.refl _) _) hk
theorem run_ok {n : Net} {sc : List (List (List Int))} {s : St} {K : AV → St → Prop} (hB : NetB n) (hE : errN n = 0) (hsc : ScB sc) (hk1 : fitsAll n sc = true → K (.tup [scriptA (outsN n sc sc.length), .int 0]) s) (hk2 : fitsAll n sc = false → K (.tup [scriptA [], .int 5]) s) : CallsA Try.prog 12 [netA n, scriptA sc] s K := by
  have hscl := hsc.ln
  have hNV := netV_of hB hE
  refine callsA_of Try.func12 rfl rfl (Nat.le_of_ble_eq_true rfl) ?_
  refine vc_seq ?_
  refine vc_regionW (qm 7) [0, 1, 2] rfl rfl ?_
  refine vq rfl rfl (q_box rfl rfl) ?_
  refine vq rfl rfl (q_assign rfl) ?_
  refine vq rfl rfl (q_assign rfl) ?_
  refine vendW ?_
  refine vc_seq ?_
  refine vc_regionW (qm 125) [0, 1, 2, 3, 4, 5, 6] rfl rfl ?_
  refine vq rfl rfl (q_loadA ag25 rfl rfl) ?_
  refine ve rfl rfl (e_callF go44 rfl (newSim hB (fun h2 => absurd hE h2) (fun _ p kv hkv hp hne => ?_)))
  refine vq rfl rfl (q_move rfl) ?_
  refine vq rfl rfl (q_extract rfl rfl) ?_
  refine vq rfl rfl (q_extract rfl rfl) ?_
  refine vq rfl rfl (q_assign rfl) ?_
  refine vq rfl rfl (q_assign rfl) ?_
  refine vendW ?_
  refine vc_seq ?_
  refine vc_seq ?_
  refine vc_regionW (qm 3) [0, 1] rfl rfl ?_
  refine vq rfl rfl (q_move rfl) ?_
  refine vq rfl rfl (q_ne rfl rfl) ?_
  refine vendW ?_
  refine vc_condF rfl (decide_eq_false (by omega)) ?_
  refine vc_skip ?_
  refine vc_seq ?_
  have hS0 : SimS (upd (upd s kv (.arr 5 1 ((rstN n (zerosN n) n.nodes.length).map eU8))) p (simC n (orderN n) kv n.nodes.length)) p kv 5 n (orderN n) (vAtN n sc 0) := ⟨by rw [vAtN_len]; exact upd_same _ _ _, (upd_ne _ _ hne.symm).trans (upd_same _ _ _), hne⟩
  refine vc_regionW (qm 1) [0] rfl rfl ?_
  refine vq rfl rfl (q_assign rfl) ?_
  refine vendW ?_
  refine vc_seq ?_
  refine vc_seq ?_
  refine vc_regionW (qm 7) [0, 1, 2] rfl rfl ?_
  refine vq rfl rfl (q_move rfl) ?_
  refine vq rfl rfl (q_len sl26 rfl (by first | exact lenM | rfl)) ?_
  refine vq rfl rfl (q_move rfl) ?_
  refine vendW ?_
  refine vc_block ?_
  refine vc_loopS (α := Nat × AV × St × St × Nat) [4, 5, 8, 10, 11, 12, 23, 24, 25, 26, 27, 28, 29, 30, 31, 32, 33, 34, 35, 36, 37, 38, 39, 40] (fun a => [(23, .int (a.1 : Int)), (8, a.2.1)]) (fun a => a.2.2.2.1) (fun a => a.1 ≤ sc.length ∧ SimS a.2.2.1 p a.2.2.2.2 5 n (orderN n) (vAtN n sc a.1) ∧ OwnSt a.2.2.1 a.2.1 35 1 ((outsN n sc a.1).map eNs) a.2.2.2.1 ∧ Le s a.2.2.1 ∧ (s a.2.2.2.2 = none ∧ s p = none) ∧ ∀ j, j < a.1 → fitsN n (sc.getD j default) = true) (fun a => sc.length - a.1) (0, nilS, _, _, kv) ⟨Nat.zero_le _, hS0, OwnSt.nil _ _ _, ((Le.refl s).updN hkv).updN hp, ⟨hkv, hp⟩, fun j hj => by omega⟩ rfl ⟨rfl, rfl, trivial⟩ (fun _ => rfl) ?_
  intro ⟨i, x, s0, S, kv⟩ ⟨hi, hSS, ho, hle, hsk, hall⟩
  simp only at hi hSS ho hle hsk hall ⊢
  refine vc_seq ?_
  refine vc_regionW (qm 1) [0] rfl rfl ?_
  refine vq rfl rfl (q_lt rfl rfl) ?_
  refine vendW ?_
  refine vc_seq ?_
  refine vc_condD rfl (fun h => ?_) (fun h => ?_)
  ·
    refine vc_skip ?_
    refine vc_seq ?_
    refine vc_block ?_
    refine vc_seq ?_
    refine vc_regionW (qm 7) [0, 1, 2] rfl rfl ?_
    refine vq rfl rfl (q_index sl26 rfl rfl (by omega) (by first | exact nthI (by omega) | exact nthM (by omega))) ?_
    refine vq rfl rfl (q_load sc35 rfl) ?_
    refine vq rfl rfl (q_assign rfl) ?_
    refine vendW ?_
    refine vc_seq ?_
    by_cases hf : fitsN n (sc.getD i default) = true
    ·
      refine vc_regionW (qm 251) [0, 1, 2, 3, 4, 5, 6, 7] rfl rfl ?_
      refine vq rfl rfl (q_move rfl) ?_
      refine vq rfl rfl (q_move rfl) ?_
      refine ve rfl rfl (e_callF go45 rfl (step_ok (hSS.le ho.le) hNV (vAtN_len n sc i) (hsc.it _ (getD_mem (by omega))) hf (fun kn hkn => ?_)))
      refine vq rfl rfl (q_move rfl) ?_
      refine vq rfl rfl (q_extract rfl rfl) ?_
      refine vq rfl rfl (q_extract rfl rfl) ?_
      refine vq rfl rfl (q_assign rfl) ?_
      refine vq rfl rfl (q_assign rfl) ?_
      refine vendW ?_
      obtain ⟨t0, hSS2, ho2, hle2, hsk2⟩ := sim_move (v1 := lookV n (orderN n) (vAtN n sc i) (sc.getD i default)) (v2 := vAtN n sc (i + 1)) hle hsk hSS ho hkn (by rw [vAtN_len, vAtN_len])
      refine vc_seq ?_
      refine vc_seq ?_
      refine vc_regionW (qm 3) [0, 1] rfl rfl ?_
      refine vq rfl rfl (q_move rfl) ?_
      refine vq rfl rfl (q_ne rfl rfl) ?_
      refine vendW ?_
      refine vc_condF rfl rfl ?_
      refine vc_skip ?_
      refine vc_regionW (qm 23) [0, 1, 2, 3, 4] rfl rfl ?_
      refine vq rfl rfl (q_move rfl) ?_
      refine vq rfl rfl (q_move rfl) ?_
      refine vq rfl rfl (q_buildS sl26 zo35 (by decide) rfl rfl rfl rfl (by decide)) ?_
      refine ve rfl rfl (e_append sl26 zo35 rfl rfl ho2 (SrcOK.slx 1 _) (rowsC1_one rfl) (by simp [maxLen_eq, outsN_len]; omega) (fun x3 s3 ho3 => ?_))
      refine vq rfl rfl (q_assign rfl) ?_
      refine vendW ?_
      refine vc_regionW (qm 3) [0, 1] rfl rfl ?_
      refine vq rfl rfl (q_add rfl rfl (w64 (by omega))) ?_
      refine vq rfl rfl (q_move rfl) ?_
      refine vendW ?_
      refine ⟨(i + 1, x3, _, s3, kn), ⟨by simp only; omega, hSS2, by rw [outsN_succ, List.map_append]; exact ho3, hle2, hsk2, fun j hj => by by_cases e : j = i; (· subst e; exact hf); (· exact hall j (by omega))⟩, by simp only; omega, ?_, ⟨rfl, rfl, trivial⟩, rfl⟩
      repeat (first | exact Same.refl | refine Same.upd rfl ?_ | refine Same.drop rfl ?_)
    ·
      refine vc_regionW (qm 251) [0, 1, 2, 3, 4, 5, 6, 7] rfl rfl ?_
      refine vq rfl rfl (q_move rfl) ?_
      refine vq rfl rfl (q_move rfl) ?_
      refine ve rfl rfl (e_callF go45 rfl (step_no (hSS.le ho.le) hNV (vAtN_len n sc i) (hsc.it _ (getD_mem (by omega))) (by simpa using hf) ?_))
      refine vq rfl rfl (q_move rfl) ?_
      refine vq rfl rfl (q_extract rfl rfl) ?_
      refine vq rfl rfl (q_extract rfl rfl) ?_
      refine vq rfl rfl (q_assign rfl) ?_
      refine vq rfl rfl (q_assign rfl) ?_
      refine vendW ?_
      refine vc_seq ?_
      refine vc_seq ?_
      refine vc_regionW (qm 3) [0, 1] rfl rfl ?_
      refine vq rfl rfl (q_move rfl) ?_
      refine vq rfl rfl (q_ne rfl rfl) ?_
      refine vendW ?_
      refine vc_condT rfl rfl ?_
      refine vc_seq ?_
      refine vc_regionW (qm 7) [0, 1, 2] rfl rfl ?_
      refine vq rfl rfl (q_move rfl) ?_
      refine vq rfl rfl (q_assign rfl) ?_
      refine vq rfl rfl (q_assign rfl) ?_
      refine vendW ?_
      refine vc_ret ?_
      have e : fitsAll n sc = false := by
        unfold fitsAll
        rw [List.all_eq_false]
        exact ⟨i, by simp; omega, hf⟩
      exact ret2 rfl rfl rfl (hle.trans ho.le) (Cv.ale (hle.trans ho.le) (ale_nil 1)) (Cv.le (hle.trans ho.le) _) (hk2 e)
  refine vc_exit ?_
  refine vc_seq ?_
  refine vc_regionW (qm 7) [0, 1, 2] rfl rfl ?_
  refine vq rfl rfl (q_move rfl) ?_
  refine vq rfl rfl (q_assign rfl) ?_
  refine vq rfl rfl (q_assign rfl) ?_
  refine vendW ?_
  refine vc_ret ?_
  have e : i = sc.length := by omega
  subst e
  have e : fitsAll n sc = true := List.all_eq_true.2 fun j hj => hall j (by simpa using hj)
  exact ret2 rfl rfl rfl (hle.trans ho.le) (Cv.trans ho.le ho.frz (Cv.le hle _)) (Cv.le (hle.trans ho.le) _) (hk1 e)
end Go.Proofs.Ytpcpdepfnoijoaa

set_option linter.unusedVariables false
set_option maxRecDepth 100000
namespace Go.Proofs.Ytpcpdepfnoijoaa
open Go.Vc
theorem eq_of_getD {x y : List Int} (hl : x.length = y.length) (h : ∀ j, j < x.length → x.getD j 0 = y.getD j 0) : x = y := by
  apply List.ext_getElem hl
  intro i h1 h2
  have := h i h1
  simpa [List.getD_eq_getElem?_getD, h1, h2] using this
theorem ref01_same {x y : List Int} {s : St} {K : AV → St → Prop} (hx : x.length < 2^60) (hk : K (.bool (x == y)) s) : CallsA Try.prog 52 [natA x, natA y] s K := by
  refine callsA_of Try.func52 rfl rfl (Nat.le_of_ble_eq_true rfl) ?_
  refine vc_seq ?_
  refine vc_regionW (qm 1) [0] rfl rfl ?_
  refine vq rfl rfl (q_assign rfl) ?_
  refine vendW ?_
  refine vc_seq ?_
  refine vc_seq ?_
  refine vc_regionW (qm 31) [0, 1, 2, 3, 4] rfl rfl ?_
  refine vq rfl rfl (q_move rfl) ?_
  refine vq rfl rfl (q_len sl53 rfl (by first | exact lenM | rfl)) ?_
  refine vq rfl rfl (q_move rfl) ?_
  refine vq rfl rfl (q_len sl53 rfl (by first | exact lenM | rfl)) ?_
  refine vq rfl rfl (q_ne rfl rfl) ?_
  refine vendW ?_
  refine vc_condD rfl (fun h => ?_) (fun h => ?_)
  ·
    refine vc_seq ?_
    refine vc_regionW (qm 1) [0] rfl rfl ?_
    refine vq rfl rfl (q_assign rfl) ?_
    refine vendW ?_
    refine vc_ret ?_
    have e : (x == y) = false := by simp; rintro rfl; exact h rfl
    rw [e] at hk
    exact ret1 rfl rfl (Le.refl _) (Cv.le (Le.refl _) _) hk
  refine vc_skip ?_
  refine vc_seq ?_
  refine vc_seq ?_
  refine vc_regionW (qm 1) [0] rfl rfl ?_
  refine vq rfl rfl (q_assign rfl) ?_
  refine vendW ?_
  refine vc_block ?_
  refine vc_loopS (α := Nat) [4, 5, 11, 12, 13, 14, 15, 16, 17, 18, 19, 20, 21, 22, 23, 24, 25] (fun i => [(5, .int (i : Int))]) (fun i => s) (fun i => i ≤ x.length ∧ ∀ j, j < i → x.getD j 0 = y.getD j 0) (fun i => x.length - i) 0 ⟨by simp, by simp⟩ rfl ⟨rfl, trivial⟩ (fun _ => rfl) ?_
  intro i hok
  refine vc_seq ?_
  refine vc_seq ?_
  refine vc_regionW (qm 15) [0, 1, 2, 3] rfl rfl ?_
  refine vq rfl rfl (q_move rfl) ?_
  refine vq rfl rfl (q_move rfl) ?_
  refine vq rfl rfl (q_len sl53 rfl (by first | exact lenM | rfl)) ?_
  refine vq rfl rfl (q_lt rfl rfl) ?_
  refine vendW ?_
  refine vc_condD rfl (fun h => ?_) (fun h => ?_)
  ·
    refine vc_skip ?_
    refine vc_seq ?_
    refine vc_block ?_
    refine vc_seq ?_
    refine vc_regionDW mx (qm 511) [0, 1, 2, 3, 4, 5, 6, 7, 8] (by kernel_rfl) ?_
    refine vq rfl rfl (q_move rfl) ?_
    refine vq rfl rfl (q_move rfl) ?_
    refine vq rfl rfl (q_index sl53 rfl rfl (by omega) (by first | exact nthI (by omega) | exact nthM (by omega))) ?_
    refine vq rfl rfl (q_load sc92 rfl) ?_
    refine vq rfl rfl (q_move rfl) ?_
    refine vq rfl rfl (q_move rfl) ?_
    refine vq rfl rfl (q_index sl53 rfl rfl (by omega) (by first | exact nthI (by omega) | exact nthM (by omega))) ?_
    refine vq rfl rfl (q_load sc92 rfl) ?_
    refine vq rfl rfl (q_ne rfl rfl) ?_
    refine vendW ?_
    refine vc_condD rfl (fun h2 => ?_) (fun h2 => ?_)
    ·
      refine vc_seq ?_
      refine vc_regionW (qm 1) [0] rfl rfl ?_
      refine vq rfl rfl (q_assign rfl) ?_
      refine vendW ?_
      refine vc_ret ?_
      have e : (x == y) = false := by simp; rintro rfl; exact h2 rfl
      rw [e] at hk
      exact ret1 rfl rfl (Le.refl _) (Cv.le (Le.refl _) _) hk
    refine vc_skip ?_
    refine vc_regionW (qm 7) [0, 1, 2] rfl rfl ?_
    refine vq rfl rfl (q_move rfl) ?_
    refine vq rfl rfl (q_add rfl rfl (w64 (by omega))) ?_
    refine vq rfl rfl (q_assign rfl) ?_
    refine vendW ?_
    refine ⟨i + 1, ⟨by omega, fun j hj => by by_cases e : j = i; (· subst e; simpa using h2); (· exact hok.2 j (by omega))⟩, by omega, ?_, ⟨rfl, trivial⟩, rfl⟩
    repeat (first | exact Same.refl | refine Same.upd rfl ?_ | refine Same.drop rfl ?_)
  refine vc_exit ?_
  refine vc_seq ?_
  refine vc_regionW (qm 1) [0] rfl rfl ?_
  refine vq rfl rfl (q_assign rfl) ?_
  refine vendW ?_
  refine vc_ret ?_
  have e : (x == y) = true := by simp; exact eq_of_getD (by omega) fun j hj => hok.2 j (by omega)
  rw [e] at hk
  exact ret1 rfl rfl (Le.refl _) (Cv.le (Le.refl _) _) hk
theorem parts {l : List (List Int)} {s : St} {K : AV → St → Prop} (hl : l.length < 2^40) (hk : K (natsA l) s) : CallsA Try.prog 14 [natsA l] s K := by
  refine callsA_of Try.func14 rfl rfl (Nat.le_of_ble_eq_true rfl) ?_
  refine vc_seq ?_
  refine vc_regionW (qm 1) [0] rfl rfl ?_
  refine vq rfl rfl (q_assign rfl) ?_
  refine vendW ?_
  refine vc_seq ?_
  refine vc_regionW (qm 3) [0, 1] rfl rfl ?_
  refine vq rfl rfl (q_buildS sl33 zo53 (by decide) rfl rfl rfl rfl (by decide)) ?_
  refine vq rfl rfl (q_assign rfl) ?_
  refine vendW ?_
  refine vc_seq ?_
  refine vc_seq ?_
  refine vc_regionW (qm 7) [0, 1, 2] rfl rfl ?_
  refine vq rfl rfl (q_move rfl) ?_
  refine vq rfl rfl (q_len sl35 rfl (by first | exact lenM | rfl)) ?_
  refine vq rfl rfl (q_move rfl) ?_
  refine vendW ?_
  refine vc_block ?_
  refine vc_loopS (α := Nat × AV × St) [3, 4, 8, 9, 10, 11, 12, 13, 14, 15, 16, 17, 18] (fun a => [(8, .int (a.1 : Int)), (3, a.2.1)]) (fun a => a.2.2) (fun a => a.1 ≤ l.length ∧ OwnSt s a.2.1 53 1 ((l.take a.1).map eN) a.2.2) (fun a => l.length - a.1) (0, .slx 1 [], s) ⟨by simp, OwnSt.slx _ _ _⟩ rfl ⟨rfl, rfl, trivial⟩ (fun _ => rfl) ?_
  intro ⟨i, x, s1⟩ ⟨hi, ho⟩
  simp only at hi ho ⊢
  refine vc_seq ?_
  refine vc_regionW (qm 1) [0] rfl rfl ?_
  refine vq rfl rfl (q_lt rfl rfl) ?_
  refine vendW ?_
  refine vc_seq ?_
  refine vc_condD rfl (fun h => ?_) (fun h => ?_)
  ·
    refine vc_skip ?_
    refine vc_seq ?_
    refine vc_block ?_
    refine vc_seq ?_
    refine vc_regionW (qm 3) [0, 1] rfl rfl ?_
    refine vq rfl rfl (q_move rfl) ?_
    refine vq rfl rfl (q_assign rfl) ?_
    refine vendW ?_
    refine vc_regionW (qm 191) [0, 1, 2, 3, 4, 5, 6, 7] rfl rfl ?_
    refine vq rfl rfl (q_move rfl) ?_
    refine vq rfl rfl (q_move rfl) ?_
    refine vq rfl rfl (q_move rfl) ?_
    refine vq rfl rfl (q_index sl35 rfl rfl (by omega) (by first | exact nthI (by omega) | exact nthM (by omega))) ?_
    refine vq rfl rfl (q_load sc61 rfl) ?_
    refine vq rfl rfl (q_buildS sl33 zo53 (by decide) rfl rfl rfl rfl (by decide)) ?_
    refine ve rfl rfl (e_append sl33 zo53 rfl rfl ho (SrcOK.slx 1 _) (rowsC1_one rfl) (by simp [maxLen_eq]; omega) (fun x2 s2 ho2 => ?_))
    refine vq rfl rfl (q_assign rfl) ?_
    refine vendW ?_
    refine vc_regionW (qm 3) [0, 1] rfl rfl ?_
    refine vq rfl rfl (q_add rfl rfl (w64 (by omega))) ?_
    refine vq rfl rfl (q_move rfl) ?_
    refine vendW ?_
    refine ⟨(i + 1, x2, s2), ⟨by simp only; omega, by rw [map_take_succ (by omega)]; exact ho2⟩, by simp only; omega, ?_, ⟨rfl, rfl, trivial⟩, rfl⟩
    repeat (first | exact Same.refl | refine Same.upd rfl ?_ | refine Same.drop rfl ?_)
  refine vc_exit ?_
  refine vc_seq ?_
  refine vc_regionW (qm 3) [0, 1] rfl rfl ?_
  refine vq rfl rfl (q_move rfl) ?_
  refine vq rfl rfl (q_assign rfl) ?_
  refine vendW ?_
  refine vc_ret ?_
  have e : (l.take i).map eN = l.map eN := by rw [List.take_of_length_le (by omega)]
  rw [e] at ho
  exact ret1 rfl rfl ho.le ho.frz hk
end Go.Proofs.Ytpcpdepfnoijoaa
