/-
  Part of a proof: Whatever net, script and number of cycles come in, of bulk at most 1048576: SimWhole returns true, and what came in reads as it did.
-/
import Derived.Test.YtpcpdepfnoijoaaS5
set_option linter.unusedVariables false
set_option maxRecDepth 100000
namespace Go.Proofs.Ytpcpdepfnoijoaa
open Go.Vc
theorem twice {l : List Pt} {s : St} {K : AV → St → Prop} (hl : l.length < 2^40) (hk : K (.bool (dupN l)) s) : CallsA Try.prog 130 [.sl 2 (l.map ptR)] s K := by
  refine callsA_of Try.func130 rfl rfl (Nat.le_of_ble_eq_true rfl) ?_
  refine vc_seq ?_
  refine vc_regionW (qm 1) [0] rfl rfl ?_
  refine vq rfl rfl (q_assign rfl) ?_
  refine vendW ?_
  refine vc_seq ?_
  refine vc_regionW (qm 2) [0, 1] rfl rfl ?_
  refine ve rfl rfl (e_makeMap (fun k hk0 => ?_))
  refine vq rfl rfl (q_assign rfl) ?_
  refine vendW ?_
  refine vc_seq ?_
  refine vc_seq ?_
  refine vc_regionW (qm 7) [0, 1, 2] rfl rfl ?_
  refine vq rfl rfl (q_move rfl) ?_
  refine vq rfl rfl (q_len sl23 rfl (by first | exact lenM | rfl)) ?_
  refine vq rfl rfl (q_move rfl) ?_
  refine vendW ?_
  refine vc_block ?_
  refine vc_loopS (α := Nat) [2, 5, 9, 10, 11, 12, 13, 14, 15, 16, 17, 18, 19, 20] (fun i => [(9, .int (i : Int))]) (fun i => (upd s k (mapR ((l.take i).map (fun p => (p.name, AV.bool true)))))) (fun i => i ≤ l.length ∧ ∀ j, j < i → hasName (l.take j) (l.getD j default).name = false) (fun i => l.length - i) 0 ⟨by simp, by simp⟩ rfl ⟨rfl, trivial⟩ (fun _ => rfl) ?_
  intro i hok
  refine vc_seq ?_
  refine vc_regionW (qm 1) [0] rfl rfl ?_
  refine vq rfl rfl (q_lt rfl rfl) ?_
  refine vendW ?_
  refine vc_seq ?_
  refine vc_condD rfl (fun h => ?_) (fun h => ?_)
  ·
    refine vc_skip ?_
    refine vc_seq ?_
    refine vc_block ?_
    refine vc_seq ?_
    refine vc_regionW (qm 3) [0, 1, 2, 3] rfl rfl ?_
    refine vq rfl rfl (q_index sl23 rfl rfl (by omega) (by first | exact nthI (by omega) | exact nthM (by omega))) ?_
    refine vq rfl rfl (q_loadA ag91 rfl rfl) ?_
    refine ve rfl rfl (e_alloc zr91 (fun k5 hk5 => ?_))
    refine vn rfl rfl (e_storeN sz91 rfl rfl rfl rfl (upd_same _ _ _) rfl ?_)
    refine vendW ?_
    refine vc_frzC (i := 5) hk5 (upd_upd _ _ _ _) rfl ?_
    refine vc_seq ?_
    refine vc_seq ?_
    refine vc_regionW (qm 7) [0, 1, 2, 3] rfl rfl ?_
    refine vq rfl rfl (q_move rfl) ?_
    refine vq rfl rfl (q_field fo91_0 rfl (Nat.le_of_ble_eq_true rfl)) ?_
    refine vq rfl rfl (q_load sc9 rfl) ?_
    refine ve rfl rfl (e_lookup mp221 pk9 zv4 rfl rfl (upd_same _ _ _) (lookName _ _) ?_)
    refine vendW ?_
    refine vc_cond rfl (fun h2 => ?_) (fun h2 => ?_)
    ·
      refine vc_seq ?_
      refine vc_regionW (qm 1) [0] rfl rfl ?_
      refine vq rfl rfl (q_assign rfl) ?_
      refine vendW ?_
      refine vc_ret ?_
      have e : dupN l = true := range_any (i := i) (by omega) h2
      rw [e] at hk
      exact ret1 rfl rfl (Le.new1 hk0) (Cv.le (Le.new1 hk0) _) hk
    refine vc_skip ?_
    refine vc_regionW (qm 7) [0, 1, 2, 3] rfl rfl ?_
    refine vq rfl rfl (q_move rfl) ?_
    refine vq rfl rfl (q_field fo91_0 rfl (Nat.le_of_ble_eq_true rfl)) ?_
    refine vq rfl rfl (q_load sc9 rfl) ?_
    refine vn rfl rfl (e_mapNew mp221 pk9 rfl rfl rfl (upd_same _ _ _) (by rw [mapGet_names, h2]; rfl) ?_)
    refine vendW ?_
    refine vc_regionW (qm 3) [0, 1] rfl rfl ?_
    refine vq rfl rfl (q_add rfl rfl (w64 (by omega))) ?_
    refine vq rfl rfl (q_move rfl) ?_
    refine vendW ?_
    refine ⟨i + 1, ⟨by omega, fun j hj => by by_cases e : j = i; (· subst e; exact h2); (· exact hok.2 j (by omega))⟩, by omega, ?_, ⟨rfl, trivial⟩, (by rw [upd_upd, map_take_succ (by omega)])⟩
    repeat (first | exact Same.refl | refine Same.upd rfl ?_ | refine Same.drop rfl ?_)
  refine vc_exit ?_
  refine vc_seq ?_
  refine vc_regionW (qm 1) [0] rfl rfl ?_
  refine vq rfl rfl (q_assign rfl) ?_
  refine vendW ?_
  refine vc_ret ?_
  have e : dupN l = false := range_none fun j hj => hok.2 j (by omega)
  rw [e] at hk
  exact ret1 rfl rfl (Le.new1 hk0) (Cv.le (Le.new1 hk0) _) hk
theorem name {b : ByteArray} {s : St} {K : AV → St → Prop} (hb : b.size < 2^40) (hk : K (.bool (nameN b)) s) : CallsA Try.prog 129 [.v (.string b)] s K := by
  refine callsA_of Try.func129 rfl rfl (Nat.le_of_ble_eq_true rfl) ?_
  refine vc_seq ?_
  refine vc_regionW (qm 1) [0] rfl rfl ?_
  refine vq rfl rfl (q_assign rfl) ?_
  refine vendW ?_
  refine vc_seq ?_
  refine vc_seq ?_
  refine vc_regionW (qm 4095) [0, 1, 2, 3, 4, 5, 6, 7, 8, 9, 10, 11] rfl rfl ?_
  refine vq rfl rfl (q_move rfl) ?_
  refine vq rfl rfl (q_eqS rfl rfl) ?_
  refine vq rfl rfl (q_move rfl) ?_
  refine vgrp [3, 4, 5, 6] [7, 8, 9, 10, 11] [9, 10, 11] 12 (.v (.bool ((b.toList == ({ data := #[] } : ByteArray).toList) || decide (20 < (b.size : Int))))) ?_ ?_
  ·
    by_cases hg2 : (b.toList == ({ data := #[] } : ByteArray).toList) = true
    ·
      refine g_skip rfl rfl rfl (by first | (rw [hg2]; simp; done) | (intro e; have e2 := Value.bool.inj e; rw [hg2] at e2; cases e2; done) | (simp [hg2]; done) | simp_all) ?_
      refine g_skip rfl rfl rfl (by first | (rw [hg2]; simp; done) | (intro e; have e2 := Value.bool.inj e; rw [hg2] at e2; cases e2; done) | (simp [hg2]; done) | simp_all) ?_
      refine g_skip rfl rfl rfl (by first | (rw [hg2]; simp; done) | (intro e; have e2 := Value.bool.inj e; rw [hg2] at e2; cases e2; done) | (simp [hg2]; done) | simp_all) ?_
      refine vq rfl rfl (q_pickT rfl (by first | exact hg2 | exact hg2 | (simp [hg2]; done) | simp_all) rfl) ?_
      refine vendW ⟨rfl, congrArg (fun b => some (AV.v (Value.bool b))) (by first | (simp only [hg2]; done) | (simp only [hg2]; rfl) | (simp [hg2]; done) | simp_all), ?_⟩
      repeat (first | exact Same.refl | refine Same.upd rfl ?_)
    ·
      refine gq_run rfl rfl rfl rfl (congrArg Value.bool (eq_false_of_ne_true hg2)) (q_move rfl) ?_
      refine gq_run rfl rfl rfl rfl (congrArg Value.bool (eq_false_of_ne_true hg2)) (q_lenS st9 rfl) ?_
      refine gq_run rfl rfl rfl rfl (congrArg Value.bool (eq_false_of_ne_true hg2)) (q_gt rfl rfl) ?_
      refine vq rfl rfl (q_pickF rfl (by first | exact (eq_false_of_ne_true hg2) | exact hg2 | (simp [hg2]; done) | simp_all) rfl) ?_
      refine vendW ⟨rfl, congrArg (fun b => some (AV.v (Value.bool b))) (by first | (simp only [eq_false_of_ne_true hg2]; done) | (simp only [eq_false_of_ne_true hg2]; rfl) | (simp [hg2]; done) | simp_all), ?_⟩
      repeat (first | exact Same.refl | refine Same.upd rfl ?_)
  refine vq rfl rfl (q_move rfl) ?_
  refine vgrp [8, 9, 10, 11] [] [14, 15, 16] 17 (.v (.bool (((b.toList == ({ data := #[] } : ByteArray).toList) || decide (20 < (b.size : Int))) || kws.any (fun k => b.toList == k.toList)))) ?_ ?_
  ·
    by_cases hg7 : ((b.toList == ({ data := #[] } : ByteArray).toList) || decide (20 < (b.size : Int))) = true
    ·
      refine g_skip rfl rfl rfl (by first | (rw [hg7]; simp; done) | (intro e; have e2 := Value.bool.inj e; rw [hg7] at e2; cases e2; done) | (simp [hg7]; done) | simp_all) ?_
      refine g_skip rfl rfl rfl (by first | (rw [hg7]; simp; done) | (intro e; have e2 := Value.bool.inj e; rw [hg7] at e2; cases e2; done) | (simp [hg7]; done) | simp_all) ?_
      refine g_skip rfl rfl rfl (by first | (rw [hg7]; simp; done) | (intro e; have e2 := Value.bool.inj e; rw [hg7] at e2; cases e2; done) | (simp [hg7]; done) | simp_all) ?_
      refine vq rfl rfl (q_pickT rfl (by first | exact hg7 | exact hg7 | (simp [hg7]; done) | simp_all) rfl) ?_
      refine vendW ⟨rfl, congrArg (fun b => some (AV.v (Value.bool b))) (by first | (simp only [hg7]; done) | (simp only [hg7]; rfl) | (simp [hg7]; done) | simp_all), ?_⟩
      repeat (first | exact Same.refl | refine Same.upd rfl ?_)
    ·
      refine gq_run rfl rfl rfl rfl (congrArg Value.bool (eq_false_of_ne_true hg7)) (q_callF go171 rfl (fun s => keywords ⟨rfl, rfl⟩)) ?_
      refine gq_run rfl rfl rfl rfl (congrArg Value.bool (eq_false_of_ne_true hg7)) (q_move rfl) ?_
      refine gq_run rfl rfl rfl rfl (congrArg Value.bool (eq_false_of_ne_true hg7)) (q_callF go170 rfl (fun s => containsS (by decide) ⟨rfl, rfl⟩)) ?_
      refine vq rfl rfl (q_pickF rfl (by first | exact (eq_false_of_ne_true hg7) | exact hg7 | (simp [hg7]; done) | simp_all) rfl) ?_
      refine vendW ⟨rfl, congrArg (fun b => some (AV.v (Value.bool b))) (by first | (simp only [eq_false_of_ne_true hg7]; done) | (simp only [eq_false_of_ne_true hg7]; rfl) | (simp [hg7]; done) | simp_all), ?_⟩
      repeat (first | exact Same.refl | refine Same.upd rfl ?_)
  refine vendW ?_
  refine vc_cond rfl (fun h1 => ?_) (fun h1 => ?_)
  ·
    refine vc_seq ?_
    refine vc_regionW (qm 1) [0] rfl rfl ?_
    refine vq rfl rfl (q_assign rfl) ?_
    refine vendW ?_
    refine vc_ret ?_
    have e : nameN b = false := by unfold nameN badName1; rw [h1]; rfl
    rw [e] at hk
    exact ret1 rfl rfl (Le.refl _) (Cv.le (Le.refl _) _) hk
  refine vc_skip ?_
  refine vc_seq ?_
  refine vc_seq ?_
  refine vc_regionW (qm 15) [0, 1, 2, 3] rfl rfl ?_
  refine vq rfl rfl (q_move rfl) ?_
  refine vq rfl rfl (q_toBytes st9 sl139 ik5 rfl (by omega)) ?_
  refine vq rfl rfl (q_len sl139 rfl (by first | exact lenM | rfl)) ?_
  refine vq rfl rfl (q_move rfl) ?_
  refine vendW ?_
  refine vc_block ?_
  refine vc_loopS (α := Nat) [2, 3, 4, 5, 21, 22, 23, 24, 25, 26, 27, 28, 29, 30, 31, 32, 33, 34, 35, 36, 37, 38, 39, 40, 41, 42, 43, 44, 45, 46, 47, 48, 49, 50] (fun i => [(21, .int (i : Int))]) (fun i => s) (fun i => i ≤ b.size ∧ ∀ j, j < i → badCh j (chA b j) = false) (fun i => b.size - i) 0 ⟨by simp, by simp⟩ rfl ⟨rfl, trivial⟩ (fun _ => rfl) ?_
  intro i hok
  have hsd := size_data b
  refine vc_seq ?_
  refine vc_regionW (qm 1) [0] rfl rfl ?_
  refine vq rfl rfl (q_lt rfl rfl) ?_
  refine vendW ?_
  refine vc_seq ?_
  refine vc_condD rfl (fun h => ?_) (fun h => ?_)
  ·
    refine vc_skip ?_
    refine vc_seq ?_
    refine vc_block ?_
    refine vc_seq ?_
    refine vc_regionW (qm 31) [0, 1, 2, 3, 4] rfl rfl ?_
    refine vq rfl rfl (q_move rfl) ?_
    refine vq rfl rfl (q_index sl139 rfl rfl (by omega) (by first | exact nthI (by omega) | exact nthM (by omega))) ?_
    refine vq rfl rfl (q_load sc5 rfl) ?_
    refine vq rfl rfl (q_assign rfl) ?_
    refine vq rfl rfl (q_assign rfl) ?_
    refine vendW ?_
    refine vc_seq ?_
    refine vc_regionW (qm 127) [0, 1, 2, 3, 4, 5, 6] rfl rfl ?_
    refine vq rfl rfl (q_move rfl) ?_
    refine vq rfl rfl (q_ge rfl rfl) ?_
    refine vq rfl rfl (q_move rfl) ?_
    refine vgrp [3, 4, 5] [6] [29, 30] 31 (.v (.bool (decide (97 ≤ chA b i) && decide (chA b i ≤ 122)))) ?_ ?_
    ·
      by_cases hg2 : 97 ≤ chA b i
      ·
        refine gq_run rfl rfl rfl rfl (by first | exact congrArg Value.bool (decide_eq_true hg2) | (rw [decide_eq_true hg2]; done) | (simp [hg2]; done) | simp_all) (q_move rfl) ?_
        refine gq_run rfl rfl rfl rfl (by first | exact congrArg Value.bool (decide_eq_true hg2) | (rw [decide_eq_true hg2]; done) | (simp [hg2]; done) | simp_all) (q_le rfl rfl) ?_
        refine vq rfl rfl (q_pickT rfl (by first | exact (decide_eq_true hg2) | exact hg2 | (simp [hg2]; done) | simp_all) rfl) ?_
        refine vendW ⟨rfl, congrArg (fun b => some (AV.v (Value.bool b))) (by first | (simp only [decide_eq_true hg2]; done) | (simp only [decide_eq_true hg2]; rfl) | (simp [hg2]; done) | simp_all), ?_⟩
        repeat (first | exact Same.refl | refine Same.upd rfl ?_)
      ·
        refine g_skip rfl rfl rfl (by first | (rw [decide_eq_false hg2]; simp; done) | (intro e; have e2 := Value.bool.inj e; rw [decide_eq_false hg2] at e2; cases e2; done) | (simp [hg2]; done) | simp_all) ?_
        refine g_skip rfl rfl rfl (by first | (rw [decide_eq_false hg2]; simp; done) | (intro e; have e2 := Value.bool.inj e; rw [decide_eq_false hg2] at e2; cases e2; done) | (simp [hg2]; done) | simp_all) ?_
        refine vq rfl rfl (q_pickF rfl (by first | exact (decide_eq_false hg2) | exact hg2 | (simp [hg2]; done) | simp_all) rfl) ?_
        refine vendW ⟨rfl, congrArg (fun b => some (AV.v (Value.bool b))) (by first | (simp only [decide_eq_false hg2]; done) | (simp only [decide_eq_false hg2]; rfl) | (simp [hg2]; done) | simp_all), ?_⟩
        repeat (first | exact Same.refl | refine Same.upd rfl ?_)
    refine vq rfl rfl (q_assign rfl) ?_
    refine vendW ?_
    refine vc_seq ?_
    refine vc_regionW (qm 262143) [0, 1, 2, 3, 4, 5, 6, 7, 8, 9, 10, 11, 12, 13, 14, 15, 16, 17] rfl rfl ?_
    refine vq rfl rfl (q_move rfl) ?_
    refine vq rfl rfl (q_not rfl) ?_
    refine vq rfl rfl (q_move rfl) ?_
    refine vgrp [3, 4, 5, 6, 7, 8, 9, 10, 11, 12, 13, 14, 15, 16, 17] [] [35, 36, 37, 38, 39, 40, 41, 42, 43, 44, 45, 46, 47, 48] 49 (.v (.bool (!(decide (97 ≤ chA b i) && decide (chA b i ≤ 122)) && (decide ((i : Int) = 0) || (decide (chA b i ≠ 95) && (decide (chA b i < 48) || decide (57 < chA b i))))))) ?_ ?_
    ·
      by_cases hg2 : (!(decide (97 ≤ chA b i) && decide (chA b i ≤ 122))) = true
      ·
        refine gq_run rfl rfl rfl rfl (congrArg Value.bool hg2) (q_move rfl) ?_
        refine gq_run rfl rfl rfl rfl (congrArg Value.bool hg2) (q_eq rfl rfl) ?_
        refine gq_run rfl rfl rfl rfl (congrArg Value.bool hg2) (q_move rfl) ?_
        by_cases hg5 : (i : Int) = 0
        ·
          refine g_skip rfl rfl rfl (by first | (rw [decide_eq_true hg5]; simp; done) | (intro e; have e2 := Value.bool.inj e; rw [decide_eq_true hg5] at e2; cases e2; done) | (simp [hg5]; done) | simp_all) ?_
          refine g_skip rfl rfl rfl (by first | (rw [decide_eq_true hg5]; simp; done) | (intro e; have e2 := Value.bool.inj e; rw [decide_eq_true hg5] at e2; cases e2; done) | (simp [hg5]; done) | simp_all) ?_
          refine g_skip rfl rfl rfl (by first | (rw [decide_eq_true hg5]; simp; done) | (intro e; have e2 := Value.bool.inj e; rw [decide_eq_true hg5] at e2; cases e2; done) | (simp [hg5]; done) | simp_all) ?_
          refine g_skip rfl rfl rfl (by simp [undef]) ?_
          refine g_skip rfl rfl rfl (by simp [undef]) ?_
          refine g_skip rfl rfl rfl (by simp [undef]) ?_
          refine g_skip rfl rfl rfl (by simp [undef]) ?_
          refine g_skip rfl rfl rfl (by simp [undef]) ?_
          refine g_skip rfl rfl rfl (by simp [undef]) ?_
          refine g_skip rfl rfl rfl (by first | (rw [decide_eq_true hg5]; simp; done) | (intro e; have e2 := Value.bool.inj e; rw [decide_eq_true hg5] at e2; cases e2; done) | (simp [hg5]; done) | simp_all) ?_
          refine gq_run rfl rfl rfl rfl (congrArg Value.bool hg2) (q_pickT rfl (by first | exact (decide_eq_true hg5) | exact hg5 | (simp [hg5]; done) | simp_all) rfl) ?_
          refine vq rfl rfl (q_pickT rfl (by first | exact hg2 | exact hg2 | (simp [hg2]; done) | simp_all) rfl) ?_
          refine vendW ⟨rfl, congrArg (fun b => some (AV.v (Value.bool b))) (by first | (simp only [hg2, decide_eq_true hg5]; done) | (simp only [hg2, decide_eq_true hg5]; rfl) | (simp [hg2, hg5]; done) | simp_all), ?_⟩
          repeat (first | exact Same.refl | refine Same.upd rfl ?_)
        ·
          refine gq_run rfl rfl rfl rfl (by first | exact congrArg Value.bool (decide_eq_false hg5) | (rw [decide_eq_false hg5]; done) | (simp [hg5]; done) | simp_all) (q_move rfl) ?_
          refine gq_run rfl rfl rfl rfl (by first | exact congrArg Value.bool (decide_eq_false hg5) | (rw [decide_eq_false hg5]; done) | (simp [hg5]; done) | simp_all) (q_ne rfl rfl) ?_
          refine gq_run rfl rfl rfl rfl (by first | exact congrArg Value.bool (decide_eq_false hg5) | (rw [decide_eq_false hg5]; done) | (simp [hg5]; done) | simp_all) (q_move rfl) ?_
          by_cases hg8 : chA b i ≠ 95
          ·
            refine gq_run rfl rfl rfl rfl (by first | exact congrArg Value.bool (decide_eq_true hg8) | (rw [decide_eq_true hg8]; done) | (simp [hg8]; done) | simp_all) (q_move rfl) ?_
            refine gq_run rfl rfl rfl rfl (by first | exact congrArg Value.bool (decide_eq_true hg8) | (rw [decide_eq_true hg8]; done) | (simp [hg8]; done) | simp_all) (q_lt rfl rfl) ?_
            refine gq_run rfl rfl rfl rfl (by first | exact congrArg Value.bool (decide_eq_true hg8) | (rw [decide_eq_true hg8]; done) | (simp [hg8]; done) | simp_all) (q_move rfl) ?_
            by_cases hg11 : chA b i < 48
            ·
              refine g_skip rfl rfl rfl (by first | (rw [decide_eq_true hg11]; simp; done) | (intro e; have e2 := Value.bool.inj e; rw [decide_eq_true hg11] at e2; cases e2; done) | (simp [hg11]; done) | simp_all) ?_
              refine g_skip rfl rfl rfl (by first | (rw [decide_eq_true hg11]; simp; done) | (intro e; have e2 := Value.bool.inj e; rw [decide_eq_true hg11] at e2; cases e2; done) | (simp [hg11]; done) | simp_all) ?_
              refine gq_run rfl rfl rfl rfl (by first | exact congrArg Value.bool (decide_eq_true hg8) | (rw [decide_eq_true hg8]; done) | (simp [hg8]; done) | simp_all) (q_pickT rfl (by first | exact (decide_eq_true hg11) | exact hg11 | (simp [hg11]; done) | simp_all) rfl) ?_
              refine gq_run rfl rfl rfl rfl (by first | exact congrArg Value.bool (decide_eq_false hg5) | (rw [decide_eq_false hg5]; done) | (simp [hg5]; done) | simp_all) (q_pickT rfl (by first | exact (decide_eq_true hg8) | exact hg8 | (simp [hg8]; done) | simp_all) rfl) ?_
              refine gq_run rfl rfl rfl rfl (congrArg Value.bool hg2) (q_pickF rfl (by first | exact (decide_eq_false hg5) | exact hg5 | (simp [hg5]; done) | simp_all) rfl) ?_
              refine vq rfl rfl (q_pickT rfl (by first | exact hg2 | exact hg2 | (simp [hg2]; done) | simp_all) rfl) ?_
              refine vendW ⟨rfl, congrArg (fun b => some (AV.v (Value.bool b))) (by first | (simp only [hg2, decide_eq_false hg5, decide_eq_true hg8, decide_eq_true hg11]; done) | (simp only [hg2, decide_eq_false hg5, decide_eq_true hg8, decide_eq_true hg11]; rfl) | (simp [hg2, hg5, hg8, hg11]; done) | simp_all), ?_⟩
              repeat (first | exact Same.refl | refine Same.upd rfl ?_)
            ·
              refine gq_run rfl rfl rfl rfl (by first | exact congrArg Value.bool (decide_eq_false hg11) | (rw [decide_eq_false hg11]; done) | (simp [hg11]; done) | simp_all) (q_move rfl) ?_
              refine gq_run rfl rfl rfl rfl (by first | exact congrArg Value.bool (decide_eq_false hg11) | (rw [decide_eq_false hg11]; done) | (simp [hg11]; done) | simp_all) (q_gt rfl rfl) ?_
              refine gq_run rfl rfl rfl rfl (by first | exact congrArg Value.bool (decide_eq_true hg8) | (rw [decide_eq_true hg8]; done) | (simp [hg8]; done) | simp_all) (q_pickF rfl (by first | exact (decide_eq_false hg11) | exact hg11 | (simp [hg11]; done) | simp_all) rfl) ?_
              refine gq_run rfl rfl rfl rfl (by first | exact congrArg Value.bool (decide_eq_false hg5) | (rw [decide_eq_false hg5]; done) | (simp [hg5]; done) | simp_all) (q_pickT rfl (by first | exact (decide_eq_true hg8) | exact hg8 | (simp [hg8]; done) | simp_all) rfl) ?_
              refine gq_run rfl rfl rfl rfl (congrArg Value.bool hg2) (q_pickF rfl (by first | exact (decide_eq_false hg5) | exact hg5 | (simp [hg5]; done) | simp_all) rfl) ?_
              refine vq rfl rfl (q_pickT rfl (by first | exact hg2 | exact hg2 | (simp [hg2]; done) | simp_all) rfl) ?_
              refine vendW ⟨rfl, congrArg (fun b => some (AV.v (Value.bool b))) (by first | (simp only [hg2, decide_eq_false hg5, decide_eq_true hg8, decide_eq_false hg11]; done) | (simp only [hg2, decide_eq_false hg5, decide_eq_true hg8, decide_eq_false hg11]; rfl) | (simp [hg2, hg5, hg8, hg11]; done) | simp_all), ?_⟩
              repeat (first | exact Same.refl | refine Same.upd rfl ?_)
          ·
            refine g_skip rfl rfl rfl (by first | (rw [decide_eq_false hg8]; simp; done) | (intro e; have e2 := Value.bool.inj e; rw [decide_eq_false hg8] at e2; cases e2; done) | (simp [hg8]; done) | simp_all) ?_
            refine g_skip rfl rfl rfl (by first | (rw [decide_eq_false hg8]; simp; done) | (intro e; have e2 := Value.bool.inj e; rw [decide_eq_false hg8] at e2; cases e2; done) | (simp [hg8]; done) | simp_all) ?_
            refine g_skip rfl rfl rfl (by first | (rw [decide_eq_false hg8]; simp; done) | (intro e; have e2 := Value.bool.inj e; rw [decide_eq_false hg8] at e2; cases e2; done) | (simp [hg8]; done) | simp_all) ?_
            refine g_skip rfl rfl rfl (by simp [undef]) ?_
            refine g_skip rfl rfl rfl (by simp [undef]) ?_
            refine g_skip rfl rfl rfl (by first | (rw [decide_eq_false hg8]; simp; done) | (intro e; have e2 := Value.bool.inj e; rw [decide_eq_false hg8] at e2; cases e2; done) | (simp [hg8]; done) | simp_all) ?_
            refine gq_run rfl rfl rfl rfl (by first | exact congrArg Value.bool (decide_eq_false hg5) | (rw [decide_eq_false hg5]; done) | (simp [hg5]; done) | simp_all) (q_pickF rfl (by first | exact (decide_eq_false hg8) | exact hg8 | (simp [hg8]; done) | simp_all) rfl) ?_
            refine gq_run rfl rfl rfl rfl (congrArg Value.bool hg2) (q_pickF rfl (by first | exact (decide_eq_false hg5) | exact hg5 | (simp [hg5]; done) | simp_all) rfl) ?_
            refine vq rfl rfl (q_pickT rfl (by first | exact hg2 | exact hg2 | (simp [hg2]; done) | simp_all) rfl) ?_
            refine vendW ⟨rfl, congrArg (fun b => some (AV.v (Value.bool b))) (by first | (simp only [hg2, decide_eq_false hg5, decide_eq_false hg8]; done) | (simp only [hg2, decide_eq_false hg5, decide_eq_false hg8]; rfl) | (simp [hg2, hg5, hg8]; done) | simp_all), ?_⟩
            repeat (first | exact Same.refl | refine Same.upd rfl ?_)
      ·
        refine g_skip rfl rfl rfl (by first | (rw [(eq_false_of_ne_true hg2)]; simp; done) | (intro e; have e2 := Value.bool.inj e; rw [(eq_false_of_ne_true hg2)] at e2; cases e2; done) | (simp [hg2]; done) | simp_all) ?_
        refine g_skip rfl rfl rfl (by first | (rw [(eq_false_of_ne_true hg2)]; simp; done) | (intro e; have e2 := Value.bool.inj e; rw [(eq_false_of_ne_true hg2)] at e2; cases e2; done) | (simp [hg2]; done) | simp_all) ?_
        refine g_skip rfl rfl rfl (by first | (rw [(eq_false_of_ne_true hg2)]; simp; done) | (intro e; have e2 := Value.bool.inj e; rw [(eq_false_of_ne_true hg2)] at e2; cases e2; done) | (simp [hg2]; done) | simp_all) ?_
        refine g_skip rfl rfl rfl (by simp [undef]) ?_
        refine g_skip rfl rfl rfl (by simp [undef]) ?_
        refine g_skip rfl rfl rfl (by simp [undef]) ?_
        refine g_skip rfl rfl rfl (by simp [undef]) ?_
        refine g_skip rfl rfl rfl (by simp [undef]) ?_
        refine g_skip rfl rfl rfl (by simp [undef]) ?_
        refine g_skip rfl rfl rfl (by simp [undef]) ?_
        refine g_skip rfl rfl rfl (by simp [undef]) ?_
        refine g_skip rfl rfl rfl (by simp [undef]) ?_
        refine g_skip rfl rfl rfl (by simp [undef]) ?_
        refine g_skip rfl rfl rfl (by first | (rw [(eq_false_of_ne_true hg2)]; simp; done) | (intro e; have e2 := Value.bool.inj e; rw [(eq_false_of_ne_true hg2)] at e2; cases e2; done) | (simp [hg2]; done) | simp_all) ?_
        refine vq rfl rfl (q_pickF rfl (by first | exact (eq_false_of_ne_true hg2) | exact hg2 | (simp [hg2]; done) | simp_all) rfl) ?_
        refine vendW ⟨rfl, congrArg (fun b => some (AV.v (Value.bool b))) (by first | (simp only [eq_false_of_ne_true hg2]; done) | (simp only [eq_false_of_ne_true hg2]; rfl) | (simp [hg2]; done) | simp_all), ?_⟩
        repeat (first | exact Same.refl | refine Same.upd rfl ?_)
    refine vendW ?_
    refine vc_cond rfl (fun h2 => ?_) (fun h2 => ?_)
    ·
      refine vc_seq ?_
      refine vc_regionW (qm 1) [0] rfl rfl ?_
      refine vq rfl rfl (q_assign rfl) ?_
      refine vendW ?_
      refine vc_ret ?_
      have e : nameN b = false := by unfold nameN; rw [range_any (i := i) (by omega) h2]; simp
      rw [e] at hk
      exact ret1 rfl rfl (Le.refl _) (Cv.le (Le.refl _) _) hk
    refine vc_skip ?_
    refine vc_regionW (qm 3) [0, 1] rfl rfl ?_
    refine vq rfl rfl (q_add rfl rfl (w64 (by omega))) ?_
    refine vq rfl rfl (q_move rfl) ?_
    refine vendW ?_
    refine ⟨i + 1, ⟨by omega, fun j hj => by by_cases e : j = i; (· subst e; exact h2); (· exact hok.2 j (by omega))⟩, by omega, ?_, ⟨rfl, trivial⟩, rfl⟩
    repeat (first | exact Same.refl | refine Same.upd rfl ?_ | refine Same.drop rfl ?_)
  refine vc_exit ?_
  refine vc_seq ?_
  refine vc_regionW (qm 1) [0] rfl rfl ?_
  refine vq rfl rfl (q_assign rfl) ?_
  refine vendW ?_
  refine vc_ret ?_
  have e : nameN b = true := by unfold nameN badName1; rw [h1, range_none fun j hj => hok.2 j (by omega)]; rfl
  rw [e] at hk
  exact ret1 rfl rfl (Le.refl _) (Cv.le (Le.refl _) _) hk
theorem homeless {n : Net} {s : St} {K : AV → St → Prop} (hn : n.nodes.length < 2^40) (hi : n.ins.length < 2^40) (hb : (inBits n).length < 2^40) (hin : ∀ i ∈ inBits n, 0 ≤ i ∧ i < n.nodes.length) (hk : K (.bool (homelessN n)) s) : CallsA Try.prog 131 [netA n] s K := by
  refine callsA_of Try.func131 rfl rfl (Nat.le_of_ble_eq_true rfl) ?_
  refine vc_seq ?_
  refine vc_regionW (qm 3) [0, 1] rfl rfl ?_
  refine vq rfl rfl (q_box rfl rfl) ?_
  refine vq rfl rfl (q_assign rfl) ?_
  refine vendW ?_
  refine vc_seq ?_
  refine vc_regionW (qm 23) [0, 1, 2, 3, 4] rfl rfl ?_
  refine vq rfl rfl (q_field fo25_0 rfl (Nat.le_of_ble_eq_true rfl)) ?_
  refine vq rfl rfl (q_load sc22 rfl) ?_
  refine vq rfl rfl (q_len sl22 rfl (by first | exact lenM | rfl)) ?_
  refine ve rfl rfl (e_make sl40 zr3 rfl (List.cons_ne_nil _ _) rfl rfl (by omega) (by omega) (by omega) (by omega) (fun k hk0 => ?_))
  refine vq rfl rfl (q_assign rfl) ?_
  refine vendW ?_
  refine vc_seq ?_
  refine vc_seq ?_
  refine vc_regionW (qm 15) [0, 1, 2, 3] rfl rfl ?_
  refine vq rfl rfl (q_field fo25_1 rfl (Nat.le_of_ble_eq_true rfl)) ?_
  refine vq rfl rfl (q_load sc23 rfl) ?_
  refine vq rfl rfl (q_len sl23 rfl (by first | exact lenM | rfl)) ?_
  refine vq rfl rfl (q_move rfl) ?_
  refine vendW ?_
  refine vc_block ?_
  refine vc_loopS (α := Nat) [5, 7, 18, 19, 20, 21, 22, 23, 24, 25, 26, 27, 28, 29, 30, 31, 32, 33, 34, 35, 36] (fun i => [(18, .int (i : Int))]) (fun i => (upd s k (.arr 3 1 ((bumpAll (c0 n) (preBits n i)).map eI)))) (fun i => i ≤ n.ins.length) (fun i => n.ins.length - i) 0 (by simp) (by simp [bumpAll, preBits, c0, eI]) ⟨rfl, trivial⟩ (fun _ => rfl) ?_
  intro i hok
  refine vc_seq ?_
  refine vc_regionW (qm 1) [0] rfl rfl ?_
  refine vq rfl rfl (q_lt rfl rfl) ?_
  refine vendW ?_
  refine vc_seq ?_
  refine vc_condD rfl (fun h => ?_) (fun h => ?_)
  ·
    refine vc_skip ?_
    refine vc_seq ?_
    refine vc_block ?_
    refine vc_seq ?_
    refine vc_regionW (qm 3) [0, 1, 2, 3] rfl rfl ?_
    refine vq rfl rfl (q_index sl23 rfl rfl (by omega) (by first | exact nthI (by omega) | exact nthM (by omega))) ?_
    refine vq rfl rfl (q_loadA ag91 rfl rfl) ?_
    refine ve rfl rfl (e_alloc zr91 (fun k5 hk5 => ?_))
    refine vn rfl rfl (e_storeN sz91 rfl rfl rfl rfl (upd_same _ _ _) rfl ?_)
    refine vendW ?_
    refine vc_frzC (i := 5) hk5 (upd_upd _ _ _ _) rfl ?_
    refine vc_seq ?_
    refine vc_regionW (qm 15) [0, 1, 2, 3] rfl rfl ?_
    refine vq rfl rfl (q_field fo91_1 rfl (Nat.le_of_ble_eq_true rfl)) ?_
    refine vq rfl rfl (q_load sc40 rfl) ?_
    refine vq rfl rfl (q_len sl40 rfl (by first | exact lenM | rfl)) ?_
    refine vq rfl rfl (q_move rfl) ?_
    refine vendW ?_
    refine vc_block ?_
    have hil : i < n.ins.length := by omega
    have hbl := preBits_le n (i + 1)
    rw [preBits_succ hil, List.length_append] at hbl
    refine vc_loopS (α := Nat) [7, 25, 26, 27, 28, 29, 30, 31, 32, 33, 34, 35] (fun j => [(25, .int (j : Int))]) (fun j => (upd s k (.arr 3 1 ((midCnt n i j).map eI)))) (fun j => j ≤ (n.ins.getD i default).bits.length) (fun j => (n.ins.getD i default).bits.length - j) 0 (by simp) (by simp [midCnt]) ⟨rfl, trivial⟩ (fun _ => rfl) ?_
    intro j hok
    refine vc_seq ?_
    refine vc_regionW (qm 1) [0] rfl rfl ?_
    refine vq rfl rfl (q_lt rfl rfl) ?_
    refine vendW ?_
    refine vc_seq ?_
    refine vc_condD rfl (fun hjl0 => ?_) (fun hjl0 => ?_)
    ·
      refine vc_skip ?_
      refine vc_seq ?_
      refine vc_block ?_
      refine vc_seq ?_
      refine vc_regionW (qm 7) [0, 1, 2] rfl rfl ?_
      refine vq rfl rfl (q_index sl40 rfl rfl (by omega) (by first | exact nthI (by omega) | exact nthM (by omega))) ?_
      refine vq rfl rfl (q_load sc3 rfl) ?_
      refine vq rfl rfl (q_assign rfl) ?_
      refine vendW ?_
      have hjl : j < (n.ins.getD i default).bits.length := by omega
      have hat := hin _ (mem_inBits hil hjl)
      refine vc_regionW (qm 107262463439540776796592199985646769019834926564739147021788491549774112240588375814414994385335227421520254865491888406830031062495572559571469192048672831) [0, 1, 2, 3, 4, 5, 6] rfl rfl ?_
      refine vq rfl rfl (q_move rfl) ?_
      refine vq rfl rfl (q_move rfl) ?_
      refine vq rfl rfl (q_indexH sl40 rfl rfl (by omega) (by omega)) ?_
      refine vr rfl rfl rfl (e_loadE sc3 rfl (upd_same _ _ _) (nthM (by rw [midCnt_len]; omega)) rfl ⟨rfl, rfl⟩) ?_
      refine vq rfl rfl (q_add rfl rfl (w64 (by have := midCnt_bd (j := j) hil ((n.ins.getD i default).bits.getD j default).toNat; show _ ≤ (midCnt n i j).getD _ 0 + 1 ∧ (midCnt n i j).getD _ 0 + 1 ≤ _; omega))) ?_
      refine vq rfl rfl (q_indexH sl40 rfl rfl (by omega) (by omega)) ?_
      refine vn rfl rfl (e_storeE sz3 rfl rfl rfl (upd_same _ _ _) (nthM (by rw [midCnt_len]; omega)) rfl ?_)
      refine vendW ?_
      refine vc_regionW (qm 3) [0, 1] rfl rfl ?_
      refine vq rfl rfl (q_add rfl rfl (w64 (by omega))) ?_
      refine vq rfl rfl (q_move rfl) ?_
      refine vendW ?_
      refine ⟨j + 1, by omega, by omega, ?_, ⟨rfl, trivial⟩, (by rw [upd_upd, bumpSet, midCnt_succ hjl])⟩
      repeat (first | exact Same.refl | refine Same.upd rfl ?_ | refine Same.drop rfl ?_)
    refine vc_exit ?_
    have hlast : ¬ j < (n.ins.getD i default).bits.length := by omega
    refine vc_regionW (qm 3) [0, 1] rfl rfl ?_
    refine vq rfl rfl (q_add rfl rfl (w64 (by omega))) ?_
    refine vq rfl rfl (q_move rfl) ?_
    refine vendW ?_
    refine ⟨i + 1, by omega, by omega, ?_, ⟨rfl, trivial⟩, (by rw [midCnt_end hil hlast])⟩
    repeat (first | exact Same.refl | refine Same.upd rfl ?_ | refine Same.drop rfl ?_)
  refine vc_exit ?_
  refine vc_seq ?_
  refine vc_seq ?_
  refine vc_regionW (qm 15) [0, 1, 2, 3] rfl rfl ?_
  refine vq rfl rfl (q_field fo25_0 rfl (Nat.le_of_ble_eq_true rfl)) ?_
  refine vq rfl rfl (q_load sc22 rfl) ?_
  refine vq rfl rfl (q_len sl22 rfl (by first | exact lenM | rfl)) ?_
  refine vq rfl rfl (q_move rfl) ?_
  refine vendW ?_
  refine vc_block ?_
  refine vc_loopS (α := Nat) [2, 8, 9, 10, 40, 41, 42, 43, 44, 45, 46, 47, 48, 49, 50, 51, 52, 53, 54] (fun i => [(40, .int (i : Int))]) (fun i => (upd s k (.arr 3 1 ((counts n).map eI)))) (fun i => i ≤ n.nodes.length ∧ ∀ j, j < i → (counts n).getD j 0 = wantN (n.nodes.getD j default)) (fun i => n.nodes.length - i) 0 ⟨by simp, by simp⟩ (by rw [counts_eq, show i = n.ins.length by omega]) ⟨rfl, trivial⟩ (fun _ => rfl) ?_
  intro i hok
  refine vc_seq ?_
  refine vc_regionW (qm 1) [0] rfl rfl ?_
  refine vq rfl rfl (q_lt rfl rfl) ?_
  refine vendW ?_
  refine vc_seq ?_
  refine vc_condD rfl (fun h => ?_) (fun h => ?_)
  ·
    refine vc_skip ?_
    refine vc_seq ?_
    refine vc_block ?_
    refine vc_seq ?_
    refine vc_regionW (qm 23) [0, 1, 2, 3, 4, 5] rfl rfl ?_
    refine vq rfl rfl (q_move rfl) ?_
    refine vq rfl rfl (q_index sl22 rfl rfl (by omega) (by first | exact nthI (by omega) | exact nthM (by omega))) ?_
    refine vq rfl rfl (q_loadA ag89 rfl rfl) ?_
    refine ve rfl rfl (e_alloc zr89 (fun k9 hk9 => ?_))
    refine vq rfl rfl (q_assign rfl) ?_
    refine vn rfl rfl (e_storeN sz89 rfl rfl rfl rfl (upd_same _ _ _) rfl ?_)
    refine vendW ?_
    refine vc_frzC (i := 9) hk9 (upd_upd _ _ _ _) rfl ?_
    refine vc_seq ?_
    refine vc_regionW (qm 1) [0] rfl rfl ?_
    refine vq rfl rfl (q_assign rfl) ?_
    refine vendW ?_
    refine vc_seq ?_
    refine vc_seq ?_
    refine vc_regionW (qm 7) [0, 1, 2] rfl rfl ?_
    refine vq rfl rfl (q_field fo89_0 rfl (Nat.le_of_ble_eq_true rfl)) ?_
    refine vq rfl rfl (q_load sc3 rfl) ?_
    refine vq rfl rfl (q_eq rfl rfl) ?_
    refine vendW ?_
    refine vc_condD rfl (fun h3 => ?_) (fun h3 => ?_)
    ·
      refine vc_regionW (qm 1) [0] rfl rfl ?_
      refine vq rfl rfl (q_assign rfl) ?_
      refine vendW ?_
      refine vc_seq ?_
      refine vc_regionW (qm 107262463439540776796592199985646769019834926564739147021788491549774112240588375814414994385335227421520254865491888406830031062495572559571469192048672831) [0, 1, 2, 3, 4, 5] rfl rfl ?_
      refine vq rfl rfl (q_move rfl) ?_
      refine vq rfl rfl (q_move rfl) ?_
      refine vq rfl rfl (q_indexH sl40 rfl rfl (by omega) (by omega)) ?_
      refine vr rfl rfl rfl (e_loadE sc3 rfl (upd_same _ _ _) (nthI (by rw [counts_len]; omega)) rfl ⟨rfl, rfl⟩) ?_
      refine vq rfl rfl (q_move rfl) ?_
      refine vq rfl rfl (q_ne rfl rfl) ?_
      refine vendW ?_
      refine vc_condD rfl (fun h2 => ?_) (fun h2 => ?_)
      ·
        refine vc_seq ?_
        refine vc_regionW (qm 1) [0] rfl rfl ?_
        refine vq rfl rfl (q_assign rfl) ?_
        refine vendW ?_
        refine vc_ret ?_
        have e : homelessN n = true := range_any (i := i) (by omega) (by have e5 : ¬ (counts n).getD i 0 = wantN (n.nodes.getD i default) := (by unfold wantN; rw [if_pos h3]; exact h2); rw [decide_eq_false e5]; rfl)
        rw [e] at hk
        exact ret1 rfl rfl (Le.new1 hk0) (Cv.le (Le.new1 hk0) _) hk
      refine vc_skip ?_
      refine vc_regionW (qm 3) [0, 1] rfl rfl ?_
      refine vq rfl rfl (q_add rfl rfl (w64 (by omega))) ?_
      refine vq rfl rfl (q_move rfl) ?_
      refine vendW ?_
      refine ⟨i + 1, ⟨by omega, fun j hj => by by_cases e : j = i; (· subst e; have e5 := h2; simp only [Decidable.not_not] at e5; refine Eq.trans e5 ?_; unfold wantN; first | rw [if_pos h3] | rw [if_neg h3]); (· exact hok.2 j (by omega))⟩, by omega, ?_, ⟨rfl, trivial⟩, rfl⟩
      repeat (first | exact Same.refl | refine Same.upd rfl ?_ | refine Same.drop rfl ?_)
    refine vc_skip ?_
    refine vc_seq ?_
    refine vc_regionW (qm 107262463439540776796592199985646769019834926564739147021788491549774112240588375814414994385335227421520254865491888406830031062495572559571469192048672831) [0, 1, 2, 3, 4, 5] rfl rfl ?_
    refine vq rfl rfl (q_move rfl) ?_
    refine vq rfl rfl (q_move rfl) ?_
    refine vq rfl rfl (q_indexH sl40 rfl rfl (by omega) (by omega)) ?_
    refine vr rfl rfl rfl (e_loadE sc3 rfl (upd_same _ _ _) (nthI (by rw [counts_len]; omega)) rfl ⟨rfl, rfl⟩) ?_
    refine vq rfl rfl (q_move rfl) ?_
    refine vq rfl rfl (q_ne rfl rfl) ?_
    refine vendW ?_
    refine vc_condD rfl (fun h2 => ?_) (fun h2 => ?_)
    ·
      refine vc_seq ?_
      refine vc_regionW (qm 1) [0] rfl rfl ?_
      refine vq rfl rfl (q_assign rfl) ?_
      refine vendW ?_
      refine vc_ret ?_
      have e : homelessN n = true := range_any (i := i) (by omega) (by have e5 : ¬ (counts n).getD i 0 = wantN (n.nodes.getD i default) := (by unfold wantN; rw [if_neg h3]; exact h2); rw [decide_eq_false e5]; rfl)
      rw [e] at hk
      exact ret1 rfl rfl (Le.new1 hk0) (Cv.le (Le.new1 hk0) _) hk
    refine vc_skip ?_
    refine vc_regionW (qm 3) [0, 1] rfl rfl ?_
    refine vq rfl rfl (q_add rfl rfl (w64 (by omega))) ?_
    refine vq rfl rfl (q_move rfl) ?_
    refine vendW ?_
    refine ⟨i + 1, ⟨by omega, fun j hj => by by_cases e : j = i; (· subst e; have e5 := h2; simp only [Decidable.not_not] at e5; refine Eq.trans e5 ?_; unfold wantN; first | rw [if_pos h3] | rw [if_neg h3]); (· exact hok.2 j (by omega))⟩, by omega, ?_, ⟨rfl, trivial⟩, rfl⟩
    repeat (first | exact Same.refl | refine Same.upd rfl ?_ | refine Same.drop rfl ?_)
  refine vc_exit ?_
  refine vc_seq ?_
  refine vc_regionW (qm 1) [0] rfl rfl ?_
  refine vq rfl rfl (q_assign rfl) ?_
  refine vendW ?_
  refine vc_ret ?_
  have e : homelessN n = false := range_none fun j hj => by rw [hok.2 j (by omega)]; simp
  rw [e] at hk
  exact ret1 rfl rfl (Le.new1 hk0) (Cv.le (Le.new1 hk0) _) hk
end Go.Proofs.Ytpcpdepfnoijoaa

set_option linter.unusedVariables false
namespace Go.Vc
def atsN (x : Nd) : List Int := if x.k = 7 then [] else usesN x
abbrev ndI (n : Net) (i : Nat) : Nd := n.nodes.getD i default
def uStep (i : Int) (us : List (List Int)) (a : Int) : List (List Int) := us.set a.toNat (us.getD a.toNat [] ++ [i])
def usersG (n : Net) : Nat → List (List Int)
  | 0 => List.replicate n.nodes.length []
  | i + 1 => (atsN (ndI n i)).foldl (uStep i) (usersG n i)
def leftG (n : Net) : Nat → List Int
  | 0 => c0 n
  | i + 1 => bumpAll (leftG n i) (List.replicate (atsN (ndI n i)).length (i : Int))
def readyG (n : Net) : Nat → List Int
  | 0 => []
  | i + 1 => if (leftG n (i + 1)).getD i 0 = 0 then readyG n i ++ [(i : Int)] else readyG n i
structure Lv where
  level : List Int
  left : List Int
  ready : List Int
def relax (a : Int) (st : Lv) (u : Int) : Lv :=
  let lv := st.level.set u.toNat (max (st.level.getD u.toNat 0) (st.level.getD a.toNat 0 + 1))
  let lf := st.left.set u.toNat (st.left.getD u.toNat 0 - 1)
  ⟨lv, lf, if lf.getD u.toNat 0 = 0 then st.ready ++ [u] else st.ready⟩
def relaxAll (n : Net) (a : Int) (st : Lv) : Lv := ((usersG n n.nodes.length).getD a.toNat []).foldl (relax a) st
def qrun (n : Net) : Nat → Nat → Lv → Nat × Lv
  | 0, d, st => (d, st)
  | f + 1, d, st => if d < st.ready.length then qrun n f (d + 1) (relaxAll n (st.ready.getD d 0) st) else (d, st)
def lv0 (n : Net) : Lv := ⟨c0 n, leftG n n.nodes.length, readyG n n.nodes.length⟩
def posL (l : List Int) : Nat := l.countP fun x => decide (0 < x)
def muQ (d : Nat) (st : Lv) : Nat := posL st.left + (st.ready.length - d)
def levelsR (n : Net) : Nat × Lv := qrun n (muQ 0 (lv0 n)) 0 (lv0 n)
theorem posL_set {l : List Int} {i : Nat} (hi : i < l.length) (x : Int) : posL (l.set i x) + (if 0 < l.getD i 0 then 1 else 0) = posL l + (if 0 < x then 1 else 0) := by
  unfold posL
  have e : l.getD i 0 = l[i] := by simp [List.getD_eq_getElem?_getD, hi]
  rw [e, List.countP_set hi]
  by_cases h1 : 0 < l[i] <;> by_cases h2 : 0 < x <;> simp [h1, h2]
  · have : 0 < l.countP fun x => decide (0 < x) := List.countP_pos_iff.2 ⟨l[i], List.getElem_mem hi, by simpa using h1⟩
    omega
  · have : 0 < l.countP fun x => decide (0 < x) := List.countP_pos_iff.2 ⟨l[i], List.getElem_mem hi, by simpa using h1⟩
    omega
structure LvH (s : St) (e k4 k5 : Nat) (L B : List Int) (x : AV) (rd : List Int) (s0 s1 : St) : Prop where
  own : OwnSt s0 x e 1 (rd.map eI) s1
  h4 : s0 k4 = some (.arr e 1 (L.map eI))
  h5 : s0 k5 = some (.arr e 1 (B.map eI))
  le : Le s s0
theorem Le.updN {s s0 : St} {k : Nat} {r : Res} (h : Le s s0) (hk : s k = none) : Le s (upd s0 k r) := fun i x hi => by
  by_cases e : i = k
  · subst e; rw [hk] at hi; cases hi
  · rw [upd_ne _ _ e]; exact h i x hi
theorem Le.eraN {s s0 : St} {k : Nat} (h : Le s s0) (hk : s k = none) : Le s (Vc.era s0 k) := fun i x hi => by
  by_cases e : i = k
  · subst e; rw [hk] at hi; cases hi
  · rw [era_ne _ e]; exact h i x hi
theorem OwnSt.era {s0 s1 : St} {x : AV} {e sz p : Nat} {xs : List (List AV)} {r : Res} (h : OwnSt s0 x e sz xs s1) (hp : s0 p = some r) : OwnSt (Vc.era s0 p) x e sz xs (Vc.era s1 p) := by
  rcases h with ⟨h1, rfl, h2⟩ | ⟨k, h1, hk, rfl⟩
  · exact .inl ⟨h1, rfl, h2⟩
  · have hne : k ≠ p := fun e => by subst e; rw [hk] at hp; cases hp
    refine .inr ⟨k, h1, by rw [era_ne _ hne]; exact hk, ?_⟩
    funext i
    by_cases e1 : i = p
    · subst e1; rw [era_same, upd_ne _ _ hne.symm, era_same]
    · rw [era_ne _ e1]
      by_cases e2 : i = k
      · subst e2; rw [upd_same, upd_same]
      · rw [upd_ne _ _ e2, upd_ne _ _ e2, era_ne _ e1]
theorem upd_era_self {s : St} {p : Nat} {r : Res} (hp : s p = some r) : s = upd (era s p) p r := by
  rw [upd_era]; exact (upd_self s p r hp).symm
def usersJ (n : Net) (i j : Nat) : List (List Int) := ((atsN (ndI n i)).take j).foldl (uStep i) (usersG n i)
def leftJ (n : Net) (i j : Nat) : List Int := bumpAll (leftG n i) (List.replicate j (i : Int))
theorem uStep_len (i : Int) (us : List (List Int)) (a : Int) : (uStep i us a).length = us.length := by simp [uStep]
theorem uFold_len (i : Int) : ∀ (l : List Int) (us : List (List Int)), (l.foldl (uStep i) us).length = us.length
  | [], _ => rfl
  | a :: l, us => by rw [List.foldl_cons, uFold_len i l, uStep_len]
theorem usersG_len (n : Net) : ∀ i, (usersG n i).length = n.nodes.length
  | 0 => by simp [usersG]
  | i + 1 => by rw [usersG, uFold_len, usersG_len n i]
theorem usersJ_len (n : Net) (i j : Nat) : (usersJ n i j).length = n.nodes.length := by rw [usersJ, uFold_len, usersG_len]
theorem leftG_len (n : Net) : ∀ i, (leftG n i).length = n.nodes.length
  | 0 => by simp [leftG, c0]
  | i + 1 => by rw [leftG, bumpAll_len, leftG_len n i]
theorem leftJ_len (n : Net) (i j : Nat) : (leftJ n i j).length = n.nodes.length := by rw [leftJ, bumpAll_len, leftG_len]
theorem atsN_len (x : Nd) : (atsN x).length ≤ 3 := by unfold atsN; split; simp; exact usesN_len x
theorem leftG_bd (n : Net) (m : Nat) : ∀ i, 0 ≤ (leftG n i).getD m 0 ∧ (leftG n i).getD m 0 ≤ 3 * i
  | 0 => by rw [leftG, c0_get]; simp
  | i + 1 => by
    have h := bumpAll_le (List.replicate (atsN (ndI n i)).length (i : Int)) (leftG n i) m
    have h2 := leftG_bd n m i
    have h3 := atsN_len (ndI n i)
    rw [leftG]
    simp only [List.length_replicate] at h
    omega
theorem leftJ_bd (n : Net) (i j m : Nat) : 0 ≤ (leftJ n i j).getD m 0 ∧ (leftJ n i j).getD m 0 ≤ 3 * i + j := by
  have h := bumpAll_le (List.replicate j (i : Int)) (leftG n i) m
  have h2 := leftG_bd n m i
  unfold leftJ
  simp only [List.length_replicate] at h
  omega
theorem take_succ_get {l : List Int} {j : Nat} (h : j < l.length) : l.take (j + 1) = l.take j ++ [l.getD j default] := by
  have := map_take_succ (f := id) h
  simpa using this
theorem usersJ_succ {n : Net} {i j : Nat} (h : j < (atsN (ndI n i)).length) : usersJ n i (j + 1) = uStep i (usersJ n i j) ((atsN (ndI n i)).getD j default) := by
  unfold usersJ; rw [take_succ_get h, List.foldl_append]; rfl
theorem leftJ_succ (n : Net) (i j : Nat) : leftJ n i (j + 1) = bump (leftJ n i j) i := by
  unfold leftJ
  rw [← bumpAll_snoc, ← List.replicate_succ']
theorem usersJ_end {n : Net} {i j : Nat} (h : ¬ j < (atsN (ndI n i)).length) : usersJ n i j = usersG n (i + 1) := by
  unfold usersJ; rw [List.take_of_length_le (by omega)]; rfl
theorem leftJ_end {n : Net} {i j : Nat} (h : j = (atsN (ndI n i)).length) : leftJ n i j = leftG n (i + 1) := by subst h; rfl
end Go.Vc
namespace Go.Vc
theorem LvH.init {s : St} {e k4 k5 k6 : Nat} {L B : List Int} {r6 : Res} (h4 : s k4 = none) (h5 : upd s k4 (.arr e 1 (L.map eI)) k5 = none) (h6 : upd (upd s k4 (.arr e 1 (L.map eI))) k5 (.arr e 1 (B.map eI)) k6 = none) :
    LvH s e k4 k5 L B nilS [] (upd (upd (upd s k4 (.arr e 1 (L.map eI))) k5 (.arr e 1 (B.map eI))) k6 r6) (upd (upd (upd s k4 (.arr e 1 (L.map eI))) k5 (.arr e 1 (B.map eI))) k6 r6) := by
  have n65 : k5 ≠ k6 := fun e => by subst e; rw [upd_same] at h6; cases h6
  have n45 : k4 ≠ k5 := fun e => by subst e; rw [upd_same] at h5; cases h5
  rw [upd_ne _ _ n65.symm] at h6
  have n46 : k4 ≠ k6 := fun e => by subst e; rw [upd_same] at h6; cases h6
  rw [upd_ne _ _ n46.symm] at h6
  rw [upd_ne _ _ n45.symm] at h5
  refine ⟨OwnSt.nil _ _ _, ?_, ?_, ?_⟩
  · rw [upd_ne _ _ n46, upd_ne _ _ n45, upd_same]
  · rw [upd_ne _ _ n65, upd_same]
  · exact (((Le.refl s).updN h4).updN h5).updN h6
theorem LvH.g4 {s : St} {e k4 k5 : Nat} {L B : List Int} {x : AV} {rd : List Int} {s0 s1 : St} (h : LvH s e k4 k5 L B x rd s0 s1) : s1 k4 = some (.arr e 1 (L.map eI)) := h.own.le _ _ h.h4
theorem LvH.g5 {s : St} {e k4 k5 : Nat} {L B : List Int} {x : AV} {rd : List Int} {s0 s1 : St} (h : LvH s e k4 k5 L B x rd s0 s1) : s1 k5 = some (.arr e 1 (B.map eI)) := h.own.le _ _ h.h5
theorem LvH.set5 {s : St} {e k4 k5 : Nat} {L B B' : List Int} {x : AV} {rd : List Int} {s0 s1 : St} (h : LvH s e k4 k5 L B x rd s0 s1) (n45 : k4 ≠ k5) (hk : s k5 = none) :
    LvH s e k4 k5 L B' x rd (upd s0 k5 (.arr e 1 (B'.map eI))) (upd s1 k5 (.arr e 1 (B'.map eI))) :=
  ⟨h.own.other h.h5, by rw [upd_ne _ _ n45]; exact h.h4, upd_same _ _ _, h.le.updN hk⟩
theorem LvH.set4 {s : St} {e k4 k5 : Nat} {L L' B : List Int} {x : AV} {rd : List Int} {s0 s1 : St} (h : LvH s e k4 k5 L B x rd s0 s1) (n45 : k4 ≠ k5) (hk : s k4 = none) :
    LvH s e k4 k5 L' B x rd (upd s0 k4 (.arr e 1 (L'.map eI))) (upd s1 k4 (.arr e 1 (L'.map eI))) :=
  ⟨h.own.other h.h4, upd_same _ _ _, by rw [upd_ne _ _ n45.symm]; exact h.h5, h.le.updN hk⟩
theorem LvH.set6 {s : St} {e k4 k5 k6 : Nat} {L B : List Int} {x : AV} {rd : List Int} {s0 s1 : St} {r r' : Res} (h : LvH s e k4 k5 L B x rd s0 s1) (h6 : s0 k6 = some r) (n46 : k4 ≠ k6) (n56 : k5 ≠ k6) (hk : s k6 = none) :
    LvH s e k4 k5 L B x rd (upd s0 k6 r') (upd s1 k6 r') :=
  ⟨h.own.other h6, by rw [upd_ne _ _ n46]; exact h.h4, by rw [upd_ne _ _ n56]; exact h.h5, h.le.updN hk⟩
theorem LvH.era6 {s : St} {e k4 k5 k6 : Nat} {L B : List Int} {x : AV} {rd : List Int} {s0 s1 : St} {r : Res} (h : LvH s e k4 k5 L B x rd s0 s1) (h6 : s0 k6 = some r) (n46 : k4 ≠ k6) (n56 : k5 ≠ k6) (hk : s k6 = none) :
    LvH s e k4 k5 L B x rd (era s0 k6) (era s1 k6) :=
  ⟨h.own.era h6, by rw [era_ne _ n46]; exact h.h4, by rw [era_ne _ n56]; exact h.h5, h.le.eraN hk⟩
theorem LvH.push {s : St} {e k4 k5 : Nat} {L B : List Int} {x x' : AV} {rd : List Int} {i : Int} {s0 s1 s2 : St} (h : LvH s e k4 k5 L B x rd s0 s1) (ho : OwnSt s0 x' e 1 (rd.map eI ++ [eI i]) s2) : LvH s e k4 k5 L B x' (rd ++ [i]) s0 s2 :=
  ⟨by rw [List.map_append]; exact ho, h.h4, h.h5, h.le⟩
structure LvN (s : St) (k4 k5 k6 : Nat) : Prop where
  n4 : s k4 = none
  n5 : s k5 = none
  n6 : s k6 = none
  d45 : k4 ≠ k5
  d46 : k4 ≠ k6
  d56 : k5 ≠ k6
theorem LvN.init {s : St} {k4 k5 k6 : Nat} {r4 r5 : Res} (h4 : s k4 = none) (h5 : upd s k4 r4 k5 = none) (h6 : upd (upd s k4 r4) k5 r5 k6 = none) : LvN s k4 k5 k6 := by
  have n65 : k5 ≠ k6 := fun e => by subst e; rw [upd_same] at h6; cases h6
  have n45 : k4 ≠ k5 := fun e => by subst e; rw [upd_same] at h5; cases h5
  rw [upd_ne _ _ n65.symm] at h6
  have n46 : k4 ≠ k6 := fun e => by subst e; rw [upd_same] at h6; cases h6
  rw [upd_ne _ _ n46.symm] at h6
  rw [upd_ne _ _ n45.symm] at h5
  exact ⟨h4, h5, h6, n45, n46, n65⟩
theorem mk0 (n : Net) : List.replicate (n.nodes.length : Int).toNat ([Value.int .i64 0].map AV.v) = (c0 n).map eI := by
  simp [c0, eI]
end Go.Vc
namespace Go.Vc
theorem OwnSt.c1 {s0 s1 : St} {x : AV} {e sz : Nat} {xs : List (List AV)} (h : OwnSt s0 x e sz xs s1) : isC1 x = true := by
  rcases h with ⟨_, _, rfl | rfl⟩ | ⟨k, rfl, _, _⟩ <;> rfl
theorem uStep_bd (i : Int) (us : List (List Int)) (a : Int) (m : Nat) : ((uStep i us a).getD m []).length ≤ (us.getD m []).length + 1 := by
  unfold uStep
  simp only [List.getD_eq_getElem?_getD, List.getElem?_set]
  by_cases h : a.toNat = m
  · subst h
    by_cases h2 : a.toNat < us.length
    · simp [h2]
    · simp [h2]
  · simp [h]
theorem uFold_bd (i : Int) (m : Nat) : ∀ (l : List Int) (us : List (List Int)), ((l.foldl (uStep i) us).getD m []).length ≤ (us.getD m []).length + l.length
  | [], us => by simp
  | a :: l, us => by
    have h1 := uFold_bd i m l (uStep i us a)
    have h2 := uStep_bd i us a m
    rw [List.foldl_cons, List.length_cons]
    omega
theorem usersG_bd (n : Net) (m : Nat) : ∀ i, ((usersG n i).getD m []).length ≤ 3 * i
  | 0 => by
    simp only [usersG, List.getD_eq_getElem?_getD, List.getElem?_replicate]
    split <;> simp
  | i + 1 => by
    have h1 := uFold_bd i m (atsN (ndI n i)) (usersG n i)
    have h2 := usersG_bd n m i
    have h3 := atsN_len (ndI n i)
    rw [usersG]; omega
theorem usersJ_bd (n : Net) (i j m : Nat) : ((usersJ n i j).getD m []).length ≤ 3 * i + 3 := by
  have h1 := uFold_bd i m ((atsN (ndI n i)).take j) (usersG n i)
  have h2 := usersG_bd n m i
  have h3 := atsN_len (ndI n i)
  have h4 : ((atsN (ndI n i)).take j).length ≤ 3 := by rw [List.length_take]; omega
  unfold usersJ; omega
theorem getD_mapN (U : List (List Int)) (m : Nat) : (U.map (·.map eI)).getD m [] = (U.getD m []).map eI := by
  simp only [List.getD_eq_getElem?_getD, List.getElem?_map]
  cases U[m]? <;> rfl
theorem set_mapN (U : List (List Int)) (m : Nat) (i : Int) : (U.map (·.map eI)).set m ((U.map (·.map eI)).getD m [] ++ [eI i]) = (U.set m (U.getD m [] ++ [i])).map (·.map eI) := by
  rw [getD_mapN, List.map_set]
  congr 1
  simp
end Go.Vc
namespace Go.Vc
theorem readyG_len (n : Net) : ∀ i, (readyG n i).length ≤ i
  | 0 => by simp [readyG]
  | i + 1 => by
    have := readyG_len n i
    rw [readyG]; split
    · rw [List.length_append]; simp; omega
    · omega
end Go.Vc
namespace Go.Vc
theorem usersJ_set {n : Net} {i j : Nat} (h : (n.nodes.getD i default).k ≠ 7) (hj : j < (usesN (n.nodes.getD i default)).length) :
    ((usersJ n i j).map (·.map eI)).set ((usesN (n.nodes.getD i default)).getD j default).toNat (((usersJ n i j).map (·.map eI)).getD ((usesN (n.nodes.getD i default)).getD j default).toNat [] ++ [eI i]) = (usersJ n i (j + 1)).map (·.map eI) := by
  have hA : atsN (n.nodes.getD i default) = usesN (n.nodes.getD i default) := if_neg h
  rw [set_mapN, usersJ_succ (by rw [hA]; exact hj), hA]
  rfl
end Go.Vc
namespace Go.Vc
theorem bumpSetI (c : List Int) (i : Nat) : ((c.map eI).set (i : Int).toNat ((eI (c.getD i default)).set 0 (.int (c.getD i default + 1)))) = (bump c i).map eI := bumpSet c i
end Go.Vc
namespace Go.Vc
theorem readyG_yes {n : Net} {i : Nat} (h : (leftG n (i + 1)).getD i default = 0) : readyG n (i + 1) = readyG n i ++ [(i : Int)] := if_pos h
theorem readyG_no {n : Net} {i : Nat} (h : ¬ (leftG n (i + 1)).getD i default = 0) : readyG n (i + 1) = readyG n i := if_neg h
end Go.Vc
namespace Go.Vc
structure InvQ (n : Net) (b : Nat) (st : Lv) : Prop where
  lv : st.level.length = n.nodes.length
  lf : st.left.length = n.nodes.length
  cnt : st.ready.length + posL st.left ≤ n.nodes.length
  rd : ∀ i ∈ st.ready, 0 ≤ i ∧ i < n.nodes.length
  lvb : ∀ m, 0 ≤ st.level.getD m 0 ∧ st.level.getD m 0 ≤ b
  lfb : ∀ m, -(b : Int) ≤ st.left.getD m 0 ∧ st.left.getD m 0 ≤ 3 * n.nodes.length
theorem getD_set_int (l : List Int) (i m : Nat) (x : Int) : (l.set i x).getD m 0 = if i = m ∧ i < l.length then x else l.getD m 0 := by
  simp only [List.getD_eq_getElem?_getD, List.getElem?_set]
  by_cases h : i = m
  · subst h
    by_cases h2 : i < l.length
    · simp [h2]
    · simp [h2]
  · simp [h]
theorem InvQ.relax {n : Net} {b : Nat} {st : Lv} (h : InvQ n b st) (a : Int) {u : Int} (hu : 0 ≤ u ∧ u < n.nodes.length) :
    InvQ n (b + 1) (relax a st u) ∧ (relax a st u).ready.length + posL (relax a st u).left = st.ready.length + posL st.left ∧ st.ready.length ≤ (relax a st u).ready.length := by
  have hul : u.toNat < st.left.length := by rw [h.lf]; omega
  have hp := posL_set hul (st.left.getD u.toNat 0 - 1)
  have hself : (st.left.set u.toNat (st.left.getD u.toNat 0 - 1)).getD u.toNat 0 = st.left.getD u.toNat 0 - 1 := by rw [getD_set_int]; simp [hul]
  have hsum : (Vc.relax a st u).ready.length + posL (Vc.relax a st u).left = st.ready.length + posL st.left := by
    simp only [Vc.relax, hself]
    by_cases h0 : st.left.getD u.toNat 0 - 1 = 0
    · have h1 : 0 < st.left.getD u.toNat 0 := by omega
      have h2 : ¬ 0 < st.left.getD u.toNat 0 - 1 := by omega
      simp only [h1, h2, if_true, if_false] at hp
      simp only [h0, if_true, List.length_append, List.length_cons, List.length_nil]
      rw [h0] at hp
      omega
    · simp only [h0, if_false]
      by_cases h1 : 0 < st.left.getD u.toNat 0
      · have h2 : 0 < st.left.getD u.toNat 0 - 1 := by omega
        simp only [h1, h2, if_true] at hp; omega
      · have h2 : ¬ 0 < st.left.getD u.toNat 0 - 1 := by omega
        simp only [h1, h2, if_false] at hp; omega
  have hle : st.ready.length ≤ (Vc.relax a st u).ready.length := by
    simp only [Vc.relax]; split
    · simp
    · exact Nat.le_refl _
  refine ⟨⟨by simp [Vc.relax, h.lv], by simp [Vc.relax, h.lf], by rw [hsum]; exact h.cnt, ?_, ?_, ?_⟩, hsum, hle⟩
  · intro i hi
    simp only [Vc.relax] at hi
    split at hi
    · rcases List.mem_append.1 hi with hi | hi
      · exact h.rd i hi
      · simp at hi; subst hi; exact hu
    · exact h.rd i hi
  · intro m
    simp only [Vc.relax, getD_set_int]
    have h1 := h.lvb m
    have h2 := h.lvb u.toNat
    have h3 := h.lvb a.toNat
    split <;> omega
  · intro m
    simp only [Vc.relax, getD_set_int]
    have h1 := h.lfb m
    have h2 := h.lfb u.toNat
    split <;> omega
end Go.Vc
namespace Go.Vc
def usN (n : Net) (a : Int) : List Int := (usersG n n.nodes.length).getD a.toNat []
def relJ (n : Net) (a : Int) (st : Lv) (j : Nat) : Lv := ((usN n a).take j).foldl (relax a) st
theorem relJ_succ {n : Net} {a : Int} {st : Lv} {j : Nat} (h : j < (usN n a).length) : relJ n a st (j + 1) = relax a (relJ n a st j) ((usN n a).getD j default) := by
  unfold relJ; rw [take_succ_get h, List.foldl_append]; rfl
theorem relJ_end {n : Net} {a : Int} {st : Lv} {j : Nat} (h : ¬ j < (usN n a).length) : relJ n a st j = relaxAll n a st := by
  unfold relJ relaxAll; rw [List.take_of_length_le (by omega)]; rfl
theorem uStep_mem {i : Int} {us : List (List Int)} {a : Int} {m : Nat} {u : Int} (h : u ∈ (uStep i us a).getD m []) : u ∈ us.getD m [] ∨ u = i := by
  unfold uStep at h
  simp only [List.getD_eq_getElem?_getD, List.getElem?_set] at h
  by_cases h1 : a.toNat = m
  · subst h1
    by_cases h2 : a.toNat < us.length
    · simp [h2] at h
      rcases h with h | h
      · left; simpa [List.getD_eq_getElem?_getD, h2] using h
      · exact .inr h
    · simp [h2] at h
  · simp [h1] at h
    left; simpa [List.getD_eq_getElem?_getD] using h
theorem uFold_mem {i : Int} {m : Nat} {u : Int} : ∀ (l : List Int) (us : List (List Int)), u ∈ (l.foldl (uStep i) us).getD m [] → u ∈ us.getD m [] ∨ u = i
  | [], us, h => .inl h
  | a :: l, us, h => by
    rw [List.foldl_cons] at h
    rcases uFold_mem l _ h with h | h
    · exact uStep_mem h
    · exact .inr h
theorem usersG_mem (n : Net) {m : Nat} {u : Int} : ∀ i, i ≤ n.nodes.length → u ∈ (usersG n i).getD m [] → 0 ≤ u ∧ u < n.nodes.length
  | 0, _, h => by
    simp only [usersG, List.getD_eq_getElem?_getD, List.getElem?_replicate] at h
    split at h <;> simp at h
  | i + 1, hi, h => by
    rw [usersG] at h
    rcases uFold_mem _ _ h with h | h
    · exact usersG_mem n i (by omega) h
    · omega
theorem usN_mem {n : Net} {a u : Int} (h : u ∈ usN n a) : 0 ≤ u ∧ u < n.nodes.length := usersG_mem n _ (Nat.le_refl _) h
theorem usN_len (n : Net) (a : Int) : (usN n a).length ≤ 3 * n.nodes.length := usersG_bd n _ _
theorem relJ_inv {n : Net} {b : Nat} {st : Lv} (h : InvQ n b st) (a : Int) : ∀ j, j ≤ (usN n a).length →
    InvQ n (b + j) (relJ n a st j) ∧ (relJ n a st j).ready.length + posL (relJ n a st j).left = st.ready.length + posL st.left ∧ st.ready.length ≤ (relJ n a st j).ready.length
  | 0, _ => ⟨h, rfl, Nat.le_refl _⟩
  | j + 1, hj => by
    obtain ⟨h1, h2, h3⟩ := relJ_inv h a j (by omega)
    obtain ⟨g1, g2, g3⟩ := h1.relax a (usN_mem (getD_mem (show j < (usN n a).length by omega)))
    rw [relJ_succ (by omega)]
    exact ⟨g1, g2.trans h2, Nat.le_trans h3 g3⟩
theorem relaxAll_inv {n : Net} {b : Nat} {st : Lv} (h : InvQ n b st) (a : Int) :
    InvQ n (b + 3 * n.nodes.length) (relaxAll n a st) ∧ (relaxAll n a st).ready.length + posL (relaxAll n a st).left = st.ready.length + posL st.left ∧ st.ready.length ≤ (relaxAll n a st).ready.length := by
  obtain ⟨h1, h2, h3⟩ := relJ_inv h a (usN n a).length (Nat.le_refl _)
  rw [relJ_end (by omega)] at h1 h2 h3
  have := usN_len n a
  exact ⟨⟨h1.lv, h1.lf, h1.cnt, h1.rd, fun m => by have := h1.lvb m; omega, fun m => by have := h1.lfb m; omega⟩, h2, h3⟩
theorem qrun_step {n : Net} {b d : Nat} {st : Lv} (h : InvQ n b st) (hd : d < st.ready.length) :
    qrun n (muQ d st) d st = qrun n (muQ (d + 1) (relaxAll n (st.ready.getD d 0) st)) (d + 1) (relaxAll n (st.ready.getD d 0) st) ∧ muQ (d + 1) (relaxAll n (st.ready.getD d 0) st) < muQ d st := by
  obtain ⟨_, h2, h3⟩ := relaxAll_inv h (st.ready.getD d 0)
  have e : muQ d st = muQ (d + 1) (relaxAll n (st.ready.getD d 0) st) + 1 := by unfold muQ; omega
  refine ⟨?_, by omega⟩
  conv => lhs; rw [e, qrun, if_pos hd]
theorem qrun_end {n : Net} {d : Nat} {st : Lv} (hd : ¬ d < st.ready.length) : qrun n (muQ d st) d st = (d, st) := by
  cases muQ d st with
  | zero => rfl
  | succ f => rw [qrun, if_neg hd]
theorem readyG_mem (n : Net) {u : Int} : ∀ i, i ≤ n.nodes.length → u ∈ readyG n i → 0 ≤ u ∧ u < n.nodes.length
  | 0, _, h => by simp [readyG] at h
  | i + 1, hi, h => by
    rw [readyG] at h
    split at h
    · rcases List.mem_append.1 h with h | h
      · exact readyG_mem n i (by omega) h
      · simp at h; omega
    · exact readyG_mem n i (by omega) h
end Go.Vc
namespace Go.Vc
theorem bumpRep (i : Nat) : ∀ (k : Nat) (c : List Int), i < c.length → bumpAll c (List.replicate k (i : Int)) = c.set i (c.getD i 0 + k)
  | 0, c, h => by
    have e : c.getD i 0 = c[i] := by simp [List.getD_eq_getElem?_getD, h]
    simp only [List.replicate_zero, bumpAll, List.foldl_nil, e]
    simp
  | k + 1, c, h => by
    rw [List.replicate_succ, bumpAll, List.foldl_cons]
    have ih := bumpRep i k (bump c i) (by rw [bump_len]; exact h)
    rw [bumpAll] at ih
    rw [ih]
    simp only [bump, Int.toNat_natCast, getD_set_int, h, and_self, if_true, List.set_set]
    congr 1
    push_cast
    omega
theorem leftG_free (n : Net) : ∀ (i m : Nat), i ≤ m → (leftG n i).getD m 0 = 0
  | 0, m, _ => c0_get n m
  | i + 1, m, h => by
    rw [leftG]
    by_cases hi : i < (leftG n i).length
    · rw [bumpRep i _ _ hi, getD_set_int]
      have : ¬ (i = m ∧ i < (leftG n i).length) := by omega
      simp only [this, if_false]
      exact leftG_free n i m (by omega)
    · have h1 := bumpAll_le (List.replicate (atsN (ndI n i)).length (i : Int)) (leftG n i) m
      have h2 := bumpAll_len (List.replicate (atsN (ndI n i)).length (i : Int)) (leftG n i)
      rw [List.getD_eq_getElem?_getD, List.getElem?_eq_none (by omega)]
      rfl
theorem posL_zero (k : Nat) : posL (List.replicate k 0) = 0 := by
  unfold posL; rw [List.countP_eq_zero]; intro a ha; rw [List.eq_of_mem_replicate ha]; decide
theorem lv0_cnt (n : Net) : ∀ i, i ≤ n.nodes.length → (readyG n i).length + posL (leftG n i) ≤ i
  | 0, _ => by simp [readyG, leftG, c0, posL_zero]
  | i + 1, hi => by
    have ih := lv0_cnt n i (by omega)
    have hl : i < (leftG n i).length := by rw [leftG_len]; omega
    have e : leftG n (i + 1) = (leftG n i).set i ((leftG n i).getD i 0 + (atsN (ndI n i)).length) := by rw [leftG, bumpRep i _ _ hl]
    have h0 := leftG_free n i i (Nat.le_refl _)
    rw [h0, Int.zero_add] at e
    have hp := posL_set hl ((atsN (ndI n i)).length : Int)
    rw [h0] at hp
    simp only [show ¬ ((0 : Int) < 0) by omega, if_false, Nat.add_zero] at hp
    have hg : (leftG n (i + 1)).getD i 0 = (atsN (ndI n i)).length := by rw [e, getD_set_int]; simp [hl]
    rw [readyG, hg]
    rw [← e] at hp
    by_cases hk : ((atsN (ndI n i)).length : Int) = 0
    · have hk2 : ¬ (0 : Int) < ((atsN (ndI n i)).length : Int) := by omega
      simp only [hk2, if_false] at hp
      simp only [hk, if_true, List.length_append, List.length_cons, List.length_nil]
      omega
    · have hk2 : (0 : Int) < ((atsN (ndI n i)).length : Int) := by omega
      simp only [hk2, if_true] at hp
      simp only [hk, if_false]
      omega
theorem lv0_inv (n : Net) : InvQ n 0 (lv0 n) :=
  ⟨by simp [lv0, c0], leftG_len n _, lv0_cnt n _ (Nat.le_refl _), fun i hi => readyG_mem n _ (Nat.le_refl _) hi, fun m => by simp only [lv0]; rw [c0_get]; omega, fun m => by
    have := leftG_bd n m n.nodes.length
    simp only [lv0]; omega⟩
end Go.Vc
namespace Go.Vc
theorem OwnSt.len {s0 s1 : St} {x : AV} {e sz : Nat} {xs : List (List AV)} (h : OwnSt s0 x e sz xs s1) : lenA x = some xs.length := by
  rcases h with ⟨rfl, _, rfl | rfl⟩ | ⟨k, rfl, _, _⟩ <;> rfl
theorem OwnSt.pos {s0 s1 : St} {x : AV} {e sz : Nat} {xs : List (List AV)} (h : OwnSt s0 x e sz xs s1) (hp : 0 < xs.length) : ∃ k, x = .hdr k sz xs.length ∧ s1 k = some (.arr e sz xs) := by
  rcases h with ⟨rfl, _, _⟩ | ⟨k, rfl, _, rfl⟩
  · simp at hp
  · exact ⟨k, rfl, upd_same _ _ _⟩
theorem rowSet (c : List Int) (m : Nat) (z v : Int) : ((c.map eI).set m ((eI z).set 0 (.int v))) = (c.set m v).map eI := by rw [List.map_set]; rfl
theorem relax_yes {a u : Int} {st : Lv} (h : (st.left.set u.toNat (st.left.getD u.toNat 0 - 1)).getD u.toNat 0 = 0) : (relax a st u).ready = st.ready ++ [u] := if_pos h
theorem relax_no {a u : Int} {st : Lv} (h : ¬ (st.left.set u.toNat (st.left.getD u.toNat 0 - 1)).getD u.toNat 0 = 0) : (relax a st u).ready = st.ready := if_neg h
end Go.Vc
namespace Go.Vc
theorem nthU {n : Net} {a : Int} (h : a.toNat < n.nodes.length) : nth ((usersG n n.nodes.length).map ((fun xs => [AV.sl 1 xs]) ∘ fun x => x.map eI)) a.toNat = some [ints (usN n a)] :=
  nthM (by rw [usersG_len]; exact h)
end Go.Vc
namespace Go.Vc
theorem Cv.frzAll {s s' : St} (hl : Le s' s) {k e sz n : Nat} {xs : List (List AV)} (hk : s k = some (.arr e sz xs)) (hk' : s' k = none) (hn : n = xs.length) : Cv s s' (.hdr k sz n) (.sl sz xs) := by
  have := Cv.frz hl hk hk' (Nat.le_of_eq hn)
  rwa [hn, List.take_length, ← hn] at this
end Go.Vc
namespace Go.Vc
def errN (n : Net) : Int :=
  if 262144 < n.nodes.length ∨ 64 < n.ins.length + n.outs.length then 4
  else if formlessN n = true then 2
  else if (n.ins ++ n.outs).any (fun p => !nameN p.name) = true then 7
  else if dupN (n.ins ++ n.outs) = true then 8
  else if homelessN n = true then 10
  else if ¬ (levelsR n).1 = n.nodes.length then 9 else 0
def lvOf (n : Net) : List Int := if errN n = 0 then (levelsR n).2.level else []
structure NetB (n : Net) : Prop where
  nodes : n.nodes.length < 1099511627776
  ins : n.ins.length < 1099511627776
  outs : n.outs.length < 1099511627776
  bits : ∀ p ∈ n.ins ++ n.outs, p.bits.length < 1073741824
  names : ∀ p ∈ n.ins ++ n.outs, p.name.size < 1099511627776
theorem flat_len {l : List (List Int)} {b : Nat} (h : ∀ x ∈ l, x.length ≤ b) : l.flatten.length ≤ l.length * b := by
  induction l with
  | nil => simp
  | cons x l ih =>
    have h1 := h x (by simp)
    have h2 := ih fun y hy => h y (by simp [hy])
    simp only [List.flatten_cons, List.length_append, List.length_cons, Nat.succ_mul]
    omega
theorem NetB.inB {n : Net} (h : NetB n) (hp : n.ins.length ≤ 64) : (inBits n).length < 1099511627776 := by
  have := flat_len (l := n.ins.map Pt.bits) (b := 1073741824) (fun x hx => by
    obtain ⟨p, hp, rfl⟩ := List.mem_map.1 hx
    exact Nat.le_of_lt (h.bits p (by simp [hp])))
  rw [List.length_map] at this
  unfold inBits
  omega
theorem formless_uses {n : Net} (h : ¬ formlessN n = true) : ∀ i, i < n.nodes.length → ∀ a ∈ usesN (ndI n i), 0 ≤ a ∧ a < n.nodes.length := by
  intro i hi a ha
  have h1 : (usesN (ndI n i)).any (beyond n.nodes.length) = false := by
    cases hb : (usesN (ndI n i)).any (beyond n.nodes.length) with
    | false => rfl
    | true =>
      exfalso
      apply h
      unfold formlessN
      rw [any_some hi (by rw [badNode_eq, hb]; simp)]
      rfl
  have h2 := List.any_eq_false.1 h1 a ha
  simp [beyond] at h2
  omega
theorem formless_bits {n : Net} (h : ¬ formlessN n = true) : ∀ p ∈ n.ins ++ n.outs, ∀ a ∈ p.bits, 0 ≤ a ∧ a < n.nodes.length := by
  intro p hp a ha
  have h1 : (n.ins ++ n.outs).any (badPort n.nodes.length) = false := by
    cases hb : (n.ins ++ n.outs).any (badPort n.nodes.length) with
    | false => rfl
    | true => exact absurd (by unfold formlessN; rw [hb]; simp) h
  have h2 := List.any_eq_false.1 h1 p hp
  unfold badPort at h2
  simp only [Bool.or_eq_true, not_or] at h2
  have h3 := h2.2
  rw [Bool.not_eq_true] at h3
  have h4 := List.any_eq_false.1 h3 a ha
  simp [beyond] at h4
  omega
theorem formless_in {n : Net} (h : ¬ formlessN n = true) : ∀ i ∈ inBits n, 0 ≤ i ∧ i < n.nodes.length := by
  intro i hi
  unfold inBits at hi
  obtain ⟨l, hl, hil⟩ := List.mem_flatten.1 hi
  obtain ⟨p, hp, rfl⟩ := List.mem_map.1 hl
  exact formless_bits h p (by simp [hp]) i hil
end Go.Vc
namespace Go.Vc
theorem qrun_inv {n : Net} : ∀ (f d b : Nat) (st : Lv), InvQ n b st → b ≤ d * (3 * n.nodes.length) → d ≤ st.ready.length →
    ∃ b', InvQ n b' (qrun n f d st).2 ∧ b' ≤ (qrun n f d st).1 * (3 * n.nodes.length) ∧ (qrun n f d st).1 ≤ (qrun n f d st).2.ready.length
  | 0, d, b, st, h, hb, hd => ⟨b, h, hb, hd⟩
  | f + 1, d, b, st, h, hb, hd => by
    rw [qrun]
    by_cases hl : d < st.ready.length
    · rw [if_pos hl]
      obtain ⟨h1, h2, h3⟩ := relaxAll_inv h (st.ready.getD d 0)
      exact qrun_inv f (d + 1) _ _ h1 (by rw [Nat.add_mul]; omega) (by omega)
    · rw [if_neg hl]; exact ⟨b, h, hb, hd⟩
theorem levelsR_inv (n : Net) (hn : n.nodes.length < 1048576) : ∃ b, InvQ n b (levelsR n).2 ∧ b ≤ 3298534883328 := by
  obtain ⟨b, h1, h2, h3⟩ := qrun_inv (muQ 0 (lv0 n)) 0 0 (lv0 n) (lv0_inv n) (by simp) (Nat.zero_le _)
  have h4 := h1.cnt
  refine ⟨b, h1, Nat.le_trans h2 (Nat.le_trans (Nat.mul_le_mul (show (qrun n (muQ 0 (lv0 n)) 0 (lv0 n)).1 ≤ 1048576 by omega) (show 3 * n.nodes.length ≤ 3145728 by omega)) (by decide))⟩
def bkG (l : List Int) : Nat → List (List Int)
  | 0 => List.replicate (maxL l l.length + 1).toNat []
  | i + 1 => uStep i (bkG l i) (l.getD i 0)
theorem bkG_len (l : List Int) : ∀ i, (bkG l i).length = (maxL l l.length + 1).toNat
  | 0 => by simp [bkG]
  | i + 1 => by rw [bkG, uStep_len, bkG_len l i]
theorem bkG_bd (l : List Int) (m : Nat) : ∀ i, ((bkG l i).getD m []).length ≤ i
  | 0 => by
    simp only [bkG, List.getD_eq_getElem?_getD, List.getElem?_replicate]
    split <;> simp
  | i + 1 => by
    have h1 := uStep_bd i (bkG l i) (l.getD i 0) m
    have h2 := bkG_bd l m i
    rw [bkG]; omega
theorem flat_set {us : List (List Int)} {m : Nat} {x : Int} (h : m < us.length) : (us.set m (us.getD m [] ++ [x])).flatten.length = us.flatten.length + 1 := by
  induction us generalizing m with
  | nil => simp at h
  | cons u us ih =>
    cases m with
    | zero => simp; omega
    | succ m =>
      have := ih (m := m) (by simpa using h)
      simp only [List.set_cons_succ, List.flatten_cons, List.length_append, List.getD_cons_succ, this]
      omega
def orderN (n : Net) : List Int := if lvOf n = [] then [] else (bkG (lvOf n) (lvOf n).length).flatten
end Go.Vc

set_option linter.unusedVariables false
set_option maxRecDepth 100000
namespace Go.Proofs.Ytpcpdepfnoijoaa
open Go.Vc
theorem levels {n : Net} {s : St} {K : AV → St → Prop} (hn : n.nodes.length < 2^20) (hu : ∀ i, i < n.nodes.length → ∀ a ∈ usesN (n.nodes.getD i default), 0 ≤ a ∧ a < n.nodes.length) (hk : K (.tup [ints (levelsR n).2.level, .bool (decide (((levelsR n).1 : Int) = n.nodes.length))]) s) : CallsA Try.prog 132 [netA n] s K := by
  refine callsA_of Try.func132 rfl rfl (Nat.le_of_ble_eq_true rfl) ?_
  refine vc_seq ?_
  refine vc_regionW (qm 7) [0, 1, 2] rfl rfl ?_
  refine vq rfl rfl (q_box rfl rfl) ?_
  refine vq rfl rfl (q_assign rfl) ?_
  refine vq rfl rfl (q_assign rfl) ?_
  refine vendW ?_
  refine vc_seq ?_
  refine vc_regionW (qm 23) [0, 1, 2, 3, 4] rfl rfl ?_
  refine vq rfl rfl (q_field fo25_0 rfl (Nat.le_of_ble_eq_true rfl)) ?_
  refine vq rfl rfl (q_load sc22 rfl) ?_
  refine vq rfl rfl (q_len sl22 rfl (by first | exact lenM | rfl)) ?_
  refine ve rfl rfl (e_make sl40 zr3 rfl (List.cons_ne_nil _ _) rfl rfl (by omega) (by omega) (by omega) (by omega) (fun k4 hk4 => ?_))
  refine vq rfl rfl (q_assign rfl) ?_
  refine vendW ?_
  refine vc_seq ?_
  refine vc_regionW (qm 23) [0, 1, 2, 3, 4] rfl rfl ?_
  refine vq rfl rfl (q_field fo25_0 rfl (Nat.le_of_ble_eq_true rfl)) ?_
  refine vq rfl rfl (q_load sc22 rfl) ?_
  refine vq rfl rfl (q_len sl22 rfl (by first | exact lenM | rfl)) ?_
  refine ve rfl rfl (e_make sl40 zr3 rfl (List.cons_ne_nil _ _) rfl rfl (by omega) (by omega) (by omega) (by omega) (fun k5 hk5 => ?_))
  refine vq rfl rfl (q_assign rfl) ?_
  refine vendW ?_
  refine vc_seq ?_
  refine vc_regionW (qm 23) [0, 1, 2, 3, 4] rfl rfl ?_
  refine vq rfl rfl (q_field fo25_0 rfl (Nat.le_of_ble_eq_true rfl)) ?_
  refine vq rfl rfl (q_load sc22 rfl) ?_
  refine vq rfl rfl (q_len sl22 rfl (by first | exact lenM | rfl)) ?_
  refine ve rfl rfl (e_makeO (n := n.nodes.length) (e2 := 3) (sz2 := 1) sl182 zr40 rfl rfl rfl (by omega) (by omega) (fun k6 F0 hk6 => ?_))
  refine vq rfl rfl (q_assign rfl) ?_
  refine vendW ?_
  rw [mk0] at hk5 hk6 ⊢
  have hN := LvN.init hk4 hk5 hk6
  refine vc_seq ?_
  refine vc_regionW (qm 1) [0] rfl rfl ?_
  refine vq rfl rfl (q_assign rfl) ?_
  refine vendW ?_
  refine vc_seq ?_
  refine vc_seq ?_
  refine vc_regionW (qm 15) [0, 1, 2, 3] rfl rfl ?_
  refine vq rfl rfl (q_field fo25_0 rfl (Nat.le_of_ble_eq_true rfl)) ?_
  refine vq rfl rfl (q_load sc22 rfl) ?_
  refine vq rfl rfl (q_len sl22 rfl (by first | exact lenM | rfl)) ?_
  refine vq rfl rfl (q_move rfl) ?_
  refine vendW ?_
  refine vc_block ?_
  refine vc_loopS (α := Nat × AV × St × St) [7, 8, 9, 11, 31, 32, 33, 34, 35, 36, 37, 38, 39, 40, 41, 42, 43, 44, 45, 46, 47, 48, 49, 50, 51, 52, 53, 54, 55, 56, 57, 58, 59, 60, 61, 62, 63, 64, 65, 66, 67, 68, 69, 70, 71, 72] (fun a => [(31, .int (a.1 : Int)), (7, a.2.1)]) (fun a => a.2.2.2) (fun a => a.1 ≤ n.nodes.length ∧ LvH s 3 k4 k5 (c0 n) (leftG n a.1) a.2.1 (readyG n a.1) a.2.2.1 a.2.2.2 ∧ ∃ F, a.2.2.1 k6 = some (.obj F (ovs 3 1 ((usersG n a.1).map (·.map eI))))) (fun a => n.nodes.length - a.1) (0, nilS, _, _) ⟨Nat.zero_le _, LvH.init hk4 hk5 hk6, ⟨F0, by rw [show (usersG n 0).map (·.map eI) = List.replicate n.nodes.length [] by simp [usersG]]; exact upd_same _ _ _⟩⟩ rfl ⟨rfl, rfl, trivial⟩ (fun _ => rfl) ?_
  intro ⟨i, x, s0, s1⟩ ⟨hi, hv, F1, hF⟩
  simp only at hi hv hF ⊢
  refine vc_seq ?_
  refine vc_regionW (qm 1) [0] rfl rfl ?_
  refine vq rfl rfl (q_lt rfl rfl) ?_
  refine vendW ?_
  refine vc_seq ?_
  refine vc_condD rfl (fun h => ?_) (fun h => ?_)
  ·
    refine vc_skip ?_
    refine vc_seq ?_
    refine vc_block ?_
    refine vc_seq ?_
    refine vc_regionW (qm 23) [0, 1, 2, 3, 4, 5] rfl rfl ?_
    refine vq rfl rfl (q_move rfl) ?_
    refine vq rfl rfl (q_index sl22 rfl rfl (by omega) (by first | exact nthI (by omega) | exact nthM (by omega))) ?_
    refine vq rfl rfl (q_loadA ag89 rfl rfl) ?_
    refine ve rfl rfl (e_alloc zr89 (fun k9 hk9 => ?_))
    refine vq rfl rfl (q_assign rfl) ?_
    refine vn rfl rfl (e_storeN sz89 rfl rfl rfl rfl (upd_same _ _ _) rfl ?_)
    refine vendW ?_
    refine vc_frzC (i := 9) hk9 (upd_upd _ _ _ _) rfl ?_
    refine vc_seq ?_
    refine vc_seq ?_
    refine vc_regionW (qm 7) [0, 1, 2] rfl rfl ?_
    refine vq rfl rfl (q_field fo89_0 rfl (Nat.le_of_ble_eq_true rfl)) ?_
    refine vq rfl rfl (q_load sc3 rfl) ?_
    refine vq rfl rfl (q_ne rfl rfl) ?_
    refine vendW ?_
    refine vc_condD rfl (fun h38 => ?_) (fun h38 => ?_)
    ·
      refine vc_seq ?_
      refine vc_regionW (qm 15) [0, 1, 2, 3] rfl rfl ?_
      refine vq rfl rfl (q_loadA ag89 rfl rfl) ?_
      refine vq rfl rfl (q_callF go78 rfl (fun s => uses ⟨rfl, rfl⟩)) ?_
      refine vq rfl rfl (q_len sl40 rfl (by first | exact lenM | rfl)) ?_
      refine vq rfl rfl (q_move rfl) ?_
      refine vendW ?_
      refine vc_block ?_
      refine vc_loopS (α := Nat × St × St) [11, 42, 43, 44, 45, 46, 47, 48, 49, 50, 51, 52, 53, 54, 55, 56, 57, 58, 59, 60, 61, 62] (fun a => [(42, .int (a.1 : Int))]) (fun a => a.2.2) (fun a => a.1 ≤ (usesN (n.nodes.getD i default)).length ∧ LvH s 3 k4 k5 (c0 n) (leftJ n i a.1) x (readyG n i) a.2.1 a.2.2 ∧ ∃ F, a.2.1 k6 = some (.obj F (ovs 3 1 ((usersJ n i a.1).map (·.map eI))))) (fun a => (usesN (n.nodes.getD i default)).length - a.1) (0, s0, s1) ⟨Nat.zero_le _, hv, ⟨F1, hF⟩⟩ rfl ⟨rfl, trivial⟩ (fun _ => rfl) ?_
      intro ⟨j, t0, t1⟩ ⟨hj, hw, F2, hF2⟩
      simp only at hj hw hF2 ⊢
      have hu3 := usesN_len (n.nodes.getD i default)
      refine vc_seq ?_
      refine vc_regionW (qm 1) [0] rfl rfl ?_
      refine vq rfl rfl (q_lt rfl rfl) ?_
      refine vendW ?_
      refine vc_seq ?_
      refine vc_condD rfl (fun h43 => ?_) (fun h43 => ?_)
      ·
        refine vc_skip ?_
        refine vc_seq ?_
        refine vc_block ?_
        refine vc_seq ?_
        refine vc_regionW (qm 7) [0, 1, 2] rfl rfl ?_
        refine vq rfl rfl (q_index sl40 rfl rfl (by omega) (by first | exact nthI (by omega) | exact nthM (by omega))) ?_
        refine vq rfl rfl (q_load sc3 rfl) ?_
        refine vq rfl rfl (q_assign rfl) ?_
        refine vendW ?_
        refine vc_seq ?_
        have hjl : j < (usesN (n.nodes.getD i default)).length := by omega
        have hat := hu i (by omega) _ (getD_mem hjl)
        refine vc_openI (p := k6) (i := ((usesN (n.nodes.getD i default)).getD j default).toNat) (hw.own.le _ _ hF2) (by rw [List.length_map, usersJ_len]; omega) (fun y F3 t2 hy => ?_)
        refine vc_regionW (qm 429049853758163107186368799942587076079339706258956588087153966199096448962353503257659977541340909686081019461967553627320124249982290238285876768194691839) [0, 1, 2, 3, 4, 5, 6, 7, 8, 9, 10] rfl rfl ?_
        refine vq rfl rfl (q_move rfl) ?_
        refine vq rfl rfl (q_move rfl) ?_
        refine vq rfl rfl (q_move rfl) ?_
        refine vq rfl rfl (q_move rfl) ?_
        refine vq rfl rfl (q_indexH sl182 rfl rfl (by omega) (by omega)) ?_
        refine vr rfl rfl rfl (e_loadO sc40 rfl (hy.get (upd_same _ _ _)) (nth_mid (by simp only [ovs_len, List.length_take, List.length_map, usersJ_len]; omega)) ⟨rfl, rfl⟩) ?_
        refine vq rfl rfl (q_move rfl) ?_
        refine vq rfl rfl (q_buildS sl40 zo3 (by decide) rfl rfl rfl rfl (by decide)) ?_
        refine ve rfl rfl (e_append sl40 zo3 rfl rfl hy (SrcOK.slx 1 _) (rowsC1_one rfl) (by have := usersJ_bd n i j ((usesN (n.nodes.getD i default)).getD j default).toNat; rw [getD_mapN, List.length_map]; simp only [maxLen_eq, List.length_map, List.length_cons, List.length_nil]; omega) (fun y2 t3 hy2 => ?_))
        refine vq rfl rfl (q_indexH sl182 rfl rfl (by omega) (by omega)) ?_
        refine vn rfl rfl (e_storeO sz40 rfl rfl hy2.c1 (hy2.get (upd_same _ _ _)) (nth_mid (by simp only [ovs_len, List.length_take, List.length_map, usersJ_len]; omega)) ?_)
        refine vendW ?_
        rw [set_midO (by simp only [ovs_len, List.length_take, List.length_map, usersJ_len]; omega)]
        refine vc_shutI (i := ((usesN (n.nodes.getD i default)).getD j default).toNat) (by rw [List.length_map, usersJ_len]; omega) (OwnSt.put hy2) (fun F4 => ?_)
        change VC _ _ _ _ _ (upd t1 k6 (.obj F4 (ovs 3 1 (((usersJ n i j).map (·.map eI)).set ((usesN (n.nodes.getD i default)).getD j default).toNat (((usersJ n i j).map (·.map eI)).getD ((usesN (n.nodes.getD i default)).getD j default).toNat [] ++ [eI i])))))
        rw [usersJ_set h38 hjl]
        have hw6 := hw.set6 (r' := .obj F4 (ovs 3 1 ((usersJ n i (j + 1)).map (·.map eI)))) hF2 hN.d46 hN.d56 hN.n6
        refine vc_regionW (qm 107262463439540776796592199985646769019834926564739147021788491549774112240588375814414994385335227421520254865491888406830031062495572559571469192048672831) [0, 1, 2, 3, 4, 5, 6] rfl rfl ?_
        refine vq rfl rfl (q_move rfl) ?_
        refine vq rfl rfl (q_move rfl) ?_
        refine vq rfl rfl (q_indexH sl40 rfl rfl (by omega) (by omega)) ?_
        refine vr rfl rfl rfl (e_loadE sc3 rfl hw6.g5 (nthI (by rw [leftJ_len]; omega)) rfl ⟨rfl, rfl⟩) ?_
        refine vq rfl rfl (q_add rfl rfl (w64 (by have := leftJ_bd n i j i; show _ ≤ (leftJ n i j).getD i 0 + 1 ∧ (leftJ n i j).getD i 0 + 1 ≤ _; omega))) ?_
        refine vq rfl rfl (q_indexH sl40 rfl rfl (by omega) (by omega)) ?_
        refine vn rfl rfl (e_storeE sz3 rfl rfl rfl hw6.g5 (nthI (by rw [leftJ_len]; omega)) rfl ?_)
        refine vendW ?_
        refine vc_regionW (qm 3) [0, 1] rfl rfl ?_
        refine vq rfl rfl (q_add rfl rfl (w64 (by omega))) ?_
        refine vq rfl rfl (q_move rfl) ?_
        refine vendW ?_
        have hw7 := hw6.set5 (B' := leftJ n i (j + 1)) hN.d45 hN.n5
        have hF7 := (upd_ne (upd t0 k6 (.obj F4 (ovs 3 1 ((usersJ n i (j + 1)).map (·.map eI))))) (.arr 3 1 ((leftJ n i (j + 1)).map eI)) hN.d56.symm).trans (upd_same t0 k6 _)
        refine ⟨(j + 1, upd (upd t0 k6 (.obj F4 (ovs 3 1 ((usersJ n i (j + 1)).map (·.map eI))))) k5 (.arr 3 1 ((leftJ n i (j + 1)).map eI)), upd (upd t1 k6 (.obj F4 (ovs 3 1 ((usersJ n i (j + 1)).map (·.map eI))))) k5 (.arr 3 1 ((leftJ n i (j + 1)).map eI))), ⟨by simp only; omega, hw7, ⟨F4, hF7⟩⟩, by simp only; omega, ?_, ⟨rfl, trivial⟩, (congrArg (fun z => upd (upd t1 k6 (.obj F4 (ovs 3 1 ((usersJ n i (j + 1)).map (·.map eI))))) k5 (.arr 3 1 z)) ((bumpSetI _ _).trans (by rw [leftJ_succ])))⟩
        repeat (first | exact Same.refl | refine Same.upd rfl ?_ | refine Same.drop rfl ?_)
      refine vc_exit ?_
      refine vc_seq ?_
      first
      | (have hA : atsN (n.nodes.getD i default) = usesN (n.nodes.getD i default) := if_neg h38; have hj2 : j = (atsN (n.nodes.getD i default)).length := by rw [hA]; omega
         have hE := leftJ_end hj2; have hE6 := usersJ_end (n := n) (i := i) (j := j) (by rw [← hj2]; omega)
         rw [hE] at hw; rw [hE6] at hF2; have hv15 := hw; have hF15 := hF2; clear hw hF2)
      | (have hA : atsN (n.nodes.getD i default) = [] := if_pos (Decidable.not_not.1 h38); have hE : leftG n i = leftG n (i + 1) := by rw [leftG, hA]; rfl
         have hE6 : usersG n i = usersG n (i + 1) := by rw [usersG, hA]; rfl
         rw [hE] at hv; rw [hE6] at hF; have hv15 := hv; have hF15 := hF; clear hv hF)
      refine vc_regionW (qm 107262463439540776796592199985646769019834926564739147021788491549774112240588375814414994385335227421520254865491888406830031062495572559571469192048672799) [0, 1, 2, 3, 4] rfl rfl ?_
      refine vq rfl rfl (q_move rfl) ?_
      refine vq rfl rfl (q_move rfl) ?_
      refine vq rfl rfl (q_indexH sl40 rfl rfl (by omega) (by omega)) ?_
      refine vr rfl rfl rfl (e_loadE sc3 rfl hv15.g5 (nthI (by rw [leftG_len]; omega)) rfl ⟨rfl, rfl⟩) ?_
      refine vq rfl rfl (q_eq rfl rfl) ?_
      refine vendW ?_
      refine vc_condD rfl (fun h67 => ?_) (fun h67 => ?_)
      ·
        refine vc_regionW (qm 23) [0, 1, 2, 3, 4] rfl rfl ?_
        refine vq rfl rfl (q_move rfl) ?_
        refine vq rfl rfl (q_move rfl) ?_
        refine vq rfl rfl (q_buildS sl40 zo3 (by decide) rfl rfl rfl rfl (by decide)) ?_
        refine ve rfl rfl (e_append sl40 zo3 rfl rfl hv15.own (SrcOK.slx 1 _) (rowsC1_one rfl) (by have := readyG_len n i; rw [List.length_map]; simp only [maxLen_eq, List.length_map, List.length_cons, List.length_nil]; omega) (fun x3 s3 ho3 => ?_))
        refine vq rfl rfl (q_assign rfl) ?_
        refine vendW ?_
        refine vc_regionW (qm 3) [0, 1] rfl rfl ?_
        refine vq rfl rfl (q_add rfl rfl (w64 (by omega))) ?_
        refine vq rfl rfl (q_move rfl) ?_
        refine vendW ?_
        refine ⟨(i + 1, x3, _, s3), ⟨by simp only; omega, by have := hv15.push ho3; rw [readyG_yes h67]; exact this, ⟨_, hF15⟩⟩, by simp only; omega, ?_, ⟨rfl, rfl, trivial⟩, rfl⟩
        repeat (first | exact Same.refl | refine Same.upd rfl ?_ | refine Same.drop rfl ?_)
      refine vc_skip ?_
      refine vc_regionW (qm 3) [0, 1] rfl rfl ?_
      refine vq rfl rfl (q_add rfl rfl (w64 (by omega))) ?_
      refine vq rfl rfl (q_move rfl) ?_
      refine vendW ?_
      refine ⟨(i + 1, x, _, _), ⟨by simp only; omega, by rw [readyG_no h67]; exact hv15, ⟨_, hF15⟩⟩, by simp only; omega, ?_, ⟨rfl, rfl, trivial⟩, rfl⟩
      repeat (first | exact Same.refl | refine Same.upd rfl ?_ | refine Same.drop rfl ?_)
    refine vc_skip ?_
    refine vc_seq ?_
    first
    | (have hA : atsN (n.nodes.getD i default) = usesN (n.nodes.getD i default) := if_neg h38; have hj2 : j = (atsN (n.nodes.getD i default)).length := by rw [hA]; omega
       have hE := leftJ_end hj2; have hE6 := usersJ_end (n := n) (i := i) (j := j) (by rw [← hj2]; omega)
       rw [hE] at hw; rw [hE6] at hF2; have hv15 := hw; have hF15 := hF2; clear hw hF2)
    | (have hA : atsN (n.nodes.getD i default) = [] := if_pos (Decidable.not_not.1 h38); have hE : leftG n i = leftG n (i + 1) := by rw [leftG, hA]; rfl
       have hE6 : usersG n i = usersG n (i + 1) := by rw [usersG, hA]; rfl
       rw [hE] at hv; rw [hE6] at hF; have hv15 := hv; have hF15 := hF; clear hv hF)
    refine vc_regionW (qm 107262463439540776796592199985646769019834926564739147021788491549774112240588375814414994385335227421520254865491888406830031062495572559571469192048672799) [0, 1, 2, 3, 4] rfl rfl ?_
    refine vq rfl rfl (q_move rfl) ?_
    refine vq rfl rfl (q_move rfl) ?_
    refine vq rfl rfl (q_indexH sl40 rfl rfl (by omega) (by omega)) ?_
    refine vr rfl rfl rfl (e_loadE sc3 rfl hv15.g5 (nthI (by rw [leftG_len]; omega)) rfl ⟨rfl, rfl⟩) ?_
    refine vq rfl rfl (q_eq rfl rfl) ?_
    refine vendW ?_
    refine vc_condD rfl (fun h67 => ?_) (fun h67 => ?_)
    ·
      refine vc_regionW (qm 23) [0, 1, 2, 3, 4] rfl rfl ?_
      refine vq rfl rfl (q_move rfl) ?_
      refine vq rfl rfl (q_move rfl) ?_
      refine vq rfl rfl (q_buildS sl40 zo3 (by decide) rfl rfl rfl rfl (by decide)) ?_
      refine ve rfl rfl (e_append sl40 zo3 rfl rfl hv15.own (SrcOK.slx 1 _) (rowsC1_one rfl) (by have := readyG_len n i; rw [List.length_map]; simp only [maxLen_eq, List.length_map, List.length_cons, List.length_nil]; omega) (fun x3 s3 ho3 => ?_))
      refine vq rfl rfl (q_assign rfl) ?_
      refine vendW ?_
      refine vc_regionW (qm 3) [0, 1] rfl rfl ?_
      refine vq rfl rfl (q_add rfl rfl (w64 (by omega))) ?_
      refine vq rfl rfl (q_move rfl) ?_
      refine vendW ?_
      refine ⟨(i + 1, x3, _, s3), ⟨by simp only; omega, by have := hv15.push ho3; rw [readyG_yes h67]; exact this, ⟨_, hF15⟩⟩, by simp only; omega, ?_, ⟨rfl, rfl, trivial⟩, rfl⟩
      repeat (first | exact Same.refl | refine Same.upd rfl ?_ | refine Same.drop rfl ?_)
    refine vc_skip ?_
    refine vc_regionW (qm 3) [0, 1] rfl rfl ?_
    refine vq rfl rfl (q_add rfl rfl (w64 (by omega))) ?_
    refine vq rfl rfl (q_move rfl) ?_
    refine vendW ?_
    refine ⟨(i + 1, x, _, _), ⟨by simp only; omega, by rw [readyG_no h67]; exact hv15, ⟨_, hF15⟩⟩, by simp only; omega, ?_, ⟨rfl, rfl, trivial⟩, rfl⟩
    repeat (first | exact Same.refl | refine Same.upd rfl ?_ | refine Same.drop rfl ?_)
  refine vc_exit ?_
  refine vc_seq ?_
  have hi2 : i = n.nodes.length := by omega
  subst hi2
  refine vc_frzO (i := 6) (era_same _ _) (upd_era_self (hv.own.le _ _ hF)) rfl (by rw [List.length_map, usersG_len]) ?_
  rw [List.map_map]
  have hv2 := hv.era6 hF hN.d46 hN.d56 hN.n6
  refine vc_regionW (qm 1) [0] rfl rfl ?_
  refine vq rfl rfl (q_assign rfl) ?_
  refine vendW ?_
  refine vc_seq ?_
  refine vc_block ?_
  refine vc_loopS (α := Nat × Lv × Nat × AV × St × St) [7, 12, 13, 15, 73, 74, 75, 76, 77, 78, 79, 80, 81, 82, 83, 84, 85, 86, 87, 88, 89, 90, 91, 92, 93, 94, 95, 96, 97, 98, 99, 100, 101, 102, 103, 104, 105, 106, 107, 108, 109, 110, 111, 112, 113, 114, 115, 116, 117, 118, 119, 120] (fun a => [(12, .int (a.1 : Int)), (7, a.2.2.2.1)]) (fun a => a.2.2.2.2.2) (fun a => a.1 ≤ a.2.1.ready.length ∧ LvH s 3 k4 k5 a.2.1.level a.2.1.left a.2.2.2.1 a.2.1.ready a.2.2.2.2.1 a.2.2.2.2.2 ∧ InvQ n a.2.2.1 a.2.1 ∧ a.2.2.1 ≤ a.1 * (3 * n.nodes.length) ∧ qrun n (muQ a.1 a.2.1) a.1 a.2.1 = levelsR n) (fun a => muQ a.1 a.2.1) (0, lv0 n, 0, x, _, _) ⟨Nat.zero_le _, hv2, lv0_inv n, by simp, rfl⟩ rfl ⟨rfl, rfl, trivial⟩ (fun _ => rfl) ?_
  intro ⟨d, st, b, x, t0, t1⟩ ⟨hd, hv3, hQ, hb, hq⟩
  simp only at hd hv3 hQ hb hq ⊢
  have hcn := hQ.cnt
  have hbb : b ≤ 3298534883328 := Nat.le_trans hb (Nat.le_trans (Nat.mul_le_mul (show d ≤ 1048576 by omega) (show 3 * n.nodes.length ≤ 3145728 by omega)) (by decide))
  refine vc_seq ?_
  refine vc_seq ?_
  refine vc_regionW (qm 15) [0, 1, 2, 3] rfl rfl ?_
  refine vq rfl rfl (q_move rfl) ?_
  refine vq rfl rfl (q_move rfl) ?_
  refine vq rfl rfl (q_len sl40 rfl (by rw [hv3.own.len, List.length_map])) ?_
  refine vq rfl rfl (q_lt rfl rfl) ?_
  refine vendW ?_
  refine vc_condD rfl (fun h76 => ?_) (fun h76 => ?_)
  ·
    refine vc_skip ?_
    refine vc_seq ?_
    refine vc_block ?_
    refine vc_seq ?_
    have hdl : d < st.ready.length := by omega
    obtain ⟨kr, rfl, hkr⟩ := hv3.own.pos (by rw [List.length_map]; omega)
    have hat := hQ.rd _ (getD_mem hdl)
    refine vc_regionW (qm 107262463439540776796592199985646769019834926564739147021788491549774112240588375814414994385335227421520254865491888406830031062495572559571469192048672799) [0, 1, 2, 3, 4] rfl rfl ?_
    refine vq rfl rfl (q_move rfl) ?_
    refine vq rfl rfl (q_move rfl) ?_
    refine vq rfl rfl (q_indexH sl40 rfl rfl (by omega) (by rw [List.length_map]; omega)) ?_
    refine vr rfl rfl rfl (e_loadE sc3 rfl hkr (nthI (by omega)) rfl ⟨rfl, rfl⟩) ?_
    refine vq rfl rfl (q_assign rfl) ?_
    refine vendW ?_
    refine vc_seq ?_
    refine vc_regionW (qm 63) [0, 1, 2, 3, 4, 5] rfl rfl ?_
    refine vq rfl rfl (q_move rfl) ?_
    refine vq rfl rfl (q_move rfl) ?_
    refine vq rfl rfl (q_index sl182 rfl rfl (by omega) (nthU (by omega))) ?_
    refine vq rfl rfl (q_load sc40 rfl) ?_
    refine vq rfl rfl (q_len sl40 rfl (by first | exact lenM | rfl)) ?_
    refine vq rfl rfl (q_move rfl) ?_
    refine vendW ?_
    refine vc_block ?_
    refine vc_loopS (α := Nat × AV × St × St) [7, 15, 88, 89, 90, 91, 92, 93, 94, 95, 96, 97, 98, 99, 100, 101, 102, 103, 104, 105, 106, 107, 108, 109, 110, 111, 112, 113, 114, 115, 116, 117, 118, 119, 120] (fun a => [(88, .int (a.1 : Int)), (7, a.2.1)]) (fun a => a.2.2.2) (fun a => a.1 ≤ (usN n (st.ready.getD d default)).length ∧ LvH s 3 k4 k5 (relJ n (st.ready.getD d default) st a.1).level (relJ n (st.ready.getD d default) st a.1).left a.2.1 (relJ n (st.ready.getD d default) st a.1).ready a.2.2.1 a.2.2.2) (fun a => (usN n (st.ready.getD d default)).length - a.1) (0, _, _, _) ⟨Nat.zero_le _, hv3⟩ rfl ⟨rfl, rfl, trivial⟩ (fun _ => rfl) ?_
    intro ⟨j, y, u0, u1⟩ ⟨hj, hw⟩
    simp only at hj hw ⊢
    refine vc_seq ?_
    refine vc_regionW (qm 1) [0] rfl rfl ?_
    refine vq rfl rfl (q_lt rfl rfl) ?_
    refine vendW ?_
    refine vc_seq ?_
    refine vc_condD rfl (fun h89 => ?_) (fun h89 => ?_)
    ·
      refine vc_skip ?_
      refine vc_seq ?_
      refine vc_block ?_
      refine vc_seq ?_
      refine vc_regionW (qm 7) [0, 1, 2] rfl rfl ?_
      refine vq rfl rfl (q_index sl40 rfl rfl (by omega) (by first | exact nthI (by omega) | exact nthM (by omega))) ?_
      refine vq rfl rfl (q_load sc3 rfl) ?_
      refine vq rfl rfl (q_assign rfl) ?_
      refine vendW ?_
      refine vc_seq ?_
      have hjl2 : j < (usN n (st.ready.getD d default)).length := by omega
      have hub := usN_mem (getD_mem hjl2)
      obtain ⟨hI, hS, hR⟩ := relJ_inv hQ (st.ready.getD d default) j (by omega)
      have hul := usN_len n (st.ready.getD d default)
      refine vc_regionDW mx (qm 7293847513888772822168269599023980293348775006402261997481617425384639632360009555380219618202795464663377330853448411664442112249698934050859905059309756415) [0, 1, 2, 3, 4, 5, 6, 7, 8, 9, 10, 11, 12, 13] (by kernel_rfl) ?_
      refine vq rfl rfl (q_move rfl) ?_
      refine vq rfl rfl (q_move rfl) ?_
      refine vq rfl rfl (q_move rfl) ?_
      refine vq rfl rfl (q_move rfl) ?_
      refine vq rfl rfl (q_indexH sl40 rfl rfl (by omega) (by omega)) ?_
      refine vr rfl rfl rfl (e_loadE sc3 rfl hw.g4 (nthM (by rw [hI.lv]; omega)) rfl ⟨rfl, rfl⟩) ?_
      refine vq rfl rfl (q_move rfl) ?_
      refine vq rfl rfl (q_move rfl) ?_
      refine vq rfl rfl (q_indexH sl40 rfl rfl (by omega) (by omega)) ?_
      refine vr rfl rfl rfl (e_loadE sc3 rfl hw.g4 (nthM (by rw [hI.lv]; omega)) rfl ⟨rfl, rfl⟩) ?_
      refine vq rfl rfl (q_add rfl rfl (w64 (by have := hI.lvb (st.ready.getD d default).toNat; show _ ≤ (relJ n (st.ready.getD d default) st j).level.getD (st.ready.getD d default).toNat 0 + 1 ∧ (relJ n (st.ready.getD d default) st j).level.getD (st.ready.getD d default).toNat 0 + 1 ≤ _; omega))) ?_
      refine vq rfl rfl (q_max rfl rfl) ?_
      refine vq rfl rfl (q_indexH sl40 rfl rfl (by omega) (by omega)) ?_
      refine vn rfl rfl (e_storeE sz3 rfl rfl rfl hw.g4 (nthM (by rw [hI.lv]; omega)) rfl ?_)
      refine vendW ?_
      rw [rowSet]
      have hw4 := hw.set4 (L' := (relJ n (st.ready.getD d default) st j).level.set ((usN n (st.ready.getD d default)).getD j default).toNat (max ((relJ n (st.ready.getD d default) st j).level.getD ((usN n (st.ready.getD d default)).getD j default).toNat 0) ((relJ n (st.ready.getD d default) st j).level.getD (st.ready.getD d default).toNat 0 + 1))) hN.d45 hN.n4
      refine vc_seq ?_
      refine vc_regionW (qm 107262463439540776796592199985646769019834926564739147021788491549774112240588375814414994385335227421520254865491888406830031062495572559571469192048672831) [0, 1, 2, 3, 4, 5, 6] rfl rfl ?_
      refine vq rfl rfl (q_move rfl) ?_
      refine vq rfl rfl (q_move rfl) ?_
      refine vq rfl rfl (q_indexH sl40 rfl rfl (by omega) (by omega)) ?_
      refine vr rfl rfl rfl (e_loadE sc3 rfl hw4.g5 (nthM (by rw [hI.lf]; omega)) rfl ⟨rfl, rfl⟩) ?_
      refine vq rfl rfl (q_sub rfl rfl (w64 (by have := hI.lfb ((usN n (st.ready.getD d default)).getD j default).toNat; show _ ≤ (relJ n (st.ready.getD d default) st j).left.getD ((usN n (st.ready.getD d default)).getD j default).toNat 0 - 1 ∧ (relJ n (st.ready.getD d default) st j).left.getD ((usN n (st.ready.getD d default)).getD j default).toNat 0 - 1 ≤ _; omega))) ?_
      refine vq rfl rfl (q_indexH sl40 rfl rfl (by omega) (by omega)) ?_
      refine vn rfl rfl (e_storeE sz3 rfl rfl rfl hw4.g5 (nthM (by rw [hI.lf]; omega)) rfl ?_)
      refine vendW ?_
      rw [rowSet]
      have hw5 := hw4.set5 (B' := (relJ n (st.ready.getD d default) st j).left.set ((usN n (st.ready.getD d default)).getD j default).toNat ((relJ n (st.ready.getD d default) st j).left.getD ((usN n (st.ready.getD d default)).getD j default).toNat 0 - 1)) hN.d45 hN.n5
      refine vc_seq ?_
      refine vc_regionW (qm 107262463439540776796592199985646769019834926564739147021788491549774112240588375814414994385335227421520254865491888406830031062495572559571469192048672799) [0, 1, 2, 3, 4] rfl rfl ?_
      refine vq rfl rfl (q_move rfl) ?_
      refine vq rfl rfl (q_move rfl) ?_
      refine vq rfl rfl (q_indexH sl40 rfl rfl (by omega) (by omega)) ?_
      refine vr rfl rfl rfl (e_loadE sc3 rfl hw5.g5 (nthM (by rw [List.length_set, hI.lf]; omega)) rfl ⟨rfl, rfl⟩) ?_
      refine vq rfl rfl (q_eq rfl rfl) ?_
      refine vendW ?_
      refine vc_condD rfl (fun h115 => ?_) (fun h115 => ?_)
      ·
        refine vc_regionW (qm 23) [0, 1, 2, 3, 4] rfl rfl ?_
        refine vq rfl rfl (q_move rfl) ?_
        refine vq rfl rfl (q_move rfl) ?_
        refine vq rfl rfl (q_buildS sl40 zo3 (by decide) rfl rfl rfl rfl (by decide)) ?_
        refine ve rfl rfl (e_append sl40 zo3 rfl rfl hw5.own (SrcOK.slx 1 _) (rowsC1_one rfl) (by have := hI.cnt; rw [List.length_map]; simp only [maxLen_eq, List.length_map, List.length_cons, List.length_nil]; omega) (fun y3 s3 ho3 => ?_))
        refine vq rfl rfl (q_assign rfl) ?_
        refine vendW ?_
        refine vc_regionW (qm 3) [0, 1] rfl rfl ?_
        refine vq rfl rfl (q_add rfl rfl (w64 (by omega))) ?_
        refine vq rfl rfl (q_move rfl) ?_
        refine vendW ?_
        refine ⟨(j + 1, y3, _, s3), ⟨by simp only; omega, by rw [relJ_succ hjl2]; have := hw5.push ho3; rw [← relax_yes (a := (st.ready.getD d default)) h115] at this; exact this⟩, by simp only; omega, ?_, ⟨rfl, rfl, trivial⟩, rfl⟩
        repeat (first | exact Same.refl | refine Same.upd rfl ?_ | refine Same.drop rfl ?_)
      refine vc_skip ?_
      refine vc_regionW (qm 3) [0, 1] rfl rfl ?_
      refine vq rfl rfl (q_add rfl rfl (w64 (by omega))) ?_
      refine vq rfl rfl (q_move rfl) ?_
      refine vendW ?_
      refine ⟨(j + 1, y, _, _), ⟨by simp only; omega, by rw [relJ_succ hjl2]; have := hw5; rw [← relax_no (a := (st.ready.getD d default)) (u := ((usN n (st.ready.getD d default)).getD j default)) h115] at this; exact this⟩, by simp only; omega, ?_, ⟨rfl, rfl, trivial⟩, rfl⟩
      repeat (first | exact Same.refl | refine Same.upd rfl ?_ | refine Same.drop rfl ?_)
    refine vc_exit ?_
    refine vc_regionW (qm 7) [0, 1, 2] rfl rfl ?_
    refine vq rfl rfl (q_move rfl) ?_
    refine vq rfl rfl (q_add rfl rfl (w64 (by omega))) ?_
    refine vq rfl rfl (q_assign rfl) ?_
    refine vendW ?_
    have hje : ¬ j < (usN n (st.ready.getD d default)).length := by omega
    rw [relJ_end hje] at hw
    obtain ⟨g1, g2, g3⟩ := relaxAll_inv hQ (st.ready.getD d default)
    obtain ⟨q1, q2⟩ := qrun_step hQ (show d < st.ready.length by omega)
    refine ⟨(d + 1, relaxAll n (st.ready.getD d default) st, b + 3 * n.nodes.length, y, u0, u1), ⟨by simp only; omega, hw, g1, by simp only; rw [Nat.add_mul]; omega, q1.symm.trans hq⟩, q2, ?_, ⟨rfl, rfl, trivial⟩, rfl⟩
    repeat (first | exact Same.refl | refine Same.upd rfl ?_ | refine Same.drop rfl ?_)
  refine vc_exit ?_
  refine vc_seq ?_
  refine vc_regionDW mx (qm 255) [0, 1, 2, 3, 4, 5, 6, 7] (by kernel_rfl) ?_
  refine vq rfl rfl (q_move rfl) ?_
  refine vq rfl rfl (q_move rfl) ?_
  refine vq rfl rfl (q_field fo25_0 rfl (Nat.le_of_ble_eq_true rfl)) ?_
  refine vq rfl rfl (q_load sc22 rfl) ?_
  refine vq rfl rfl (q_len sl22 rfl (by first | exact lenM | rfl)) ?_
  refine vq rfl rfl (q_eq rfl rfl) ?_
  refine vq rfl rfl (q_assign rfl) ?_
  refine vq rfl rfl (q_assign rfl) ?_
  refine vendW ?_
  refine vc_ret ?_
  rw [qrun_end (by omega)] at hq
  rw [← hq] at hk
  have hle := Le.trans hv3.le hv3.own.le
  exact ret2 rfl rfl rfl hle (Cv.frzAll hle hv3.g4 hN.n4 (by rw [List.length_map, hQ.lv]; omega)) (Cv.le hle _) hk
end Go.Proofs.Ytpcpdepfnoijoaa

set_option linter.unusedVariables false
set_option maxRecDepth 100000
namespace Go.Proofs.Ytpcpdepfnoijoaa
open Go.Vc
theorem badNm {p : Pt} {s : St} {K : AV → St → Prop} (hb : p.name.size < 2^40) (hk : K (.bool (!nameN p.name)) s) : CallsA Try.prog 128 [.agg (ptR p)] s K := by
  refine callsA_of Try.func128 rfl rfl (Nat.le_of_ble_eq_true rfl) ?_
  refine vc_seq ?_
  refine vc_regionW (qm 3) [0, 1] rfl rfl ?_
  refine vq rfl rfl (q_box rfl rfl) ?_
  refine vq rfl rfl (q_assign rfl) ?_
  refine vendW ?_
  refine vc_seq ?_
  refine vc_regionW (qm 31) [0, 1, 2, 3, 4] rfl rfl ?_
  refine vq rfl rfl (q_field fo91_0 rfl (Nat.le_of_ble_eq_true rfl)) ?_
  refine vq rfl rfl (q_load sc9 rfl) ?_
  refine vq rfl rfl (q_callF go129 rfl (fun s => name (by omega) ⟨rfl, rfl⟩)) ?_
  refine vq rfl rfl (q_not rfl) ?_
  refine vq rfl rfl (q_assign rfl) ?_
  refine vendW ?_
  refine vc_ret ?_
  exact ret1 rfl rfl (Le.refl _) (Cv.le (Le.refl _) _) hk
theorem levelsE {n : Net} {s : St} {K : AV → St → Prop} (hB : NetB n) (hk : K (.tup [ints (lvOf n), .int (errN n)]) s) : CallsA Try.prog 75 [netA n] s K := by
  have hBi := hB.ins
  have hBo := hB.outs
  have hBn := hB.nodes
  refine callsA_of Try.func75 rfl rfl (Nat.le_of_ble_eq_true rfl) ?_
  refine vc_seq ?_
  refine vc_regionW (qm 7) [0, 1, 2] rfl rfl ?_
  refine vq rfl rfl (q_box rfl rfl) ?_
  refine vq rfl rfl (q_assign rfl) ?_
  refine vq rfl rfl (q_assign rfl) ?_
  refine vendW ?_
  refine vc_seq ?_
  refine vc_block ?_
  refine vc_seq ?_
  refine vc_regionW (qm 32767) [0, 1, 2, 3, 4, 5, 6, 7, 8, 9, 10, 11, 12, 13, 14] rfl rfl ?_
  refine vq rfl rfl (q_field fo25_0 rfl (Nat.le_of_ble_eq_true rfl)) ?_
  refine vq rfl rfl (q_load sc22 rfl) ?_
  refine vq rfl rfl (q_len sl22 rfl (by first | exact lenM | rfl)) ?_
  refine vq rfl rfl (q_gt rfl rfl) ?_
  refine vq rfl rfl (q_move rfl) ?_
  refine vgrp [5, 6, 7, 8, 9, 10, 11, 12, 13] [14] [12, 13, 14, 15, 16, 17, 18, 19] 20 (.v (.bool (decide ((262144 : Int) < n.nodes.length) || decide ((64 : Int) < (n.ins.length : Int) + n.outs.length)))) ?_ ?_
  ·
    by_cases hg4 : (262144 : Int) < n.nodes.length
    ·
      refine g_skip rfl rfl rfl (by first | (rw [decide_eq_true hg4]; simp; done) | (intro e; have e2 := Value.bool.inj e; rw [decide_eq_true hg4] at e2; cases e2; done) | (simp [hg4]; done) | simp_all) ?_
      refine g_skip rfl rfl rfl (by first | (rw [decide_eq_true hg4]; simp; done) | (intro e; have e2 := Value.bool.inj e; rw [decide_eq_true hg4] at e2; cases e2; done) | (simp [hg4]; done) | simp_all) ?_
      refine g_skip rfl rfl rfl (by first | (rw [decide_eq_true hg4]; simp; done) | (intro e; have e2 := Value.bool.inj e; rw [decide_eq_true hg4] at e2; cases e2; done) | (simp [hg4]; done) | simp_all) ?_
      refine g_skip rfl rfl rfl (by first | (rw [decide_eq_true hg4]; simp; done) | (intro e; have e2 := Value.bool.inj e; rw [decide_eq_true hg4] at e2; cases e2; done) | (simp [hg4]; done) | simp_all) ?_
      refine g_skip rfl rfl rfl (by first | (rw [decide_eq_true hg4]; simp; done) | (intro e; have e2 := Value.bool.inj e; rw [decide_eq_true hg4] at e2; cases e2; done) | (simp [hg4]; done) | simp_all) ?_
      refine g_skip rfl rfl rfl (by first | (rw [decide_eq_true hg4]; simp; done) | (intro e; have e2 := Value.bool.inj e; rw [decide_eq_true hg4] at e2; cases e2; done) | (simp [hg4]; done) | simp_all) ?_
      refine g_skip rfl rfl rfl (by first | (rw [decide_eq_true hg4]; simp; done) | (intro e; have e2 := Value.bool.inj e; rw [decide_eq_true hg4] at e2; cases e2; done) | (simp [hg4]; done) | simp_all) ?_
      refine g_skip rfl rfl rfl (by first | (rw [decide_eq_true hg4]; simp; done) | (intro e; have e2 := Value.bool.inj e; rw [decide_eq_true hg4] at e2; cases e2; done) | (simp [hg4]; done) | simp_all) ?_
      refine vq rfl rfl (q_pickT rfl (by first | exact (decide_eq_true hg4) | exact hg4 | (simp [hg4]; done) | simp_all) rfl) ?_
      refine vendW ⟨rfl, congrArg (fun b => some (AV.v (Value.bool b))) (by first | (simp only [decide_eq_true hg4]; done) | (simp only [decide_eq_true hg4]; rfl) | (simp [hg4]; done) | simp_all), ?_⟩
      repeat (first | exact Same.refl | refine Same.upd rfl ?_)
    ·
      refine gq_run rfl rfl rfl rfl (by first | exact congrArg Value.bool (decide_eq_false hg4) | (rw [decide_eq_false hg4]; done) | (simp [hg4]; done) | simp_all) (q_field fo25_1 rfl (Nat.le_of_ble_eq_true rfl)) ?_
      refine gq_run rfl rfl rfl rfl (by first | exact congrArg Value.bool (decide_eq_false hg4) | (rw [decide_eq_false hg4]; done) | (simp [hg4]; done) | simp_all) (q_load sc23 rfl) ?_
      refine gq_run rfl rfl rfl rfl (by first | exact congrArg Value.bool (decide_eq_false hg4) | (rw [decide_eq_false hg4]; done) | (simp [hg4]; done) | simp_all) (q_len sl23 rfl (by first | exact lenM | rfl)) ?_
      refine gq_run rfl rfl rfl rfl (by first | exact congrArg Value.bool (decide_eq_false hg4) | (rw [decide_eq_false hg4]; done) | (simp [hg4]; done) | simp_all) (q_field fo25_2 rfl (Nat.le_of_ble_eq_true rfl)) ?_
      refine gq_run rfl rfl rfl rfl (by first | exact congrArg Value.bool (decide_eq_false hg4) | (rw [decide_eq_false hg4]; done) | (simp [hg4]; done) | simp_all) (q_load sc23 rfl) ?_
      refine gq_run rfl rfl rfl rfl (by first | exact congrArg Value.bool (decide_eq_false hg4) | (rw [decide_eq_false hg4]; done) | (simp [hg4]; done) | simp_all) (q_len sl23 rfl (by first | exact lenM | rfl)) ?_
      refine gq_run rfl rfl rfl rfl (by first | exact congrArg Value.bool (decide_eq_false hg4) | (rw [decide_eq_false hg4]; done) | (simp [hg4]; done) | simp_all) (q_add rfl rfl (w64 (by omega))) ?_
      refine gq_run rfl rfl rfl rfl (by first | exact congrArg Value.bool (decide_eq_false hg4) | (rw [decide_eq_false hg4]; done) | (simp [hg4]; done) | simp_all) (q_gt rfl rfl) ?_
      refine vq rfl rfl (q_pickF rfl (by first | exact (decide_eq_false hg4) | exact hg4 | (simp [hg4]; done) | simp_all) rfl) ?_
      refine vendW ⟨rfl, congrArg (fun b => some (AV.v (Value.bool b))) (by first | (simp only [decide_eq_false hg4]; done) | (simp only [decide_eq_false hg4]; rfl) | (simp [hg4]; done) | simp_all), ?_⟩
      repeat (first | exact Same.refl | refine Same.upd rfl ?_)
  refine vq rfl rfl (q_assign rfl) ?_
  refine vendW ?_
  refine vc_cond rfl (fun h6 => ?_) (fun h6 => ?_)
  ·
    refine vc_seq ?_
    refine vc_regionW (qm 3) [0, 1] rfl rfl ?_
    refine vq rfl rfl (q_assign rfl) ?_
    refine vq rfl rfl (q_assign rfl) ?_
    refine vendW ?_
    refine vc_ret ?_
    have e : errN n = 4 := by unfold errN; rw [if_pos (by simp at h6; omega)]
    have e2 : lvOf n = [] := by unfold lvOf; rw [e]; rfl
    rw [e, e2] at hk
    exact ret2 rfl rfl rfl (Le.refl _) (Cv.ale (Le.refl _) (ale_nil 1)) (Cv.le (Le.refl _) _) hk
  refine vc_seq ?_
  refine vc_regionW (qm 7) [0, 1, 2] rfl rfl ?_
  refine vq rfl rfl (q_loadA ag25 rfl rfl) ?_
  refine vq rfl rfl (q_callF go125 rfl (fun s => formless (by have := hB.nodes; omega) (by simp at h6; omega) (fun p hp => by have := hB.bits p hp; omega) ⟨rfl, rfl⟩)) ?_
  refine vq rfl rfl (q_assign rfl) ?_
  refine vendW ?_
  refine vc_cond rfl (fun h21 => ?_) (fun h21 => ?_)
  ·
    refine vc_seq ?_
    refine vc_regionW (qm 3) [0, 1] rfl rfl ?_
    refine vq rfl rfl (q_assign rfl) ?_
    refine vq rfl rfl (q_assign rfl) ?_
    refine vendW ?_
    refine vc_ret ?_
    have e : errN n = 2 := by unfold errN; rw [if_neg (by simp at h6; omega)]; rw [if_pos h21]
    have e2 : lvOf n = [] := by unfold lvOf; rw [e]; rfl
    rw [e, e2] at hk
    exact ret2 rfl rfl rfl (Le.refl _) (Cv.ale (Le.refl _) (ale_nil 1)) (Cv.le (Le.refl _) _) hk
  refine vc_seq ?_
  refine vc_regionW (qm 15) [0, 1, 2, 3] rfl rfl ?_
  refine vq rfl rfl (q_loadA ag25 rfl rfl) ?_
  refine vq rfl rfl (q_callF go127 rfl (fun s => portsN (by simp at h6; omega) ⟨rfl, rfl⟩)) ?_
  refine vq rfl rfl (q_callF go126 rfl (fun s => containsP (p := fun p => !nameN p.name) (by simp at h6; simp; omega) go128 (fun i hi K hk => badNm (by have := hB.names _ (getD_mem hi); omega) hk) ⟨rfl, rfl⟩)) ?_
  refine vq rfl rfl (q_assign rfl) ?_
  refine vendW ?_
  refine vc_cond rfl (fun h24 => ?_) (fun h24 => ?_)
  ·
    refine vc_seq ?_
    refine vc_regionW (qm 3) [0, 1] rfl rfl ?_
    refine vq rfl rfl (q_assign rfl) ?_
    refine vq rfl rfl (q_assign rfl) ?_
    refine vendW ?_
    refine vc_ret ?_
    have e : errN n = 7 := by unfold errN; rw [if_neg (by simp at h6; omega)]; rw [if_neg (by simp [h21]), if_pos h24]
    have e2 : lvOf n = [] := by unfold lvOf; rw [e]; rfl
    rw [e, e2] at hk
    exact ret2 rfl rfl rfl (Le.refl _) (Cv.ale (Le.refl _) (ale_nil 1)) (Cv.le (Le.refl _) _) hk
  refine vc_seq ?_
  refine vc_regionW (qm 11) [0, 1, 2, 3] rfl rfl ?_
  refine vq rfl rfl (q_loadA ag25 rfl rfl) ?_
  refine vq rfl rfl (q_callF go127 rfl (fun s => portsN (by simp at h6; omega) ⟨rfl, rfl⟩)) ?_
  refine ve rfl rfl (e_callF go130 rfl (twice (by simp at h6; simp; omega) ?_))
  refine vq rfl rfl (q_assign rfl) ?_
  refine vendW ?_
  refine vc_cond rfl (fun h28 => ?_) (fun h28 => ?_)
  ·
    refine vc_seq ?_
    refine vc_regionW (qm 3) [0, 1] rfl rfl ?_
    refine vq rfl rfl (q_assign rfl) ?_
    refine vq rfl rfl (q_assign rfl) ?_
    refine vendW ?_
    refine vc_ret ?_
    have e : errN n = 8 := by unfold errN; rw [if_neg (by simp at h6; omega)]; rw [if_neg (by simp [h21]), if_neg (by rw [h24]; simp), if_pos h28]
    have e2 : lvOf n = [] := by unfold lvOf; rw [e]; rfl
    rw [e, e2] at hk
    exact ret2 rfl rfl rfl (Le.refl _) (Cv.ale (Le.refl _) (ale_nil 1)) (Cv.le (Le.refl _) _) hk
  refine vc_seq ?_
  refine vc_regionW (qm 5) [0, 1, 2] rfl rfl ?_
  refine vq rfl rfl (q_loadA ag25 rfl rfl) ?_
  refine ve rfl rfl (e_callF go131 rfl (homeless (by have := hB.nodes; omega) (by simp at h6; omega) (by have := hB.inB (by simp at h6; omega); omega) (formless_in (by simp [h21])) ?_))
  refine vq rfl rfl (q_assign rfl) ?_
  refine vendW ?_
  refine vc_cond rfl (fun h32 => ?_) (fun h32 => ?_)
  ·
    refine vc_seq ?_
    refine vc_regionW (qm 3) [0, 1] rfl rfl ?_
    refine vq rfl rfl (q_assign rfl) ?_
    refine vq rfl rfl (q_assign rfl) ?_
    refine vendW ?_
    refine vc_ret ?_
    have e : errN n = 10 := by unfold errN; rw [if_neg (by simp at h6; omega)]; rw [if_neg (by simp [h21]), if_neg (by rw [h24]; simp), if_neg (by simp [h28]), if_pos h32]
    have e2 : lvOf n = [] := by unfold lvOf; rw [e]; rfl
    rw [e, e2] at hk
    exact ret2 rfl rfl rfl (Le.refl _) (Cv.ale (Le.refl _) (ale_nil 1)) (Cv.le (Le.refl _) _) hk
  refine vc_skip ?_
  refine vc_seq ?_
  refine vc_regionW (qm 125) [0, 1, 2, 3, 4, 5, 6] rfl rfl ?_
  refine vq rfl rfl (q_loadA ag25 rfl rfl) ?_
  refine ve rfl rfl (e_callF go132 rfl (levels (by simp at h6; omega) (formless_uses (by simp [h21])) ?_))
  refine vq rfl rfl (q_move rfl) ?_
  refine vq rfl rfl (q_extract rfl rfl) ?_
  refine vq rfl rfl (q_extract rfl rfl) ?_
  refine vq rfl rfl (q_assign rfl) ?_
  refine vq rfl rfl (q_assign rfl) ?_
  refine vendW ?_
  refine vc_seq ?_
  refine vc_seq ?_
  refine vc_regionW (qm 3) [0, 1] rfl rfl ?_
  refine vq rfl rfl (q_move rfl) ?_
  refine vq rfl rfl (q_not rfl) ?_
  refine vendW ?_
  refine vc_cond rfl (fun h41 => ?_) (fun h41 => ?_)
  ·
    refine vc_seq ?_
    refine vc_regionW (qm 3) [0, 1] rfl rfl ?_
    refine vq rfl rfl (q_assign rfl) ?_
    refine vq rfl rfl (q_assign rfl) ?_
    refine vendW ?_
    refine vc_ret ?_
    have e : errN n = 9 := by unfold errN; rw [if_neg (by simp at h6; omega)]; rw [if_neg (by simp [h21]), if_neg (by rw [h24]; simp), if_neg (by simp [h28]), if_neg (by simp [h32]), if_pos (by simp at h41; omega)]
    have e2 : lvOf n = [] := by unfold lvOf; rw [e]; rfl
    rw [e, e2] at hk
    exact ret2 rfl rfl rfl (Le.refl _) (Cv.ale (Le.refl _) (ale_nil 1)) (Cv.le (Le.refl _) _) hk
  refine vc_skip ?_
  refine vc_seq ?_
  refine vc_regionW (qm 7) [0, 1, 2] rfl rfl ?_
  refine vq rfl rfl (q_move rfl) ?_
  refine vq rfl rfl (q_assign rfl) ?_
  refine vq rfl rfl (q_assign rfl) ?_
  refine vendW ?_
  refine vc_ret ?_
  have e : errN n = 0 := by unfold errN; rw [if_neg (by simp at h6; omega)]; rw [if_neg (by simp [h21]), if_neg (by rw [h24]; simp), if_neg (by simp [h28]), if_neg (by simp [h32]), if_neg (by simp at h41; omega)]
  have e2 : lvOf n = (levelsR n).2.level := by unfold lvOf; rw [e]; rfl
  rw [e, e2] at hk
  exact ret2 rfl rfl rfl (Le.refl _) (Cv.le (Le.refl _) _) (Cv.le (Le.refl _) _) hk
end Go.Proofs.Ytpcpdepfnoijoaa

set_option linter.unusedVariables false
set_option maxRecDepth 100000
namespace Go.Proofs.Ytpcpdepfnoijoaa
open Go.Vc
theorem order_facts {n : Net} (h0 : errN n = 0) (hl : 0 < (lvOf n).length) : (lvOf n).length < 1048576 ∧ (∀ m, 0 ≤ (lvOf n).getD m 0 ∧ (lvOf n).getD m 0 ≤ 3298534883328) := by
  have hn : n.nodes.length ≤ 262144 := by
    unfold errN at h0
    by_cases h : 262144 < n.nodes.length ∨ 64 < n.ins.length + n.outs.length
    · rw [if_pos h] at h0; cases h0
    · omega
  have e : lvOf n = (levelsR n).2.level := by unfold lvOf; rw [if_pos h0]
  obtain ⟨b, h1, h2⟩ := levelsR_inv n (by omega)
  rw [e]
  exact ⟨by rw [h1.lv]; omega, fun m => by have := h1.lvb m; omega⟩
theorem maxL_bd {l : List Int} {b : Int} (h : ∀ m, 0 ≤ l.getD m 0 ∧ l.getD m 0 ≤ b) : ∀ i, 0 ≤ maxL l i ∧ maxL l i ≤ b
  | 0 => h 0
  | i + 1 => by have h1 := maxL_bd h i; have h2 := h i; rw [maxL]; omega
theorem bk_set {l : List Int} {i : Nat} : ((bkG l i).map (·.map eI)).set (l.getD i default).toNat (((bkG l i).map (·.map eI)).getD (l.getD i default).toNat [] ++ [eI i]) = (bkG l (i + 1)).map (·.map eI) := by
  rw [set_mapN]; rfl
theorem bk_flat {l : List Int} (h : ∀ m, m < l.length → 0 ≤ l.getD m 0 ∧ l.getD m 0 ≤ maxL l l.length) : ∀ i, i ≤ l.length → (bkG l i).flatten.length = i
  | 0, _ => by simp [bkG]
  | i + 1, hi => by
    have h1 := h i (by omega)
    rw [bkG, uStep, flat_set (by rw [bkG_len]; omega), bk_flat h i (by omega)]
theorem order {n : Net} {s : St} {K : AV → St → Prop} (hB : NetB n) (hk : K (.tup [ints (orderN n), .int (errN n)]) s) : CallsA Try.prog 79 [netA n] s K := by
  refine callsA_of Try.func79 rfl rfl (Nat.le_of_ble_eq_true rfl) ?_
  refine vc_seq ?_
  refine vc_regionW (qm 7) [0, 1, 2] rfl rfl ?_
  refine vq rfl rfl (q_box rfl rfl) ?_
  refine vq rfl rfl (q_assign rfl) ?_
  refine vq rfl rfl (q_assign rfl) ?_
  refine vendW ?_
  refine vc_seq ?_
  refine vc_regionW (qm 125) [0, 1, 2, 3, 4, 5, 6] rfl rfl ?_
  refine vq rfl rfl (q_loadA ag25 rfl rfl) ?_
  refine ve rfl rfl (e_callF go75 rfl (levelsE hB ?_))
  refine vq rfl rfl (q_move rfl) ?_
  refine vq rfl rfl (q_extract rfl rfl) ?_
  refine vq rfl rfl (q_extract rfl rfl) ?_
  refine vq rfl rfl (q_assign rfl) ?_
  refine vq rfl rfl (q_assign rfl) ?_
  refine vendW ?_
  refine vc_seq ?_
  refine vc_seq ?_
  refine vc_regionW (qm 127) [0, 1, 2, 3, 4, 5, 6] rfl rfl ?_
  refine vq rfl rfl (q_move rfl) ?_
  refine vq rfl rfl (q_ne rfl rfl) ?_
  refine vq rfl rfl (q_move rfl) ?_
  refine vgrp [3, 4, 5, 6] [] [17, 18, 19] 20 (.v (.bool (decide (errN n ≠ 0) || decide (((lvOf n).length : Int) = 0)))) ?_ ?_
  ·
    by_cases hg2 : errN n ≠ 0
    ·
      refine g_skip rfl rfl rfl (by first | (rw [decide_eq_true hg2]; simp; done) | (intro e; have e2 := Value.bool.inj e; rw [decide_eq_true hg2] at e2; cases e2; done) | (simp [hg2]; done) | simp_all) ?_
      refine g_skip rfl rfl rfl (by first | (rw [decide_eq_true hg2]; simp; done) | (intro e; have e2 := Value.bool.inj e; rw [decide_eq_true hg2] at e2; cases e2; done) | (simp [hg2]; done) | simp_all) ?_
      refine g_skip rfl rfl rfl (by first | (rw [decide_eq_true hg2]; simp; done) | (intro e; have e2 := Value.bool.inj e; rw [decide_eq_true hg2] at e2; cases e2; done) | (simp [hg2]; done) | simp_all) ?_
      refine vq rfl rfl (q_pickT rfl (by first | exact (decide_eq_true hg2) | exact hg2 | (simp [hg2]; done) | simp_all) rfl) ?_
      refine vendW ⟨rfl, congrArg (fun b => some (AV.v (Value.bool b))) (by first | (simp only [decide_eq_true hg2]; done) | (simp only [decide_eq_true hg2]; rfl) | (simp [hg2]; done) | simp_all), ?_⟩
      repeat (first | exact Same.refl | refine Same.upd rfl ?_)
    ·
      refine gq_run rfl rfl rfl rfl (by first | exact congrArg Value.bool (decide_eq_false hg2) | (rw [decide_eq_false hg2]; done) | (simp [hg2]; done) | simp_all) (q_move rfl) ?_
      refine gq_run rfl rfl rfl rfl (by first | exact congrArg Value.bool (decide_eq_false hg2) | (rw [decide_eq_false hg2]; done) | (simp [hg2]; done) | simp_all) (q_len sl40 rfl (by first | exact lenM | rfl)) ?_
      refine gq_run rfl rfl rfl rfl (by first | exact congrArg Value.bool (decide_eq_false hg2) | (rw [decide_eq_false hg2]; done) | (simp [hg2]; done) | simp_all) (q_eq rfl rfl) ?_
      refine vq rfl rfl (q_pickF rfl (by first | exact (decide_eq_false hg2) | exact hg2 | (simp [hg2]; done) | simp_all) rfl) ?_
      refine vendW ⟨rfl, congrArg (fun b => some (AV.v (Value.bool b))) (by first | (simp only [decide_eq_false hg2]; done) | (simp only [decide_eq_false hg2]; rfl) | (simp [hg2]; done) | simp_all), ?_⟩
      repeat (first | exact Same.refl | refine Same.upd rfl ?_)
  refine vendW ?_
  refine vc_cond rfl (fun h20 => ?_) (fun h20 => ?_)
  ·
    refine vc_seq ?_
    refine vc_regionW (qm 7) [0, 1, 2] rfl rfl ?_
    refine vq rfl rfl (q_move rfl) ?_
    refine vq rfl rfl (q_assign rfl) ?_
    refine vq rfl rfl (q_assign rfl) ?_
    refine vendW ?_
    refine vc_ret ?_
    have e : orderN n = [] := by unfold orderN; rw [if_pos]; by_cases hE : errN n = 0; (· simp [hE] at h20; exact h20); (· unfold lvOf; rw [if_neg hE])
    rw [e] at hk
    exact ret2 rfl rfl rfl (Le.refl _) (Cv.ale (Le.refl _) (ale_nil 1)) (Cv.le (Le.refl _) _) hk
  refine vc_skip ?_
  refine vc_seq ?_
  have hE : errN n = 0 := by simp at h20; exact h20.1
  have hl0 : 0 < (lvOf n).length := List.length_pos_iff.2 (by simp at h20; exact h20.2)
  obtain ⟨hln, hlb⟩ := order_facts hE hl0
  have hm := maxL_bd hlb (lvOf n).length
  refine vc_regionW (qm 23) [0, 1, 2, 3, 4] rfl rfl ?_
  refine vq rfl rfl (q_move rfl) ?_
  refine vq rfl rfl (q_callF go134 rfl (fun s => maxI hl0 (by omega) ⟨rfl, rfl⟩)) ?_
  refine vq rfl rfl (q_add rfl rfl (w64 (by omega))) ?_
  refine ve rfl rfl (e_makeO (n := (maxL (lvOf n) (lvOf n).length + 1).toNat) (e2 := 3) (sz2 := 1) sl182 zr40 rfl rfl (by omega) (by omega) (by omega) (fun k6 F0 hk6 => ?_))
  refine vq rfl rfl (q_assign rfl) ?_
  refine vendW ?_
  refine vc_seq ?_
  refine vc_seq ?_
  refine vc_regionW (qm 7) [0, 1, 2] rfl rfl ?_
  refine vq rfl rfl (q_move rfl) ?_
  refine vq rfl rfl (q_len sl40 rfl (by first | exact lenM | rfl)) ?_
  refine vq rfl rfl (q_move rfl) ?_
  refine vendW ?_
  refine vc_block ?_
  refine vc_loopS (α := Nat × List Nat) [7, 8, 28, 29, 30, 31, 32, 33, 34, 35, 36, 37, 38, 39, 40, 41, 42, 43] (fun a => [(28, .int (a.1 : Int))]) (fun a => (upd s k6 (.obj a.2 (ovs 3 1 ((bkG (lvOf n) a.1).map (·.map eI)))))) (fun a => a.1 ≤ (lvOf n).length) (fun a => (lvOf n).length - a.1) (0, F0) (Nat.zero_le _) (by simp [bkG]) ⟨rfl, trivial⟩ (fun _ => rfl) ?_
  intro ⟨i, F1⟩ hok
  simp only at hok ⊢
  refine vc_seq ?_
  refine vc_regionW (qm 1) [0] rfl rfl ?_
  refine vq rfl rfl (q_lt rfl rfl) ?_
  refine vendW ?_
  refine vc_seq ?_
  refine vc_condD rfl (fun h => ?_) (fun h => ?_)
  ·
    refine vc_skip ?_
    refine vc_seq ?_
    refine vc_block ?_
    refine vc_seq ?_
    refine vc_regionW (qm 31) [0, 1, 2, 3, 4] rfl rfl ?_
    refine vq rfl rfl (q_move rfl) ?_
    refine vq rfl rfl (q_index sl40 rfl rfl (by omega) (by first | exact nthI (by omega) | exact nthM (by omega))) ?_
    refine vq rfl rfl (q_load sc3 rfl) ?_
    refine vq rfl rfl (q_assign rfl) ?_
    refine vq rfl rfl (q_assign rfl) ?_
    refine vendW ?_
    have hil : i < (lvOf n).length := by omega
    have hx0 := hlb i
    have hx1 := maxL_ge (l := lvOf n) hil
    change 0 ≤ ((lvOf n).getD i default) ∧ ((lvOf n).getD i default) ≤ _ at hx0
    change ((lvOf n).getD i default) ≤ _ at hx1
    refine vc_openI (p := k6) (i := ((lvOf n).getD i default).toNat) (upd_same _ _ _) (by rw [List.length_map, bkG_len]; omega) (fun y F3 t2 hy => ?_)
    refine vc_regionW (qm 429049853758163107186368799942587076079339706258956588087153966199096448962353503257659977541340909686081019461967553627320124249982290238285876768194691839) [0, 1, 2, 3, 4, 5, 6, 7, 8, 9, 10] rfl rfl ?_
    refine vq rfl rfl (q_move rfl) ?_
    refine vq rfl rfl (q_move rfl) ?_
    refine vq rfl rfl (q_move rfl) ?_
    refine vq rfl rfl (q_move rfl) ?_
    refine vq rfl rfl (q_indexH sl182 rfl rfl (by omega) (by omega)) ?_
    refine vr rfl rfl rfl (e_loadO sc40 rfl (hy.get (upd_same _ _ _)) (nth_mid (by simp only [ovs_len, List.length_take, List.length_map, bkG_len]; omega)) ⟨rfl, rfl⟩) ?_
    refine vq rfl rfl (q_move rfl) ?_
    refine vq rfl rfl (q_buildS sl40 zo3 (by decide) rfl rfl rfl rfl (by decide)) ?_
    refine ve rfl rfl (e_append sl40 zo3 rfl rfl hy (SrcOK.slx 1 _) (rowsC1_one rfl) (by have := bkG_bd (lvOf n) ((lvOf n).getD i default).toNat i; rw [getD_mapN, List.length_map]; simp only [maxLen_eq, List.length_map, List.length_cons, List.length_nil]; omega) (fun y2 t3 hy2 => ?_))
    refine vq rfl rfl (q_indexH sl182 rfl rfl (by omega) (by omega)) ?_
    refine vn rfl rfl (e_storeO sz40 rfl rfl hy2.c1 (hy2.get (upd_same _ _ _)) (nth_mid (by simp only [ovs_len, List.length_take, List.length_map, bkG_len]; omega)) ?_)
    refine vendW ?_
    rw [set_midO (by simp only [ovs_len, List.length_take, List.length_map, bkG_len]; omega)]
    refine vc_shutI (i := ((lvOf n).getD i default).toNat) (by rw [List.length_map, bkG_len]; omega) (OwnSt.put hy2) (fun F4 => ?_)
    change VC _ _ _ _ _ (upd (upd s k6 _) k6 (.obj F4 (ovs 3 1 (((bkG (lvOf n) i).map (·.map eI)).set ((lvOf n).getD i default).toNat (((bkG (lvOf n) i).map (·.map eI)).getD ((lvOf n).getD i default).toNat [] ++ [eI i])))))
    rw [bk_set, upd_upd]
    refine vc_regionW (qm 3) [0, 1] rfl rfl ?_
    refine vq rfl rfl (q_add rfl rfl (w64 (by omega))) ?_
    refine vq rfl rfl (q_move rfl) ?_
    refine vendW ?_
    refine ⟨(i + 1, F4), by simp only; omega, by simp only; omega, ?_, ⟨rfl, trivial⟩, rfl⟩
    repeat (first | exact Same.refl | refine Same.upd rfl ?_ | refine Same.drop rfl ?_)
  refine vc_exit ?_
  refine vc_seq ?_
  have hi2 : i = (lvOf n).length := by omega
  subst hi2
  have hfl := bk_flat (l := lvOf n) (fun m hm => ⟨(hlb m).1, maxL_ge hm⟩) (lvOf n).length (Nat.le_refl _)
  refine vc_frzO (i := 6) hk6 rfl rfl (by rw [List.length_map, bkG_len]) ?_
  rw [List.map_map]
  refine vc_regionW (qm 13) [0, 1, 2, 3] rfl rfl ?_
  refine vq rfl rfl (q_move rfl) ?_
  refine ve rfl rfl (e_callF go135 rfl (concatI (ls := bkG (lvOf n) (lvOf n).length) (by rw [bkG_len]; omega) (by rw [hfl]; omega) ?_))
  refine vq rfl rfl (q_assign rfl) ?_
  refine vq rfl rfl (q_assign rfl) ?_
  refine vendW ?_
  refine vc_ret ?_
  have e : orderN n = (bkG (lvOf n) (lvOf n).length).flatten := by unfold orderN; rw [if_neg (List.length_pos_iff.1 hl0)]
  rw [e, hE] at hk
  exact ret2 rfl rfl rfl (Le.refl _) (Cv.le (Le.refl _) _) (Cv.le (Le.refl _) _) hk
end Go.Proofs.Ytpcpdepfnoijoaa

set_option linter.unusedVariables false
set_option maxRecDepth 100000
namespace Go.Proofs.Ytpcpdepfnoijoaa
open Go.Vc
theorem cloneNet {n : Net} {s : St} {K : AV → St → Prop} (hn : n.nodes.length < 2^40) (hi : n.ins.length < 2^40) (ho : n.outs.length < 2^40) (hb : ∀ p ∈ n.ins ++ n.outs, p.bits.length < 2^40) (hk : K (netA n) s) : CallsA Try.prog 67 [netA n] s K := by
  refine callsA_of Try.func67 rfl rfl (Nat.le_of_ble_eq_true rfl) ?_
  refine vc_seq ?_
  refine vc_regionW (qm 1) [0, 1] rfl rfl ?_
  refine vq rfl rfl (q_box rfl rfl) ?_
  refine ve rfl rfl (e_alloc zr25 (fun k2 hk2 => ?_))
  refine vendW ?_
  refine vc_seq ?_
  refine vc_regionW (qm 1) [0] rfl rfl ?_
  refine vq rfl rfl (q_assign rfl) ?_
  refine vendW ?_
  refine vc_seq ?_
  refine vc_regionDW mx (qm 4095) [0, 1, 2, 3, 4, 5, 6, 7, 8, 9, 10, 11, 12] (by kernel_rfl) ?_
  refine vq rfl rfl (q_field fo25_0 rfl (Nat.le_of_ble_eq_true rfl)) ?_
  refine vq rfl rfl (q_load sc22 rfl) ?_
  refine vq rfl rfl (q_callF go61 rfl (fun s => cloneN hn ⟨rfl, rfl⟩)) ?_
  refine vq rfl rfl (q_move rfl) ?_
  refine vq rfl rfl (q_field fo25_1 rfl (Nat.le_of_ble_eq_true rfl)) ?_
  refine vq rfl rfl (q_load sc23 rfl) ?_
  refine vq rfl rfl (q_call go109 rfl rfl (fun s => clone1 hi (fun p hp => hb p (by simp [hp])) ⟨rfl, rfl⟩)) ?_
  refine vq rfl rfl (q_move rfl) ?_
  refine vq rfl rfl (q_field fo25_2 rfl (Nat.le_of_ble_eq_true rfl)) ?_
  refine vq rfl rfl (q_load sc23 rfl) ?_
  refine vq rfl rfl (q_call go109 rfl rfl (fun s => clone1 ho (fun p hp => hb p (by simp [hp])) ⟨rfl, rfl⟩)) ?_
  refine vq rfl rfl (q_build pl25 zr25 rfl rfl) ?_
  refine vn rfl rfl (e_storeN sz25 rfl rfl rfl rfl (upd_same _ _ _) rfl ?_)
  refine vendW ?_
  refine vc_ret ?_
  exact retC rfl ag25 rfl (upd_same _ _ _) rfl (Le.new2 hk2) (Cv.le (Le.new2 hk2) _) hk
end Go.Proofs.Ytpcpdepfnoijoaa
