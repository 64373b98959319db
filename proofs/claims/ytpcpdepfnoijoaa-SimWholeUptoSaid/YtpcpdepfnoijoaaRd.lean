/-
  Part of a proof: Whatever net, script and number of cycles come in, of bulk at most 1048576: SimWhole returns true, and what came in reads as it did.
-/
import Derived.Test.YtpcpdepfnoijoaaS1
import Derived.Test.YtpcpdepfnoijoaaVc21
import Derived.Laws.Pointers
import Derived.ProofKit
import Derived.JoinedCond
import Derived.Test.YtpcpdepfnoijoaaS5
import Derived.Test.YtpcpdepfnoijoaaS10
import Derived.Test.YtpcpdepfnoijoaaRows
set_option linter.unusedVariables false
set_option linter.unusedSimpArgs false
set_option maxRecDepth 100000
namespace Go.Proofs.Ytpcpdepfnoijoaa
open Go.Vc
theorem eq_of_getDL {x y : List (List Int)} (hl : x.length = y.length) (h : ∀ j, j < x.length → x.getD j default = y.getD j default) : x = y := by
  apply List.ext_getElem hl
  intro i h1 h2
  have := h i h1
  simpa [List.getD_eq_getElem?_getD, h1, h2] using this
theorem ref07_same {x y : List (List Int)} {s : St} {K : AV → St → Prop} (hx : x.length < 2^60) (hxl : ∀ l ∈ x, l.length < 2^60) (hk : K (.bool (x == y)) s) : CallsA Try.prog 13 [natsA x, natsA y] s K := by
  refine callsA_of Try.func13 rfl rfl (Nat.le_of_ble_eq_true rfl) ?_
  refine vc_seq ?_
  refine vc_regionW (qm 1) [0] rfl rfl ?_
  refine vq rfl rfl (q_assign rfl) ?_
  refine vendW ?_
  refine vc_seq ?_
  refine vc_seq ?_
  refine vc_regionW (qm 31) [0, 1, 2, 3, 4] rfl rfl ?_
  refine vq rfl rfl (q_move rfl) ?_
  refine vq rfl rfl (q_len sl33 rfl (by first | exact lenM | rfl)) ?_
  refine vq rfl rfl (q_move rfl) ?_
  refine vq rfl rfl (q_len sl33 rfl (by first | exact lenM | rfl)) ?_
  refine vq rfl rfl (q_ne rfl rfl) ?_
  refine vendW ?_
  refine vc_condD rfl (fun h => ?_) (fun h => ?_)
  ·
    refine vc_seq ?_
    refine vc_regionW (qm 1) [0] rfl rfl ?_
    refine vq rfl rfl (q_assign rfl) ?_
    refine vendW ?_
    refine vc_ret ?_
    have e : (x == y) = false := by simp; rintro rfl; exact h rfl
    rw [e] at hk
    exact ret1 rfl rfl (Le.refl _) (Cv.le (Le.refl _) _) hk
  refine vc_skip ?_
  refine vc_seq ?_
  refine vc_seq ?_
  refine vc_regionW (qm 1) [0] rfl rfl ?_
  refine vq rfl rfl (q_assign rfl) ?_
  refine vendW ?_
  refine vc_block ?_
  refine vc_loopS (α := Nat) [4, 5, 11, 12, 13, 14, 15, 16, 17, 18, 19, 20, 21, 22, 23, 24, 25, 26] (fun i => [(5, .int (i : Int))]) (fun i => s) (fun i => i ≤ x.length ∧ ∀ j, j < i → x.getD j default = y.getD j default) (fun i => x.length - i) 0 ⟨by simp, by simp⟩ rfl ⟨rfl, trivial⟩ (fun _ => rfl) ?_
  intro i hok
  refine vc_seq ?_
  refine vc_seq ?_
  refine vc_regionW (qm 15) [0, 1, 2, 3] rfl rfl ?_
  refine vq rfl rfl (q_move rfl) ?_
  refine vq rfl rfl (q_move rfl) ?_
  refine vq rfl rfl (q_len sl33 rfl (by first | exact lenM | rfl)) ?_
  refine vq rfl rfl (q_lt rfl rfl) ?_
  refine vendW ?_
  refine vc_condD rfl (fun h => ?_) (fun h => ?_)
  ·
    refine vc_skip ?_
    refine vc_seq ?_
    refine vc_block ?_
    refine vc_seq ?_
    refine vc_regionDW mx (qm 1023) [0, 1, 2, 3, 4, 5, 6, 7, 8, 9] (by kernel_rfl) ?_
    refine vq rfl rfl (q_move rfl) ?_
    refine vq rfl rfl (q_move rfl) ?_
    refine vq rfl rfl (q_index sl33 rfl rfl (by omega) (by first | exact nthI (by omega) | exact nthM (by omega))) ?_
    refine vq rfl rfl (q_load sc53 rfl) ?_
    refine vq rfl rfl (q_move rfl) ?_
    refine vq rfl rfl (q_move rfl) ?_
    refine vq rfl rfl (q_index sl33 rfl rfl (by omega) (by first | exact nthI (by omega) | exact nthM (by omega))) ?_
    refine vq rfl rfl (q_load sc53 rfl) ?_
    refine vq rfl rfl (q_callF go52 rfl (fun s => ref01_same (hxl _ (getD_mem (by omega))) ⟨rfl, rfl⟩)) ?_
    refine vq rfl rfl (q_not rfl) ?_
    refine vendW ?_
    refine vc_cond rfl (fun h2 => ?_) (fun h2 => ?_)
    ·
      refine vc_seq ?_
      refine vc_regionW (qm 1) [0] rfl rfl ?_
      refine vq rfl rfl (q_assign rfl) ?_
      refine vendW ?_
      refine vc_ret ?_
      have e : (x == y) = false := by simp; rintro rfl; simp at h2
      rw [e] at hk
      exact ret1 rfl rfl (Le.refl _) (Cv.le (Le.refl _) _) hk
    refine vc_skip ?_
    refine vc_regionW (qm 7) [0, 1, 2] rfl rfl ?_
    refine vq rfl rfl (q_move rfl) ?_
    refine vq rfl rfl (q_add rfl rfl (w64 (by omega))) ?_
    refine vq rfl rfl (q_assign rfl) ?_
    refine vendW ?_
    refine ⟨i + 1, ⟨by omega, fun j hj => by by_cases e : j = i; (· subst e; exact eq_of_beq (by simpa using h2)); (· exact hok.2 j (by omega))⟩, by omega, ?_, ⟨rfl, trivial⟩, rfl⟩
    repeat (first | exact Same.refl | refine Same.upd rfl ?_ | refine Same.drop rfl ?_)
  refine vc_exit ?_
  refine vc_seq ?_
  refine vc_regionW (qm 1) [0] rfl rfl ?_
  refine vq rfl rfl (q_assign rfl) ?_
  refine vendW ?_
  refine vc_ret ?_
  have e : (x == y) = true := by simp; exact eq_of_getDL (by omega) fun j hj => hok.2 j (by omega)
  rw [e] at hk
  exact ret1 rfl rfl (Le.refl _) (Cv.le (Le.refl _) _) hk
theorem ref06_ints {x y : List Int} {s : St} {K : AV → St → Prop} (hx : x.length < 2^60) (hk : K (.bool (x == y)) s) : CallsA Try.prog 51 [ints x, ints y] s K := by
  refine callsA_of Try.func51 rfl rfl (Nat.le_of_ble_eq_true rfl) ?_
  refine vc_seq ?_
  refine vc_regionW (qm 1) [0] rfl rfl ?_
  refine vq rfl rfl (q_assign rfl) ?_
  refine vendW ?_
  refine vc_seq ?_
  refine vc_seq ?_
  refine vc_regionW (qm 31) [0, 1, 2, 3, 4] rfl rfl ?_
  refine vq rfl rfl (q_move rfl) ?_
  refine vq rfl rfl (q_len sl40 rfl (by first | exact lenM | rfl)) ?_
  refine vq rfl rfl (q_move rfl) ?_
  refine vq rfl rfl (q_len sl40 rfl (by first | exact lenM | rfl)) ?_
  refine vq rfl rfl (q_ne rfl rfl) ?_
  refine vendW ?_
  refine vc_condD rfl (fun h => ?_) (fun h => ?_)
  ·
    refine vc_seq ?_
    refine vc_regionW (qm 1) [0] rfl rfl ?_
    refine vq rfl rfl (q_assign rfl) ?_
    refine vendW ?_
    refine vc_ret ?_
    have e : (x == y) = false := by simp; rintro rfl; exact h rfl
    rw [e] at hk
    exact ret1 rfl rfl (Le.refl _) (Cv.le (Le.refl _) _) hk
  refine vc_skip ?_
  refine vc_seq ?_
  refine vc_seq ?_
  refine vc_regionW (qm 1) [0] rfl rfl ?_
  refine vq rfl rfl (q_assign rfl) ?_
  refine vendW ?_
  refine vc_block ?_
  refine vc_loopS (α := Nat) [4, 5, 11, 12, 13, 14, 15, 16, 17, 18, 19, 20, 21, 22, 23, 24, 25] (fun i => [(5, .int (i : Int))]) (fun i => s) (fun i => i ≤ x.length ∧ ∀ j, j < i → x.getD j 0 = y.getD j 0) (fun i => x.length - i) 0 ⟨by simp, by simp⟩ rfl ⟨rfl, trivial⟩ (fun _ => rfl) ?_
  intro i hok
  refine vc_seq ?_
  refine vc_seq ?_
  refine vc_regionW (qm 15) [0, 1, 2, 3] rfl rfl ?_
  refine vq rfl rfl (q_move rfl) ?_
  refine vq rfl rfl (q_move rfl) ?_
  refine vq rfl rfl (q_len sl40 rfl (by first | exact lenM | rfl)) ?_
  refine vq rfl rfl (q_lt rfl rfl) ?_
  refine vendW ?_
  refine vc_condD rfl (fun h => ?_) (fun h => ?_)
  ·
    refine vc_skip ?_
    refine vc_seq ?_
    refine vc_block ?_
    refine vc_seq ?_
    refine vc_regionDW mx (qm 511) [0, 1, 2, 3, 4, 5, 6, 7, 8] (by kernel_rfl) ?_
    refine vq rfl rfl (q_move rfl) ?_
    refine vq rfl rfl (q_move rfl) ?_
    refine vq rfl rfl (q_index sl40 rfl rfl (by omega) (by first | exact nthI (by omega) | exact nthM (by omega))) ?_
    refine vq rfl rfl (q_load sc3 rfl) ?_
    refine vq rfl rfl (q_move rfl) ?_
    refine vq rfl rfl (q_move rfl) ?_
    refine vq rfl rfl (q_index sl40 rfl rfl (by omega) (by first | exact nthI (by omega) | exact nthM (by omega))) ?_
    refine vq rfl rfl (q_load sc3 rfl) ?_
    refine vq rfl rfl (q_ne rfl rfl) ?_
    refine vendW ?_
    refine vc_condD rfl (fun h2 => ?_) (fun h2 => ?_)
    ·
      refine vc_seq ?_
      refine vc_regionW (qm 1) [0] rfl rfl ?_
      refine vq rfl rfl (q_assign rfl) ?_
      refine vendW ?_
      refine vc_ret ?_
      have e : (x == y) = false := by simp; rintro rfl; exact h2 rfl
      rw [e] at hk
      exact ret1 rfl rfl (Le.refl _) (Cv.le (Le.refl _) _) hk
    refine vc_skip ?_
    refine vc_regionW (qm 7) [0, 1, 2] rfl rfl ?_
    refine vq rfl rfl (q_move rfl) ?_
    refine vq rfl rfl (q_add rfl rfl (w64 (by omega))) ?_
    refine vq rfl rfl (q_assign rfl) ?_
    refine vendW ?_
    refine ⟨i + 1, ⟨by omega, fun j hj => by by_cases e : j = i; (· subst e; simpa using h2); (· exact hok.2 j (by omega))⟩, by omega, ?_, ⟨rfl, trivial⟩, rfl⟩
    repeat (first | exact Same.refl | refine Same.upd rfl ?_ | refine Same.drop rfl ?_)
  refine vc_exit ?_
  refine vc_seq ?_
  refine vc_regionW (qm 1) [0] rfl rfl ?_
  refine vq rfl rfl (q_assign rfl) ?_
  refine vendW ?_
  refine vc_ret ?_
  have e : (x == y) = true := by simp; exact eq_of_getD (by omega) fun j hj => hok.2 j (by omega)
  rw [e] at hk
  exact ret1 rfl rfl (Le.refl _) (Cv.le (Le.refl _) _) hk
theorem stateS {p kv : Nat} {n : Net} {ord v : List Int} {s : St} {K : AV → St → Prop} (hS : SimS s p kv 5 n ord v) (hN : NetV n ord) (hl : v.length = n.nodes.length) (hw : ∀ i : Nat, IntKind.i64.wrap (v.getD i default) = v.getD i default) (hk : K (ints (stateN n v n.nodes.length)) s) : CallsA Try.prog 47 [ptv p 0] s K := by
  have hln := hN.ln.1
  refine callsA_of Try.func47 rfl rfl (Nat.le_of_ble_eq_true rfl) ?_
  refine vc_seq ?_
  refine vc_regionW (qm 1) [0] rfl rfl ?_
  refine vq rfl rfl (q_assign rfl) ?_
  refine vendW ?_
  refine vc_seq ?_
  refine vc_regionW (qm 1) [0] rfl rfl ?_
  refine vq rfl rfl (q_assign rfl) ?_
  refine vendW ?_
  refine vc_seq ?_
  refine vc_seq ?_
  refine vc_regionW (qm 214524926879081553593184399971293538039669853129478294043576983099548224481176751628829988770670454843040509730983776813660062124991145119142938384097345663) [0, 1, 2, 3, 4, 5, 6] rfl rfl ?_
  refine vq rfl rfl (q_move rfl) ?_
  refine vq rfl rfl (q_nil rfl) ?_
  refine vq rfl rfl (q_fieldP fo141_0 rfl) ?_
  refine vq rfl rfl (q_fieldP fo25_0 rfl) ?_
  refine vr rfl rfl rfl (e_load sc22 rfl hS.hp rfl ⟨rfl, rfl⟩) ?_
  refine vq rfl rfl (q_len sl22 rfl (by first | exact lenM | rfl)) ?_
  refine vq rfl rfl (q_move rfl) ?_
  refine vendW ?_
  refine vc_block ?_
  refine vc_loopS (α := Nat × AV × St) [3, 4, 5, 12, 13, 14, 15, 16, 17, 18, 19, 20, 21, 22, 23, 24, 25, 26, 27, 28, 29, 30, 31] (fun a => [(12, .int (a.1 : Int)), (3, a.2.1)]) (fun a => a.2.2) (fun a => a.1 ≤ n.nodes.length ∧ OwnSt s a.2.1 3 1 ((stateN n v a.1).map eI) a.2.2) (fun a => n.nodes.length - a.1) (0, nilS, s) ⟨Nat.zero_le _, OwnSt.nil _ _ _⟩ rfl ⟨rfl, rfl, trivial⟩ (fun _ => rfl) ?_
  intro ⟨i, x, S⟩ ⟨hi, ho⟩
  simp only at hi ho ⊢
  refine vc_seq ?_
  refine vc_regionW (qm 1) [0] rfl rfl ?_
  refine vq rfl rfl (q_lt rfl rfl) ?_
  refine vendW ?_
  refine vc_seq ?_
  refine vc_condD rfl (fun h => ?_) (fun h => ?_)
  ·
    refine vc_skip ?_
    refine vc_seq ?_
    refine vc_block ?_
    refine vc_seq ?_
    refine vc_regionW (qm 23) [0, 1, 2, 3, 4, 5] rfl rfl ?_
    refine vq rfl rfl (q_move rfl) ?_
    refine vq rfl rfl (q_index sl22 rfl rfl (by omega) (by first | exact nthI (by omega) | exact nthM (by omega))) ?_
    refine vq rfl rfl (q_loadA ag89 rfl rfl) ?_
    refine ve rfl rfl (e_alloc zr89 (fun k5 hk5 => ?_))
    refine vq rfl rfl (q_assign rfl) ?_
    refine vn rfl rfl (e_storeN sz89 rfl rfl rfl rfl (upd_same _ _ _) rfl ?_)
    refine vendW ?_
    refine vc_frzC (i := 5) hk5 (upd_upd _ _ _ _) rfl ?_
    refine vc_seq ?_
    refine vc_regionW (qm 7) [0, 1, 2] rfl rfl ?_
    refine vq rfl rfl (q_field fo89_0 rfl (Nat.le_of_ble_eq_true rfl)) ?_
    refine vq rfl rfl (q_load sc3 rfl) ?_
    refine vq rfl rfl (q_eq rfl rfl) ?_
    refine vendW ?_
    refine vc_condD rfl (fun h19 => ?_) (fun h19 => ?_)
    ·
      refine vc_regionW (qm 1930724341911733982338659599741641842357028678165304646392192847895934020330590764659469898936034093587364587578853991322940559124920306072286445456876112895) [0, 1, 2, 3, 4, 5, 6, 7, 8, 9, 10, 11] rfl rfl ?_
      refine vq rfl rfl (q_move rfl) ?_
      refine vq rfl rfl (q_move rfl) ?_
      refine vq rfl rfl (q_nil rfl) ?_
      refine vq rfl rfl (q_fieldP fo141_2 rfl) ?_
      refine vr rfl rfl rfl (e_load sc139 rfl (hS.le ho.le).hp rfl ⟨rfl, rfl⟩) ?_
      refine vq rfl rfl (q_move rfl) ?_
      refine vq rfl rfl (q_indexH sl139 rfl rfl (by omega) (by omega)) ?_
      refine vr rfl rfl rfl (e_loadE sc5 rfl (hS.le ho.le).hv (nthI (by omega)) rfl ⟨rfl, rfl⟩) ?_
      refine vq rfl rfl (q_conv us5 ik3 rfl (hw i)) ?_
      refine vq rfl rfl (q_buildS sl40 zo3 (by decide) rfl rfl rfl rfl (by decide)) ?_
      refine ve rfl rfl (e_append sl40 zo3 rfl rfl ho (SrcOK.slx 1 _) (rowsC1_one rfl) (by have := stateN_len n v i; rw [List.length_map]; simp only [maxLen_eq, List.length_map, List.length_cons, List.length_nil]; omega) (fun x3 s3 ho3 => ?_))
      refine vq rfl rfl (q_assign rfl) ?_
      refine vendW ?_
      refine vc_regionW (qm 3) [0, 1] rfl rfl ?_
      refine vq rfl rfl (q_add rfl rfl (w64 (by omega))) ?_
      refine vq rfl rfl (q_move rfl) ?_
      refine vendW ?_
      refine ⟨(i + 1, x3, s3), ⟨by simp only; omega, by rw [stateN, if_pos h19, List.map_append]; exact ho3⟩, by simp only; omega, ?_, ⟨rfl, rfl, trivial⟩, rfl⟩
      repeat (first | exact Same.refl | refine Same.upd rfl ?_ | refine Same.drop rfl ?_)
    refine vc_skip ?_
    refine vc_regionW (qm 3) [0, 1] rfl rfl ?_
    refine vq rfl rfl (q_add rfl rfl (w64 (by omega))) ?_
    refine vq rfl rfl (q_move rfl) ?_
    refine vendW ?_
    refine ⟨(i + 1, x, S), ⟨by simp only; omega, by rw [stateN, if_neg h19]; exact ho⟩, by simp only; omega, ?_, ⟨rfl, rfl, trivial⟩, rfl⟩
    repeat (first | exact Same.refl | refine Same.upd rfl ?_ | refine Same.drop rfl ?_)
  refine vc_exit ?_
  refine vc_seq ?_
  refine vc_regionW (qm 3) [0, 1] rfl rfl ?_
  refine vq rfl rfl (q_move rfl) ?_
  refine vq rfl rfl (q_assign rfl) ?_
  refine vendW ?_
  refine vc_ret ?_
  have e : i = n.nodes.length := by omega
  subst e
  exact ret1 rfl rfl ho.le ho.frz hk
theorem large6 {n : Net} {nodes : Int} {s : St} {K : AV → St → Prop} (hB : NetB n) (hi6 : n.ins.length ≤ 1048576) (ho6 : n.outs.length ≤ 1048576) (hk : ∀ b, K (.bool b) s) : CallsA Try.prog 35 [netA n, .int nodes] s K := by
  have hb1 := hB.nodes
  refine callsA_of Try.func35 rfl rfl (Nat.le_of_ble_eq_true rfl) ?_
  refine vc_seq ?_
  refine vc_regionW (qm 3) [0, 1] rfl rfl ?_
  refine vq rfl rfl (q_box rfl rfl) ?_
  refine vq rfl rfl (q_assign rfl) ?_
  refine vendW ?_
  refine vc_seq ?_
  refine vc_regionW (qm 1) [0] rfl rfl ?_
  refine vq rfl rfl (q_assign rfl) ?_
  refine vendW ?_
  refine vc_seq ?_
  refine vc_seq ?_
  refine vc_regionW (qm 1) [0] rfl rfl ?_
  refine vq rfl rfl (q_assign rfl) ?_
  refine vendW ?_
  refine vc_block ?_
  refine vc_loopS (α := Nat × Int) [5, 6, 8, 9, 10, 11, 12, 13, 14, 15, 16, 17, 18, 19, 20, 21, 22, 23, 24, 25, 26, 27, 28, 29, 30, 31, 32, 33, 34, 35] (fun a => [(6, .int (a.1 : Int)), (5, .int a.2)]) (fun a => s) (fun a => a.1 ≤ n.ins.length ∧ 0 ≤ a.2 ∧ a.2 ≤ 0 + 2199023255552 * a.1) (fun a => n.ins.length - a.1) (0, 0) ⟨Nat.zero_le _, by simp, by simp⟩ rfl ⟨rfl, rfl, trivial⟩ (fun _ => rfl) ?_
  intro ⟨i, c⟩ ⟨hi, hc, hcb⟩
  simp only at hi hc hcb ⊢
  refine vc_seq ?_
  refine vc_seq ?_
  refine vc_regionW (qm 511) [0, 1, 2, 3, 4, 5, 6, 7, 8] rfl rfl ?_
  refine vq rfl rfl (q_move rfl) ?_
  refine vq rfl rfl (q_field fo25_1 rfl (Nat.le_of_ble_eq_true rfl)) ?_
  refine vq rfl rfl (q_load sc23 rfl) ?_
  refine vq rfl rfl (q_len sl23 rfl (by first | exact lenM | rfl)) ?_
  refine vq rfl rfl (q_lt rfl rfl) ?_
  refine vq rfl rfl (q_move rfl) ?_
  refine vgrp [6, 7, 8] [] [14, 15] 16 (.v (.bool (decide ((i : Int) < n.ins.length) && decide ((i : Int) < 70)))) ?_ ?_
  ·
    by_cases hg5 : (i : Int) < n.ins.length
    ·
      refine gq_run rfl rfl rfl rfl (by first | exact congrArg Value.bool (decide_eq_true hg5) | (rw [decide_eq_true hg5]; done) | (simp [hg5]; done) | simp_all) (q_move rfl) ?_
      refine gq_run rfl rfl rfl rfl (by first | exact congrArg Value.bool (decide_eq_true hg5) | (rw [decide_eq_true hg5]; done) | (simp [hg5]; done) | simp_all) (q_lt rfl rfl) ?_
      refine vq rfl rfl (q_pickT rfl (by first | exact (decide_eq_true hg5) | exact hg5 | (simp [hg5]; done) | simp_all) rfl) ?_
      refine vendW ⟨rfl, congrArg (fun b => some (AV.v (Value.bool b))) (by first | (simp only [decide_eq_true hg5]; done) | (simp only [decide_eq_true hg5]; rfl) | (simp [hg5]; done) | simp_all), ?_⟩
      repeat (first | exact Same.refl | refine Same.upd rfl ?_)
    ·
      refine g_skip rfl rfl rfl (by first | (rw [decide_eq_false hg5]; simp; done) | (intro e; have e2 := Value.bool.inj e; rw [decide_eq_false hg5] at e2; cases e2; done) | (simp [hg5]; done) | simp_all) ?_
      refine g_skip rfl rfl rfl (by first | (rw [decide_eq_false hg5]; simp; done) | (intro e; have e2 := Value.bool.inj e; rw [decide_eq_false hg5] at e2; cases e2; done) | (simp [hg5]; done) | simp_all) ?_
      refine vq rfl rfl (q_pickF rfl (by first | exact (decide_eq_false hg5) | exact hg5 | (simp [hg5]; done) | simp_all) rfl) ?_
      refine vendW ⟨rfl, congrArg (fun b => some (AV.v (Value.bool b))) (by first | (simp only [decide_eq_false hg5]; done) | (simp only [decide_eq_false hg5]; rfl) | (simp [hg5]; done) | simp_all), ?_⟩
      repeat (first | exact Same.refl | refine Same.upd rfl ?_)
  refine vendW ?_
  refine vc_cond rfl (fun h16 => ?_) (fun h16 => ?_)
  ·
    refine vc_skip ?_
    refine vc_seq ?_
    refine vc_block ?_
    simp only [Bool.and_eq_true, decide_eq_true_eq] at h16
    have hp1 := hB.bits _ (List.mem_append_left _ (getD_mem (l := n.ins) (i := i) (by omega)))
    have hp2 := hB.names _ (List.mem_append_left _ (getD_mem (l := n.ins) (i := i) (by omega)))
    refine vc_regionDW mx (qm 262143) [0, 1, 2, 3, 4, 5, 6, 7, 8, 9, 10, 11, 12, 13, 14, 15, 16, 17] (by kernel_rfl) ?_
    refine vq rfl rfl (q_move rfl) ?_
    refine vq rfl rfl (q_field fo25_1 rfl (Nat.le_of_ble_eq_true rfl)) ?_
    refine vq rfl rfl (q_load sc23 rfl) ?_
    refine vq rfl rfl (q_move rfl) ?_
    refine vq rfl rfl (q_index sl23 rfl rfl (by omega) (by first | exact nthI (by omega) | exact nthM (by omega))) ?_
    refine vq rfl rfl (q_field fo91_1 rfl (Nat.le_of_ble_eq_true rfl)) ?_
    refine vq rfl rfl (q_load sc40 rfl) ?_
    refine vq rfl rfl (q_len sl40 rfl (by first | exact lenM | rfl)) ?_
    refine vq rfl rfl (q_field fo25_1 rfl (Nat.le_of_ble_eq_true rfl)) ?_
    refine vq rfl rfl (q_load sc23 rfl) ?_
    refine vq rfl rfl (q_move rfl) ?_
    refine vq rfl rfl (q_index sl23 rfl rfl (by omega) (by first | exact nthI (by omega) | exact nthM (by omega))) ?_
    refine vq rfl rfl (q_field fo91_0 rfl (Nat.le_of_ble_eq_true rfl)) ?_
    refine vq rfl rfl (q_load sc9 rfl) ?_
    refine vq rfl rfl (q_lenS st9 rfl) ?_
    refine vq rfl rfl (q_add rfl rfl (w64 (by omega))) ?_
    refine vq rfl rfl (q_add rfl rfl (w64 (by omega))) ?_
    refine vq rfl rfl (q_assign rfl) ?_
    refine vendW ?_
    refine vc_regionW (qm 7) [0, 1, 2] rfl rfl ?_
    refine vq rfl rfl (q_move rfl) ?_
    refine vq rfl rfl (q_add rfl rfl (w64 (by omega))) ?_
    refine vq rfl rfl (q_assign rfl) ?_
    refine vendW ?_
    refine ⟨(i + 1, c + ((n.ins.getD i default).bits.length + (n.ins.getD i default).name.size)), ⟨by simp only; omega, by simp only; omega, by simp only; omega⟩, by simp only; omega, ?_, ⟨rfl, rfl, trivial⟩, rfl⟩
    repeat (first | exact Same.refl | refine Same.upd rfl ?_ | refine Same.drop rfl ?_)
  refine vc_exit ?_
  refine vc_seq ?_
  refine vc_seq ?_
  obtain ⟨c1, hc1e⟩ : ∃ c1, c1 = c := ⟨c, rfl⟩
  have hc1 : 0 ≤ c1 := by omega
  have hc1b : c1 ≤ 2305843009213693952 := by omega
  rw [← hc1e]
  refine vc_regionW (qm 1) [0] rfl rfl ?_
  refine vq rfl rfl (q_assign rfl) ?_
  refine vendW ?_
  refine vc_block ?_
  refine vc_loopS (α := Nat × Int) [5, 7, 36, 37, 38, 39, 40, 41, 42, 43, 44, 45, 46, 47, 48, 49, 50, 51, 52, 53, 54, 55, 56, 57, 58, 59, 60, 61, 62, 63] (fun a => [(7, .int (a.1 : Int)), (5, .int a.2)]) (fun a => s) (fun a => a.1 ≤ n.outs.length ∧ 0 ≤ a.2 ∧ a.2 ≤ c1 + 2199023255552 * a.1) (fun a => n.outs.length - a.1) (0, c1) ⟨Nat.zero_le _, hc1, by simp only; omega⟩ rfl ⟨rfl, rfl, trivial⟩ (fun _ => rfl) ?_
  intro ⟨i2, c2⟩ ⟨hi, hc, hcb⟩
  simp only at hi hc hcb ⊢
  refine vc_seq ?_
  refine vc_seq ?_
  refine vc_regionW (qm 511) [0, 1, 2, 3, 4, 5, 6, 7, 8] rfl rfl ?_
  refine vq rfl rfl (q_move rfl) ?_
  refine vq rfl rfl (q_field fo25_2 rfl (Nat.le_of_ble_eq_true rfl)) ?_
  refine vq rfl rfl (q_load sc23 rfl) ?_
  refine vq rfl rfl (q_len sl23 rfl (by first | exact lenM | rfl)) ?_
  refine vq rfl rfl (q_lt rfl rfl) ?_
  refine vq rfl rfl (q_move rfl) ?_
  refine vgrp [6, 7, 8] [] [42, 43] 44 (.v (.bool (decide ((i2 : Int) < n.outs.length) && decide ((i2 : Int) < 70)))) ?_ ?_
  ·
    by_cases hg5 : (i2 : Int) < n.outs.length
    ·
      refine gq_run rfl rfl rfl rfl (by first | exact congrArg Value.bool (decide_eq_true hg5) | (rw [decide_eq_true hg5]; done) | (simp [hg5]; done) | simp_all) (q_move rfl) ?_
      refine gq_run rfl rfl rfl rfl (by first | exact congrArg Value.bool (decide_eq_true hg5) | (rw [decide_eq_true hg5]; done) | (simp [hg5]; done) | simp_all) (q_lt rfl rfl) ?_
      refine vq rfl rfl (q_pickT rfl (by first | exact (decide_eq_true hg5) | exact hg5 | (simp [hg5]; done) | simp_all) rfl) ?_
      refine vendW ⟨rfl, congrArg (fun b => some (AV.v (Value.bool b))) (by first | (simp only [decide_eq_true hg5]; done) | (simp only [decide_eq_true hg5]; rfl) | (simp [hg5]; done) | simp_all), ?_⟩
      repeat (first | exact Same.refl | refine Same.upd rfl ?_)
    ·
      refine g_skip rfl rfl rfl (by first | (rw [decide_eq_false hg5]; simp; done) | (intro e; have e2 := Value.bool.inj e; rw [decide_eq_false hg5] at e2; cases e2; done) | (simp [hg5]; done) | simp_all) ?_
      refine g_skip rfl rfl rfl (by first | (rw [decide_eq_false hg5]; simp; done) | (intro e; have e2 := Value.bool.inj e; rw [decide_eq_false hg5] at e2; cases e2; done) | (simp [hg5]; done) | simp_all) ?_
      refine vq rfl rfl (q_pickF rfl (by first | exact (decide_eq_false hg5) | exact hg5 | (simp [hg5]; done) | simp_all) rfl) ?_
      refine vendW ⟨rfl, congrArg (fun b => some (AV.v (Value.bool b))) (by first | (simp only [decide_eq_false hg5]; done) | (simp only [decide_eq_false hg5]; rfl) | (simp [hg5]; done) | simp_all), ?_⟩
      repeat (first | exact Same.refl | refine Same.upd rfl ?_)
  refine vendW ?_
  refine vc_cond rfl (fun h44 => ?_) (fun h44 => ?_)
  ·
    refine vc_skip ?_
    refine vc_seq ?_
    refine vc_block ?_
    simp only [Bool.and_eq_true, decide_eq_true_eq] at h44
    have hp1 := hB.bits _ (List.mem_append_right _ (getD_mem (l := n.outs) (i := i2) (by omega)))
    have hp2 := hB.names _ (List.mem_append_right _ (getD_mem (l := n.outs) (i := i2) (by omega)))
    refine vc_regionDW mx (qm 262143) [0, 1, 2, 3, 4, 5, 6, 7, 8, 9, 10, 11, 12, 13, 14, 15, 16, 17] (by kernel_rfl) ?_
    refine vq rfl rfl (q_move rfl) ?_
    refine vq rfl rfl (q_field fo25_2 rfl (Nat.le_of_ble_eq_true rfl)) ?_
    refine vq rfl rfl (q_load sc23 rfl) ?_
    refine vq rfl rfl (q_move rfl) ?_
    refine vq rfl rfl (q_index sl23 rfl rfl (by omega) (by first | exact nthI (by omega) | exact nthM (by omega))) ?_
    refine vq rfl rfl (q_field fo91_1 rfl (Nat.le_of_ble_eq_true rfl)) ?_
    refine vq rfl rfl (q_load sc40 rfl) ?_
    refine vq rfl rfl (q_len sl40 rfl (by first | exact lenM | rfl)) ?_
    refine vq rfl rfl (q_field fo25_2 rfl (Nat.le_of_ble_eq_true rfl)) ?_
    refine vq rfl rfl (q_load sc23 rfl) ?_
    refine vq rfl rfl (q_move rfl) ?_
    refine vq rfl rfl (q_index sl23 rfl rfl (by omega) (by first | exact nthI (by omega) | exact nthM (by omega))) ?_
    refine vq rfl rfl (q_field fo91_0 rfl (Nat.le_of_ble_eq_true rfl)) ?_
    refine vq rfl rfl (q_load sc9 rfl) ?_
    refine vq rfl rfl (q_lenS st9 rfl) ?_
    refine vq rfl rfl (q_add rfl rfl (w64 (by omega))) ?_
    refine vq rfl rfl (q_add rfl rfl (w64 (by omega))) ?_
    refine vq rfl rfl (q_assign rfl) ?_
    refine vendW ?_
    refine vc_regionW (qm 7) [0, 1, 2] rfl rfl ?_
    refine vq rfl rfl (q_move rfl) ?_
    refine vq rfl rfl (q_add rfl rfl (w64 (by omega))) ?_
    refine vq rfl rfl (q_assign rfl) ?_
    refine vendW ?_
    refine ⟨(i2 + 1, c2 + ((n.outs.getD i2 default).bits.length + (n.outs.getD i2 default).name.size)), ⟨by simp only; omega, by simp only; omega, by simp only; omega⟩, by simp only; omega, ?_, ⟨rfl, rfl, trivial⟩, rfl⟩
    repeat (first | exact Same.refl | refine Same.upd rfl ?_ | refine Same.drop rfl ?_)
  refine vc_exit ?_
  refine vc_seq ?_
  refine vc_regionW (qm 4194303) [0, 1, 2, 3, 4, 5, 6, 7, 8, 9, 10, 11, 12, 13, 14, 15, 16, 17, 18, 19, 20, 21] rfl rfl ?_
  refine vq rfl rfl (q_field fo25_0 rfl (Nat.le_of_ble_eq_true rfl)) ?_
  refine vq rfl rfl (q_load sc22 rfl) ?_
  refine vq rfl rfl (q_len sl22 rfl (by first | exact lenM | rfl)) ?_
  refine vq rfl rfl (q_move rfl) ?_
  refine vq rfl rfl (q_gt rfl rfl) ?_
  refine vq rfl rfl (q_move rfl) ?_
  refine vgrp [6, 7, 8, 9, 10] [11, 12, 13, 14, 15, 16, 17, 18, 19, 20, 21] [70, 71, 72, 73] 74 (.v (.bool (decide (nodes < (n.nodes.length : Int)) || decide ((66 : Int) < n.ins.length)))) ?_ ?_
  ·
    by_cases hg5 : nodes < (n.nodes.length : Int)
    ·
      refine g_skip rfl rfl rfl (by first | (rw [decide_eq_true hg5]; simp; done) | (intro e; have e2 := Value.bool.inj e; rw [decide_eq_true hg5] at e2; cases e2; done) | (simp [hg5]; done) | simp_all) ?_
      refine g_skip rfl rfl rfl (by first | (rw [decide_eq_true hg5]; simp; done) | (intro e; have e2 := Value.bool.inj e; rw [decide_eq_true hg5] at e2; cases e2; done) | (simp [hg5]; done) | simp_all) ?_
      refine g_skip rfl rfl rfl (by first | (rw [decide_eq_true hg5]; simp; done) | (intro e; have e2 := Value.bool.inj e; rw [decide_eq_true hg5] at e2; cases e2; done) | (simp [hg5]; done) | simp_all) ?_
      refine g_skip rfl rfl rfl (by first | (rw [decide_eq_true hg5]; simp; done) | (intro e; have e2 := Value.bool.inj e; rw [decide_eq_true hg5] at e2; cases e2; done) | (simp [hg5]; done) | simp_all) ?_
      refine vq rfl rfl (q_pickT rfl (by first | exact (decide_eq_true hg5) | exact hg5 | (simp [hg5]; done) | simp_all) rfl) ?_
      refine vendW ⟨rfl, congrArg (fun b => some (AV.v (Value.bool b))) (by first | (simp only [decide_eq_true hg5]; done) | (simp only [decide_eq_true hg5]; rfl) | (simp [hg5]; done) | simp_all), ?_⟩
      repeat (first | exact Same.refl | refine Same.upd rfl ?_)
    ·
      refine gq_run rfl rfl rfl rfl (by first | exact congrArg Value.bool (decide_eq_false hg5) | (rw [decide_eq_false hg5]; done) | (simp [hg5]; done) | simp_all) (q_field fo25_1 rfl (Nat.le_of_ble_eq_true rfl)) ?_
      refine gq_run rfl rfl rfl rfl (by first | exact congrArg Value.bool (decide_eq_false hg5) | (rw [decide_eq_false hg5]; done) | (simp [hg5]; done) | simp_all) (q_load sc23 rfl) ?_
      refine gq_run rfl rfl rfl rfl (by first | exact congrArg Value.bool (decide_eq_false hg5) | (rw [decide_eq_false hg5]; done) | (simp [hg5]; done) | simp_all) (q_len sl23 rfl (by first | exact lenM | rfl)) ?_
      refine gq_run rfl rfl rfl rfl (by first | exact congrArg Value.bool (decide_eq_false hg5) | (rw [decide_eq_false hg5]; done) | (simp [hg5]; done) | simp_all) (q_gt rfl rfl) ?_
      refine vq rfl rfl (q_pickF rfl (by first | exact (decide_eq_false hg5) | exact hg5 | (simp [hg5]; done) | simp_all) rfl) ?_
      refine vendW ⟨rfl, congrArg (fun b => some (AV.v (Value.bool b))) (by first | (simp only [decide_eq_false hg5]; done) | (simp only [decide_eq_false hg5]; rfl) | (simp [hg5]; done) | simp_all), ?_⟩
      repeat (first | exact Same.refl | refine Same.upd rfl ?_)
  refine vq rfl rfl (q_move rfl) ?_
  refine vgrp [12, 13, 14, 15, 16] [17, 18, 19, 20, 21] [76, 77, 78, 79] 80 (.v (.bool ((decide (nodes < (n.nodes.length : Int)) || decide ((66 : Int) < n.ins.length)) || decide ((66 : Int) < n.outs.length)))) ?_ ?_
  ·
    by_cases hg11 : (decide (nodes < (n.nodes.length : Int)) || decide ((66 : Int) < n.ins.length)) = true
    ·
      refine g_skip rfl rfl rfl (by first | (rw [hg11]; simp; done) | (intro e; have e2 := Value.bool.inj e; rw [hg11] at e2; cases e2; done) | (simp [hg11]; done) | simp_all) ?_
      refine g_skip rfl rfl rfl (by first | (rw [hg11]; simp; done) | (intro e; have e2 := Value.bool.inj e; rw [hg11] at e2; cases e2; done) | (simp [hg11]; done) | simp_all) ?_
      refine g_skip rfl rfl rfl (by first | (rw [hg11]; simp; done) | (intro e; have e2 := Value.bool.inj e; rw [hg11] at e2; cases e2; done) | (simp [hg11]; done) | simp_all) ?_
      refine g_skip rfl rfl rfl (by first | (rw [hg11]; simp; done) | (intro e; have e2 := Value.bool.inj e; rw [hg11] at e2; cases e2; done) | (simp [hg11]; done) | simp_all) ?_
      refine vq rfl rfl (q_pickT rfl (by first | exact hg11 | exact hg11 | (simp [hg11]; done) | simp_all) rfl) ?_
      refine vendW ⟨rfl, congrArg (fun b => some (AV.v (Value.bool b))) (by first | (simp only [hg11]; done) | (simp only [hg11]; rfl) | (simp [hg11]; done) | simp_all), ?_⟩
      repeat (first | exact Same.refl | refine Same.upd rfl ?_)
    ·
      refine gq_run rfl rfl rfl rfl (congrArg Value.bool (eq_false_of_ne_true hg11)) (q_field fo25_2 rfl (Nat.le_of_ble_eq_true rfl)) ?_
      refine gq_run rfl rfl rfl rfl (congrArg Value.bool (eq_false_of_ne_true hg11)) (q_load sc23 rfl) ?_
      refine gq_run rfl rfl rfl rfl (congrArg Value.bool (eq_false_of_ne_true hg11)) (q_len sl23 rfl (by first | exact lenM | rfl)) ?_
      refine gq_run rfl rfl rfl rfl (congrArg Value.bool (eq_false_of_ne_true hg11)) (q_gt rfl rfl) ?_
      refine vq rfl rfl (q_pickF rfl (by first | exact (eq_false_of_ne_true hg11) | exact hg11 | (simp [hg11]; done) | simp_all) rfl) ?_
      refine vendW ⟨rfl, congrArg (fun b => some (AV.v (Value.bool b))) (by first | (simp only [eq_false_of_ne_true hg11]; done) | (simp only [eq_false_of_ne_true hg11]; rfl) | (simp [hg11]; done) | simp_all), ?_⟩
      repeat (first | exact Same.refl | refine Same.upd rfl ?_)
  refine vq rfl rfl (q_move rfl) ?_
  refine vgrp [18, 19, 20] [21] [82, 83] 84 (.v (.bool ((((decide (nodes < (n.nodes.length : Int)) || decide ((66 : Int) < n.ins.length)) || decide ((66 : Int) < n.outs.length)) || decide ((4000 : Int) < c2))))) ?_ ?_
  ·
    by_cases hg17 : ((decide (nodes < (n.nodes.length : Int)) || decide ((66 : Int) < n.ins.length)) || decide ((66 : Int) < n.outs.length)) = true
    ·
      refine g_skip rfl rfl rfl (by first | (rw [hg17]; simp; done) | (intro e; have e2 := Value.bool.inj e; rw [hg17] at e2; cases e2; done) | (simp [hg17]; done) | simp_all) ?_
      refine g_skip rfl rfl rfl (by first | (rw [hg17]; simp; done) | (intro e; have e2 := Value.bool.inj e; rw [hg17] at e2; cases e2; done) | (simp [hg17]; done) | simp_all) ?_
      refine vq rfl rfl (q_pickT rfl (by first | exact hg17 | exact hg17 | (simp [hg17]; done) | simp_all) rfl) ?_
      refine vendW ⟨rfl, congrArg (fun b => some (AV.v (Value.bool b))) (by first | (simp only [hg17]; done) | (simp only [hg17]; rfl) | (simp [hg17]; done) | simp_all), ?_⟩
      repeat (first | exact Same.refl | refine Same.upd rfl ?_)
    ·
      refine gq_run rfl rfl rfl rfl (congrArg Value.bool (eq_false_of_ne_true hg17)) (q_move rfl) ?_
      refine gq_run rfl rfl rfl rfl (congrArg Value.bool (eq_false_of_ne_true hg17)) (q_gt rfl rfl) ?_
      refine vq rfl rfl (q_pickF rfl (by first | exact (eq_false_of_ne_true hg17) | exact hg17 | (simp [hg17]; done) | simp_all) rfl) ?_
      refine vendW ⟨rfl, congrArg (fun b => some (AV.v (Value.bool b))) (by first | (simp only [eq_false_of_ne_true hg17]; done) | (simp only [eq_false_of_ne_true hg17]; rfl) | (simp [hg17]; done) | simp_all), ?_⟩
      repeat (first | exact Same.refl | refine Same.upd rfl ?_)
  refine vq rfl rfl (q_assign rfl) ?_
  refine vendW ?_
  refine vc_ret ?_
  exact ret1 rfl rfl (Le.refl _) (Cv.le (Le.refl _) _) (hk _)
structure ScB2 (sc : List (List (List Int))) : Prop extends ScB sc where
  b1 : sc.length ≤ 1048576
  b2 : ∀ x ∈ sc, x.length ≤ 1048576 ∧ ∀ y ∈ x, y.length ≤ 1048576
theorem large7 {n : Net} {sc : List (List (List Int))} {s : St} {K : AV → St → Prop} (hB : NetB n) (hi6 : n.ins.length ≤ 1048576) (ho6 : n.outs.length ≤ 1048576) (hsc : ScB2 sc) (hk : ∀ b, K (.bool b) s) : CallsA Try.prog 11 [netA n, scriptA sc] s K := by
  have hb1 := hsc.b1
  refine callsA_of Try.func11 rfl rfl (Nat.le_of_ble_eq_true rfl) ?_
  refine vc_seq ?_
  refine vc_regionW (qm 3) [0, 1] rfl rfl ?_
  refine vq rfl rfl (q_box rfl rfl) ?_
  refine vq rfl rfl (q_assign rfl) ?_
  refine vendW ?_
  refine vc_seq ?_
  refine vc_regionW (qm 1) [0] rfl rfl ?_
  refine vq rfl rfl (q_assign rfl) ?_
  refine vendW ?_
  refine vc_seq ?_
  refine vc_seq ?_
  refine vc_regionW (qm 7) [0, 1, 2] rfl rfl ?_
  refine vq rfl rfl (q_move rfl) ?_
  refine vq rfl rfl (q_len sl26 rfl (by first | exact lenM | rfl)) ?_
  refine vq rfl rfl (q_move rfl) ?_
  refine vendW ?_
  refine vc_block ?_
  refine vc_loopS (α := Nat × Int) [5, 6, 7, 10, 11, 12, 13, 14, 15, 16, 17, 18, 19, 20, 21, 22, 23, 24, 25, 26, 27, 28, 29, 30, 31, 32, 33] (fun a => [(10, .int (a.1 : Int)), (5, .int a.2)]) (fun a => s) (fun a => a.1 ≤ sc.length ∧ 0 ≤ a.2 ∧ a.2 ≤ 1099512676352 * a.1) (fun a => sc.length - a.1) (0, 0) ⟨Nat.zero_le _, by simp, by simp⟩ rfl ⟨rfl, rfl, trivial⟩ (fun _ => rfl) ?_
  intro ⟨i, c⟩ ⟨hi, hc, hcb⟩
  simp only at hi hc hcb ⊢
  refine vc_seq ?_
  refine vc_regionW (qm 1) [0] rfl rfl ?_
  refine vq rfl rfl (q_lt rfl rfl) ?_
  refine vendW ?_
  refine vc_seq ?_
  refine vc_condD rfl (fun h => ?_) (fun h => ?_)
  ·
    refine vc_skip ?_
    refine vc_seq ?_
    refine vc_block ?_
    refine vc_seq ?_
    refine vc_regionW (qm 3) [0, 1] rfl rfl ?_
    refine vq rfl rfl (q_move rfl) ?_
    refine vq rfl rfl (q_assign rfl) ?_
    refine vendW ?_
    refine vc_seq ?_
    have hx := hsc.b2 _ (getD_mem (l := sc) (i := i) (by omega))
    refine vc_regionW (qm 63) [0, 1, 2, 3, 4, 5] rfl rfl ?_
    refine vq rfl rfl (q_move rfl) ?_
    refine vq rfl rfl (q_move rfl) ?_
    refine vq rfl rfl (q_index sl26 rfl rfl (by omega) (by first | exact nthI (by omega) | exact nthM (by omega))) ?_
    refine vq rfl rfl (q_load sc35 rfl) ?_
    refine vq rfl rfl (q_len sl35 rfl (by first | exact lenM | rfl)) ?_
    refine vq rfl rfl (q_move rfl) ?_
    refine vendW ?_
    refine vc_block ?_
    refine vc_loopS (α := Nat × Int) [5, 7, 18, 19, 20, 21, 22, 23, 24, 25, 26, 27, 28, 29, 30, 31, 32] (fun a => [(18, .int (a.1 : Int)), (5, .int a.2)]) (fun a => s) (fun a => a.1 ≤ (sc.getD i default).length ∧ 0 ≤ a.2 ∧ a.2 ≤ c + 1048577 * a.1) (fun a => (sc.getD i default).length - a.1) (0, c) ⟨Nat.zero_le _, by simp only; omega, by simp⟩ rfl ⟨rfl, rfl, trivial⟩ (fun _ => rfl) ?_
    intro ⟨k, c3⟩ ⟨hk1, hc3, hcb3⟩
    simp only at hk1 hc3 hcb3 ⊢
    refine vc_seq ?_
    refine vc_regionW (qm 1) [0] rfl rfl ?_
    refine vq rfl rfl (q_lt rfl rfl) ?_
    refine vendW ?_
    refine vc_seq ?_
    refine vc_condD rfl (fun h => ?_) (fun h => ?_)
    ·
      refine vc_skip ?_
      refine vc_seq ?_
      refine vc_block ?_
      refine vc_seq ?_
      refine vc_regionW (qm 3) [0, 1] rfl rfl ?_
      refine vq rfl rfl (q_move rfl) ?_
      refine vq rfl rfl (q_assign rfl) ?_
      refine vendW ?_
      have hy := hx.2 _ (getD_mem (l := sc.getD i default) (i := k) (by omega))
      refine vc_regionW (qm 4095) [0, 1, 2, 3, 4, 5, 6, 7, 8, 9, 10, 11] rfl rfl ?_
      refine vq rfl rfl (q_move rfl) ?_
      refine vq rfl rfl (q_move rfl) ?_
      refine vq rfl rfl (q_move rfl) ?_
      refine vq rfl rfl (q_index sl26 rfl rfl (by omega) (by first | exact nthI (by omega) | exact nthM (by omega))) ?_
      refine vq rfl rfl (q_load sc35 rfl) ?_
      refine vq rfl rfl (q_move rfl) ?_
      refine vq rfl rfl (q_index sl35 rfl rfl (by omega) (by first | exact nthI (by omega) | exact nthM (by omega))) ?_
      refine vq rfl rfl (q_load sc61 rfl) ?_
      refine vq rfl rfl (q_len sl61 rfl (by first | exact lenM | rfl)) ?_
      refine vq rfl rfl (q_add rfl rfl (w64 (by omega))) ?_
      refine vq rfl rfl (q_add rfl rfl (w64 (by omega))) ?_
      refine vq rfl rfl (q_assign rfl) ?_
      refine vendW ?_
      refine vc_regionW (qm 3) [0, 1] rfl rfl ?_
      refine vq rfl rfl (q_add rfl rfl (w64 (by omega))) ?_
      refine vq rfl rfl (q_move rfl) ?_
      refine vendW ?_
      refine ⟨(k + 1, c3 + ((((sc.getD i default).getD k default).length : Int) + 1)), ⟨by simp only; omega, by simp only; omega, by simp only; omega⟩, by simp only; omega, ?_, ⟨rfl, rfl, trivial⟩, rfl⟩
      repeat (first | exact Same.refl | refine Same.upd rfl ?_ | refine Same.drop rfl ?_)
    refine vc_exit ?_
    refine vc_regionW (qm 3) [0, 1] rfl rfl ?_
    refine vq rfl rfl (q_add rfl rfl (w64 (by omega))) ?_
    refine vq rfl rfl (q_move rfl) ?_
    refine vendW ?_
    refine ⟨(i + 1, c3), ⟨by simp only; omega, by simp only; omega, by simp only; omega⟩, by simp only; omega, ?_, ⟨rfl, rfl, trivial⟩, rfl⟩
    repeat (first | exact Same.refl | refine Same.upd rfl ?_ | refine Same.drop rfl ?_)
  refine vc_exit ?_
  refine vc_seq ?_
  refine vc_regionW (qm 4093) [0, 1, 2, 3, 4, 5, 6, 7, 8, 9, 10, 11] rfl rfl ?_
  refine vq rfl rfl (q_loadA ag25 rfl rfl) ?_
  refine ve rfl rfl (e_callF go35 rfl (large6 hB hi6 ho6 (fun b0 => ?_)))
  refine vq rfl rfl (q_move rfl) ?_
  refine vgrp [3, 4, 5, 6] [7, 8, 9, 10, 11] [37, 38, 39] 40 (.v (.bool (b0 || decide ((20 : Int) < sc.length)))) ?_ ?_
  ·
    by_cases hg2 : b0 = true
    ·
      refine g_skip rfl rfl rfl (by first | (rw [hg2]; simp; done) | (intro e; have e2 := Value.bool.inj e; rw [hg2] at e2; cases e2; done) | (simp [hg2]; done) | simp_all) ?_
      refine g_skip rfl rfl rfl (by first | (rw [hg2]; simp; done) | (intro e; have e2 := Value.bool.inj e; rw [hg2] at e2; cases e2; done) | (simp [hg2]; done) | simp_all) ?_
      refine g_skip rfl rfl rfl (by first | (rw [hg2]; simp; done) | (intro e; have e2 := Value.bool.inj e; rw [hg2] at e2; cases e2; done) | (simp [hg2]; done) | simp_all) ?_
      refine vq rfl rfl (q_pickT rfl (by first | exact hg2 | exact hg2 | (simp [hg2]; done) | simp_all) rfl) ?_
      refine vendW ⟨rfl, congrArg (fun b => some (AV.v (Value.bool b))) (by first | (simp only [hg2]; done) | (simp only [hg2]; rfl) | (simp [hg2]; done) | simp_all), ?_⟩
      repeat (first | exact Same.refl | refine Same.upd rfl ?_)
    ·
      refine gq_run rfl rfl rfl rfl (congrArg Value.bool (eq_false_of_ne_true hg2)) (q_move rfl) ?_
      refine gq_run rfl rfl rfl rfl (congrArg Value.bool (eq_false_of_ne_true hg2)) (q_len sl26 rfl (by first | exact lenM | rfl)) ?_
      refine gq_run rfl rfl rfl rfl (congrArg Value.bool (eq_false_of_ne_true hg2)) (q_gt rfl rfl) ?_
      refine vq rfl rfl (q_pickF rfl (by first | exact (eq_false_of_ne_true hg2) | exact hg2 | (simp [hg2]; done) | simp_all) rfl) ?_
      refine vendW ⟨rfl, congrArg (fun b => some (AV.v (Value.bool b))) (by first | (simp only [eq_false_of_ne_true hg2]; done) | (simp only [eq_false_of_ne_true hg2]; rfl) | (simp [hg2]; done) | simp_all), ?_⟩
      repeat (first | exact Same.refl | refine Same.upd rfl ?_)
  refine vq rfl rfl (q_move rfl) ?_
  refine vgrp [8, 9, 10] [11] [42, 43] 44 (.v (.bool ((b0 || decide ((20 : Int) < sc.length)) || decide ((1000 : Int) < c)))) ?_ ?_
  ·
    by_cases hg7 : (b0 || decide ((20 : Int) < sc.length)) = true
    ·
      refine g_skip rfl rfl rfl (by first | (rw [hg7]; simp; done) | (intro e; have e2 := Value.bool.inj e; rw [hg7] at e2; cases e2; done) | (simp [hg7]; done) | simp_all) ?_
      refine g_skip rfl rfl rfl (by first | (rw [hg7]; simp; done) | (intro e; have e2 := Value.bool.inj e; rw [hg7] at e2; cases e2; done) | (simp [hg7]; done) | simp_all) ?_
      refine vq rfl rfl (q_pickT rfl (by first | exact hg7 | exact hg7 | (simp [hg7]; done) | simp_all) rfl) ?_
      refine vendW ⟨rfl, congrArg (fun b => some (AV.v (Value.bool b))) (by first | (simp only [hg7]; done) | (simp only [hg7]; rfl) | (simp [hg7]; done) | simp_all), ?_⟩
      repeat (first | exact Same.refl | refine Same.upd rfl ?_)
    ·
      refine gq_run rfl rfl rfl rfl (congrArg Value.bool (eq_false_of_ne_true hg7)) (q_move rfl) ?_
      refine gq_run rfl rfl rfl rfl (congrArg Value.bool (eq_false_of_ne_true hg7)) (q_gt rfl rfl) ?_
      refine vq rfl rfl (q_pickF rfl (by first | exact (eq_false_of_ne_true hg7) | exact hg7 | (simp [hg7]; done) | simp_all) rfl) ?_
      refine vendW ⟨rfl, congrArg (fun b => some (AV.v (Value.bool b))) (by first | (simp only [eq_false_of_ne_true hg7]; done) | (simp only [eq_false_of_ne_true hg7]; rfl) | (simp [hg7]; done) | simp_all), ?_⟩
      repeat (first | exact Same.refl | refine Same.upd rfl ?_)
  refine vq rfl rfl (q_assign rfl) ?_
  refine vendW ?_
  refine vc_ret ?_
  exact ret1 rfl rfl (Le.refl _) (Cv.le (Le.refl _) _) (hk _)
end Go.Proofs.Ytpcpdepfnoijoaa

set_option linter.unusedVariables false
set_option linter.unusedSimpArgs false
set_option maxRecDepth 100000
namespace Go.Proofs.Ytpcpdepfnoijoaa
open Go.Vc
theorem take_getD {α : Type} [Inhabited α] {l : List α} {k i : Nat} (h : i < k) : (l.take k).getD i default = l.getD i default := by
  simp [List.getD_eq_getElem?_getD, List.getElem?_take, h]
theorem vAtN_take {n : Net} {sc : List (List (List Int))} {k : Nat} : ∀ i, i ≤ k → vAtN n (sc.take k) i = vAtN n sc i
  | 0, _ => rfl
  | i + 1, h => by rw [vAtN, vAtN, vAtN_take i (by omega), take_getD (by omega)]
theorem outsN_get {n : Net} {sc : List (List (List Int))} {m i : Nat} (h : i < m) : (outsN n sc m).getD i default = outAt n sc i := by
  simp [outsN, List.getD_eq_getElem?_getD, h]
theorem outAt_take {n : Net} {sc : List (List (List Int))} {k i : Nat} (h : i < k) : outAt n (sc.take k) i = outAt n sc i := by
  unfold outAt; rw [vAtN_take i (by omega), take_getD h]
theorem fitsAll_take {n : Net} {sc : List (List (List Int))} (k : Nat) (h : fitsAll n sc = true) : fitsAll n (sc.take k) = true := by
  unfold fitsAll at h ⊢
  rw [List.all_eq_true] at h ⊢
  intro i hi
  simp at hi
  rw [take_getD (by omega)]
  exact h i (by simp; omega)
theorem ScB.take {sc : List (List (List Int))} (h : ScB sc) (k : Nat) : ScB (sc.take k) := ⟨by have := h.ln; simp; omega, fun x hx => h.it x (List.mem_of_mem_take hx)⟩
theorem outAt_len (n : Net) (sc : List (List (List Int))) (i : Nat) : (outAt n sc i).length = n.outs.length := by simp [outAt, peekN]
theorem outAt_pt {n : Net} {sc : List (List (List Int))} {i : Nat} (hB : NetB n) : ∀ l ∈ outAt n sc i, l.length < 2^60 := by
  intro l hl
  unfold outAt peekN at hl
  obtain ⟨p, hp, rfl⟩ := List.mem_map.1 hl
  have := hB.bits p (by simp [hp])
  unfold outP
  have h2 := natAdd_len (outG p.bits (lookV n (orderN n) (vAtN n sc i) (sc.getD i default)) (List.replicate ((p.bits.length + 31) / 32) 0) p.bits.length) []
  rw [outG_len, List.length_replicate, List.length_nil] at h2
  omega
theorem ALe.of_eq {a b : AV} (h : a = b) : ALe a b := h ▸ ALe.refl a
theorem run_good {n : Net} {sc : List (List (List Int))} {s : St} {K : AV → St → Prop} (hB : NetB n) (hG : errN n = 0 ∧ fitsAll n sc = true) (hsc : ScB sc) (hk : K (.tup [scriptA (outsN n sc sc.length), .int 0]) s) :
    CallsA Try.prog 12 [netA n, scriptA sc] s K := run_ok hB hG.1 hsc (fun _ => hk) (fun h => by rw [hG.2] at h; cases h)
theorem run_bad {n : Net} {sc : List (List (List Int))} {s : St} {K : AV → St → Prop} (hB : NetB n) (hG : ¬ (errN n = 0 ∧ fitsAll n sc = true)) (hsc : ScB sc) (hk : ∀ e : Int, e ≠ 0 → K (.tup [scriptA [], .int e]) s) :
    CallsA Try.prog 12 [netA n, scriptA sc] s K := by
  by_cases hE : errN n = 0
  · exact run_ok hB hE hsc (fun h => absurd ⟨hE, h⟩ hG) (fun _ => hk 5 (by decide))
  · exact run_no hB hE (hk _ hE)
theorem simWhole_a {n : Net} {sc : List (List (List Int))} {m : Int} {s : St} {K : AV → St → Prop} (haw : ∀ (s : St) (K : AV → St → Prop), K (.bool true) s → CallsA Try.prog 10 [] s K) (hB : NetB n) (hi6 : n.ins.length ≤ 1048576) (ho6 : n.outs.length ≤ 1048576) (hsc : ScB2 sc) (hm : 0 ≤ m ∧ m ≤ 255) (hpos : 0 < sc.length) (hk : K (.bool true) s) : CallsA Try.prog 3 [netA n, scriptA sc, .v (.int .u8 m)] s K := by
  have hb1 := hsc.b1
  have hmm : 0 ≤ m % (sc.length : Int) ∧ m % (sc.length : Int) < sc.length := ⟨Int.emod_nonneg _ (by omega), Int.emod_lt_of_pos _ (by omega)⟩
  obtain ⟨k, hkm⟩ := Int.eq_ofNat_of_zero_le hmm.1
  have hkl : k < sc.length := by omega
  refine callsA_of Try.func3 rfl rfl (Nat.le_of_ble_eq_true rfl) ?_
  refine vc_seq ?_
  refine vc_regionW (qm 3) [0, 1] rfl rfl ?_
  refine vq rfl rfl (q_box rfl rfl) ?_
  refine vq rfl rfl (q_assign rfl) ?_
  refine vendW ?_
  refine vc_seq ?_
  refine vc_seq ?_
  refine vc_regionW (qm 2) [0, 1] rfl rfl ?_
  refine ve rfl rfl (e_callF go10 rfl (haw _ _ ?_))
  refine vq rfl rfl (q_not rfl) ?_
  refine vendW ?_
  refine vc_condF rfl rfl ?_
  refine vc_skip ?_
  refine vc_seq ?_
  refine vc_seq ?_
  refine vc_regionW (qm 3) [0, 1, 2] rfl rfl ?_
  refine vq rfl rfl (q_loadA ag25 rfl rfl) ?_
  refine vq rfl rfl (q_move rfl) ?_
  refine ve rfl rfl (e_callF go11 rfl (large7 hB hi6 ho6 hsc (fun b0 => ?_)))
  refine vendW ?_
  refine vc_cond rfl (fun h17 => ?_) (fun h17 => ?_)
  ·
    refine vc_seq ?_
    refine vc_regionW (qm 1) [0] rfl rfl ?_
    refine vq rfl rfl (q_assign rfl) ?_
    refine vendW ?_
    refine vc_ret ?_
    exact ret1 rfl rfl (Le.refl _) (Cv.le (Le.refl _) _) hk
  refine vc_skip ?_
  refine vc_seq ?_
  by_cases hG : errN n = 0 ∧ fitsAll n sc = true
  ·
    refine vc_regionW (qm 251) [0, 1, 2, 3, 4, 5, 6, 7] rfl rfl ?_
    refine vq rfl rfl (q_loadA ag25 rfl rfl) ?_
    refine vq rfl rfl (q_move rfl) ?_
    refine ve rfl rfl (e_callF go12 rfl (run_good hB hG hsc.toScB ?_))
    refine vq rfl rfl (q_move rfl) ?_
    refine vq rfl rfl (q_extract rfl rfl) ?_
    refine vq rfl rfl (q_extract rfl rfl) ?_
    refine vq rfl rfl (q_assign rfl) ?_
    refine vq rfl rfl (q_assign rfl) ?_
    refine vendW ?_
    refine vc_seq ?_
    refine vc_seq ?_
    refine vc_regionW (qm 3) [0, 1] rfl rfl ?_
    refine vq rfl rfl (q_move rfl) ?_
    refine vq rfl rfl (q_ne rfl rfl) ?_
    refine vendW ?_
    refine vc_condF rfl rfl ?_
    refine vc_skip ?_
    refine vc_seq ?_
    refine vc_regionW (qm 1) [0] rfl rfl ?_
    refine vq rfl rfl (q_assign rfl) ?_
    refine vendW ?_
    refine vc_seq ?_
    refine vc_seq ?_
    refine vc_regionW (qm 7) [0, 1, 2] rfl rfl ?_
    refine vq rfl rfl (q_move rfl) ?_
    refine vq rfl rfl (q_len sl26 rfl (by first | exact lenM | rfl)) ?_
    refine vq rfl rfl (q_gt rfl rfl) ?_
    refine vendW ?_
    refine vc_condT rfl (decide_eq_true (by omega)) ?_
    refine vc_regionW (qm 63) [0, 1, 2, 3, 4, 5] rfl rfl ?_
    refine vq rfl rfl (q_move rfl) ?_
    refine vq rfl rfl (q_conv us5 ik3 rfl (w64 (by omega))) ?_
    refine vq rfl rfl (q_move rfl) ?_
    refine vq rfl rfl (q_len sl26 rfl (by first | exact lenM | rfl)) ?_
    refine vq rfl rfl (q_rem rfl rfl (by omega) (show m.tmod (sc.length : Int) = (k : Int) by rw [Int.tmod_eq_emod_of_nonneg hm.1]; exact hkm)) ?_
    refine vq rfl rfl (q_assign rfl) ?_
    refine vendW ?_
    refine vc_seq ?_
    have hkl2 : (sc.take k).length = k := by rw [List.length_take]; omega
    have hol : (outsN n (sc.take k) (sc.take k).length).length = k := by rw [outsN_len, hkl2]
    refine vc_regionDW mx (qm 1007) [0, 1, 2, 3, 4, 5, 6, 7, 8, 9] (by kernel_rfl) ?_
    refine vq rfl rfl (q_loadA ag25 rfl rfl) ?_
    refine vq rfl rfl (q_move rfl) ?_
    refine vq rfl rfl (q_move rfl) ?_
    refine vq rfl rfl (q_slice sl26 rfl rfl rfl (by omega) (by omega) (by rw [List.length_map]; omega)) ?_
    refine ve rfl rfl (e_callF go12 rfl (CallsA.le (ALes.cons (ALe.refl _) (ALes.cons (ALe.of_eq (by simp)) ALes.nil)) (run_good (sc := sc.take k) hB ⟨hG.1, fitsAll_take k hG.2⟩ (hsc.toScB.take k) ?_)))
    refine vq rfl rfl (q_move rfl) ?_
    refine vq rfl rfl (q_extract rfl rfl) ?_
    refine vq rfl rfl (q_extract rfl rfl) ?_
    refine vq rfl rfl (q_assign rfl) ?_
    refine vq rfl rfl (q_assign rfl) ?_
    refine vendW ?_
    refine vc_seq ?_
    refine vc_seq ?_
    refine vc_regionW (qm 255) [0, 1, 2, 3, 4, 5, 6, 7] rfl rfl ?_
    refine vq rfl rfl (q_move rfl) ?_
    refine vq rfl rfl (q_ne rfl rfl) ?_
    refine vq rfl rfl (q_move rfl) ?_
    refine vgrp [3, 4, 5, 6, 7] [] [48, 49, 50, 51] 52 (.v (.bool (decide ((0 : Int) ≠ 0) || decide (((outsN n (sc.take k) (sc.take k).length).length : Int) ≠ (k : Int))))) ?_ ?_
    ·
      by_cases hg2 : (0 : Int) ≠ 0
      ·
        refine g_skip rfl rfl rfl (by first | (rw [decide_eq_true hg2]; simp; done) | (intro e; have e2 := Value.bool.inj e; rw [decide_eq_true hg2] at e2; cases e2; done) | (simp [hg2]; done) | simp_all) ?_
        refine g_skip rfl rfl rfl (by first | (rw [decide_eq_true hg2]; simp; done) | (intro e; have e2 := Value.bool.inj e; rw [decide_eq_true hg2] at e2; cases e2; done) | (simp [hg2]; done) | simp_all) ?_
        refine g_skip rfl rfl rfl (by first | (rw [decide_eq_true hg2]; simp; done) | (intro e; have e2 := Value.bool.inj e; rw [decide_eq_true hg2] at e2; cases e2; done) | (simp [hg2]; done) | simp_all) ?_
        refine g_skip rfl rfl rfl (by first | (rw [decide_eq_true hg2]; simp; done) | (intro e; have e2 := Value.bool.inj e; rw [decide_eq_true hg2] at e2; cases e2; done) | (simp [hg2]; done) | simp_all) ?_
        refine vq rfl rfl (q_pickT rfl (by first | exact (decide_eq_true hg2) | exact hg2 | (simp [hg2]; done) | simp_all) rfl) ?_
        refine vendW ⟨rfl, congrArg (fun b => some (AV.v (Value.bool b))) (by first | (simp only [decide_eq_true hg2]; done) | (simp only [decide_eq_true hg2]; rfl) | (simp [hg2]; done) | simp_all), ?_⟩
        repeat (first | exact Same.refl | refine Same.upd rfl ?_)
      ·
        refine gq_run rfl rfl rfl rfl (by first | exact congrArg Value.bool (decide_eq_false hg2) | (rw [decide_eq_false hg2]; done) | (simp [hg2]; done) | simp_all) (q_move rfl) ?_
        refine gq_run rfl rfl rfl rfl (by first | exact congrArg Value.bool (decide_eq_false hg2) | (rw [decide_eq_false hg2]; done) | (simp [hg2]; done) | simp_all) (q_len sl26 rfl (by first | exact lenM | rfl)) ?_
        refine gq_run rfl rfl rfl rfl (by first | exact congrArg Value.bool (decide_eq_false hg2) | (rw [decide_eq_false hg2]; done) | (simp [hg2]; done) | simp_all) (q_move rfl) ?_
        refine gq_run rfl rfl rfl rfl (by first | exact congrArg Value.bool (decide_eq_false hg2) | (rw [decide_eq_false hg2]; done) | (simp [hg2]; done) | simp_all) (q_ne rfl rfl) ?_
        refine vq rfl rfl (q_pickF rfl (by first | exact (decide_eq_false hg2) | exact hg2 | (simp [hg2]; done) | simp_all) rfl) ?_
        refine vendW ⟨rfl, congrArg (fun b => some (AV.v (Value.bool b))) (by first | (simp only [decide_eq_false hg2]; done) | (simp only [decide_eq_false hg2]; rfl) | (simp [hg2]; done) | simp_all), ?_⟩
        repeat (first | exact Same.refl | refine Same.upd rfl ?_)
    refine vendW ?_
    refine vc_condF rfl (by simp [outsN_len, hkl2]) ?_
    refine vc_skip ?_
    refine vc_seq ?_
    refine vc_seq ?_
    refine vc_regionW (qm 7) [0, 1, 2] rfl rfl ?_
    refine vq rfl rfl (q_move rfl) ?_
    refine vq rfl rfl (q_len sl26 rfl (by first | exact lenM | rfl)) ?_
    refine vq rfl rfl (q_move rfl) ?_
    refine vendW ?_
    refine vc_block ?_
    refine vc_loopS (α := Nat) [6, 12, 55, 56, 57, 58, 59, 60, 61, 62, 63, 64, 65, 66, 67, 68, 69, 70] (fun i => [(55, .int (i : Int))]) (fun i => s) (fun i => i ≤ k) (fun i => k - i) 0 (by simp) rfl ⟨rfl, trivial⟩ (fun _ => rfl) ?_
    intro i hok
    refine vc_seq ?_
    refine vc_regionW (qm 1) [0] rfl rfl ?_
    refine vq rfl rfl (q_lt rfl rfl) ?_
    refine vendW ?_
    refine vc_seq ?_
    refine vc_condD rfl (fun h => ?_) (fun h => ?_)
    ·
      refine vc_skip ?_
      refine vc_seq ?_
      refine vc_block ?_
      refine vc_seq ?_
      refine vc_regionW (qm 3) [0, 1] rfl rfl ?_
      refine vq rfl rfl (q_move rfl) ?_
      refine vq rfl rfl (q_assign rfl) ?_
      refine vendW ?_
      refine vc_seq ?_
      refine vc_regionDW mx (qm 4095) [0, 1, 2, 3, 4, 5, 6, 7, 8, 9, 10, 11] (by kernel_rfl) ?_
      refine vq rfl rfl (q_move rfl) ?_
      refine vq rfl rfl (q_move rfl) ?_
      refine vq rfl rfl (q_index sl26 rfl rfl (by omega) (nthI (by rw [outsN_len]; omega))) ?_
      refine vq rfl rfl (q_load sc35 rfl) ?_
      refine vq rfl rfl (q_callF go14 rfl (fun s => parts (by rw [outsN_get (by omega), outAt_len]; omega) ⟨rfl, rfl⟩)) ?_
      refine vq rfl rfl (q_move rfl) ?_
      refine vq rfl rfl (q_move rfl) ?_
      refine vq rfl rfl (q_index sl26 rfl rfl (by omega) (nthI (by rw [outsN_len]; omega))) ?_
      refine vq rfl rfl (q_load sc35 rfl) ?_
      refine vq rfl rfl (q_callF go14 rfl (fun s => parts (by rw [outsN_get (by omega), outAt_len]; omega) ⟨rfl, rfl⟩)) ?_
      refine vq rfl rfl (q_callF go13 rfl (fun s => ref07_same (by rw [outsN_get (by omega), outAt_len]; omega) (by rw [outsN_get (by omega)]; exact outAt_pt hB) ⟨rfl, rfl⟩)) ?_
      refine vq rfl rfl (q_not rfl) ?_
      refine vendW ?_
      refine vc_condF rfl (by rw [outsN_get (by omega), outsN_get (by omega), outAt_take (by omega)]; simp) ?_
      refine vc_skip ?_
      refine vc_regionW (qm 3) [0, 1] rfl rfl ?_
      refine vq rfl rfl (q_add rfl rfl (w64 (by omega))) ?_
      refine vq rfl rfl (q_move rfl) ?_
      refine vendW ?_
      refine ⟨i + 1, by omega, by omega, ?_, ⟨rfl, trivial⟩, rfl⟩
      repeat (first | exact Same.refl | refine Same.upd rfl ?_ | refine Same.drop rfl ?_)
    refine vc_exit ?_
    refine vc_seq ?_
    refine vc_regionW (qm 1) [0] rfl rfl ?_
    refine vq rfl rfl (q_assign rfl) ?_
    refine vendW ?_
    refine vc_ret ?_
    exact ret1 rfl rfl (Le.refl _) (Cv.le (Le.refl _) _) hk
  ·
    refine vc_regionW (qm 251) [0, 1, 2, 3, 4, 5, 6, 7] rfl rfl ?_
    refine vq rfl rfl (q_loadA ag25 rfl rfl) ?_
    refine vq rfl rfl (q_move rfl) ?_
    refine ve rfl rfl (e_callF go12 rfl (run_bad hB hG hsc.toScB (fun e he => ?_)))
    refine vq rfl rfl (q_move rfl) ?_
    refine vq rfl rfl (q_extract rfl rfl) ?_
    refine vq rfl rfl (q_extract rfl rfl) ?_
    refine vq rfl rfl (q_assign rfl) ?_
    refine vq rfl rfl (q_assign rfl) ?_
    refine vendW ?_
    refine vc_seq ?_
    refine vc_seq ?_
    refine vc_regionW (qm 3) [0, 1] rfl rfl ?_
    refine vq rfl rfl (q_move rfl) ?_
    refine vq rfl rfl (q_ne rfl rfl) ?_
    refine vendW ?_
    refine vc_condT rfl (decide_eq_true he) ?_
    refine vc_seq ?_
    refine vc_regionW (qm 15) [0, 1, 2, 3] rfl rfl ?_
    refine vq rfl rfl (q_move rfl) ?_
    refine vq rfl rfl (q_len sl26 rfl (by first | exact lenM | rfl)) ?_
    refine vq rfl rfl (q_eq rfl rfl) ?_
    refine vq rfl rfl (q_assign rfl) ?_
    refine vendW ?_
    refine vc_ret ?_
    exact ret1 rfl rfl (Le.refl _) (Cv.le (Le.refl _) _) hk
theorem simWhole_b {n : Net} {sc : List (List (List Int))} {m : Int} {s : St} {K : AV → St → Prop} (haw : ∀ (s : St) (K : AV → St → Prop), K (.bool true) s → CallsA Try.prog 10 [] s K) (hB : NetB n) (hi6 : n.ins.length ≤ 1048576) (ho6 : n.outs.length ≤ 1048576) (hsc : ScB2 sc) (hm : 0 ≤ m ∧ m ≤ 255) (hpos : sc.length = 0) (hk : K (.bool true) s) : CallsA Try.prog 3 [netA n, scriptA sc, .v (.int .u8 m)] s K := by
  have hb1 := hsc.b1
  obtain ⟨k, hkm⟩ : ∃ k : Nat, k = 0 := ⟨0, rfl⟩
  refine callsA_of Try.func3 rfl rfl (Nat.le_of_ble_eq_true rfl) ?_
  refine vc_seq ?_
  refine vc_regionW (qm 3) [0, 1] rfl rfl ?_
  refine vq rfl rfl (q_box rfl rfl) ?_
  refine vq rfl rfl (q_assign rfl) ?_
  refine vendW ?_
  refine vc_seq ?_
  refine vc_seq ?_
  refine vc_regionW (qm 2) [0, 1] rfl rfl ?_
  refine ve rfl rfl (e_callF go10 rfl (haw _ _ ?_))
  refine vq rfl rfl (q_not rfl) ?_
  refine vendW ?_
  refine vc_condF rfl rfl ?_
  refine vc_skip ?_
  refine vc_seq ?_
  refine vc_seq ?_
  refine vc_regionW (qm 3) [0, 1, 2] rfl rfl ?_
  refine vq rfl rfl (q_loadA ag25 rfl rfl) ?_
  refine vq rfl rfl (q_move rfl) ?_
  refine ve rfl rfl (e_callF go11 rfl (large7 hB hi6 ho6 hsc (fun b0 => ?_)))
  refine vendW ?_
  refine vc_cond rfl (fun h17 => ?_) (fun h17 => ?_)
  ·
    refine vc_seq ?_
    refine vc_regionW (qm 1) [0] rfl rfl ?_
    refine vq rfl rfl (q_assign rfl) ?_
    refine vendW ?_
    refine vc_ret ?_
    exact ret1 rfl rfl (Le.refl _) (Cv.le (Le.refl _) _) hk
  refine vc_skip ?_
  refine vc_seq ?_
  by_cases hG : errN n = 0 ∧ fitsAll n sc = true
  ·
    refine vc_regionW (qm 251) [0, 1, 2, 3, 4, 5, 6, 7] rfl rfl ?_
    refine vq rfl rfl (q_loadA ag25 rfl rfl) ?_
    refine vq rfl rfl (q_move rfl) ?_
    refine ve rfl rfl (e_callF go12 rfl (run_good hB hG hsc.toScB ?_))
    refine vq rfl rfl (q_move rfl) ?_
    refine vq rfl rfl (q_extract rfl rfl) ?_
    refine vq rfl rfl (q_extract rfl rfl) ?_
    refine vq rfl rfl (q_assign rfl) ?_
    refine vq rfl rfl (q_assign rfl) ?_
    refine vendW ?_
    refine vc_seq ?_
    refine vc_seq ?_
    refine vc_regionW (qm 3) [0, 1] rfl rfl ?_
    refine vq rfl rfl (q_move rfl) ?_
    refine vq rfl rfl (q_ne rfl rfl) ?_
    refine vendW ?_
    refine vc_condF rfl rfl ?_
    refine vc_skip ?_
    refine vc_seq ?_
    refine vc_regionW (qm 1) [0] rfl rfl ?_
    refine vq rfl rfl (q_assign rfl) ?_
    refine vendW ?_
    refine vc_seq ?_
    refine vc_seq ?_
    refine vc_regionW (qm 7) [0, 1, 2] rfl rfl ?_
    refine vq rfl rfl (q_move rfl) ?_
    refine vq rfl rfl (q_len sl26 rfl (by first | exact lenM | rfl)) ?_
    refine vq rfl rfl (q_gt rfl rfl) ?_
    refine vendW ?_
    refine vc_condF rfl (decide_eq_false (by omega)) ?_
    refine vc_skip ?_
    refine vc_seq ?_
    have hkl2 : (sc.take k).length = k := by rw [List.length_take]; omega
    have hol : (outsN n (sc.take k) (sc.take k).length).length = k := by rw [outsN_len, hkl2]
    refine vc_regionDW mx (qm 1007) [0, 1, 2, 3, 4, 5, 6, 7, 8, 9] (by kernel_rfl) ?_
    refine vq rfl rfl (q_loadA ag25 rfl rfl) ?_
    refine vq rfl rfl (q_move rfl) ?_
    refine vq rfl rfl (q_move rfl) ?_
    refine vq rfl rfl (q_slice sl26 rfl rfl rfl (by omega) (by omega) (by rw [List.length_map]; omega)) ?_
    refine ve rfl rfl (e_callF go12 rfl (CallsA.le (ALes.cons (ALe.refl _) (ALes.cons (ALe.of_eq (by simp [hkm])) ALes.nil)) (run_good (sc := sc.take k) hB ⟨hG.1, fitsAll_take k hG.2⟩ (hsc.toScB.take k) ?_)))
    refine vq rfl rfl (q_move rfl) ?_
    refine vq rfl rfl (q_extract rfl rfl) ?_
    refine vq rfl rfl (q_extract rfl rfl) ?_
    refine vq rfl rfl (q_assign rfl) ?_
    refine vq rfl rfl (q_assign rfl) ?_
    refine vendW ?_
    refine vc_seq ?_
    refine vc_seq ?_
    refine vc_regionW (qm 255) [0, 1, 2, 3, 4, 5, 6, 7] rfl rfl ?_
    refine vq rfl rfl (q_move rfl) ?_
    refine vq rfl rfl (q_ne rfl rfl) ?_
    refine vq rfl rfl (q_move rfl) ?_
    refine vgrp [3, 4, 5, 6, 7] [] [48, 49, 50, 51] 52 (.v (.bool (decide ((0 : Int) ≠ 0) || decide (((outsN n (sc.take k) (sc.take k).length).length : Int) ≠ 0)))) ?_ ?_
    ·
      by_cases hg2 : (0 : Int) ≠ 0
      ·
        refine g_skip rfl rfl rfl (by first | (rw [decide_eq_true hg2]; simp; done) | (intro e; have e2 := Value.bool.inj e; rw [decide_eq_true hg2] at e2; cases e2; done) | (simp [hg2]; done) | simp_all) ?_
        refine g_skip rfl rfl rfl (by first | (rw [decide_eq_true hg2]; simp; done) | (intro e; have e2 := Value.bool.inj e; rw [decide_eq_true hg2] at e2; cases e2; done) | (simp [hg2]; done) | simp_all) ?_
        refine g_skip rfl rfl rfl (by first | (rw [decide_eq_true hg2]; simp; done) | (intro e; have e2 := Value.bool.inj e; rw [decide_eq_true hg2] at e2; cases e2; done) | (simp [hg2]; done) | simp_all) ?_
        refine g_skip rfl rfl rfl (by first | (rw [decide_eq_true hg2]; simp; done) | (intro e; have e2 := Value.bool.inj e; rw [decide_eq_true hg2] at e2; cases e2; done) | (simp [hg2]; done) | simp_all) ?_
        refine vq rfl rfl (q_pickT rfl (by first | exact (decide_eq_true hg2) | exact hg2 | (simp [hg2]; done) | simp_all) rfl) ?_
        refine vendW ⟨rfl, congrArg (fun b => some (AV.v (Value.bool b))) (by first | (simp only [decide_eq_true hg2]; done) | (simp only [decide_eq_true hg2]; rfl) | (simp [hg2]; done) | simp_all), ?_⟩
        repeat (first | exact Same.refl | refine Same.upd rfl ?_)
      ·
        refine gq_run rfl rfl rfl rfl (by first | exact congrArg Value.bool (decide_eq_false hg2) | (rw [decide_eq_false hg2]; done) | (simp [hg2]; done) | simp_all) (q_move rfl) ?_
        refine gq_run rfl rfl rfl rfl (by first | exact congrArg Value.bool (decide_eq_false hg2) | (rw [decide_eq_false hg2]; done) | (simp [hg2]; done) | simp_all) (q_len sl26 rfl (by first | exact lenM | rfl)) ?_
        refine gq_run rfl rfl rfl rfl (by first | exact congrArg Value.bool (decide_eq_false hg2) | (rw [decide_eq_false hg2]; done) | (simp [hg2]; done) | simp_all) (q_move rfl) ?_
        refine gq_run rfl rfl rfl rfl (by first | exact congrArg Value.bool (decide_eq_false hg2) | (rw [decide_eq_false hg2]; done) | (simp [hg2]; done) | simp_all) (q_ne rfl rfl) ?_
        refine vq rfl rfl (q_pickF rfl (by first | exact (decide_eq_false hg2) | exact hg2 | (simp [hg2]; done) | simp_all) rfl) ?_
        refine vendW ⟨rfl, congrArg (fun b => some (AV.v (Value.bool b))) (by first | (simp only [decide_eq_false hg2]; done) | (simp only [decide_eq_false hg2]; rfl) | (simp [hg2]; done) | simp_all), ?_⟩
        repeat (first | exact Same.refl | refine Same.upd rfl ?_)
    refine vendW ?_
    refine vc_condF rfl (by simp [outsN_len, hkl2, hkm]) ?_
    refine vc_skip ?_
    refine vc_seq ?_
    refine vc_seq ?_
    refine vc_regionW (qm 7) [0, 1, 2] rfl rfl ?_
    refine vq rfl rfl (q_move rfl) ?_
    refine vq rfl rfl (q_len sl26 rfl (by first | exact lenM | rfl)) ?_
    refine vq rfl rfl (q_move rfl) ?_
    refine vendW ?_
    refine vc_block ?_
    refine vc_loopS (α := Nat) [6, 12, 55, 56, 57, 58, 59, 60, 61, 62, 63, 64, 65, 66, 67, 68, 69, 70] (fun i => [(55, .int (i : Int))]) (fun i => s) (fun i => i ≤ k) (fun i => k - i) 0 (by simp) rfl ⟨rfl, trivial⟩ (fun _ => rfl) ?_
    intro i hok
    refine vc_seq ?_
    refine vc_regionW (qm 1) [0] rfl rfl ?_
    refine vq rfl rfl (q_lt rfl rfl) ?_
    refine vendW ?_
    refine vc_seq ?_
    refine vc_condD rfl (fun h => ?_) (fun h => ?_)
    ·
      refine vc_skip ?_
      refine vc_seq ?_
      refine vc_block ?_
      refine vc_seq ?_
      refine vc_regionW (qm 3) [0, 1] rfl rfl ?_
      refine vq rfl rfl (q_move rfl) ?_
      refine vq rfl rfl (q_assign rfl) ?_
      refine vendW ?_
      refine vc_seq ?_
      refine vc_regionDW mx (qm 4095) [0, 1, 2, 3, 4, 5, 6, 7, 8, 9, 10, 11] (by kernel_rfl) ?_
      refine vq rfl rfl (q_move rfl) ?_
      refine vq rfl rfl (q_move rfl) ?_
      refine vq rfl rfl (q_index sl26 rfl rfl (by omega) (nthI (by rw [outsN_len]; omega))) ?_
      refine vq rfl rfl (q_load sc35 rfl) ?_
      refine vq rfl rfl (q_callF go14 rfl (fun s => parts (by rw [outsN_get (by omega), outAt_len]; omega) ⟨rfl, rfl⟩)) ?_
      refine vq rfl rfl (q_move rfl) ?_
      refine vq rfl rfl (q_move rfl) ?_
      refine vq rfl rfl (q_index sl26 rfl rfl (by omega) (nthI (by rw [outsN_len]; omega))) ?_
      refine vq rfl rfl (q_load sc35 rfl) ?_
      refine vq rfl rfl (q_callF go14 rfl (fun s => parts (by rw [outsN_get (by omega), outAt_len]; omega) ⟨rfl, rfl⟩)) ?_
      refine vq rfl rfl (q_callF go13 rfl (fun s => ref07_same (by rw [outsN_get (by omega), outAt_len]; omega) (by rw [outsN_get (by omega)]; exact outAt_pt hB) ⟨rfl, rfl⟩)) ?_
      refine vq rfl rfl (q_not rfl) ?_
      refine vendW ?_
      refine vc_condF rfl (by rw [outsN_get (by omega), outsN_get (by omega), outAt_take (by omega)]; simp) ?_
      refine vc_skip ?_
      refine vc_regionW (qm 3) [0, 1] rfl rfl ?_
      refine vq rfl rfl (q_add rfl rfl (w64 (by omega))) ?_
      refine vq rfl rfl (q_move rfl) ?_
      refine vendW ?_
      refine ⟨i + 1, by omega, by omega, ?_, ⟨rfl, trivial⟩, rfl⟩
      repeat (first | exact Same.refl | refine Same.upd rfl ?_ | refine Same.drop rfl ?_)
    refine vc_exit ?_
    refine vc_seq ?_
    refine vc_regionW (qm 1) [0] rfl rfl ?_
    refine vq rfl rfl (q_assign rfl) ?_
    refine vendW ?_
    refine vc_ret ?_
    exact ret1 rfl rfl (Le.refl _) (Cv.le (Le.refl _) _) hk
  ·
    refine vc_regionW (qm 251) [0, 1, 2, 3, 4, 5, 6, 7] rfl rfl ?_
    refine vq rfl rfl (q_loadA ag25 rfl rfl) ?_
    refine vq rfl rfl (q_move rfl) ?_
    refine ve rfl rfl (e_callF go12 rfl (run_bad hB hG hsc.toScB (fun e he => ?_)))
    refine vq rfl rfl (q_move rfl) ?_
    refine vq rfl rfl (q_extract rfl rfl) ?_
    refine vq rfl rfl (q_extract rfl rfl) ?_
    refine vq rfl rfl (q_assign rfl) ?_
    refine vq rfl rfl (q_assign rfl) ?_
    refine vendW ?_
    refine vc_seq ?_
    refine vc_seq ?_
    refine vc_regionW (qm 3) [0, 1] rfl rfl ?_
    refine vq rfl rfl (q_move rfl) ?_
    refine vq rfl rfl (q_ne rfl rfl) ?_
    refine vendW ?_
    refine vc_condT rfl (decide_eq_true he) ?_
    refine vc_seq ?_
    refine vc_regionW (qm 15) [0, 1, 2, 3] rfl rfl ?_
    refine vq rfl rfl (q_move rfl) ?_
    refine vq rfl rfl (q_len sl26 rfl (by first | exact lenM | rfl)) ?_
    refine vq rfl rfl (q_eq rfl rfl) ?_
    refine vq rfl rfl (q_assign rfl) ?_
    refine vendW ?_
    refine vc_ret ?_
    exact ret1 rfl rfl (Le.refl _) (Cv.le (Le.refl _) _) hk
end Go.Proofs.Ytpcpdepfnoijoaa

set_option linter.unusedVariables false
set_option linter.unusedSimpArgs false
namespace Go.Vc
def YldA (P : Program) (l : Nat) (vals : List Value) (ctx : List AV) (avs : List AV) (s : St) (K : AV → St → Prop) : Prop :=
  ∀ w vs, Sat w s → RepL w (Mut s) avs vs → RepL w (Mut s) ctx vals → YieldAt (FW none) 0 P l vs.toArray w (EndOK w s K)
theorem YldA.mono {P : Program} {l : Nat} {vals : List Value} {ctx : List AV} {avs : List AV} {s : St} {K K' : AV → St → Prop} (h : YldA P l vals ctx avs s K) (hk : ∀ r s, K r s → K' r s) : YldA P l vals ctx avs s K' :=
  fun w vs hs hr hc => by
    obtain ⟨fn, tmps, assign, body, h1, h2⟩ := h w vs hs hr hc
    exact ⟨fn, tmps, assign, body, h1, h2.mono (EndOK.mono hk)⟩
section
variable {P : Program} {env : Env} {s : St} {d : Option Nat} {ty : TypeId} {pos : String} {af : Array Edge} {gd : Option (Nat × Bool)}
variable {K : AV → St → Prop}
theorem e_yield {l : Nat} {vals : List Value} {ctx : List AV} {fo : Operand} {al : List Operand} {ts : Array TypeId} {avs : List AV} (hf : evA env fo = some (.yld l vals ctx)) (hal : evL env al = some avs)
    (h : YldA P l vals ctx avs s K) : EffOK P ⟨d, .call ⟨.value fo, al.toArray, ts⟩, ty, pos, af, gd⟩ env s K := by
  intro w ρ hs hr
  obtain ⟨h1, h2⟩ := hr.1 fo (by simp [Op.operands, Call.operands]) _ hf
  have h4 := evL_rep (ρ := ρ) (fun c hc y hy => hr.1 c (by simp [Op.operands, Call.operands, hc]) y hy) hal
  obtain ⟨fn, tmps, assign, body, h5, h6⟩ := h w _ hs h4 h2
  have hrun : (execOp ρ ⟨d, .call ⟨.value fo, al.toArray, ts⟩, ty, pos, af, gd⟩).run P w = .ok (.round l fn tmps assign body) w := by
    simp [execOp, resolve, h1, Deferred.ofValue, invoke, h5]
  rw [hrun]
  exact h6
end
def setP (env : Env) : List Nat → List AV → Env
  | p :: ps, x :: xs => setP (upd env p x) ps xs
  | _, _ => env
theorem setP_ok {cx : Cx} {w : World} {M : Mset} {N : Nat} : ∀ (ps : List Nat) (xs : List AV) (us : List Value) (env : Env) (a : Act), EnvOK cx w M N env a → RepL w M xs us → (∀ p ∈ ps, p < N) → ps.length = xs.length →
    EnvOK cx w M N (setP env ps xs) { a with tmps := (ps.zip us).foldl (fun t (x : Nat × Value) => t.setIfInBounds x.1 x.2) a.tmps }
  | [], [], us, env, a, h, hr, _, _ => by cases hr; exact h
  | p :: ps, x :: xs, us, env, a, h, ⟨u, us', e, h1, h2⟩, hp, hl => by
    subst e
    simp only [setP, List.zip_cons_cons, List.foldl_cons]
    exact setP_ok ps xs us' (upd env p x) { a with tmps := a.tmps.setIfInBounds p u } (EnvOK.put (d := some p) h (fun i hi => by cases hi; exact hp p (by simp)) h1) h2 (fun q hq => hp q (by simp [hq])) (by simpa using hl)
def ctxOf (N : Nat) (env : Env) : List AV := (List.range N).map fun i => (env i).getD .any
theorem ctx_rep {w : World} {M : Mset} {env : Env} {ts : Array Value} (h : ∀ i x, env i = some x → Rep w M x (ts.getD i undef)) : ∀ (n k : Nat), RepL w M ((List.range' k n).map fun i => (env i).getD .any) ((List.range' k n).map fun i => ts.getD i undef)
  | 0, k => rfl
  | n + 1, k => by
    simp only [List.range'_succ, List.map_cons]
    refine ⟨_, _, rfl, ?_, ctx_rep h n (k + 1)⟩
    cases he : env k with
    | none => trivial
    | some x => exact h k x he
theorem rep_ctx {w : World} {M : Mset} {env : Env} {ts : Array Value} : ∀ (n k : Nat), RepL w M ((List.range' k n).map fun i => (env i).getD .any) ((List.range' k n).map fun i => ts.getD i undef) → ∀ i x, k ≤ i → i < k + n → env i = some x → Rep w M x (ts.getD i undef)
  | 0, k, _, i, x, h1, h2, _ => by omega
  | n + 1, k, h, i, x, h1, h2, hx => by
    simp only [List.range'_succ, List.map_cons] at h
    obtain ⟨u, us, e, h3, h4⟩ := h
    injection e with e1 e2
    subst e1 e2
    rcases Nat.eq_or_lt_of_le h1 with e | hlt
    · subst e; rw [hx] at h3; exact h3
    · exact rep_ctx n (k + 1) h4 i x hlt (by omega) hx
variable {P : Program} {N : Nat} {Q : EQ} {env : Env} {s : St}
def onlyN (K : Env → St → Prop) : EQ
  | .normal => K
  | _ => fun _ _ => False
def Lft (J : Nat → St → Prop) (l : Nat) (o : Obj) (i : Nat) (st' : St) : Prop := ∃ st, J i st ∧ st l = none ∧ st' = upd st l (.raw o)
theorem putObj_size (w : World) (l : Nat) (o : Obj) : (w.putObj l o).heap.size = w.heap.size := by simp [World.putObj]
theorem dead_loop {w : World} {l : Nat} {r : Loop} (h : w.heap[l]? = some (.loop r)) : dead w l := ⟨_, h, .inl ⟨r, rfl⟩⟩
theorem turn_loop {w : World} {l : Nat} {r r' : Loop} {s : St} (hs : Sat w s) (h : w.heap[l]? = some (.loop r)) (hm : ¬ Mut s l) :
    Sat (w.putObj l (.loop r')) s ∧ FrL w (Mut s) (w.putObj l (.loop r')) (Mut s) := by
  have hlt : l < w.heap.size := (Array.getElem?_eq_some_iff.1 h).1
  have ho : ∀ b, b ≠ l → (w.putObj l (.loop r')).heap[b]? = w.heap[b]? := fun b hb => World.putObj_heap_other hb
  have hsame : (w.putObj l (.loop r')).heap[l]? = some (.loop r') := World.putObj_heap_same hlt
  have hf : FrL w (Mut s) (w.putObj l (.loop r')) (Mut s) := ⟨by rw [putObj_size]; exact Nat.le_refl _, fun b hb hmb => by
    by_cases e : b = l
    · subst e; exact .inl (dead_loop h)
    · exact .inr ⟨ho b e, hmb⟩, fun b _ => by
    by_cases e : b = l
    · subst e; simp [World.shape?, hsame, h]
    · unfold World.shape?; rw [ho b e]⟩
  exact ⟨hs.turn hf fun b hb => ho b fun e => hm (e ▸ hb), hf⟩
theorem EnvOK.turn {cx : Cx} {w : World} {l : Nat} {r r' : Loop} {s : St} {a : Act} (he : EnvOK cx w (Mut s) N env a) (h : w.heap[l]? = some (.loop r)) (hf : FrL w (Mut s) (w.putObj l (.loop r')) (Mut s)) :
    EnvOK cx (w.putObj l (.loop r')) (Mut s) N env a := by
  have hlt : l < w.heap.size := (Array.getElem?_eq_some_iff.1 h).1
  have ho : ∀ b, b ≠ l → (w.putObj l (.loop r')).heap[b]? = w.heap[b]? := fun b hb => World.putObj_heap_other hb
  refine ⟨?_, fun k hk => ?_, by rw [putObj_size]; exact he.bs, he.size, fun i x hx => ⟨(he.slot i x hx).1, Rep.monoL hf _ _ (he.slot i x hx).2⟩⟩
  · obtain ⟨Ds, h1, h2, h3⟩ := he.defers
    refine ⟨Ds, h1, h2, fun D hD => ?_⟩
    obtain ⟨g1, g2, g3⟩ := h3 D hD
    exact ⟨g1, (ho D fun e => by subst e; rw [h] at g2; cases g2).trans g2, g3⟩
  · obtain ⟨r0, h1, h2⟩ := he.rnd k hk
    by_cases e : k = l
    · subst e; exact ⟨r', World.putObj_heap_same hlt, h2⟩
    · exact ⟨r0, (ho k e).trans h1, h2⟩
theorem round_ok {ps : List Nat} {assign body : Code} {J : Nat → St → Prop} {i : Nat} {xs : List AV} {l : Nat} {r : Loop} {st : St} {ts : Array Value}
    (hps : ∀ p ∈ ps, p < N) (hts : ts.size = N) (hr1 : r.state = .ready) (hr2 : r.pending = none) (hr3 : r.tmps = ts) (hr4 : r.params = ps.toArray) (hr5 : r.assign = assign) (hr6 : r.body = body) (hlen : xs.length = ps.length)
    (hl : st l = none) (hen : ∀ j x, env j = some x → j < N)
    (hbody : VC P N assign (onlyN fun e s1 => VC P N body (onlyN fun _ s2 => J (i + 1) s2) e s1) (setP env ps xs) st) :
    YldA P l ((List.range' 0 N).map fun i => ts.getD i undef) ((List.range' 0 N).map fun i => (env i).getD .any) xs (upd st l (.raw (.loop r))) (fun x s2 => x = .bool true ∧ Lft J l (.loop r) (i + 1) s2) := by
  intro W vs hs hv hc
  have hlr : W.heap[l]? = some (.loop r) := hs.ok l _ (upd_same _ _ _)
  have hle : Le st (upd st l (.raw (.loop r))) := fun k x hk => by
    by_cases e : k = l
    · subst e; rw [hl] at hk; cases hk
    · rw [upd_ne _ _ e]; exact hk
  have hs0 := hs.le hle
  have hf0 : Fr W (Mut (upd st l (.raw (.loop r)))) W (Mut st) := Fr.of_le hle
  have hm0 : ¬ Mut st l := by
    rintro ⟨k, rk, h1, h2⟩
    have := hs.disj k rk l _ l (hle k rk h1) (upd_same _ _ _) h2 rfl
    subst this; rw [hl] at h1; cases h1
  have hvl := RepL.length hv
  have hy := run_yield (P := P) (args := vs.toArray) hlr (by rw [hr4]; simp [hvl, hlen])
  refine ⟨r.fn, _, r.assign, r.body, hy, roundIn_of_wpIn trivial ?_⟩
  rw [hr5, hr6, hr3, hr4]
  have hlt : l < W.heap.size := (Array.getElem?_eq_some_iff.1 hlr).1
  have hz : (ps.toArray.zip vs.toArray).foldl (fun tmps (t, a) => tmps.setIfInBounds t a) ts = (ps.zip vs).foldl (fun t (x : Nat × Value) => t.setIfInBounds x.1 x.2) ts := by
    rw [← Array.foldl_toList]; simp
  rw [hz]
  have he : EnvOK ⟨some l, W.heap.size⟩ W (Mut st) N (setP env ps xs) { tmps := (ps.zip vs).foldl (fun t (x : Nat × Value) => t.setIfInBounds x.1 x.2) ts, defers := [] } := by
    refine setP_ok ps xs vs env { tmps := ts, defers := [] } ⟨Marks.nil, fun k hk => by cases hk; exact ⟨r, hlr, hm0⟩, Nat.le_refl _, hts, fun j x hx => ?_⟩ (RepL.mono hf0 _ _ hv) hps hlen.symm
    exact ⟨hen j x hx, Rep.mono hf0 _ _ (rep_ctx N 0 hc j x (Nat.zero_le _) (by have := hen j x hx; omega) hx)⟩
  refine wpIn_mono (hbody ⟨some l, W.heap.size⟩ W _ hs0 he) fun e a1 w1 hb => ?_
  obtain ⟨env1, s1, g1, g2, g3, g4⟩ := hb
  cases e with
  | normal =>
    obtain ⟨k1, k2⟩ := g3.keep l hlt hm0
    have hlr1 : w1.heap[l]? = some (.loop r) := k1.trans hlr
    refine ⟨_, run_beginRound hlr1 hr1, ?_⟩
    obtain ⟨t1, t2⟩ := turn_loop (r' := { r with state := .busy }) g2 hlr1 k2
    have hlt1 : l < w1.heap.size := (Array.getElem?_eq_some_iff.1 hlr1).1
    refine wpIn_mono (g4 ⟨some l, W.heap.size⟩ _ _ t1 (g1.turn hlr1 t2)) fun e a3 w3 hb => ?_
    obtain ⟨env3, s3, p1, p2, p3, p4⟩ := hb
    cases e with
    | normal =>
      have hbusy : (w1.putObj l (.loop { r with state := .busy })).heap[l]? = some (.loop { r with state := .busy }) := World.putObj_heap_same hlt1
      obtain ⟨q1, q2⟩ := p3.keep l (by rw [putObj_size]; exact hlt1) k2
      have hlr3 : w3.heap[l]? = some (.loop { r with state := .busy }) := q1.trans hbusy
      have hend := run_endRound (P := P) none hlr3
      have hrr : ({ ({ r with state := .busy } : Loop) with state := if (none : Option Code).isNone then .ready else .done, pending := none } : Loop) = r := by
        cases r; simp at hr1 hr2 ⊢; exact ⟨hr1.symm, hr2.symm⟩
      rw [hrr] at hend
      refine ⟨_, _, hend, .bool true, upd s3 l (.raw (.loop r)), rfl, ?_⟩
      have hlt3 : l < w3.heap.size := (Array.getElem?_eq_some_iff.1 hlr3).1
      have hl4 : (w3.putObj l (.loop r)).heap[l]? = some (.loop r) := World.putObj_heap_same hlt3
      obtain ⟨z1, z2⟩ := p2.take (w' := w3.putObj l (.loop r)) q2 (dead_loop hlr3) (dead_loop hl4) hl4 (putObj_size _ _ _) (fun b hb => World.putObj_heap_other hb)
      have hn3 := p2.none_of q2
      refine ⟨z1, ?_, rfl, s3, p4, hn3, rfl⟩
      have hb1 : ∀ b, b < W.heap.size → ¬ Mut (upd st l (.raw (.loop r))) b → b ≠ l ∧ ¬ Mut st b := fun b hb hm =>
        ⟨fun e => hm ⟨l, _, upd_same _ _ _, e⟩, fun h => hm (h.le hle)⟩
      refine ⟨?_, ?_, ?_, ?_, fun b hb hm => ?_, fun b hb => ?_⟩
      · exact p3.os.trans g3.os
      · exact p3.tape.trans g3.tape
      · exact p3.output.trans g3.output
      · have h1 := g3.size; have h2 := p3.size; rw [putObj_size] at h2; rw [putObj_size]; omega
      · obtain ⟨hbl, hbm⟩ := hb1 b hb hm
        obtain ⟨c1, c2⟩ := g3.keep b hb hbm
        have hs1 := g3.size
        obtain ⟨c3, c4⟩ := p3.keep b (by rw [putObj_size]; omega) c2
        refine ⟨(World.putObj_heap_other hbl).trans (c3.trans ((World.putObj_heap_other hbl).trans c1)), fun hh => ?_⟩
        obtain ⟨j, rj, d1, d2⟩ := hh
        by_cases e : j = l
        · subst e; rw [upd_same] at d1; cases d1; exact hbl d2
        · rw [upd_ne _ _ e] at d1; exact c4 ⟨j, rj, d1, d2⟩
      · have hs1 := g3.size
        have hs3 := p3.size
        rw [putObj_size] at hs3
        have c1 := g3.shape b hb
        have c2 := t2.shape b (by omega)
        have c3 := p3.shape b (by rw [putObj_size]; omega)
        have c4 := z2.shape b (by omega)
        exact c4.trans (c3.trans (c2.trans c1))
    | _ => exact p4.elim
  | _ => exact g4.elim
theorem enter_ok {cx : Cx} {w : World} {a : Act} {ps : List Nat} {assign body : Code} (fn : FuncId) (hs : Sat w s) (he : EnvOK cx w (Mut s) N env a) :
    ∃ l mark r w1, (Instr.enterLoop fn a.tmps ps.toArray assign body (FW cx.ro).round).run P w = .ok (l, mark) w1 ∧
      (r.state = .ready ∧ r.pending = none ∧ r.tmps = a.tmps ∧ r.params = ps.toArray ∧ r.assign = assign ∧ r.body = body) ∧ w1.heap[l]? = some (.loop r) ∧ w.heap.size ≤ l ∧
      Sat w1 s ∧ Fr w (Mut s) w1 (Mut s) ∧ ∃ Ds : List Nat, mark = Ds.map (fun D => { target := .collected D, args := #[] }) ∧ Ds.Nodup ∧ ∀ D ∈ Ds, w.heap.size ≤ D ∧ D ≠ l ∧ w1.heap[D]? = some (.deferred (some [])) := by
  cases hro : cx.ro with
  | none =>
    let r : Loop := { state := .ready, pending := none, fn, tmps := a.tmps, params := ps.toArray, assign, body, defers := w.heap.size }
    obtain ⟨h1, h2⟩ := hs.ext (w' := (w.alloc (.deferred (some []))).alloc (.loop r)) rfl rfl rfl (by simp; omega) (fun b hb => by
      rw [heap_alloc_old _ _ (by simp; omega), heap_alloc_old _ _ hb])
    refine ⟨w.heap.size + 1, _, r, _, run_enterLoop_outer _ _ _ _ _, ⟨rfl, rfl, rfl, rfl, rfl, rfl⟩, ?_, Nat.le_succ _, h1, h2, [w.heap.size], rfl, by simp, ?_⟩
    · have := heap_alloc_new (w.alloc (.deferred (some []))) (.loop r); rwa [World.size_alloc] at this
    · intro D hD
      obtain rfl : D = w.heap.size := by simpa using hD
      refine ⟨Nat.le_refl _, by omega, ?_⟩
      rw [heap_alloc_old _ _ (by simp)]
      exact heap_alloc_new w _
  | some l0 =>
    obtain ⟨r0, g1, g2⟩ := he.rnd l0 hro
    let r : Loop := { state := .ready, pending := none, fn, tmps := a.tmps, params := ps.toArray, assign, body, defers := r0.defers }
    obtain ⟨h1, h2⟩ := hs.ext (w' := w.alloc (.loop r)) rfl rfl rfl (by simp) (fun b hb => heap_alloc_old _ _ hb)
    exact ⟨w.heap.size, _, r, _, run_enterLoop_inner g1 _ _ _ _ _, ⟨rfl, rfl, rfl, rfl, rfl, rfl⟩, heap_alloc_new w _, Nat.le_refl _, h1, h2, [], rfl, List.nodup_nil, by simp⟩
theorem vc_rangeFunc {g : Operand} {ps : List Nat} {assign body : Code} {gf : Nat} {cs : List AV} (J : Nat → St → Prop) (ok : Nat → List AV → Prop) (n : Nat)
    (hgo : isGo P gf = true) (hg : evA env g = some (.clo gf [] cs)) (hps : ps.all (fun p => Nat.blt p N) = true) (h0 : J 0 s)
    (hlen : ∀ i xs, ok i xs → xs.length = ps.length)
    (hbody : ∀ i xs st, J i st → ok i xs → VC P N assign (onlyN fun e s1 => VC P N body (onlyN fun _ s2 => J (i + 1) s2) e s1) (setP env ps xs) st)
    (hit : ∀ l vals ctx o, s l = none → (∀ i xs st', Lft J l o i st' → ok i xs → YldA P l vals ctx xs st' (fun r s2 => r = .bool true ∧ Lft J l o (i + 1) s2)) → CallsA P gf (.yld l vals ctx :: cs) (upd s l (.raw o)) (fun _ s2 => Lft J l o n s2))
    (hk : ∀ st, J n st → Q .normal env st) : VC P N (.rangeFunc g ps.toArray assign body) Q env s := by
  intro cx w a hs he
  have hps' : ∀ p ∈ ps, p < N := fun p hp => by
    have := List.all_eq_true.1 hps p hp
    exact Nat.lt_of_lt_of_le (Nat.lt_succ_self p) (Nat.le_of_ble_eq_true this)
  obtain ⟨us, vs, hgv, hus, hvs⟩ := repOp he g _ hg
  obtain rfl : us = [] := hus
  have hen : ∀ j x, env j = some x → j < N := fun j x hx => (he.slot j x hx).1
  refine wpIn_rangeFunc fun fn _ => ?_
  obtain ⟨l, mark, r, w1, henter, ⟨hr1, hr2, hr3, hr4, hr5, hr6⟩, hl1, hge, hs1, hf1, Ds, hmark, hnd, hDs⟩ := enter_ok (P := P) (ps := ps) (assign := assign) (body := body) fn hs he
  have hml : ¬ Mut s l := fun hm => by have := hs.lt l hm; omega
  have hsl := hs.none_of hml
  have hlt : l < w1.heap.size := (Array.getElem?_eq_some_iff.1 hl1).1
  obtain ⟨hs2, hf2⟩ := hs1.take hml (dead_loop hl1) (dead_loop hl1) hl1 rfl (fun _ _ => rfl)
  refine ⟨l, mark, w1, { target := .fn (.func gf) vs.toArray, args := #[.func (.yield l) #[] #[]] }, w1, gf, (.func (.yield l) #[] #[] :: vs).toArray, w1, henter, ?_, fun _ _ => trivial, ?_, fun e => (by cases e), ?_⟩
  · simp only [resolve, hgv]
    simp [go_sem]
  · simp [invoke, go_sem, run_callFunc hgo]
  · refine CallsIn.fw ?_
    have hcall := hit l ((List.range' 0 N).map fun i => a.tmps.getD i undef) ((List.range' 0 N).map fun i => (env i).getD .any) (.loop r) hsl
      (fun i xs st' ⟨st, j1, j2, j3⟩ hok => by
        subst j3
        exact round_ok hps' he.size hr1 hr2 hr3 hr4 hr5 hr6 (hlen i xs hok) j2 hen (hbody i xs st j1 hok))
    refine Calls.mono (hcall w1 (.func (.yield l) #[] #[] :: vs) hs2 ⟨_, vs, rfl, ⟨rfl, RepL.monoL hf2 _ _ (RepL.mono hf1 _ _ (ctx_rep (fun i x hx => (he.slot i x hx).2) N 0))⟩, RepL.monoL hf2 _ _ (RepL.mono hf1 _ _ hvs)⟩) fun e w3 hend => ?_
    cases e with
    | returned v =>
      obtain ⟨_, s2, q1, q2, q3, st, j1, j2, rfl⟩ := hend
      have hlr : w3.heap[l]? = some (.loop r) := q2.ok l _ (upd_same _ _ _)
      have hle : Le st (upd st l (.raw (.loop r))) := fun k x hk => by
        by_cases e : k = l
        · subst e; rw [j2] at hk; cases hk
        · rw [upd_ne _ _ e]; exact hk
      have hm3 : ¬ Mut st l := by
        rintro ⟨k, rk, h1, h2⟩
        have := q2.disj k rk l _ l (hle k rk h1) (upd_same _ _ _) h2 rfl
        subst this; rw [j2] at h1; cases h1
      obtain ⟨t1, t2⟩ := turn_loop (r' := { r with state := .exhausted }) (q2.le hle) hlr hm3
      have hendl := run_endLoop (P := P) hlr (by rw [hr1]; simp)
      refine ⟨r.pending, _, hendl, ?_⟩
      split
      case h_2 c hc => rw [hr2] at hc; cases hc
      have hnm : ∀ b, ¬ Mut s b → b ≠ l → ¬ Mut (upd s l (.raw (.loop r))) b := by
        rintro b hb hbl ⟨j, rj, d1, d2⟩
        by_cases e : j = l
        · subst e; rw [upd_same] at d1; cases d1; exact hbl d2
        · rw [upd_ne _ _ e] at d1; exact hb ⟨j, rj, d1, d2⟩
      have hf4 : Fr w (Mut s) (w3.putObj l (.loop { r with state := .exhausted })) (Mut st) := by
        refine ⟨q3.os.trans hf1.os, q3.tape.trans hf1.tape, q3.output.trans hf1.output, ?_, fun b hb hm => ?_, fun b hb => ?_⟩
        · have h1 := hf1.size; have h2 := q3.size; rw [putObj_size]; omega
        · obtain ⟨c1, c2⟩ := hf1.keep b hb hm
          have h1 := hf1.size
          have hbl : b ≠ l := by omega
          obtain ⟨c3, c4⟩ := q3.keep b (by omega) (hnm b hm hbl)
          exact ⟨(World.putObj_heap_other hbl).trans (c3.trans c1), fun h => c4 (h.le hle)⟩
        · have h1 := hf1.size
          have h2 := q3.size
          exact (t2.shape b (by omega)).trans ((q3.shape b (by omega)).trans (hf1.shape b hb))
      refine ⟨env, st, ⟨?_, (he.mono hf4).rnd, (he.mono hf4).bs, he.size, (he.mono hf4).slot⟩, t1, hf4, hk st j1⟩
      obtain ⟨Ds0, e1, e2, e3⟩ := (he.mono hf4).defers
      obtain ⟨Ds1, e4, e5, e6⟩ := he.defers
      have hinj : Ds1 = Ds0 := by
        have : Ds1.map (fun D => ({ target := .collected D, args := #[] } : Deferred)) = Ds0.map (fun D => { target := .collected D, args := #[] }) := e4.symm.trans e1
        exact (List.map_inj_right (fun x y hxy => by injection hxy with h1 h2; injection h1)).1 this
      subst hinj
      refine ⟨Ds ++ Ds1, ?_, ?_, fun D hD => ?_⟩
      · simp only [hmark, List.map_append]; rw [e1]
      · rw [List.nodup_append]
        refine ⟨hnd, e2, fun x hx y hy e => ?_⟩
        subst e
        have h1 := (hDs x hx).1
        have h2 := (Array.getElem?_eq_some_iff.1 (e6 x hy).2.1).1
        omega
      · rcases List.mem_append.1 hD with hD | hD
        · obtain ⟨d1, d2, d3⟩ := hDs D hD
          have hDm : ¬ Mut s D := fun hm => by have := hs.lt D hm; omega
          obtain ⟨c3, c4⟩ := q3.keep D (Array.getElem?_eq_some_iff.1 d3).1 (hnm D hDm d2)
          have := he.bs
          exact ⟨by omega, (World.putObj_heap_other d2).trans (c3.trans d3), fun h => c4 (h.le hle)⟩
        · exact e3 D hD
    | panicked c => exact hend.elim
    | outgrown => exact hend.elim
end Go.Vc

set_option linter.unusedVariables false
namespace Go.Vc
theorem ALe.agg {cs ds : List AV} (h : ALes cs ds) : ALe (.agg cs) (.agg ds) := fun w M y ⟨us, h1, h2⟩ => ⟨us, h1, h w M us h2⟩
theorem ALe.tup {cs ds : List AV} (h : ALes cs ds) : ALe (.tup cs) (.tup ds) := fun w M y ⟨us, h1, h2⟩ => ⟨us, h1, h w M us h2⟩
theorem ALe.trans {a b c : AV} (h : ALe a b) (k : ALe b c) : ALe a c := fun w M y hr => k w M y (h w M y hr)
def ARows (xs ys : List (List AV)) (sz : Nat) : Prop := xs.length = ys.length ∧ ∀ w M us, RepRows w M sz xs us → RepRows w M sz ys us
theorem ARows.nil {sz : Nat} : ARows [] [] sz := ⟨rfl, fun _ _ _ h => h⟩
theorem ARows.cons {x y : List AV} {xs ys : List (List AV)} {sz : Nat} (h : ALes x y) (hs : ARows xs ys sz) : ARows (x :: xs) (y :: ys) sz :=
  ⟨by simp [hs.1], fun w M us ⟨u, us', h1, h2, h3, h4⟩ => ⟨u, us', h1, h2, h w M u h3, hs.2 w M us' h4⟩⟩
theorem ARows.refl {xs : List (List AV)} {sz : Nat} : ARows xs xs sz := ⟨rfl, fun _ _ _ h => h⟩
theorem ale_slxR {xs ys : List (List AV)} {sz : Nat} (h : ARows xs ys sz) : ALe (.slx sz xs) (.sl sz ys) := fun w M y ⟨a, us, h1, h2, h3, h4⟩ =>
  ⟨a, _, us, by rw [← h.1]; exact h1, by rw [← h.1]; exact Nat.le_refl _, h2, h.2 w M us h3, h4.imp (fun e => List.eq_nil_of_length_eq_zero (by rw [← h.1, e]; rfl)) id⟩
theorem ale_slR {xs ys : List (List AV)} {sz : Nat} (h : ARows xs ys sz) : ALe (.sl sz xs) (.sl sz ys) := fun w M y ⟨a, c, us, h1, h0, h2, h3, h4⟩ =>
  ⟨a, c, us, by rw [← h.1]; exact h1, by rw [← h.1]; exact h0, h2, h.2 w M us h3, h4.imp (fun e => List.eq_nil_of_length_eq_zero (by rw [← h.1, e]; rfl)) id⟩
section
variable {P : Program} {env : Env} {d : Option Nat} {ty : TypeId} {pos : String} {af : Array Edge} {gd : Option (Nat × Bool)}
variable {a b : Operand} {t t2 : TypeId}
def isPt (P : Program) (t : TypeId) : Bool := match P.underlying t with
  | some (.pointer e) => Nat.beq (P.pointee t) e
  | _ => false
theorem isPt_spec (h : isPt P t = true) : P.underlying t = some (.pointer (P.pointee t)) := by
  unfold isPt at h
  cases hu : P.underlying t with
  | none => simp [hu] at h
  | some q => cases q <;> simp [hu] at h; rw [h]
theorem q_eqP {p : Option Addr} (hT : isPt P t = true) (ha : evA env a = some (.v (.pointer p))) (hb : evA env b = some (.v (.pointer none))) : QOK P ⟨d, .binOp .eql t a b t2, ty, pos, af, gd⟩ env (.v (.bool p.isNone)) :=
  q_of fun w s ρ hs hr => by
    have h1 : ρ a = _ := hr.1 a (by simp [Op.operands]) _ ha
    have h2 : ρ b = _ := hr.1 b (by simp [Op.operands]) _ hb
    refine ⟨.bool p.isNone, ?_, rfl⟩
    have hg : (eqGuard .eql t a b (.pointer p) (.pointer none)).run P w = .ok () w := by
      unfold eqGuard; split <;> simp
    simp only [execOp, h1, h2, Sem.run_bind, hg, Result.andThen_ok, run_eql_pointer_nil w t p (isPt_spec hT)]
    rfl
end
end Go.Vc

set_option linter.unusedVariables false
set_option linter.unusedSimpArgs false
set_option maxRecDepth 100000
namespace Go.Proofs.Ytpcpdepfnoijoaa
open Go.Vc
def netC : Net := ⟨[⟨1, 0, 0, 0⟩, ⟨7, 2, 0, 0⟩, ⟨5, 0, 1, 0⟩], [⟨{ data := #[97] }, [0]⟩], [⟨{ data := #[122] }, [1]⟩]⟩
def scC : List (List (List Int)) := [[[1]], [[1]], [[]], [[1]]]
def netD : Net := ⟨[⟨9, 0, 0, 0⟩], [], []⟩
theorem errC : errN netC = 0 := by decide +kernel
theorem errD : errN netD = 2 := by decide +kernel
theorem fitsC : fitsAll netC scC = true := by decide +kernel
theorem outsC : outsN netC scC 4 = [[[]], [[1]], [[]], [[]]] := by decide +kernel
theorem ordC : orderN netC = [0, 1, 2] := by decide +kernel
theorem netBC : NetB netC := ⟨by decide, by decide, by decide, by decide, by decide⟩
theorem netBD : NetB netD := ⟨by decide, by decide, by decide, by decide, by decide⟩
theorem u32_of {l : List Int} (h : l.all (fun n => decide (0 ≤ n) && decide (n < 4294967296)) = true) : U32 l := fun n hn => by
  have := List.all_eq_true.1 h n hn
  simpa using this
theorem insBC (l : List (List Int)) (h : (decide (l.length < 1000) && l.all fun x => decide (x.length < 1000) && x.all (fun n => decide (0 ≤ n) && decide (n < 4294967296))) = true) : InsB l := by
  simp only [Bool.and_eq_true, decide_eq_true_eq] at h
  refine ⟨by omega, fun x hx => ?_⟩
  have h2 := List.all_eq_true.1 h.2 x hx
  simp only [Bool.and_eq_true, decide_eq_true_eq] at h2
  exact ⟨u32_of h2.2, by omega⟩
theorem scBC : ScB scC := ⟨by decide, fun x hx => insBC x (by
  revert x; decide)⟩
theorem runC {s : St} {K : AV → St → Prop} (hk : K (.tup [scriptA [[[]], [[1]], [[]], [[]]], .int 0]) s) : CallsA Try.prog 12 [netA netC, scriptA scC] s K :=
  run_good netBC ⟨errC, fitsC⟩ scBC (by rw [show scC.length = 4 from rfl, outsC]; exact hk)
theorem netVC : NetV netC (orderN netC) := netV_of netBC errC
theorem simS_step {s : St} {p kv kn e : Nat} {n : Net} {ord v v1 v2 : List Int} (hS : SimS s p kv e n ord v) (hkn : s kn = none) (hl : v2.length = v.length) :
    SimS (upd (upd (upd s kv (.arr e 1 (v1.map eU8))) kn (.arr e 1 (v2.map eU8))) p (simC n ord kn v.length)) p kn e n ord v2 := by
  have hpn : p ≠ kn := ne_none hkn hS.hp
  exact ⟨by rw [hl]; exact upd_same _ _ _, (upd_ne _ _ hpn.symm).trans (upd_same _ _ _), hpn⟩
theorem newC {s : St} {K : AV → St → Prop} (hk : ∀ p kv s2, SimS s2 p kv 5 netC (orderN netC) [0, 0, 0] → Le s s2 → s p = none → s kv = none → K (.tup [ptv p 0, .int 0]) s2) : CallsA Try.prog 44 [netA netC] s K :=
  newSim netBC (fun h => absurd errC h) (fun _ p kv hkv hp hne => hk p kv _ ⟨upd_same _ _ _, (upd_ne _ _ hne.symm).trans (upd_same _ _ _), hne⟩ (((Le.refl s).updN hkv).updN hp) hp hkv)
theorem newD {s : St} {K : AV → St → Prop} (hk : K (.tup [.v (.pointer none), .int 2]) s) : CallsA Try.prog 44 [netA netD] s K :=
  newSim netBD (fun _ => by rw [errD]; exact hk) (fun h => by rw [errD] at h; cases h)
theorem stepN1 {s : St} {K : AV → St → Prop} {p kv : Nat} {v : List Int} (hS : SimS s p kv 5 netC (orderN netC) v) (hl : v.length = 3) (hk : K (.tup [natsA [], .int 5]) s) : CallsA Try.prog 45 [ptv p 0, natsA [[2]]] s K :=
  step_no hS netVC hl (insBC _ (by decide)) (by decide +kernel) hk
theorem peekN1 {s : St} {K : AV → St → Prop} {p kv : Nat} (hS : SimS s p kv 5 netC (orderN netC) [0, 0, 0]) (hk : ∀ s2, SimS s2 p kv 5 netC (orderN netC) [1, 0, 1] → (∀ k, k ≠ kv → s2 k = s k) → K (.tup [natsA [[]], .int 0]) s2) : CallsA Try.prog 46 [ptv p 0, natsA [[1]]] s K :=
  peek hS netVC rfl (insBC _ (by decide)) (fun h => absurd h (by decide +kernel)) (fun _ => by
    rw [show peekN netC (orderN netC) [0, 0, 0] [[1]] = [[]] by decide +kernel, show lookV netC (orderN netC) [0, 0, 0] [[1]] = [1, 0, 1] by decide +kernel]
    exact hk _ (hS.set rfl) (fun k hk => upd_ne _ _ hk))
theorem stepN2 {s : St} {K : AV → St → Prop} {p kv : Nat} (hS : SimS s p kv 5 netC (orderN netC) [1, 0, 1]) (hk : ∀ kn s2, SimS s2 p kn 5 netC (orderN netC) [1, 1, 1] → s kn = none → (∀ k, k ≠ kv → k ≠ kn → k ≠ p → s2 k = s k) → K (.tup [natsA [[]], .int 0]) s2) : CallsA Try.prog 45 [ptv p 0, natsA [[1]]] s K :=
  step_ok hS netVC rfl (insBC _ (by decide)) (by decide +kernel) (fun kn hkn => by
    rw [show peekN netC (orderN netC) [1, 0, 1] [[1]] = [[]] by decide +kernel, show lookV netC (orderN netC) [1, 0, 1] [[1]] = [1, 0, 1] by decide +kernel, show nextG netC [1, 0, 1] netC.nodes.length = [1, 1, 1] by decide +kernel]
    exact hk kn _ (simS_step hS hkn rfl) hkn (fun k h1 h2 h3 => by rw [upd_ne _ _ h3, upd_ne _ _ h2, upd_ne _ _ h1]))
theorem stateN1 {s : St} {K : AV → St → Prop} {p kv : Nat} (hS : SimS s p kv 5 netC (orderN netC) [1, 1, 1]) (hk : K (ints [1]) s) : CallsA Try.prog 47 [ptv p 0] s K :=
  stateS hS netVC rfl (fun i => match i with | 0 => rfl | 1 => rfl | 2 => rfl | _ + 3 => rfl) (by rw [show stateN netC [1, 1, 1] netC.nodes.length = [1] by decide +kernel]; exact hk)
theorem stateN2 {s : St} {K : AV → St → Prop} {p kv : Nat} (hS : SimS s p kv 5 netC (orderN netC) [1, 0, 1]) (hk : K (ints [0]) s) : CallsA Try.prog 47 [ptv p 0] s K :=
  stateS hS netVC rfl (fun i => match i with | 0 => rfl | 1 => rfl | 2 => rfl | _ + 3 => rfl) (by rw [show stateN netC [1, 0, 1] netC.nodes.length = [0] by decide +kernel]; exact hk)
theorem resetN1 {s : St} {K : AV → St → Prop} {p kv : Nat} (hS : SimS s p kv 5 netC (orderN netC) [1, 1, 1]) (hk : ∀ s2, SimS s2 p kv 5 netC (orderN netC) [1, 0, 1] → (∀ k, k ≠ kv → s2 k = s k) → K (.tup []) s2) : CallsA Try.prog 48 [ptv p 0] s K :=
  reset hS netVC rfl (by rw [show rstN netC [1, 1, 1] netC.nodes.length = [1, 0, 1] by decide +kernel]; exact hk _ (hS.set rfl) (fun k hk => upd_ne _ _ hk))
theorem ptT : isPt Try.prog 93 = true := by kernel_rfl
theorem awake7 {s : St} {K : AV → St → Prop} (hk : K (.bool true) s) : CallsA Try.prog 10 [] s K := by
  refine callsA_of Try.func10 rfl rfl (Nat.le_of_ble_eq_true rfl) ?_
  refine vc_seq ?_
  refine vc_regionW (qm 1) [0] rfl rfl ?_
  refine vq rfl rfl (q_assign rfl) ?_
  refine vendW ?_
  refine vc_seq ?_
  refine vc_regionW (qm 2047) [0, 1, 2, 3, 4, 5, 6, 7, 8, 9, 10, 11, 12] rfl rfl ?_
  refine vq rfl rfl (q_build pl89 zr89 rfl rfl) ?_
  refine vq rfl rfl (q_build pl89 zr89 rfl rfl) ?_
  refine vq rfl rfl (q_build pl89 zr89 rfl rfl) ?_
  refine vq rfl rfl (q_buildS sl22 zo89 (by decide) rfl rfl rfl rfl (by decide)) ?_
  refine vq rfl rfl (q_buildS sl40 zo3 (by decide) rfl rfl rfl rfl (by decide)) ?_
  refine vq rfl rfl (q_build pl91 zr91 rfl rfl) ?_
  refine vq rfl rfl (q_buildS sl23 zo91 (by decide) rfl rfl rfl rfl (by decide)) ?_
  refine vq rfl rfl (q_buildS sl40 zo3 (by decide) rfl rfl rfl rfl (by decide)) ?_
  refine vq rfl rfl (q_build pl91 zr91 rfl rfl) ?_
  refine vq rfl rfl (q_buildS sl23 zo91 (by decide) rfl rfl rfl rfl (by decide)) ?_
  refine vq rfl rfl (q_build pl25 zr25 rfl rfl) ?_
  refine ve rfl rfl (e_alloc zr25 (fun k1 hk1 => ?_))
  refine vn rfl rfl (e_storeN sz25 rfl rfl rfl rfl (upd_same _ _ _) rfl ?_)
  refine vendW ?_
  refine vc_frzC (i := 1) hk1 (upd_upd _ _ _ _) rfl ?_
  refine vc_seq ?_
  refine vc_regionW (qm 32255) [0, 1, 2, 3, 4, 5, 6, 7, 8, 9, 10, 11, 12, 13, 14] rfl rfl ?_
  refine vq rfl rfl (q_loadA ag25 rfl rfl) ?_
  refine vq rfl rfl (q_buildS sl61 zo92 (by decide) rfl rfl rfl rfl (by decide)) ?_
  refine vq rfl rfl (q_buildS sl35 zo61 (by decide) rfl rfl rfl rfl (by decide)) ?_
  refine vq rfl rfl (q_buildS sl61 zo92 (by decide) rfl rfl rfl rfl (by decide)) ?_
  refine vq rfl rfl (q_buildS sl35 zo61 (by decide) rfl rfl rfl rfl (by decide)) ?_
  refine vq rfl rfl (q_buildS sl35 zo61 (by decide) rfl rfl rfl rfl (by decide)) ?_
  refine vq rfl rfl (q_buildS sl61 zo92 (by decide) rfl rfl rfl rfl (by decide)) ?_
  refine vq rfl rfl (q_buildS sl35 zo61 (by decide) rfl rfl rfl rfl (by decide)) ?_
  refine vq rfl rfl (q_buildS sl26 zo35 (by decide) rfl rfl rfl rfl (by decide)) ?_
  refine ve rfl rfl (e_callF go12 rfl (CallsA.le (ALes.cons (by repeat (first | exact ALe.refl _ | exact ALes.nil | exact ARows.nil | exact ale_nil _ | refine ALe.agg ?_ | refine ALes.cons ?_ ?_ | refine ale_slxR ?_ | refine ARows.cons ?_ ?_)) (ALes.cons (by repeat (first | exact ALe.refl _ | exact ALes.nil | exact ARows.nil | exact ale_nil _ | refine ALe.agg ?_ | refine ALes.cons ?_ ?_ | refine ale_slxR ?_ | refine ARows.cons ?_ ?_)) ALes.nil)) (runC ?_)))
  refine vq rfl rfl (q_move rfl) ?_
  refine vq rfl rfl (q_extract rfl rfl) ?_
  refine vq rfl rfl (q_extract rfl rfl) ?_
  refine vq rfl rfl (q_assign rfl) ?_
  refine vq rfl rfl (q_assign rfl) ?_
  refine vendW ?_
  refine vc_seq ?_
  refine vc_regionW (qm 125) [0, 1, 2, 3, 4, 5, 6] rfl rfl ?_
  refine vq rfl rfl (q_loadA ag25 rfl rfl) ?_
  refine ve rfl rfl (e_callF go44 rfl (CallsA.le (ALes.cons (by repeat (first | exact ALe.refl _ | exact ALes.nil | exact ARows.nil | exact ale_nil _ | refine ALe.agg ?_ | refine ALes.cons ?_ ?_ | refine ale_slxR ?_ | refine ARows.cons ?_ ?_)) ALes.nil) (newC (fun p kv s2 hS hle hsp hskv => ?_))))
  refine vq rfl rfl (q_move rfl) ?_
  refine vq rfl rfl (q_extract rfl rfl) ?_
  refine vq rfl rfl (q_extract rfl rfl) ?_
  refine vq rfl rfl (q_assign rfl) ?_
  refine vq rfl rfl (q_assign rfl) ?_
  refine vendW ?_
  refine vc_seq ?_
  refine vc_regionW (qm 503) [0, 1, 2, 3, 4, 5, 6, 7, 8] rfl rfl ?_
  refine vq rfl rfl (q_build pl89 zr89 rfl rfl) ?_
  refine vq rfl rfl (q_buildS sl22 zo89 (by decide) rfl rfl rfl rfl (by decide)) ?_
  refine vq rfl rfl (q_build pl25 zr25 rfl rfl) ?_
  refine ve rfl rfl (e_callF go44 rfl (CallsA.le (ALes.cons (by repeat (first | exact ALe.refl _ | exact ALes.nil | exact ARows.nil | exact ale_nil _ | refine ALe.agg ?_ | refine ALes.cons ?_ ?_ | refine ale_slxR ?_ | refine ARows.cons ?_ ?_)) ALes.nil) (newD ?_)))
  refine vq rfl rfl (q_move rfl) ?_
  refine vq rfl rfl (q_extract rfl rfl) ?_
  refine vq rfl rfl (q_extract rfl rfl) ?_
  refine vq rfl rfl (q_assign rfl) ?_
  refine vq rfl rfl (q_assign rfl) ?_
  refine vendW ?_
  refine vc_seq ?_
  refine vc_seq ?_
  refine vc_regionW (qm 16383) [0, 1, 2, 3, 4, 5, 6, 7, 8, 9, 10, 11, 12, 13] rfl rfl ?_
  refine vq rfl rfl (q_move rfl) ?_
  refine vq rfl rfl (q_eqP ptT rfl rfl) ?_
  refine vq rfl rfl (q_move rfl) ?_
  refine gq_run rfl rfl rfl rfl (by first | rfl | (simp; done)) (q_move rfl) ?_
  refine gq_run rfl rfl rfl rfl (by first | rfl | (simp; done)) (q_len sl26 rfl (by first | exact lenM | rfl)) ?_
  refine gq_run rfl rfl rfl rfl (by first | rfl | (simp; done)) (q_ne rfl rfl) ?_
  refine vq rfl rfl (q_pickF rfl (by first | rfl | (simp; done)) rfl) ?_
  refine vq rfl rfl (q_move rfl) ?_
  refine gq_run rfl rfl rfl rfl (by first | rfl | (simp; done)) (q_move rfl) ?_
  refine gq_run rfl rfl rfl rfl (by first | rfl | (simp; done)) (q_index sl26 rfl rfl (by decide) rfl) ?_
  refine gq_run rfl rfl rfl rfl (by first | rfl | (simp; done)) (q_load sc35 rfl) ?_
  refine gq_run rfl rfl rfl rfl (by first | rfl | (simp; done)) (q_len sl35 rfl (by first | exact lenM | rfl)) ?_
  refine gq_run rfl rfl rfl rfl (by first | rfl | (simp; done)) (q_ne rfl rfl) ?_
  refine vq rfl rfl (q_pickF rfl (by first | rfl | (simp; done)) rfl) ?_
  refine vendW ?_
  refine vc_condF rfl rfl ?_
  refine vc_skip ?_
  refine vc_seq ?_
  refine vc_regionW (qm 503) [0, 1, 2, 3, 4, 5, 6, 7, 8] rfl rfl ?_
  refine vq rfl rfl (q_move rfl) ?_
  refine vq rfl rfl (q_buildS sl61 zo92 (by decide) rfl rfl rfl rfl (by decide)) ?_
  refine vq rfl rfl (q_buildS sl35 zo61 (by decide) rfl rfl rfl rfl (by decide)) ?_
  refine ve rfl rfl (e_callF go45 rfl (CallsA.le (ALes.cons (ALe.refl _) (ALes.cons (by repeat (first | exact ALe.refl _ | exact ALes.nil | exact ARows.nil | exact ale_nil _ | refine ALe.agg ?_ | refine ALes.cons ?_ ?_ | refine ale_slxR ?_ | refine ARows.cons ?_ ?_)) ALes.nil)) (stepN1 hS rfl ?_)))
  refine vq rfl rfl (q_move rfl) ?_
  refine vq rfl rfl (q_extract rfl rfl) ?_
  refine vq rfl rfl (q_extract rfl rfl) ?_
  refine vq rfl rfl (q_assign rfl) ?_
  refine vq rfl rfl (q_assign rfl) ?_
  refine vendW ?_
  refine vc_seq ?_
  refine vc_regionW (qm 503) [0, 1, 2, 3, 4, 5, 6, 7, 8] rfl rfl ?_
  refine vq rfl rfl (q_move rfl) ?_
  refine vq rfl rfl (q_buildS sl61 zo92 (by decide) rfl rfl rfl rfl (by decide)) ?_
  refine vq rfl rfl (q_buildS sl35 zo61 (by decide) rfl rfl rfl rfl (by decide)) ?_
  refine ve rfl rfl (e_callF go46 rfl (CallsA.le (ALes.cons (ALe.refl _) (ALes.cons (by repeat (first | exact ALe.refl _ | exact ALes.nil | exact ARows.nil | exact ale_nil _ | refine ALe.agg ?_ | refine ALes.cons ?_ ?_ | refine ale_slxR ?_ | refine ARows.cons ?_ ?_)) ALes.nil)) (peekN1 hS (fun s3 hS3 hp3 => ?_))))
  refine vq rfl rfl (q_move rfl) ?_
  refine vq rfl rfl (q_extract rfl rfl) ?_
  refine vq rfl rfl (q_extract rfl rfl) ?_
  refine vq rfl rfl (q_assign rfl) ?_
  refine vq rfl rfl (q_assign rfl) ?_
  refine vendW ?_
  refine vc_seq ?_
  refine vc_regionW (qm 503) [0, 1, 2, 3, 4, 5, 6, 7, 8] rfl rfl ?_
  refine vq rfl rfl (q_move rfl) ?_
  refine vq rfl rfl (q_buildS sl61 zo92 (by decide) rfl rfl rfl rfl (by decide)) ?_
  refine vq rfl rfl (q_buildS sl35 zo61 (by decide) rfl rfl rfl rfl (by decide)) ?_
  refine ve rfl rfl (e_callF go45 rfl (CallsA.le (ALes.cons (ALe.refl _) (ALes.cons (by repeat (first | exact ALe.refl _ | exact ALes.nil | exact ARows.nil | exact ale_nil _ | refine ALe.agg ?_ | refine ALes.cons ?_ ?_ | refine ale_slxR ?_ | refine ARows.cons ?_ ?_)) ALes.nil)) (stepN2 hS3 (fun kn s4 hS4 hkn hp4 => ?_))))
  refine vq rfl rfl (q_move rfl) ?_
  refine vq rfl rfl (q_extract rfl rfl) ?_
  refine vq rfl rfl (q_extract rfl rfl) ?_
  refine vq rfl rfl (q_assign rfl) ?_
  refine vq rfl rfl (q_assign rfl) ?_
  refine vendW ?_
  refine vc_seq ?_
  refine vc_regionW (qm 5) [0, 1, 2] rfl rfl ?_
  refine vq rfl rfl (q_move rfl) ?_
  refine ve rfl rfl (e_callF go47 rfl (stateN1 hS4 ?_))
  refine vq rfl rfl (q_assign rfl) ?_
  refine vendW ?_
  refine vc_seq ?_
  refine vc_regionW (qm 1) [0, 1] rfl rfl ?_
  refine vq rfl rfl (q_move rfl) ?_
  refine ve rfl rfl (e_callF go48 rfl (resetN1 hS4 (fun s5 hS5 hp5 => ?_)))
  refine vendW ?_
  refine vc_seq ?_
  refine vc_regionDW mx (qm 31658291388557380359744322690514840324496812684955115509000071179890844813636078997800499335839109758668501942530065835436974724391264154875845907853042401051189392749356908543) [0, 1, 2, 3, 4, 5, 6, 7, 8, 9, 10, 11, 12, 13, 14, 15, 16, 17, 18, 19, 20, 21, 22, 23, 24, 25, 26, 27, 28, 29, 30, 31, 32, 33, 34, 35, 36, 37, 38, 39, 40, 41, 42, 43, 44, 45, 46, 47, 48, 49, 50, 51, 52, 53, 54, 55, 56, 57, 58, 59, 60, 61, 62, 63, 64, 65, 66, 67, 68, 69, 70, 71, 72, 73, 74, 75] (by kernel_rfl) ?_
  refine vq rfl rfl (q_move rfl) ?_
  refine vq rfl rfl (q_eq rfl rfl) ?_
  refine vq rfl rfl (q_move rfl) ?_
  refine gq_run rfl rfl rfl rfl (by first | rfl | (simp; done)) (q_move rfl) ?_
  refine gq_run rfl rfl rfl rfl (by first | rfl | (simp; done)) (q_index sl26 rfl rfl (by decide) rfl) ?_
  refine gq_run rfl rfl rfl rfl (by first | rfl | (simp; done)) (q_load sc35 rfl) ?_
  refine gq_run rfl rfl rfl rfl (by first | rfl | (simp; done)) (q_index sl35 rfl rfl (by decide) rfl) ?_
  refine gq_run rfl rfl rfl rfl (by first | rfl | (simp; done)) (q_load sc61 rfl) ?_
  refine gq_run rfl rfl rfl rfl (by first | rfl | (simp; done)) (q_len sl61 rfl (by first | exact lenM | rfl)) ?_
  refine gq_run rfl rfl rfl rfl (by first | rfl | (simp; done)) (q_eq rfl rfl) ?_
  refine vq rfl rfl (q_pickT rfl (by first | rfl | (simp; done)) rfl) ?_
  refine vq rfl rfl (q_move rfl) ?_
  refine gq_run rfl rfl rfl rfl (by first | rfl | (simp; done)) (q_move rfl) ?_
  refine gq_run rfl rfl rfl rfl (by first | rfl | (simp; done)) (q_index sl26 rfl rfl (by decide) rfl) ?_
  refine gq_run rfl rfl rfl rfl (by first | rfl | (simp; done)) (q_load sc35 rfl) ?_
  refine gq_run rfl rfl rfl rfl (by first | rfl | (simp; done)) (q_index sl35 rfl rfl (by decide) rfl) ?_
  refine gq_run rfl rfl rfl rfl (by first | rfl | (simp; done)) (q_load sc61 rfl) ?_
  refine gq_run rfl rfl rfl rfl (by first | rfl | (simp; done)) (q_callF go50 rfl (fun s => of (by decide) (by decide) ⟨rfl, rfl⟩)) ?_
  refine gq_run rfl rfl rfl rfl (by first | rfl | (simp; done)) (q_callF go49 rfl (fun s => CallsA.le (ALes.cons (ALe.refl _) (ALes.cons (ale_slx 1 _) ALes.nil)) (cmp (x := [1]) (y := natTrim [1 % 4294967296, 1 / 4294967296]) (by decide) (by decide) ⟨rfl, rfl⟩))) ?_
  refine gq_run rfl rfl rfl rfl (by first | rfl | (simp; done)) (q_eq rfl rfl) ?_
  refine vq rfl rfl (q_pickT rfl (by first | rfl | (simp; done)) rfl) ?_
  refine vq rfl rfl (q_move rfl) ?_
  refine gq_run rfl rfl rfl rfl (by first | rfl | (simp; done)) (q_move rfl) ?_
  refine gq_run rfl rfl rfl rfl (by first | rfl | (simp; done)) (q_index sl26 rfl rfl (by decide) rfl) ?_
  refine gq_run rfl rfl rfl rfl (by first | rfl | (simp; done)) (q_load sc35 rfl) ?_
  refine gq_run rfl rfl rfl rfl (by first | rfl | (simp; done)) (q_index sl35 rfl rfl (by decide) rfl) ?_
  refine gq_run rfl rfl rfl rfl (by first | rfl | (simp; done)) (q_load sc61 rfl) ?_
  refine gq_run rfl rfl rfl rfl (by first | rfl | (simp; done)) (q_len sl61 rfl (by first | exact lenM | rfl)) ?_
  refine gq_run rfl rfl rfl rfl (by first | rfl | (simp; done)) (q_eq rfl rfl) ?_
  refine vq rfl rfl (q_pickT rfl (by first | rfl | (simp; done)) rfl) ?_
  refine vq rfl rfl (q_move rfl) ?_
  refine gq_run rfl rfl rfl rfl (by first | rfl | (simp; done)) (q_move rfl) ?_
  refine gq_run rfl rfl rfl rfl (by first | rfl | (simp; done)) (q_index sl26 rfl rfl (by decide) rfl) ?_
  refine gq_run rfl rfl rfl rfl (by first | rfl | (simp; done)) (q_load sc35 rfl) ?_
  refine gq_run rfl rfl rfl rfl (by first | rfl | (simp; done)) (q_index sl35 rfl rfl (by decide) rfl) ?_
  refine gq_run rfl rfl rfl rfl (by first | rfl | (simp; done)) (q_load sc61 rfl) ?_
  refine gq_run rfl rfl rfl rfl (by first | rfl | (simp; done)) (q_len sl61 rfl (by first | exact lenM | rfl)) ?_
  refine gq_run rfl rfl rfl rfl (by first | rfl | (simp; done)) (q_eq rfl rfl) ?_
  refine vq rfl rfl (q_pickT rfl (by first | rfl | (simp; done)) rfl) ?_
  refine vq rfl rfl (q_move rfl) ?_
  refine gq_run rfl rfl rfl rfl (by first | rfl | (simp; done)) (q_move rfl) ?_
  refine gq_run rfl rfl rfl rfl (by first | rfl | (simp; done)) (q_eq rfl rfl) ?_
  refine vq rfl rfl (q_pickT rfl (by first | rfl | (simp; done)) rfl) ?_
  refine vq rfl rfl (q_move rfl) ?_
  refine gq_run rfl rfl rfl rfl (by first | rfl | (simp; done)) (q_move rfl) ?_
  refine gq_run rfl rfl rfl rfl (by first | rfl | (simp; done)) (q_eq rfl rfl) ?_
  refine vq rfl rfl (q_pickT rfl (by first | rfl | (simp; done)) rfl) ?_
  refine vq rfl rfl (q_move rfl) ?_
  refine gq_run rfl rfl rfl rfl (by first | rfl | (simp; done)) (q_move rfl) ?_
  refine gq_run rfl rfl rfl rfl (by first | rfl | (simp; done)) (q_eq rfl rfl) ?_
  refine vq rfl rfl (q_pickT rfl (by first | rfl | (simp; done)) rfl) ?_
  refine vq rfl rfl (q_move rfl) ?_
  refine gq_run rfl rfl rfl rfl (by first | rfl | (simp; done)) (q_move rfl) ?_
  refine gq_run rfl rfl rfl rfl (by first | rfl | (simp; done)) (q_len sl35 rfl (by first | exact lenM | rfl)) ?_
  refine gq_run rfl rfl rfl rfl (by first | rfl | (simp; done)) (q_eq rfl rfl) ?_
  refine vq rfl rfl (q_pickT rfl (by first | rfl | (simp; done)) rfl) ?_
  refine vq rfl rfl (q_move rfl) ?_
  refine gq_run rfl rfl rfl rfl (by first | rfl | (simp; done)) (q_move rfl) ?_
  refine gq_run rfl rfl rfl rfl (by first | rfl | (simp; done)) (q_eq rfl rfl) ?_
  refine vq rfl rfl (q_pickT rfl (by first | rfl | (simp; done)) rfl) ?_
  refine vq rfl rfl (q_move rfl) ?_
  refine gq_run rfl rfl rfl rfl (by first | rfl | (simp; done)) (q_move rfl) ?_
  refine gq_run rfl rfl rfl rfl (by first | rfl | (simp; done)) (q_eq rfl rfl) ?_
  refine vq rfl rfl (q_pickT rfl (by first | rfl | (simp; done)) rfl) ?_
  refine vq rfl rfl (q_move rfl) ?_
  refine gq_run rfl rfl rfl rfl (by first | rfl | (simp; done)) (q_move rfl) ?_
  refine gq_run rfl rfl rfl rfl (by first | rfl | (simp; done)) (q_buildS sl40 zo3 (by decide) rfl rfl rfl rfl (by decide)) ?_
  refine gq_run rfl rfl rfl rfl (by first | rfl | (simp; done)) (q_callF go51 rfl (fun s => CallsA.le (ALes.cons (ALe.refl _) (ALes.cons (ale_slx 1 _) ALes.nil)) (ref06_ints (x := [1]) (y := [1]) (by decide) ⟨rfl, rfl⟩))) ?_
  refine vq rfl rfl (q_pickT rfl (by first | rfl | (simp; done)) rfl) ?_
  refine vq rfl rfl (q_move rfl) ?_
  refine gq_run rfl rfl rfl rfl (by first | rfl | (simp; done)) (q_move rfl) ?_
  refine gr_run rfl rfl rfl rfl rfl (by first | rfl | (simp; done)) (e_callF go47 rfl (stateN2 hS5 ⟨rfl, rfl⟩)) ?_
  refine gq_run rfl rfl rfl rfl (by first | rfl | (simp; done)) (q_buildS sl40 zo3 (by decide) rfl rfl rfl rfl (by decide)) ?_
  refine gq_run rfl rfl rfl rfl (by first | rfl | (simp; done)) (q_callF go51 rfl (fun s => CallsA.le (ALes.cons (ALe.refl _) (ALes.cons (ale_slx 1 _) ALes.nil)) (ref06_ints (x := [0]) (y := [0]) (by decide) ⟨rfl, rfl⟩))) ?_
  refine vq rfl rfl (q_pickT rfl (by first | rfl | (simp; done)) rfl) ?_
  refine vq rfl rfl (q_assign rfl) ?_
  refine vendW ?_
  refine vc_ret ?_
  have hLe : Le s s5 := fun i r hi => by
    have h2 := hle i r hi
    have e1 : i ≠ p := fun e => by subst e; rw [hsp] at hi; cases hi
    have e2 : i ≠ kv := fun e => by subst e; rw [hskv] at hi; cases hi
    have h3 := (hp3 i e2).trans h2
    have e3 : i ≠ kn := fun e => by subst e; rw [hkn] at h3; cases h3
    exact (hp5 i e3).trans ((hp4 i e2 e3 e1).trans h3)
  exact ret1 rfl rfl hLe (Cv.le hLe _) hk
theorem simWhole_true {n : Net} {sc : List (List (List Int))} {m : Int} {s : St} {K : AV → St → Prop} (hB : NetB n) (hi6 : n.ins.length ≤ 1048576) (ho6 : n.outs.length ≤ 1048576) (hsc : ScB2 sc) (hm : 0 ≤ m ∧ m ≤ 255) (hk : K (.bool true) s) :
    CallsA Try.prog 3 [netA n, scriptA sc, .v (.int .u8 m)] s K := by
  rcases Nat.eq_zero_or_pos sc.length with h | h
  · exact simWhole_b (fun s K h => awake7 h) hB hi6 ho6 hsc hm h hk
  · exact simWhole_a (fun s K h => awake7 h) hB hi6 ho6 hsc hm h hk
end Go.Proofs.Ytpcpdepfnoijoaa

set_option linter.unusedVariables false
namespace Go.Vc
def noM : Mset := fun _ => False
abbrev TrodE {H : Type} (enc : TypeId × Value → H) (P : Program) (w : World) (fuel : Nat) (t : TypeId) (cs : List Value) : Option (DataW H × List MemPlace) := DataW.trod enc P w 0 (fun _ => true) true fuel t cs
structure Blk (μ : (H : Type) → DataW H → Nat) : Prop where
  one : ∀ H d, 1 ≤ μ H d
  slice : ∀ H (es sp : List (DataW H)), (es.map (μ H)).sum + 1 ≤ μ H (.slice es sp)
  agg : ∀ H (ps : List (DataW H)), (ps.map (μ H)).sum + 1 ≤ μ H (.agg ps)
  str : ∀ H b, b.length + 1 ≤ μ H (.lit (.string b))
def Rdr (μ : (H : Type) → DataW H → Nat) (P : Program) (t : TypeId) {α : Type} (f : α → List AV) (G : Nat → α → Prop) : Prop :=
  ∀ (H : Type) (enc : TypeId × Value → H) (w : World) (fuel : Nat) (cs : List Value) (x : DataW H × List MemPlace), TrodE enc P w fuel t cs = some x →
    ∃ a : α, RepL w noM (f a) cs ∧ G (μ H x.1) a
theorem Rdr.mono {μ : (H : Type) → DataW H → Nat} {P : Program} {t : TypeId} {α β : Type} {f : α → List AV} {g : β → List AV} {G : Nat → α → Prop} {G' : Nat → β → Prop} (h : Rdr μ P t f G) (hm : ∀ b a, G b a → ∃ c : β, g c = f a ∧ G' b c) : Rdr μ P t g G' := by
  intro H enc w fuel cs x hx
  obtain ⟨a, h1, h2⟩ := h H enc w fuel cs x hx
  obtain ⟨c, h3, h4⟩ := hm _ _ h2
  exact ⟨c, by rw [h3]; exact h1, h4⟩
theorem rdr_int {μ : (H : Type) → DataW H → Nat} {P : Program} {t : TypeId} {k : IntKind} (hu : P.underlying t = some (.int k)) : Rdr μ P t (fun n : Int => [.v (.int k n)]) (fun _ n => (Lit.int k n).wf = true) := by
  intro H enc w fuel cs x hx
  obtain ⟨n, rfl, _, hw⟩ := DataW.trod_int hu hx
  exact ⟨n, ⟨_, [], rfl, rfl, rfl⟩, hw⟩
theorem rdr_bool {μ : (H : Type) → DataW H → Nat} {P : Program} {t : TypeId} (hu : P.underlying t = some .bool) : Rdr μ P t (fun b : Bool => [.v (.bool b)]) (fun _ _ => True) := by
  intro H enc w fuel cs x hx
  obtain ⟨n, rfl, _⟩ := DataW.trod_bool hu hx
  exact ⟨n, ⟨_, [], rfl, rfl, rfl⟩, trivial⟩
theorem rdr_str {μ : (H : Type) → DataW H → Nat} (hb : Blk μ) {P : Program} {t : TypeId} (hu : P.underlying t = some .string) : Rdr μ P t (fun b : ByteArray => [.v (.string b)]) (fun n b => b.size + 1 ≤ n) := by
  intro H enc w fuel cs x hx
  obtain ⟨s, rfl, rfl, hs⟩ := DataW.trod_string hu hx
  exact ⟨s, ⟨_, [], rfl, rfl, rfl⟩, by have := hb.str H s.data.toList; simpa using this⟩
theorem cells_get {w : World} {a : Addr} {n : Nat} {cs : List Value} (h : w.cells? 0 a n = some cs) : cs.length = n ∧ ∀ i v, cs[i]? = some v → w.cell? (a.add i) = some v := by
  unfold World.cells? at h
  rw [if_pos (Nat.zero_le _)] at h
  have hl := mapM_some_length h
  have hl' : cs.length = n := by simpa using hl
  refine ⟨hl', fun i v hi => ?_⟩
  have hlt : i < n := by rw [← hl']; exact (List.getElem?_eq_some_iff.1 hi).1
  have := mapM_some_get h i i (by simp [hlt])
  rw [this]; exact hi
theorem spot_none {w : World} {a : Addr} {v : Value} (h : w.cell? a = some v) : a.spot = none := by
  unfold World.cell? at h
  split at h
  · split at h
    · cases h
    · rename_i hs; simpa using hs
  · cases h
theorem sum_ge {α : Type} {g : α → Nat} (h1 : ∀ a, 1 ≤ g a) : ∀ (l : List α), l.length ≤ (l.map g).sum ∧ ∀ a ∈ l, g a ≤ (l.map g).sum
  | [] => by simp
  | a :: l => by
    obtain ⟨h2, h3⟩ := sum_ge h1 l
    have := h1 a
    refine ⟨by simp; omega, fun b hb => ?_⟩
    rcases List.mem_cons.1 hb with rfl | hb
    · simp
    · have := h3 b hb; simp; omega
def GS {α : Type} (G : Nat → α → Prop) : Nat → List α → Prop := fun b l => l.length + 1 ≤ b ∧ ∀ a ∈ l, ∃ c, c < b ∧ G c a
theorem rdr_slice {μ : (H : Type) → DataW H → Nat} (hb : Blk μ) {P : Program} {t e : TypeId} {sz : Nat} {α : Type} {f : α → List AV} {G : Nat → α → Prop} (hu : P.underlying t = some (.slice e)) (hsz : P.cellsOf e = sz) (hs0 : 0 < sz) (hr : Rdr μ P e f G) :
    Rdr μ P t (fun l : List α => [.sl sz (l.map f)]) (GS G) := by
  subst hsz
  intro H enc w fuel cs x hx
  rcases DataW.trod_slice hu hx with ⟨rfl, rfl⟩ | ⟨⟨b, off, sp⟩, len, cap, elems, rest, n, _, rfl, rfl, _, hlc, hcm, hel, hget, _, _⟩
  · exact ⟨[], ⟨_, [], rfl, ⟨none, 0, [], rfl, Nat.le_refl _, Nat.zero_le _, rfl, .inl rfl⟩, rfl⟩, by have := hb.one H DataW.nil; exact ⟨by simpa using this, by simp⟩⟩
  · have hs := hb.slice H (elems.map (·.1)) (rest.map (·.1))
    obtain ⟨s1, s2⟩ := sum_ge (g := μ H) (hb.one H) (elems.map (·.1))
    rw [List.length_map] at s1
    by_cases hl0 : len = 0
    · subst hl0
      refine ⟨[], ⟨_, [], rfl, ⟨_, cap, [], rfl, Nat.zero_le _, hcm, rfl, .inl rfl⟩, rfl⟩, ⟨?_, by simp⟩⟩
      exact hb.one H _
    · have hsp : sp = none := by
        have hg := hget 0 (by omega)
        rw [List.getElem?_eq_getElem (show 0 < elems.length by omega), Option.bind_eq_some_iff] at hg
        obtain ⟨cs, hc1, hc2⟩ := hg
        obtain ⟨hcl, hcg⟩ := cells_get hc1
        have h1 := spot_none (hcg 0 (cs[0]'(by omega)) (List.getElem?_eq_getElem _))
        simpa [Addr.add] using h1
      subst hsp
      have key : ∀ m i, i + m = len → ∃ (l : List α) (us : List Value), l.length = m ∧ RepRows w noM (P.cellsOf e) (l.map f) us ∧ (∀ j v, us[j]? = some v → w.cell? ⟨b, off + (i * P.cellsOf e + j), none⟩ = some v) ∧
          ∀ y ∈ l, ∃ d ∈ elems, G (μ H d.1) y := by
        intro m
        induction m with
        | zero => intro i _; exact ⟨[], [], rfl, rfl, by simp, by simp⟩
        | succ m ih =>
          intro i hi
          obtain ⟨l, us, h1, h2, h3, h4⟩ := ih (i + 1) (by omega)
          have hg := hget i (by omega)
          have hlt : i < elems.length := by omega
          rw [List.getElem?_eq_getElem hlt, Option.bind_eq_some_iff] at hg
          obtain ⟨cs, hc1, hc2⟩ := hg
          obtain ⟨hcl, hcg⟩ := cells_get hc1
          obtain ⟨y, hy1, hy2⟩ := hr H enc w n cs _ hc2
          refine ⟨y :: l, cs ++ us, by simp [h1], ⟨cs, us, rfl, hcl, hy1, h2⟩, fun j v hj => ?_, fun z hz => ?_⟩
          · by_cases hjl : j < cs.length
            · rw [List.getElem?_append_left hjl] at hj
              have := hcg j v hj
              rw [Addr.add_lit, Addr.add_lit, Nat.add_assoc] at this
              exact this
            · rw [List.getElem?_append_right (by omega)] at hj
              have := h3 _ v hj
              rw [Nat.succ_mul, show i * P.cellsOf e + P.cellsOf e + (j - cs.length) = i * P.cellsOf e + j by omega] at this
              exact this
          · rcases List.mem_cons.1 hz with rfl | hz
            · exact ⟨_, List.getElem_mem hlt, hy2⟩
            · exact h4 z hz
      obtain ⟨l, us, h1, h2, h3, h4⟩ := key len 0 (by omega)
      refine ⟨l, ⟨_, [], rfl, ⟨some ⟨b, off, none⟩, cap, us, by simp [h1], by simp [h1]; exact hlc, hcm, h2, .inr ⟨b, off, rfl, fun _ h => h, fun j v hj => ?_⟩⟩, rfl⟩, ?_, fun y hy => ?_⟩
      · have := h3 j v hj
        rwa [Nat.zero_mul, Nat.zero_add] at this
      · have : (elems.map (·.1)).length = len := by rw [List.length_map]; exact hel
        show l.length + 1 ≤ μ H (DataW.slice (elems.map (·.1)) (rest.map (·.1)))
        omega
      · obtain ⟨d, hd1, hd2⟩ := h4 y hy
        have := s2 d.1 (List.mem_map.2 ⟨d, hd1, rfl⟩)
        exact ⟨_, Nat.lt_of_le_of_lt this hs, hd2⟩
def fldIs (P : Program) (t i ty off : Nat) : Bool := match P.underlying t with
  | some (.struct fs) => match fs[i]? with | some f => Nat.beq f.type ty && Nat.beq f.offset off | none => false
  | _ => false
def nFld (P : Program) (t : Nat) : Option Nat := match P.underlying t with
  | some (.struct fs) => some fs.size
  | _ => none
theorem fld_read {μ : (H : Type) → DataW H → Nat} (hb : Blk μ) {P : Program} {t k : Nat} {H : Type} {enc : TypeId × Value → H} {w : World} {fuel : Nat} {cs : List Value} {x : DataW H × List MemPlace} (hn : nFld P t = some k) (hx : TrodE enc P w fuel t cs = some x) :
    cs.length = P.cellsOf t ∧ ∃ (n : Nat) (ds : List (DataW H × List MemPlace)), ds.length = k ∧ (ds.map fun d => μ H d.1).sum + 1 ≤ μ H x.1 ∧
      ∀ i ty off, fldIs P t i ty off = true → i < k → ∃ d, ds[i]? = some d ∧ TrodE enc P w n ty ((cs.drop off).take (P.cellsOf ty)) = some d := by
  unfold nFld at hn
  cases hu : P.underlying t with
  | none => simp [hu] at hn
  | some q =>
    cases q with
    | struct fs =>
      simp only [hu, Option.some.injEq] at hn
      obtain ⟨xs, n, _, rfl, hl, hxl, hget⟩ := DataW.trod_struct hu hx
      refine ⟨hl, n, xs, by omega, ?_, fun i ty off hf hi => ?_⟩
      · have := hb.agg H (xs.map (·.1))
        rw [List.map_map] at this
        exact this
      · unfold fldIs at hf
        simp only [hu] at hf
        cases hfi : fs[i]? with
        | none => simp [hfi] at hf
        | some f =>
          simp only [hfi, Bool.and_eq_true] at hf
          have e1 := Nat.eq_of_beq_eq_true hf.1
          have e2 := Nat.eq_of_beq_eq_true hf.2
          have := hget i f hfi
          have hlt : i < xs.length := by omega
          rw [List.getElem?_eq_getElem hlt, e1, e2] at this
          exact ⟨_, List.getElem?_eq_getElem hlt, this⟩
    | _ => simp [hu] at hn
theorem len1 {cs : List Value} (h : cs.length = 1) : ∃ c, cs = [c] := by
  match cs, h with
  | [c], _ => exact ⟨c, rfl⟩
theorem len2 {cs : List Value} (h : cs.length = 2) : ∃ c d, cs = [c, d] := by
  match cs, h with
  | [c, d], _ => exact ⟨c, d, rfl⟩
theorem len3 {cs : List Value} (h : cs.length = 3) : ∃ c d e, cs = [c, d, e] := by
  match cs, h with
  | [c, d, e], _ => exact ⟨c, d, e, rfl⟩
theorem len4 {cs : List Value} (h : cs.length = 4) : ∃ c d e f, cs = [c, d, e, f] := by
  match cs, h with
  | [c, d, e, f], _ => exact ⟨c, d, e, f, rfl⟩
theorem part_lt {μ : (H : Type) → DataW H → Nat} (hb : Blk μ) {H : Type} {ds : List (DataW H × List MemPlace)} {i : Nat} {d : DataW H × List MemPlace} {m : Nat} (hs : (ds.map fun d => μ H d.1).sum + 1 ≤ m) (hd : ds[i]? = some d) : μ H d.1 < m := by
  have := (sum_ge (g := fun d : DataW H × List MemPlace => μ H d.1) (fun a => hb.one H a.1) ds).2 d (List.mem_of_getElem? hd)
  omega
theorem rdr_s2 {μ : (H : Type) → DataW H → Nat} (hb : Blk μ) {P : Program} {t t0 t1 : TypeId} {α β : Type} {f : α → List AV} {g : β → List AV} {F : Nat → α → Prop} {G : Nat → β → Prop} (hn : nFld P t = some 2) (hc : P.cellsOf t = 2) (h0 : fldIs P t 0 t0 0 = true) (h1 : fldIs P t 1 t1 1 = true) (c0 : P.cellsOf t0 = 1) (c1 : P.cellsOf t1 = 1)
    (r0 : Rdr μ P t0 f F) (r1 : Rdr μ P t1 g G) : Rdr μ P t (fun p : α × β => f p.1 ++ g p.2) (fun b p => (∃ c, c < b ∧ F c p.1) ∧ ∃ c, c < b ∧ G c p.2) := by
  intro H enc w fuel cs x hx
  obtain ⟨hl, n, ds, hdl, hsum, hf⟩ := fld_read hb hn hx
  obtain ⟨v0, v1, rfl⟩ := len2 (hl.trans hc)
  obtain ⟨d0, e0, k0⟩ := hf 0 _ _ h0 (by decide)
  obtain ⟨d1, e1, k1⟩ := hf 1 _ _ h1 (by decide)
  rw [c0] at k0; rw [c1] at k1
  obtain ⟨a, a1, a2⟩ := r0 H enc w n _ d0 k0
  obtain ⟨b, b1, b2⟩ := r1 H enc w n _ d1 k1
  exact ⟨(a, b), RepL.append.2 ⟨[v0], [v1], rfl, a1, b1⟩, ⟨_, part_lt hb hsum e0, a2⟩, ⟨_, part_lt hb hsum e1, b2⟩⟩
theorem rdr_s3 {μ : (H : Type) → DataW H → Nat} (hb : Blk μ) {P : Program} {t t0 t1 t2 : TypeId} {α β γ : Type} {f : α → List AV} {g : β → List AV} {h : γ → List AV} {F : Nat → α → Prop} {G : Nat → β → Prop} {E : Nat → γ → Prop} (hn : nFld P t = some 3) (hc : P.cellsOf t = 3) (h0 : fldIs P t 0 t0 0 = true) (h1 : fldIs P t 1 t1 1 = true) (h2 : fldIs P t 2 t2 2 = true) (c0 : P.cellsOf t0 = 1) (c1 : P.cellsOf t1 = 1) (c2 : P.cellsOf t2 = 1)
    (r0 : Rdr μ P t0 f F) (r1 : Rdr μ P t1 g G) (r2 : Rdr μ P t2 h E) : Rdr μ P t (fun p : α × β × γ => f p.1 ++ (g p.2.1 ++ h p.2.2)) (fun b p => (∃ c, c < b ∧ F c p.1) ∧ (∃ c, c < b ∧ G c p.2.1) ∧ ∃ c, c < b ∧ E c p.2.2) := by
  intro H enc w fuel cs x hx
  obtain ⟨hl, n, ds, hdl, hsum, hf⟩ := fld_read hb hn hx
  obtain ⟨v0, v1, v2, rfl⟩ := len3 (hl.trans hc)
  obtain ⟨d0, e0, k0⟩ := hf 0 _ _ h0 (by decide)
  obtain ⟨d1, e1, k1⟩ := hf 1 _ _ h1 (by decide)
  obtain ⟨d2, e2, k2⟩ := hf 2 _ _ h2 (by decide)
  rw [c0] at k0; rw [c1] at k1; rw [c2] at k2
  obtain ⟨a, a1, a2⟩ := r0 H enc w n _ d0 k0
  obtain ⟨b, b1, b2⟩ := r1 H enc w n _ d1 k1
  obtain ⟨c, g1, g2⟩ := r2 H enc w n _ d2 k2
  exact ⟨(a, b, c), RepL.append.2 ⟨[v0], [v1, v2], rfl, a1, RepL.append.2 ⟨[v1], [v2], rfl, b1, g1⟩⟩, ⟨_, part_lt hb hsum e0, a2⟩, ⟨_, part_lt hb hsum e1, b2⟩, ⟨_, part_lt hb hsum e2, g2⟩⟩
theorem rdr_s4 {μ : (H : Type) → DataW H → Nat} (hb : Blk μ) {P : Program} {t ti : TypeId} {F : Nat → Int → Prop} (hn : nFld P t = some 4) (hc : P.cellsOf t = 4) (h0 : fldIs P t 0 ti 0 = true) (h1 : fldIs P t 1 ti 1 = true) (h2 : fldIs P t 2 ti 2 = true) (h3 : fldIs P t 3 ti 3 = true) (c0 : P.cellsOf ti = 1)
    (r : Rdr μ P ti (fun n : Int => [.int n]) F) : Rdr μ P t ndR (fun b x => ∀ n ∈ [x.k, x.a, x.b, x.c], ∃ c, c < b ∧ F c n) := by
  intro H enc w fuel cs x hx
  obtain ⟨hl, n, ds, hdl, hsum, hf⟩ := fld_read hb hn hx
  obtain ⟨v0, v1, v2, v3, rfl⟩ := len4 (hl.trans hc)
  obtain ⟨d0, e0, k0⟩ := hf 0 _ _ h0 (by decide)
  obtain ⟨d1, e1, k1⟩ := hf 1 _ _ h1 (by decide)
  obtain ⟨d2, e2, k2⟩ := hf 2 _ _ h2 (by decide)
  obtain ⟨d3, e3, k3⟩ := hf 3 _ _ h3 (by decide)
  rw [c0] at k0 k1 k2 k3
  obtain ⟨a, a1, a2⟩ := r H enc w n _ d0 k0
  obtain ⟨b, b1, b2⟩ := r H enc w n _ d1 k1
  obtain ⟨c, g1, g2⟩ := r H enc w n _ d2 k2
  obtain ⟨d, i1, i2⟩ := r H enc w n _ d3 k3
  refine ⟨⟨a, b, c, d⟩, RepL.append.2 ⟨[v0], [v1, v2, v3], rfl, a1, RepL.append.2 ⟨[v1], [v2, v3], rfl, b1, RepL.append.2 ⟨[v2], [v3], rfl, g1, i1⟩⟩⟩, fun m hm => ?_⟩
  simp only [List.mem_cons, List.not_mem_nil, or_false] at hm
  rcases hm with rfl | rfl | rfl | rfl
  · exact ⟨_, part_lt hb hsum e0, a2⟩
  · exact ⟨_, part_lt hb hsum e1, b2⟩
  · exact ⟨_, part_lt hb hsum e2, g2⟩
  · exact ⟨_, part_lt hb hsum e3, i2⟩
end Go.Vc

set_option linter.unusedVariables false
namespace Go.Vc
open Go.ChangeShapes Go.WideShapes Go.ChangeAt Go.RowKit
structure Kept (W W' : World) : Prop where
  os : W'.os = W.os
  output : W'.output = W.output
  size : W.heap.size ≤ W'.heap.size
  heap : ∀ b, b < W.heap.size → W'.heap[b]? = W.heap[b]?
theorem mut_none : Mut (fun _ => none) = noM := by
  funext b
  apply propext
  constructor
  · rintro ⟨k, r, h, _⟩; cases h
  · intro h; exact h.elim
theorem sat_none (w : World) : Sat w (fun _ => none) := ⟨(fun _ _ h => by cases h), (fun _ _ _ _ _ h => by cases h), (fun b ⟨_, _, h, _⟩ => by cases h)⟩
theorem law_calls {P : Program} {f : FuncId} {avs : List AV} {vs : List Value} {W : World} (hr : RepL W noM avs vs) (hc : CallsA P f avs (fun _ => none) (fun r _ => r = .bool true)) :
    Calls P f vs.toArray W (fun e W' => e = .returned (.bool true) ∧ Kept W W') := by
  refine Calls.mono (hc W vs (sat_none W) (by rw [mut_none]; exact hr)) fun e W' he => ?_
  cases e with
  | returned v =>
    obtain ⟨r, s', h1, h2, h3, rfl⟩ := he
    cases h1
    exact ⟨rfl, h3.os, h3.output, h3.size, fun b hb => (h3.keep b hb (by rw [mut_none]; exact id)).1⟩
  | panicked c => exact he.elim
  | outgrown => exact he.elim
variable {H : Type} {enc : TypeId × Value → H} {P : Program}
theorem trodAll_stays (hl : laidOutB P = true) {W W' : World} {sp : Nat → Bool} : ∀ (ts : List TypeId) (vs : List Value) (ds : List (DataW H)) (ps : List MemPlace), (∀ t ∈ ts, P.readableRec t = true ∧ t < P.types.size) →
    DataW.TrodAll enc P W 0 (fun _ => true) true ts vs ds ps → (∀ p ∈ ps, W.sameAt W' p) → (∀ p ∈ ps, sp p.block = true) → DataW.TrodAll enc P W' 0 sp true ts vs ds ps
  | [], [], [], _, _, h, _, _ => h
  | t :: ts, v :: vs, d :: ds, ps, ht, ⟨p, q, h1, h2, e⟩, hs, hsp => by
    subst e
    refine ⟨p, q, WideElems.Trod_stays hl (ht t (by simp)).1 (ht t (by simp)).2 h1 (fun x hx => hs x (by simp [hx])) (fun x hx => hsp x (by simp [hx])), ?_, rfl⟩
    exact trodAll_stays hl ts vs ds q (fun u hu => ht u (by simp [hu])) h2 (fun x hx => hs x (by simp [hx])) (fun x hx => hsp x (by simp [hx]))
  | [], _ :: _, _, _, _, h, _, _ => h.elim
  | [], [], _ :: _, _, _, h, _, _ => h.elim
  | _ :: _, [], _, _, _, h, _, _ => h.elim
  | _ :: _, _ :: _, [], _, _, h, _, _ => h.elim
theorem kept_but {W W' : World} (h : Kept W W') (may : MemPlace → Prop) : W.keptBut W' may := by
  refine ⟨h.os, h.output, fun i hi => ?_⟩
  rw [h.heap i hi]
  cases hw : W.heap[i]? with
  | none => rfl
  | some o =>
    cases o with
    | cells c t fr => exact ⟨rfl, rfl, rfl, fun _ _ => rfl⟩
    | map es clock => exact .inr ⟨rfl, rfl⟩
    | _ => rfl
theorem law_post {fn : Func} {s : ChangeSpec} {W W' : World} {args : Array Value} {ds gs : List (DataW H)} {before : List MemPlace} {tb : TypeId}
    (hW : DataW.Whole enc P fn.params.toList s.vars false W args.toList ds gs before) (hvars : s.vars = []) (hl : laidOutB P = true) (hts : fn.params.toList.all (fun t => P.readableRec t && decide (t < P.types.size)) = true)
    (hrt : fn.resultTypes = #[tb]) (htb : P.underlying tb = some .bool) (hspec : (s.fn H (ds ++ gs)).results = [.lit (.bool true)] ∧ (s.fn H (ds ++ gs)).args = ds ∧ (s.fn H (ds ++ gs)).vars = []) (hK : Kept W W') :
    s.post enc P fn false true false false W args (.bool true) W' := by
  have hW' := hW
  obtain ⟨p, q, hA, hV, rfl, hfz, hnd⟩ := hW
  have hV' := hV
  rw [hvars] at hV
  obtain ⟨rfl, rfl⟩ := trodVars_none hV
  have hlt : ∀ x ∈ p, x.block < W.heap.size := fun x hx => hW'.lt x (by simp [hx])
  have hts' : ∀ t ∈ fn.params.toList, P.readableRec t = true ∧ t < P.types.size := fun t ht => by
    have := List.all_eq_true.1 hts t ht
    simpa using this
  refine ⟨ds, [], p ++ [], [], p, [], hW', ?_, ?_, ?_, kept_but hK _, fun h => by cases h⟩
  · rw [hspec.1, hrt]
    exact ⟨[], [], shut_bool htb true, rfl, rfl⟩
  · rw [hspec.2.1]
    refine trodAll_stays hl _ _ _ _ hts' hA (fun x hx => ?_) (fun x hx => by simpa using hlt x hx)
    have := hK.heap x.block (hlt x hx)
    cases x with
    | cell b off => exact World.cell?_of_block (w := W) (a := ⟨b, off, none⟩) this
    | map b => exact this
  · rw [hspec.2.2, hvars]
    exact rfl
theorem rep_agg {w : World} {M : Mset} {cs : List AV} {v : Value} (h : RepL w M cs v.cells.toList) (hl : cs.length ≠ 1) : Rep w M (.agg cs) v := by
  have hlen := RepL.length h
  cases v with
  | agg us => exact ⟨us.toList, by simp, h⟩
  | _ => simp [Value.cells] at hlen; omega
theorem rep_one {w : World} {M : Mset} {x : AV} {v : Value} (h : RepL w M [x] v.cells.toList) (hv : v.cells = #[v]) : Rep w M x v := by
  rw [hv] at h
  obtain ⟨u, us, e, h1, _⟩ := h
  simp at e
  rw [e.1]; exact h1
theorem cells_slice {P : Program} {w : World} {base : Nat} {t e : TypeId} {v : Value} (hu : P.underlying t = some (.slice e)) (h : Value.okWide P w .any base t v) : v.cells = #[v] := by
  obtain ⟨a, l, c, rfl⟩ := okWide_slice hu h; rfl
end Go.Vc

set_option linter.unusedVariables false
set_option linter.unusedSimpArgs false
set_option maxRecDepth 100000
namespace Go.Proofs.Ytpcpdepfnoijoaa
open Go.Vc
def mu (H : Type) (d : DataW H) : Nat := Rows.uptoBulk d
theorem all_sum {H : Type} : ∀ l : List (DataW H), Rows.uptoBulkAll l = (l.map (mu H)).sum
  | [] => rfl
  | d :: l => by rw [Rows.uptoBulkAll, all_sum l]; rfl
theorem blk : Blk mu := by
  refine ⟨fun H d => ?_, fun H es sp => ?_, fun H ps => ?_, fun H b => ?_⟩
  · unfold mu
    cases d with
    | lit l => cases l <;> simp [Rows.uptoBulk]
    | _ => simp [Rows.uptoBulk]
  · show _ ≤ Rows.uptoBulk _
    rw [Rows.uptoBulk, all_sum, all_sum]
    omega
  · show _ ≤ Rows.uptoBulk _
    rw [Rows.uptoBulk, all_sum]
    omega
  · show _ ≤ Rows.uptoBulk _
    rw [Rows.uptoBulk]
    omega
theorem u_int : Try.prog.underlying 3 = some (.int .i64) := by kernel_rfl
theorem u_str : Try.prog.underlying 9 = some .string := by kernel_rfl
theorem u_bool : Try.prog.underlying 4 = some .bool := by kernel_rfl
theorem laidB : laidOutB Try.prog = true := by kernel_rfl
theorem rd_int : Rdr mu Try.prog 3 (fun n : Int => [.int n]) (fun _ n => (Lit.int .i64 n).wf = true) := rdr_int u_int
theorem rd_str : Rdr mu Try.prog 9 (fun b : ByteArray => [.v (.string b)]) (fun n b => b.size + 1 ≤ n) := rdr_str blk u_str
theorem rd_ints : Rdr mu Try.prog 40 (fun l : List Int => [ints l]) (GS fun _ n => (Lit.int .i64 n).wf = true) :=
  rdr_slice blk (slT_spec sl40).1 (by kernel_rfl) (by decide) rd_int
theorem rd_node : Rdr mu Try.prog 89 ndR (fun _ x => ∀ n ∈ [x.k, x.a, x.b, x.c], (Lit.int .i64 n).wf = true) :=
  (rdr_s4 blk (ti := 3) (by kernel_rfl) (by kernel_rfl) (by kernel_rfl) (by kernel_rfl) (by kernel_rfl) (by kernel_rfl) (by kernel_rfl) rd_int).mono fun b a h => ⟨a, rfl, fun n hn => by obtain ⟨c, _, h2⟩ := h n hn; exact h2⟩
def PtG (b : Nat) (p : Pt) : Prop := p.name.size < b ∧ p.bits.length < b ∧ ∀ a ∈ p.bits, (Lit.int .i64 a).wf = true
theorem rd_port : Rdr mu Try.prog 91 ptR PtG :=
  (rdr_s2 blk (t0 := 9) (t1 := 40) (by kernel_rfl) (by kernel_rfl) (by kernel_rfl) (by kernel_rfl) (by kernel_rfl) (by kernel_rfl) rd_str rd_ints).mono fun b a h => ⟨⟨a.1, a.2⟩, rfl, by
    obtain ⟨⟨c, h1, h2⟩, c', h3, h4, h5⟩ := h
    exact ⟨by simp only; omega, by simp only; omega, fun x hx => by obtain ⟨_, _, h6⟩ := h5 x hx; exact h6⟩⟩
structure NetG (b : Nat) (n : Net) : Prop where
  nodes : n.nodes.length < b
  ins : n.ins.length < b
  outs : n.outs.length < b
  nd : ∀ x ∈ n.nodes, ∀ a ∈ [x.k, x.a, x.b, x.c], (Lit.int .i64 a).wf = true
  pt : ∀ p ∈ n.ins ++ n.outs, PtG b p
theorem PtG.le {b c : Nat} {p : Pt} (h : PtG b p) (hb : b ≤ c) : PtG c p := ⟨by have := h.1; omega, by have := h.2.1; omega, h.2.2⟩
theorem rd_net : Rdr mu Try.prog 25 netR NetG :=
  (rdr_s3 blk (t0 := 22) (t1 := 23) (t2 := 23) (by kernel_rfl) (by kernel_rfl) (by kernel_rfl) (by kernel_rfl) (by kernel_rfl) (by kernel_rfl) (by kernel_rfl) (by kernel_rfl)
    (rdr_slice blk (slT_spec sl22).1 (by kernel_rfl) (by decide) rd_node) (rdr_slice blk (slT_spec sl23).1 (by kernel_rfl) (by decide) rd_port) (rdr_slice blk (slT_spec sl23).1 (by kernel_rfl) (by decide) rd_port)).mono fun b a h => ⟨⟨a.1, a.2.1, a.2.2⟩, rfl, by
    obtain ⟨⟨c, h1, h2, h3⟩, ⟨c', h4, h5, h6⟩, ⟨c2, h7, h8, h9⟩⟩ := h
    refine ⟨by simp only; omega, by simp only; omega, by simp only; omega, fun x hx => ?_, fun p hp => ?_⟩
    · obtain ⟨_, _, k⟩ := h3 x hx; exact k
    · rcases List.mem_append.1 hp with hp | hp
      · obtain ⟨d, k1, k2⟩ := h6 p hp; exact k2.le (by omega)
      · obtain ⟨d, k1, k2⟩ := h9 p hp; exact k2.le (by omega)⟩
theorem NetG.netB {b : Nat} {n : Net} (h : NetG b n) (hb : b ≤ 1048576) : NetB n :=
  ⟨by have := h.nodes; omega, by have := h.ins; omega, by have := h.outs; omega, fun p hp => by have := (h.pt p hp).2.1; omega, fun p hp => by have := (h.pt p hp).1; omega⟩
end Go.Proofs.Ytpcpdepfnoijoaa
