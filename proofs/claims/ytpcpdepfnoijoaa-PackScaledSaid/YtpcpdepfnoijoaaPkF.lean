/-
  Part of a proof: A size twice as great, one place lower, is packed as the same (slipsticklaw19.PackScaled).
-/
import Derived.Test.YtpcpdepfnoijoaaPkL
set_option linter.unusedVariables false
set_option linter.unusedSimpArgs false
set_option maxRecDepth 100000
namespace Go.Proofs.Ytpcpdepfnoijoaa
open Go.Vc
theorem countB {p : Nat} {F : List Nat} {nd : List Nd} {ins outs : List Pt} {s : St} {K : AV → St → Prop} (hp : s p = some (bld F nd ins outs)) (hw : WfB nd) (hn : nd.length + 1000 < 2^39) {n : Int} {w : Nat} (hwl : w ≤ 1000) (hk : ∀ F2 n2 l, Gr nd n2 1000 → BW n2 l → l.length = w → (∀ v, Mod v n2 → wv v l = iw n w) → K (ints l) (upd s p (bld F2 n2 ins outs))) : CallsA Try.prog 19 [ptv p 0, .int n, .int (w : Int)] s K := by
  refine callsA_of Try.func19 rfl rfl (Nat.le_of_ble_eq_true rfl) ?_
  refine vc_seq ?_
  refine vc_regionW (qm 1) [0] rfl rfl ?_
  refine vq rfl rfl (q_assign rfl) ?_
  refine vendW ?_
  refine vc_seq ?_
  refine vc_regionW (qm 1) [0] rfl rfl ?_
  refine vq rfl rfl (q_assign rfl) ?_
  refine vendW ?_
  refine vc_seq ?_
  refine vc_seq ?_
  refine vc_regionW (qm 7) [0, 1, 2] rfl rfl ?_
  refine vq rfl rfl (q_move rfl) ?_
  refine vq rfl rfl (q_max0 rfl rfl) ?_
  refine vq rfl rfl (q_move rfl) ?_
  refine vendW ?_
  refine vc_block ?_
  refine vc_loopS (α := LB) [1, 7, 10, 11, 12, 13, 14, 15, 16, 17, 18, 19, 20, 21] (fun a => [(10, .int (a.i : Int)), (7, a.x), (1, .int (n / 2 ^ a.i))]) (fun a => a.st) (fun a => ((a.i ≤ w ∧ a.l.length = a.i) ∧ (∀ v, Mod v a.n → ∀ j, j < a.i → bv v (a.l.getD j default) = !decide (n / 2 ^ j % 2 = 0))) ∧ LBok s p ins outs nd a.i a) (fun a => w - a.i) ⟨0, nilS, [], F, nd, s⟩ ⟨⟨⟨by simp, rfl⟩, fun v _ j hj => by simp at hj⟩, ⟨by rw [upd_self _ _ _ hp]; exact OwnSt.nil _ _ _, Gr.refl hw _, BW.nil⟩⟩ rfl ⟨rfl, rfl, (congrArg (fun z : Int => some (AV.int z)) (by simp)), trivial⟩ (fun _ => rfl) ?_
  intro a ⟨⟨⟨hai, hal⟩, hv⟩, hok⟩
  refine vc_seq ?_
  refine vc_regionW (qm 1) [0] rfl rfl ?_
  refine vq rfl rfl (q_lt rfl rfl) ?_
  refine vendW ?_
  refine vc_seq ?_
  refine vc_condD rfl (fun hend => ?_) (fun hend => ?_)
  ·
    refine vc_skip ?_
    refine vc_seq ?_
    refine vc_block ?_
    refine vc_seq ?_
    refine vc_regionW (qm 175) [0, 1, 2, 3, 4, 5, 6, 7] rfl rfl ?_
    refine vq rfl rfl (q_move rfl) ?_
    refine vq rfl rfl (q_move rfl) ?_
    refine vq rfl rfl (q_move rfl) ?_
    refine vq rfl rfl (q_and rfl rfl (and1_i64 _)) ?_
    refine ve rfl rfl (e_callF go56 rfl (bitB (b := n / 2 ^ a.i % 2) hok.hp hok.g.wf (by have := hok.g.len; omega) (fun F2 n2 o g2 b2 v2 => ?_)))
    refine vq rfl rfl (q_buildS sl40 zo3 (by decide) rfl rfl rfl rfl (by decide)) ?_
    refine ve rfl rfl (e_append sl40 zo3 rfl rfl hok.ho.put (SrcOK.slx 1 _) (rowsC1_one rfl) (by simp [maxLen_eq]; omega) (fun x3 s3 ho3 => ?_))
    refine vq rfl rfl (q_assign rfl) ?_
    refine vendW ?_
    refine vc_regionW (qm 7) [0, 1, 2] rfl rfl ?_
    refine vq rfl rfl (q_move rfl) ?_
    refine vq rfl rfl (q_shr rfl rfl (by omega) rfl) ?_
    refine vq rfl rfl (q_assign rfl) ?_
    refine vendW ?_
    refine vc_regionW (qm 3) [0, 1] rfl rfl ?_
    refine vq rfl rfl (q_add rfl rfl (w64 (by omega))) ?_
    refine vq rfl rfl (q_move rfl) ?_
    refine vendW ?_
    have hst : ∀ v, Mod v n2 → ∀ j, j < a.i + 1 → bv v ((a.l ++ [o]).getD j default) = !decide (n / 2 ^ j % 2 = 0) := fun v hm j hj => by
      by_cases e : j = a.i
      · subst e; rw [← hal, getD_end, v2 v hm]; rw [hal]
      · rw [getD_front (by omega), hv v (hm.gr g2) j (by omega)]
    refine ⟨⟨a.i + 1, x3, a.l ++ [o], F2, n2, s3⟩, ⟨⟨⟨by simp only; omega, by simp only [List.length_append, List.length_singleton]; omega⟩, hst⟩, ⟨by rw [List.map_append]; exact ho3, hok.g.trans g2 (by simp), (hok.bw.gr g2).app (BW.one b2)⟩⟩, by simp only; omega, ?_, ⟨rfl, rfl, (congrArg (fun z : Int => some (AV.int z)) (count_shr n a.i)), trivial⟩, rfl⟩
    repeat (first | exact Same.refl | refine Same.upd rfl ?_ | refine Same.drop rfl ?_)
  refine vc_exit ?_
  refine vc_seq ?_
  refine vc_regionW (qm 3) [0, 1] rfl rfl ?_
  refine vq rfl rfl (q_move rfl) ?_
  refine vq rfl rfl (q_assign rfl) ?_
  refine vendW ?_
  refine vc_ret ?_
  have e : a.i = w := by omega
  exact ret1 rfl rfl hok.ho.le hok.ho.frz (hk _ _ a.l (hok.g.le (by omega)) hok.bw (by omega) (fun v hm => wv_iw v (by omega) (fun j hj => hv v hm j (by omega))))
theorem signedN {p : Nat} {x : List Int} {w : Nat} {s : St} {K : AV → St → Prop} (h1 : 1 ≤ x.length) (hlx : x.length ≤ 1000) (hwl : w ≤ 1000) (hk : K (ints (sgL x w)) s) : CallsA Try.prog 18 [ptv p 0, ints x, .int (w : Int)] s K := by
  refine callsA_of Try.func18 rfl rfl (Nat.le_of_ble_eq_true rfl) ?_
  refine vc_seq ?_
  refine vc_regionW (qm 1) [0] rfl rfl ?_
  refine vq rfl rfl (q_assign rfl) ?_
  refine vendW ?_
  refine vc_seq ?_
  refine vc_regionW (qm 383) [0, 1, 2, 3, 4, 5, 6, 7, 8] rfl rfl ?_
  refine vq rfl rfl (q_move rfl) ?_
  refine vq rfl rfl (q_move rfl) ?_
  refine vq rfl rfl (q_len sl40 rfl (by first | exact lenM | rfl)) ?_
  refine vq rfl rfl (q_move rfl) ?_
  refine vq rfl rfl (q_max0 rfl rfl) ?_
  refine vq rfl rfl (q_minN rfl rfl) ?_
  refine vq rfl rfl (q_sliceM (f := eI) (xs := x) 0 (min x.length w) sl40 rfl rfl rfl (by simp) rfl (by omega)) ?_
  refine ve rfl rfl (e_callF go54 rfl (cloneIO (l := (x.take (min x.length w)).drop 0) (by simp; omega) (fun x0 s0 ho0 => ?_)))
  refine vq rfl rfl (q_assign rfl) ?_
  refine vendW ?_
  refine vc_seq ?_
  refine vc_block ?_
  refine vc_loopS (α := Nat × AV × St) [6, 7, 16, 17, 18, 19, 20, 21, 22, 23, 24, 25, 26, 27, 28, 29, 30, 31, 32, 33, 34] (fun a => [(7, a.2.1)]) (fun a => a.2.2) (fun a => min x.length w + a.1 ≤ w ∧ OwnSt s a.2.1 3 1 ((x.take (min x.length w) ++ List.replicate a.1 (x.getD (x.length - 1) default)).map eI) a.2.2) (fun a => w - a.1) (0, x0, s0) ⟨by simp only; omega, by simpa using ho0⟩ rfl ⟨rfl, trivial⟩ (fun _ => rfl) ?_
  intro ⟨i, xx, st⟩ ⟨hi, ho⟩
  simp only at hi ho ⊢
  have hll : (List.take (min x.length w) x ++ List.replicate i (x.getD (x.length - 1) default)).length = min x.length w + i := by rw [List.length_append, List.length_take, List.length_replicate]; omega
  refine vc_seq ?_
  refine vc_seq ?_
  refine vc_regionW (qm 15) [0, 1, 2, 3] rfl rfl ?_
  refine vq rfl rfl (q_move rfl) ?_
  refine vq rfl rfl (q_len sl40 rfl (by rw [ho.len, List.length_map, hll])) ?_
  refine vq rfl rfl (q_move rfl) ?_
  refine vq rfl rfl (q_lt rfl rfl) ?_
  refine vendW ?_
  refine vc_condD rfl (fun h19 => ?_) (fun h19 => ?_)
  ·
    refine vc_skip ?_
    refine vc_block ?_
    refine vc_seq ?_
    refine vc_seq ?_
    refine vc_regionW (qm 7) [0, 1, 2] rfl rfl ?_
    refine vq rfl rfl (q_move rfl) ?_
    refine vq rfl rfl (q_len sl40 rfl (by first | exact lenM | rfl)) ?_
    refine vq rfl rfl (q_eq rfl rfl) ?_
    refine vendW ?_
    refine vc_condF rfl (decide_eq_false (by omega)) ?_
    refine vc_skip ?_
    refine vc_regionW (qm 767) [0, 1, 2, 3, 4, 5, 6, 7, 8, 9] rfl rfl ?_
    refine vq rfl rfl (q_move rfl) ?_
    refine vq rfl rfl (q_move rfl) ?_
    refine vq rfl rfl (q_move rfl) ?_
    refine vq rfl rfl (q_len sl40 rfl (by first | exact lenM | rfl)) ?_
    refine vq rfl rfl (q_sub rfl rfl (show _ = ((x.length - 1 : Nat) : Int) by rw [w64 (by omega)]; omega)) ?_
    refine vq rfl rfl (q_index sl40 rfl rfl (by omega) (by first | exact nthI (by omega) | exact nthM (by omega))) ?_
    refine vq rfl rfl (q_load sc3 rfl) ?_
    refine vq rfl rfl (q_buildS sl40 zo3 (by decide) rfl rfl rfl rfl (by decide)) ?_
    refine ve rfl rfl (e_append sl40 zo3 rfl rfl ho (SrcOK.slx 1 _) (rowsC1_one rfl) (by rw [List.length_map, hll]; simp [maxLen_eq]; omega) (fun x3 s3 ho3 => ?_))
    refine vq rfl rfl (q_assign rfl) ?_
    refine vendW ?_
    refine ⟨(i + 1, x3, s3), ⟨by simp only; omega, by simp only [List.replicate_succ', ← List.append_assoc]; rw [List.map_append]; exact ho3⟩, by simp only; omega, ?_, ⟨rfl, trivial⟩, rfl⟩
    repeat (first | exact Same.refl | refine Same.upd rfl ?_ | refine Same.drop rfl ?_)
  refine vc_exit ?_
  refine vc_seq ?_
  refine vc_regionW (qm 3) [0, 1] rfl rfl ?_
  refine vq rfl rfl (q_move rfl) ?_
  refine vq rfl rfl (q_assign rfl) ?_
  refine vendW ?_
  refine vc_ret ?_
  have e : i = w - min x.length w := by omega
  subst e
  exact ret1 rfl rfl ho.le ho.frz hk
theorem addB {p : Nat} {F : List Nat} {nd : List Nd} {ins outs : List Pt} {s : St} {K : AV → St → Prop} (hp : s p = some (bld F nd ins outs)) (hw : WfB nd) (hn : nd.length + 65540 < 2^39) {x y : List Int} (hx : BW nd x) (hy : BW nd y) (hlx : x.length ≤ 1000) (hly : y.length ≤ 1000) (hk : ∀ F2 n2 l, Gr nd n2 65540 → BW n2 l → l.length = max x.length y.length → (∀ v, Mod v n2 → wv v l = (wv v x + wv v y) % 2 ^ (max x.length y.length)) → K (ints l) (upd s p (bld F2 n2 ins outs))) : CallsA Try.prog 100 [ptv p 0, ints x, ints y] s K := by
  refine callsA_of Try.func100 rfl rfl (Nat.le_of_ble_eq_true rfl) ?_
  refine vc_seq ?_
  refine vc_regionW (qm 1) [0] rfl rfl ?_
  refine vq rfl rfl (q_assign rfl) ?_
  refine vendW ?_
  refine vc_seq ?_
  refine vc_regionW (qm 1999) [0, 1, 2, 3, 4, 5, 6, 7, 8, 9, 10] rfl rfl ?_
  refine vq rfl rfl (q_move rfl) ?_
  refine vq rfl rfl (q_move rfl) ?_
  refine vq rfl rfl (q_move rfl) ?_
  refine vq rfl rfl (q_move rfl) ?_
  refine ve rfl rfl (e_callF go56 rfl (bitB (b := 0) hp hw (by omega) (fun F1 n1 c g1 b1 v1 => ?_)))
  refine ve rfl rfl (e_callF go104 rfl (prefixB (upd_same _ _ _) g1.wf (by have := g1.len; omega) (hx.gr g1) (hy.gr g1) hlx hly b1 (fun F4 n4 r co g4 br bco lr vr => ?_)))
  refine vq rfl rfl (q_move rfl) ?_
  refine vq rfl rfl (q_extract rfl rfl) ?_
  refine vq rfl rfl (q_extract rfl rfl) ?_
  refine vq rfl rfl (q_assign rfl) ?_
  refine vq rfl rfl (q_assign rfl) ?_
  refine vendW ?_
  refine vc_seq ?_
  refine vc_regionW (qm 3) [0, 1] rfl rfl ?_
  refine vq rfl rfl (q_move rfl) ?_
  refine vq rfl rfl (q_assign rfl) ?_
  refine vendW ?_
  refine vc_ret ?_
  exact ret1 rfl rfl (by simp only [upd_upd]; exact Le.refl _) (Cv.le (by simp only [upd_upd]; exact Le.refl _) _) (hk F4 n4 r (g1.trans g4 (by omega)) br lr (fun v hu => by
    have h1 := vr v hu
    have h2 := wv_lt v r
    rw [v1 v (hu.gr g4)] at h1
    rw [lr] at h2
    rw [show wv v x + wv v y = wv v r + 2 ^ (max x.length y.length) * (bv v co).toNat from h1.symm, Nat.add_mul_mod_self_left, Nat.mod_eq_of_lt h2]))
theorem arx5 : arT Try.prog 44 = some (5, 3, 1) := by kernel_rfl
structure LM where
  i : Nat
  l : List Int
  F : List Nat
  n : List Nd
theorem modesB {p : Nat} {F : List Nat} {nd : List Nd} {ins outs : List Pt} {s : St} {K : AV → St → Prop} (hp : s p = some (bld F nd ins outs)) (hw : WfB nd) (hn : nd.length + 40000 < 2^39) {x : List Int} (hx : BW nd x) (hlx : x.length ≤ 1000) (hk : ∀ F2 n2 l, Gr nd n2 40000 → BW n2 l → l.length = 5 → (∀ v, Mod v n2 → ∀ j, j < 5 → bv v (l.getD j default) = decide (wv v x = iw j x.length)) → K (.agg (l.map AV.int)) (upd s p (bld F2 n2 ins outs))) : CallsA Try.prog 20 [ptv p 0, ints x] s K := by
  refine callsA_of Try.func20 rfl rfl (Nat.le_of_ble_eq_true rfl) ?_
  refine vc_seq ?_
  refine vc_regionW (qm 0) [0] rfl rfl ?_
  refine ve rfl rfl (e_alloc zr44 (fun k4 hk4 => ?_))
  refine vendW ?_
  refine vc_seq ?_
  refine vc_regionW (qm 0) [0] rfl rfl ?_
  refine ve rfl rfl (e_alloc zr44 (fun k5 hk5 => ?_))
  refine vendW ?_
  have h4p : k4 ≠ p := fun e => by subst e; rw [hp] at hk4; cases hk4
  have h5p : k5 ≠ p := fun e => by subst e; rw [upd_ne _ _ (Ne.symm h4p), hp] at hk5; cases hk5
  have h45 : k4 ≠ k5 := fun e => by subst e; rw [upd_same] at hk5; cases hk5
  refine vc_seq ?_
  refine vc_seq ?_
  refine vc_regionW (qm 1) [0] rfl rfl ?_
  refine vq rfl rfl (q_move rfl) ?_
  refine vendW ?_
  refine vc_block ?_
  refine vc_loopS (α := LM) [6, 7, 8, 9, 10, 11, 12, 13, 14, 15, 16, 17, 18, 19, 20] (fun a => [(7, .int (a.i : Int))]) (fun a => upd (upd (upd s k4 (.cells (List.replicate 5 (AV.int 0)))) k5 (.cells (a.l.map AV.int))) p (bld a.F a.n ins outs)) (fun a => (a.i ≤ 5 ∧ a.l.length = 5) ∧ Gr nd a.n (a.i * 7000) ∧ (∀ j, j < a.i → B1 a.n (a.l.getD j default)) ∧ (∀ v, Mod v a.n → ∀ j, j < a.i → bv v (a.l.getD j default) = decide (wv v x = iw j x.length))) (fun a => 5 - a.i) ⟨0, List.replicate 5 0, F, nd⟩ ⟨⟨by simp, rfl⟩, Gr.refl hw _, fun j hj => by simp at hj, fun v _ j hj => by simp at hj⟩ (upd_self _ _ _ (by rw [upd_ne _ _ (Ne.symm h5p), upd_ne _ _ (Ne.symm h4p)]; exact hp)).symm ⟨rfl, trivial⟩ (fun _ => rfl) ?_
  intro a ⟨⟨hai, hal⟩, hg, hb, hv⟩
  refine vc_seq ?_
  refine vc_regionW (qm 1) [0] rfl rfl ?_
  refine vq rfl rfl (q_lt rfl rfl) ?_
  refine vendW ?_
  refine vc_seq ?_
  refine vc_condD rfl (fun h8 => ?_) (fun h8 => ?_)
  ·
    refine vc_skip ?_
    refine vc_seq ?_
    refine vc_block ?_
    refine vc_seq ?_
    refine vc_regionW (qm 3) [0, 1] rfl rfl ?_
    refine vq rfl rfl (q_move rfl) ?_
    refine vq rfl rfl (q_assign rfl) ?_
    refine vendW ?_
    refine vc_regionW (qm 639) [0, 1, 2, 3, 4, 5, 6, 7, 8, 9, 10] rfl rfl ?_
    refine vq rfl rfl (q_move rfl) ?_
    refine vq rfl rfl (q_move rfl) ?_
    refine vq rfl rfl (q_move rfl) ?_
    refine vq rfl rfl (q_move rfl) ?_
    refine vq rfl rfl (q_move rfl) ?_
    refine vq rfl rfl (q_move rfl) ?_
    refine vq rfl rfl (q_len sl40 rfl (by first | exact lenM | rfl)) ?_
    refine ve rfl rfl (e_callF go19 rfl (countB (n := (a.i : Int)) (w := x.length) (upd_same _ _ _) hg.wf (by have := hg.len; omega) hlx (fun F2 n2 c g2 b2 l2 v2 => ?_)))
    refine ve rfl rfl (e_callF go57 rfl (sameB (upd_same _ _ _) g2.wf (by have := hg.len; have := g2.len; omega) ((hx.gr hg).gr g2) b2 hlx (by omega) (fun F3 n3 q g3 b3 v3 => ?_)))
    refine vq rfl rfl (q_indexP arx5 rfl rfl (by omega) (by omega)) ?_
    refine vn rfl rfl (e_store sz3 rfl rfl rfl (by rw [upd_upd, upd_upd, upd_ne _ _ h5p]; exact upd_same _ _ _) (by rw [Nat.zero_add]; exact nthG (by omega)) ?_)
    refine vendW ?_
    refine vc_regionW (qm 3) [0, 1] rfl rfl ?_
    refine vq rfl rfl (q_add rfl rfl (w64 (by omega))) ?_
    refine vq rfl rfl (q_move rfl) ?_
    refine vendW ?_
    have hst1 : ∀ j, j < a.i + 1 → B1 n3 ((a.l.set a.i q).getD j default) := fun j hj => by
      by_cases e : j = a.i
      · subst e; rw [getD_setS (by omega)]; exact b3
      · rw [getD_setN (fun h => e h.symm)]; exact ((hb j (by omega)).gr g2).gr g3
    have hst2 : ∀ v, Mod v n3 → ∀ j, j < a.i + 1 → bv v ((a.l.set a.i q).getD j default) = decide (wv v x = iw j x.length) := fun v hu j hj => by
      by_cases e : j = a.i
      · subst e; rw [getD_setS (by omega), v3 v hu, v2 v (hu.gr g3)]
      · rw [getD_setN (fun h => e h.symm)]; exact hv v ((hu.gr g3).gr g2) j (by omega)
    refine ⟨⟨a.i + 1, a.l.set a.i q, F3, n3⟩, ⟨⟨by simp only; omega, by simp only [List.length_set]; exact hal⟩, (hg.trans g2 (Nat.le_refl _)).trans g3 (by simp only; omega), hst1, hst2⟩, by simp only; omega, ?_, ⟨rfl, trivial⟩, (by rw [upd_upd, upd_upd, ← upd_swap h5p, upd_upd, Nat.zero_add, List.map_set]; rfl)⟩
    repeat (first | exact Same.refl | refine Same.upd rfl ?_ | refine Same.drop rfl ?_)
  refine vc_exit ?_
  refine vc_seq ?_
  refine vc_regionW (qm 13407807929942597099574024998205846127479365820592393377723561443721764030073546976801874298166903427690031858186486050853753882811946569946433649006084097) [0, 1] rfl rfl ?_
  refine vr rfl rfl rfl (e_loadN (xs := a.l.map AV.int) (ds := []) (es := []) ag44 rfl (by rw [upd_ne _ _ h5p]; exact upd_same _ _ _) (by simp) rfl (by rw [List.length_map]; exact hal) ⟨rfl, rfl⟩) ?_
  refine vn rfl rfl (e_storeN sz44 rfl rfl (okA_ints _) (by show (a.l.map AV.int).length = 5; rw [List.length_map]; exact hal) (by rw [upd_ne _ _ h4p, upd_ne _ _ h45]; exact upd_same _ _ _) rfl ?_)
  refine vendW ?_
  refine vc_ret ?_
  have hax : a.i = 5 := by omega
  have hle := le_locals (B := bld a.F a.n ins outs) (C := .cells (a.l.map AV.int)) (C2 := .cells (a.l.map AV.int)) hk4 hk5 h4p h5p
  exact retC rfl ag44 rfl (upd_same _ _ _) (by show (a.l.map AV.int).length = 5; rw [List.length_map]; exact hal) hle (Cv.le hle _) (hk a.F a.n a.l (hg.le (by omega)) (fun b hb2 => mem_get hb2 (fun j hj => hb j (by omega))) hal (fun v hu j hj => hv v hu j (by omega)))
end Go.Proofs.Ytpcpdepfnoijoaa

set_option linter.unusedVariables false
set_option linter.unusedSimpArgs false
namespace Go.Vc
def pq (P N : Nat) (p : Int) : Nat := if N = 0 then 0 else (p + wd N - P).toNat
def ptop (N : Nat) (s : Int) : Nat := if 0 ≤ s then N * 2 ^ s.toNat else N / 2 ^ (-s).toNat
def phalf (N : Nat) (s : Int) : Bool := decide (s < 0) && (N / 2 ^ ((-s).toNat - 1)).testBit 0
def pless (N : Nat) (s : Int) : Bool := decide (s < 0) && decide (N % 2 ^ ((-s).toNat - 1) ≠ 0)
theorem ptop_up (N k t : Nat) : N * 2 ^ k / 2 ^ t = ptop N ((k : Int) - t) := by
  unfold ptop
  by_cases h : (0 : Int) ≤ (k : Int) - t
  · rw [if_pos h]
    obtain ⟨d, rfl⟩ := Nat.exists_eq_add_of_le (show t ≤ k by omega)
    rw [show (((t + d : Nat) : Int) - t).toNat = d by omega, Nat.pow_add, Nat.mul_left_comm, Nat.mul_div_cancel_left _ (Nat.pow_pos (by decide))]
  · rw [if_neg h]
    obtain ⟨d, rfl⟩ := Nat.exists_eq_add_of_le (show k ≤ t by omega)
    rw [show (-((k : Int) - ((k + d : Nat) : Int))).toNat = d by omega, Nat.pow_add, Nat.mul_comm N, Nat.mul_div_mul_left _ _ (Nat.pow_pos (by decide))]
theorem phalf_up (N k t : Nat) (ht : 1 ≤ t) : (N * 2 ^ k).testBit (t - 1) = phalf N ((k : Int) - t) := by
  unfold phalf
  rw [Nat.testBit_mul_two_pow]
  by_cases h : (k : Int) - t < 0
  · rw [decide_eq_true h, Bool.true_and, decide_eq_true (show k ≤ t - 1 by omega), Bool.true_and, Nat.testBit_div_two_pow]
    congr 1; omega
  · rw [decide_eq_false h, Bool.false_and, decide_eq_false (show ¬ k ≤ t - 1 by omega), Bool.false_and]
theorem pless_up (N k t : Nat) (ht : 1 ≤ t) : decide (N * 2 ^ k % 2 ^ (t - 1) ≠ 0) = pless N ((k : Int) - t) := by
  unfold pless
  by_cases h : (k : Int) - t < 0
  · rw [decide_eq_true h, Bool.true_and]
    obtain ⟨d, hd⟩ := Nat.exists_eq_add_of_le (show k ≤ t - 1 by omega)
    have e : (-((k : Int) - t)).toNat - 1 = d := by omega
    rw [e, hd, Nat.pow_add, Nat.mul_comm N, Nat.mul_mod_mul_left]
    apply decide_eq_decide.2
    have h2 : 0 < 2 ^ k := Nat.pow_pos (by decide)
    constructor
    · intro h3 h4; rw [h4] at h3; simp at h3
    · intro h3 h4
      rcases Nat.mul_eq_zero.1 h4 with h5 | h5
      · omega
      · exact h3 h5
  · rw [decide_eq_false h, Bool.false_and]
    obtain ⟨d, hd⟩ := Nat.exists_eq_add_of_le (show t - 1 ≤ k by omega)
    rw [hd, Nat.pow_add, Nat.mul_left_comm, Nat.mul_mod_right]; simp
theorem ptop_dn (N a t : Nat) (p : Int) (hp : p = -(a : Int) - t) (ht : 1 ≤ t) : N / 2 ^ a / 2 ^ t = ptop N p := by
  unfold ptop
  rw [if_neg (by omega), Nat.div_div_eq_div_mul, ← Nat.pow_add, show (-p).toNat = a + t by omega]
theorem phalf_dn (N a t : Nat) (p : Int) (hp : p = -(a : Int) - t) (ht : 1 ≤ t) : (N / 2 ^ a).testBit (t - 1) = phalf N p := by
  unfold phalf
  rw [decide_eq_true (show p < 0 by omega), Bool.true_and, Nat.testBit_div_two_pow, Nat.testBit_div_two_pow]
  congr 1; omega
theorem pless_dn (N a t : Nat) (p : Int) (hp : p = -(a : Int) - t) (ht : 1 ≤ t) : (decide (N / 2 ^ a % 2 ^ (t - 1) ≠ 0) || decide (N % 2 ^ a ≠ 0)) = pless N p := by
  unfold pless
  rw [decide_eq_true (show p < 0 by omega), Bool.true_and, show (-p).toNat - 1 = a + (t - 1) by omega, Nat.pow_add, Nat.mod_mul, ← Bool.decide_or]
  apply decide_eq_decide.2
  have h2 : 0 < 2 ^ a := Nat.pow_pos (by decide)
  constructor
  · rintro (h | h) h3
    · have h4 := Nat.mul_pos h2 (Nat.pos_of_ne_zero h); omega
    · omega
  · intro h
    by_cases h3 : N % 2 ^ a = 0
    · left; intro h4; rw [h3, h4] at h; simp at h
    · right; exact h3
def shX (N : Nat) (r : Int) (ld : Nat) : Nat := if r < 0 then N / 2 ^ (-r).toNat else N * 2 ^ (min r.toNat ld)
theorem shift_sem {N n P : Nat} {p r : Int} (hN : N < 2 ^ n) (hP : P + 2 ≤ n) (hr : r = p + n - P) :
    shX N r (n - wd N) / 2 ^ (n - P) = ptop N (p - pq P N p) ∧ (shX N r (n - wd N)).testBit (n - P - 1) = phalf N (p - pq P N p) ∧
      (decide (shX N r (n - wd N) % 2 ^ (n - P - 1) ≠ 0) || (decide (r < 0) && decide (N % 2 ^ (-r).toNat ≠ 0))) = pless N (p - pq P N p) := by
  have hw := wd_mono hN
  unfold shX
  by_cases h : r < 0
  · rw [if_pos h]
    have hq : pq P N p = 0 := by unfold pq; split <;> omega
    rw [hq, decide_eq_true h, Bool.true_and]
    have hp : p - ((0 : Nat) : Int) = -((-r).toNat : Int) - ((n - P : Nat) : Int) := by omega
    exact ⟨ptop_dn _ _ _ _ hp (by omega), phalf_dn _ _ _ _ hp (by omega), pless_dn _ _ _ _ hp (by omega)⟩
  · rw [if_neg h, decide_eq_false h, Bool.false_and, Bool.or_false]
    by_cases h0 : N = 0
    · subst h0
      simp [ptop, phalf, pless]
    · have e : p - (pq P N p : Int) = ((min r.toNat (n - wd N) : Nat) : Int) - ((n - P : Nat) : Int) := by
        unfold pq; rw [if_neg h0]; omega
      rw [e]
      exact ⟨ptop_up _ _ _, phalf_up _ _ _ (by omega), pless_up _ _ _ (by omega)⟩
theorem iw_add (a b : Int) (w : Nat) : (iw a w + iw b w) % 2 ^ w = iw (a + b) w := by
  have e : ((2 ^ w : Nat) : Int) = (2 : Int) ^ w := by push_cast; rfl
  have h : (((iw a w + iw b w) % 2 ^ w : Nat) : Int) = ((iw (a + b) w : Nat) : Int) := by
    rw [iw_cast, Int.natCast_emod, e, Int.natCast_add, iw_cast, iw_cast, Int.emod_add_emod, Int.add_emod_emod]
  exact Int.ofNat.inj h
theorem iw_sub (a b : Int) (w : Nat) {l : Nat} {c : Nat} (hl : l < 2 ^ w) (h : l + 2 ^ w * c + iw b w = iw a w + 2 ^ w) : l = iw (a - b) w := by
  have e : ((2 ^ w : Nat) : Int) = (2 : Int) ^ w := by push_cast; rfl
  have h1 : (l : Int) + 2 ^ w * c + b % 2 ^ w = a % 2 ^ w + 2 ^ w := by
    have := congrArg (fun n : Nat => (n : Int)) h
    simp only [Int.natCast_add, Int.natCast_mul, iw_cast, e] at this
    exact this
  have h2 : (l : Int) = iw (a - b) w := by
    rw [iw_cast]
    have h3 : (l : Int) = l % 2 ^ w := (Int.emod_eq_of_lt (by omega) (by omega)).symm
    rw [h3]
    apply Int.emod_eq_emod_iff_emod_sub_eq_zero.2
    apply Int.emod_eq_zero_of_dvd
    have e1 := Int.mul_ediv_add_emod a (2 ^ w)
    have e2 := Int.mul_ediv_add_emod b (2 ^ w)
    refine ⟨1 - c - a / 2 ^ w + b / 2 ^ w, ?_⟩
    rw [Int.mul_add, Int.mul_sub, Int.mul_sub, Int.mul_one]
    omega
  exact Int.ofNat.inj h2
theorem iw_pos {a : Int} {w : Nat} (h0 : 0 ≤ a) (h1 : a < 2 ^ w) : iw a w = a.toNat := by
  unfold iw; rw [Int.emod_eq_of_lt h0 h1]
theorem iw_msb {a : Int} {w : Nat} (h : 1 ≤ w) (h0 : -(2 ^ (w - 1)) ≤ a) (h1 : a < 2 ^ (w - 1)) : (iw a w).testBit (w - 1) = decide (a < 0) := by
  rw [iw_bit a (by omega)]
  have hp : (0 : Int) < 2 ^ (w - 1) := Int.pow_pos (by decide)
  by_cases h2 : a < 0
  · have e : a / 2 ^ (w - 1) = -1 := by
      have e0 : a = (a + 2 ^ (w - 1)) + 2 ^ (w - 1) * (-1) := by omega
      rw [e0, Int.add_mul_ediv_left _ _ (Int.ne_of_gt hp), Int.ediv_eq_zero_of_lt (by omega) (by omega)]; rfl
    rw [e, decide_eq_true h2]; rfl
  · rw [Int.ediv_eq_zero_of_lt (by omega) h1, decide_eq_false h2]; rfl
theorem iw_turn (a : Int) (w : Nat) : (2 ^ w - iw a w) % 2 ^ w = iw (-a) w := by
  have h1 := iw_lt a w
  have h2 := iw_add a (-a) w
  have h3 := iw_lt (-a) w
  have h0 : 0 < 2 ^ w := Nat.pow_pos (by decide)
  rw [show a + -a = 0 by omega] at h2
  have e0 : iw 0 w = 0 := by unfold iw; simp
  rw [e0] at h2
  obtain ⟨k, hk⟩ := Nat.dvd_of_mod_eq_zero h2
  have hk2 : k = 0 ∨ k = 1 := by
    rcases Nat.lt_or_ge k 2 with h | h
    · omega
    · have := Nat.mul_le_mul_left (2 ^ w) h; omega
  rcases hk2 with rfl | rfl
  · have e1 : iw a w = 0 := by omega
    have e2 : iw (-a) w = 0 := by omega
    rw [e1, e2, Nat.sub_zero, Nat.mod_self]
  · rw [show 2 ^ w - iw a w = iw (-a) w by omega, Nat.mod_eq_of_lt h3]
theorem and_rep (v : Nat → Bool) {x w : Nat} {o : Int} (hx : x < 2 ^ w) : gopN 3 x (wv v (List.replicate w o)) = bif bv v o then x else 0 := by
  rw [wv_rep]
  show x &&& _ = _
  cases bv v o
  · simp
  · rw [cond_true, cond_true, Nat.and_two_pow_sub_one_eq_mod, Nat.mod_eq_of_lt hx]
section
variable {P : Program} {env : Env} {s : St} {d : Option Nat} {ty : TypeId} {pos : String} {af : Array Edge} {gd : Option (Nat × Bool)} {a b c : Operand}
theorem q_max3N {k k' k'' : IntKind} {m n q : Nat} {ts : Array TypeId} (ha : evA env a = some (.v (.int k (m : Int)))) (hb : evA env b = some (.v (.int k' (n : Int)))) (hc : evA env c = some (.v (.int k'' (q : Int)))) :
    QOK P ⟨d, .call ⟨.builtin .max, #[a, b, c], ts⟩, ty, pos, af, gd⟩ env (.v (.int k ((max (max m n) q : Nat) : Int))) :=
  q_of fun w s ρ hs hr => by
    have h1 : ρ a = _ := hr.1 a (by simp [Op.operands, Call.operands]) _ ha
    have h2 : ρ b = _ := hr.1 b (by simp [Op.operands, Call.operands]) _ hb
    have h3 : ρ c = _ := hr.1 c (by simp [Op.operands, Call.operands]) _ hc
    refine ⟨_, by simp [execOp, resolve, invoke, builtin, h1, h2, h3, Builtin.max_, Builtin.max2]; rfl, ?_⟩
    simp only [Rep]; congr 1; split <;> split <;> omega
end
structure ShV (v : Nat → Bool) (P W : Nat) (N : Nat) (p : Int) (more : Bool) (top : List Int) (half less : Int) (base : List Int) (tiny : Int) : Prop where
  top : wv v top = ptop N (p - pq P N p)
  half : bv v half = phalf N (p - pq P N p)
  less : bv v less = (pless N (p - pq P N p) || more)
  base : wv v base = pq P N p
  tiny : bv v tiny = (decide (p + wd N - P < 0) && decide (N ≠ 0))
  bd : pq P N p + 3 ≤ 2 ^ W
theorem le_local1 {s : St} {p k : Nat} {B Z C2 : Res} (h : s k = none) (hkp : k ≠ p) : Le (upd s p B) (upd (upd (upd s k Z) p B) k C2) := by
  intro i r hi
  have e : i ≠ k := fun e => by subst e; rw [upd_ne _ _ hkp, h] at hi; cases hi
  rw [upd_ne _ _ e]
  by_cases ep : i = p
  · subst ep; rw [upd_same] at hi ⊢; exact hi
  · rw [upd_ne _ _ ep] at hi ⊢; rw [upd_ne _ _ e]; exact hi
end Go.Vc

set_option linter.unusedVariables false
set_option linter.unusedSimpArgs false
namespace Go.Vc
theorem q01 {q : Nat} (h : q < 2) (h2 : ¬ q % 2 = 1) : q = 0 := by omega
theorem q11 {q : Nat} (h : q < 2) (h2 : q % 2 = 1) : q = 1 := by omega
theorem sv_bd (v : Nat → Bool) {x : List Int} (h : 1 ≤ x.length) : -((2 : Int) ^ (x.length - 1)) ≤ sv v x ∧ sv v x < (2 : Int) ^ (x.length - 1) := by
  unfold sv
  have h1 := wv_lt v x
  have h2 := wv_bit v x (x.length - 1) (by omega)
  have e : ((2 ^ x.length : Nat) : Int) = 2 * (2 : Int) ^ (x.length - 1) := by
    obtain ⟨k, hk⟩ := Nat.exists_eq_add_of_le h
    rw [hk, show 1 + k - 1 = k by omega, Nat.pow_add]; push_cast; rfl
  have e2 : ((2 : Int) ^ x.length) = 2 * (2 : Int) ^ (x.length - 1) := by rw [← e]; push_cast; rfl
  have e3 : 2 ^ x.length = 2 * 2 ^ (x.length - 1) := by
    obtain ⟨k, hk⟩ := Nat.exists_eq_add_of_le h
    rw [hk, show 1 + k - 1 = k by omega, Nat.pow_add]
  have e4 : ((2 ^ (x.length - 1) : Nat) : Int) = (2 : Int) ^ (x.length - 1) := by push_cast; rfl
  rw [Nat.testBit_eq_decide_div_mod_eq] at h2
  have h3 : wv v x / 2 ^ (x.length - 1) < 2 := (Nat.div_lt_iff_lt_mul (Nat.pow_pos (by decide))).2 (by omega)
  have hp : 0 < 2 ^ (x.length - 1) := Nat.pow_pos (by decide)
  have hdm := Nat.div_add_mod (wv v x) (2 ^ (x.length - 1))
  have hm := Nat.mod_lt (wv v x) hp
  cases hb : bv v (x.getD (x.length - 1) default)
  · rw [hb] at h2
    have h4 : wv v x / 2 ^ (x.length - 1) = 0 := by
      exact q01 h3 (of_decide_eq_false h2)
    rw [h4, Nat.mul_zero, Nat.zero_add] at hdm
    rw [cond_false]
    omega
  · rw [hb] at h2
    have h4 : wv v x / 2 ^ (x.length - 1) = 1 := by
      exact q11 h3 (of_decide_eq_true h2)
    rw [h4, Nat.mul_one] at hdm
    rw [cond_true, e2]
    omega
theorem shift_join (v : Nat → Bool) {sz pl l1 l2 l3 l4 l5 l6 l8 l9 l10 l11 l12 l19 : List Int} {co5 o7 o12 o13 o14 o15 o16 o17 o18 o20 more : Int} {fp fw W : Nat}
    (hP : 2 ≤ fp) (hPn : fp + 2 ≤ sz.length) (h1p : 1 ≤ pl.length) (hW : W = max (max pl.length (wd sz.length)) fw + 2)
    (e4 : l4.length = W) (e5 : l5.length = W) (e12 : l12.length = sz.length)
    (v1 : wv v l1 = sz.length - wd (wv v sz)) (v2 : wv v l2 = wv v l1 % 2 ^ W) (v3 : wv v l3 = iw ((sz.length - fp : Nat) : Int) W) (v4 : wv v l4 = (wv v (sgL pl W) + wv v l3) % 2 ^ W)
    (v5 : wv v l5 + 2 ^ W * (bv v co5).toNat + wv v l2 = wv v l4 + 2 ^ W)
    (v6 : wv v l6 = bif bv v (l5.getD (W - 1) default) then wv v l4 else wv v l2) (v7 : bv v o7 = !bv v (l4.getD (W - 1) default)) (v8 : wv v l8 = gopN 3 (wv v l6) (wv v (List.replicate W o7)))
    (v9 : wv v l9 = wv v sz * 2 ^ wv v l8 % 2 ^ sz.length) (v10 : wv v l10 = bif bv v (l4.getD (W - 1) default) then (2 ^ l4.length - wv v l4) % 2 ^ l4.length else wv v l4) (v11 : wv v l11 = gopN 3 (wv v l10) (wv v (List.replicate W (l4.getD (W - 1) default))))
    (v12 : wv v l12 = wv v l9 / 2 ^ wv v l11 ∧ bv v o12 = decide (wv v l9 % 2 ^ wv v l11 ≠ 0)) (v13 : bv v o13 = gall 4 v sz) (v14 : bv v o14 = !bv v (l5.getD (W - 1) default)) (v15 : bv v o15 = (bv v o13 && bv v o14))
    (v16 : bv v o16 = gall 4 v (l12.take (sz.length - fp - 1))) (v17 : bv v o17 = (bv v more || bv v o12)) (v18 : bv v o18 = (bv v o16 || bv v o17)) (v19 : wv v l19 = gopN 3 (wv v l5) (wv v (List.replicate W o15))) (v20 : bv v o20 = (bv v (l5.getD (W - 1) default) && bv v o13)) :
    ShV v fp W (wv v sz) (sv v pl) (bv v more) ((l12.take l12.length).drop (sz.length - fp)) (l12.getD (sz.length - fp - 1) default) o18 l19 o20 := by
  have hN := wv_lt v sz
  have hwn := wd_mono hN
  obtain ⟨q1, q2⟩ := sv_bd v h1p
  have hpw : (2 : Int) ^ (pl.length - 1) * 4 ≤ 2 ^ (W - 1) := by
    obtain ⟨d, hd⟩ := Nat.exists_eq_add_of_le (show pl.length - 1 + 2 ≤ W - 1 by omega)
    rw [hd, Int.pow_add, Int.pow_add]
    have h1 : (1 : Int) ≤ 2 ^ d := Int.pow_pos (by decide)
    have h2 : (0 : Int) < 2 ^ (pl.length - 1) * 2 ^ 2 := Int.mul_pos (Int.pow_pos (by decide)) (by decide)
    have := Int.mul_le_mul_of_nonneg_left h1 (Int.le_of_lt h2)
    rw [Int.mul_one] at this
    exact this
  have hnw : (sz.length : Int) * 2 < 2 ^ (W - 1) := by
    have h1 := wd_lt sz.length
    have h2 := Nat.pow_le_pow_right (n := 2) (by decide) (show wd sz.length + 1 ≤ W - 1 by omega)
    rw [Nat.pow_succ] at h2
    have e : ((2 ^ (W - 1) : Nat) : Int) = (2 : Int) ^ (W - 1) := by push_cast; rfl
    omega
  have hW2 : (2 : Int) ^ W = 2 * 2 ^ (W - 1) := by
    obtain ⟨d, hd⟩ := Nat.exists_eq_add_of_le (show 1 ≤ W by omega)
    rw [hd, show 1 + d - 1 = d by omega, Int.pow_add]; rfl
  have hW3 : ((2 ^ W : Nat) : Int) = (2 : Int) ^ W := by push_cast; rfl
  have hpp : (0 : Int) < 2 ^ (pl.length - 1) := Int.pow_pos (by decide)
  generalize hN0 : wv v sz = N at *
  generalize hp0 : sv v pl = p at *
  obtain ⟨r, hr⟩ : ∃ r : Int, r = p + sz.length - fp := ⟨_, rfl⟩
  obtain ⟨ld, hld⟩ : ∃ ld, ld = sz.length - wd N := ⟨_, rfl⟩
  have a2 : wv v l2 = ld := by rw [v2, v1, Nat.mod_eq_of_lt (by omega), hld]
  have a4 : wv v l4 = iw r W := by
    rw [v4, sgL_wv v h1p, v3, iw_add, hp0]; congr 1; omega
  have a5 : wv v l5 = iw (r - ld) W := by
    refine iw_sub r ld W (c := (bv v co5).toNat) (by have := wv_lt v l5; rwa [e5] at this) ?_
    rw [iw_pos (by omega) (by omega), Int.toNat_natCast, ← a4, ← a2]; exact v5
  have ar : bv v (l4.getD (W - 1) default) = decide (r < 0) := by
    rw [← wv_bit v l4 (W - 1) (by omega), a4, iw_msb (by omega) (by omega) (by omega)]
  have at_ : bv v (l5.getD (W - 1) default) = decide (r - ld < 0) := by
    rw [← wv_bit v l5 (W - 1) (by omega), a5, iw_msb (by omega) (by omega) (by omega)]
  have l4lt := wv_lt v l4
  rw [e4] at l4lt
  have l5lt := wv_lt v l5
  rw [e5] at l5lt
  have hldW : ld < 2 ^ W := by omega
  have a6 : wv v l6 < 2 ^ W := by rw [v6]; cases bv v (l5.getD (W - 1) default) <;> simp only [cond_true, cond_false] <;> omega
  rw [and_rep v a6] at v8
  have a10 : wv v l10 < 2 ^ W := by
    rw [v10, e4]
    cases bv v (l4.getD (W - 1) default)
    · exact l4lt
    · exact Nat.mod_lt _ (Nat.pow_pos (by decide))
  rw [and_rep v a10] at v11
  have key : wv v l12 = shX N r ld ∧ bv v o12 = (decide (r < 0) && decide (N % 2 ^ (-r).toNat ≠ 0)) := by
    unfold shX
    by_cases h : r < 0
    · rw [decide_eq_true h] at ar
      rw [ar] at v7 v10 v11
      rw [v7] at v8
      simp only [Bool.not_true, cond_false] at v8
      rw [v8, Nat.pow_zero, Nat.mul_one, Nat.mod_eq_of_lt hN] at v9
      rw [cond_true, v10, cond_true, e4, a4, iw_turn, iw_pos (by omega) (by omega)] at v11
      rw [v9, v11] at v12
      rw [if_pos h, decide_eq_true h, Bool.true_and]
      exact v12
    · rw [decide_eq_false h] at ar
      rw [ar] at v7 v11
      rw [v7] at v8
      simp only [Bool.not_false, cond_true] at v8
      rw [cond_false] at v11
      rw [v11, Nat.pow_zero, Nat.div_one, Nat.mod_one] at v12
      rw [if_neg h, decide_eq_false h, Bool.false_and, v12.2]
      refine ⟨?_, by simp⟩
      have e6 : wv v l8 = min r.toNat ld := by
        rw [v8, v6, at_]
        by_cases h2 : r - ld < 0
        · rw [decide_eq_true h2, cond_true, a4, iw_pos (by omega) (by omega)]; omega
        · rw [decide_eq_false h2, cond_false, a2]; omega
      rw [v12.1, v9, e6]
      apply Nat.mod_eq_of_lt
      have h3 := wd_lt N
      have h4 : N * 2 ^ min r.toNat ld < 2 ^ wd N * 2 ^ min r.toNat ld := Nat.mul_lt_mul_of_pos_right h3 (Nat.pow_pos (by decide))
      rw [← Nat.pow_add] at h4
      exact Nat.lt_of_lt_of_le h4 (Nat.pow_le_pow_right (by decide) (by omega))
  obtain ⟨s1, s2, s3⟩ := shift_sem (N := N) (n := sz.length) (P := fp) (p := p) (r := r) hN hPn hr
  rw [← hld, ← key.1] at s1 s2 s3
  have any : bv v o13 = decide (N ≠ 0) := by rw [v13, gall_or, hN0]
  refine ⟨?_, ?_, ?_, ?_, ?_, by unfold pq; split <;> omega⟩
  · rw [List.take_length, wv_drop]; exact s1
  · rw [← wv_bit v l12 _ (by omega)]; exact s2
  · rw [v18, v17, v16, gall_or, wv_take, key.2, ← s3]
    cases decide (wv v l12 % 2 ^ (sz.length - fp - 1) ≠ 0) <;> cases bv v more <;> simp
  · rw [v19, and_rep v l5lt, v15, v14, any, at_, a5]
    unfold pq
    by_cases h0 : N = 0
    · simp [h0]
    · rw [if_neg h0, decide_eq_true h0, Bool.true_and]
      by_cases h2 : r - ld < 0
      · rw [decide_eq_true h2]; simp only [Bool.not_true, cond_false]; omega
      · rw [decide_eq_false h2]; simp only [Bool.not_false, cond_true]
        rw [iw_pos (by omega) (by omega)]; omega
  · rw [v20, at_, any]
    congr 1
    apply decide_eq_decide.2; omega
end Go.Vc

set_option linter.unusedVariables false
set_option linter.unusedSimpArgs false
set_option maxRecDepth 100000
namespace Go.Proofs.Ytpcpdepfnoijoaa
open Go.Vc
abbrev fmA (fb fp fw : Nat) : AV := .agg [.int (fb : Int), .int (fp : Int), .int (fw : Int)]
abbrev cutA (top : List Int) (half less : Int) (base : List Int) (tiny any : Int) : AV := .agg [ints top, .int half, .int less, ints base, .int tiny, .int any]
theorem shiftedB {p : Nat} {F : List Nat} {nd : List Nd} {ins outs : List Pt} {s : St} {K : AV → St → Prop} (hp : s p = some (bld F nd ins outs)) (hw : WfB nd) (hn : nd.length + 700000 < 2^39) {fb fp fw : Nat} {pl sz : List Int} {more : Int} (hpl : BW nd pl) (hsz : BW nd sz) (hm : B1 nd more) (h1p : 1 ≤ pl.length) (hp30 : pl.length ≤ 30) (hP : 2 ≤ fp) (hPn : fp + 2 ≤ sz.length) (hn6 : sz.length ≤ 600) (hfw : fw ≤ 30) (hk : ∀ F2 n2 top half less base tiny any, Gr nd n2 700000 → BW n2 top → B1 n2 half → B1 n2 less → BW n2 base → B1 n2 tiny → B1 n2 any → top.length = fp → base.length = (max (max pl.length (wd sz.length)) fw + 2) → (∀ v, Mod v n2 → ShV v fp (max (max pl.length (wd sz.length)) fw + 2) (wv v sz) (sv v pl) (bv v more) top half less base tiny) → K (cutA top half less base tiny any) (upd s p (bld F2 n2 ins outs))) : CallsA Try.prog 101 [ptv p 0, fmA fb fp fw, ints pl, ints sz, .int more] s K := by
  refine callsA_of Try.func101 rfl rfl (Nat.le_of_ble_eq_true rfl) ?_
  refine vc_seq ?_
  refine vc_regionW (qm 1) [0, 1] rfl rfl ?_
  refine vq rfl rfl (q_box rfl rfl) ?_
  refine ve rfl rfl (e_alloc zr158 (fun k10 hk10 => ?_))
  refine vendW ?_
  have hkp : k10 ≠ p := fun e => by subst e; rw [hp] at hk10; cases hk10
  have hp2 : (upd s k10 (.cells (List.map AV.v [.slice none 0 0, .int .i64 0, .int .i64 0, .slice none 0 0, .int .i64 0, .int .i64 0]))) p = some (bld F nd ins outs) := by rw [upd_ne _ _ (Ne.symm hkp)]; exact hp
  have hwd : wd sz.length ≤ 10 := wd_mono (by omega)
  refine vc_seq ?_
  refine vc_regionW (qm 7) [0, 1, 2] rfl rfl ?_
  refine vq rfl rfl (q_move rfl) ?_
  refine vq rfl rfl (q_len sl40 rfl (by first | exact lenM | rfl)) ?_
  refine vq rfl rfl (q_assign rfl) ?_
  refine vendW ?_
  refine vc_seq ?_
  refine vc_regionDW mx (qm 511) [0, 1, 2, 3, 4, 5, 6, 7, 8] (by kernel_rfl) ?_
  refine vq rfl rfl (q_move rfl) ?_
  refine vq rfl rfl (q_len sl40 rfl (by first | exact lenM | rfl)) ?_
  refine vq rfl rfl (q_move rfl) ?_
  refine vq rfl rfl (q_callF go99 rfl (fun s => wideN (n := sz.length) (by omega) ⟨rfl, rfl⟩)) ?_
  refine vq rfl rfl (q_field fo63_2 rfl (Nat.le_of_ble_eq_true rfl)) ?_
  refine vq rfl rfl (q_load sc3 rfl) ?_
  refine vq rfl rfl (q_max3N rfl rfl rfl) ?_
  refine vq rfl rfl (q_add rfl rfl (show _ = (((max (max pl.length (wd sz.length)) fw + 2) : Nat) : Int) by rw [w64 (by omega)]; omega)) ?_
  refine vq rfl rfl (q_assign rfl) ?_
  refine vendW ?_
  refine vc_seq ?_
  refine vc_regionW (qm 87) [0, 1, 2, 3, 4, 5, 6] rfl rfl ?_
  refine vq rfl rfl (q_move rfl) ?_
  refine vq rfl rfl (q_move rfl) ?_
  refine vq rfl rfl (q_move rfl) ?_
  refine ve rfl rfl (e_callF go145 rfl (leadB (x := sz) hp2 hw (by omega) hsz (by omega) (by omega) (fun F1 n1 l1 g1 b1 le1 v1 => ?_)))
  refine vq rfl rfl (q_move rfl) ?_
  refine ve rfl rfl (e_callF go55 rfl (padF (x := l1) (w := (max (max pl.length (wd sz.length)) fw + 2)) (upd_same _ _ _) g1.wf (by have := g1.len; omega) b1 (by omega) (by omega) (fun F2 n2 l2 g2 b2 le2 v2 => ?_)))
  refine vq rfl rfl (q_assign rfl) ?_
  refine vendW ?_
  refine vc_seq ?_
  refine vc_regionDW mx (qm 10239) [0, 1, 2, 3, 4, 5, 6, 7, 8, 9, 10, 11, 12, 13] (by kernel_rfl) ?_
  refine vq rfl rfl (q_move rfl) ?_
  refine vq rfl rfl (q_move rfl) ?_
  refine vq rfl rfl (q_move rfl) ?_
  refine vq rfl rfl (q_move rfl) ?_
  refine vq rfl rfl (q_callF go18 rfl (fun s => signedN (x := pl) (w := (max (max pl.length (wd sz.length)) fw + 2)) h1p (by omega) (by omega) ⟨rfl, rfl⟩)) ?_
  refine vq rfl rfl (q_move rfl) ?_
  refine vq rfl rfl (q_move rfl) ?_
  refine vq rfl rfl (q_field fo63_1 rfl (Nat.le_of_ble_eq_true rfl)) ?_
  refine vq rfl rfl (q_load sc3 rfl) ?_
  refine vq rfl rfl (q_sub rfl rfl (show _ = (((sz.length - fp) : Nat) : Int) by rw [w64 (by omega)]; omega)) ?_
  refine vq rfl rfl (q_move rfl) ?_
  refine ve rfl rfl (e_callF go19 rfl (countB (n := (((sz.length - fp) : Nat) : Int)) (w := (max (max pl.length (wd sz.length)) fw + 2)) (upd_same _ _ _) g2.wf (by have := g1.len; have := g2.len; omega) (by omega) (fun F3 n3 l3 g3 b3 le3 v3 => ?_)))
  refine ve rfl rfl (e_callF go100 rfl (addB (x := sgL pl (max (max pl.length (wd sz.length)) fw + 2)) (y := l3) (upd_same _ _ _) g3.wf (by have := g1.len; have := g2.len; have := g3.len; omega) (sgL_bw (((hpl.gr g1).gr g2).gr g3) h1p _) b3 (by rw [sgL_len]; omega) (by omega) (fun F4 n4 l4 g4 b4 le4 v4 => ?_)))
  refine vq rfl rfl (q_assign rfl) ?_
  refine vendW ?_
  rw [sgL_len, le3, Nat.max_self] at le4
  refine vc_seq ?_
  refine vc_regionW (qm 503) [0, 1, 2, 3, 4, 5, 6, 7, 8] rfl rfl ?_
  refine vq rfl rfl (q_move rfl) ?_
  refine vq rfl rfl (q_move rfl) ?_
  refine vq rfl rfl (q_move rfl) ?_
  refine ve rfl rfl (e_callF go146 rfl (subB (x := l4) (y := l2) (upd_same _ _ _) g4.wf (by have := g1.len; have := g2.len; have := g3.len; have := g4.len; omega) b4 ((b2.gr g3).gr g4) (by omega) (by omega) (fun F5 n5 l5 co5 g5 b5 bc5 le5 v5 => ?_)))
  refine vq rfl rfl (q_move rfl) ?_
  refine vq rfl rfl (q_extract rfl rfl) ?_
  refine vq rfl rfl (q_extract rfl rfl) ?_
  refine vq rfl rfl (q_assign rfl) ?_
  refine vq rfl rfl (q_assign rfl) ?_
  refine vendW ?_
  rw [le4, le2, Nat.max_self] at le5
  refine vc_seq ?_
  refine vc_regionW (qm 63) [0, 1, 2, 3, 4, 5] rfl rfl ?_
  refine vq rfl rfl (q_move rfl) ?_
  refine vq rfl rfl (q_move rfl) ?_
  refine vq rfl rfl (q_sub rfl rfl (show _ = ((((max (max pl.length (wd sz.length)) fw + 2) - 1) : Nat) : Int) by rw [w64 (by omega)]; omega)) ?_
  refine vq rfl rfl (q_index sl40 rfl rfl (by omega) (by first | exact nthI (by omega) | exact nthM (by omega))) ?_
  refine vq rfl rfl (q_load sc3 rfl) ?_
  refine vq rfl rfl (q_assign rfl) ?_
  refine vendW ?_
  refine vc_seq ?_
  refine vc_regionW (qm 63) [0, 1, 2, 3, 4, 5] rfl rfl ?_
  refine vq rfl rfl (q_move rfl) ?_
  refine vq rfl rfl (q_move rfl) ?_
  refine vq rfl rfl (q_sub rfl rfl (show _ = ((((max (max pl.length (wd sz.length)) fw + 2) - 1) : Nat) : Int) by rw [w64 (by omega)]; omega)) ?_
  refine vq rfl rfl (q_index sl40 rfl rfl (by omega) (by first | exact nthI (by omega) | exact nthM (by omega))) ?_
  refine vq rfl rfl (q_load sc3 rfl) ?_
  refine vq rfl rfl (q_assign rfl) ?_
  refine vendW ?_
  refine vc_seq ?_
  refine vc_regionW (qm 47) [0, 1, 2, 3, 4, 5] rfl rfl ?_
  refine vq rfl rfl (q_move rfl) ?_
  refine vq rfl rfl (q_move rfl) ?_
  refine vq rfl rfl (q_move rfl) ?_
  refine vq rfl rfl (q_move rfl) ?_
  refine ve rfl rfl (e_callF go105 rfl (pickB (x := l2) (y := l4) (c := l5.getD ((max (max pl.length (wd sz.length)) fw + 2) - 1) default) (upd_same _ _ _) g5.wf (by have := g1.len; have := g2.len; have := g3.len; have := g4.len; have := g5.len; omega) (((b2.gr g3).gr g4).gr g5) (b4.gr g5) (by omega) (by omega) (b5.get (by omega)) (fun F6 n6 l6 g6 b6 le6 v6 => ?_)))
  refine vq rfl rfl (q_assign rfl) ?_
  refine vendW ?_
  refine vc_seq ?_
  refine vc_regionW (qm 751) [0, 1, 2, 3, 4, 5, 6, 7, 8, 9] rfl rfl ?_
  refine vq rfl rfl (q_move rfl) ?_
  refine vq rfl rfl (q_move rfl) ?_
  refine vq rfl rfl (q_move rfl) ?_
  refine vq rfl rfl (q_move rfl) ?_
  refine ve rfl rfl (e_callF go89 rfl (notB (x := l4.getD ((max (max pl.length (wd sz.length)) fw + 2) - 1) default) (upd_same _ _ _) g6.wf (by have := g1.len; have := g2.len; have := g3.len; have := g4.len; have := g5.len; have := g6.len; omega) (((b4.get (by omega)).gr g5).gr g6) (fun F7 n7 o7 g7 b7 v7 => ?_)))
  refine vq rfl rfl (q_buildS sl40 zo3 (by decide) rfl rfl rfl rfl (by decide)) ?_
  refine vq rfl rfl (q_move rfl) ?_
  refine vq rfl rfl (q_callF go147 rfl (fun s => repeatI (x := o7) (w := (max (max pl.length (wd sz.length)) fw + 2)) (by omega) (by omega) ⟨rfl, rfl⟩)) ?_
  refine ve rfl rfl (e_callF go91 rfl (eachB (k := 3) (x := l6) (y := List.replicate (max (max pl.length (wd sz.length)) fw + 2) o7) (upd_same _ _ _) g7.wf (by have := g1.len; have := g2.len; have := g3.len; have := g4.len; have := g5.len; have := g6.len; have := g7.len; omega) (b6.gr g7) (BW.rep b7 _) (by omega) (by rw [List.length_replicate]; omega) (fun F8 n8 l8 g8 b8 le8 v8 => ?_)))
  refine vq rfl rfl (q_assign rfl) ?_
  refine vendW ?_
  refine vc_seq ?_
  refine vc_regionW (qm 23) [0, 1, 2, 3, 4] rfl rfl ?_
  refine vq rfl rfl (q_move rfl) ?_
  refine vq rfl rfl (q_move rfl) ?_
  refine vq rfl rfl (q_move rfl) ?_
  refine ve rfl rfl (e_callF go148 rfl (leftB (x := sz) (y := l8) (upd_same _ _ _) g8.wf (by have := g1.len; have := g2.len; have := g3.len; have := g4.len; have := g5.len; have := g6.len; have := g7.len; have := g8.len; omega) ((((((((hsz.gr g1).gr g2).gr g3).gr g4).gr g5).gr g6).gr g7).gr g8) b8 (by omega) (by omega) (by rw [le8, List.length_replicate]; omega) (fun F9 n9 l9 g9 b9 le9 v9 => ?_)))
  refine vq rfl rfl (q_assign rfl) ?_
  refine vendW ?_
  refine vc_seq ?_
  refine vc_regionW (qm 1519) [0, 1, 2, 3, 4, 5, 6, 7, 8, 9, 10] rfl rfl ?_
  refine vq rfl rfl (q_move rfl) ?_
  refine vq rfl rfl (q_move rfl) ?_
  refine vq rfl rfl (q_move rfl) ?_
  refine vq rfl rfl (q_move rfl) ?_
  refine ve rfl rfl (e_callF go149 rfl (sizeB (x := l4) (c := l4.getD ((max (max pl.length (wd sz.length)) fw + 2) - 1) default) (upd_same _ _ _) g9.wf (by have := g1.len; have := g2.len; have := g3.len; have := g4.len; have := g5.len; have := g6.len; have := g7.len; have := g8.len; have := g9.len; omega) (((((b4.gr g5).gr g6).gr g7).gr g8).gr g9) (by omega) ((((((b4.get (by omega)).gr g5).gr g6).gr g7).gr g8).gr g9) (fun F10 n10 l10 g10 b10 le10 v10 => ?_)))
  refine vq rfl rfl (q_move rfl) ?_
  refine vq rfl rfl (q_buildS sl40 zo3 (by decide) rfl rfl rfl rfl (by decide)) ?_
  refine vq rfl rfl (q_move rfl) ?_
  refine vq rfl rfl (q_callF go147 rfl (fun s => repeatI (x := l4.getD ((max (max pl.length (wd sz.length)) fw + 2) - 1) default) (w := (max (max pl.length (wd sz.length)) fw + 2)) (by omega) (by omega) ⟨rfl, rfl⟩)) ?_
  refine ve rfl rfl (e_callF go91 rfl (eachB (k := 3) (x := l10) (y := List.replicate (max (max pl.length (wd sz.length)) fw + 2) (l4.getD ((max (max pl.length (wd sz.length)) fw + 2) - 1) default)) (upd_same _ _ _) g10.wf (by have := g1.len; have := g2.len; have := g3.len; have := g4.len; have := g5.len; have := g6.len; have := g7.len; have := g8.len; have := g9.len; have := g10.len; omega) b10 (BW.rep (((((((b4.get (by omega)).gr g5).gr g6).gr g7).gr g8).gr g9).gr g10) _) (by omega) (by rw [List.length_replicate]; omega) (fun F11 n11 l11 g11 b11 le11 v11 => ?_)))
  refine vq rfl rfl (q_assign rfl) ?_
  refine vendW ?_
  refine vc_seq ?_
  refine vc_regionW (qm 503) [0, 1, 2, 3, 4, 5, 6, 7, 8] rfl rfl ?_
  refine vq rfl rfl (q_move rfl) ?_
  refine vq rfl rfl (q_move rfl) ?_
  refine vq rfl rfl (q_move rfl) ?_
  refine ve rfl rfl (e_callF go150 rfl (rightB (x := l9) (y := l11) (upd_same _ _ _) g11.wf (by have := g1.len; have := g2.len; have := g3.len; have := g4.len; have := g5.len; have := g6.len; have := g7.len; have := g8.len; have := g9.len; have := g10.len; have := g11.len; omega) ((b9.gr g10).gr g11) b11 (by omega) (by omega) (by rw [le11, List.length_replicate]; omega) (fun F12 n12 l12 o12 g12 b12 bo12 le12 v12 => ?_)))
  refine vq rfl rfl (q_move rfl) ?_
  refine vq rfl rfl (q_extract rfl rfl) ?_
  refine vq rfl rfl (q_extract rfl rfl) ?_
  refine vq rfl rfl (q_assign rfl) ?_
  refine vq rfl rfl (q_assign rfl) ?_
  refine vendW ?_
  refine vc_seq ?_
  refine vc_regionW (qm 11) [0, 1, 2, 3] rfl rfl ?_
  refine vq rfl rfl (q_move rfl) ?_
  refine vq rfl rfl (q_move rfl) ?_
  refine ve rfl rfl (e_callF go90 rfl (foldB (k := 4) (x := sz) (upd_same _ _ _) g12.wf (by have := g1.len; have := g2.len; have := g3.len; have := g4.len; have := g5.len; have := g6.len; have := g7.len; have := g8.len; have := g9.len; have := g10.len; have := g11.len; have := g12.len; omega) ((((((((((((hsz.gr g1).gr g2).gr g3).gr g4).gr g5).gr g6).gr g7).gr g8).gr g9).gr g10).gr g11).gr g12) (by omega) (fun F13 n13 o13 g13 b13 v13 => ?_)))
  refine vq rfl rfl (q_assign rfl) ?_
  refine vendW ?_
  refine vc_seq ?_
  refine vc_regionW (qm 79) [0, 1, 2, 3, 4, 5, 6] rfl rfl ?_
  refine vq rfl rfl (q_move rfl) ?_
  refine vq rfl rfl (q_move rfl) ?_
  refine vq rfl rfl (q_move rfl) ?_
  refine vq rfl rfl (q_move rfl) ?_
  refine ve rfl rfl (e_callF go89 rfl (notB (x := l5.getD ((max (max pl.length (wd sz.length)) fw + 2) - 1) default) (upd_same _ _ _) g13.wf (by have := g1.len; have := g2.len; have := g3.len; have := g4.len; have := g5.len; have := g6.len; have := g7.len; have := g8.len; have := g9.len; have := g10.len; have := g11.len; have := g12.len; have := g13.len; omega) (((((((((b5.get (by omega)).gr g6).gr g7).gr g8).gr g9).gr g10).gr g11).gr g12).gr g13) (fun F14 n14 o14 g14 b14 v14 => ?_)))
  refine ve rfl rfl (e_callF go103 rfl (andB (x := o13) (y := o14) (upd_same _ _ _) g14.wf (by have := g1.len; have := g2.len; have := g3.len; have := g4.len; have := g5.len; have := g6.len; have := g7.len; have := g8.len; have := g9.len; have := g10.len; have := g11.len; have := g12.len; have := g13.len; have := g14.len; omega) (b13.gr g14) b14 (fun F15 n15 o15 g15 b15 v15 => ?_)))
  refine vq rfl rfl (q_assign rfl) ?_
  refine vendW ?_
  refine vc_seq ?_
  refine vc_regionDW mx (qm 3813519917055) [0, 1, 2, 3, 4, 5, 6, 7, 8, 9, 10, 11, 12, 13, 14, 15, 16, 17, 18, 19, 20, 21, 22, 24, 25, 26, 29, 30, 31, 32, 33, 36, 37, 38, 40, 23, 27, 28, 34, 35, 39, 41, 42] (by kernel_rfl) ?_
  refine vq rfl rfl (q_move rfl) ?_
  refine vq rfl rfl (q_move rfl) ?_
  refine vq rfl rfl (q_field fo63_1 rfl (Nat.le_of_ble_eq_true rfl)) ?_
  refine vq rfl rfl (q_load sc3 rfl) ?_
  refine vq rfl rfl (q_sub rfl rfl (show _ = (((sz.length - fp) : Nat) : Int) by rw [w64 (by omega)]; omega)) ?_
  refine vq rfl rfl (q_sliceM (f := eI) (xs := l12) (sz.length - fp) l12.length sl40 rfl rfl rfl rfl (by simp) (by omega)) ?_
  refine vq rfl rfl (q_move rfl) ?_
  refine vq rfl rfl (q_move rfl) ?_
  refine vq rfl rfl (q_field fo63_1 rfl (Nat.le_of_ble_eq_true rfl)) ?_
  refine vq rfl rfl (q_load sc3 rfl) ?_
  refine vq rfl rfl (q_sub rfl rfl (show _ = (((sz.length - fp) : Nat) : Int) by rw [w64 (by omega)]; omega)) ?_
  refine vq rfl rfl (q_sub rfl rfl (show _ = ((((sz.length - fp) - 1) : Nat) : Int) by rw [w64 (by omega)]; omega)) ?_
  refine vq rfl rfl (q_index sl40 rfl rfl (by omega) (by first | exact nthI (by omega) | exact nthM (by omega))) ?_
  refine vq rfl rfl (q_load sc3 rfl) ?_
  refine vq rfl rfl (q_move rfl) ?_
  refine vq rfl rfl (q_move rfl) ?_
  refine vq rfl rfl (q_move rfl) ?_
  refine vq rfl rfl (q_move rfl) ?_
  refine vq rfl rfl (q_field fo63_1 rfl (Nat.le_of_ble_eq_true rfl)) ?_
  refine vq rfl rfl (q_load sc3 rfl) ?_
  refine vq rfl rfl (q_sub rfl rfl (show _ = (((sz.length - fp) : Nat) : Int) by rw [w64 (by omega)]; omega)) ?_
  refine vq rfl rfl (q_sub rfl rfl (show _ = ((((sz.length - fp) - 1) : Nat) : Int) by rw [w64 (by omega)]; omega)) ?_
  refine vq rfl rfl (q_sliceM (f := eI) (xs := l12) 0 ((sz.length - fp) - 1) sl40 rfl rfl rfl (by simp) rfl (by omega)) ?_
  refine vq rfl rfl (q_move rfl) ?_
  refine vq rfl rfl (q_move rfl) ?_
  refine vq rfl rfl (q_move rfl) ?_
  refine vq rfl rfl (q_move rfl) ?_
  refine vq rfl rfl (q_move rfl) ?_
  refine vq rfl rfl (q_move rfl) ?_
  refine vq rfl rfl (q_buildS sl40 zo3 (by decide) rfl rfl rfl rfl (by decide)) ?_
  refine vq rfl rfl (q_move rfl) ?_
  refine vq rfl rfl (q_move rfl) ?_
  refine vq rfl rfl (q_move rfl) ?_
  refine vq rfl rfl (q_move rfl) ?_
  refine vq rfl rfl (q_move rfl) ?_
  refine ve rfl rfl (e_callF go90 rfl (foldB (k := 4) (x := l12.take ((sz.length - fp) - 1)) (upd_same _ _ _) g15.wf (by have := g1.len; have := g2.len; have := g3.len; have := g4.len; have := g5.len; have := g6.len; have := g7.len; have := g8.len; have := g9.len; have := g10.len; have := g11.len; have := g12.len; have := g13.len; have := g14.len; have := g15.len; omega) ((((b12.gr g13).gr g14).gr g15).take _) (by rw [List.length_take]; omega) (fun F16 n16 o16 g16 b16 v16 => ?_)))
  refine ve rfl rfl (e_callF go102 rfl (orB (x := more) (y := o12) (upd_same _ _ _) g16.wf (by have := g1.len; have := g2.len; have := g3.len; have := g4.len; have := g5.len; have := g6.len; have := g7.len; have := g8.len; have := g9.len; have := g10.len; have := g11.len; have := g12.len; have := g13.len; have := g14.len; have := g15.len; have := g16.len; omega) ((((((((((((((((hm.gr g1).gr g2).gr g3).gr g4).gr g5).gr g6).gr g7).gr g8).gr g9).gr g10).gr g11).gr g12).gr g13).gr g14).gr g15).gr g16) ((((bo12.gr g13).gr g14).gr g15).gr g16) (fun F17 n17 o17 g17 b17 v17 => ?_)))
  refine ve rfl rfl (e_callF go102 rfl (orB (x := o16) (y := o17) (upd_same _ _ _) g17.wf (by have := g1.len; have := g2.len; have := g3.len; have := g4.len; have := g5.len; have := g6.len; have := g7.len; have := g8.len; have := g9.len; have := g10.len; have := g11.len; have := g12.len; have := g13.len; have := g14.len; have := g15.len; have := g16.len; have := g17.len; omega) (b16.gr g17) b17 (fun F18 n18 o18 g18 b18 v18 => ?_)))
  refine vq rfl rfl (q_callF go147 rfl (fun s => repeatI (x := o15) (w := (max (max pl.length (wd sz.length)) fw + 2)) (by omega) (by omega) ⟨rfl, rfl⟩)) ?_
  refine ve rfl rfl (e_callF go91 rfl (eachB (k := 3) (x := l5) (y := List.replicate (max (max pl.length (wd sz.length)) fw + 2) o15) (upd_same _ _ _) g18.wf (by have := g1.len; have := g2.len; have := g3.len; have := g4.len; have := g5.len; have := g6.len; have := g7.len; have := g8.len; have := g9.len; have := g10.len; have := g11.len; have := g12.len; have := g13.len; have := g14.len; have := g15.len; have := g16.len; have := g17.len; have := g18.len; omega) (((((((((((((b5.gr g6).gr g7).gr g8).gr g9).gr g10).gr g11).gr g12).gr g13).gr g14).gr g15).gr g16).gr g17).gr g18) (BW.rep (((b15.gr g16).gr g17).gr g18) _) (by omega) (by rw [List.length_replicate]; omega) (fun F19 n19 l19 g19 b19 le19 v19 => ?_)))
  refine ve rfl rfl (e_callF go103 rfl (andB (x := l5.getD ((max (max pl.length (wd sz.length)) fw + 2) - 1) default) (y := o13) (upd_same _ _ _) g19.wf (by have := g1.len; have := g2.len; have := g3.len; have := g4.len; have := g5.len; have := g6.len; have := g7.len; have := g8.len; have := g9.len; have := g10.len; have := g11.len; have := g12.len; have := g13.len; have := g14.len; have := g15.len; have := g16.len; have := g17.len; have := g18.len; have := g19.len; omega) (((((((((((((((b5.get (by omega)).gr g6).gr g7).gr g8).gr g9).gr g10).gr g11).gr g12).gr g13).gr g14).gr g15).gr g16).gr g17).gr g18).gr g19) ((((((b13.gr g14).gr g15).gr g16).gr g17).gr g18).gr g19) (fun F20 n20 o20 g20 b20 v20 => ?_)))
  refine vq rfl rfl (q_build pl158 zr158 rfl rfl) ?_
  refine vn rfl rfl (e_storeN sz158 rfl rfl rfl rfl (by simp only [upd_upd]; rw [upd_ne _ _ hkp]; exact upd_same _ _ _) rfl ?_)
  refine vendW ?_
  refine vc_ret ?_
  have hle := le_local1 (B := bld F20 n20 ins outs) (Z := .cells (List.map AV.v [.slice none 0 0, .int .i64 0, .int .i64 0, .slice none 0 0, .int .i64 0, .int .i64 0])) (C2 := .cells [ints ((l12.take l12.length).drop (sz.length - fp)), .int (l12.getD ((sz.length - fp) - 1) default), .int o18, ints l19, .int o20, .int o13]) hk10 hkp
  refine retC rfl ag158 rfl (upd_same _ _ _) rfl (by simp only [upd_upd]; exact hle) (by simp only [upd_upd]; exact Cv.le hle _) (hk F20 n20 ((l12.take l12.length).drop (sz.length - fp)) (l12.getD ((sz.length - fp) - 1) default) o18 l19 o20 o13 (((((((((((((((((((g1.trans g2 (Nat.le_refl _)).trans g3 (Nat.le_refl _)).trans g4 (Nat.le_refl _)).trans g5 (Nat.le_refl _)).trans g6 (Nat.le_refl _)).trans g7 (Nat.le_refl _)).trans g8 (Nat.le_refl _)).trans g9 (Nat.le_refl _)).trans g10 (Nat.le_refl _)).trans g11 (Nat.le_refl _)).trans g12 (Nat.le_refl _)).trans g13 (Nat.le_refl _)).trans g14 (Nat.le_refl _)).trans g15 (Nat.le_refl _)).trans g16 (Nat.le_refl _)).trans g17 (Nat.le_refl _)).trans g18 (Nat.le_refl _)).trans g19 (Nat.le_refl _)).trans g20 (by omega)) ((((((((((b12.gr g13).gr g14).gr g15).gr g16).gr g17).gr g18).gr g19).gr g20).take _).drop _) (((((((((b12.gr g13).gr g14).gr g15).gr g16).gr g17).gr g18).gr g19).gr g20).get (by omega)) ((b18.gr g19).gr g20) (b19.gr g20) b20 (((((((b13.gr g14).gr g15).gr g16).gr g17).gr g18).gr g19).gr g20) (by rw [List.length_drop, List.length_take]; omega) (by rw [le19, List.length_replicate]; omega) (fun v hu => ?_))
  have w1 := v1 v (((((((((((((((((((hu.gr g20).gr g19).gr g18).gr g17).gr g16).gr g15).gr g14).gr g13).gr g12).gr g11).gr g10).gr g9).gr g8).gr g7).gr g6).gr g5).gr g4).gr g3).gr g2)
  have w2 := v2 v ((((((((((((((((((hu.gr g20).gr g19).gr g18).gr g17).gr g16).gr g15).gr g14).gr g13).gr g12).gr g11).gr g10).gr g9).gr g8).gr g7).gr g6).gr g5).gr g4).gr g3)
  have w3 := v3 v (((((((((((((((((hu.gr g20).gr g19).gr g18).gr g17).gr g16).gr g15).gr g14).gr g13).gr g12).gr g11).gr g10).gr g9).gr g8).gr g7).gr g6).gr g5).gr g4)
  have w4 := v4 v ((((((((((((((((hu.gr g20).gr g19).gr g18).gr g17).gr g16).gr g15).gr g14).gr g13).gr g12).gr g11).gr g10).gr g9).gr g8).gr g7).gr g6).gr g5)
  have w5 := v5 v (((((((((((((((hu.gr g20).gr g19).gr g18).gr g17).gr g16).gr g15).gr g14).gr g13).gr g12).gr g11).gr g10).gr g9).gr g8).gr g7).gr g6)
  have w6 := v6 v ((((((((((((((hu.gr g20).gr g19).gr g18).gr g17).gr g16).gr g15).gr g14).gr g13).gr g12).gr g11).gr g10).gr g9).gr g8).gr g7)
  have w7 := v7 v (((((((((((((hu.gr g20).gr g19).gr g18).gr g17).gr g16).gr g15).gr g14).gr g13).gr g12).gr g11).gr g10).gr g9).gr g8)
  have w8 := v8 v ((((((((((((hu.gr g20).gr g19).gr g18).gr g17).gr g16).gr g15).gr g14).gr g13).gr g12).gr g11).gr g10).gr g9)
  have w9 := v9 v (((((((((((hu.gr g20).gr g19).gr g18).gr g17).gr g16).gr g15).gr g14).gr g13).gr g12).gr g11).gr g10)
  have w10 := v10 v ((((((((((hu.gr g20).gr g19).gr g18).gr g17).gr g16).gr g15).gr g14).gr g13).gr g12).gr g11)
  have w11 := v11 v (((((((((hu.gr g20).gr g19).gr g18).gr g17).gr g16).gr g15).gr g14).gr g13).gr g12)
  have w12 := v12 v ((((((((hu.gr g20).gr g19).gr g18).gr g17).gr g16).gr g15).gr g14).gr g13)
  have w13 := v13 v (((((((hu.gr g20).gr g19).gr g18).gr g17).gr g16).gr g15).gr g14)
  have w14 := v14 v ((((((hu.gr g20).gr g19).gr g18).gr g17).gr g16).gr g15)
  have w15 := v15 v (((((hu.gr g20).gr g19).gr g18).gr g17).gr g16)
  have w16 := v16 v ((((hu.gr g20).gr g19).gr g18).gr g17)
  have w17 := v17 v (((hu.gr g20).gr g19).gr g18)
  have w18 := v18 v ((hu.gr g20).gr g19)
  have w19 := v19 v (hu.gr g20)
  have w20 := v20 v hu
  rw [sgL_len, le3, Nat.max_self] at w4
  rw [le4, le2, Nat.max_self] at w5
  exact shift_join v (co5 := co5) hP hPn h1p rfl le4 le5 (by omega) w1 w2 w3 w4 w5 w6 w7 w8 w9 w10 w11 w12 w13 w14 w15 w16 w17 w18 w19 w20
end Go.Proofs.Ytpcpdepfnoijoaa

set_option linter.unusedVariables false
set_option linter.unusedSimpArgs false
namespace Go.Vc
theorem CallsA.cv {P : Program} {f : FuncId} {avs avs' : List AV} {s s0 : St} {K : AV → St → Prop} (hle : Le s0 s) (hc : Cvs s s0 avs avs') (h : CallsA P f avs' s0 K) : CallsA P f avs s K :=
  fun w vs hs hr => (h w vs (hs.le hle) (hc w vs hs hr)).mono fun e' w' he => by
    cases e' with
    | returned v =>
      obtain ⟨r, s', h1, h2, h3, h4⟩ := he
      exact ⟨r, s', h1, h2, (Fr.of_le hle).trans h3, h4⟩
    | panicked c => exact he
    | outgrown => exact he
section
variable {P : Program} {env : Env} {s : St} {d : Option Nat} {ty : TypeId} {pos : String} {af : Array Edge} {gd : Option (Nat × Bool)}
variable {a b : Operand} {t : TypeId}
theorem q_indexB {n e : Nat} {cs : List AV} {k : IntKind} {m : Int} (hT : arT P t = some (n, e, 1)) (ha : evA env a = some (.box cs)) (hb : evA env b = some (.v (.int k m))) (h0 : 0 ≤ m) (h1 : m < n) (hn : n ≤ cs.length) :
    QOK P ⟨d, .indexAddr t a b, ty, pos, af, gd⟩ env (.box (cs.drop m.toNat)) :=
  q_of fun w s ρ hs hr => by
    obtain ⟨bl, off, us, g1, g3, g4⟩ := hr.1 a (by simp [Op.operands]) _ ha
    have g2 : ρ b = _ := hr.1 b (by simp [Op.operands]) _ hb
    unfold arT at hT
    cases hu : P.underlying t with
    | none => simp [hu] at hT
    | some du =>
      cases du with
      | array n' e' =>
        simp only [hu] at hT
        cases hi : P.info? e' with
        | none => simp [hi] at hT
        | some i =>
          simp only [hi, Option.map_some, Option.some.injEq, Prod.mk.injEq] at hT
          obtain ⟨rfl, rfl, hz⟩ := hT
          have hcs : cs = cs.take m.toNat ++ cs.drop m.toNat := (List.take_append_drop _ _).symm
          rw [hcs] at g3
          obtain ⟨u1, u2, rfl, q1, q2⟩ := RepL.append.1 g3
          have hl : u1.length = m.toNat := by rw [RepL.length q1, List.length_take]; omega
          refine ⟨.pointer (some ⟨bl, off + m.toNat, none⟩), ?_, bl, off + m.toNat, u2, rfl, q2, by rw [← hl]; exact g4.drop⟩
          simp [execOp, g1, g2, Instr.indexAt, asIntOf, run_underlying hu, Instr.sureAddr, h0, h1, sizeOf, typeInfo, hi, hz, Addr.add_lit]
      | _ => simp [hu] at hT
end
theorem len5 {l : List Int} (h : l.length = 5) : ∃ a b c d e, l = [a, b, c, d, e] := by
  match l, h with
  | [a, b, c, d, e], _ => exact ⟨a, b, c, d, e, rfl⟩
theorem trimN_zero (l : List Int) : ∀ n j, trimN l n ≤ j → j < n → l.getD j 0 = 0
  | 0, j, _, h => by omega
  | n + 1, j, h1, h2 => by
    unfold trimN at h1
    split at h1
    · rename_i h3
      by_cases e : j = n
      · rw [e]; exact h3
      · exact trimN_zero l n j h1 (by omega)
    · omega
theorem trim_get (l : List Int) (j : Nat) : (natTrim l).getD j 0 = l.getD j 0 := by
  unfold natTrim
  rcases Nat.lt_or_ge j (trimN l l.length) with h | h
  · simp [List.getD_eq_getElem?_getD, List.getElem?_take, h]
  · have e1 : (l.take (trimN l l.length)).getD j 0 = 0 := by simp [List.getD_eq_getElem?_getD, List.getElem?_take, Nat.not_lt.2 h]
    rw [e1]
    rcases Nat.lt_or_ge j l.length with h2 | h2
    · exact (trimN_zero l l.length j h h2).symm
    · simp [List.getD_eq_getElem?_getD, h2]
theorem cast_bit (A j : Nat) : (A : Int) / 2 ^ j % 2 = ((A / 2 ^ j % 2 : Nat) : Int) := by push_cast; rfl
theorem mod_div_bit {N j k : Nat} (h : j < k) : N % 2 ^ k / 2 ^ j % 2 = N / 2 ^ j % 2 := by
  have h1 := Nat.testBit_mod_two_pow N k j
  rw [Nat.testBit_eq_decide_div_mod_eq, Nat.testBit_eq_decide_div_mod_eq, decide_eq_true h, Bool.true_and] at h1
  have h2 := decide_eq_decide.1 h1
  rcases Nat.mod_two_eq_zero_or_one (N % 2 ^ k / 2 ^ j) with h3 | h3 <;> rcases Nat.mod_two_eq_zero_or_one (N / 2 ^ j) with h4 | h4
  · rw [h3, h4]
  · exact absurd (h2.2 h4) (by rw [h3]; decide)
  · exact absurd (h2.1 h3) (by rw [h4]; decide)
  · rw [h3, h4]
theorem natBit_of {N j : Nat} (hN : N < 2 ^ 64) (hj : j < 64) : natBit (natTrim [(N : Int) % 4294967296, (N : Int) / 4294967296]) j = ((N / 2 ^ j % 2 : Nat) : Int) := by
  unfold natBit
  rw [trim_get]
  rcases Nat.lt_or_ge j 32 with h | h
  · rw [show j / 32 = 0 by omega, show j % 32 = j by omega]
    show (N : Int) % 4294967296 / 2 ^ j % 2 = _
    have e : (N : Int) % 4294967296 = ((N % 4294967296 : Nat) : Int) := by omega
    rw [e, cast_bit, show (4294967296 : Nat) = 2 ^ 32 from rfl, mod_div_bit h]
  · rw [show j / 32 = 1 by omega]
    show (N : Int) / 4294967296 / 2 ^ (j % 32) % 2 = _
    obtain ⟨d, hd⟩ := Nat.exists_eq_add_of_le h
    rw [show j % 32 = d by omega, hd]
    have e : N / 2 ^ (32 + d) = N / 4294967296 / 2 ^ d := by rw [Nat.pow_add, ← Nat.div_div_eq_div_mul]
    have e2 : (N : Int) / 4294967296 = ((N / 4294967296 : Nat) : Int) := by omega
    rw [e, e2, cast_bit]
theorem u32_of {N : Nat} (hN : N < 2 ^ 64) : U32 (natTrim [(N : Int) % 4294967296, (N : Int) / 4294967296]) := natTrim_u32 (by
  intro n hn
  simp at hn
  rcases hn with rfl | rfl <;> omega)
theorem wv_word (v : Nat → Bool) {l : List Int} {w N : Nat} (hN : N < 2 ^ 64) (hw : w ≤ 64) (hl : l.length = w) (h : ∀ j, j < w → bv v (l.getD j default) = !decide (natBit (natTrim [(N : Int) % 4294967296, (N : Int) / 4294967296]) j = 0)) : wv v l = N % 2 ^ w := by
  subst hl
  refine wv_ext (Nat.mod_lt _ (Nat.pow_pos (by decide))) fun i hi => ?_
  rw [h i hi, natBit_of hN (by omega), Nat.testBit_mod_two_pow, decide_eq_true hi, Bool.true_and, Nat.testBit_eq_decide_div_mod_eq]
  rcases Nat.mod_two_eq_zero_or_one (N / 2 ^ i) with h2 | h2 <;> rw [h2] <;> rfl
theorem shlU {m i : Nat} (h : m * 2 ^ i < 2 ^ 64) (hi : i ≤ 64) : IntKind.u64.wrap ((m : Int) * 2 ^ (min (i : Int).toNat IntKind.u64.bits)) = ((m * 2 ^ i : Nat) : Int) := by
  have h1 : min (i : Int).toNat IntKind.u64.bits = i := by
    rw [show IntKind.u64.bits = 64 from rfl, Int.toNat_natCast]; omega
  have e : (m : Int) * 2 ^ i = ((m * 2 ^ i : Nat) : Int) := by push_cast; rfl
  rw [h1, e, IntKind.wrap_u64, Int.emod_eq_of_lt (by omega) (by omega)]
theorem or0 {N : Nat} (h : N < 2 ^ 64) : bitsV .or .u64 0 (N : Int) = (N : Int) := by
  show IntKind.u64.wrap (((BitVec.ofInt 64 0 ||| BitVec.ofInt 64 (N : Int)).toNat : Nat) : Int) = _
  have h2 : (BitVec.ofInt 64 0 ||| BitVec.ofInt 64 (N : Int)).toNat = N := by
    rw [BitVec.toNat_or]
    have e1 : (BitVec.ofInt 64 (N : Int)).toNat = N := by
      rw [BitVec.toNat_ofInt, Int.emod_eq_of_lt (by omega) (by show (N : Int) < 18446744073709551616; omega)]; rfl
    have e2 : (BitVec.ofInt 64 0).toNat = 0 := rfl
    rw [e1, e2, Nat.zero_or]
  rw [h2, IntKind.wrap_u64, Int.emod_eq_of_lt (by omega) (by omega)]
def infN (fp fw : Nat) : Nat := (2 ^ fw - 1) * 2 ^ (fp - 1)
theorem infN_lt {fp fw : Nat} (h : fp - 1 + fw ≤ 63) : infN fp fw < 2 ^ 63 := by
  unfold infN
  have h1 : 0 < 2 ^ (fp - 1) := Nat.pow_pos (by decide)
  have h2 : 0 < 2 ^ fw := Nat.pow_pos (by decide)
  have h3 : (2 ^ fw - 1) * 2 ^ (fp - 1) < 2 ^ fw * 2 ^ (fp - 1) := Nat.mul_lt_mul_of_pos_right (by omega) h1
  rw [← Nat.pow_add] at h3
  exact Nat.lt_of_lt_of_le h3 (Nat.pow_le_pow_right (by decide) (by omega))
theorem infN_pos {fp fw : Nat} (h : 1 ≤ fw) : 1 ≤ infN fp fw := by
  unfold infN
  have h2 : 2 ^ 1 ≤ 2 ^ fw := Nat.pow_le_pow_right (by decide) h
  exact Nat.mul_pos (by omega) (Nat.pow_pos (by decide))
theorem pow_lt64 {i : Nat} (h : i ≤ 63) : 2 ^ i < 2 ^ 64 := Nat.pow_lt_pow_right (by decide) (by omega)
theorem mask_sub {n : Nat} (h : n ≤ 63) : IntKind.u64.wrap (((1 * 2 ^ n : Nat) : Int) - 1) = ((2 ^ n - 1 : Nat) : Int) := by
  have h1 := pow_lt64 h
  have h2 : 0 < 2 ^ n := Nat.pow_pos (by decide)
  rw [Nat.one_mul, IntKind.wrap_u64]
  generalize 2 ^ n = m at *
  rw [Int.emod_eq_of_lt (by omega) (by omega)]; omega
theorem great_sub {fp fw : Nat} (h2 : 1 ≤ fw) (h3 : fp - 1 + fw ≤ 63) : IntKind.u64.wrap (((infN fp fw : Nat) : Int) - 1) = ((infN fp fw - 1 : Nat) : Int) := by
  have h1 := infN_lt h3
  have h4 := infN_pos (fp := fp) h2
  rw [IntKind.wrap_u64]
  generalize infN fp fw = m at *
  rw [Int.emod_eq_of_lt (by omega) (by omega)]; omega
end Go.Vc

set_option linter.unusedVariables false
set_option linter.unusedSimpArgs false
set_option maxRecDepth 100000
namespace Go.Proofs.Ytpcpdepfnoijoaa
open Go.Vc
theorem noughtF {fb fp fw : Nat} {s : St} {K : AV → St → Prop} (hk : K (.v (.int .u64 0)) s) : CallsA Try.prog 156 [fmA fb fp fw, .bool false] s K := by
  refine callsA_of Try.func156 rfl rfl (Nat.le_of_ble_eq_true rfl) ?_
  refine vc_seq ?_
  refine vc_regionW (qm 3) [0, 1] rfl rfl ?_
  refine vq rfl rfl (q_box rfl rfl) ?_
  refine vq rfl rfl (q_assign rfl) ?_
  refine vendW ?_
  refine vc_seq ?_
  refine vc_seq ?_
  refine vc_regionW (qm 1) [0] rfl rfl ?_
  refine vq rfl rfl (q_move rfl) ?_
  refine vendW ?_
  refine vc_condF rfl (by rfl) ?_
  refine vc_skip ?_
  refine vc_seq ?_
  refine vc_regionW (qm 1) [0] rfl rfl ?_
  refine vq rfl rfl (q_assign rfl) ?_
  refine vendW ?_
  refine vc_ret ?_
  exact ret1 rfl rfl (Le.refl _) (Cv.le (Le.refl _) _) hk
theorem maskN {n : Nat} {s : St} {K : AV → St → Prop} (hn : n ≤ 63) (hk : K (.v (.int .u64 ((2 ^ n - 1 : Nat) : Int))) s) : CallsA Try.prog 157 [.int (n : Int)] s K := by
  refine callsA_of Try.func157 rfl rfl (Nat.le_of_ble_eq_true rfl) ?_
  refine vc_seq ?_
  refine vc_regionW (qm 1) [0] rfl rfl ?_
  refine vq rfl rfl (q_assign rfl) ?_
  refine vendW ?_
  refine vc_seq ?_
  refine vc_regionW (qm 15) [0, 1, 2, 3] rfl rfl ?_
  refine vq rfl rfl (q_move rfl) ?_
  refine vq rfl rfl (q_shl rfl rfl (by omega) (shlU (m := 1) (i := n) (by rw [Nat.one_mul]; exact pow_lt64 hn) (by omega))) ?_
  refine vq rfl rfl (q_sub rfl rfl (mask_sub hn)) ?_
  refine vq rfl rfl (q_assign rfl) ?_
  refine vendW ?_
  refine vc_ret ?_
  exact ret1 rfl rfl (Le.refl _) (Cv.le (Le.refl _) _) hk
theorem infF {fb fp fw : Nat} {s : St} {K : AV → St → Prop} (h1 : 1 ≤ fp) (h2 : 1 ≤ fw) (h3 : fp - 1 + fw ≤ 63) (hk : K (.v (.int .u64 ((infN fp fw : Nat) : Int))) s) : CallsA Try.prog 107 [fmA fb fp fw, .bool false] s K := by
  refine callsA_of Try.func107 rfl rfl (Nat.le_of_ble_eq_true rfl) ?_
  refine vc_seq ?_
  refine vc_regionW (qm 3) [0, 1] rfl rfl ?_
  refine vq rfl rfl (q_box rfl rfl) ?_
  refine vq rfl rfl (q_assign rfl) ?_
  refine vendW ?_
  refine vc_seq ?_
  refine vc_regionDW mx (qm 4095) [0, 1, 2, 3, 4, 5, 6, 7, 8, 9, 10, 11] (by kernel_rfl) ?_
  refine vq rfl rfl (q_loadA ag63 rfl rfl) ?_
  refine vq rfl rfl (q_move rfl) ?_
  refine vq rfl rfl (q_callF go156 rfl (fun s => noughtF ⟨rfl, rfl⟩)) ?_
  refine vq rfl rfl (q_field fo63_2 rfl (Nat.le_of_ble_eq_true rfl)) ?_
  refine vq rfl rfl (q_load sc3 rfl) ?_
  refine vq rfl rfl (q_callF go157 rfl (fun s => maskN (n := fw) (by omega) ⟨rfl, rfl⟩)) ?_
  refine vq rfl rfl (q_field fo63_1 rfl (Nat.le_of_ble_eq_true rfl)) ?_
  refine vq rfl rfl (q_load sc3 rfl) ?_
  refine vq rfl rfl (q_sub rfl rfl (show _ = ((fp - 1 : Nat) : Int) by rw [w64 (by omega)]; omega)) ?_
  refine vq rfl rfl (q_shl rfl rfl (by omega) (shlU (m := 2 ^ fw - 1) (i := fp - 1) (Nat.lt_trans (infN_lt h3) (by decide)) (by omega))) ?_
  refine vq rfl rfl (q_or rfl rfl (or0 (Nat.lt_trans (infN_lt h3) (by decide)))) ?_
  refine vq rfl rfl (q_assign rfl) ?_
  refine vendW ?_
  refine vc_ret ?_
  exact ret1 rfl rfl (Le.refl _) (Cv.le (Le.refl _) _) hk
theorem greatF {fb fp fw : Nat} {s : St} {K : AV → St → Prop} (h1 : 1 ≤ fp) (h2 : 1 ≤ fw) (h3 : fp - 1 + fw ≤ 63) (hk : K (.v (.int .u64 ((infN fp fw - 1 : Nat) : Int))) s) : CallsA Try.prog 108 [fmA fb fp fw, .bool false] s K := by
  refine callsA_of Try.func108 rfl rfl (Nat.le_of_ble_eq_true rfl) ?_
  refine vc_seq ?_
  refine vc_regionW (qm 3) [0, 1] rfl rfl ?_
  refine vq rfl rfl (q_box rfl rfl) ?_
  refine vq rfl rfl (q_assign rfl) ?_
  refine vendW ?_
  refine vc_seq ?_
  refine vc_regionW (qm 31) [0, 1, 2, 3, 4] rfl rfl ?_
  refine vq rfl rfl (q_loadA ag63 rfl rfl) ?_
  refine vq rfl rfl (q_move rfl) ?_
  refine vq rfl rfl (q_callF go107 rfl (fun s => infF h1 h2 h3 ⟨rfl, rfl⟩)) ?_
  refine vq rfl rfl (q_sub rfl rfl (great_sub h2 h3)) ?_
  refine vq rfl rfl (q_assign rfl) ?_
  refine vendW ?_
  refine vc_ret ?_
  exact ret1 rfl rfl (Le.refl _) (Cv.le (Le.refl _) _) hk
theorem putB {p : Nat} {F : List Nat} {nd : List Nd} {ins outs : List Pt} {s : St} {K : AV → St → Prop} (hp : s p = some (bld F nd ins outs)) (hw : WfB nd) (hn : nd.length + 1000 < 2^39) {fb fp fw : Nat} {sg : Int} {N : Nat} (hs : B1 nd sg) (hN : N < 2^64) (hfb : 2 ≤ fb) (hfb2 : fb ≤ 64) (hk : ∀ F2 n2 l, Gr nd n2 1000 → BW n2 l → l.length = fb → (∀ v, Mod v n2 → wv v l = N % 2 ^ (fb - 1) + 2 ^ (fb - 1) * (bv v sg).toNat) → K (ints l) (upd s p (bld F2 n2 ins outs))) : CallsA Try.prog 106 [ptv p 0, fmA fb fp fw, .int sg, .v (.int .u64 (N : Int))] s K := by
  refine callsA_of Try.func106 rfl rfl (Nat.le_of_ble_eq_true rfl) ?_
  refine vc_seq ?_
  refine vc_regionW (qm 3) [0, 1] rfl rfl ?_
  refine vq rfl rfl (q_box rfl rfl) ?_
  refine vq rfl rfl (q_assign rfl) ?_
  refine vendW ?_
  refine vc_seq ?_
  refine vc_regionDW mx (qm 1471) [0, 1, 2, 3, 4, 5, 7, 8, 6, 9, 10] (by kernel_rfl) ?_
  refine vq rfl rfl (q_move rfl) ?_
  refine vq rfl rfl (q_move rfl) ?_
  refine vq rfl rfl (q_callF go50 rfl (fun s => of (n := (N : Int)) (by omega) (by omega) ⟨rfl, rfl⟩)) ?_
  refine vq rfl rfl (q_field fo63_0 rfl (Nat.le_of_ble_eq_true rfl)) ?_
  refine vq rfl rfl (q_load sc3 rfl) ?_
  refine vq rfl rfl (q_sub rfl rfl (show _ = ((fb - 1 : Nat) : Int) by rw [w64 (by omega)]; omega)) ?_
  refine vq rfl rfl (q_move rfl) ?_
  refine vq rfl rfl (q_buildS sl40 zo3 (by decide) rfl rfl rfl rfl (by decide)) ?_
  refine ve rfl rfl (e_callF go155 rfl (CallsA.le (ALes.cons (ALe.refl _) (ALes.cons (ale_slx 1 _) (ALes.cons (ALe.refl _) ALes.nil))) (wordB (n := natTrim [(N : Int) % 4294967296, (N : Int) / 4294967296]) (w := fb - 1) hp hw (by omega) (Nat.lt_of_le_of_lt (natTrim_len _) (by simp)) (u32_of hN) (by omega) (fun F2 n2 l y s1 g2 b2 l2 v2 ho => ?_))))
  refine ve rfl rfl (e_append sl40 zo3 rfl rfl ho (SrcOK.slx 1 _) (rowsC1_one rfl) (by simp [maxLen_eq]; omega) (fun x3 s3 ho3 => ?_))
  refine vq rfl rfl (q_assign rfl) ?_
  refine vendW ?_
  refine vc_ret ?_
  exact ret1 rfl rfl ho3.le ho3.frz (by
    have h := hk F2 n2 (l ++ [sg]) g2 (b2.app (BW.one (hs.gr g2))) (by rw [List.length_append, l2, List.length_singleton]; omega) (fun v hu => by rw [wv_snoc, l2, wv_word v hN (by omega) l2 (v2 v hu)])
    rw [ints, List.map_append] at h
    exact h)
end Go.Proofs.Ytpcpdepfnoijoaa

set_option linter.unusedVariables false
set_option linter.unusedSimpArgs false
namespace Go.Vc
def pinex (N : Nat) (s : Int) (more : Bool) : Bool := phalf N s || (pless N s || more)
def pup (M : Nat) (sg : Bool) (N : Nat) (s : Int) (more : Bool) : Bool :=
  (phalf N s && (decide (M = 4) || (decide (M = 0) && ((pless N s || more) || (ptop N s).testBit 0)))) || (((decide (M = 2) && sg) || (decide (M = 3) && !sg)) && pinex N s more)
def pall (P M : Nat) (sg : Bool) (N : Nat) (p : Int) (more : Bool) : Nat := 2 ^ (P - 1) * pq P N p + ptop N (p - pq P N p) + (pup M sg N (p - pq P N p) more).toNat
def pover (P fw A : Nat) : Bool := decide (A / 2 ^ (P - 1) / 2 ^ fw ≠ 0) || decide (A / 2 ^ (P - 1) % 2 ^ fw + 1 = 2 ^ fw)
def pgreat (M : Nat) (sg : Bool) : Bool := decide (M = 1) || ((decide (M = 2) && !sg) || (decide (M = 3) && sg))
def pbody (P fw M : Nat) (sg : Bool) (A : Nat) : Nat := bif pover P fw A then infN P fw - (pgreat M sg).toNat else A % 2 ^ (P - 1 + fw)
def pflags (P fw A N : Nat) (p : Int) (more : Bool) : Nat :=
  (pinex N (p - pq P N p) more || pover P fw A).toNat + 2 * ((decide (p + wd N - P < 0) && decide (N ≠ 0)) && pinex N (p - pq P N p) more).toNat + 4 * (pover P fw A).toNat
def packF (P fw M : Nat) (sg : Bool) (N : Nat) (p : Int) (more : Bool) : Nat × Nat :=
  (pbody P fw M sg (pall P M sg N p more) + 2 ^ (P - 1 + fw) * sg.toNat, pflags P fw (pall P M sg N p more) N p more)
theorem iw_small {k w : Nat} (h : k < 2 ^ w) : iw (k : Int) w = k := by
  unfold iw
  have e : (2 : Int) ^ w = ((2 ^ w : Nat) : Int) := by push_cast; rfl
  rw [e]
  generalize 2 ^ w = m at *
  rw [Int.emod_eq_of_lt (by omega) (by omega)]; omega
theorem pack_join (v : Nat → Bool) {md top base z all bits pi pg bey res : List Int} {half less tiny sg m0 m1 m2 m3 m4 c3 c4 c5 c6 c7 c8 c9 c10 c11 c12 c13 c16 c17 c18 c19 c20 c21 c22 c26 c27 c28 co : Int} {P fw W N : Nat} {p : Int} {mo : Bool}
    (hP : 2 ≤ P) (hfw : 1 ≤ fw) (hfb : P - 1 + fw ≤ 63) (hWf : fw ≤ W) (hmd : md.length = 3)
    (ht : top.length = P) (hb : base.length = W) (hall : all.length = P - 1 + W)
    (h1 : ShV v P W N p mo top half less base tiny)
    (h2 : ∀ j, j < 5 → bv v (([m0, m1, m2, m3, m4] : List Int).getD j default) = decide (wv v md = iw j md.length))
    (h3 : bv v c3 = !bv v sg) (h4 : bv v c4 = (bv v half || bv v less)) (h5 : bv v c5 = (bv v less || bv v (top.getD 0 default))) (h6 : bv v c6 = (bv v m0 && bv v c5))
    (h7 : bv v c7 = (bv v m4 || bv v c6)) (h8 : bv v c8 = (bv v half && bv v c7)) (h9 : bv v c9 = (bv v m2 && bv v sg)) (h10 : bv v c10 = (bv v m3 && bv v c3)) (h11 : bv v c11 = (bv v c9 || bv v c10))
    (h12 : bv v c12 = (bv v c11 && bv v c4)) (h13 : bv v c13 = (bv v c8 || bv v c12)) (hz : wv v z = 0) (hzl : z.length = P - 1)
    (h15 : wv v all + 2 ^ (P - 1 + W) * (bv v co).toNat = wv v (z ++ base) + wv v top + (bv v c13).toNat)
    (h16 : bv v c16 = gall 4 v ((all.drop (P - 1)).drop fw)) (h17 : bv v c17 = gall 3 v ((all.drop (P - 1)).take fw)) (h18 : bv v c18 = (bv v c16 || bv v c17))
    (hbits : bits = all.take (P - 1 + fw) ++ [sg])
    (h19 : bv v c19 = (bv v m2 && bv v c3)) (h20 : bv v c20 = (bv v m3 && bv v sg)) (h21 : bv v c21 = (bv v c19 || bv v c20)) (h22 : bv v c22 = (bv v m1 || bv v c21))
    (h23 : wv v pi = infN P fw % 2 ^ (P - 1 + fw) + 2 ^ (P - 1 + fw) * (bv v sg).toNat) (h24 : wv v pg = (infN P fw - 1) % 2 ^ (P - 1 + fw) + 2 ^ (P - 1 + fw) * (bv v sg).toNat)
    (h25 : wv v bey = bif bv v c22 then wv v pg else wv v pi) (h26 : bv v c26 = false) (h27 : bv v c27 = (bv v c4 || bv v c18)) (h28 : bv v c28 = (bv v tiny && bv v c4))
    (h29 : wv v res = bif bv v c18 then wv v bey else wv v bits) :
    (wv v res, wv v [c27, c28, c18, c26, c26]) = packF P fw (wv v md) (bv v sg) N p mo := by
  obtain ⟨s, hs⟩ : ∃ s, s = p - (pq P N p : Int) := ⟨_, rfl⟩
  obtain ⟨k1, k2, k3, k4, k5, k6⟩ := h1
  rw [← hs] at k1 k2 k3
  have e0 := h2 0 (by decide)
  have e1 := h2 1 (by decide)
  have e2 := h2 2 (by decide)
  have e3 := h2 3 (by decide)
  have e4 := h2 4 (by decide)
  rw [hmd] at e0 e1 e2 e3 e4
  simp only [List.getD_cons_zero, List.getD_cons_succ] at e0 e1 e2 e3 e4
  rw [show iw ((0 : Nat) : Int) 3 = 0 from iw_small (by decide)] at e0
  rw [show iw ((1 : Nat) : Int) 3 = 1 from iw_small (by decide)] at e1
  rw [show iw ((2 : Nat) : Int) 3 = 2 from iw_small (by decide)] at e2
  rw [show iw ((3 : Nat) : Int) 3 = 3 from iw_small (by decide)] at e3
  rw [show iw ((4 : Nat) : Int) 3 = 4 from iw_small (by decide)] at e4
  generalize hM : wv v md = M at *
  have inex : bv v c4 = pinex N s mo := by rw [h4, k2, k3]; rfl
  have hup : bv v c13 = pup M (bv v sg) N s mo := by
    rw [h13, h8, h12, h11, h9, h10, h7, h6, h5, h3, inex, e0, e2, e3, e4, k2, k3, ← wv_bit v top 0 (by omega), k1]
    rfl
  have hA : wv v all = pall P M (bv v sg) N p mo := by
    unfold pall
    rw [← hs, ← hup, ← k1, ← k4]
    rw [wv_app, hz, hzl, Nat.zero_add] at h15
    have t1 := wv_lt v top
    rw [ht] at t1
    have t2 : (bv v c13).toNat ≤ 1 := Bool.toNat_le _
    have t3 : 2 ^ P = 2 * 2 ^ (P - 1) := by
      obtain ⟨d, hd⟩ := Nat.exists_eq_add_of_le (show 1 ≤ P by omega)
      rw [hd, show 1 + d - 1 = d by omega, Nat.pow_add]
    have t4 : 2 ^ (P - 1) * (wv v base + 3) ≤ 2 ^ (P - 1) * 2 ^ W := Nat.mul_le_mul_left _ (by rw [k4]; exact k6)
    rw [← Nat.pow_add, Nat.mul_add] at t4
    have t5 := wv_lt v all
    rw [hall] at t5
    have t6 : (bv v co).toNat = 0 := by
      cases hco : bv v co
      · rfl
      · rw [hco, Bool.toNat_true] at h15; omega
    rw [t6] at h15
    omega
  have hov : bv v c18 = pover P fw (pall P M (bv v sg) N p mo) := by
    unfold pover
    rw [h18, h16, h17, gall_or, gall_and, wv_drop, wv_take, wv_drop, hA]
    congr 3
    rw [List.length_take, List.length_drop, hall]
    congr 1; omega
  have hgr : bv v c22 = pgreat M (bv v sg) := by
    rw [h22, h21, h19, h20, h3, e1, e2, e3]; rfl
  have hin := infN_lt hfb
  have hin2 : infN P fw < 2 ^ (P - 1 + fw) := by
    unfold infN
    rw [Nat.pow_add, Nat.mul_comm]
    exact Nat.mul_lt_mul_of_pos_left (Nat.sub_lt (Nat.pow_pos (by decide)) (by decide)) (Nat.pow_pos (by decide))
  rw [Nat.mod_eq_of_lt hin2] at h23
  rw [Nat.mod_eq_of_lt (by omega)] at h24
  unfold packF pbody pflags
  rw [← hs, ← hov, ← inex]
  refine Prod.ext ?_ ?_
  · show wv v res = _
    rw [h29, h25, h23, h24, hgr, hbits, wv_snoc, wv_take, hA, List.length_take, hall]
    rw [show min (P - 1 + fw) (P - 1 + W) = P - 1 + fw by omega]
    cases bv v c18
    · rfl
    · cases pgreat M (bv v sg) <;> rfl
  · show wv v [c27, c28, c18, c26, c26] = _
    simp only [wv, h26, h27, h28, k5]
    simp only [Bool.toNat_false]
    omega
theorem OwnSt.snocI {s0 s : St} {x : AV} {e : Nat} {l : List Int} {a : Int} (h : OwnSt s0 x e 1 (l.map eI ++ [eI a]) s) : OwnSt s0 x e 1 ((l ++ [a]).map eI) s := by
  rw [List.map_append]; exact h
theorem wd_twice {N : Nat} (h : N ≠ 0) : wd (2 * N) = wd N + 1 := by
  symm
  apply wd_eq
  · have := wd_lt N; rw [Nat.pow_succ]; omega
  · right
    have h1 := wd_le h
    have h2 := wd_pos h
    rw [show wd N + 1 - 1 = (wd N - 1) + 1 by omega, Nat.pow_succ]; omega
theorem pq_scale (P N : Nat) (p : Int) : pq P (2 * N) (p - 1) = pq P N p := by
  unfold pq
  by_cases h : N = 0
  · subst h; rfl
  · rw [if_neg h, if_neg (by omega), wd_twice h]; congr 1; omega
theorem ptop_scale (N : Nat) (s : Int) : ptop (2 * N) (s - 1) = ptop N s := by
  unfold ptop
  by_cases h : 0 ≤ s - 1
  · rw [if_pos h, if_pos (by omega), show s.toNat = (s - 1).toNat + 1 by omega, Nat.pow_succ, Nat.mul_comm 2 N, Nat.mul_assoc, Nat.mul_comm 2]
  · rw [if_neg h]
    by_cases h2 : 0 ≤ s
    · have e : s = 0 := by omega
      subst e
      simp
    · rw [if_neg h2, show (-(s - 1)).toNat = (-s).toNat + 1 by omega, Nat.pow_succ, Nat.mul_comm 2 N, Nat.mul_div_mul_right _ _ (by decide)]
theorem phalf_scale (N : Nat) (s : Int) : phalf (2 * N) (s - 1) = phalf N s := by
  unfold phalf
  by_cases h : s < 0
  · rw [decide_eq_true h, decide_eq_true (show s - 1 < 0 by omega), show (-(s - 1)).toNat - 1 = ((-s).toNat - 1) + 1 by omega, Nat.pow_succ, Nat.mul_comm 2 N, Nat.mul_div_mul_right _ _ (by decide)]
  · rw [decide_eq_false h, Bool.false_and]
    by_cases h2 : s - 1 < 0
    · have e : s = 0 := by omega
      subst e
      have e2 : (-((0 : Int) - 1)).toNat - 1 = 0 := by decide
      rw [e2, Nat.pow_zero, Nat.div_one, Nat.testBit_zero]
      simp
    · rw [decide_eq_false h2, Bool.false_and]
theorem pless_scale (N : Nat) (s : Int) : pless (2 * N) (s - 1) = pless N s := by
  unfold pless
  by_cases h : s < 0
  · rw [decide_eq_true h, decide_eq_true (show s - 1 < 0 by omega), show (-(s - 1)).toNat - 1 = ((-s).toNat - 1) + 1 by omega, Nat.pow_succ, Nat.mul_comm 2 N, Nat.mul_mod_mul_right]
    congr 1
    apply decide_eq_decide.2; omega
  · rw [decide_eq_false h, Bool.false_and]
    by_cases h2 : s - 1 < 0
    · have e : s = 0 := by omega
      subst e
      have e2 : (-((0 : Int) - 1)).toNat - 1 = 0 := by decide
      rw [e2, Nat.pow_zero, Nat.mod_one]; simp
    · rw [decide_eq_false h2, Bool.false_and]
theorem packF_scale1 (P fw M : Nat) (sg : Bool) (N : Nat) (p : Int) (mo : Bool) : packF P fw M sg (2 * N) (p - 1) mo = packF P fw M sg N p mo := by
  have e : p - 1 - (pq P N p : Int) = p - pq P N p - 1 := by omega
  have ei : pinex (2 * N) (p - pq P N p - 1) mo = pinex N (p - pq P N p) mo := by unfold pinex; rw [phalf_scale, pless_scale]
  have ea : pall P M sg (2 * N) (p - 1) mo = pall P M sg N p mo := by
    unfold pall pup; rw [pq_scale, e, ptop_scale, phalf_scale, pless_scale, ei]
  have et : (decide (p - 1 + wd (2 * N) - P < 0) && decide (2 * N ≠ 0)) = (decide (p + wd N - P < 0) && decide (N ≠ 0)) := by
    by_cases h : N = 0
    · subst h; simp
    · rw [wd_twice h]
      congr 1
      · apply decide_eq_decide.2; omega
      · apply decide_eq_decide.2; omega
  unfold packF pflags
  rw [ea, pq_scale, e, ei, et]
theorem packF_scale (P fw M : Nat) (sg : Bool) (N : Nat) (p : Int) (mo : Bool) : ∀ k : Nat, packF P fw M sg (2 ^ k * N) (p - k) mo = packF P fw M sg N p mo
  | 0 => by simp
  | k + 1 => by
    rw [← packF_scale P fw M sg N p mo k, ← packF_scale1 P fw M sg (2 ^ k * N)]
    congr 1
    · rw [Nat.pow_succ, Nat.mul_comm (2 ^ k) 2, Nat.mul_assoc]
    · omega
theorem sv_iw (v : Nat → Bool) {x : List Int} {w : Nat} {a : Int} (hl : x.length = w) (h1 : 1 ≤ w) (h : wv v x = iw a w) (h2 : -((2 : Int) ^ (w - 1)) ≤ a) (h3 : a < 2 ^ (w - 1)) : sv v x = a := by
  subst hl
  unfold sv
  have hb := wv_bit v x (x.length - 1) (by omega)
  rw [h, iw_msb h1 h2 h3] at hb
  have hp : (2 : Int) ^ x.length = 2 * 2 ^ (x.length - 1) := by
    obtain ⟨d, hd⟩ := Nat.exists_eq_add_of_le h1
    rw [hd, show 1 + d - 1 = d by omega, Int.pow_add]; rfl
  rw [← hb, h]
  have hc := iw_cast a x.length
  by_cases h4 : a < 0
  · rw [decide_eq_true h4, cond_true]
    have e : a % 2 ^ x.length = a + 2 ^ x.length := by
      rw [← Int.add_emod_right, Int.emod_eq_of_lt (by omega) (by omega)]
    omega
  · rw [decide_eq_false h4, cond_false]
    rw [Int.emod_eq_of_lt (by omega) (by omega)] at hc
    omega
theorem pad_join (v : Nat → Bool) {z1 pl sz l2 l3 : List Int} {P fw M low W : Nat} {sg mo : Bool} (h1p : 1 ≤ pl.length) (hW : W = max pl.length (wd low) + 2) (e3 : l3.length = W) (e2 : l2.length = W) (vz : wv v z1 = 0) (lz : z1.length = low)
    (w2 : wv v l2 = iw (-(low : Int)) W) (w3 : wv v l3 = (wv v (sgL pl W) + wv v l2) % 2 ^ (max (sgL pl W).length l2.length)) :
    packF P fw M sg (wv v (z1 ++ sz)) (sv v l3) mo = packF P fw M sg (wv v sz) (sv v pl) mo := by
  rw [wv_zeros v vz lz (b := 0)]
  obtain ⟨q1, q2⟩ := sv_bd v h1p
  have hpw : (2 : Int) ^ (pl.length - 1) * 4 ≤ 2 ^ (W - 1) := by
    obtain ⟨d, hd⟩ := Nat.exists_eq_add_of_le (show pl.length - 1 + 2 ≤ W - 1 by omega)
    rw [hd, Int.pow_add, Int.pow_add]
    have h1 : (1 : Int) ≤ 2 ^ d := Int.pow_pos (by decide)
    have h2 : (0 : Int) < 2 ^ (pl.length - 1) * 2 ^ 2 := Int.mul_pos (Int.pow_pos (by decide)) (by decide)
    have := Int.mul_le_mul_of_nonneg_left h1 (Int.le_of_lt h2)
    rw [Int.mul_one] at this
    exact this
  have hpp : (0 : Int) < 2 ^ (pl.length - 1) := Int.pow_pos (by decide)
  have hlw : (low : Int) * 2 < 2 ^ (W - 1) := by
    have h1 := wd_lt low
    have h2 := Nat.pow_le_pow_right (n := 2) (by decide) (show wd low + 1 ≤ W - 1 by omega)
    rw [Nat.pow_succ] at h2
    have e : ((2 ^ (W - 1) : Nat) : Int) = (2 : Int) ^ (W - 1) := by push_cast; rfl
    omega
  rw [sgL_len, e2, Nat.max_self, sgL_wv v h1p, w2, iw_add] at w3
  rw [sv_iw v e3 (by omega) w3 (by omega) (by omega), show sv v pl + -(low : Int) = sv v pl - low by omega, packF_scale]
end Go.Vc
