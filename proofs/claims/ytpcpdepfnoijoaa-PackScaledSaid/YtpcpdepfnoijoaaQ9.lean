/-
  Part of a proof: A size twice as great, one place lower, is packed as the same (slipsticklaw19.PackScaled).
-/
import Derived.Test.YtpcpdepfnoijoaaS6
import Derived.Test.YtpcpdepfnoijoaaB5
set_option linter.unusedVariables false
set_option maxRecDepth 100000
namespace Go.Proofs.Ytpcpdepfnoijoaa
open Go.Vc
theorem levels {n : Net} {s : St} {K : AV → St → Prop} (hn : n.nodes.length < 2^20) (hu : ∀ i, i < n.nodes.length → ∀ a ∈ usesN (n.nodes.getD i default), 0 ≤ a ∧ a < n.nodes.length) (hk : K (.tup [ints (levelsR n).2.level, .bool (decide (((levelsR n).1 : Int) = n.nodes.length))]) s) : CallsA Try.prog 132 [netA n] s K := by
  refine callsA_of Try.func132 rfl rfl (Nat.le_of_ble_eq_true rfl) ?_
  refine vc_seq ?_
  refine vc_regionW (qm 7) [0, 1, 2] rfl rfl ?_
  refine vq rfl rfl (q_box rfl rfl) ?_
  refine vq rfl rfl (q_assign rfl) ?_
  refine vq rfl rfl (q_assign rfl) ?_
  refine vendW ?_
  refine vc_seq ?_
  refine vc_regionW (qm 23) [0, 1, 2, 3, 4] rfl rfl ?_
  refine vq rfl rfl (q_field fo25_0 rfl (Nat.le_of_ble_eq_true rfl)) ?_
  refine vq rfl rfl (q_load sc22 rfl) ?_
  refine vq rfl rfl (q_len sl22 rfl (by first | exact lenM | rfl)) ?_
  refine ve rfl rfl (e_make sl40 zr3 rfl (List.cons_ne_nil _ _) rfl rfl (by omega) (by omega) (by omega) (by omega) (fun k4 hk4 => ?_))
  refine vq rfl rfl (q_assign rfl) ?_
  refine vendW ?_
  refine vc_seq ?_
  refine vc_regionW (qm 23) [0, 1, 2, 3, 4] rfl rfl ?_
  refine vq rfl rfl (q_field fo25_0 rfl (Nat.le_of_ble_eq_true rfl)) ?_
  refine vq rfl rfl (q_load sc22 rfl) ?_
  refine vq rfl rfl (q_len sl22 rfl (by first | exact lenM | rfl)) ?_
  refine ve rfl rfl (e_make sl40 zr3 rfl (List.cons_ne_nil _ _) rfl rfl (by omega) (by omega) (by omega) (by omega) (fun k5 hk5 => ?_))
  refine vq rfl rfl (q_assign rfl) ?_
  refine vendW ?_
  refine vc_seq ?_
  refine vc_regionW (qm 23) [0, 1, 2, 3, 4] rfl rfl ?_
  refine vq rfl rfl (q_field fo25_0 rfl (Nat.le_of_ble_eq_true rfl)) ?_
  refine vq rfl rfl (q_load sc22 rfl) ?_
  refine vq rfl rfl (q_len sl22 rfl (by first | exact lenM | rfl)) ?_
  refine ve rfl rfl (e_makeO (n := n.nodes.length) (e2 := 3) (sz2 := 1) sl182 zr40 rfl rfl rfl (by omega) (by omega) (fun k6 F0 hk6 => ?_))
  refine vq rfl rfl (q_assign rfl) ?_
  refine vendW ?_
  rw [mk0] at hk5 hk6 ⊢
  have hN := LvN.init hk4 hk5 hk6
  refine vc_seq ?_
  refine vc_regionW (qm 1) [0] rfl rfl ?_
  refine vq rfl rfl (q_assign rfl) ?_
  refine vendW ?_
  refine vc_seq ?_
  refine vc_seq ?_
  refine vc_regionW (qm 15) [0, 1, 2, 3] rfl rfl ?_
  refine vq rfl rfl (q_field fo25_0 rfl (Nat.le_of_ble_eq_true rfl)) ?_
  refine vq rfl rfl (q_load sc22 rfl) ?_
  refine vq rfl rfl (q_len sl22 rfl (by first | exact lenM | rfl)) ?_
  refine vq rfl rfl (q_move rfl) ?_
  refine vendW ?_
  refine vc_block ?_
  refine vc_loopS (α := Nat × AV × St × St) [7, 8, 9, 11, 31, 32, 33, 34, 35, 36, 37, 38, 39, 40, 41, 42, 43, 44, 45, 46, 47, 48, 49, 50, 51, 52, 53, 54, 55, 56, 57, 58, 59, 60, 61, 62, 63, 64, 65, 66, 67, 68, 69, 70, 71, 72] (fun a => [(31, .int (a.1 : Int)), (7, a.2.1)]) (fun a => a.2.2.2) (fun a => a.1 ≤ n.nodes.length ∧ LvH s 3 k4 k5 (c0 n) (leftG n a.1) a.2.1 (readyG n a.1) a.2.2.1 a.2.2.2 ∧ ∃ F, a.2.2.1 k6 = some (.obj F (ovs 3 1 ((usersG n a.1).map (·.map eI))))) (fun a => n.nodes.length - a.1) (0, nilS, _, _) ⟨Nat.zero_le _, LvH.init hk4 hk5 hk6, ⟨F0, by rw [show (usersG n 0).map (·.map eI) = List.replicate n.nodes.length [] by simp [usersG]]; exact upd_same _ _ _⟩⟩ rfl ⟨rfl, rfl, trivial⟩ (fun _ => rfl) ?_
  intro ⟨i, x, s0, s1⟩ ⟨hi, hv, F1, hF⟩
  simp only at hi hv hF ⊢
  refine vc_seq ?_
  refine vc_regionW (qm 1) [0] rfl rfl ?_
  refine vq rfl rfl (q_lt rfl rfl) ?_
  refine vendW ?_
  refine vc_seq ?_
  refine vc_condD rfl (fun h => ?_) (fun h => ?_)
  ·
    refine vc_skip ?_
    refine vc_seq ?_
    refine vc_block ?_
    refine vc_seq ?_
    refine vc_regionW (qm 23) [0, 1, 2, 3, 4, 5] rfl rfl ?_
    refine vq rfl rfl (q_move rfl) ?_
    refine vq rfl rfl (q_index sl22 rfl rfl (by omega) (by first | exact nthI (by omega) | exact nthM (by omega))) ?_
    refine vq rfl rfl (q_loadA ag89 rfl rfl) ?_
    refine ve rfl rfl (e_alloc zr89 (fun k9 hk9 => ?_))
    refine vq rfl rfl (q_assign rfl) ?_
    refine vn rfl rfl (e_storeN sz89 rfl rfl rfl rfl (upd_same _ _ _) rfl ?_)
    refine vendW ?_
    refine vc_frzC (i := 9) hk9 (upd_upd _ _ _ _) rfl ?_
    refine vc_seq ?_
    refine vc_seq ?_
    refine vc_regionW (qm 7) [0, 1, 2] rfl rfl ?_
    refine vq rfl rfl (q_field fo89_0 rfl (Nat.le_of_ble_eq_true rfl)) ?_
    refine vq rfl rfl (q_load sc3 rfl) ?_
    refine vq rfl rfl (q_ne rfl rfl) ?_
    refine vendW ?_
    refine vc_condD rfl (fun h38 => ?_) (fun h38 => ?_)
    ·
      refine vc_seq ?_
      refine vc_regionW (qm 15) [0, 1, 2, 3] rfl rfl ?_
      refine vq rfl rfl (q_loadA ag89 rfl rfl) ?_
      refine vq rfl rfl (q_callF go78 rfl (fun s => uses ⟨rfl, rfl⟩)) ?_
      refine vq rfl rfl (q_len sl40 rfl (by first | exact lenM | rfl)) ?_
      refine vq rfl rfl (q_move rfl) ?_
      refine vendW ?_
      refine vc_block ?_
      refine vc_loopS (α := Nat × St × St) [11, 42, 43, 44, 45, 46, 47, 48, 49, 50, 51, 52, 53, 54, 55, 56, 57, 58, 59, 60, 61, 62] (fun a => [(42, .int (a.1 : Int))]) (fun a => a.2.2) (fun a => a.1 ≤ (usesN (n.nodes.getD i default)).length ∧ LvH s 3 k4 k5 (c0 n) (leftJ n i a.1) x (readyG n i) a.2.1 a.2.2 ∧ ∃ F, a.2.1 k6 = some (.obj F (ovs 3 1 ((usersJ n i a.1).map (·.map eI))))) (fun a => (usesN (n.nodes.getD i default)).length - a.1) (0, s0, s1) ⟨Nat.zero_le _, hv, ⟨F1, hF⟩⟩ rfl ⟨rfl, trivial⟩ (fun _ => rfl) ?_
      intro ⟨j, t0, t1⟩ ⟨hj, hw, F2, hF2⟩
      simp only at hj hw hF2 ⊢
      have hu3 := usesN_len (n.nodes.getD i default)
      refine vc_seq ?_
      refine vc_regionW (qm 1) [0] rfl rfl ?_
      refine vq rfl rfl (q_lt rfl rfl) ?_
      refine vendW ?_
      refine vc_seq ?_
      refine vc_condD rfl (fun h43 => ?_) (fun h43 => ?_)
      ·
        refine vc_skip ?_
        refine vc_seq ?_
        refine vc_block ?_
        refine vc_seq ?_
        refine vc_regionW (qm 7) [0, 1, 2] rfl rfl ?_
        refine vq rfl rfl (q_index sl40 rfl rfl (by omega) (by first | exact nthI (by omega) | exact nthM (by omega))) ?_
        refine vq rfl rfl (q_load sc3 rfl) ?_
        refine vq rfl rfl (q_assign rfl) ?_
        refine vendW ?_
        refine vc_seq ?_
        have hjl : j < (usesN (n.nodes.getD i default)).length := by omega
        have hat := hu i (by omega) _ (getD_mem hjl)
        refine vc_openI (p := k6) (i := ((usesN (n.nodes.getD i default)).getD j default).toNat) (hw.own.le _ _ hF2) (by rw [List.length_map, usersJ_len]; omega) (fun y F3 t2 hy => ?_)
        refine vc_regionW (qm 429049853758163107186368799942587076079339706258956588087153966199096448962353503257659977541340909686081019461967553627320124249982290238285876768194691839) [0, 1, 2, 3, 4, 5, 6, 7, 8, 9, 10] rfl rfl ?_
        refine vq rfl rfl (q_move rfl) ?_
        refine vq rfl rfl (q_move rfl) ?_
        refine vq rfl rfl (q_move rfl) ?_
        refine vq rfl rfl (q_move rfl) ?_
        refine vq rfl rfl (q_indexH sl182 rfl rfl (by omega) (by omega)) ?_
        refine vr rfl rfl rfl (e_loadO sc40 rfl (hy.get (upd_same _ _ _)) (nth_mid (by simp only [ovs_len, List.length_take, List.length_map, usersJ_len]; omega)) ⟨rfl, rfl⟩) ?_
        refine vq rfl rfl (q_move rfl) ?_
        refine vq rfl rfl (q_buildS sl40 zo3 (by decide) rfl rfl rfl rfl (by decide)) ?_
        refine ve rfl rfl (e_append sl40 zo3 rfl rfl hy (SrcOK.slx 1 _) (rowsC1_one rfl) (by have := usersJ_bd n i j ((usesN (n.nodes.getD i default)).getD j default).toNat; rw [getD_mapN, List.length_map]; simp only [maxLen_eq, List.length_map, List.length_cons, List.length_nil]; omega) (fun y2 t3 hy2 => ?_))
        refine vq rfl rfl (q_indexH sl182 rfl rfl (by omega) (by omega)) ?_
        refine vn rfl rfl (e_storeO sz40 rfl rfl hy2.c1 (hy2.get (upd_same _ _ _)) (nth_mid (by simp only [ovs_len, List.length_take, List.length_map, usersJ_len]; omega)) ?_)
        refine vendW ?_
        rw [set_midO (by simp only [ovs_len, List.length_take, List.length_map, usersJ_len]; omega)]
        refine vc_shutI (i := ((usesN (n.nodes.getD i default)).getD j default).toNat) (by rw [List.length_map, usersJ_len]; omega) (OwnSt.put hy2) (fun F4 => ?_)
        change VC _ _ _ _ _ (upd t1 k6 (.obj F4 (ovs 3 1 (((usersJ n i j).map (·.map eI)).set ((usesN (n.nodes.getD i default)).getD j default).toNat (((usersJ n i j).map (·.map eI)).getD ((usesN (n.nodes.getD i default)).getD j default).toNat [] ++ [eI i])))))
        rw [usersJ_set h38 hjl]
        have hw6 := hw.set6 (r' := .obj F4 (ovs 3 1 ((usersJ n i (j + 1)).map (·.map eI)))) hF2 hN.d46 hN.d56 hN.n6
        refine vc_regionW (qm 107262463439540776796592199985646769019834926564739147021788491549774112240588375814414994385335227421520254865491888406830031062495572559571469192048672831) [0, 1, 2, 3, 4, 5, 6] rfl rfl ?_
        refine vq rfl rfl (q_move rfl) ?_
        refine vq rfl rfl (q_move rfl) ?_
        refine vq rfl rfl (q_indexH sl40 rfl rfl (by omega) (by omega)) ?_
        refine vr rfl rfl rfl (e_loadE sc3 rfl hw6.g5 (nthI (by rw [leftJ_len]; omega)) rfl ⟨rfl, rfl⟩) ?_
        refine vq rfl rfl (q_add rfl rfl (w64 (by have := leftJ_bd n i j i; show _ ≤ (leftJ n i j).getD i 0 + 1 ∧ (leftJ n i j).getD i 0 + 1 ≤ _; omega))) ?_
        refine vq rfl rfl (q_indexH sl40 rfl rfl (by omega) (by omega)) ?_
        refine vn rfl rfl (e_storeE sz3 rfl rfl rfl hw6.g5 (nthI (by rw [leftJ_len]; omega)) rfl ?_)
        refine vendW ?_
        refine vc_regionW (qm 3) [0, 1] rfl rfl ?_
        refine vq rfl rfl (q_add rfl rfl (w64 (by omega))) ?_
        refine vq rfl rfl (q_move rfl) ?_
        refine vendW ?_
        have hw7 := hw6.set5 (B' := leftJ n i (j + 1)) hN.d45 hN.n5
        have hF7 := (upd_ne (upd t0 k6 (.obj F4 (ovs 3 1 ((usersJ n i (j + 1)).map (·.map eI))))) (.arr 3 1 ((leftJ n i (j + 1)).map eI)) hN.d56.symm).trans (upd_same t0 k6 _)
        refine ⟨(j + 1, upd (upd t0 k6 (.obj F4 (ovs 3 1 ((usersJ n i (j + 1)).map (·.map eI))))) k5 (.arr 3 1 ((leftJ n i (j + 1)).map eI)), upd (upd t1 k6 (.obj F4 (ovs 3 1 ((usersJ n i (j + 1)).map (·.map eI))))) k5 (.arr 3 1 ((leftJ n i (j + 1)).map eI))), ⟨by simp only; omega, hw7, ⟨F4, hF7⟩⟩, by simp only; omega, ?_, ⟨rfl, trivial⟩, (congrArg (fun z => upd (upd t1 k6 (.obj F4 (ovs 3 1 ((usersJ n i (j + 1)).map (·.map eI))))) k5 (.arr 3 1 z)) ((bumpSetI _ _).trans (by rw [leftJ_succ])))⟩
        repeat (first | exact Same.refl | refine Same.upd rfl ?_ | refine Same.drop rfl ?_)
      refine vc_exit ?_
      refine vc_seq ?_
      first
      | (have hA : atsN (n.nodes.getD i default) = usesN (n.nodes.getD i default) := if_neg h38; have hj2 : j = (atsN (n.nodes.getD i default)).length := by rw [hA]; omega
         have hE := leftJ_end hj2; have hE6 := usersJ_end (n := n) (i := i) (j := j) (by rw [← hj2]; omega)
         rw [hE] at hw; rw [hE6] at hF2; have hv15 := hw; have hF15 := hF2; clear hw hF2)
      | (have hA : atsN (n.nodes.getD i default) = [] := if_pos (Decidable.not_not.1 h38); have hE : leftG n i = leftG n (i + 1) := by rw [leftG, hA]; rfl
         have hE6 : usersG n i = usersG n (i + 1) := by rw [usersG, hA]; rfl
         rw [hE] at hv; rw [hE6] at hF; have hv15 := hv; have hF15 := hF; clear hv hF)
      refine vc_regionW (qm 107262463439540776796592199985646769019834926564739147021788491549774112240588375814414994385335227421520254865491888406830031062495572559571469192048672799) [0, 1, 2, 3, 4] rfl rfl ?_
      refine vq rfl rfl (q_move rfl) ?_
      refine vq rfl rfl (q_move rfl) ?_
      refine vq rfl rfl (q_indexH sl40 rfl rfl (by omega) (by omega)) ?_
      refine vr rfl rfl rfl (e_loadE sc3 rfl hv15.g5 (nthI (by rw [leftG_len]; omega)) rfl ⟨rfl, rfl⟩) ?_
      refine vq rfl rfl (q_eq rfl rfl) ?_
      refine vendW ?_
      refine vc_condD rfl (fun h67 => ?_) (fun h67 => ?_)
      ·
        refine vc_regionW (qm 23) [0, 1, 2, 3, 4] rfl rfl ?_
        refine vq rfl rfl (q_move rfl) ?_
        refine vq rfl rfl (q_move rfl) ?_
        refine vq rfl rfl (q_buildS sl40 zo3 (by decide) rfl rfl rfl rfl (by decide)) ?_
        refine ve rfl rfl (e_append sl40 zo3 rfl rfl hv15.own (SrcOK.slx 1 _) (rowsC1_one rfl) (by have := readyG_len n i; rw [List.length_map]; simp only [maxLen_eq, List.length_map, List.length_cons, List.length_nil]; omega) (fun x3 s3 ho3 => ?_))
        refine vq rfl rfl (q_assign rfl) ?_
        refine vendW ?_
        refine vc_regionW (qm 3) [0, 1] rfl rfl ?_
        refine vq rfl rfl (q_add rfl rfl (w64 (by omega))) ?_
        refine vq rfl rfl (q_move rfl) ?_
        refine vendW ?_
        refine ⟨(i + 1, x3, _, s3), ⟨by simp only; omega, by have := hv15.push ho3; rw [readyG_yes h67]; exact this, ⟨_, hF15⟩⟩, by simp only; omega, ?_, ⟨rfl, rfl, trivial⟩, rfl⟩
        repeat (first | exact Same.refl | refine Same.upd rfl ?_ | refine Same.drop rfl ?_)
      refine vc_skip ?_
      refine vc_regionW (qm 3) [0, 1] rfl rfl ?_
      refine vq rfl rfl (q_add rfl rfl (w64 (by omega))) ?_
      refine vq rfl rfl (q_move rfl) ?_
      refine vendW ?_
      refine ⟨(i + 1, x, _, _), ⟨by simp only; omega, by rw [readyG_no h67]; exact hv15, ⟨_, hF15⟩⟩, by simp only; omega, ?_, ⟨rfl, rfl, trivial⟩, rfl⟩
      repeat (first | exact Same.refl | refine Same.upd rfl ?_ | refine Same.drop rfl ?_)
    refine vc_skip ?_
    refine vc_seq ?_
    first
    | (have hA : atsN (n.nodes.getD i default) = usesN (n.nodes.getD i default) := if_neg h38; have hj2 : j = (atsN (n.nodes.getD i default)).length := by rw [hA]; omega
       have hE := leftJ_end hj2; have hE6 := usersJ_end (n := n) (i := i) (j := j) (by rw [← hj2]; omega)
       rw [hE] at hw; rw [hE6] at hF2; have hv15 := hw; have hF15 := hF2; clear hw hF2)
    | (have hA : atsN (n.nodes.getD i default) = [] := if_pos (Decidable.not_not.1 h38); have hE : leftG n i = leftG n (i + 1) := by rw [leftG, hA]; rfl
       have hE6 : usersG n i = usersG n (i + 1) := by rw [usersG, hA]; rfl
       rw [hE] at hv; rw [hE6] at hF; have hv15 := hv; have hF15 := hF; clear hv hF)
    refine vc_regionW (qm 107262463439540776796592199985646769019834926564739147021788491549774112240588375814414994385335227421520254865491888406830031062495572559571469192048672799) [0, 1, 2, 3, 4] rfl rfl ?_
    refine vq rfl rfl (q_move rfl) ?_
    refine vq rfl rfl (q_move rfl) ?_
    refine vq rfl rfl (q_indexH sl40 rfl rfl (by omega) (by omega)) ?_
    refine vr rfl rfl rfl (e_loadE sc3 rfl hv15.g5 (nthI (by rw [leftG_len]; omega)) rfl ⟨rfl, rfl⟩) ?_
    refine vq rfl rfl (q_eq rfl rfl) ?_
    refine vendW ?_
    refine vc_condD rfl (fun h67 => ?_) (fun h67 => ?_)
    ·
      refine vc_regionW (qm 23) [0, 1, 2, 3, 4] rfl rfl ?_
      refine vq rfl rfl (q_move rfl) ?_
      refine vq rfl rfl (q_move rfl) ?_
      refine vq rfl rfl (q_buildS sl40 zo3 (by decide) rfl rfl rfl rfl (by decide)) ?_
      refine ve rfl rfl (e_append sl40 zo3 rfl rfl hv15.own (SrcOK.slx 1 _) (rowsC1_one rfl) (by have := readyG_len n i; rw [List.length_map]; simp only [maxLen_eq, List.length_map, List.length_cons, List.length_nil]; omega) (fun x3 s3 ho3 => ?_))
      refine vq rfl rfl (q_assign rfl) ?_
      refine vendW ?_
      refine vc_regionW (qm 3) [0, 1] rfl rfl ?_
      refine vq rfl rfl (q_add rfl rfl (w64 (by omega))) ?_
      refine vq rfl rfl (q_move rfl) ?_
      refine vendW ?_
      refine ⟨(i + 1, x3, _, s3), ⟨by simp only; omega, by have := hv15.push ho3; rw [readyG_yes h67]; exact this, ⟨_, hF15⟩⟩, by simp only; omega, ?_, ⟨rfl, rfl, trivial⟩, rfl⟩
      repeat (first | exact Same.refl | refine Same.upd rfl ?_ | refine Same.drop rfl ?_)
    refine vc_skip ?_
    refine vc_regionW (qm 3) [0, 1] rfl rfl ?_
    refine vq rfl rfl (q_add rfl rfl (w64 (by omega))) ?_
    refine vq rfl rfl (q_move rfl) ?_
    refine vendW ?_
    refine ⟨(i + 1, x, _, _), ⟨by simp only; omega, by rw [readyG_no h67]; exact hv15, ⟨_, hF15⟩⟩, by simp only; omega, ?_, ⟨rfl, rfl, trivial⟩, rfl⟩
    repeat (first | exact Same.refl | refine Same.upd rfl ?_ | refine Same.drop rfl ?_)
  refine vc_exit ?_
  refine vc_seq ?_
  have hi2 : i = n.nodes.length := by omega
  subst hi2
  refine vc_frzO (i := 6) (era_same _ _) (upd_era_self (hv.own.le _ _ hF)) rfl (by rw [List.length_map, usersG_len]) ?_
  rw [List.map_map]
  have hv2 := hv.era6 hF hN.d46 hN.d56 hN.n6
  refine vc_regionW (qm 1) [0] rfl rfl ?_
  refine vq rfl rfl (q_assign rfl) ?_
  refine vendW ?_
  refine vc_seq ?_
  refine vc_block ?_
  refine vc_loopS (α := Nat × Lv × Nat × AV × St × St) [7, 12, 13, 15, 73, 74, 75, 76, 77, 78, 79, 80, 81, 82, 83, 84, 85, 86, 87, 88, 89, 90, 91, 92, 93, 94, 95, 96, 97, 98, 99, 100, 101, 102, 103, 104, 105, 106, 107, 108, 109, 110, 111, 112, 113, 114, 115, 116, 117, 118, 119, 120] (fun a => [(12, .int (a.1 : Int)), (7, a.2.2.2.1)]) (fun a => a.2.2.2.2.2) (fun a => a.1 ≤ a.2.1.ready.length ∧ LvH s 3 k4 k5 a.2.1.level a.2.1.left a.2.2.2.1 a.2.1.ready a.2.2.2.2.1 a.2.2.2.2.2 ∧ InvQ n a.2.2.1 a.2.1 ∧ a.2.2.1 ≤ a.1 * (3 * n.nodes.length) ∧ qrun n (muQ a.1 a.2.1) a.1 a.2.1 = levelsR n) (fun a => muQ a.1 a.2.1) (0, lv0 n, 0, x, _, _) ⟨Nat.zero_le _, hv2, lv0_inv n, by simp, rfl⟩ rfl ⟨rfl, rfl, trivial⟩ (fun _ => rfl) ?_
  intro ⟨d, st, b, x, t0, t1⟩ ⟨hd, hv3, hQ, hb, hq⟩
  simp only at hd hv3 hQ hb hq ⊢
  have hcn := hQ.cnt
  have hbb : b ≤ 3298534883328 := Nat.le_trans hb (Nat.le_trans (Nat.mul_le_mul (show d ≤ 1048576 by omega) (show 3 * n.nodes.length ≤ 3145728 by omega)) (by decide))
  refine vc_seq ?_
  refine vc_seq ?_
  refine vc_regionW (qm 15) [0, 1, 2, 3] rfl rfl ?_
  refine vq rfl rfl (q_move rfl) ?_
  refine vq rfl rfl (q_move rfl) ?_
  refine vq rfl rfl (q_len sl40 rfl (by rw [hv3.own.len, List.length_map])) ?_
  refine vq rfl rfl (q_lt rfl rfl) ?_
  refine vendW ?_
  refine vc_condD rfl (fun h76 => ?_) (fun h76 => ?_)
  ·
    refine vc_skip ?_
    refine vc_seq ?_
    refine vc_block ?_
    refine vc_seq ?_
    have hdl : d < st.ready.length := by omega
    obtain ⟨kr, rfl, hkr⟩ := hv3.own.pos (by rw [List.length_map]; omega)
    have hat := hQ.rd _ (getD_mem hdl)
    refine vc_regionW (qm 107262463439540776796592199985646769019834926564739147021788491549774112240588375814414994385335227421520254865491888406830031062495572559571469192048672799) [0, 1, 2, 3, 4] rfl rfl ?_
    refine vq rfl rfl (q_move rfl) ?_
    refine vq rfl rfl (q_move rfl) ?_
    refine vq rfl rfl (q_indexH sl40 rfl rfl (by omega) (by rw [List.length_map]; omega)) ?_
    refine vr rfl rfl rfl (e_loadE sc3 rfl hkr (nthI (by omega)) rfl ⟨rfl, rfl⟩) ?_
    refine vq rfl rfl (q_assign rfl) ?_
    refine vendW ?_
    refine vc_seq ?_
    refine vc_regionW (qm 63) [0, 1, 2, 3, 4, 5] rfl rfl ?_
    refine vq rfl rfl (q_move rfl) ?_
    refine vq rfl rfl (q_move rfl) ?_
    refine vq rfl rfl (q_index sl182 rfl rfl (by omega) (nthU (by omega))) ?_
    refine vq rfl rfl (q_load sc40 rfl) ?_
    refine vq rfl rfl (q_len sl40 rfl (by first | exact lenM | rfl)) ?_
    refine vq rfl rfl (q_move rfl) ?_
    refine vendW ?_
    refine vc_block ?_
    refine vc_loopS (α := Nat × AV × St × St) [7, 15, 88, 89, 90, 91, 92, 93, 94, 95, 96, 97, 98, 99, 100, 101, 102, 103, 104, 105, 106, 107, 108, 109, 110, 111, 112, 113, 114, 115, 116, 117, 118, 119, 120] (fun a => [(88, .int (a.1 : Int)), (7, a.2.1)]) (fun a => a.2.2.2) (fun a => a.1 ≤ (usN n (st.ready.getD d default)).length ∧ LvH s 3 k4 k5 (relJ n (st.ready.getD d default) st a.1).level (relJ n (st.ready.getD d default) st a.1).left a.2.1 (relJ n (st.ready.getD d default) st a.1).ready a.2.2.1 a.2.2.2) (fun a => (usN n (st.ready.getD d default)).length - a.1) (0, _, _, _) ⟨Nat.zero_le _, hv3⟩ rfl ⟨rfl, rfl, trivial⟩ (fun _ => rfl) ?_
    intro ⟨j, y, u0, u1⟩ ⟨hj, hw⟩
    simp only at hj hw ⊢
    refine vc_seq ?_
    refine vc_regionW (qm 1) [0] rfl rfl ?_
    refine vq rfl rfl (q_lt rfl rfl) ?_
    refine vendW ?_
    refine vc_seq ?_
    refine vc_condD rfl (fun h89 => ?_) (fun h89 => ?_)
    ·
      refine vc_skip ?_
      refine vc_seq ?_
      refine vc_block ?_
      refine vc_seq ?_
      refine vc_regionW (qm 7) [0, 1, 2] rfl rfl ?_
      refine vq rfl rfl (q_index sl40 rfl rfl (by omega) (by first | exact nthI (by omega) | exact nthM (by omega))) ?_
      refine vq rfl rfl (q_load sc3 rfl) ?_
      refine vq rfl rfl (q_assign rfl) ?_
      refine vendW ?_
      refine vc_seq ?_
      have hjl2 : j < (usN n (st.ready.getD d default)).length := by omega
      have hub := usN_mem (getD_mem hjl2)
      obtain ⟨hI, hS, hR⟩ := relJ_inv hQ (st.ready.getD d default) j (by omega)
      have hul := usN_len n (st.ready.getD d default)
      refine vc_regionDW mx (qm 7293847513888772822168269599023980293348775006402261997481617425384639632360009555380219618202795464663377330853448411664442112249698934050859905059309756415) [0, 1, 2, 3, 4, 5, 6, 7, 8, 9, 10, 11, 12, 13] (by kernel_rfl) ?_
      refine vq rfl rfl (q_move rfl) ?_
      refine vq rfl rfl (q_move rfl) ?_
      refine vq rfl rfl (q_move rfl) ?_
      refine vq rfl rfl (q_move rfl) ?_
      refine vq rfl rfl (q_indexH sl40 rfl rfl (by omega) (by omega)) ?_
      refine vr rfl rfl rfl (e_loadE sc3 rfl hw.g4 (nthM (by rw [hI.lv]; omega)) rfl ⟨rfl, rfl⟩) ?_
      refine vq rfl rfl (q_move rfl) ?_
      refine vq rfl rfl (q_move rfl) ?_
      refine vq rfl rfl (q_indexH sl40 rfl rfl (by omega) (by omega)) ?_
      refine vr rfl rfl rfl (e_loadE sc3 rfl hw.g4 (nthM (by rw [hI.lv]; omega)) rfl ⟨rfl, rfl⟩) ?_
      refine vq rfl rfl (q_add rfl rfl (w64 (by have := hI.lvb (st.ready.getD d default).toNat; show _ ≤ (relJ n (st.ready.getD d default) st j).level.getD (st.ready.getD d default).toNat 0 + 1 ∧ (relJ n (st.ready.getD d default) st j).level.getD (st.ready.getD d default).toNat 0 + 1 ≤ _; omega))) ?_
      refine vq rfl rfl (q_max rfl rfl) ?_
      refine vq rfl rfl (q_indexH sl40 rfl rfl (by omega) (by omega)) ?_
      refine vn rfl rfl (e_storeE sz3 rfl rfl rfl hw.g4 (nthM (by rw [hI.lv]; omega)) rfl ?_)
      refine vendW ?_
      rw [rowSet]
      have hw4 := hw.set4 (L' := (relJ n (st.ready.getD d default) st j).level.set ((usN n (st.ready.getD d default)).getD j default).toNat (max ((relJ n (st.ready.getD d default) st j).level.getD ((usN n (st.ready.getD d default)).getD j default).toNat 0) ((relJ n (st.ready.getD d default) st j).level.getD (st.ready.getD d default).toNat 0 + 1))) hN.d45 hN.n4
      refine vc_seq ?_
      refine vc_regionW (qm 107262463439540776796592199985646769019834926564739147021788491549774112240588375814414994385335227421520254865491888406830031062495572559571469192048672831) [0, 1, 2, 3, 4, 5, 6] rfl rfl ?_
      refine vq rfl rfl (q_move rfl) ?_
      refine vq rfl rfl (q_move rfl) ?_
      refine vq rfl rfl (q_indexH sl40 rfl rfl (by omega) (by omega)) ?_
      refine vr rfl rfl rfl (e_loadE sc3 rfl hw4.g5 (nthM (by rw [hI.lf]; omega)) rfl ⟨rfl, rfl⟩) ?_
      refine vq rfl rfl (q_sub rfl rfl (w64 (by have := hI.lfb ((usN n (st.ready.getD d default)).getD j default).toNat; show _ ≤ (relJ n (st.ready.getD d default) st j).left.getD ((usN n (st.ready.getD d default)).getD j default).toNat 0 - 1 ∧ (relJ n (st.ready.getD d default) st j).left.getD ((usN n (st.ready.getD d default)).getD j default).toNat 0 - 1 ≤ _; omega))) ?_
      refine vq rfl rfl (q_indexH sl40 rfl rfl (by omega) (by omega)) ?_
      refine vn rfl rfl (e_storeE sz3 rfl rfl rfl hw4.g5 (nthM (by rw [hI.lf]; omega)) rfl ?_)
      refine vendW ?_
      rw [rowSet]
      have hw5 := hw4.set5 (B' := (relJ n (st.ready.getD d default) st j).left.set ((usN n (st.ready.getD d default)).getD j default).toNat ((relJ n (st.ready.getD d default) st j).left.getD ((usN n (st.ready.getD d default)).getD j default).toNat 0 - 1)) hN.d45 hN.n5
      refine vc_seq ?_
      refine vc_regionW (qm 107262463439540776796592199985646769019834926564739147021788491549774112240588375814414994385335227421520254865491888406830031062495572559571469192048672799) [0, 1, 2, 3, 4] rfl rfl ?_
      refine vq rfl rfl (q_move rfl) ?_
      refine vq rfl rfl (q_move rfl) ?_
      refine vq rfl rfl (q_indexH sl40 rfl rfl (by omega) (by omega)) ?_
      refine vr rfl rfl rfl (e_loadE sc3 rfl hw5.g5 (nthM (by rw [List.length_set, hI.lf]; omega)) rfl ⟨rfl, rfl⟩) ?_
      refine vq rfl rfl (q_eq rfl rfl) ?_
      refine vendW ?_
      refine vc_condD rfl (fun h115 => ?_) (fun h115 => ?_)
      ·
        refine vc_regionW (qm 23) [0, 1, 2, 3, 4] rfl rfl ?_
        refine vq rfl rfl (q_move rfl) ?_
        refine vq rfl rfl (q_move rfl) ?_
        refine vq rfl rfl (q_buildS sl40 zo3 (by decide) rfl rfl rfl rfl (by decide)) ?_
        refine ve rfl rfl (e_append sl40 zo3 rfl rfl hw5.own (SrcOK.slx 1 _) (rowsC1_one rfl) (by have := hI.cnt; rw [List.length_map]; simp only [maxLen_eq, List.length_map, List.length_cons, List.length_nil]; omega) (fun y3 s3 ho3 => ?_))
        refine vq rfl rfl (q_assign rfl) ?_
        refine vendW ?_
        refine vc_regionW (qm 3) [0, 1] rfl rfl ?_
        refine vq rfl rfl (q_add rfl rfl (w64 (by omega))) ?_
        refine vq rfl rfl (q_move rfl) ?_
        refine vendW ?_
        refine ⟨(j + 1, y3, _, s3), ⟨by simp only; omega, by rw [relJ_succ hjl2]; have := hw5.push ho3; rw [← relax_yes (a := (st.ready.getD d default)) h115] at this; exact this⟩, by simp only; omega, ?_, ⟨rfl, rfl, trivial⟩, rfl⟩
        repeat (first | exact Same.refl | refine Same.upd rfl ?_ | refine Same.drop rfl ?_)
      refine vc_skip ?_
      refine vc_regionW (qm 3) [0, 1] rfl rfl ?_
      refine vq rfl rfl (q_add rfl rfl (w64 (by omega))) ?_
      refine vq rfl rfl (q_move rfl) ?_
      refine vendW ?_
      refine ⟨(j + 1, y, _, _), ⟨by simp only; omega, by rw [relJ_succ hjl2]; have := hw5; rw [← relax_no (a := (st.ready.getD d default)) (u := ((usN n (st.ready.getD d default)).getD j default)) h115] at this; exact this⟩, by simp only; omega, ?_, ⟨rfl, rfl, trivial⟩, rfl⟩
      repeat (first | exact Same.refl | refine Same.upd rfl ?_ | refine Same.drop rfl ?_)
    refine vc_exit ?_
    refine vc_regionW (qm 7) [0, 1, 2] rfl rfl ?_
    refine vq rfl rfl (q_move rfl) ?_
    refine vq rfl rfl (q_add rfl rfl (w64 (by omega))) ?_
    refine vq rfl rfl (q_assign rfl) ?_
    refine vendW ?_
    have hje : ¬ j < (usN n (st.ready.getD d default)).length := by omega
    rw [relJ_end hje] at hw
    obtain ⟨g1, g2, g3⟩ := relaxAll_inv hQ (st.ready.getD d default)
    obtain ⟨q1, q2⟩ := qrun_step hQ (show d < st.ready.length by omega)
    refine ⟨(d + 1, relaxAll n (st.ready.getD d default) st, b + 3 * n.nodes.length, y, u0, u1), ⟨by simp only; omega, hw, g1, by simp only; rw [Nat.add_mul]; omega, q1.symm.trans hq⟩, q2, ?_, ⟨rfl, rfl, trivial⟩, rfl⟩
    repeat (first | exact Same.refl | refine Same.upd rfl ?_ | refine Same.drop rfl ?_)
  refine vc_exit ?_
  refine vc_seq ?_
  refine vc_regionDW mx (qm 255) [0, 1, 2, 3, 4, 5, 6, 7] (by kernel_rfl) ?_
  refine vq rfl rfl (q_move rfl) ?_
  refine vq rfl rfl (q_move rfl) ?_
  refine vq rfl rfl (q_field fo25_0 rfl (Nat.le_of_ble_eq_true rfl)) ?_
  refine vq rfl rfl (q_load sc22 rfl) ?_
  refine vq rfl rfl (q_len sl22 rfl (by first | exact lenM | rfl)) ?_
  refine vq rfl rfl (q_eq rfl rfl) ?_
  refine vq rfl rfl (q_assign rfl) ?_
  refine vq rfl rfl (q_assign rfl) ?_
  refine vendW ?_
  refine vc_ret ?_
  rw [qrun_end (by omega)] at hq
  rw [← hq] at hk
  have hle := Le.trans hv3.le hv3.own.le
  exact ret2 rfl rfl rfl hle (Cv.frzAll hle hv3.g4 hN.n4 (by rw [List.length_map, hQ.lv]; omega)) (Cv.le hle _) hk
end Go.Proofs.Ytpcpdepfnoijoaa

set_option linter.unusedVariables false
set_option maxRecDepth 100000
namespace Go.Proofs.Ytpcpdepfnoijoaa
open Go.Vc
theorem badNm {p : Pt} {s : St} {K : AV → St → Prop} (hb : p.name.size < 2^40) (hk : K (.bool (!nameN p.name)) s) : CallsA Try.prog 128 [.agg (ptR p)] s K := by
  refine callsA_of Try.func128 rfl rfl (Nat.le_of_ble_eq_true rfl) ?_
  refine vc_seq ?_
  refine vc_regionW (qm 3) [0, 1] rfl rfl ?_
  refine vq rfl rfl (q_box rfl rfl) ?_
  refine vq rfl rfl (q_assign rfl) ?_
  refine vendW ?_
  refine vc_seq ?_
  refine vc_regionW (qm 31) [0, 1, 2, 3, 4] rfl rfl ?_
  refine vq rfl rfl (q_field fo91_0 rfl (Nat.le_of_ble_eq_true rfl)) ?_
  refine vq rfl rfl (q_load sc9 rfl) ?_
  refine vq rfl rfl (q_callF go129 rfl (fun s => name (by omega) ⟨rfl, rfl⟩)) ?_
  refine vq rfl rfl (q_not rfl) ?_
  refine vq rfl rfl (q_assign rfl) ?_
  refine vendW ?_
  refine vc_ret ?_
  exact ret1 rfl rfl (Le.refl _) (Cv.le (Le.refl _) _) hk
theorem levelsE {n : Net} {s : St} {K : AV → St → Prop} (hB : NetB n) (hk : K (.tup [ints (lvOf n), .int (errN n)]) s) : CallsA Try.prog 75 [netA n] s K := by
  have hBi := hB.ins
  have hBo := hB.outs
  have hBn := hB.nodes
  refine callsA_of Try.func75 rfl rfl (Nat.le_of_ble_eq_true rfl) ?_
  refine vc_seq ?_
  refine vc_regionW (qm 7) [0, 1, 2] rfl rfl ?_
  refine vq rfl rfl (q_box rfl rfl) ?_
  refine vq rfl rfl (q_assign rfl) ?_
  refine vq rfl rfl (q_assign rfl) ?_
  refine vendW ?_
  refine vc_seq ?_
  refine vc_block ?_
  refine vc_seq ?_
  refine vc_regionW (qm 32767) [0, 1, 2, 3, 4, 5, 6, 7, 8, 9, 10, 11, 12, 13, 14] rfl rfl ?_
  refine vq rfl rfl (q_field fo25_0 rfl (Nat.le_of_ble_eq_true rfl)) ?_
  refine vq rfl rfl (q_load sc22 rfl) ?_
  refine vq rfl rfl (q_len sl22 rfl (by first | exact lenM | rfl)) ?_
  refine vq rfl rfl (q_gt rfl rfl) ?_
  refine vq rfl rfl (q_move rfl) ?_
  refine vgrp [5, 6, 7, 8, 9, 10, 11, 12, 13] [14] [12, 13, 14, 15, 16, 17, 18, 19] 20 (.v (.bool (decide ((262144 : Int) < n.nodes.length) || decide ((64 : Int) < (n.ins.length : Int) + n.outs.length)))) ?_ ?_
  ·
    by_cases hg4 : (262144 : Int) < n.nodes.length
    ·
      refine g_skip rfl rfl rfl (by first | (rw [decide_eq_true hg4]; simp; done) | (intro e; have e2 := Value.bool.inj e; rw [decide_eq_true hg4] at e2; cases e2; done) | (simp [hg4]; done) | simp_all) ?_
      refine g_skip rfl rfl rfl (by first | (rw [decide_eq_true hg4]; simp; done) | (intro e; have e2 := Value.bool.inj e; rw [decide_eq_true hg4] at e2; cases e2; done) | (simp [hg4]; done) | simp_all) ?_
      refine g_skip rfl rfl rfl (by first | (rw [decide_eq_true hg4]; simp; done) | (intro e; have e2 := Value.bool.inj e; rw [decide_eq_true hg4] at e2; cases e2; done) | (simp [hg4]; done) | simp_all) ?_
      refine g_skip rfl rfl rfl (by first | (rw [decide_eq_true hg4]; simp; done) | (intro e; have e2 := Value.bool.inj e; rw [decide_eq_true hg4] at e2; cases e2; done) | (simp [hg4]; done) | simp_all) ?_
      refine g_skip rfl rfl rfl (by first | (rw [decide_eq_true hg4]; simp; done) | (intro e; have e2 := Value.bool.inj e; rw [decide_eq_true hg4] at e2; cases e2; done) | (simp [hg4]; done) | simp_all) ?_
      refine g_skip rfl rfl rfl (by first | (rw [decide_eq_true hg4]; simp; done) | (intro e; have e2 := Value.bool.inj e; rw [decide_eq_true hg4] at e2; cases e2; done) | (simp [hg4]; done) | simp_all) ?_
      refine g_skip rfl rfl rfl (by first | (rw [decide_eq_true hg4]; simp; done) | (intro e; have e2 := Value.bool.inj e; rw [decide_eq_true hg4] at e2; cases e2; done) | (simp [hg4]; done) | simp_all) ?_
      refine g_skip rfl rfl rfl (by first | (rw [decide_eq_true hg4]; simp; done) | (intro e; have e2 := Value.bool.inj e; rw [decide_eq_true hg4] at e2; cases e2; done) | (simp [hg4]; done) | simp_all) ?_
      refine vq rfl rfl (q_pickT rfl (by first | exact (decide_eq_true hg4) | exact hg4 | (simp [hg4]; done) | simp_all) rfl) ?_
      refine vendW ⟨rfl, congrArg (fun b => some (AV.v (Value.bool b))) (by first | (simp only [decide_eq_true hg4]; done) | (simp only [decide_eq_true hg4]; rfl) | (simp [hg4]; done) | simp_all), ?_⟩
      repeat (first | exact Same.refl | refine Same.upd rfl ?_)
    ·
      refine gq_run rfl rfl rfl rfl (by first | exact congrArg Value.bool (decide_eq_false hg4) | (rw [decide_eq_false hg4]; done) | (simp [hg4]; done) | simp_all) (q_field fo25_1 rfl (Nat.le_of_ble_eq_true rfl)) ?_
      refine gq_run rfl rfl rfl rfl (by first | exact congrArg Value.bool (decide_eq_false hg4) | (rw [decide_eq_false hg4]; done) | (simp [hg4]; done) | simp_all) (q_load sc23 rfl) ?_
      refine gq_run rfl rfl rfl rfl (by first | exact congrArg Value.bool (decide_eq_false hg4) | (rw [decide_eq_false hg4]; done) | (simp [hg4]; done) | simp_all) (q_len sl23 rfl (by first | exact lenM | rfl)) ?_
      refine gq_run rfl rfl rfl rfl (by first | exact congrArg Value.bool (decide_eq_false hg4) | (rw [decide_eq_false hg4]; done) | (simp [hg4]; done) | simp_all) (q_field fo25_2 rfl (Nat.le_of_ble_eq_true rfl)) ?_
      refine gq_run rfl rfl rfl rfl (by first | exact congrArg Value.bool (decide_eq_false hg4) | (rw [decide_eq_false hg4]; done) | (simp [hg4]; done) | simp_all) (q_load sc23 rfl) ?_
      refine gq_run rfl rfl rfl rfl (by first | exact congrArg Value.bool (decide_eq_false hg4) | (rw [decide_eq_false hg4]; done) | (simp [hg4]; done) | simp_all) (q_len sl23 rfl (by first | exact lenM | rfl)) ?_
      refine gq_run rfl rfl rfl rfl (by first | exact congrArg Value.bool (decide_eq_false hg4) | (rw [decide_eq_false hg4]; done) | (simp [hg4]; done) | simp_all) (q_add rfl rfl (w64 (by omega))) ?_
      refine gq_run rfl rfl rfl rfl (by first | exact congrArg Value.bool (decide_eq_false hg4) | (rw [decide_eq_false hg4]; done) | (simp [hg4]; done) | simp_all) (q_gt rfl rfl) ?_
      refine vq rfl rfl (q_pickF rfl (by first | exact (decide_eq_false hg4) | exact hg4 | (simp [hg4]; done) | simp_all) rfl) ?_
      refine vendW ⟨rfl, congrArg (fun b => some (AV.v (Value.bool b))) (by first | (simp only [decide_eq_false hg4]; done) | (simp only [decide_eq_false hg4]; rfl) | (simp [hg4]; done) | simp_all), ?_⟩
      repeat (first | exact Same.refl | refine Same.upd rfl ?_)
  refine vq rfl rfl (q_assign rfl) ?_
  refine vendW ?_
  refine vc_cond rfl (fun h6 => ?_) (fun h6 => ?_)
  ·
    refine vc_seq ?_
    refine vc_regionW (qm 3) [0, 1] rfl rfl ?_
    refine vq rfl rfl (q_assign rfl) ?_
    refine vq rfl rfl (q_assign rfl) ?_
    refine vendW ?_
    refine vc_ret ?_
    have e : errN n = 4 := by unfold errN; rw [if_pos (by simp at h6; omega)]
    have e2 : lvOf n = [] := by unfold lvOf; rw [e]; rfl
    rw [e, e2] at hk
    exact ret2 rfl rfl rfl (Le.refl _) (Cv.ale (Le.refl _) (ale_nil 1)) (Cv.le (Le.refl _) _) hk
  refine vc_seq ?_
  refine vc_regionW (qm 7) [0, 1, 2] rfl rfl ?_
  refine vq rfl rfl (q_loadA ag25 rfl rfl) ?_
  refine vq rfl rfl (q_callF go125 rfl (fun s => formless (by have := hB.nodes; omega) (by simp at h6; omega) (fun p hp => by have := hB.bits p hp; omega) ⟨rfl, rfl⟩)) ?_
  refine vq rfl rfl (q_assign rfl) ?_
  refine vendW ?_
  refine vc_cond rfl (fun h21 => ?_) (fun h21 => ?_)
  ·
    refine vc_seq ?_
    refine vc_regionW (qm 3) [0, 1] rfl rfl ?_
    refine vq rfl rfl (q_assign rfl) ?_
    refine vq rfl rfl (q_assign rfl) ?_
    refine vendW ?_
    refine vc_ret ?_
    have e : errN n = 2 := by unfold errN; rw [if_neg (by simp at h6; omega)]; rw [if_pos h21]
    have e2 : lvOf n = [] := by unfold lvOf; rw [e]; rfl
    rw [e, e2] at hk
    exact ret2 rfl rfl rfl (Le.refl _) (Cv.ale (Le.refl _) (ale_nil 1)) (Cv.le (Le.refl _) _) hk
  refine vc_seq ?_
  refine vc_regionW (qm 15) [0, 1, 2, 3] rfl rfl ?_
  refine vq rfl rfl (q_loadA ag25 rfl rfl) ?_
  refine vq rfl rfl (q_callF go127 rfl (fun s => portsN (by simp at h6; omega) ⟨rfl, rfl⟩)) ?_
  refine vq rfl rfl (q_callF go126 rfl (fun s => containsP (p := fun p => !nameN p.name) (by simp at h6; simp; omega) go128 (fun i hi K hk => badNm (by have := hB.names _ (getD_mem hi); omega) hk) ⟨rfl, rfl⟩)) ?_
  refine vq rfl rfl (q_assign rfl) ?_
  refine vendW ?_
  refine vc_cond rfl (fun h24 => ?_) (fun h24 => ?_)
  ·
    refine vc_seq ?_
    refine vc_regionW (qm 3) [0, 1] rfl rfl ?_
    refine vq rfl rfl (q_assign rfl) ?_
    refine vq rfl rfl (q_assign rfl) ?_
    refine vendW ?_
    refine vc_ret ?_
    have e : errN n = 7 := by unfold errN; rw [if_neg (by simp at h6; omega)]; rw [if_neg (by simp [h21]), if_pos h24]
    have e2 : lvOf n = [] := by unfold lvOf; rw [e]; rfl
    rw [e, e2] at hk
    exact ret2 rfl rfl rfl (Le.refl _) (Cv.ale (Le.refl _) (ale_nil 1)) (Cv.le (Le.refl _) _) hk
  refine vc_seq ?_
  refine vc_regionW (qm 11) [0, 1, 2, 3] rfl rfl ?_
  refine vq rfl rfl (q_loadA ag25 rfl rfl) ?_
  refine vq rfl rfl (q_callF go127 rfl (fun s => portsN (by simp at h6; omega) ⟨rfl, rfl⟩)) ?_
  refine ve rfl rfl (e_callF go130 rfl (twice (by simp at h6; simp; omega) ?_))
  refine vq rfl rfl (q_assign rfl) ?_
  refine vendW ?_
  refine vc_cond rfl (fun h28 => ?_) (fun h28 => ?_)
  ·
    refine vc_seq ?_
    refine vc_regionW (qm 3) [0, 1] rfl rfl ?_
    refine vq rfl rfl (q_assign rfl) ?_
    refine vq rfl rfl (q_assign rfl) ?_
    refine vendW ?_
    refine vc_ret ?_
    have e : errN n = 8 := by unfold errN; rw [if_neg (by simp at h6; omega)]; rw [if_neg (by simp [h21]), if_neg (by rw [h24]; simp), if_pos h28]
    have e2 : lvOf n = [] := by unfold lvOf; rw [e]; rfl
    rw [e, e2] at hk
    exact ret2 rfl rfl rfl (Le.refl _) (Cv.ale (Le.refl _) (ale_nil 1)) (Cv.le (Le.refl _) _) hk
  refine vc_seq ?_
  refine vc_regionW (qm 5) [0, 1, 2] rfl rfl ?_
  refine vq rfl rfl (q_loadA ag25 rfl rfl) ?_
  refine ve rfl rfl (e_callF go131 rfl (homeless (by have := hB.nodes; omega) (by simp at h6; omega) (by have := hB.inB (by simp at h6; omega); omega) (formless_in (by simp [h21])) ?_))
  refine vq rfl rfl (q_assign rfl) ?_
  refine vendW ?_
  refine vc_cond rfl (fun h32 => ?_) (fun h32 => ?_)
  ·
    refine vc_seq ?_
    refine vc_regionW (qm 3) [0, 1] rfl rfl ?_
    refine vq rfl rfl (q_assign rfl) ?_
    refine vq rfl rfl (q_assign rfl) ?_
    refine vendW ?_
    refine vc_ret ?_
    have e : errN n = 10 := by unfold errN; rw [if_neg (by simp at h6; omega)]; rw [if_neg (by simp [h21]), if_neg (by rw [h24]; simp), if_neg (by simp [h28]), if_pos h32]
    have e2 : lvOf n = [] := by unfold lvOf; rw [e]; rfl
    rw [e, e2] at hk
    exact ret2 rfl rfl rfl (Le.refl _) (Cv.ale (Le.refl _) (ale_nil 1)) (Cv.le (Le.refl _) _) hk
  refine vc_skip ?_
  refine vc_seq ?_
  refine vc_regionW (qm 125) [0, 1, 2, 3, 4, 5, 6] rfl rfl ?_
  refine vq rfl rfl (q_loadA ag25 rfl rfl) ?_
  refine ve rfl rfl (e_callF go132 rfl (levels (by simp at h6; omega) (formless_uses (by simp [h21])) ?_))
  refine vq rfl rfl (q_move rfl) ?_
  refine vq rfl rfl (q_extract rfl rfl) ?_
  refine vq rfl rfl (q_extract rfl rfl) ?_
  refine vq rfl rfl (q_assign rfl) ?_
  refine vq rfl rfl (q_assign rfl) ?_
  refine vendW ?_
  refine vc_seq ?_
  refine vc_seq ?_
  refine vc_regionW (qm 3) [0, 1] rfl rfl ?_
  refine vq rfl rfl (q_move rfl) ?_
  refine vq rfl rfl (q_not rfl) ?_
  refine vendW ?_
  refine vc_cond rfl (fun h41 => ?_) (fun h41 => ?_)
  ·
    refine vc_seq ?_
    refine vc_regionW (qm 3) [0, 1] rfl rfl ?_
    refine vq rfl rfl (q_assign rfl) ?_
    refine vq rfl rfl (q_assign rfl) ?_
    refine vendW ?_
    refine vc_ret ?_
    have e : errN n = 9 := by unfold errN; rw [if_neg (by simp at h6; omega)]; rw [if_neg (by simp [h21]), if_neg (by rw [h24]; simp), if_neg (by simp [h28]), if_neg (by simp [h32]), if_pos (by simp at h41; omega)]
    have e2 : lvOf n = [] := by unfold lvOf; rw [e]; rfl
    rw [e, e2] at hk
    exact ret2 rfl rfl rfl (Le.refl _) (Cv.ale (Le.refl _) (ale_nil 1)) (Cv.le (Le.refl _) _) hk
  refine vc_skip ?_
  refine vc_seq ?_
  refine vc_regionW (qm 7) [0, 1, 2] rfl rfl ?_
  refine vq rfl rfl (q_move rfl) ?_
  refine vq rfl rfl (q_assign rfl) ?_
  refine vq rfl rfl (q_assign rfl) ?_
  refine vendW ?_
  refine vc_ret ?_
  have e : errN n = 0 := by unfold errN; rw [if_neg (by simp at h6; omega)]; rw [if_neg (by simp [h21]), if_neg (by rw [h24]; simp), if_neg (by simp [h28]), if_neg (by simp [h32]), if_neg (by simp at h41; omega)]
  have e2 : lvOf n = (levelsR n).2.level := by unfold lvOf; rw [e]; rfl
  rw [e, e2] at hk
  exact ret2 rfl rfl rfl (Le.refl _) (Cv.le (Le.refl _) _) (Cv.le (Le.refl _) _) hk
end Go.Proofs.Ytpcpdepfnoijoaa

set_option linter.unusedVariables false
set_option maxRecDepth 100000
namespace Go.Proofs.Ytpcpdepfnoijoaa
open Go.Vc
theorem order_facts {n : Net} (h0 : errN n = 0) (hl : 0 < (lvOf n).length) : (lvOf n).length < 1048576 ∧ (∀ m, 0 ≤ (lvOf n).getD m 0 ∧ (lvOf n).getD m 0 ≤ 3298534883328) := by
  have hn : n.nodes.length ≤ 262144 := by
    unfold errN at h0
    by_cases h : 262144 < n.nodes.length ∨ 64 < n.ins.length + n.outs.length
    · rw [if_pos h] at h0; cases h0
    · omega
  have e : lvOf n = (levelsR n).2.level := by unfold lvOf; rw [if_pos h0]
  obtain ⟨b, h1, h2⟩ := levelsR_inv n (by omega)
  rw [e]
  exact ⟨by rw [h1.lv]; omega, fun m => by have := h1.lvb m; omega⟩
theorem maxL_bd {l : List Int} {b : Int} (h : ∀ m, 0 ≤ l.getD m 0 ∧ l.getD m 0 ≤ b) : ∀ i, 0 ≤ maxL l i ∧ maxL l i ≤ b
  | 0 => h 0
  | i + 1 => by have h1 := maxL_bd h i; have h2 := h i; rw [maxL]; omega
theorem bk_set {l : List Int} {i : Nat} : ((bkG l i).map (·.map eI)).set (l.getD i default).toNat (((bkG l i).map (·.map eI)).getD (l.getD i default).toNat [] ++ [eI i]) = (bkG l (i + 1)).map (·.map eI) := by
  rw [set_mapN]; rfl
theorem bk_flat {l : List Int} (h : ∀ m, m < l.length → 0 ≤ l.getD m 0 ∧ l.getD m 0 ≤ maxL l l.length) : ∀ i, i ≤ l.length → (bkG l i).flatten.length = i
  | 0, _ => by simp [bkG]
  | i + 1, hi => by
    have h1 := h i (by omega)
    rw [bkG, uStep, flat_set (by rw [bkG_len]; omega), bk_flat h i (by omega)]
theorem order {n : Net} {s : St} {K : AV → St → Prop} (hB : NetB n) (hk : K (.tup [ints (orderN n), .int (errN n)]) s) : CallsA Try.prog 79 [netA n] s K := by
  refine callsA_of Try.func79 rfl rfl (Nat.le_of_ble_eq_true rfl) ?_
  refine vc_seq ?_
  refine vc_regionW (qm 7) [0, 1, 2] rfl rfl ?_
  refine vq rfl rfl (q_box rfl rfl) ?_
  refine vq rfl rfl (q_assign rfl) ?_
  refine vq rfl rfl (q_assign rfl) ?_
  refine vendW ?_
  refine vc_seq ?_
  refine vc_regionW (qm 125) [0, 1, 2, 3, 4, 5, 6] rfl rfl ?_
  refine vq rfl rfl (q_loadA ag25 rfl rfl) ?_
  refine ve rfl rfl (e_callF go75 rfl (levelsE hB ?_))
  refine vq rfl rfl (q_move rfl) ?_
  refine vq rfl rfl (q_extract rfl rfl) ?_
  refine vq rfl rfl (q_extract rfl rfl) ?_
  refine vq rfl rfl (q_assign rfl) ?_
  refine vq rfl rfl (q_assign rfl) ?_
  refine vendW ?_
  refine vc_seq ?_
  refine vc_seq ?_
  refine vc_regionW (qm 127) [0, 1, 2, 3, 4, 5, 6] rfl rfl ?_
  refine vq rfl rfl (q_move rfl) ?_
  refine vq rfl rfl (q_ne rfl rfl) ?_
  refine vq rfl rfl (q_move rfl) ?_
  refine vgrp [3, 4, 5, 6] [] [17, 18, 19] 20 (.v (.bool (decide (errN n ≠ 0) || decide (((lvOf n).length : Int) = 0)))) ?_ ?_
  ·
    by_cases hg2 : errN n ≠ 0
    ·
      refine g_skip rfl rfl rfl (by first | (rw [decide_eq_true hg2]; simp; done) | (intro e; have e2 := Value.bool.inj e; rw [decide_eq_true hg2] at e2; cases e2; done) | (simp [hg2]; done) | simp_all) ?_
      refine g_skip rfl rfl rfl (by first | (rw [decide_eq_true hg2]; simp; done) | (intro e; have e2 := Value.bool.inj e; rw [decide_eq_true hg2] at e2; cases e2; done) | (simp [hg2]; done) | simp_all) ?_
      refine g_skip rfl rfl rfl (by first | (rw [decide_eq_true hg2]; simp; done) | (intro e; have e2 := Value.bool.inj e; rw [decide_eq_true hg2] at e2; cases e2; done) | (simp [hg2]; done) | simp_all) ?_
      refine vq rfl rfl (q_pickT rfl (by first | exact (decide_eq_true hg2) | exact hg2 | (simp [hg2]; done) | simp_all) rfl) ?_
      refine vendW ⟨rfl, congrArg (fun b => some (AV.v (Value.bool b))) (by first | (simp only [decide_eq_true hg2]; done) | (simp only [decide_eq_true hg2]; rfl) | (simp [hg2]; done) | simp_all), ?_⟩
      repeat (first | exact Same.refl | refine Same.upd rfl ?_)
    ·
      refine gq_run rfl rfl rfl rfl (by first | exact congrArg Value.bool (decide_eq_false hg2) | (rw [decide_eq_false hg2]; done) | (simp [hg2]; done) | simp_all) (q_move rfl) ?_
      refine gq_run rfl rfl rfl rfl (by first | exact congrArg Value.bool (decide_eq_false hg2) | (rw [decide_eq_false hg2]; done) | (simp [hg2]; done) | simp_all) (q_len sl40 rfl (by first | exact lenM | rfl)) ?_
      refine gq_run rfl rfl rfl rfl (by first | exact congrArg Value.bool (decide_eq_false hg2) | (rw [decide_eq_false hg2]; done) | (simp [hg2]; done) | simp_all) (q_eq rfl rfl) ?_
      refine vq rfl rfl (q_pickF rfl (by first | exact (decide_eq_false hg2) | exact hg2 | (simp [hg2]; done) | simp_all) rfl) ?_
      refine vendW ⟨rfl, congrArg (fun b => some (AV.v (Value.bool b))) (by first | (simp only [decide_eq_false hg2]; done) | (simp only [decide_eq_false hg2]; rfl) | (simp [hg2]; done) | simp_all), ?_⟩
      repeat (first | exact Same.refl | refine Same.upd rfl ?_)
  refine vendW ?_
  refine vc_cond rfl (fun h20 => ?_) (fun h20 => ?_)
  ·
    refine vc_seq ?_
    refine vc_regionW (qm 7) [0, 1, 2] rfl rfl ?_
    refine vq rfl rfl (q_move rfl) ?_
    refine vq rfl rfl (q_assign rfl) ?_
    refine vq rfl rfl (q_assign rfl) ?_
    refine vendW ?_
    refine vc_ret ?_
    have e : orderN n = [] := by unfold orderN; rw [if_pos]; by_cases hE : errN n = 0; (· simp [hE] at h20; exact h20); (· unfold lvOf; rw [if_neg hE])
    rw [e] at hk
    exact ret2 rfl rfl rfl (Le.refl _) (Cv.ale (Le.refl _) (ale_nil 1)) (Cv.le (Le.refl _) _) hk
  refine vc_skip ?_
  refine vc_seq ?_
  have hE : errN n = 0 := by simp at h20; exact h20.1
  have hl0 : 0 < (lvOf n).length := List.length_pos_iff.2 (by simp at h20; exact h20.2)
  obtain ⟨hln, hlb⟩ := order_facts hE hl0
  have hm := maxL_bd hlb (lvOf n).length
  refine vc_regionW (qm 23) [0, 1, 2, 3, 4] rfl rfl ?_
  refine vq rfl rfl (q_move rfl) ?_
  refine vq rfl rfl (q_callF go134 rfl (fun s => maxI hl0 (by omega) ⟨rfl, rfl⟩)) ?_
  refine vq rfl rfl (q_add rfl rfl (w64 (by omega))) ?_
  refine ve rfl rfl (e_makeO (n := (maxL (lvOf n) (lvOf n).length + 1).toNat) (e2 := 3) (sz2 := 1) sl182 zr40 rfl rfl (by omega) (by omega) (by omega) (fun k6 F0 hk6 => ?_))
  refine vq rfl rfl (q_assign rfl) ?_
  refine vendW ?_
  refine vc_seq ?_
  refine vc_seq ?_
  refine vc_regionW (qm 7) [0, 1, 2] rfl rfl ?_
  refine vq rfl rfl (q_move rfl) ?_
  refine vq rfl rfl (q_len sl40 rfl (by first | exact lenM | rfl)) ?_
  refine vq rfl rfl (q_move rfl) ?_
  refine vendW ?_
  refine vc_block ?_
  refine vc_loopS (α := Nat × List Nat) [7, 8, 28, 29, 30, 31, 32, 33, 34, 35, 36, 37, 38, 39, 40, 41, 42, 43] (fun a => [(28, .int (a.1 : Int))]) (fun a => (upd s k6 (.obj a.2 (ovs 3 1 ((bkG (lvOf n) a.1).map (·.map eI)))))) (fun a => a.1 ≤ (lvOf n).length) (fun a => (lvOf n).length - a.1) (0, F0) (Nat.zero_le _) (by simp [bkG]) ⟨rfl, trivial⟩ (fun _ => rfl) ?_
  intro ⟨i, F1⟩ hok
  simp only at hok ⊢
  refine vc_seq ?_
  refine vc_regionW (qm 1) [0] rfl rfl ?_
  refine vq rfl rfl (q_lt rfl rfl) ?_
  refine vendW ?_
  refine vc_seq ?_
  refine vc_condD rfl (fun h => ?_) (fun h => ?_)
  ·
    refine vc_skip ?_
    refine vc_seq ?_
    refine vc_block ?_
    refine vc_seq ?_
    refine vc_regionW (qm 31) [0, 1, 2, 3, 4] rfl rfl ?_
    refine vq rfl rfl (q_move rfl) ?_
    refine vq rfl rfl (q_index sl40 rfl rfl (by omega) (by first | exact nthI (by omega) | exact nthM (by omega))) ?_
    refine vq rfl rfl (q_load sc3 rfl) ?_
    refine vq rfl rfl (q_assign rfl) ?_
    refine vq rfl rfl (q_assign rfl) ?_
    refine vendW ?_
    have hil : i < (lvOf n).length := by omega
    have hx0 := hlb i
    have hx1 := maxL_ge (l := lvOf n) hil
    change 0 ≤ ((lvOf n).getD i default) ∧ ((lvOf n).getD i default) ≤ _ at hx0
    change ((lvOf n).getD i default) ≤ _ at hx1
    refine vc_openI (p := k6) (i := ((lvOf n).getD i default).toNat) (upd_same _ _ _) (by rw [List.length_map, bkG_len]; omega) (fun y F3 t2 hy => ?_)
    refine vc_regionW (qm 429049853758163107186368799942587076079339706258956588087153966199096448962353503257659977541340909686081019461967553627320124249982290238285876768194691839) [0, 1, 2, 3, 4, 5, 6, 7, 8, 9, 10] rfl rfl ?_
    refine vq rfl rfl (q_move rfl) ?_
    refine vq rfl rfl (q_move rfl) ?_
    refine vq rfl rfl (q_move rfl) ?_
    refine vq rfl rfl (q_move rfl) ?_
    refine vq rfl rfl (q_indexH sl182 rfl rfl (by omega) (by omega)) ?_
    refine vr rfl rfl rfl (e_loadO sc40 rfl (hy.get (upd_same _ _ _)) (nth_mid (by simp only [ovs_len, List.length_take, List.length_map, bkG_len]; omega)) ⟨rfl, rfl⟩) ?_
    refine vq rfl rfl (q_move rfl) ?_
    refine vq rfl rfl (q_buildS sl40 zo3 (by decide) rfl rfl rfl rfl (by decide)) ?_
    refine ve rfl rfl (e_append sl40 zo3 rfl rfl hy (SrcOK.slx 1 _) (rowsC1_one rfl) (by have := bkG_bd (lvOf n) ((lvOf n).getD i default).toNat i; rw [getD_mapN, List.length_map]; simp only [maxLen_eq, List.length_map, List.length_cons, List.length_nil]; omega) (fun y2 t3 hy2 => ?_))
    refine vq rfl rfl (q_indexH sl182 rfl rfl (by omega) (by omega)) ?_
    refine vn rfl rfl (e_storeO sz40 rfl rfl hy2.c1 (hy2.get (upd_same _ _ _)) (nth_mid (by simp only [ovs_len, List.length_take, List.length_map, bkG_len]; omega)) ?_)
    refine vendW ?_
    rw [set_midO (by simp only [ovs_len, List.length_take, List.length_map, bkG_len]; omega)]
    refine vc_shutI (i := ((lvOf n).getD i default).toNat) (by rw [List.length_map, bkG_len]; omega) (OwnSt.put hy2) (fun F4 => ?_)
    change VC _ _ _ _ _ (upd (upd s k6 _) k6 (.obj F4 (ovs 3 1 (((bkG (lvOf n) i).map (·.map eI)).set ((lvOf n).getD i default).toNat (((bkG (lvOf n) i).map (·.map eI)).getD ((lvOf n).getD i default).toNat [] ++ [eI i])))))
    rw [bk_set, upd_upd]
    refine vc_regionW (qm 3) [0, 1] rfl rfl ?_
    refine vq rfl rfl (q_add rfl rfl (w64 (by omega))) ?_
    refine vq rfl rfl (q_move rfl) ?_
    refine vendW ?_
    refine ⟨(i + 1, F4), by simp only; omega, by simp only; omega, ?_, ⟨rfl, trivial⟩, rfl⟩
    repeat (first | exact Same.refl | refine Same.upd rfl ?_ | refine Same.drop rfl ?_)
  refine vc_exit ?_
  refine vc_seq ?_
  have hi2 : i = (lvOf n).length := by omega
  subst hi2
  have hfl := bk_flat (l := lvOf n) (fun m hm => ⟨(hlb m).1, maxL_ge hm⟩) (lvOf n).length (Nat.le_refl _)
  refine vc_frzO (i := 6) hk6 rfl rfl (by rw [List.length_map, bkG_len]) ?_
  rw [List.map_map]
  refine vc_regionW (qm 13) [0, 1, 2, 3] rfl rfl ?_
  refine vq rfl rfl (q_move rfl) ?_
  refine ve rfl rfl (e_callF go135 rfl (concatI (ls := bkG (lvOf n) (lvOf n).length) (by rw [bkG_len]; omega) (by rw [hfl]; omega) ?_))
  refine vq rfl rfl (q_assign rfl) ?_
  refine vq rfl rfl (q_assign rfl) ?_
  refine vendW ?_
  refine vc_ret ?_
  have e : orderN n = (bkG (lvOf n) (lvOf n).length).flatten := by unfold orderN; rw [if_neg (List.length_pos_iff.1 hl0)]
  rw [e, hE] at hk
  exact ret2 rfl rfl rfl (Le.refl _) (Cv.le (Le.refl _) _) (Cv.le (Le.refl _) _) hk
end Go.Proofs.Ytpcpdepfnoijoaa

set_option linter.unusedVariables false
set_option maxRecDepth 100000
namespace Go.Proofs.Ytpcpdepfnoijoaa
open Go.Vc
theorem cloneNet {n : Net} {s : St} {K : AV → St → Prop} (hn : n.nodes.length < 2^40) (hi : n.ins.length < 2^40) (ho : n.outs.length < 2^40) (hb : ∀ p ∈ n.ins ++ n.outs, p.bits.length < 2^40) (hk : K (netA n) s) : CallsA Try.prog 67 [netA n] s K := by
  refine callsA_of Try.func67 rfl rfl (Nat.le_of_ble_eq_true rfl) ?_
  refine vc_seq ?_
  refine vc_regionW (qm 1) [0, 1] rfl rfl ?_
  refine vq rfl rfl (q_box rfl rfl) ?_
  refine ve rfl rfl (e_alloc zr25 (fun k2 hk2 => ?_))
  refine vendW ?_
  refine vc_seq ?_
  refine vc_regionW (qm 1) [0] rfl rfl ?_
  refine vq rfl rfl (q_assign rfl) ?_
  refine vendW ?_
  refine vc_seq ?_
  refine vc_regionDW mx (qm 4095) [0, 1, 2, 3, 4, 5, 6, 7, 8, 9, 10, 11, 12] (by kernel_rfl) ?_
  refine vq rfl rfl (q_field fo25_0 rfl (Nat.le_of_ble_eq_true rfl)) ?_
  refine vq rfl rfl (q_load sc22 rfl) ?_
  refine vq rfl rfl (q_callF go61 rfl (fun s => cloneN hn ⟨rfl, rfl⟩)) ?_
  refine vq rfl rfl (q_move rfl) ?_
  refine vq rfl rfl (q_field fo25_1 rfl (Nat.le_of_ble_eq_true rfl)) ?_
  refine vq rfl rfl (q_load sc23 rfl) ?_
  refine vq rfl rfl (q_call go109 rfl rfl (fun s => clone1 hi (fun p hp => hb p (by simp [hp])) ⟨rfl, rfl⟩)) ?_
  refine vq rfl rfl (q_move rfl) ?_
  refine vq rfl rfl (q_field fo25_2 rfl (Nat.le_of_ble_eq_true rfl)) ?_
  refine vq rfl rfl (q_load sc23 rfl) ?_
  refine vq rfl rfl (q_call go109 rfl rfl (fun s => clone1 ho (fun p hp => hb p (by simp [hp])) ⟨rfl, rfl⟩)) ?_
  refine vq rfl rfl (q_build pl25 zr25 rfl rfl) ?_
  refine vn rfl rfl (e_storeN sz25 rfl rfl rfl rfl (upd_same _ _ _) rfl ?_)
  refine vendW ?_
  refine vc_ret ?_
  exact retC rfl ag25 rfl (upd_same _ _ _) rfl (Le.new2 hk2) (Cv.le (Le.new2 hk2) _) hk
end Go.Proofs.Ytpcpdepfnoijoaa

set_option linter.unusedVariables false
set_option linter.unusedSimpArgs false
set_option maxRecDepth 100000
namespace Go.Proofs.Ytpcpdepfnoijoaa
open Go.Vc
theorem b01 {V : List Int} (h : ∀ v ∈ V, v = 0 ∨ v = 1) (i : Nat) : V.getD i default = 0 ∨ V.getD i default = 1 := by
  rcases Nat.lt_or_ge i V.length with hi | hi
  · exact h _ (getD_mem hi)
  · left; simp [List.getD_eq_getElem?_getD, hi]
theorem vlI_01 (nd : List Nd) (inp : Nat → Bool) (i n : Nat) : ∀ v ∈ vlI nd inp i n, v = 0 ∨ v = 1 := by
  intro v hv
  rcases List.mem_append.1 hv with h | h
  · obtain ⟨b, _, rfl⟩ := List.mem_map.1 h; exact b2i_01 b
  · left; exact (List.mem_replicate.1 h).2
abbrev rngI (n : Nat) : List Int := List.map (fun (i : Nat) => ((i : Nat) : Int)) (List.range n)
theorem rngI_get {n i : Nat} (h : i < n) : (rngI n).getD i default = (i : Int) := by simp [rngI, List.getD_eq_getElem?_getD, h]
theorem rngI_len (n : Nat) : (rngI n).length = n := by simp [rngI]
theorem const_b2i {x : Nd} {i : Nat} (h : NdOK i x) (h0 : x.k = 0) (b : Bool) (v : Nat → Bool) : x.a = b2i (gateV x b v) := by
  have hp := h.pl
  obtain ⟨k, a, bb, c⟩ := x
  simp only at h0; subst h0
  simp [plainN] at hp
  have ha : a = 0 ∨ a = 1 := by omega
  rw [gateV, if_pos rfl]
  rcases ha with h | h <;> simp [b2i, h]
theorem in_b2i {x : Nd} (h1 : x.k = 1) {z : Int} {b : Bool} (hz : z = b2i b) (v : Nat → Bool) : z = b2i (gateV x b v) := by
  rw [gateV, if_neg (by omega), if_pos h1]; exact hz
theorem oneN {x : Nd} {V : List Int} {n k : Nat} {s : St} {K : AV → St → Prop} (hv : s k = some (.arr 3 1 (V.map eI))) (hl : V.length = n) (hn : n < 2^40) (h01 : ∀ v ∈ V, v = 0 ∨ v = 1) (h2k : 2 ≤ x.k) (h6k : x.k ≤ 6) (hu : ∀ a ∈ usesN x, 0 ≤ a ∧ a < n) (hk : K (.int (oneV x V)) s) : CallsA Try.prog 144 [.agg (ndR x), .hdr k 1 n] s K := by
  refine callsA_of Try.func144 rfl rfl (Nat.le_of_ble_eq_true rfl) ?_
  refine vc_seq ?_
  refine vc_regionW (qm 3) [0, 1] rfl rfl ?_
  refine vq rfl rfl (q_box rfl rfl) ?_
  refine vq rfl rfl (q_assign rfl) ?_
  refine vendW ?_
  refine vc_seq ?_
  refine vc_seq ?_
  refine vc_regionW (qm 3) [0, 1] rfl rfl ?_
  refine vq rfl rfl (q_field fo89_0 rfl (Nat.le_of_ble_eq_true rfl)) ?_
  refine vq rfl rfl (q_load sc3 rfl) ?_
  refine vendW ?_
  refine vc_block ?_
  refine vc_seq ?_
  refine vc_regionW (qm 3) [0, 1] rfl rfl ?_
  refine vq rfl rfl (q_eq rfl rfl) ?_
  refine vq rfl rfl (q_assign rfl) ?_
  refine vendW ?_
  refine vc_condD rfl (fun h2 => ?_) (fun h2 => ?_)
  ·
    refine vc_seq ?_
    have ua := hu x.a (by simp [usesN, h2])
    refine vc_regionW (qm 214524926879081553593184399971293538039669853129478294043576983099548224481176751628829988770670454843040509730983776813660062124991145119142938384097345663) [0, 1, 2, 3, 4, 5, 6] rfl rfl ?_
    refine vq rfl rfl (q_move rfl) ?_
    refine vq rfl rfl (q_field fo89_1 rfl (Nat.le_of_ble_eq_true rfl)) ?_
    refine vq rfl rfl (q_load sc3 rfl) ?_
    refine vq rfl rfl (q_indexH sl40 rfl rfl (by omega) (by omega)) ?_
    refine vr rfl rfl rfl (e_loadE sc3 rfl hv (nthM (by omega)) rfl ⟨rfl, rfl⟩) ?_
    refine vq rfl rfl (q_sub rfl rfl (w64 (by have := b01 h01 x.a.toNat; omega))) ?_
    refine vq rfl rfl (q_assign rfl) ?_
    refine vendW ?_
    refine vc_ret ?_
    rw [oneV, if_pos h2] at hk
    exact ret1 rfl rfl (Le.refl _) (Cv.le (Le.refl _) _) hk
  refine vc_seq ?_
  refine vc_regionW (qm 3) [0, 1] rfl rfl ?_
  refine vq rfl rfl (q_eq rfl rfl) ?_
  refine vq rfl rfl (q_assign rfl) ?_
  refine vendW ?_
  refine vc_condD rfl (fun h3 => ?_) (fun h3 => ?_)
  ·
    refine vc_seq ?_
    have ua := hu x.a (by simp [usesN, h3])
    have ub := hu x.b (by simp [usesN, h3])
    refine vc_regionDW mx (qm 7079322587009691268575085199052686755309105153272783703438040442285091407878832803751389629432125009820336821122464634850782050124707788931716966675212406783) [0, 1, 2, 3, 4, 5, 6, 7, 8, 9, 10, 11] (by kernel_rfl) ?_
    refine vq rfl rfl (q_move rfl) ?_
    refine vq rfl rfl (q_field fo89_1 rfl (Nat.le_of_ble_eq_true rfl)) ?_
    refine vq rfl rfl (q_load sc3 rfl) ?_
    refine vq rfl rfl (q_indexH sl40 rfl rfl (by omega) (by omega)) ?_
    refine vr rfl rfl rfl (e_loadE sc3 rfl hv (nthM (by omega)) rfl ⟨rfl, rfl⟩) ?_
    refine vq rfl rfl (q_move rfl) ?_
    refine vq rfl rfl (q_field fo89_2 rfl (Nat.le_of_ble_eq_true rfl)) ?_
    refine vq rfl rfl (q_load sc3 rfl) ?_
    refine vq rfl rfl (q_indexH sl40 rfl rfl (by omega) (by omega)) ?_
    refine vr rfl rfl rfl (e_loadE sc3 rfl hv (nthM (by omega)) rfl ⟨rfl, rfl⟩) ?_
    refine vq rfl rfl (q_min rfl rfl) ?_
    refine vq rfl rfl (q_assign rfl) ?_
    refine vendW ?_
    refine vc_ret ?_
    rw [oneV, if_neg h2, if_pos h3] at hk
    exact ret1 rfl rfl (Le.refl _) (Cv.le (Le.refl _) _) hk
  refine vc_seq ?_
  refine vc_regionW (qm 3) [0, 1] rfl rfl ?_
  refine vq rfl rfl (q_eq rfl rfl) ?_
  refine vq rfl rfl (q_assign rfl) ?_
  refine vendW ?_
  refine vc_condD rfl (fun h4 => ?_) (fun h4 => ?_)
  ·
    refine vc_seq ?_
    have ua := hu x.a (by simp [usesN, h4])
    have ub := hu x.b (by simp [usesN, h4])
    refine vc_regionDW mx (qm 7079322587009691268575085199052686755309105153272783703438040442285091407878832803751389629432125009820336821122464634850782050124707788931716966675212406783) [0, 1, 2, 3, 4, 5, 6, 7, 8, 9, 10, 11] (by kernel_rfl) ?_
    refine vq rfl rfl (q_move rfl) ?_
    refine vq rfl rfl (q_field fo89_1 rfl (Nat.le_of_ble_eq_true rfl)) ?_
    refine vq rfl rfl (q_load sc3 rfl) ?_
    refine vq rfl rfl (q_indexH sl40 rfl rfl (by omega) (by omega)) ?_
    refine vr rfl rfl rfl (e_loadE sc3 rfl hv (nthM (by omega)) rfl ⟨rfl, rfl⟩) ?_
    refine vq rfl rfl (q_move rfl) ?_
    refine vq rfl rfl (q_field fo89_2 rfl (Nat.le_of_ble_eq_true rfl)) ?_
    refine vq rfl rfl (q_load sc3 rfl) ?_
    refine vq rfl rfl (q_indexH sl40 rfl rfl (by omega) (by omega)) ?_
    refine vr rfl rfl rfl (e_loadE sc3 rfl hv (nthM (by omega)) rfl ⟨rfl, rfl⟩) ?_
    refine vq rfl rfl (q_max rfl rfl) ?_
    refine vq rfl rfl (q_assign rfl) ?_
    refine vendW ?_
    refine vc_ret ?_
    rw [oneV, if_neg h2, if_neg h3, if_pos h4] at hk
    exact ret1 rfl rfl (Le.refl _) (Cv.le (Le.refl _) _) hk
  refine vc_seq ?_
  refine vc_regionW (qm 3) [0, 1] rfl rfl ?_
  refine vq rfl rfl (q_eq rfl rfl) ?_
  refine vq rfl rfl (q_assign rfl) ?_
  refine vendW ?_
  refine vc_condD rfl (fun h5 => ?_) (fun h5 => ?_)
  ·
    refine vc_seq ?_
    have ua := hu x.a (by simp [usesN, h5])
    have ub := hu x.b (by simp [usesN, h5])
    refine vc_regionDW mx (qm 7079322587009691268575085199052686755309105153272783703438040442285091407878832803751389629432125009820336821122464634850782050124707788931716966675212410879) [0, 1, 2, 3, 4, 5, 6, 7, 8, 9, 10, 11, 12] (by kernel_rfl) ?_
    refine vq rfl rfl (q_move rfl) ?_
    refine vq rfl rfl (q_field fo89_1 rfl (Nat.le_of_ble_eq_true rfl)) ?_
    refine vq rfl rfl (q_load sc3 rfl) ?_
    refine vq rfl rfl (q_indexH sl40 rfl rfl (by omega) (by omega)) ?_
    refine vr rfl rfl rfl (e_loadE sc3 rfl hv (nthM (by omega)) rfl ⟨rfl, rfl⟩) ?_
    refine vq rfl rfl (q_move rfl) ?_
    refine vq rfl rfl (q_field fo89_2 rfl (Nat.le_of_ble_eq_true rfl)) ?_
    refine vq rfl rfl (q_load sc3 rfl) ?_
    refine vq rfl rfl (q_indexH sl40 rfl rfl (by omega) (by omega)) ?_
    refine vr rfl rfl rfl (e_loadE sc3 rfl hv (nthM (by omega)) rfl ⟨rfl, rfl⟩) ?_
    refine vq rfl rfl (q_add rfl rfl (w64 (by have := b01 h01 x.a.toNat; have := b01 h01 x.b.toNat; omega))) ?_
    refine vq rfl rfl (q_rem rfl rfl (by omega) (show _ = (V.getD x.a.toNat default + V.getD x.b.toNat default) % 2 from Int.tmod_eq_emod_of_nonneg (by have := b01 h01 x.a.toNat; have := b01 h01 x.b.toNat; omega))) ?_
    refine vq rfl rfl (q_assign rfl) ?_
    refine vendW ?_
    refine vc_ret ?_
    rw [oneV, if_neg h2, if_neg h3, if_neg h4, if_pos h5] at hk
    exact ret1 rfl rfl (Le.refl _) (Cv.le (Le.refl _) _) hk
  refine vc_skip ?_
  refine vc_seq ?_
  refine vc_seq ?_
  have h6 : x.k = 6 := by omega
  have ua := hu x.a (by simp [usesN, h6])
  have ub := hu x.b (by simp [usesN, h6])
  have uc := hu x.c (by simp [usesN, h6])
  refine vc_regionW (qm 214524926879081553593184399971293538039669853129478294043576983099548224481176751628829988770670454843040509730983776813660062124991145119142938384097345599) [0, 1, 2, 3, 4, 5] rfl rfl ?_
  refine vq rfl rfl (q_move rfl) ?_
  refine vq rfl rfl (q_field fo89_3 rfl (Nat.le_of_ble_eq_true rfl)) ?_
  refine vq rfl rfl (q_load sc3 rfl) ?_
  refine vq rfl rfl (q_indexH sl40 rfl rfl (by omega) (by omega)) ?_
  refine vr rfl rfl rfl (e_loadE sc3 rfl hv (nthM (by omega)) rfl ⟨rfl, rfl⟩) ?_
  refine vq rfl rfl (q_eq rfl rfl) ?_
  refine vendW ?_
  refine vc_condD rfl (fun h60 => ?_) (fun h60 => ?_)
  ·
    refine vc_seq ?_
    refine vc_regionW (qm 214524926879081553593184399971293538039669853129478294043576983099548224481176751628829988770670454843040509730983776813660062124991145119142938384097345599) [0, 1, 2, 3, 4, 5] rfl rfl ?_
    refine vq rfl rfl (q_move rfl) ?_
    refine vq rfl rfl (q_field fo89_2 rfl (Nat.le_of_ble_eq_true rfl)) ?_
    refine vq rfl rfl (q_load sc3 rfl) ?_
    refine vq rfl rfl (q_indexH sl40 rfl rfl (by omega) (by omega)) ?_
    refine vr rfl rfl rfl (e_loadE sc3 rfl hv (nthM (by omega)) rfl ⟨rfl, rfl⟩) ?_
    refine vq rfl rfl (q_assign rfl) ?_
    refine vendW ?_
    refine vc_ret ?_
    rw [oneV, if_neg h2, if_neg h3, if_neg h4, if_neg h5, if_pos h60] at hk
    exact ret1 rfl rfl (Le.refl _) (Cv.le (Le.refl _) _) hk
  refine vc_skip ?_
  refine vc_seq ?_
  refine vc_regionW (qm 214524926879081553593184399971293538039669853129478294043576983099548224481176751628829988770670454843040509730983776813660062124991145119142938384097345599) [0, 1, 2, 3, 4, 5] rfl rfl ?_
  refine vq rfl rfl (q_move rfl) ?_
  refine vq rfl rfl (q_field fo89_1 rfl (Nat.le_of_ble_eq_true rfl)) ?_
  refine vq rfl rfl (q_load sc3 rfl) ?_
  refine vq rfl rfl (q_indexH sl40 rfl rfl (by omega) (by omega)) ?_
  refine vr rfl rfl rfl (e_loadE sc3 rfl hv (nthM (by omega)) rfl ⟨rfl, rfl⟩) ?_
  refine vq rfl rfl (q_assign rfl) ?_
  refine vendW ?_
  refine vc_ret ?_
  rw [oneV, if_neg h2, if_neg h3, if_neg h4, if_neg h5, if_neg h60] at hk
  exact ret1 rfl rfl (Le.refl _) (Cv.le (Le.refl _) _) hk
theorem valuesN {nt : Net} {inp : Nat → Bool} {I S : List Int} {s : St} {K : AV → St → Prop} (hw : WfB nt.nodes) (hn : nt.nodes.length < 2^38) (hI : ∀ i, i < nt.nodes.length → (nt.nodes.getD i default).k = 1 → I.getD i default = b2i (inp i)) (hIl : I.length = nt.nodes.length) (hk : K (ints ((valL nt.nodes inp nt.nodes.length).map b2i)) s) : CallsA Try.prog 96 [netA nt, ints (rngI nt.nodes.length), ints S, ints I] s K := by
  have hrl := rngI_len nt.nodes.length
  refine callsA_of Try.func96 rfl rfl (Nat.le_of_ble_eq_true rfl) ?_
  refine vc_seq ?_
  refine vc_regionW (qm 3) [0, 1] rfl rfl ?_
  refine vq rfl rfl (q_box rfl rfl) ?_
  refine vq rfl rfl (q_assign rfl) ?_
  refine vendW ?_
  refine vc_seq ?_
  refine vc_regionW (qm 23) [0, 1, 2, 3, 4] rfl rfl ?_
  refine vq rfl rfl (q_field fo25_0 rfl (Nat.le_of_ble_eq_true rfl)) ?_
  refine vq rfl rfl (q_load sc22 rfl) ?_
  refine vq rfl rfl (q_len sl22 rfl (by first | exact lenM | rfl)) ?_
  refine ve rfl rfl (e_make sl40 zr3 rfl (List.cons_ne_nil _ _) rfl rfl (by omega) (by omega) (by omega) (by omega) (fun k9 hk9 => ?_))
  refine vq rfl rfl (q_assign rfl) ?_
  refine vendW ?_
  refine vc_seq ?_
  refine vc_seq ?_
  refine vc_regionW (qm 1) [0] rfl rfl ?_
  refine vq rfl rfl (q_assign rfl) ?_
  refine vendW ?_
  refine vc_block ?_
  refine vc_loopS (α := Nat) [10, 11, 12, 17, 18, 19, 20, 21, 22, 23, 24, 25, 26, 27, 28, 29, 30, 31, 32, 33, 34, 35, 36, 37, 38, 39, 40, 41, 42, 43, 44, 45, 46, 47, 48, 49, 50, 51, 52, 53, 54, 55, 56, 57, 58, 59, 60, 61, 62, 63, 64] (fun i => [(10, .int (i : Int))]) (fun i => upd s k9 (.arr 3 1 ((vlI nt.nodes inp i nt.nodes.length).map eI))) (fun i => i ≤ nt.nodes.length) (fun i => nt.nodes.length - i) 0 (by simp) (congrArg (fun q => upd s k9 (Res.arr 3 1 q)) (by rw [vlI, valL, List.map_nil, List.nil_append, Nat.sub_zero, List.map_replicate]; rfl)) ⟨rfl, trivial⟩ (fun _ => rfl) ?_
  intro i hi
  refine vc_seq ?_
  refine vc_seq ?_
  refine vc_regionW (qm 15) [0, 1, 2, 3] rfl rfl ?_
  refine vq rfl rfl (q_move rfl) ?_
  refine vq rfl rfl (q_move rfl) ?_
  refine vq rfl rfl (q_len sl40 rfl (by first | exact lenM | rfl)) ?_
  refine vq rfl rfl (q_lt rfl rfl) ?_
  refine vendW ?_
  refine vc_condD rfl (fun h20 => ?_) (fun h20 => ?_)
  ·
    refine vc_skip ?_
    refine vc_seq ?_
    refine vc_block ?_
    refine vc_seq ?_
    refine vc_regionW (qm 31) [0, 1, 2, 3, 4] rfl rfl ?_
    refine vq rfl rfl (q_move rfl) ?_
    refine vq rfl rfl (q_move rfl) ?_
    refine vq rfl rfl (q_index sl40 rfl rfl (by omega) (nthM (by rw [rngI_len]; omega))) ?_
    refine vq rfl rfl (q_load sc3 rfl) ?_
    refine vq rfl rfl (q_assign rfl) ?_
    refine vendW ?_
    refine vc_seq ?_
    have hil : i < nt.nodes.length := by rw [rngI_len] at h20; omega
    rw [show (rngI nt.nodes.length).getD ((i : Int)).toNat default = (i : Int) from rngI_get hil]
    refine vc_regionW (qm 31) [0, 1, 2, 3, 4, 5, 6] rfl rfl ?_
    refine vq rfl rfl (q_field fo25_0 rfl (Nat.le_of_ble_eq_true rfl)) ?_
    refine vq rfl rfl (q_load sc22 rfl) ?_
    refine vq rfl rfl (q_move rfl) ?_
    refine vq rfl rfl (q_index sl22 rfl rfl (by omega) (nthM (by omega))) ?_
    refine vq rfl rfl (q_loadA ag89 rfl rfl) ?_
    refine ve rfl rfl (e_alloc zr89 (fun k12 hk12 => ?_))
    refine vn rfl rfl (e_storeN sz89 rfl rfl rfl rfl (upd_same _ _ _) rfl ?_)
    refine vendW ?_
    refine vc_frzC (i := 12) hk12 (upd_upd _ _ _ _) rfl ?_
    refine vc_seq ?_
    have hx := hw i hil
    have hkd := hx.kd
    refine vc_regionW (qm 3) [0, 1] rfl rfl ?_
    refine vq rfl rfl (q_field fo89_0 rfl (Nat.le_of_ble_eq_true rfl)) ?_
    refine vq rfl rfl (q_load sc3 rfl) ?_
    refine vendW ?_
    refine vc_block ?_
    refine vc_seq ?_
    refine vc_regionW (qm 3) [0, 1] rfl rfl ?_
    refine vq rfl rfl (q_eq rfl rfl) ?_
    refine vq rfl rfl (q_assign rfl) ?_
    refine vendW ?_
    refine vc_condD rfl (fun h40 => ?_) (fun h40 => ?_)
    ·
      refine vc_regionW (qm 31) [0, 1, 2, 3, 4, 5] rfl rfl ?_
      refine vq rfl rfl (q_move rfl) ?_
      refine vq rfl rfl (q_move rfl) ?_
      refine vq rfl rfl (q_field fo89_1 rfl (Nat.le_of_ble_eq_true rfl)) ?_
      refine vq rfl rfl (q_load sc3 rfl) ?_
      refine vq rfl rfl (q_indexH sl40 rfl rfl (by omega) (by omega)) ?_
      refine vn rfl rfl (e_storeE sz3 rfl rfl rfl (upd_same _ _ _) (nthM (by rw [vlI_len _ _ hi]; exact hil)) rfl ?_)
      refine vendW ?_
      refine vc_regionW (qm 7) [0, 1, 2] rfl rfl ?_
      refine vq rfl rfl (q_move rfl) ?_
      refine vq rfl rfl (q_add rfl rfl (w64 (by omega))) ?_
      refine vq rfl rfl (q_assign rfl) ?_
      refine vendW ?_
      refine ⟨i + 1, by omega, by omega, ?_, ⟨rfl, trivial⟩, (by rw [upd_upd]; exact congrArg (fun q => upd s k9 (Res.arr 3 1 q)) (by rw [← vlI_set nt.nodes inp hil (by first | exact const_b2i hx h40 _ _ | exact in_b2i h47 (hI i hil h47) _ | exact one_gate (n := nt.nodes.length) hx h40 h47 (inp i)), List.map_set]; rfl))⟩
      repeat (first | exact Same.refl | refine Same.upd rfl ?_ | refine Same.drop rfl ?_)
    refine vc_seq ?_
    refine vc_regionW (qm 3) [0, 1] rfl rfl ?_
    refine vq rfl rfl (q_eq rfl rfl) ?_
    refine vq rfl rfl (q_assign rfl) ?_
    refine vendW ?_
    refine vc_condD rfl (fun h47 => ?_) (fun h47 => ?_)
    ·
      refine vc_regionW (qm 127) [0, 1, 2, 3, 4, 5, 6, 7] rfl rfl ?_
      refine vq rfl rfl (q_move rfl) ?_
      refine vq rfl rfl (q_move rfl) ?_
      refine vq rfl rfl (q_move rfl) ?_
      refine vq rfl rfl (q_move rfl) ?_
      refine vq rfl rfl (q_index sl40 rfl rfl (by omega) (nthM (by omega))) ?_
      refine vq rfl rfl (q_load sc3 rfl) ?_
      refine vq rfl rfl (q_indexH sl40 rfl rfl (by omega) (by omega)) ?_
      refine vn rfl rfl (e_storeE sz3 rfl rfl rfl (upd_same _ _ _) (nthM (by rw [vlI_len _ _ hi]; exact hil)) rfl ?_)
      refine vendW ?_
      refine vc_regionW (qm 7) [0, 1, 2] rfl rfl ?_
      refine vq rfl rfl (q_move rfl) ?_
      refine vq rfl rfl (q_add rfl rfl (w64 (by omega))) ?_
      refine vq rfl rfl (q_assign rfl) ?_
      refine vendW ?_
      refine ⟨i + 1, by omega, by omega, ?_, ⟨rfl, trivial⟩, (by rw [upd_upd]; exact congrArg (fun q => upd s k9 (Res.arr 3 1 q)) (by rw [← vlI_set nt.nodes inp hil (by first | exact const_b2i hx h40 _ _ | exact in_b2i h47 (hI i hil h47) _ | exact one_gate (n := nt.nodes.length) hx h40 h47 (inp i)), List.map_set]; rfl))⟩
      repeat (first | exact Same.refl | refine Same.upd rfl ?_ | refine Same.drop rfl ?_)
    refine vc_seq ?_
    refine vc_regionW (qm 3) [0, 1] rfl rfl ?_
    refine vq rfl rfl (q_eq rfl rfl) ?_
    refine vq rfl rfl (q_assign rfl) ?_
    refine vendW ?_
    refine vc_condF rfl (decide_eq_false (fun e => by have e2 : (nt.nodes.getD i default).k = 7 := e; omega)) ?_
    refine vc_regionW (qm 47) [0, 1, 2, 3, 4, 5, 6] rfl rfl ?_
    refine vq rfl rfl (q_move rfl) ?_
    refine vq rfl rfl (q_move rfl) ?_
    refine vq rfl rfl (q_loadA ag89 rfl rfl) ?_
    refine vq rfl rfl (q_move rfl) ?_
    refine ve rfl rfl (e_callF go144 rfl (oneN (x := nt.nodes.getD i default) (V := vlI nt.nodes inp i nt.nodes.length) (n := nt.nodes.length) (k := k9) (upd_same _ _ _) (vlI_len _ _ hi) (by omega) (vlI_01 _ _ _ _) (by have e1 : ¬ (nt.nodes.getD i default).k = 0 := h40; have e2 : ¬ (nt.nodes.getD i default).k = 1 := h47; omega) (by omega) (fun a ha => by have := hx.us a ha; omega) ?_))
    refine vq rfl rfl (q_indexH sl40 rfl rfl (by omega) (by omega)) ?_
    refine vn rfl rfl (e_storeE sz3 rfl rfl rfl (upd_same _ _ _) (nthM (by rw [vlI_len _ _ hi]; exact hil)) rfl ?_)
    refine vendW ?_
    refine vc_regionW (qm 7) [0, 1, 2] rfl rfl ?_
    refine vq rfl rfl (q_move rfl) ?_
    refine vq rfl rfl (q_add rfl rfl (w64 (by omega))) ?_
    refine vq rfl rfl (q_assign rfl) ?_
    refine vendW ?_
    refine ⟨i + 1, by omega, by omega, ?_, ⟨rfl, trivial⟩, (by rw [upd_upd]; exact congrArg (fun q => upd s k9 (Res.arr 3 1 q)) (by rw [← vlI_set nt.nodes inp hil (by first | exact const_b2i hx h40 _ _ | exact in_b2i h47 (hI i hil h47) _ | exact one_gate (n := nt.nodes.length) hx h40 h47 (inp i)), List.map_set]; rfl))⟩
    repeat (first | exact Same.refl | refine Same.upd rfl ?_ | refine Same.drop rfl ?_)
  refine vc_exit ?_
  refine vc_seq ?_
  refine vc_regionW (qm 3) [0, 1] rfl rfl ?_
  refine vq rfl rfl (q_move rfl) ?_
  refine vq rfl rfl (q_assign rfl) ?_
  refine vendW ?_
  refine vc_ret ?_
  have e : i = nt.nodes.length := by rw [rngI_len] at h20; omega
  subst e
  have ho : OwnSt s (.hdr k9 1 nt.nodes.length) 3 1 ((vlI nt.nodes inp nt.nodes.length nt.nodes.length).map eI) _ := OwnSt.mk hk9 (by rw [List.length_map, vlI_len _ _ (Nat.le_refl _)])
  have e2 : vlI nt.nodes inp nt.nodes.length nt.nodes.length = (valL nt.nodes inp nt.nodes.length).map b2i := by simp [vlI]
  exact ret1 rfl rfl ho.le ho.frz (by rw [e2]; exact hk)
end Go.Proofs.Ytpcpdepfnoijoaa

set_option linter.unusedVariables false
set_option linter.unusedSimpArgs false
set_option maxRecDepth 100000
namespace Go.Proofs.Ytpcpdepfnoijoaa
open Go.Vc
theorem startN {nt : Net} {V : List Int} {s : St} {K : AV → St → Prop} (hn : nt.nodes.length < 2^38) (h7 : ∀ i, i < nt.nodes.length → (nt.nodes.getD i default).k ≠ 7) (hk : K (ints (List.replicate nt.nodes.length 0)) s) : CallsA Try.prog 94 [netA nt] s K := by
  refine callsA_of Try.func94 rfl rfl (Nat.le_of_ble_eq_true rfl) ?_
  refine vc_seq ?_
  refine vc_regionW (qm 3) [0, 1] rfl rfl ?_
  refine vq rfl rfl (q_box rfl rfl) ?_
  refine vq rfl rfl (q_assign rfl) ?_
  refine vendW ?_
  refine vc_seq ?_
  refine vc_regionW (qm 23) [0, 1, 2, 3, 4] rfl rfl ?_
  refine vq rfl rfl (q_field fo25_0 rfl (Nat.le_of_ble_eq_true rfl)) ?_
  refine vq rfl rfl (q_load sc22 rfl) ?_
  refine vq rfl rfl (q_len sl22 rfl (by first | exact lenM | rfl)) ?_
  refine ve rfl rfl (e_make sl40 zr3 rfl (List.cons_ne_nil _ _) rfl rfl (by omega) (by omega) (by omega) (by omega) (fun k9 hk9 => ?_))
  refine vq rfl rfl (q_assign rfl) ?_
  refine vendW ?_
  refine vc_seq ?_
  refine vc_seq ?_
  refine vc_regionW (qm 1) [0] rfl rfl ?_
  refine vq rfl rfl (q_assign rfl) ?_
  refine vendW ?_
  refine vc_block ?_
  refine vc_loopS (α := Nat) [4, 9, 10, 11, 12, 13, 14, 15, 16, 17, 18, 19, 20, 21, 22, 23, 24, 25, 26, 27, 28, 29, 30] (fun i => [(4, .int (i : Int))]) (fun i => upd s k9 (.arr 3 1 ((List.replicate nt.nodes.length (0 : Int)).map eI))) (fun i => i ≤ nt.nodes.length) (fun i => nt.nodes.length - i) 0 (by simp) (congrArg (fun q => upd s k9 (Res.arr 3 1 q)) (by rw [List.map_replicate]; rfl)) ⟨rfl, trivial⟩ (fun _ => rfl) ?_
  intro i hok
  refine vc_seq ?_
  refine vc_seq ?_
  refine vc_regionW (qm 15) [0, 1, 2, 3] rfl rfl ?_
  refine vq rfl rfl (q_move rfl) ?_
  refine vq rfl rfl (q_move rfl) ?_
  refine vq rfl rfl (q_len sl40 rfl (by first | exact lenM | rfl)) ?_
  refine vq rfl rfl (q_lt rfl rfl) ?_
  refine vendW ?_
  refine vc_condD rfl (fun h12 => ?_) (fun h12 => ?_)
  ·
    refine vc_skip ?_
    refine vc_seq ?_
    refine vc_block ?_
    refine vc_seq ?_
    refine vc_regionW (qm 127) [0, 1, 2, 3, 4, 5, 6] rfl rfl ?_
    refine vq rfl rfl (q_field fo25_0 rfl (Nat.le_of_ble_eq_true rfl)) ?_
    refine vq rfl rfl (q_load sc22 rfl) ?_
    refine vq rfl rfl (q_move rfl) ?_
    refine vq rfl rfl (q_index sl22 rfl rfl (by omega) (by first | exact nthI (by omega) | exact nthM (by omega))) ?_
    refine vq rfl rfl (q_field fo89_0 rfl (Nat.le_of_ble_eq_true rfl)) ?_
    refine vq rfl rfl (q_load sc3 rfl) ?_
    refine vq rfl rfl (q_eq rfl rfl) ?_
    refine vendW ?_
    refine vc_condF rfl (decide_eq_false (fun e => h7 i (by omega) e)) ?_
    refine vc_skip ?_
    refine vc_regionW (qm 7) [0, 1, 2] rfl rfl ?_
    refine vq rfl rfl (q_move rfl) ?_
    refine vq rfl rfl (q_add rfl rfl (w64 (by omega))) ?_
    refine vq rfl rfl (q_assign rfl) ?_
    refine vendW ?_
    refine ⟨i + 1, by omega, by omega, ?_, ⟨rfl, trivial⟩, rfl⟩
    repeat (first | exact Same.refl | refine Same.upd rfl ?_ | refine Same.drop rfl ?_)
  refine vc_exit ?_
  refine vc_seq ?_
  refine vc_regionW (qm 3) [0, 1] rfl rfl ?_
  refine vq rfl rfl (q_move rfl) ?_
  refine vq rfl rfl (q_assign rfl) ?_
  refine vendW ?_
  refine vc_ret ?_
  have ho : OwnSt s (.hdr k9 1 nt.nodes.length) 3 1 ((List.replicate nt.nodes.length (0 : Int)).map eI) _ := OwnSt.mk hk9 (by simp)
  exact ret1 rfl rfl ho.le ho.frz hk
theorem nextN {nt : Net} {V : List Int} {s : St} {K : AV → St → Prop} (hn : nt.nodes.length < 2^38) (h7 : ∀ i, i < nt.nodes.length → (nt.nodes.getD i default).k ≠ 7) (hk : K (ints (List.replicate nt.nodes.length 0)) s) : CallsA Try.prog 98 [netA nt, ints V] s K := by
  refine callsA_of Try.func98 rfl rfl (Nat.le_of_ble_eq_true rfl) ?_
  refine vc_seq ?_
  refine vc_regionW (qm 3) [0, 1] rfl rfl ?_
  refine vq rfl rfl (q_box rfl rfl) ?_
  refine vq rfl rfl (q_assign rfl) ?_
  refine vendW ?_
  refine vc_seq ?_
  refine vc_regionW (qm 23) [0, 1, 2, 3, 4] rfl rfl ?_
  refine vq rfl rfl (q_field fo25_0 rfl (Nat.le_of_ble_eq_true rfl)) ?_
  refine vq rfl rfl (q_load sc22 rfl) ?_
  refine vq rfl rfl (q_len sl22 rfl (by first | exact lenM | rfl)) ?_
  refine ve rfl rfl (e_make sl40 zr3 rfl (List.cons_ne_nil _ _) rfl rfl (by omega) (by omega) (by omega) (by omega) (fun k9 hk9 => ?_))
  refine vq rfl rfl (q_assign rfl) ?_
  refine vendW ?_
  refine vc_seq ?_
  refine vc_seq ?_
  refine vc_regionW (qm 1) [0] rfl rfl ?_
  refine vq rfl rfl (q_assign rfl) ?_
  refine vendW ?_
  refine vc_block ?_
  refine vc_loopS (α := Nat) [6, 11, 12, 13, 14, 15, 16, 17, 18, 19, 20, 21, 22, 23, 24, 25, 26, 27, 28, 29, 30, 31, 32, 33, 34, 35] (fun i => [(6, .int (i : Int))]) (fun i => upd s k9 (.arr 3 1 ((List.replicate nt.nodes.length (0 : Int)).map eI))) (fun i => i ≤ nt.nodes.length) (fun i => nt.nodes.length - i) 0 (by simp) (congrArg (fun q => upd s k9 (Res.arr 3 1 q)) (by rw [List.map_replicate]; rfl)) ⟨rfl, trivial⟩ (fun _ => rfl) ?_
  intro i hok
  refine vc_seq ?_
  refine vc_seq ?_
  refine vc_regionW (qm 15) [0, 1, 2, 3] rfl rfl ?_
  refine vq rfl rfl (q_move rfl) ?_
  refine vq rfl rfl (q_move rfl) ?_
  refine vq rfl rfl (q_len sl40 rfl (by first | exact lenM | rfl)) ?_
  refine vq rfl rfl (q_lt rfl rfl) ?_
  refine vendW ?_
  refine vc_condD rfl (fun h12 => ?_) (fun h12 => ?_)
  ·
    refine vc_skip ?_
    refine vc_seq ?_
    refine vc_block ?_
    refine vc_seq ?_
    refine vc_regionW (qm 127) [0, 1, 2, 3, 4, 5, 6] rfl rfl ?_
    refine vq rfl rfl (q_field fo25_0 rfl (Nat.le_of_ble_eq_true rfl)) ?_
    refine vq rfl rfl (q_load sc22 rfl) ?_
    refine vq rfl rfl (q_move rfl) ?_
    refine vq rfl rfl (q_index sl22 rfl rfl (by omega) (by first | exact nthI (by omega) | exact nthM (by omega))) ?_
    refine vq rfl rfl (q_field fo89_0 rfl (Nat.le_of_ble_eq_true rfl)) ?_
    refine vq rfl rfl (q_load sc3 rfl) ?_
    refine vq rfl rfl (q_eq rfl rfl) ?_
    refine vendW ?_
    refine vc_condF rfl (decide_eq_false (fun e => h7 i (by omega) e)) ?_
    refine vc_skip ?_
    refine vc_regionW (qm 7) [0, 1, 2] rfl rfl ?_
    refine vq rfl rfl (q_move rfl) ?_
    refine vq rfl rfl (q_add rfl rfl (w64 (by omega))) ?_
    refine vq rfl rfl (q_assign rfl) ?_
    refine vendW ?_
    refine ⟨i + 1, by omega, by omega, ?_, ⟨rfl, trivial⟩, rfl⟩
    repeat (first | exact Same.refl | refine Same.upd rfl ?_ | refine Same.drop rfl ?_)
  refine vc_exit ?_
  refine vc_seq ?_
  refine vc_regionW (qm 3) [0, 1] rfl rfl ?_
  refine vq rfl rfl (q_move rfl) ?_
  refine vq rfl rfl (q_assign rfl) ?_
  refine vendW ?_
  refine vc_ret ?_
  have ho : OwnSt s (.hdr k9 1 nt.nodes.length) 3 1 ((List.replicate nt.nodes.length (0 : Int)).map eI) _ := OwnSt.mk hk9 (by simp)
  exact ret1 rfl rfl ho.le ho.frz hk
theorem formedN {nt : Net} {s : St} {K : AV → St → Prop} (hn : nt.nodes.length < 2^38) (hi : nt.ins.length < 2^30) (ho : nt.outs.length < 2^30) (hr : ∀ i, i < nt.nodes.length → Rt (nt.nodes.getD i default) nt.nodes.length) (hp : ∀ q ∈ nt.ins ++ nt.outs, 1 ≤ q.bits.length ∧ q.bits.length < 2^30 ∧ ∀ b ∈ q.bits, 0 ≤ b ∧ b < nt.nodes.length) (hk : K (.bool true) s) : CallsA Try.prog 92 [netA nt] s K := by
  refine callsA_of Try.func92 rfl rfl (Nat.le_of_ble_eq_true rfl) ?_
  refine vc_seq ?_
  refine vc_regionW (qm 3) [0, 1] rfl rfl ?_
  refine vq rfl rfl (q_box rfl rfl) ?_
  refine vq rfl rfl (q_assign rfl) ?_
  refine vendW ?_
  refine vc_seq ?_
  refine vc_seq ?_
  refine vc_regionW (qm 1) [0] rfl rfl ?_
  refine vq rfl rfl (q_assign rfl) ?_
  refine vendW ?_
  refine vc_block ?_
  refine vc_loopS (α := Nat) [2, 3, 7, 8, 9, 10, 11, 12, 13, 14, 15, 16, 17, 18, 19, 20, 21, 22, 23] (fun i => [(3, .int (i : Int))]) (fun i => s) (fun i => i ≤ nt.nodes.length) (fun i => nt.nodes.length - i) 0 (by simp) rfl ⟨rfl, trivial⟩ (fun _ => rfl) ?_
  intro i hok
  refine vc_seq ?_
  refine vc_seq ?_
  refine vc_regionW (qm 31) [0, 1, 2, 3, 4] rfl rfl ?_
  refine vq rfl rfl (q_move rfl) ?_
  refine vq rfl rfl (q_field fo25_0 rfl (Nat.le_of_ble_eq_true rfl)) ?_
  refine vq rfl rfl (q_load sc22 rfl) ?_
  refine vq rfl rfl (q_len sl22 rfl (by first | exact lenM | rfl)) ?_
  refine vq rfl rfl (q_lt rfl rfl) ?_
  refine vendW ?_
  refine vc_condD rfl (fun h11 => ?_) (fun h11 => ?_)
  ·
    refine vc_skip ?_
    refine vc_seq ?_
    refine vc_block ?_
    refine vc_seq ?_
    refine vc_regionDW mx (qm 1023) [0, 1, 2, 3, 4, 5, 6, 7, 8, 9] (by kernel_rfl) ?_
    refine vq rfl rfl (q_field fo25_0 rfl (Nat.le_of_ble_eq_true rfl)) ?_
    refine vq rfl rfl (q_load sc22 rfl) ?_
    refine vq rfl rfl (q_move rfl) ?_
    refine vq rfl rfl (q_index sl22 rfl rfl (by omega) (by first | exact nthI (by omega) | exact nthM (by omega))) ?_
    refine vq rfl rfl (q_loadA ag89 rfl rfl) ?_
    refine vq rfl rfl (q_field fo25_0 rfl (Nat.le_of_ble_eq_true rfl)) ?_
    refine vq rfl rfl (q_load sc22 rfl) ?_
    refine vq rfl rfl (q_len sl22 rfl (by first | exact lenM | rfl)) ?_
    refine vq rfl rfl (q_callF go142 rfl (fun s => right6 (x := nt.nodes.getD i default) (n := nt.nodes.length) (hr i (by omega)) (by omega) ⟨rfl, rfl⟩)) ?_
    refine vq rfl rfl (q_not rfl) ?_
    refine vendW ?_
    refine vc_condF rfl rfl ?_
    refine vc_skip ?_
    refine vc_regionW (qm 7) [0, 1, 2] rfl rfl ?_
    refine vq rfl rfl (q_move rfl) ?_
    refine vq rfl rfl (q_add rfl rfl (w64 (by omega))) ?_
    refine vq rfl rfl (q_assign rfl) ?_
    refine vendW ?_
    refine ⟨i + 1, by omega, by omega, ?_, ⟨rfl, trivial⟩, rfl⟩
    repeat (first | exact Same.refl | refine Same.upd rfl ?_ | refine Same.drop rfl ?_)
  refine vc_exit ?_
  refine vc_seq ?_
  refine vc_regionDW mx (qm 183) [0, 1, 2, 4, 5, 3, 6, 7] (by kernel_rfl) ?_
  refine vq rfl rfl (q_buildS sl23 zo91 (by decide) rfl rfl rfl rfl (by decide)) ?_
  refine vq rfl rfl (q_field fo25_1 rfl (Nat.le_of_ble_eq_true rfl)) ?_
  refine vq rfl rfl (q_load sc23 rfl) ?_
  refine vq rfl rfl (q_field fo25_2 rfl (Nat.le_of_ble_eq_true rfl)) ?_
  refine vq rfl rfl (q_load sc23 rfl) ?_
  refine ve rfl rfl (e_append sl23 zo91 rfl rfl (OwnSt.slx _ _ _) (SrcOK.sl 2 _) (rowsC1_map (fun _ => rfl) _) (by simp [maxLen_eq]; omega) (fun x1 s1 ho1 => ?_))
  refine ve rfl rfl (e_append sl23 zo91 rfl rfl ho1 (SrcOK.sl 2 _) (rowsC1_map (fun _ => rfl) _) (by simp [maxLen_eq]; omega) (fun x2 s2 ho2 => ?_))
  refine vq rfl rfl (q_assign rfl) ?_
  refine vendW ?_
  refine vc_seq ?_
  refine vc_seq ?_
  rw [List.nil_append, ← List.map_append] at ho2
  refine vc_frz (i := 4) ho2 rfl ?_
  refine vc_regionW (qm 1) [0] rfl rfl ?_
  refine vq rfl rfl (q_assign rfl) ?_
  refine vendW ?_
  refine vc_block ?_
  refine vc_loopS (α := Nat) [2, 5, 6, 31, 32, 33, 34, 35, 36, 37, 38, 39, 40, 41, 42, 43, 44, 45, 46, 47, 48, 49, 50, 51, 52, 53, 54, 55, 56, 57, 58, 59, 60, 61, 62, 63, 64, 65, 66, 67, 68, 69, 70, 71, 72, 73, 74, 75, 76] (fun j => [(5, .int (j : Int))]) (fun j => s) (fun j => j ≤ (nt.ins ++ nt.outs).length) (fun j => (nt.ins ++ nt.outs).length - j) 0 (by simp) rfl ⟨rfl, trivial⟩ (fun _ => rfl) ?_
  intro j hj
  have hjl : (nt.ins ++ nt.outs).length < 2^31 := by simp; omega
  refine vc_seq ?_
  refine vc_seq ?_
  refine vc_regionW (qm 15) [0, 1, 2, 3] rfl rfl ?_
  refine vq rfl rfl (q_move rfl) ?_
  refine vq rfl rfl (q_move rfl) ?_
  refine vq rfl rfl (q_len sl23 rfl (by first | exact lenM | rfl)) ?_
  refine vq rfl rfl (q_lt rfl rfl) ?_
  refine vendW ?_
  refine vc_condD rfl (fun h34 => ?_) (fun h34 => ?_)
  ·
    refine vc_skip ?_
    refine vc_seq ?_
    refine vc_block ?_
    refine vc_seq ?_
    refine vc_seq ?_
    have hpj := hp _ (getD_mem (l := nt.ins ++ nt.outs) (i := j) (by omega))
    refine vc_regionW (qm 127) [0, 1, 2, 3, 4, 5, 6] rfl rfl ?_
    refine vq rfl rfl (q_move rfl) ?_
    refine vq rfl rfl (q_move rfl) ?_
    refine vq rfl rfl (q_index sl23 rfl rfl (by omega) (by first | exact nthI (by omega) | exact nthM (by omega))) ?_
    refine vq rfl rfl (q_field fo91_1 rfl (Nat.le_of_ble_eq_true rfl)) ?_
    refine vq rfl rfl (q_load sc40 rfl) ?_
    refine vq rfl rfl (q_len sl40 rfl (by first | exact lenM | rfl)) ?_
    refine vq rfl rfl (q_eq rfl rfl) ?_
    refine vendW ?_
    refine vc_condF rfl (decide_eq_false (by omega)) ?_
    refine vc_skip ?_
    refine vc_seq ?_
    refine vc_regionW (qm 1) [0] rfl rfl ?_
    refine vq rfl rfl (q_assign rfl) ?_
    refine vendW ?_
    refine vc_block ?_
    refine vc_loopS (α := Nat) [2, 6, 44, 45, 46, 47, 48, 49, 50, 51, 52, 53, 54, 55, 56, 57, 58, 59, 60, 61, 62, 63, 64, 65, 66, 67, 68, 69, 70, 71, 72, 73, 74, 75, 76] (fun k => [(6, .int (k : Int))]) (fun k => s) (fun k => k ≤ ((nt.ins ++ nt.outs).getD j default).bits.length) (fun k => ((nt.ins ++ nt.outs).getD j default).bits.length - k) 0 (by simp) rfl ⟨rfl, trivial⟩ (fun _ => rfl) ?_
    intro k hkk
    refine vc_seq ?_
    refine vc_seq ?_
    refine vc_regionW (qm 255) [0, 1, 2, 3, 4, 5, 6, 7] rfl rfl ?_
    refine vq rfl rfl (q_move rfl) ?_
    refine vq rfl rfl (q_move rfl) ?_
    refine vq rfl rfl (q_move rfl) ?_
    refine vq rfl rfl (q_index sl23 rfl rfl (by omega) (by first | exact nthI (by omega) | exact nthM (by omega))) ?_
    refine vq rfl rfl (q_field fo91_1 rfl (Nat.le_of_ble_eq_true rfl)) ?_
    refine vq rfl rfl (q_load sc40 rfl) ?_
    refine vq rfl rfl (q_len sl40 rfl (by first | exact lenM | rfl)) ?_
    refine vq rfl rfl (q_lt rfl rfl) ?_
    refine vendW ?_
    refine vc_condD rfl (fun h51 => ?_) (fun h51 => ?_)
    ·
      refine vc_skip ?_
      refine vc_seq ?_
      refine vc_block ?_
      refine vc_seq ?_
      have hbk := hpj.2.2 _ (getD_mem (l := ((nt.ins ++ nt.outs).getD j default).bits) (i := k) (by omega))
      refine vc_regionDW mx (qm 8388607) [0, 1, 2, 3, 4, 5, 6, 7, 8, 9, 10, 11, 12, 13, 14, 15, 16, 17, 18, 19, 20, 21, 22] (by kernel_rfl) ?_
      refine vq rfl rfl (q_move rfl) ?_
      refine vq rfl rfl (q_move rfl) ?_
      refine vq rfl rfl (q_index sl23 rfl rfl (by omega) (by first | exact nthI (by omega) | exact nthM (by omega))) ?_
      refine vq rfl rfl (q_field fo91_1 rfl (Nat.le_of_ble_eq_true rfl)) ?_
      refine vq rfl rfl (q_load sc40 rfl) ?_
      refine vq rfl rfl (q_move rfl) ?_
      refine vq rfl rfl (q_index sl40 rfl rfl (by omega) (by first | exact nthI (by omega) | exact nthM (by omega))) ?_
      refine vq rfl rfl (q_load sc3 rfl) ?_
      refine vq rfl rfl (q_lt rfl rfl) ?_
      refine vq rfl rfl (q_move rfl) ?_
      refine vgrp [10, 11, 12, 13, 14, 15, 16, 17, 18, 19, 20, 21, 22] [] [64, 65, 66, 67, 68, 69, 70, 71, 72, 73, 74, 75] 76 (.v (.bool (false))) ?_ ?_
      ·
        by_cases hg9 : (((nt.ins ++ nt.outs).getD j default).bits.getD k default) < 0
        ·
          exact absurd hg9 (by omega)
        ·
          refine gq_run rfl rfl rfl rfl (by first | exact congrArg Value.bool (decide_eq_false hg9) | (rw [decide_eq_false hg9]; done) | (simp [hg9]; done) | simp_all) (q_move rfl) ?_
          refine gq_run rfl rfl rfl rfl (by first | exact congrArg Value.bool (decide_eq_false hg9) | (rw [decide_eq_false hg9]; done) | (simp [hg9]; done) | simp_all) (q_move rfl) ?_
          refine gq_run rfl rfl rfl rfl (by first | exact congrArg Value.bool (decide_eq_false hg9) | (rw [decide_eq_false hg9]; done) | (simp [hg9]; done) | simp_all) (q_index sl23 rfl rfl (by omega) (by first | exact nthI (by omega) | exact nthM (by omega))) ?_
          refine gq_run rfl rfl rfl rfl (by first | exact congrArg Value.bool (decide_eq_false hg9) | (rw [decide_eq_false hg9]; done) | (simp [hg9]; done) | simp_all) (q_field fo91_1 rfl (Nat.le_of_ble_eq_true rfl)) ?_
          refine gq_run rfl rfl rfl rfl (by first | exact congrArg Value.bool (decide_eq_false hg9) | (rw [decide_eq_false hg9]; done) | (simp [hg9]; done) | simp_all) (q_load sc40 rfl) ?_
          refine gq_run rfl rfl rfl rfl (by first | exact congrArg Value.bool (decide_eq_false hg9) | (rw [decide_eq_false hg9]; done) | (simp [hg9]; done) | simp_all) (q_move rfl) ?_
          refine gq_run rfl rfl rfl rfl (by first | exact congrArg Value.bool (decide_eq_false hg9) | (rw [decide_eq_false hg9]; done) | (simp [hg9]; done) | simp_all) (q_index sl40 rfl rfl (by omega) (by first | exact nthI (by omega) | exact nthM (by omega))) ?_
          refine gq_run rfl rfl rfl rfl (by first | exact congrArg Value.bool (decide_eq_false hg9) | (rw [decide_eq_false hg9]; done) | (simp [hg9]; done) | simp_all) (q_load sc3 rfl) ?_
          refine gq_run rfl rfl rfl rfl (by first | exact congrArg Value.bool (decide_eq_false hg9) | (rw [decide_eq_false hg9]; done) | (simp [hg9]; done) | simp_all) (q_field fo25_0 rfl (Nat.le_of_ble_eq_true rfl)) ?_
          refine gq_run rfl rfl rfl rfl (by first | exact congrArg Value.bool (decide_eq_false hg9) | (rw [decide_eq_false hg9]; done) | (simp [hg9]; done) | simp_all) (q_load sc22 rfl) ?_
          refine gq_run rfl rfl rfl rfl (by first | exact congrArg Value.bool (decide_eq_false hg9) | (rw [decide_eq_false hg9]; done) | (simp [hg9]; done) | simp_all) (q_len sl22 rfl (by first | exact lenM | rfl)) ?_
          refine gq_run rfl rfl rfl rfl (by first | exact congrArg Value.bool (decide_eq_false hg9) | (rw [decide_eq_false hg9]; done) | (simp [hg9]; done) | simp_all) (q_ge rfl rfl) ?_
          refine vq rfl rfl (q_pickF rfl (by first | exact (decide_eq_false hg9) | exact hg9 | (simp [hg9]; done) | simp_all) rfl) ?_
          refine vendW ⟨rfl, congrArg (fun b => some (AV.v (Value.bool b))) (by first | (simp only [decide_eq_false hg9]; done) | (simp only [decide_eq_false hg9]; rfl) | (simp [hg9]; done) | simp_all), ?_⟩
          repeat (first | exact Same.refl | refine Same.upd rfl ?_)
      refine vendW ?_
      refine vc_condF rfl (by first | (simp; done) | (simp; omega) | simp_all) ?_
      refine vc_skip ?_
      refine vc_regionW (qm 7) [0, 1, 2] rfl rfl ?_
      refine vq rfl rfl (q_move rfl) ?_
      refine vq rfl rfl (q_add rfl rfl (w64 (by omega))) ?_
      refine vq rfl rfl (q_assign rfl) ?_
      refine vendW ?_
      refine ⟨k + 1, by omega, by omega, ?_, ⟨rfl, trivial⟩, rfl⟩
      repeat (first | exact Same.refl | refine Same.upd rfl ?_ | refine Same.drop rfl ?_)
    refine vc_exit ?_
    refine vc_regionW (qm 7) [0, 1, 2] rfl rfl ?_
    refine vq rfl rfl (q_move rfl) ?_
    refine vq rfl rfl (q_add rfl rfl (w64 (by omega))) ?_
    refine vq rfl rfl (q_assign rfl) ?_
    refine vendW ?_
    refine ⟨j + 1, by omega, by omega, ?_, ⟨rfl, trivial⟩, rfl⟩
    repeat (first | exact Same.refl | refine Same.upd rfl ?_ | refine Same.drop rfl ?_)
  refine vc_exit ?_
  refine vc_seq ?_
  refine vc_regionW (qm 1) [0] rfl rfl ?_
  refine vq rfl rfl (q_assign rfl) ?_
  refine vendW ?_
  refine vc_ret ?_
  exact ret1 rfl rfl (Le.refl _) (Cv.le (Le.refl _) _) hk
end Go.Proofs.Ytpcpdepfnoijoaa

set_option linter.unusedVariables false
set_option linter.unusedSimpArgs false
set_option maxRecDepth 100000
namespace Go.Proofs.Ytpcpdepfnoijoaa
open Go.Vc
theorem outsN {nt : Net} {V : List Int} {s : St} {K : AV → St → Prop} (hn : nt.nodes.length < 2^38) (ho : nt.outs.length < 2^30) (hVl : V.length = nt.nodes.length) (hp : ∀ q ∈ nt.outs, q.bits.length < 2^30 ∧ ∀ b ∈ q.bits, 0 ≤ b ∧ b < nt.nodes.length) (hk : K (.sl 1 ((nt.outs.map (outP V)).map eP)) s) : CallsA Try.prog 97 [netA nt, ints V] s K := by
  refine callsA_of Try.func97 rfl rfl (Nat.le_of_ble_eq_true rfl) ?_
  refine vc_seq ?_
  refine vc_regionW (qm 3) [0, 1] rfl rfl ?_
  refine vq rfl rfl (q_box rfl rfl) ?_
  refine vq rfl rfl (q_assign rfl) ?_
  refine vendW ?_
  refine vc_seq ?_
  refine vc_regionW (qm 3) [0, 1] rfl rfl ?_
  refine vq rfl rfl (q_buildS sl33 zo53 (by decide) rfl rfl rfl rfl (by decide)) ?_
  refine vq rfl rfl (q_assign rfl) ?_
  refine vendW ?_
  refine vc_seq ?_
  refine vc_seq ?_
  refine vc_regionW (qm 1) [0] rfl rfl ?_
  refine vq rfl rfl (q_assign rfl) ?_
  refine vendW ?_
  refine vc_block ?_
  refine vc_loopS (α := Nat × AV × St) [5, 6, 7, 8, 9, 11, 12, 13, 14, 15, 16, 17, 18, 19, 20, 21, 22, 23, 24, 25, 26, 27, 28, 29, 30, 31, 32, 33, 34, 35, 36, 37, 38, 39, 40, 41, 42, 43, 44, 45, 46, 47, 48, 49, 50, 51, 52, 53, 54, 55, 56, 57, 58, 59, 60] (fun a => [(6, .int (a.1 : Int)), (5, a.2.1)]) (fun a => a.2.2) (fun a => a.1 ≤ nt.outs.length ∧ OwnSt s a.2.1 53 1 (((nt.outs.take a.1).map (outP V)).map eP) a.2.2) (fun a => nt.outs.length - a.1) (0, .slx 1 [], s) ⟨by simp, OwnSt.slx _ _ _⟩ rfl ⟨rfl, rfl, trivial⟩ (fun _ => rfl) ?_
  intro ⟨i, x, s1⟩ ⟨hi, ho1⟩
  simp only at hi ho1 ⊢
  refine vc_seq ?_
  refine vc_seq ?_
  refine vc_regionW (qm 31) [0, 1, 2, 3, 4] rfl rfl ?_
  refine vq rfl rfl (q_move rfl) ?_
  refine vq rfl rfl (q_field fo25_2 rfl (Nat.le_of_ble_eq_true rfl)) ?_
  refine vq rfl rfl (q_load sc23 rfl) ?_
  refine vq rfl rfl (q_len sl23 rfl (by first | exact lenM | rfl)) ?_
  refine vq rfl rfl (q_lt rfl rfl) ?_
  refine vendW ?_
  refine vc_condD rfl (fun h15 => ?_) (fun h15 => ?_)
  ·
    refine vc_skip ?_
    refine vc_seq ?_
    refine vc_block ?_
    refine vc_seq ?_
    have hq := hp _ (getD_mem (l := nt.outs) (i := i) (by omega))
    refine vc_regionW (qm 383) [0, 1, 2, 3, 4, 5, 6, 7, 8] rfl rfl ?_
    refine vq rfl rfl (q_field fo25_2 rfl (Nat.le_of_ble_eq_true rfl)) ?_
    refine vq rfl rfl (q_load sc23 rfl) ?_
    refine vq rfl rfl (q_move rfl) ?_
    refine vq rfl rfl (q_index sl23 rfl rfl (by omega) (by first | exact nthI (by omega) | exact nthM (by omega))) ?_
    refine vq rfl rfl (q_field fo91_1 rfl (Nat.le_of_ble_eq_true rfl)) ?_
    refine vq rfl rfl (q_load sc40 rfl) ?_
    refine vq rfl rfl (q_len sl40 rfl (by first | exact lenM | rfl)) ?_
    refine ve rfl rfl (e_make sl48 zr4 rfl (List.cons_ne_nil _ _) rfl rfl (by omega) (by omega) (by omega) (by omega) (fun k7 hk7 => ?_))
    refine vq rfl rfl (q_assign rfl) ?_
    refine vendW ?_
    refine vc_seq ?_
    refine vc_regionW (qm 1) [0] rfl rfl ?_
    refine vq rfl rfl (q_assign rfl) ?_
    refine vendW ?_
    refine vc_seq ?_
    refine vc_seq ?_
    refine vc_regionW (qm 1) [0] rfl rfl ?_
    refine vq rfl rfl (q_assign rfl) ?_
    refine vendW ?_
    refine vc_block ?_
    refine vc_loopS (α := Nat × Nat) [8, 9, 26, 27, 28, 29, 30, 31, 32, 33, 34, 35, 36, 37, 38, 39, 40, 41, 42, 43, 44, 45, 46, 47, 48, 49, 50, 51, 52, 53] (fun b => [(9, .int (b.1 : Int)), (8, .int (b.2 : Int))]) (fun b => upd s1 k7 (.arr 4 1 ((bkL V (nt.outs.getD i default).bits b.1).map eT))) (fun b => b.1 ≤ (nt.outs.getD i default).bits.length ∧ b.2 ≤ b.1 ∧ (b.2 = 0 ∨ fV V ((nt.outs.getD i default).bits.getD (b.2 - 1) default) = true) ∧ (∀ j, b.2 ≤ j → j < b.1 → fV V ((nt.outs.getD i default).bits.getD j default) = false)) (fun b => (nt.outs.getD i default).bits.length - b.1) (0, 0) ⟨by simp, by simp, .inl rfl, fun j h1 h2 => by simp at h2⟩ (congrArg (fun q => upd s1 k7 (Res.arr 4 1 q)) (by rw [bkL_zero, List.map_replicate]; rfl)) ⟨rfl, rfl, trivial⟩ (fun _ => rfl) ?_
    intro ⟨k, last⟩ ⟨hkb, hla, hlb, hlc⟩
    simp only at hkb hla hlb hlc ⊢
    refine vc_seq ?_
    refine vc_seq ?_
    refine vc_regionW (qm 15) [0, 1, 2, 3] rfl rfl ?_
    refine vq rfl rfl (q_move rfl) ?_
    refine vq rfl rfl (q_move rfl) ?_
    refine vq rfl rfl (q_len sl48 rfl rfl) ?_
    refine vq rfl rfl (q_lt rfl rfl) ?_
    refine vendW ?_
    refine vc_condD rfl (fun h29 => ?_) (fun h29 => ?_)
    ·
      refine vc_skip ?_
      refine vc_seq ?_
      refine vc_block ?_
      refine vc_seq ?_
      have hkl : k < (nt.outs.getD i default).bits.length := by omega
      have hbk := hq.2 _ (getD_mem hkl)
      refine vc_regionW (qm 65535) [0, 1, 2, 3, 4, 5, 6, 7, 8, 9, 10, 11, 12, 13, 14, 15, 16] rfl rfl ?_
      refine vq rfl rfl (q_move rfl) ?_
      refine vq rfl rfl (q_move rfl) ?_
      refine vq rfl rfl (q_move rfl) ?_
      refine vq rfl rfl (q_field fo25_2 rfl (Nat.le_of_ble_eq_true rfl)) ?_
      refine vq rfl rfl (q_load sc23 rfl) ?_
      refine vq rfl rfl (q_move rfl) ?_
      refine vq rfl rfl (q_index sl23 rfl rfl (by omega) (by first | exact nthI (by omega) | exact nthM (by omega))) ?_
      refine vq rfl rfl (q_field fo91_1 rfl (Nat.le_of_ble_eq_true rfl)) ?_
      refine vq rfl rfl (q_load sc40 rfl) ?_
      refine vq rfl rfl (q_move rfl) ?_
      refine vq rfl rfl (q_index sl40 rfl rfl (by omega) (by first | exact nthI (by omega) | exact nthM (by omega))) ?_
      refine vq rfl rfl (q_load sc3 rfl) ?_
      refine vq rfl rfl (q_index sl40 rfl rfl (by exact hbk.1) (nthM (by have := hbk.2; omega))) ?_
      refine vq rfl rfl (q_load sc3 rfl) ?_
      refine vq rfl rfl (q_eq rfl rfl) ?_
      refine vq rfl rfl (q_indexH sl48 rfl rfl (by omega) (by omega)) ?_
      refine vn rfl rfl (e_storeE sz4 rfl rfl rfl (upd_same _ _ _) (nthT (by rw [bkL_len V (nt.outs.getD i default).bits (by omega)]; omega)) rfl ?_)
      refine vendW ?_
      refine vc_seq ?_
      refine vc_stEq (s' := upd s1 k7 (.arr 4 1 ((bkL V (nt.outs.getD i default).bits (k + 1)).map eT))) (by rw [upd_upd]; exact congrArg (fun q => upd s1 k7 (Res.arr 4 1 q)) (bkL_set V hkl _)) ?_
      refine vc_regionW (qm 107262463439540776796592199985646769019834926564739147021788491549774112240588375814414994385335227421520254865491888406830031062495572559571469192048672783) [0, 1, 2, 3] rfl rfl ?_
      refine vq rfl rfl (q_move rfl) ?_
      refine vq rfl rfl (q_move rfl) ?_
      refine vq rfl rfl (q_indexH sl48 rfl rfl (by omega) (by omega)) ?_
      refine vr rfl rfl rfl (e_loadE sc4 rfl (upd_same _ _ _) (nthT (by rw [bkL_len V (nt.outs.getD i default).bits (by omega)]; omega)) rfl ⟨rfl, rfl⟩) ?_
      refine vendW ?_
      refine vc_cond rfl (fun h51 => ?_) (fun h51 => ?_)
      ·
        refine vc_regionW (qm 7) [0, 1, 2] rfl rfl ?_
        refine vq rfl rfl (q_move rfl) ?_
        refine vq rfl rfl (q_add rfl rfl (w64 (by omega))) ?_
        refine vq rfl rfl (q_assign rfl) ?_
        refine vendW ?_
        refine vc_regionW (qm 7) [0, 1, 2] rfl rfl ?_
        refine vq rfl rfl (q_move rfl) ?_
        refine vq rfl rfl (q_add rfl rfl (w64 (by omega))) ?_
        refine vq rfl rfl (q_assign rfl) ?_
        refine vendW ?_
        refine ⟨(k + 1, k + 1), ⟨by simp only; omega, by simp, .inr (by rw [bkL_last V hkl] at h51; exact h51), fun j h1 h2 => by simp only at h1 h2; omega⟩, by simp only; omega, ?_, ⟨rfl, rfl, trivial⟩, rfl⟩
        repeat (first | exact Same.refl | refine Same.upd rfl ?_ | refine Same.drop rfl ?_)
      refine vc_skip ?_
      refine vc_regionW (qm 7) [0, 1, 2] rfl rfl ?_
      refine vq rfl rfl (q_move rfl) ?_
      refine vq rfl rfl (q_add rfl rfl (w64 (by omega))) ?_
      refine vq rfl rfl (q_assign rfl) ?_
      refine vendW ?_
      refine ⟨(k + 1, last), ⟨by simp only; omega, by simp only; omega, hlb, fun j h1 h2 => by
      simp only at h1 h2
      by_cases e : j = k
      · subst e; rw [bkL_last V hkl] at h51; exact h51
      · exact hlc j h1 (by omega)⟩, by simp only; omega, ?_, ⟨rfl, rfl, trivial⟩, rfl⟩
      repeat (first | exact Same.refl | refine Same.upd rfl ?_ | refine Same.drop rfl ?_)
    refine vc_exit ?_
    have hkk : k = (nt.outs.getD i default).bits.length := by omega
    subst hkk
    have hle7 : Le s1 (upd s1 k7 (.arr 4 1 ((bkL V (nt.outs.getD i default).bits (nt.outs.getD i default).bits.length).map eT))) := Le.new1 hk7
    obtain ⟨ecut, hwdl⟩ := bkL_cut V hla hlb hlc
    refine vc_regionW (qm 175) [0, 1, 2, 3, 4, 5, 6, 7] rfl rfl ?_
    refine vq rfl rfl (q_move rfl) ?_
    refine vq rfl rfl (q_move rfl) ?_
    refine vq rfl rfl (q_move rfl) ?_
    refine vq rfl rfl (q_sliceH sl48 rfl rfl (by omega) (by omega)) ?_
    refine ve rfl rfl (e_callF go25 rfl (CallsA.cv hle7 (Cvs.cons (by rw [bl, ← ecut, List.map_take]; exact Cv.frz hle7 (upd_same _ _ _) hk7 (by rw [List.length_map, bkL_len V _ (Nat.le_refl _)]; omega)) Cvs.nil) (rParts (b := toB (wvI V (nt.outs.getD i default).bits)) (by rw [toB_len]; omega) ?_)))
    refine vq rfl rfl (q_buildS sl33 zo53 (by decide) rfl rfl rfl rfl (by decide)) ?_
    refine ve rfl rfl (e_append sl33 zo53 rfl rfl ho1 (SrcOK.slx 1 _) (rowsC1_one rfl) (by simp [maxLen_eq]; omega) (fun x3 s3 ho3 => ?_))
    refine vq rfl rfl (q_assign rfl) ?_
    refine vendW ?_
    refine vc_regionW (qm 7) [0, 1, 2] rfl rfl ?_
    refine vq rfl rfl (q_move rfl) ?_
    refine vq rfl rfl (q_add rfl rfl (w64 (by omega))) ?_
    refine vq rfl rfl (q_assign rfl) ?_
    refine vendW ?_
    refine ⟨(i + 1, x3, s3), ⟨by simp only; omega, by rw [map_take_succ (by omega), List.map_append]; rw [bN_toB, toB_len] at ho3; exact ho3⟩, by simp only; omega, ?_, ⟨rfl, rfl, trivial⟩, rfl⟩
    repeat (first | exact Same.refl | refine Same.upd rfl ?_ | refine Same.drop rfl ?_)
  refine vc_exit ?_
  refine vc_seq ?_
  refine vc_regionW (qm 3) [0, 1] rfl rfl ?_
  refine vq rfl rfl (q_move rfl) ?_
  refine vq rfl rfl (q_assign rfl) ?_
  refine vendW ?_
  refine vc_ret ?_
  have e : i = nt.outs.length := by omega
  subst e
  rw [List.take_length] at ho1
  exact ret1 rfl rfl ho1.le ho1.frz hk
end Go.Proofs.Ytpcpdepfnoijoaa

set_option linter.unusedVariables false
set_option linter.unusedSimpArgs false
set_option maxRecDepth 100000
namespace Go.Proofs.Ytpcpdepfnoijoaa
open Go.Vc
theorem inputsN {nt : Net} {prts : List (List Int)} {inp : Nat → Bool} {s : St} {K : AV → St → Prop} (hn : nt.nodes.length < 2^38) (hil : nt.ins.length < 2^30) (hpl : prts.length = nt.ins.length) (hu : ∀ i, i < nt.ins.length → U32 (prts.getD i default) ∧ (prts.getD i default).length < 2^20 ∧ pN (prts.getD i default) < 2 ^ (nt.ins.getD i default).bits.length) (hb : ∀ q ∈ nt.ins, q.bits.length < 2^30 ∧ ∀ b ∈ q.bits, 0 ≤ b ∧ b < nt.nodes.length) (hinp : InpOK nt prts inp) (hk : ∀ I, I.length = nt.nodes.length → (∀ j, I.getD j default = 0 ∨ (I.getD j default = 1 ∧ inp j = true)) → (∀ i, i < nt.ins.length → ∀ k, k < (nt.ins.getD i default).bits.length → I.getD ((nt.ins.getD i default).bits.getD k default).toNat default = b2i (inp ((nt.ins.getD i default).bits.getD k default).toNat)) → K (.tup [ints I, .bool true]) s) : CallsA Try.prog 95 [netA nt, .sl 1 (prts.map eP)] s K := by
  refine callsA_of Try.func95 rfl rfl (Nat.le_of_ble_eq_true rfl) ?_
  refine vc_seq ?_
  refine vc_regionW (qm 7) [0, 1, 2] rfl rfl ?_
  refine vq rfl rfl (q_box rfl rfl) ?_
  refine vq rfl rfl (q_assign rfl) ?_
  refine vq rfl rfl (q_assign rfl) ?_
  refine vendW ?_
  refine vc_seq ?_
  refine vc_regionW (qm 23) [0, 1, 2, 3, 4] rfl rfl ?_
  refine vq rfl rfl (q_field fo25_0 rfl (Nat.le_of_ble_eq_true rfl)) ?_
  refine vq rfl rfl (q_load sc22 rfl) ?_
  refine vq rfl rfl (q_len sl22 rfl (by first | exact lenM | rfl)) ?_
  refine ve rfl rfl (e_make sl40 zr3 rfl (List.cons_ne_nil _ _) rfl rfl (by omega) (by omega) (by omega) (by omega) (fun k6 hk6 => ?_))
  refine vq rfl rfl (q_assign rfl) ?_
  refine vendW ?_
  refine vc_seq ?_
  refine vc_seq ?_
  refine vc_regionW (qm 63) [0, 1, 2, 3, 4, 5] rfl rfl ?_
  refine vq rfl rfl (q_move rfl) ?_
  refine vq rfl rfl (q_len sl33 rfl (by first | exact lenM | rfl)) ?_
  refine vq rfl rfl (q_field fo25_1 rfl (Nat.le_of_ble_eq_true rfl)) ?_
  refine vq rfl rfl (q_load sc23 rfl) ?_
  refine vq rfl rfl (q_len sl23 rfl (by first | exact lenM | rfl)) ?_
  refine vq rfl rfl (q_ne rfl rfl) ?_
  refine vendW ?_
  refine vc_condF rfl (by rw [decide_eq_false_iff_not]; simp [hpl]) ?_
  refine vc_skip ?_
  refine vc_seq ?_
  refine vc_seq ?_
  refine vc_regionW (qm 1) [0] rfl rfl ?_
  refine vq rfl rfl (q_assign rfl) ?_
  refine vendW ?_
  refine vc_block ?_
  refine vc_loopS (α := Nat × List Int) [4, 5, 7, 8, 9, 21, 22, 23, 24, 25, 26, 27, 28, 29, 30, 31, 32, 33, 34, 35, 36, 37, 38, 39, 40, 41, 42, 43, 44, 45, 46, 47, 48, 49, 50, 51, 52, 53, 54, 55, 56, 57, 58, 59, 60, 61, 62, 63] (fun a => [(7, .int (a.1 : Int))]) (fun a => upd s k6 (.arr 3 1 (a.2.map eI))) (fun a => a.1 ≤ nt.ins.length ∧ InOK nt prts inp a.1 0 a.2) (fun a => nt.ins.length - a.1) (0, List.replicate nt.nodes.length 0) ⟨by simp, InOK.init _ _ _⟩ (congrArg (fun q => upd s k6 (Res.arr 3 1 q)) (by rw [List.map_replicate]; rfl)) ⟨rfl, trivial⟩ (fun _ => rfl) ?_
  intro ⟨i, I⟩ ⟨hi, hI⟩
  simp only at hi hI ⊢
  refine vc_seq ?_
  refine vc_seq ?_
  refine vc_regionW (qm 15) [0, 1, 2, 3] rfl rfl ?_
  refine vq rfl rfl (q_move rfl) ?_
  refine vq rfl rfl (q_move rfl) ?_
  refine vq rfl rfl (q_len sl33 rfl (by first | exact lenM | rfl)) ?_
  refine vq rfl rfl (q_lt rfl rfl) ?_
  refine vendW ?_
  refine vc_condD rfl (fun h24 => ?_) (fun h24 => ?_)
  ·
    refine vc_skip ?_
    refine vc_seq ?_
    refine vc_block ?_
    refine vc_seq ?_
    have hil2 : i < nt.ins.length := by omega
    have hui := hu i hil2
    have hqb := hb _ (getD_mem hil2)
    have hwX := wd_mono hui.2.2
    have htl := toB_len (pN (prts.getD i default))
    refine vc_regionW (qm 63) [0, 1, 2, 3, 4, 5] rfl rfl ?_
    refine vq rfl rfl (q_move rfl) ?_
    refine vq rfl rfl (q_move rfl) ?_
    refine vq rfl rfl (q_index sl33 rfl rfl (by omega) (by first | exact nthI (by omega) | exact nthM (by omega))) ?_
    refine vq rfl rfl (q_load sc53 rfl) ?_
    refine vq rfl rfl (q_callF go32 rfl (fun s => rOf (a := prts.getD i default) (by omega) hui.1 ⟨rfl, rfl⟩)) ?_
    refine vq rfl rfl (q_assign rfl) ?_
    refine vendW ?_
    refine vc_seq ?_
    refine vc_seq ?_
    refine vc_regionW (qm 1023) [0, 1, 2, 3, 4, 5, 6, 7, 8, 9] rfl rfl ?_
    refine vq rfl rfl (q_move rfl) ?_
    refine vq rfl rfl (q_len sl48 rfl (by first | exact lenM | rfl)) ?_
    refine vq rfl rfl (q_field fo25_1 rfl (Nat.le_of_ble_eq_true rfl)) ?_
    refine vq rfl rfl (q_load sc23 rfl) ?_
    refine vq rfl rfl (q_move rfl) ?_
    refine vq rfl rfl (q_index sl23 rfl rfl (by omega) (by first | exact nthI (by omega) | exact nthM (by omega))) ?_
    refine vq rfl rfl (q_field fo91_1 rfl (Nat.le_of_ble_eq_true rfl)) ?_
    refine vq rfl rfl (q_load sc40 rfl) ?_
    refine vq rfl rfl (q_len sl40 rfl (by first | exact lenM | rfl)) ?_
    refine vq rfl rfl (q_gt rfl rfl) ?_
    refine vendW ?_
    refine vc_condF rfl (decide_eq_false (by have := toB_len (pN (prts.getD i default)); omega)) ?_
    refine vc_skip ?_
    refine vc_seq ?_
    refine vc_regionW (qm 1) [0] rfl rfl ?_
    refine vq rfl rfl (q_assign rfl) ?_
    refine vendW ?_
    refine vc_block ?_
    refine vc_loopS (α := Nat × List Int) [9, 43, 44, 45, 46, 47, 48, 49, 50, 51, 52, 53, 54, 55, 56, 57, 58, 59, 60, 61, 62, 63] (fun b => [(9, .int (b.1 : Int))]) (fun b => upd s k6 (.arr 3 1 (b.2.map eI))) (fun b => b.1 ≤ wd (pN (prts.getD i default)) ∧ InOK nt prts inp i b.1 b.2) (fun b => wd (pN (prts.getD i default)) - b.1) (0, I) ⟨by simp, hI⟩ rfl ⟨rfl, trivial⟩ (fun _ => rfl) ?_
    intro ⟨k, I2⟩ ⟨hkk, hI2⟩
    simp only at hkk hI2 ⊢
    refine vc_seq ?_
    refine vc_seq ?_
    refine vc_regionW (qm 15) [0, 1, 2, 3] rfl rfl ?_
    refine vq rfl rfl (q_move rfl) ?_
    refine vq rfl rfl (q_move rfl) ?_
    refine vq rfl rfl (q_len sl48 rfl (by first | exact lenM | rfl)) ?_
    refine vq rfl rfl (q_lt rfl rfl) ?_
    refine vendW ?_
    refine vc_condD rfl (fun h46 => ?_) (fun h46 => ?_)
    ·
      refine vc_skip ?_
      refine vc_seq ?_
      refine vc_block ?_
      refine vc_seq ?_
      refine vc_regionW (qm 15) [0, 1, 2, 3] rfl rfl ?_
      refine vq rfl rfl (q_move rfl) ?_
      refine vq rfl rfl (q_move rfl) ?_
      refine vq rfl rfl (q_index sl48 rfl rfl (by omega) (nthT (by omega))) ?_
      refine vq rfl rfl (q_load sc4 rfl) ?_
      refine vendW ?_
      refine vc_cond rfl (fun h52 => ?_) (fun h52 => ?_)
      ·
        have hkX : k < wd (pN (prts.getD i default)) := by omega
        have hbk := hqb.2 _ (getD_mem (show k < (nt.ins.getD i default).bits.length by omega))
        refine vc_regionW (qm 2047) [0, 1, 2, 3, 4, 5, 6, 7, 8, 9, 10, 11] rfl rfl ?_
        refine vq rfl rfl (q_move rfl) ?_
        refine vq rfl rfl (q_field fo25_1 rfl (Nat.le_of_ble_eq_true rfl)) ?_
        refine vq rfl rfl (q_load sc23 rfl) ?_
        refine vq rfl rfl (q_move rfl) ?_
        refine vq rfl rfl (q_index sl23 rfl rfl (by omega) (by first | exact nthI (by omega) | exact nthM (by omega))) ?_
        refine vq rfl rfl (q_field fo91_1 rfl (Nat.le_of_ble_eq_true rfl)) ?_
        refine vq rfl rfl (q_load sc40 rfl) ?_
        refine vq rfl rfl (q_move rfl) ?_
        refine vq rfl rfl (q_index sl40 rfl rfl (by omega) (by first | exact nthI (by omega) | exact nthM (by omega))) ?_
        refine vq rfl rfl (q_load sc3 rfl) ?_
        refine vq rfl rfl (q_indexH sl40 rfl rfl hbk.1 (by have := hbk.2; omega)) ?_
        refine vn rfl rfl (e_storeE sz3 rfl rfl rfl (upd_same _ _ _) (nthM (by have h1 := hbk.2; have h2 := hI2.len; omega)) rfl ?_)
        refine vendW ?_
        refine vc_regionW (qm 7) [0, 1, 2] rfl rfl ?_
        refine vq rfl rfl (q_move rfl) ?_
        refine vq rfl rfl (q_add rfl rfl (w64 (by omega))) ?_
        refine vq rfl rfl (q_assign rfl) ?_
        refine vendW ?_
        refine ⟨(k + 1, I2.set ((nt.ins.getD i default).bits.getD k default).toNat 1), ⟨by simp only; omega, hI2.put hinp hil2 (by omega) (by have := toB_get (pN (prts.getD i default)) k; exact this.symm.trans h52)⟩, by simp only; omega, ?_, ⟨rfl, trivial⟩, (by rw [upd_upd]; exact congrArg (fun q => upd s k6 (Res.arr 3 1 q)) (by rw [List.map_set]; rfl))⟩
        repeat (first | exact Same.refl | refine Same.upd rfl ?_ | refine Same.drop rfl ?_)
      refine vc_skip ?_
      refine vc_regionW (qm 7) [0, 1, 2] rfl rfl ?_
      refine vq rfl rfl (q_move rfl) ?_
      refine vq rfl rfl (q_add rfl rfl (w64 (by omega))) ?_
      refine vq rfl rfl (q_assign rfl) ?_
      refine vendW ?_
      refine ⟨(k + 1, I2), ⟨by simp only; omega, hI2.skip (by have := toB_get (pN (prts.getD i default)) k; exact this.symm.trans h52)⟩, by simp only; omega, ?_, ⟨rfl, trivial⟩, rfl⟩
      repeat (first | exact Same.refl | refine Same.upd rfl ?_ | refine Same.drop rfl ?_)
    refine vc_exit ?_
    refine vc_regionW (qm 7) [0, 1, 2] rfl rfl ?_
    refine vq rfl rfl (q_move rfl) ?_
    refine vq rfl rfl (q_add rfl rfl (w64 (by omega))) ?_
    refine vq rfl rfl (q_assign rfl) ?_
    refine vendW ?_
    refine ⟨(i + 1, I2), ⟨by simp only; omega, hI2.next (by omega)⟩, by simp only; omega, ?_, ⟨rfl, trivial⟩, rfl⟩
    repeat (first | exact Same.refl | refine Same.upd rfl ?_ | refine Same.drop rfl ?_)
  refine vc_exit ?_
  refine vc_seq ?_
  refine vc_regionW (qm 7) [0, 1, 2] rfl rfl ?_
  refine vq rfl rfl (q_move rfl) ?_
  refine vq rfl rfl (q_assign rfl) ?_
  refine vq rfl rfl (q_assign rfl) ?_
  refine vendW ?_
  refine vc_ret ?_
  have e : i = nt.ins.length := by omega
  subst e
  have ho : OwnSt s (.hdr k6 1 nt.nodes.length) 3 1 (I.map eI) _ := OwnSt.mk hk6 (by rw [List.length_map]; exact hI.len.symm)
  exact ret2 rfl rfl rfl ho.le ho.frz (Cv.le ho.le _) (hk I hI.len hI.c (fun j hj k hk2 => hI.done hinp (fun q hq => (hb q hq).2) j hj k hk2))
end Go.Proofs.Ytpcpdepfnoijoaa

set_option linter.unusedVariables false
set_option linter.unusedSimpArgs false
namespace Go.Vc
theorem fp_arr {k e sz : Nat} {xs ys : List (List AV)} (b : Nat) : fp k (.arr e sz xs) b ↔ fp k (.arr e sz ys) b := Iff.rfl
theorem Mut_arr {s : St} {k e sz : Nat} {xs ys : List (List AV)} (hk : s k = some (.arr e sz xs)) (b : Nat) : Mut (upd s k (.arr e sz ys)) b ↔ Mut s b := by
  constructor
  · rintro ⟨j, r, h1, h2⟩
    by_cases e1 : j = k
    · subst e1; rw [upd_same] at h1; cases h1; exact ⟨j, _, hk, h2⟩
    · rw [upd_ne _ _ e1] at h1; exact ⟨j, r, h1, h2⟩
  · rintro ⟨j, r, h1, h2⟩
    by_cases e1 : j = k
    · subst e1; rw [hk] at h1; cases h1; exact ⟨j, _, upd_same _ _ _, h2⟩
    · exact ⟨j, r, by rw [upd_ne _ _ e1]; exact h1, h2⟩
theorem Sat.shrink {w : World} {s : St} {k e sz m : Nat} {xs : List (List AV)} (hs : Sat w s) (hk : s k = some (.arr e sz xs)) (hm : m ≤ xs.length) : Sat w (upd s k (.arr e sz (xs.take m))) := by
  have hM := fun b => Mut_arr (ys := xs.take m) hk b
  refine ⟨fun j r hj => ?_, fun j r j' r' b h1 h2 h3 h4 => ?_, fun b hb => hs.lt b ((hM b).1 hb)⟩
  · by_cases e1 : j = k
    · subst e1
      rw [upd_same] at hj; cases hj
      obtain ⟨cap, cur, g1, g2, g3, g4, g5⟩ := hs.ok j _ hk
      refine ⟨cap, cur, g1, g2, by rw [List.length_take]; omega, g4, ?_⟩
      obtain ⟨u, u', q1, q2, q3⟩ := (RepRows.split (xs := xs.take m) (ys := xs.drop m)).1 (by rw [List.take_append_drop]; exact g5)
      have hl := RepRows.length q2
      rw [List.length_take, Nat.min_eq_left hm] at hl
      rw [List.length_take, Nat.min_eq_left hm]
      have e2 : cur.toList.take (m * sz) = u := by
        have h3 : (cur.toList.take (xs.length * sz)).take (m * sz) = u := by rw [q1, ← hl]; exact List.take_left
        rwa [List.take_take, Nat.min_eq_left (Nat.mul_le_mul_right _ hm)] at h3
      rw [e2]
      exact RepRows.mono (Fr.same fun b hb => (hM b).1 hb) _ _ _ q2
    · rw [upd_ne _ _ e1] at hj
      exact ResOK.congr (fun b hb => (hM b).1 hb) (hs.ok j r hj)
  · have conv : ∀ j r, upd s k (.arr e sz (xs.take m)) j = some r → ∃ r2, s j = some r2 ∧ (fp j r b → fp j r2 b) := fun j r hj => by
      by_cases e1 : j = k
      · subst e1; rw [upd_same] at hj; cases hj; exact ⟨_, hk, id⟩
      · rw [upd_ne _ _ e1] at hj; exact ⟨r, hj, id⟩
    obtain ⟨r2, a1, a2⟩ := conv j r h1
    obtain ⟨r3, a3, a4⟩ := conv j' r' h2
    exact hs.disj j r2 j' r3 b a1 a3 (a2 h3) (a4 h4)
theorem vc_shrink {P : Program} {N : Nat} {Q : EQ} {env : Env} {s : St} {c : Code} {k e sz m : Nat} {xs : List (List AV)} (hk : s k = some (.arr e sz xs)) (hm : m ≤ xs.length) (h : VC P N c Q env (upd s k (.arr e sz (xs.take m)))) : VC P N c Q env s := by
  intro cx w a hs he
  have hM := fun b => Mut_arr (ys := xs.take m) hk b
  have hf : Fr w (Mut s) w (Mut (upd s k (.arr e sz (xs.take m)))) := Fr.same fun b hb => (hM b).1 hb
  exact wpIn_mono (h cx w a (hs.shrink hk hm) (he.mono hf)) fun e a2 w2 hb => Bh.trans hf hb
def sttI (n i : Nat) : List Int := List.replicate i 2 ++ List.replicate (n - i) 0
theorem sttI_len {n i : Nat} (h : i ≤ n) : (sttI n i).length = n := by simp [sttI]; omega
theorem stt_2 {n i j : Nat} (h : j < i) : nth ((sttI n i).map eI) j = some (eI 2) := by
  rw [nth_eq, List.getElem?_map]
  unfold sttI
  rw [List.getElem?_append_left (by simpa using h)]
  simp [h]
theorem stt_0 {n i : Nat} (h : i < n) : nth ((sttI n i).map eI) i = some (eI 0) := by
  rw [nth_eq, List.getElem?_map]
  unfold sttI
  rw [List.getElem?_append_right (by simp)]
  have : 0 < n - i := by omega
  simp [this]
theorem nth_setN {α : Type} {l : List α} {i : Nat} {x : α} (h : i < l.length) : nth (l.set i x) i = some x := by rw [nth_eq]; simp [h]
theorem stt_set {n i : Nat} (h : i < n) (e : List AV) : (((sttI n i).map eI).set i e).set i (eI 2) = (sttI n (i + 1)).map eI := by
  rw [List.set_set]
  unfold sttI
  rw [← List.map_set, List.set_append_right _ _ (by simp), List.length_replicate, Nat.sub_self, show n - i = (n - (i + 1)) + 1 by omega, List.replicate_succ, List.set_cons_zero, List.replicate_succ', List.append_assoc]
  rfl
theorem OwnSt.shrinkO {s0 s : St} {k e sz n m : Nat} {xs : List (List AV)} (h : OwnSt s0 (.hdr k sz n) e sz xs s) (hm : m ≤ xs.length) : OwnSt s0 (.hdr k sz m) e sz (xs.take m) (upd s k (.arr e sz (xs.take m))) := by
  rcases h with ⟨_, _, h | h⟩ | ⟨k', hx, hk, rfl⟩
  · cases h
  · cases h
  · cases hx
    exact .inr ⟨k, by rw [List.length_take, Nat.min_eq_left hm], hk, by rw [upd_upd]⟩
theorem Cv.two {s s1 s2 s3 : St} {x r : AV} (h1 : Le s1 s) (h2 : Le s3 s2) (h : Cv s1 s2 x r) : Cv s s3 x r := fun w y hs hr => by
  have hs1 := hs.le h1
  have := h w y hs1 (Rep.mono (Fr.of_le h1) _ _ hr)
  exact Rep.mono (Fr.of_le h2) _ _ this
end Go.Vc

set_option linter.unusedVariables false
set_option linter.unusedSimpArgs false
set_option maxRecDepth 100000
namespace Go.Proofs.Ytpcpdepfnoijoaa
open Go.Vc
theorem fastN {nt : Net} {s : St} {K : AV → St → Prop} (hn : nt.nodes.length < 2^38) (hi : nt.ins.length < 2^30) (ho : nt.outs.length < 2^30) (hw : WfB nt.nodes) (hp : ∀ q ∈ nt.ins ++ nt.outs, 1 ≤ q.bits.length ∧ q.bits.length < 2^30 ∧ ∀ b ∈ q.bits, 0 ≤ b ∧ b < nt.nodes.length) (hk : K (.tup [ints (rngI nt.nodes.length), .bool true]) s) : CallsA Try.prog 58 [netA nt] s K := by
  refine callsA_of Try.func58 rfl rfl (Nat.le_of_ble_eq_true rfl) ?_
  refine vc_seq ?_
  refine vc_regionW (qm 7) [0, 1, 2] rfl rfl ?_
  refine vq rfl rfl (q_box rfl rfl) ?_
  refine vq rfl rfl (q_assign rfl) ?_
  refine vq rfl rfl (q_assign rfl) ?_
  refine vendW ?_
  refine vc_seq ?_
  refine vc_seq ?_
  refine vc_regionW (qm 7) [0, 1, 2] rfl rfl ?_
  refine vq rfl rfl (q_loadA ag25 rfl rfl) ?_
  refine vq rfl rfl (q_callF go92 rfl (fun s => formedN hn hi ho (fun i hi => Rt.of (hw i hi) (by omega)) hp ⟨rfl, rfl⟩)) ?_
  refine vq rfl rfl (q_not rfl) ?_
  refine vendW ?_
  refine vc_condF rfl rfl ?_
  refine vc_skip ?_
  refine vc_seq ?_
  refine vc_regionW (qm 23) [0, 1, 2, 3, 4] rfl rfl ?_
  refine vq rfl rfl (q_field fo25_0 rfl (Nat.le_of_ble_eq_true rfl)) ?_
  refine vq rfl rfl (q_load sc22 rfl) ?_
  refine vq rfl rfl (q_len sl22 rfl (by first | exact lenM | rfl)) ?_
  refine ve rfl rfl (e_make sl40 zr3 rfl (List.cons_ne_nil _ _) rfl rfl (by omega) (by omega) (by omega) (by omega) (fun k4 hk4 => ?_))
  refine vq rfl rfl (q_assign rfl) ?_
  refine vendW ?_
  refine vc_seq ?_
  refine vc_regionW (qm 3) [0, 1] rfl rfl ?_
  refine vq rfl rfl (q_buildS sl40 zo3 (by decide) rfl rfl rfl rfl (by decide)) ?_
  refine vq rfl rfl (q_assign rfl) ?_
  refine vendW ?_
  refine vc_seq ?_
  refine vc_regionW (qm 3) [0, 1] rfl rfl ?_
  refine vq rfl rfl (q_buildS sl40 zo3 (by decide) rfl rfl rfl rfl (by decide)) ?_
  refine vq rfl rfl (q_assign rfl) ?_
  refine vendW ?_
  refine vc_seq ?_
  refine vc_seq ?_
  refine vc_regionW (qm 1) [0] rfl rfl ?_
  refine vq rfl rfl (q_assign rfl) ?_
  refine vendW ?_
  refine vc_block ?_
  refine vc_loopS (α := Nat × AV × AV × St × St) [2, 3, 5, 6, 7, 8, 9, 10, 11, 21, 22, 23, 24, 25, 26, 27, 28, 29, 30, 31, 32, 33, 34, 35, 36, 37, 38, 39, 40, 41, 42, 43, 44, 45, 46, 47, 48, 49, 50, 51, 52, 53, 54, 55, 56, 57, 58, 59, 60, 61, 62, 63, 64, 65, 66, 67, 68, 69, 70, 71, 72, 73, 74, 75, 76, 77, 78, 79, 80, 81, 82, 83, 84, 85, 86, 87, 88, 89, 90, 91, 92, 93, 94, 95, 96, 97, 98, 99, 100, 101, 102, 103, 104, 105, 106, 107, 108, 109, 110, 111, 112] (fun a => [(7, .int (a.1 : Int)), (5, a.2.1), (6, a.2.2.1)]) (fun a => a.2.2.2.2) (fun a => a.1 ≤ nt.nodes.length ∧ OwnSt (upd s k4 (.arr 3 1 ((sttI nt.nodes.length (a.1)).map eI))) a.2.1 3 1 ((rngI a.1).map eI) a.2.2.2.1 ∧ OwnSt a.2.2.2.1 a.2.2.1 3 1 [] a.2.2.2.2) (fun a => nt.nodes.length - a.1) (0, .slx 1 [], .slx 1 [], upd s k4 (.arr 3 1 ((sttI nt.nodes.length (0)).map eI)), upd s k4 (.arr 3 1 ((sttI nt.nodes.length (0)).map eI))) ⟨by simp, OwnSt.slx _ _ _, OwnSt.slx _ _ _⟩ (congrArg (fun q => upd s k4 (Res.arr 3 1 q)) (by rw [sttI, List.replicate_zero, List.nil_append, Nat.sub_zero, List.map_replicate]; rfl)) ⟨rfl, rfl, rfl, trivial⟩ (fun _ => rfl) ?_
  intro ⟨i, x5, x6, s1, s2⟩ ⟨hin, ho5, ho6⟩
  simp only at hin ho5 ho6 ⊢
  refine vc_seq ?_
  refine vc_seq ?_
  refine vc_regionW (qm 31) [0, 1, 2, 3, 4] rfl rfl ?_
  refine vq rfl rfl (q_move rfl) ?_
  refine vq rfl rfl (q_field fo25_0 rfl (Nat.le_of_ble_eq_true rfl)) ?_
  refine vq rfl rfl (q_load sc22 rfl) ?_
  refine vq rfl rfl (q_len sl22 rfl (by first | exact lenM | rfl)) ?_
  refine vq rfl rfl (q_lt rfl rfl) ?_
  refine vendW ?_
  refine vc_condD rfl (fun h25 => ?_) (fun h25 => ?_)
  ·
    refine vc_skip ?_
    refine vc_seq ?_
    refine vc_block ?_
    refine vc_seq ?_
    refine vc_seq ?_
    have hil : i < nt.nodes.length := by omega
    have hx := hw i hil
    refine vc_regionW (qm 107262463439540776796592199985646769019834926564739147021788491549774112240588375814414994385335227421520254865491888406830031062495572559571469192048672799) [0, 1, 2, 3, 4] rfl rfl ?_
    refine vq rfl rfl (q_move rfl) ?_
    refine vq rfl rfl (q_move rfl) ?_
    refine vq rfl rfl (q_indexH sl40 rfl rfl (by omega) (by omega)) ?_
    refine vr rfl rfl rfl (e_loadE sc3 rfl (ho6.get (ho5.get (upd_same _ _ _))) (stt_0 hil) rfl ⟨rfl, rfl⟩) ?_
    refine vq rfl rfl (q_eq rfl rfl) ?_
    refine vendW ?_
    refine vc_condT rfl rfl ?_
    refine vc_regionW (qm 23) [0, 1, 2, 3, 4] rfl rfl ?_
    refine vq rfl rfl (q_move rfl) ?_
    refine vq rfl rfl (q_move rfl) ?_
    refine vq rfl rfl (q_buildS sl40 zo3 (by decide) rfl rfl rfl rfl (by decide)) ?_
    refine ve rfl rfl (e_append sl40 zo3 rfl rfl ho6 (SrcOK.slx 1 _) (rowsC1_one rfl) (by simp [maxLen_eq]) (fun x7 s7 ho7 => ?_))
    refine vq rfl rfl (q_assign rfl) ?_
    refine vendW ?_
    refine vc_block ?_
    refine vc_loopS (α := Nat × AV × AV × St × St) [2, 3, 5, 6, 8, 9, 10, 11, 37, 38, 39, 40, 41, 42, 43, 44, 45, 46, 47, 48, 49, 50, 51, 52, 53, 54, 55, 56, 57, 58, 59, 60, 61, 62, 63, 64, 65, 66, 67, 68, 69, 70, 71, 72, 73, 74, 75, 76, 77, 78, 79, 80, 81, 82, 83, 84, 85, 86, 87, 88, 89, 90, 91, 92, 93, 94, 95, 96, 97, 98, 99, 100, 101, 102, 103, 104, 105, 106, 107, 108, 109, 110, 111, 112] (fun b => [(5, b.2.1), (6, b.2.2.1)]) (fun b => b.2.2.2.2) (fun b => b.1 ≤ 1 ∧ OwnSt (upd s k4 (.arr 3 1 ((sttI nt.nodes.length (i + b.1)).map eI))) b.2.1 3 1 ((rngI (i + b.1)).map eI) b.2.2.2.1 ∧ OwnSt b.2.2.2.1 b.2.2.1 3 1 (if b.1 = 0 then [eI (i : Int)] else []) b.2.2.2.2) (fun b => 1 - b.1) (0, x5, x7, s1, s7) ⟨by simp, ho5, by rw [if_pos rfl]; exact ho7⟩ rfl ⟨rfl, rfl, trivial⟩ (fun _ => rfl) ?_
    intro ⟨d, y5, y6, t1, t2⟩ ⟨hd, hb5, hb6⟩
    simp only at hd hb5 hb6 ⊢
    refine vc_seq ?_
    refine vc_seq ?_
    refine vc_regionW (qm 7) [0, 1, 2] rfl rfl ?_
    refine vq rfl rfl (q_move rfl) ?_
    refine vq rfl rfl (q_len sl40 rfl hb6.len) ?_
    refine vq rfl rfl (q_gt rfl rfl) ?_
    refine vendW ?_
    refine vc_condD rfl (fun h39 => ?_) (fun h39 => ?_)
    ·
      refine vc_skip ?_
      refine vc_block ?_
      refine vc_seq ?_
      have hd0 : d = 0 := by
        by_cases e : d = 0
        · exact e
        · rw [if_neg e] at h39; simp at h39
      subst hd0
      rw [if_pos rfl] at hb6
      simp only [Nat.add_zero] at hb5
      obtain ⟨k6, hz, hc6⟩ := hb6.pos (by simp)
      subst hz
      refine vc_regionW (qm 429049853758163107186368799942587076079339706258956588087153966199096448962353503257659977541340909686081019461967553627320124249982290238285876768194691199) [0, 1, 2, 3, 4, 5, 6] rfl rfl ?_
      refine vq rfl rfl (q_move rfl) ?_
      refine vq rfl rfl (q_move rfl) ?_
      refine vq rfl rfl (q_len sl40 rfl rfl) ?_
      refine vq rfl rfl (q_sub rfl rfl (show _ = (0 : Int) by rw [w64 (by simp)]; simp)) ?_
      refine vq rfl rfl (q_indexH sl40 rfl rfl (by decide) (by simp)) ?_
      refine vr rfl rfl rfl (e_loadE sc3 rfl hc6 rfl rfl ⟨rfl, rfl⟩) ?_
      refine vq rfl rfl (q_assign rfl) ?_
      refine vendW ?_
      refine vc_seq ?_
      refine vc_regionW (qm 1) [0] rfl rfl ?_
      refine vq rfl rfl (q_assign rfl) ?_
      refine vendW ?_
      refine vc_seq ?_
      refine vc_seq ?_
      refine vc_regionW (qm 127) [0, 1, 2, 3, 4, 5, 6] rfl rfl ?_
      refine vq rfl rfl (q_field fo25_0 rfl (Nat.le_of_ble_eq_true rfl)) ?_
      refine vq rfl rfl (q_load sc22 rfl) ?_
      refine vq rfl rfl (q_move rfl) ?_
      refine vq rfl rfl (q_index sl22 rfl rfl (by omega) (by first | exact nthI (by omega) | exact nthM (by omega))) ?_
      refine vq rfl rfl (q_field fo89_0 rfl (Nat.le_of_ble_eq_true rfl)) ?_
      refine vq rfl rfl (q_load sc3 rfl) ?_
      refine vq rfl rfl (q_ne rfl rfl) ?_
      refine vendW ?_
      refine vc_condT rfl (decide_eq_true (fun e => by have e2 : (nt.nodes.getD i default).k = 7 := e; have := hx.kd; omega)) ?_
      refine vc_seq ?_
      refine vc_regionW (qm 127) [0, 1, 2, 3, 4, 5, 6] rfl rfl ?_
      refine vq rfl rfl (q_field fo25_0 rfl (Nat.le_of_ble_eq_true rfl)) ?_
      refine vq rfl rfl (q_load sc22 rfl) ?_
      refine vq rfl rfl (q_move rfl) ?_
      refine vq rfl rfl (q_index sl22 rfl rfl (by omega) (by first | exact nthI (by omega) | exact nthM (by omega))) ?_
      refine vq rfl rfl (q_loadA ag89 rfl rfl) ?_
      refine vq rfl rfl (q_callF go93 rfl (fun s => uses6 (x := (nt.nodes.getD i default)) hx.kd.1 (by have := hx.kd.2; omega) ⟨rfl, rfl⟩)) ?_
      refine vq rfl rfl (q_assign rfl) ?_
      refine vendW ?_
      refine vc_seq ?_
      refine vc_regionW (qm 1) [0] rfl rfl ?_
      refine vq rfl rfl (q_assign rfl) ?_
      refine vendW ?_
      refine vc_block ?_
      refine vc_loopS (α := Nat) [9, 11, 59, 60, 61, 62, 63, 64, 65, 66, 67, 68, 69, 70, 71, 72, 73, 74, 75, 76] (fun k => [(11, .int (k : Int)), (9, .int (-1))]) (fun k => t2) (fun k => k ≤ (usesN (nt.nodes.getD i default)).length) (fun k => (usesN (nt.nodes.getD i default)).length - k) 0 (by simp) rfl ⟨rfl, rfl, trivial⟩ (fun _ => rfl) ?_
      intro k hkk
      have hul := usesN_len (nt.nodes.getD i default)
      refine vc_seq ?_
      refine vc_seq ?_
      refine vc_regionW (qm 15) [0, 1, 2, 3] rfl rfl ?_
      refine vq rfl rfl (q_move rfl) ?_
      refine vq rfl rfl (q_move rfl) ?_
      refine vq rfl rfl (q_len sl40 rfl (by first | exact lenM | rfl)) ?_
      refine vq rfl rfl (q_lt rfl rfl) ?_
      refine vendW ?_
      refine vc_condD rfl (fun h62 => ?_) (fun h62 => ?_)
      ·
        refine vc_skip ?_
        refine vc_seq ?_
        refine vc_block ?_
        refine vc_seq ?_
        have huk := hx.us _ (getD_mem (l := usesN (nt.nodes.getD i default)) (i := k) (by omega))
        refine vc_regionW (qm 858099707516326214372737599885174152158679412517913176174307932398192897924707006515319955082681819372162038923935107254640248499964580476571753536389382399) [0, 1, 2, 3, 4, 5, 6, 7] rfl rfl ?_
        refine vq rfl rfl (q_move rfl) ?_
        refine vq rfl rfl (q_move rfl) ?_
        refine vq rfl rfl (q_move rfl) ?_
        refine vq rfl rfl (q_index sl40 rfl rfl (by omega) (by first | exact nthI (by omega) | exact nthM (by omega))) ?_
        refine vq rfl rfl (q_load sc3 rfl) ?_
        refine vq rfl rfl (q_indexH sl40 rfl rfl huk.1 (by have := huk.2; omega)) ?_
        refine vr rfl rfl rfl (e_loadE sc3 rfl (hb6.get (hb5.get (upd_same _ _ _))) (stt_2 (by have := huk.1; have := huk.2; omega)) rfl ⟨rfl, rfl⟩) ?_
        refine vq rfl rfl (q_lt rfl rfl) ?_
        refine vendW ?_
        refine vc_condF rfl rfl ?_
        refine vc_skip ?_
        refine vc_regionW (qm 7) [0, 1, 2] rfl rfl ?_
        refine vq rfl rfl (q_move rfl) ?_
        refine vq rfl rfl (q_add rfl rfl (w64 (by omega))) ?_
        refine vq rfl rfl (q_assign rfl) ?_
        refine vendW ?_
        refine ⟨k + 1, by omega, by omega, ?_, ⟨rfl, rfl, trivial⟩, rfl⟩
        repeat (first | exact Same.refl | refine Same.upd rfl ?_ | refine Same.drop rfl ?_)
      refine vc_exit ?_
      refine vc_seq ?_
      refine vc_regionW (qm 429049853758163107186368799942587076079339706258956588087153966199096448962353503257659977541340909686081019461967553627320124249982290238285876768194691327) [0, 1, 2, 3, 4, 5, 6, 7, 8] rfl rfl ?_
      refine vq rfl rfl (q_move rfl) ?_
      refine vq rfl rfl (q_move rfl) ?_
      refine vq rfl rfl (q_move rfl) ?_
      refine vq rfl rfl (q_move rfl) ?_
      refine vq rfl rfl (q_indexH sl40 rfl rfl (by omega) (by omega)) ?_
      refine vr rfl rfl rfl (e_loadE sc3 rfl (hb6.get (hb5.get (upd_same _ _ _))) (stt_0 hil) rfl ⟨rfl, rfl⟩) ?_
      refine vq rfl rfl (q_max rfl rfl) ?_
      refine vq rfl rfl (q_indexH sl40 rfl rfl (by omega) (by omega)) ?_
      refine vn rfl rfl (e_storeE sz3 rfl rfl rfl (hb6.get (hb5.get (upd_same _ _ _))) (stt_0 hil) rfl ?_)
      refine vendW ?_
      refine vc_seq ?_
      refine vc_seq ?_
      refine vc_regionW (qm 3) [0, 1] rfl rfl ?_
      refine vq rfl rfl (q_move rfl) ?_
      refine vq rfl rfl (q_lt rfl rfl) ?_
      refine vendW ?_
      refine vc_condT rfl rfl ?_
      refine vc_seq ?_
      refine vc_seq ?_
      refine vc_stEq (s' := upd t2 k4 (.arr 3 1 (((sttI nt.nodes.length i).map eI).set i (eI 1)))) rfl ?_
      have hc5 := hb5.put (r' := (.arr 3 1 (((sttI nt.nodes.length i).map eI).set i (eI 1))))
      have hc7 := hb6.other (r := (.arr 3 1 (((sttI nt.nodes.length i).map eI).set i (eI 1)))) (hb5.get (upd_same _ _ _))
      refine vc_regionW (qm 107262463439540776796592199985646769019834926564739147021788491549774112240588375814414994385335227421520254865491888406830031062495572559571469192048672799) [0, 1, 2, 3, 4] rfl rfl ?_
      refine vq rfl rfl (q_move rfl) ?_
      refine vq rfl rfl (q_move rfl) ?_
      refine vq rfl rfl (q_indexH sl40 rfl rfl (by omega) (by omega)) ?_
      refine vr rfl rfl rfl (e_loadE sc3 rfl (hc7.get (hc5.get (upd_same _ _ _))) (nth_setN (by rw [List.length_map, sttI_len (by omega)]; exact hil)) rfl ⟨rfl, rfl⟩) ?_
      refine vq rfl rfl (q_eq rfl rfl) ?_
      refine vendW ?_
      refine vc_condT rfl rfl ?_
      obtain ⟨u1, hd6, hd5⟩ := hc5.swap hc7
      refine vc_regionW (qm 23) [0, 1, 2, 3, 4] rfl rfl ?_
      refine vq rfl rfl (q_move rfl) ?_
      refine vq rfl rfl (q_move rfl) ?_
      refine vq rfl rfl (q_buildS sl40 zo3 (by decide) rfl rfl rfl rfl (by decide)) ?_
      refine ve rfl rfl (e_append sl40 zo3 rfl rfl hd5 (SrcOK.slx 1 _) (rowsC1_one rfl) (by rw [List.length_map, rngI_len]; simp [maxLen_eq]; omega) (fun x9 s9 ho9 => ?_))
      refine vq rfl rfl (q_assign rfl) ?_
      refine vendW ?_
      refine vc_seq ?_
      obtain ⟨u2, he5, he6⟩ := hd6.swap ho9
      refine vc_regionW (qm 7) [0, 1, 2, 3] rfl rfl ?_
      refine vq rfl rfl (q_move rfl) ?_
      refine vq rfl rfl (q_move rfl) ?_
      refine vq rfl rfl (q_indexH sl40 rfl rfl (by omega) (by omega)) ?_
      refine vn rfl rfl (e_storeE sz3 rfl rfl rfl (he6.get (he5.get (upd_same _ _ _))) (nth_setN (by rw [List.length_map, sttI_len (by omega)]; exact hil)) rfl ?_)
      refine vendW ?_
      refine vc_seq ?_
      refine vc_stEq (s' := upd s9 k4 (.arr 3 1 ((sttI nt.nodes.length (i + 1)).map eI))) (congrArg (fun q => upd s9 k4 (Res.arr 3 1 q)) (stt_set hil (eI 1))) ?_
      have hf5 := he5.put (r' := (.arr 3 1 ((sttI nt.nodes.length (i + 1)).map eI)))
      have hf6 := he6.other (r := (.arr 3 1 ((sttI nt.nodes.length (i + 1)).map eI))) (he5.get (upd_same _ _ _))
      refine vc_regionW (qm 63) [0, 1, 2, 3, 4, 5] rfl rfl ?_
      refine vq rfl rfl (q_move rfl) ?_
      refine vq rfl rfl (q_move rfl) ?_
      refine vq rfl rfl (q_len sl40 rfl rfl) ?_
      refine vq rfl rfl (q_sub rfl rfl (show _ = (0 : Int) by rw [w64 (by simp)]; simp)) ?_
      refine vq rfl rfl (q_sliceH sl40 rfl rfl (by decide) (by simp)) ?_
      refine vq rfl rfl (q_assign rfl) ?_
      refine vendW ?_
      refine vc_shrink (m := 0) hf6.cell (by simp) ?_
      refine vc_exit ?_
      have H5 : OwnSt (upd s k4 (.arr 3 1 ((sttI nt.nodes.length (i + 1)).map eI))) x9 3 1 ((rngI (i + 1)).map eI) (upd u2 k4 (.arr 3 1 ((sttI nt.nodes.length (i + 1)).map eI))) := by
        rw [rngI, List.range_succ, List.map_append, List.map_append]
        exact hf5
      have H6 : OwnSt (upd u2 k4 (.arr 3 1 ((sttI nt.nodes.length (i + 1)).map eI))) (.hdr k6 1 0) 3 1 [] (upd (upd s9 k4 (.arr 3 1 ((sttI nt.nodes.length (i + 1)).map eI))) k6 (.arr 3 1 [])) := hf6.shrinkO (m := 0) (by simp)
      refine ⟨(1, x9, .hdr k6 1 0, upd u2 k4 (.arr 3 1 ((sttI nt.nodes.length (i + 1)).map eI)), upd (upd s9 k4 (.arr 3 1 ((sttI nt.nodes.length (i + 1)).map eI))) k6 (.arr 3 1 [])), ⟨Nat.le_refl _, H5, H6⟩, by simp, ?_, ⟨rfl, rfl, trivial⟩, rfl⟩
      repeat (first | exact Same.refl | refine Same.upd rfl ?_ | refine Same.drop rfl ?_)
    refine vc_exit ?_
    refine vc_regionW (qm 7) [0, 1, 2] rfl rfl ?_
    refine vq rfl rfl (q_move rfl) ?_
    refine vq rfl rfl (q_add rfl rfl (w64 (by omega))) ?_
    refine vq rfl rfl (q_assign rfl) ?_
    refine vendW ?_
    have hd1 : d = 1 := by
      by_cases e : d = 0
      · rw [if_pos e] at h39; simp at h39
      · omega
    subst hd1
    rw [if_neg (by decide)] at hb6
    refine ⟨(i + 1, y5, y6, t1, t2), ⟨by simp only; omega, hb5, hb6⟩, by simp only; omega, ?_, ⟨rfl, rfl, rfl, trivial⟩, rfl⟩
    repeat (first | exact Same.refl | refine Same.upd rfl ?_ | refine Same.drop rfl ?_)
  refine vc_exit ?_
  refine vc_seq ?_
  refine vc_regionW (qm 7) [0, 1, 2] rfl rfl ?_
  refine vq rfl rfl (q_move rfl) ?_
  refine vq rfl rfl (q_assign rfl) ?_
  refine vq rfl rfl (q_assign rfl) ?_
  refine vendW ?_
  refine vc_ret ?_
  have e : i = nt.nodes.length := by omega
  exact ret2 rfl rfl rfl (Le.trans (Le.new1 hk4) (Le.trans ho5.le ho6.le)) (by have h9 := ho5.frz; exact Cv.two ho6.le (Le.new1 hk4) h9) (Cv.le (Le.trans (Le.new1 hk4) (Le.trans ho5.le ho6.le)) _) (by rw [e]; exact hk)
end Go.Proofs.Ytpcpdepfnoijoaa

set_option linter.unusedVariables false
set_option linter.unusedSimpArgs false
set_option maxRecDepth 100000
namespace Go.Proofs.Ytpcpdepfnoijoaa
open Go.Vc
def outW (v : Nat → Bool) (q : Pt) : List Int := pts (wv v q.bits) (wd (wv v q.bits))
structure EvOK (nt : Net) (prts : List (List Int)) (inp : Nat → Bool) : Prop where
  n : nt.nodes.length < 2^38
  i : nt.ins.length < 2^30
  o : nt.outs.length < 2^30
  w : WfB nt.nodes
  p : ∀ q ∈ nt.ins ++ nt.outs, 1 ≤ q.bits.length ∧ q.bits.length < 2^30 ∧ ∀ b ∈ q.bits, 0 ≤ b ∧ b < nt.nodes.length
  l : prts.length = nt.ins.length
  u : ∀ i, i < nt.ins.length → U32 (prts.getD i default) ∧ (prts.getD i default).length < 2 ^ 20 ∧ pN (prts.getD i default) < 2 ^ (nt.ins.getD i default).bits.length
  v : InpOK nt prts inp
  c : ∀ i, i < nt.nodes.length → (nt.nodes.getD i default).k = 1 → (∃ j, j < nt.ins.length ∧ ∃ k, k < (nt.ins.getD j default).bits.length ∧ (nt.ins.getD j default).bits.getD k default = (i : Int)) ∨ inp i = false
theorem EvOK.in_ {nt : Net} {prts : List (List Int)} {inp : Nat → Bool} (h : EvOK nt prts inp) {I : List Int} (hC : ∀ j, I.getD j default = 0 ∨ (I.getD j default = 1 ∧ inp j = true)) (hI : ∀ i, i < nt.ins.length → ∀ k, k < (nt.ins.getD i default).bits.length → I.getD ((nt.ins.getD i default).bits.getD k default).toNat default = b2i (inp ((nt.ins.getD i default).bits.getD k default).toNat)) :
    ∀ i, i < nt.nodes.length → (nt.nodes.getD i default).k = 1 → I.getD i default = b2i (inp i) := fun i hi hk => by
  rcases h.c i hi hk with ⟨j, hj, k, hk2, e⟩ | e
  · have := hI j hj k hk2
    rw [e] at this
    exact this
  · rw [e]
    rcases hC i with h1 | h1
    · exact h1
    · rw [e] at h1; cases h1.2
theorem EvOK.out {nt : Net} {prts : List (List Int)} {inp : Nat → Bool} (h : EvOK nt prts inp) : nt.outs.map (outP ((valL nt.nodes inp nt.nodes.length).map b2i)) = nt.outs.map (outW (valN nt.nodes inp)) := by
  apply List.map_congr_left
  intro q hq
  unfold outP outW
  rw [wvI_val (h.p q (by simp [hq])).2.2]
theorem EvOK.k7 {nt : Net} {prts : List (List Int)} {inp : Nat → Bool} (h : EvOK nt prts inp) : ∀ i, i < nt.nodes.length → (nt.nodes.getD i default).k ≠ 7 := fun i hi e => by
  have := (h.w i hi).kd; omega
abbrev evO (nt : Net) (inp : Nat → Bool) : List (List Int) := nt.outs.map (outW (valN nt.nodes inp))
theorem throughN {nt : Net} {prts : List (List Int)} {inp : Nat → Bool} {s : St} {K : AV → St → Prop} (h : EvOK nt prts inp) (hk : K (.tup [.sl 1 [[.sl 1 ((evO nt inp).map eP)]], .int 0]) s) : CallsA Try.prog 59 [netA nt, ints (rngI nt.nodes.length), .slx 1 [[.sl 1 (prts.map eP)]]] s K := by
  refine callsA_of Try.func59 rfl rfl (Nat.le_of_ble_eq_true rfl) ?_
  refine vc_seq ?_
  refine vc_regionW (qm 7) [0, 1, 2] rfl rfl ?_
  refine vq rfl rfl (q_box rfl rfl) ?_
  refine vq rfl rfl (q_assign rfl) ?_
  refine vq rfl rfl (q_assign rfl) ?_
  refine vendW ?_
  refine vc_seq ?_
  refine vc_regionW (qm 7) [0, 1, 2] rfl rfl ?_
  refine vq rfl rfl (q_loadA ag25 rfl rfl) ?_
  refine vq rfl rfl (q_callF go94 rfl (fun s => startN (V := []) h.n h.k7 ⟨rfl, rfl⟩)) ?_
  refine vq rfl rfl (q_assign rfl) ?_
  refine vendW ?_
  refine vc_seq ?_
  refine vc_regionW (qm 3) [0, 1] rfl rfl ?_
  refine vq rfl rfl (q_buildS sl80 zo33 (by decide) rfl rfl rfl rfl (by decide)) ?_
  refine vq rfl rfl (q_assign rfl) ?_
  refine vendW ?_
  refine vc_seq ?_
  refine vc_seq ?_
  refine vc_regionW (qm 1) [0] rfl rfl ?_
  refine vq rfl rfl (q_assign rfl) ?_
  refine vendW ?_
  refine vc_block ?_
  refine vc_loopS (α := Nat × AV × St) [6, 7, 8, 9, 10, 11, 12, 13, 17, 18, 19, 20, 21, 22, 23, 24, 25, 26, 27, 28, 29, 30, 31, 32, 33, 34, 35, 36, 37, 38, 39, 40, 41, 42, 43, 44, 45, 46, 47] (fun a => [(10, .int (a.1 : Int)), (9, a.2.1), (8, ints (List.replicate nt.nodes.length 0))]) (fun a => a.2.2) (fun a => a.1 ≤ 1 ∧ OwnSt s a.2.1 33 1 (if a.1 = 0 then [] else [[.sl 1 ((evO nt inp).map eP)]]) a.2.2) (fun a => 1 - a.1) (0, .slx 1 [], s) ⟨by simp, by rw [if_pos rfl]; exact OwnSt.slx _ _ _⟩ rfl ⟨rfl, rfl, rfl, trivial⟩ (fun _ => rfl) ?_
  intro ⟨i, x, s1⟩ ⟨hi, ho⟩
  simp only at hi ho ⊢
  refine vc_seq ?_
  refine vc_seq ?_
  refine vc_regionW (qm 15) [0, 1, 2, 3] rfl rfl ?_
  refine vq rfl rfl (q_move rfl) ?_
  refine vq rfl rfl (q_move rfl) ?_
  refine vq rfl rfl (q_len sl80 rfl rfl) ?_
  refine vq rfl rfl (q_lt rfl rfl) ?_
  refine vendW ?_
  refine vc_condD rfl (fun h20 => ?_) (fun h20 => ?_)
  ·
    refine vc_skip ?_
    refine vc_seq ?_
    refine vc_block ?_
    refine vc_seq ?_
    have hi0 : i = 0 := by simp at h20; omega
    subst hi0
    rw [if_pos rfl] at ho
    refine vc_regionDW mx (qm 2015) [0, 1, 2, 3, 4, 5, 6, 7, 8, 9, 10] (by kernel_rfl) ?_
    refine vq rfl rfl (q_loadA ag25 rfl rfl) ?_
    refine vq rfl rfl (q_move rfl) ?_
    refine vq rfl rfl (q_move rfl) ?_
    refine vq rfl rfl (q_indexX sl80 rfl rfl (by omega) rfl) ?_
    refine vq rfl rfl (q_load sc33 rfl) ?_
    refine ve rfl rfl (e_callF go95 rfl (inputsN (prts := prts) (inp := inp) h.n h.i h.l h.u (fun q hq => (h.p q (by simp [hq])).2) h.v (fun I hIl hC hI => ?_)))
    refine vq rfl rfl (q_move rfl) ?_
    refine vq rfl rfl (q_extract rfl rfl) ?_
    refine vq rfl rfl (q_extract rfl rfl) ?_
    refine vq rfl rfl (q_assign rfl) ?_
    refine vq rfl rfl (q_assign rfl) ?_
    refine vendW ?_
    refine vc_seq ?_
    refine vc_seq ?_
    refine vc_regionW (qm 3) [0, 1] rfl rfl ?_
    refine vq rfl rfl (q_move rfl) ?_
    refine vq rfl rfl (q_not rfl) ?_
    refine vendW ?_
    refine vc_condF rfl rfl ?_
    refine vc_skip ?_
    refine vc_seq ?_
    refine vc_regionW (qm 63) [0, 1, 2, 3, 4, 5] rfl rfl ?_
    refine vq rfl rfl (q_loadA ag25 rfl rfl) ?_
    refine vq rfl rfl (q_move rfl) ?_
    refine vq rfl rfl (q_move rfl) ?_
    refine vq rfl rfl (q_move rfl) ?_
    refine vq rfl rfl (q_callF go96 rfl (fun s => valuesN (inp := inp) (I := I) (S := List.replicate nt.nodes.length 0) h.w h.n (h.in_ hC hI) hIl ⟨rfl, rfl⟩)) ?_
    refine vq rfl rfl (q_assign rfl) ?_
    refine vendW ?_
    refine vc_seq ?_
    refine vc_regionW (qm 95) [0, 1, 2, 3, 4, 5, 6] rfl rfl ?_
    refine vq rfl rfl (q_move rfl) ?_
    refine vq rfl rfl (q_loadA ag25 rfl rfl) ?_
    refine vq rfl rfl (q_move rfl) ?_
    refine vq rfl rfl (q_callF go97 rfl (fun s => outsN (V := ((valL nt.nodes inp nt.nodes.length).map b2i)) h.n h.o (by rw [List.length_map, valL_len]) (fun q hq => (h.p q (by simp [hq])).2) ⟨rfl, rfl⟩)) ?_
    refine vq rfl rfl (q_buildS sl80 zo33 (by decide) rfl rfl rfl rfl (by decide)) ?_
    refine ve rfl rfl (e_append sl80 zo33 rfl rfl ho (SrcOK.slx 1 _) (rowsC1_one rfl) (by simp [maxLen_eq]) (fun x3 s3 ho3 => ?_))
    refine vq rfl rfl (q_assign rfl) ?_
    refine vendW ?_
    refine vc_regionW (qm 15) [0, 1, 2, 3] rfl rfl ?_
    refine vq rfl rfl (q_loadA ag25 rfl rfl) ?_
    refine vq rfl rfl (q_move rfl) ?_
    refine vq rfl rfl (q_callF go98 rfl (fun s => nextN (V := ((valL nt.nodes inp nt.nodes.length).map b2i)) h.n h.k7 ⟨rfl, rfl⟩)) ?_
    refine vq rfl rfl (q_assign rfl) ?_
    refine vendW ?_
    refine vc_regionW (qm 7) [0, 1, 2] rfl rfl ?_
    refine vq rfl rfl (q_move rfl) ?_
    refine vq rfl rfl (q_add rfl rfl (w64 (by omega))) ?_
    refine vq rfl rfl (q_assign rfl) ?_
    refine vendW ?_
    have H3 : OwnSt s x3 33 1 [[.sl 1 ((evO nt inp).map eP)]] s3 := by
      rw [h.out] at ho3
      exact ho3
    refine ⟨(1, x3, s3), ⟨Nat.le_refl _, H3⟩, by simp, ?_, ⟨rfl, rfl, rfl, trivial⟩, rfl⟩
    repeat (first | exact Same.refl | refine Same.upd rfl ?_ | refine Same.drop rfl ?_)
  refine vc_exit ?_
  refine vc_seq ?_
  have hi1 : i = 1 := by simp at h20; omega
  subst hi1
  rw [if_neg (by decide)] at ho
  refine vc_regionW (qm 7) [0, 1, 2] rfl rfl ?_
  refine vq rfl rfl (q_move rfl) ?_
  refine vq rfl rfl (q_assign rfl) ?_
  refine vq rfl rfl (q_assign rfl) ?_
  refine vendW ?_
  refine vc_ret ?_
  exact ret2 rfl rfl rfl ho.le ho.frz (Cv.le ho.le _) hk
theorem evalN {nt : Net} {prts : List (List Int)} {inp : Nat → Bool} {s : St} {K : AV → St → Prop} (h : EvOK nt prts inp) (hk : K (.tup [.sl 1 ((evO nt inp).map eP), .bool true]) s) : CallsA Try.prog 23 [netA nt, .sl 1 (prts.map eP)] s K := by
  refine callsA_of Try.func23 rfl rfl (Nat.le_of_ble_eq_true rfl) ?_
  refine vc_seq ?_
  refine vc_regionW (qm 7) [0, 1, 2] rfl rfl ?_
  refine vq rfl rfl (q_box rfl rfl) ?_
  refine vq rfl rfl (q_assign rfl) ?_
  refine vq rfl rfl (q_assign rfl) ?_
  refine vendW ?_
  refine vc_seq ?_
  refine vc_regionW (qm 127) [0, 1, 2, 3, 4, 5, 6] rfl rfl ?_
  refine vq rfl rfl (q_loadA ag25 rfl rfl) ?_
  refine vq rfl rfl (q_callF go58 rfl (fun s => fastN h.n h.i h.o h.w h.p ⟨rfl, rfl⟩)) ?_
  refine vq rfl rfl (q_move rfl) ?_
  refine vq rfl rfl (q_extract rfl rfl) ?_
  refine vq rfl rfl (q_extract rfl rfl) ?_
  refine vq rfl rfl (q_assign rfl) ?_
  refine vq rfl rfl (q_assign rfl) ?_
  refine vendW ?_
  refine vc_seq ?_
  refine vc_seq ?_
  refine vc_regionW (qm 3) [0, 1] rfl rfl ?_
  refine vq rfl rfl (q_move rfl) ?_
  refine vq rfl rfl (q_not rfl) ?_
  refine vendW ?_
  refine vc_condF rfl rfl ?_
  refine vc_skip ?_
  refine vc_seq ?_
  refine vc_regionW (qm 1023) [0, 1, 2, 3, 4, 5, 6, 7, 8, 9] rfl rfl ?_
  refine vq rfl rfl (q_loadA ag25 rfl rfl) ?_
  refine vq rfl rfl (q_move rfl) ?_
  refine vq rfl rfl (q_move rfl) ?_
  refine vq rfl rfl (q_buildS sl80 zo33 (by decide) rfl rfl rfl rfl (by decide)) ?_
  refine vq rfl rfl (q_callF go59 rfl (fun s => throughN (prts := prts) (inp := inp) h ⟨rfl, rfl⟩)) ?_
  refine vq rfl rfl (q_move rfl) ?_
  refine vq rfl rfl (q_extract rfl rfl) ?_
  refine vq rfl rfl (q_extract rfl rfl) ?_
  refine vq rfl rfl (q_assign rfl) ?_
  refine vq rfl rfl (q_assign rfl) ?_
  refine vendW ?_
  refine vc_seq ?_
  refine vc_seq ?_
  refine vc_regionW (qm 3) [0, 1] rfl rfl ?_
  refine vq rfl rfl (q_move rfl) ?_
  refine vq rfl rfl (q_ne rfl rfl) ?_
  refine vendW ?_
  refine vc_condF rfl rfl ?_
  refine vc_skip ?_
  refine vc_seq ?_
  refine vc_regionW (qm 31) [0, 1, 2, 3, 4] rfl rfl ?_
  refine vq rfl rfl (q_move rfl) ?_
  refine vq rfl rfl (q_index sl80 rfl rfl (by decide) rfl) ?_
  refine vq rfl rfl (q_load sc33 rfl) ?_
  refine vq rfl rfl (q_assign rfl) ?_
  refine vq rfl rfl (q_assign rfl) ?_
  refine vendW ?_
  refine vc_ret ?_
  exact ret2 rfl rfl rfl (Le.refl _) (Cv.le (Le.refl _) _) (Cv.le (Le.refl _) _) hk
end Go.Proofs.Ytpcpdepfnoijoaa
