/-
  Part of a proof: A size twice as great, one place lower, is packed as the same (slipsticklaw19.PackScaled).
-/
import Derived.Test.YtpcpdepfnoijoaaPkF
import Derived.Test.YtpcpdepfnoijoaaVcB
set_option linter.unusedVariables false
set_option linter.unusedSimpArgs false
set_option maxRecDepth 100000
namespace Go.Proofs.Ytpcpdepfnoijoaa
open Go.Vc
theorem roundPlain {p : Nat} {F : List Nat} {nd : List Nd} {ins outs : List Pt} {s : St} {K : AV → St → Prop} (hp : s p = some (bld F nd ins outs)) (hw : WfB nd) (hn : nd.length + 1100000 < 2^39) {fb fp fw : Nat} {md pl sz : List Int} {sg mo : Int} (hmd : BW nd md) (lmd : md.length = 3) (hs : B1 nd sg) (hpl : BW nd pl) (hsz : BW nd sz) (hmo : B1 nd mo) (h1p : 1 ≤ pl.length) (hp20 : pl.length ≤ 20) (hP : 2 ≤ fp) (hfw : 2 ≤ fw) (hfw30 : fw ≤ 30) (hfb : fb = fp + fw) (hfb64 : fb ≤ 64) (h1z : 1 ≤ sz.length) (hn6 : sz.length ≤ 600) (hlow : fp + 2 ≤ sz.length) (hk : ∀ F2 n2 x fl, Gr nd n2 1100000 → BW n2 x → BW n2 fl → x.length = fb → fl.length = 5 → (∀ v, Mod v n2 → (wv v x, wv v fl) = packF fp fw (wv v md) (bv v sg) (wv v sz) (sv v pl) (bv v mo)) → K (.tup [ints x, ints fl]) (upd s p (bld F2 n2 ins outs))) : CallsA Try.prog 65 [ptv p 0, fmA fb fp fw, ints md, .int sg, ints pl, ints sz, .int mo] s K := by
  refine callsA_of Try.func65 rfl rfl (Nat.le_of_ble_eq_true rfl) ?_
  refine vc_seq ?_
  refine vc_regionW (qm 7) [0, 1, 2] rfl rfl ?_
  refine vq rfl rfl (q_box rfl rfl) ?_
  refine vq rfl rfl (q_assign rfl) ?_
  refine vq rfl rfl (q_assign rfl) ?_
  refine vendW ?_
  refine vc_seq ?_
  refine vc_seq ?_
  refine vc_regionW (qm 127) [0, 1, 2, 3, 4, 5, 6] rfl rfl ?_
  refine vq rfl rfl (q_field fo63_1 rfl (Nat.le_of_ble_eq_true rfl)) ?_
  refine vq rfl rfl (q_load sc3 rfl) ?_
  refine vq rfl rfl (q_add rfl rfl (show _ = ((fp + 2 : Nat) : Int) by rw [w64 (by omega)]; omega)) ?_
  refine vq rfl rfl (q_move rfl) ?_
  refine vq rfl rfl (q_len sl40 rfl (by first | exact lenM | rfl)) ?_
  refine vq rfl rfl (q_sub rfl rfl (show _ = (((fp : Int) + 2) - (sz.length : Int)) by rw [w64 (by omega)]; omega)) ?_
  refine vq rfl rfl (q_assign rfl) ?_
  refine vendW ?_
  refine vc_seq ?_
  refine vc_regionW (qm 3) [0, 1] rfl rfl ?_
  refine vq rfl rfl (q_move rfl) ?_
  refine vq rfl rfl (q_gt rfl rfl) ?_
  refine vendW ?_
  refine vc_condF rfl (decide_eq_false (by omega)) ?_
  refine vc_skip ?_
  refine vc_seq ?_
  have hwdz : wd sz.length ≤ 10 := wd_mono (by omega)
  refine vc_regionW (qm 31) [0, 1, 2, 3, 4, 5, 6, 7] rfl rfl ?_
  refine vq rfl rfl (q_move rfl) ?_
  refine vq rfl rfl (q_loadA ag63 rfl rfl) ?_
  refine vq rfl rfl (q_move rfl) ?_
  refine vq rfl rfl (q_move rfl) ?_
  refine vq rfl rfl (q_move rfl) ?_
  refine ve rfl rfl (e_callF go101 rfl (shiftedB (pl := pl) (sz := sz) hp hw (by omega) hpl hsz hmo h1p (by omega) hP (by omega) (by omega) hfw30 (fun F1 n1 top half less base tiny any g1 btop bhalf bless bbase btiny bany ltop lbase v1 => ?_)))
  refine ve rfl rfl (e_alloc zr158 (fun k18 hk18 => ?_))
  refine vn rfl rfl (e_storeN sz158 rfl rfl rfl rfl (upd_same _ _ _) rfl ?_)
  refine vendW ?_
  refine vc_frzC (i := 18) hk18 (upd_upd _ _ _ _) rfl ?_
  refine vc_seq ?_
  refine vc_regionW (qm 3) [0, 1, 2, 3, 4] rfl rfl ?_
  refine vq rfl rfl (q_move rfl) ?_
  refine vq rfl rfl (q_move rfl) ?_
  refine ve rfl rfl (e_callF go20 rfl (modesB (x := md) (upd_same _ _ _) g1.wf (by have := g1.len; omega) (hmd.gr g1) (by omega) (fun F2 n2 ms g2 bms lms v2 => ?_)))
  obtain ⟨m0, m1, m2, m3, m4, rfl⟩ := len5 lms
  have hm0 : B1 n2 m0 := bms _ (by simp)
  have hm1 : B1 n2 m1 := bms _ (by simp)
  have hm2 : B1 n2 m2 := bms _ (by simp)
  have hm3 : B1 n2 m3 := bms _ (by simp)
  have hm4 : B1 n2 m4 := bms _ (by simp)
  refine ve rfl rfl (e_alloc zr44 (fun k19 hk19 => ?_))
  refine vn rfl rfl (e_storeN sz44 rfl rfl rfl rfl (upd_same _ _ _) rfl ?_)
  refine vendW ?_
  refine vc_frzC (i := 19) hk19 (upd_upd _ _ _ _) rfl ?_
  refine vc_seq ?_
  refine vc_regionW (qm 11) [0, 1, 2, 3] rfl rfl ?_
  refine vq rfl rfl (q_move rfl) ?_
  refine vq rfl rfl (q_move rfl) ?_
  refine ve rfl rfl (e_callF go89 rfl (notB (x := sg) (upd_same _ _ _) g2.wf (by have := g1.len; have := g2.len; omega) ((hs.gr g1).gr g2)  (fun F3 n3 o3 g3 b3 v3 => ?_)))
  refine vq rfl rfl (q_assign rfl) ?_
  refine vendW ?_
  refine vc_seq ?_
  refine vc_regionW (qm 95) [0, 1, 2, 3, 4, 5, 6] rfl rfl ?_
  refine vq rfl rfl (q_move rfl) ?_
  refine vq rfl rfl (q_field fo158_1 rfl (Nat.le_of_ble_eq_true rfl)) ?_
  refine vq rfl rfl (q_load sc3 rfl) ?_
  refine vq rfl rfl (q_field fo158_2 rfl (Nat.le_of_ble_eq_true rfl)) ?_
  refine vq rfl rfl (q_load sc3 rfl) ?_
  refine ve rfl rfl (e_callF go102 rfl (orB (x := half) (y := less) (upd_same _ _ _) g3.wf (by have := g1.len; have := g2.len; have := g3.len; omega) ((bhalf.gr g2).gr g3) ((bless.gr g2).gr g3) (fun F4 n4 o4 g4 b4 v4 => ?_)))
  refine vq rfl rfl (q_assign rfl) ?_
  refine vendW ?_
  refine vc_seq ?_
  refine vc_regionDW mx (qm 5119) [0, 1, 2, 3, 4, 5, 6, 7, 8, 9, 10, 11, 12] (by kernel_rfl) ?_
  refine vq rfl rfl (q_move rfl) ?_
  refine vq rfl rfl (q_indexB arx5 rfl rfl (by omega) (by omega) (Nat.le_of_ble_eq_true rfl)) ?_
  refine vq rfl rfl (q_load sc3 rfl) ?_
  refine vq rfl rfl (q_move rfl) ?_
  refine vq rfl rfl (q_field fo158_2 rfl (Nat.le_of_ble_eq_true rfl)) ?_
  refine vq rfl rfl (q_load sc3 rfl) ?_
  refine vq rfl rfl (q_field fo158_0 rfl (Nat.le_of_ble_eq_true rfl)) ?_
  refine vq rfl rfl (q_load sc40 rfl) ?_
  refine vq rfl rfl (q_index sl40 rfl rfl (by omega) (nthM (by omega))) ?_
  refine vq rfl rfl (q_load sc3 rfl) ?_
  refine ve rfl rfl (e_callF go102 rfl (orB (x := less) (y := (top.getD 0 default)) (upd_same _ _ _) g4.wf (by have := g1.len; have := g2.len; have := g3.len; have := g4.len; omega) (((bless.gr g2).gr g3).gr g4) ((((btop.get (i := 0) (by omega)).gr g2).gr g3).gr g4) (fun F5 n5 o5 g5 b5 v5 => ?_)))
  refine ve rfl rfl (e_callF go103 rfl (andB (x := m0) (y := o5) (upd_same _ _ _) g5.wf (by have := g1.len; have := g2.len; have := g3.len; have := g4.len; have := g5.len; omega) (((hm0.gr g3).gr g4).gr g5) b5 (fun F6 n6 o6 g6 b6 v6 => ?_)))
  refine vq rfl rfl (q_assign rfl) ?_
  refine vendW ?_
  refine vc_seq ?_
  refine vc_regionDW mx (qm 639) [0, 1, 2, 3, 4, 5, 6, 7, 8, 9] (by kernel_rfl) ?_
  refine vq rfl rfl (q_move rfl) ?_
  refine vq rfl rfl (q_field fo158_1 rfl (Nat.le_of_ble_eq_true rfl)) ?_
  refine vq rfl rfl (q_load sc3 rfl) ?_
  refine vq rfl rfl (q_move rfl) ?_
  refine vq rfl rfl (q_indexB arx5 rfl rfl (by omega) (by omega) (Nat.le_of_ble_eq_true rfl)) ?_
  refine vq rfl rfl (q_load sc3 rfl) ?_
  refine vq rfl rfl (q_move rfl) ?_
  refine ve rfl rfl (e_callF go102 rfl (orB (x := m4) (y := o6) (upd_same _ _ _) g6.wf (by have := g1.len; have := g2.len; have := g3.len; have := g4.len; have := g5.len; have := g6.len; omega) ((((hm4.gr g3).gr g4).gr g5).gr g6) b6 (fun F7 n7 o7 g7 b7 v7 => ?_)))
  refine ve rfl rfl (e_callF go103 rfl (andB (x := half) (y := o7) (upd_same _ _ _) g7.wf (by have := g1.len; have := g2.len; have := g3.len; have := g4.len; have := g5.len; have := g6.len; have := g7.len; omega) ((((((bhalf.gr g2).gr g3).gr g4).gr g5).gr g6).gr g7) b7 (fun F8 n8 o8 g8 b8 v8 => ?_)))
  refine vq rfl rfl (q_assign rfl) ?_
  refine vendW ?_
  refine vc_seq ?_
  refine vc_regionDW mx (qm 5087) [0, 1, 2, 3, 4, 6, 7, 8, 9, 5, 10, 11, 12] (by kernel_rfl) ?_
  refine vq rfl rfl (q_move rfl) ?_
  refine vq rfl rfl (q_move rfl) ?_
  refine vq rfl rfl (q_indexB arx5 rfl rfl (by omega) (by omega) (Nat.le_of_ble_eq_true rfl)) ?_
  refine vq rfl rfl (q_load sc3 rfl) ?_
  refine vq rfl rfl (q_move rfl) ?_
  refine vq rfl rfl (q_move rfl) ?_
  refine vq rfl rfl (q_indexB arx5 rfl rfl (by omega) (by omega) (Nat.le_of_ble_eq_true rfl)) ?_
  refine vq rfl rfl (q_load sc3 rfl) ?_
  refine vq rfl rfl (q_move rfl) ?_
  refine ve rfl rfl (e_callF go103 rfl (andB (x := m2) (y := sg) (upd_same _ _ _) g8.wf (by have := g1.len; have := g2.len; have := g3.len; have := g4.len; have := g5.len; have := g6.len; have := g7.len; have := g8.len; omega) ((((((hm2.gr g3).gr g4).gr g5).gr g6).gr g7).gr g8) ((((((((hs.gr g1).gr g2).gr g3).gr g4).gr g5).gr g6).gr g7).gr g8) (fun F9 n9 o9 g9 b9 v9 => ?_)))
  refine ve rfl rfl (e_callF go103 rfl (andB (x := m3) (y := o3) (upd_same _ _ _) g9.wf (by have := g1.len; have := g2.len; have := g3.len; have := g4.len; have := g5.len; have := g6.len; have := g7.len; have := g8.len; have := g9.len; omega) (((((((hm3.gr g3).gr g4).gr g5).gr g6).gr g7).gr g8).gr g9) ((((((b3.gr g4).gr g5).gr g6).gr g7).gr g8).gr g9) (fun F10 n10 o10 g10 b10 v10 => ?_)))
  refine ve rfl rfl (e_callF go102 rfl (orB (x := o9) (y := o10) (upd_same _ _ _) g10.wf (by have := g1.len; have := g2.len; have := g3.len; have := g4.len; have := g5.len; have := g6.len; have := g7.len; have := g8.len; have := g9.len; have := g10.len; omega) (b9.gr g10) b10 (fun F11 n11 o11 g11 b11 v11 => ?_)))
  refine vq rfl rfl (q_assign rfl) ?_
  refine vendW ?_
  refine vc_seq ?_
  refine vc_regionW (qm 159) [0, 1, 2, 3, 4, 5, 6, 7] rfl rfl ?_
  refine vq rfl rfl (q_move rfl) ?_
  refine vq rfl rfl (q_move rfl) ?_
  refine vq rfl rfl (q_move rfl) ?_
  refine vq rfl rfl (q_move rfl) ?_
  refine vq rfl rfl (q_move rfl) ?_
  refine ve rfl rfl (e_callF go103 rfl (andB (x := o11) (y := o4) (upd_same _ _ _) g11.wf (by have := g1.len; have := g2.len; have := g3.len; have := g4.len; have := g5.len; have := g6.len; have := g7.len; have := g8.len; have := g9.len; have := g10.len; have := g11.len; omega) b11 (((((((b4.gr g5).gr g6).gr g7).gr g8).gr g9).gr g10).gr g11) (fun F12 n12 o12 g12 b12 v12 => ?_)))
  refine ve rfl rfl (e_callF go102 rfl (orB (x := o8) (y := o12) (upd_same _ _ _) g12.wf (by have := g1.len; have := g2.len; have := g3.len; have := g4.len; have := g5.len; have := g6.len; have := g7.len; have := g8.len; have := g9.len; have := g10.len; have := g11.len; have := g12.len; omega) ((((b8.gr g9).gr g10).gr g11).gr g12) b12 (fun F13 n13 o13 g13 b13 v13 => ?_)))
  refine vq rfl rfl (q_assign rfl) ?_
  refine vendW ?_
  refine vc_seq ?_
  refine vc_regionDW mx (qm 257759) [0, 1, 2, 3, 4, 6, 7, 9, 10, 11, 5, 8, 12, 13, 14, 15, 16, 17] (by kernel_rfl) ?_
  refine vq rfl rfl (q_move rfl) ?_
  refine vq rfl rfl (q_move rfl) ?_
  refine vq rfl rfl (q_field fo63_1 rfl (Nat.le_of_ble_eq_true rfl)) ?_
  refine vq rfl rfl (q_load sc3 rfl) ?_
  refine vq rfl rfl (q_sub rfl rfl (show _ = ((fp - 1 : Nat) : Int) by rw [w64 (by omega)]; omega)) ?_
  refine vq rfl rfl (q_field fo158_3 rfl (Nat.le_of_ble_eq_true rfl)) ?_
  refine vq rfl rfl (q_load sc40 rfl) ?_
  refine vq rfl rfl (q_field fo158_0 rfl (Nat.le_of_ble_eq_true rfl)) ?_
  refine vq rfl rfl (q_load sc40 rfl) ?_
  refine vq rfl rfl (q_move rfl) ?_
  refine ve rfl rfl (e_callF go55 rfl (padZ (w := fp - 1) (upd_same _ _ _) g13.wf (by have := g1.len; have := g2.len; have := g3.len; have := g4.len; have := g5.len; have := g6.len; have := g7.len; have := g8.len; have := g9.len; have := g10.len; have := g11.len; have := g12.len; have := g13.len; omega) (by omega) (fun F14 n14 z zx sz9 g14 bz lz v14 hoz => ?_)))
  refine ve rfl rfl (e_append sl40 zo3 rfl rfl hoz (SrcOK.sl 1 _) (rowsC1_ints _) (by simp [maxLen_eq]; omega) (fun xy sy hoy => ?_))
  refine ve rfl rfl (e_callF go104 rfl (CallsA.cv hoy.le (Cvs.cons (Cv.le hoy.le _) (Cvs.cons (by rw [← List.map_append] at hoy; exact hoy.frz) (Cvs.cons (Cv.le hoy.le _) (Cvs.cons (Cv.le hoy.le _) Cvs.nil)))) (prefixB (x := z ++ base) (y := top) (c := o13) (upd_same _ _ _) g14.wf (by have := g1.len; have := g2.len; have := g3.len; have := g4.len; have := g5.len; have := g6.len; have := g7.len; have := g8.len; have := g9.len; have := g10.len; have := g11.len; have := g12.len; have := g13.len; have := g14.len; omega) (bz.app (((((((((((((bbase.gr g2).gr g3).gr g4).gr g5).gr g6).gr g7).gr g8).gr g9).gr g10).gr g11).gr g12).gr g13).gr g14)) (((((((((((((btop.gr g2).gr g3).gr g4).gr g5).gr g6).gr g7).gr g8).gr g9).gr g10).gr g11).gr g12).gr g13).gr g14) (by rw [List.length_append]; omega) (by omega) (b13.gr g14) (fun F15 n15 all co g15 ball bco lall v15 => ?_))))
  refine vq rfl rfl (q_move rfl) ?_
  refine vq rfl rfl (q_extract rfl rfl) ?_
  refine vq rfl rfl (q_extract rfl rfl) ?_
  refine vq rfl rfl (q_assign rfl) ?_
  refine vq rfl rfl (q_assign rfl) ?_
  refine vendW ?_
  rw [List.length_append, lz, lbase, ltop] at lall
  have lall2 : all.length = fp - 1 + (max (max pl.length (wd sz.length)) fw + 2) := by omega
  refine vc_seq ?_
  refine vc_regionW (qm 63) [0, 1, 2, 3, 4, 5] rfl rfl ?_
  refine vq rfl rfl (q_move rfl) ?_
  refine vq rfl rfl (q_field fo63_1 rfl (Nat.le_of_ble_eq_true rfl)) ?_
  refine vq rfl rfl (q_load sc3 rfl) ?_
  refine vq rfl rfl (q_sub rfl rfl (show _ = ((fp - 1 : Nat) : Int) by rw [w64 (by omega)]; omega)) ?_
  refine vq rfl rfl (q_sliceM (f := eI) (xs := all) (fp - 1) all.length sl40 rfl rfl rfl rfl (by simp) (by omega)) ?_
  refine vq rfl rfl (q_assign rfl) ?_
  refine vendW ?_
  refine vc_seq ?_
  refine vc_regionDW mx (qm 20415) [0, 1, 2, 3, 4, 5, 7, 8, 9, 10, 11, 6, 12, 13, 14] (by kernel_rfl) ?_
  refine vq rfl rfl (q_move rfl) ?_
  refine vq rfl rfl (q_move rfl) ?_
  refine vq rfl rfl (q_move rfl) ?_
  refine vq rfl rfl (q_field fo63_2 rfl (Nat.le_of_ble_eq_true rfl)) ?_
  refine vq rfl rfl (q_load sc3 rfl) ?_
  refine vq rfl rfl (q_sliceM (f := eI) (xs := (all.take all.length).drop (fp - 1)) fw ((all.take all.length).drop (fp - 1)).length sl40 rfl rfl rfl rfl (by simp) (by rw [List.length_drop, List.length_take]; omega)) ?_
  refine vq rfl rfl (q_move rfl) ?_
  refine vq rfl rfl (q_move rfl) ?_
  refine vq rfl rfl (q_field fo63_2 rfl (Nat.le_of_ble_eq_true rfl)) ?_
  refine vq rfl rfl (q_load sc3 rfl) ?_
  refine vq rfl rfl (q_sliceM (f := eI) (xs := (all.take all.length).drop (fp - 1)) 0 fw sl40 rfl rfl rfl (by simp) rfl (by rw [List.length_drop, List.length_take]; omega)) ?_
  refine ve rfl rfl (e_callF go90 rfl (foldB (k := 4) (x := (((all.take all.length).drop (fp - 1)).take ((all.take all.length).drop (fp - 1)).length).drop fw) (upd_same _ _ _) g15.wf (by have := g1.len; have := g2.len; have := g3.len; have := g4.len; have := g5.len; have := g6.len; have := g7.len; have := g8.len; have := g9.len; have := g10.len; have := g11.len; have := g12.len; have := g13.len; have := g14.len; have := g15.len; omega) ((((ball.take _).drop _).take _).drop _) (by simp only [List.length_drop, List.length_take]; omega) (fun F16 n16 o16 g16 b16 v16 => ?_)))
  refine ve rfl rfl (e_callF go90 rfl (foldB (k := 3) (x := ((all.take all.length).drop (fp - 1)).take fw) (upd_same _ _ _) g16.wf (by have := g1.len; have := g2.len; have := g3.len; have := g4.len; have := g5.len; have := g6.len; have := g7.len; have := g8.len; have := g9.len; have := g10.len; have := g11.len; have := g12.len; have := g13.len; have := g14.len; have := g15.len; have := g16.len; omega) ((((ball.gr g16).take _).drop _).take _) (by simp only [List.length_drop, List.length_take]; omega) (fun F17 n17 o17 g17 b17 v17 => ?_)))
  refine ve rfl rfl (e_callF go102 rfl (orB (x := o16) (y := o17) (upd_same _ _ _) g17.wf (by have := g1.len; have := g2.len; have := g3.len; have := g4.len; have := g5.len; have := g6.len; have := g7.len; have := g8.len; have := g9.len; have := g10.len; have := g11.len; have := g12.len; have := g13.len; have := g14.len; have := g15.len; have := g16.len; have := g17.len; omega) (b16.gr g17) b17 (fun F18 n18 o18 g18 b18 v18 => ?_)))
  refine vq rfl rfl (q_assign rfl) ?_
  refine vendW ?_
  refine vc_seq ?_
  refine vc_regionW (qm 735) [0, 1, 2, 3, 4, 5, 6, 7, 8, 9] rfl rfl ?_
  refine vq rfl rfl (q_move rfl) ?_
  refine vq rfl rfl (q_field fo63_0 rfl (Nat.le_of_ble_eq_true rfl)) ?_
  refine vq rfl rfl (q_load sc3 rfl) ?_
  refine vq rfl rfl (q_sub rfl rfl (show _ = ((fb - 1 : Nat) : Int) by rw [w64 (by omega)]; omega)) ?_
  refine vq rfl rfl (q_sliceM (f := eI) (xs := all) 0 (fb - 1) sl40 rfl rfl rfl (by simp) rfl (by omega)) ?_
  refine ve rfl rfl (e_callF go54 rfl (cloneIO (l := all.take (fb - 1)) (by rw [List.length_take]; omega) (fun xb sb hob => ?_)))
  refine vq rfl rfl (q_move rfl) ?_
  refine vq rfl rfl (q_buildS sl40 zo3 (by decide) rfl rfl rfl rfl (by decide)) ?_
  refine ve rfl rfl (e_append sl40 zo3 rfl rfl hob (SrcOK.slx 1 _) (rowsC1_one rfl) (by simp [maxLen_eq]; omega) (fun xb2 sb2 hob2 => ?_))
  refine vq rfl rfl (q_assign rfl) ?_
  refine vendW ?_
  refine vc_seq ?_
  refine vc_frz (i := 29) (OwnSt.snocI (l := all.take (fb - 1)) (a := sg) hob2) rfl ?_
  refine vc_regionDW mx (qm 73471) [0, 1, 2, 3, 4, 5, 6, 7, 9, 10, 11, 12, 8, 13, 14, 15, 16] (by kernel_rfl) ?_
  refine vq rfl rfl (q_move rfl) ?_
  refine vq rfl rfl (q_indexB arx5 rfl rfl (by omega) (by omega) (Nat.le_of_ble_eq_true rfl)) ?_
  refine vq rfl rfl (q_load sc3 rfl) ?_
  refine vq rfl rfl (q_move rfl) ?_
  refine vq rfl rfl (q_move rfl) ?_
  refine vq rfl rfl (q_indexB arx5 rfl rfl (by omega) (by omega) (Nat.le_of_ble_eq_true rfl)) ?_
  refine vq rfl rfl (q_load sc3 rfl) ?_
  refine vq rfl rfl (q_move rfl) ?_
  refine vq rfl rfl (q_move rfl) ?_
  refine vq rfl rfl (q_indexB arx5 rfl rfl (by omega) (by omega) (Nat.le_of_ble_eq_true rfl)) ?_
  refine vq rfl rfl (q_load sc3 rfl) ?_
  refine vq rfl rfl (q_move rfl) ?_
  refine ve rfl rfl (e_callF go103 rfl (andB (x := m2) (y := o3) (upd_same _ _ _) g18.wf (by have := g1.len; have := g2.len; have := g3.len; have := g4.len; have := g5.len; have := g6.len; have := g7.len; have := g8.len; have := g9.len; have := g10.len; have := g11.len; have := g12.len; have := g13.len; have := g14.len; have := g15.len; have := g16.len; have := g17.len; have := g18.len; omega) ((((((((((((((((hm2.gr g3).gr g4).gr g5).gr g6).gr g7).gr g8).gr g9).gr g10).gr g11).gr g12).gr g13).gr g14).gr g15).gr g16).gr g17).gr g18) (((((((((((((((b3.gr g4).gr g5).gr g6).gr g7).gr g8).gr g9).gr g10).gr g11).gr g12).gr g13).gr g14).gr g15).gr g16).gr g17).gr g18) (fun F19 n19 o19 g19 b19 v19 => ?_)))
  refine ve rfl rfl (e_callF go103 rfl (andB (x := m3) (y := sg) (upd_same _ _ _) g19.wf (by have := g1.len; have := g2.len; have := g3.len; have := g4.len; have := g5.len; have := g6.len; have := g7.len; have := g8.len; have := g9.len; have := g10.len; have := g11.len; have := g12.len; have := g13.len; have := g14.len; have := g15.len; have := g16.len; have := g17.len; have := g18.len; have := g19.len; omega) (((((((((((((((((hm3.gr g3).gr g4).gr g5).gr g6).gr g7).gr g8).gr g9).gr g10).gr g11).gr g12).gr g13).gr g14).gr g15).gr g16).gr g17).gr g18).gr g19) (((((((((((((((((((hs.gr g1).gr g2).gr g3).gr g4).gr g5).gr g6).gr g7).gr g8).gr g9).gr g10).gr g11).gr g12).gr g13).gr g14).gr g15).gr g16).gr g17).gr g18).gr g19) (fun F20 n20 o20 g20 b20 v20 => ?_)))
  refine ve rfl rfl (e_callF go102 rfl (orB (x := o19) (y := o20) (upd_same _ _ _) g20.wf (by have := g1.len; have := g2.len; have := g3.len; have := g4.len; have := g5.len; have := g6.len; have := g7.len; have := g8.len; have := g9.len; have := g10.len; have := g11.len; have := g12.len; have := g13.len; have := g14.len; have := g15.len; have := g16.len; have := g17.len; have := g18.len; have := g19.len; have := g20.len; omega) (b19.gr g20) b20 (fun F21 n21 o21 g21 b21 v21 => ?_)))
  refine ve rfl rfl (e_callF go102 rfl (orB (x := m1) (y := o21) (upd_same _ _ _) g21.wf (by have := g1.len; have := g2.len; have := g3.len; have := g4.len; have := g5.len; have := g6.len; have := g7.len; have := g8.len; have := g9.len; have := g10.len; have := g11.len; have := g12.len; have := g13.len; have := g14.len; have := g15.len; have := g16.len; have := g17.len; have := g18.len; have := g19.len; have := g20.len; have := g21.len; omega) (((((((((((((((((((hm1.gr g3).gr g4).gr g5).gr g6).gr g7).gr g8).gr g9).gr g10).gr g11).gr g12).gr g13).gr g14).gr g15).gr g16).gr g17).gr g18).gr g19).gr g20).gr g21) b21 (fun F22 n22 o22 g22 b22 v22 => ?_)))
  refine vq rfl rfl (q_assign rfl) ?_
  refine vendW ?_
  refine vc_seq ?_
  refine vc_regionDW mx (qm 44991) [0, 1, 2, 3, 4, 5, 7, 8, 9, 10, 13, 6, 11, 12, 14, 15] (by kernel_rfl) ?_
  refine vq rfl rfl (q_move rfl) ?_
  refine vq rfl rfl (q_move rfl) ?_
  refine vq rfl rfl (q_loadA ag63 rfl rfl) ?_
  refine vq rfl rfl (q_move rfl) ?_
  refine vq rfl rfl (q_loadA ag63 rfl rfl) ?_
  refine vq rfl rfl (q_callF go107 rfl (fun s => infF (by omega) (by omega) (by omega) ⟨rfl, rfl⟩)) ?_
  refine vq rfl rfl (q_move rfl) ?_
  refine vq rfl rfl (q_loadA ag63 rfl rfl) ?_
  refine vq rfl rfl (q_move rfl) ?_
  refine vq rfl rfl (q_loadA ag63 rfl rfl) ?_
  refine vq rfl rfl (q_move rfl) ?_
  refine ve rfl rfl (e_callF go106 rfl (putB (sg := sg) (N := infN fp fw) (upd_same _ _ _) g22.wf (by have := g1.len; have := g2.len; have := g3.len; have := g4.len; have := g5.len; have := g6.len; have := g7.len; have := g8.len; have := g9.len; have := g10.len; have := g11.len; have := g12.len; have := g13.len; have := g14.len; have := g15.len; have := g16.len; have := g17.len; have := g18.len; have := g19.len; have := g20.len; have := g21.len; have := g22.len; omega) ((((((((((((((((((((((hs.gr g1).gr g2).gr g3).gr g4).gr g5).gr g6).gr g7).gr g8).gr g9).gr g10).gr g11).gr g12).gr g13).gr g14).gr g15).gr g16).gr g17).gr g18).gr g19).gr g20).gr g21).gr g22) (Nat.lt_trans (infN_lt (by omega)) (by decide)) (by omega) (by omega) (fun F23 n23 pi g23 bpi lpi v23 => ?_)))
  refine vq rfl rfl (q_callF go108 rfl (fun s => greatF (by omega) (by omega) (by omega) ⟨rfl, rfl⟩)) ?_
  refine ve rfl rfl (e_callF go106 rfl (putB (sg := sg) (N := infN fp fw - 1) (upd_same _ _ _) g23.wf (by have := g1.len; have := g2.len; have := g3.len; have := g4.len; have := g5.len; have := g6.len; have := g7.len; have := g8.len; have := g9.len; have := g10.len; have := g11.len; have := g12.len; have := g13.len; have := g14.len; have := g15.len; have := g16.len; have := g17.len; have := g18.len; have := g19.len; have := g20.len; have := g21.len; have := g22.len; have := g23.len; omega) (((((((((((((((((((((((hs.gr g1).gr g2).gr g3).gr g4).gr g5).gr g6).gr g7).gr g8).gr g9).gr g10).gr g11).gr g12).gr g13).gr g14).gr g15).gr g16).gr g17).gr g18).gr g19).gr g20).gr g21).gr g22).gr g23) (Nat.lt_of_le_of_lt (Nat.sub_le _ _) (Nat.lt_trans (infN_lt (by omega)) (by decide))) (by omega) (by omega) (fun F24 n24 pg g24 bpg lpg v24 => ?_)))
  refine ve rfl rfl (e_callF go105 rfl (pickB (x := pi) (y := pg) (c := o22) (upd_same _ _ _) g24.wf (by have := g1.len; have := g2.len; have := g3.len; have := g4.len; have := g5.len; have := g6.len; have := g7.len; have := g8.len; have := g9.len; have := g10.len; have := g11.len; have := g12.len; have := g13.len; have := g14.len; have := g15.len; have := g16.len; have := g17.len; have := g18.len; have := g19.len; have := g20.len; have := g21.len; have := g22.len; have := g23.len; have := g24.len; omega) (bpi.gr g24) bpg (by omega) (by omega) ((b22.gr g23).gr g24) (fun F25 n25 bey g25 bbey lbey v25 => ?_)))
  refine vq rfl rfl (q_assign rfl) ?_
  refine vendW ?_
  refine vc_seq ?_
  refine vc_regionW (qm 5) [0, 1, 2] rfl rfl ?_
  refine vq rfl rfl (q_move rfl) ?_
  refine ve rfl rfl (e_callF go56 rfl (bitB (b := 0) (upd_same _ _ _) g25.wf (by have := g1.len; have := g2.len; have := g3.len; have := g4.len; have := g5.len; have := g6.len; have := g7.len; have := g8.len; have := g9.len; have := g10.len; have := g11.len; have := g12.len; have := g13.len; have := g14.len; have := g15.len; have := g16.len; have := g17.len; have := g18.len; have := g19.len; have := g20.len; have := g21.len; have := g22.len; have := g23.len; have := g24.len; have := g25.len; omega) (fun F26 n26 o26 g26 b26 v26 => ?_)))
  refine vq rfl rfl (q_assign rfl) ?_
  refine vendW ?_
  refine vc_seq ?_
  refine vc_regionDW mx (qm 16119) [0, 1, 2, 4, 5, 6, 7, 9, 10, 11, 3, 8, 12, 13] (by kernel_rfl) ?_
  refine vq rfl rfl (q_move rfl) ?_
  refine vq rfl rfl (q_move rfl) ?_
  refine vq rfl rfl (q_move rfl) ?_
  refine vq rfl rfl (q_move rfl) ?_
  refine vq rfl rfl (q_field fo158_4 rfl (Nat.le_of_ble_eq_true rfl)) ?_
  refine vq rfl rfl (q_load sc3 rfl) ?_
  refine vq rfl rfl (q_move rfl) ?_
  refine vq rfl rfl (q_move rfl) ?_
  refine vq rfl rfl (q_move rfl) ?_
  refine vq rfl rfl (q_move rfl) ?_
  refine ve rfl rfl (e_callF go102 rfl (orB (x := o4) (y := o18) (upd_same _ _ _) g26.wf (by have := g1.len; have := g2.len; have := g3.len; have := g4.len; have := g5.len; have := g6.len; have := g7.len; have := g8.len; have := g9.len; have := g10.len; have := g11.len; have := g12.len; have := g13.len; have := g14.len; have := g15.len; have := g16.len; have := g17.len; have := g18.len; have := g19.len; have := g20.len; have := g21.len; have := g22.len; have := g23.len; have := g24.len; have := g25.len; have := g26.len; omega) ((((((((((((((((((((((b4.gr g5).gr g6).gr g7).gr g8).gr g9).gr g10).gr g11).gr g12).gr g13).gr g14).gr g15).gr g16).gr g17).gr g18).gr g19).gr g20).gr g21).gr g22).gr g23).gr g24).gr g25).gr g26) ((((((((b18.gr g19).gr g20).gr g21).gr g22).gr g23).gr g24).gr g25).gr g26) (fun F27 n27 o27 g27 b27 v27 => ?_)))
  refine ve rfl rfl (e_callF go103 rfl (andB (x := tiny) (y := o4) (upd_same _ _ _) g27.wf (by have := g1.len; have := g2.len; have := g3.len; have := g4.len; have := g5.len; have := g6.len; have := g7.len; have := g8.len; have := g9.len; have := g10.len; have := g11.len; have := g12.len; have := g13.len; have := g14.len; have := g15.len; have := g16.len; have := g17.len; have := g18.len; have := g19.len; have := g20.len; have := g21.len; have := g22.len; have := g23.len; have := g24.len; have := g25.len; have := g26.len; have := g27.len; omega) ((((((((((((((((((((((((((btiny.gr g2).gr g3).gr g4).gr g5).gr g6).gr g7).gr g8).gr g9).gr g10).gr g11).gr g12).gr g13).gr g14).gr g15).gr g16).gr g17).gr g18).gr g19).gr g20).gr g21).gr g22).gr g23).gr g24).gr g25).gr g26).gr g27) (((((((((((((((((((((((b4.gr g5).gr g6).gr g7).gr g8).gr g9).gr g10).gr g11).gr g12).gr g13).gr g14).gr g15).gr g16).gr g17).gr g18).gr g19).gr g20).gr g21).gr g22).gr g23).gr g24).gr g25).gr g26).gr g27) (fun F28 n28 o28 g28 b28 v28 => ?_)))
  refine vq rfl rfl (q_buildS sl40 zo3 (by decide) rfl rfl rfl rfl (by decide)) ?_
  refine vq rfl rfl (q_assign rfl) ?_
  refine vendW ?_
  refine vc_seq ?_
  refine vc_regionW (qm 239) [0, 1, 2, 3, 4, 5, 6, 7] rfl rfl ?_
  refine vq rfl rfl (q_move rfl) ?_
  refine vq rfl rfl (q_move rfl) ?_
  refine vq rfl rfl (q_move rfl) ?_
  refine vq rfl rfl (q_move rfl) ?_
  refine ve rfl rfl (e_callF go105 rfl (pickB (x := all.take (fb - 1) ++ [sg]) (y := bey) (c := o18) (upd_same _ _ _) g28.wf (by have := g1.len; have := g2.len; have := g3.len; have := g4.len; have := g5.len; have := g6.len; have := g7.len; have := g8.len; have := g9.len; have := g10.len; have := g11.len; have := g12.len; have := g13.len; have := g14.len; have := g15.len; have := g16.len; have := g17.len; have := g18.len; have := g19.len; have := g20.len; have := g21.len; have := g22.len; have := g23.len; have := g24.len; have := g25.len; have := g26.len; have := g27.len; have := g28.len; omega) ((((((((((((((((ball.gr g16).gr g17).gr g18).gr g19).gr g20).gr g21).gr g22).gr g23).gr g24).gr g25).gr g26).gr g27).gr g28).take _)).app (BW.one ((((((((((((((((((((((((((((hs.gr g1).gr g2).gr g3).gr g4).gr g5).gr g6).gr g7).gr g8).gr g9).gr g10).gr g11).gr g12).gr g13).gr g14).gr g15).gr g16).gr g17).gr g18).gr g19).gr g20).gr g21).gr g22).gr g23).gr g24).gr g25).gr g26).gr g27).gr g28))) (((bbey.gr g26).gr g27).gr g28) (by rw [List.length_append, List.length_take, List.length_singleton]; omega) (by omega) ((((((((((b18.gr g19).gr g20).gr g21).gr g22).gr g23).gr g24).gr g25).gr g26).gr g27).gr g28) (fun F29 n29 res g29 bres lres v29 => ?_)))
  refine vq rfl rfl (q_move rfl) ?_
  refine vq rfl rfl (q_assign rfl) ?_
  refine vq rfl rfl (q_assign rfl) ?_
  refine vendW ?_
  refine vc_ret ?_
  exact ret2 rfl rfl rfl (by simp only [upd_upd]; exact Le.refl _) (Cv.le (by simp only [upd_upd]; exact Le.refl _) _) (Cv.ale (by simp only [upd_upd]; exact Le.refl _) (ale_slx 1 _)) (hk F29 n29 res [o27, o28, o18, o26, o26] ((((((((((((((((((((((((((((g1.trans g2 (Nat.le_refl _)).trans g3 (Nat.le_refl _)).trans g4 (Nat.le_refl _)).trans g5 (Nat.le_refl _)).trans g6 (Nat.le_refl _)).trans g7 (Nat.le_refl _)).trans g8 (Nat.le_refl _)).trans g9 (Nat.le_refl _)).trans g10 (Nat.le_refl _)).trans g11 (Nat.le_refl _)).trans g12 (Nat.le_refl _)).trans g13 (Nat.le_refl _)).trans g14 (Nat.le_refl _)).trans g15 (Nat.le_refl _)).trans g16 (Nat.le_refl _)).trans g17 (Nat.le_refl _)).trans g18 (Nat.le_refl _)).trans g19 (Nat.le_refl _)).trans g20 (Nat.le_refl _)).trans g21 (Nat.le_refl _)).trans g22 (Nat.le_refl _)).trans g23 (Nat.le_refl _)).trans g24 (Nat.le_refl _)).trans g25 (Nat.le_refl _)).trans g26 (Nat.le_refl _)).trans g27 (Nat.le_refl _)).trans g28 (Nat.le_refl _)).trans g29 (by omega)) bres (BW.cons ((b27.gr g28).gr g29) (BW.cons (b28.gr g29) (BW.cons (((((((((((b18.gr g19).gr g20).gr g21).gr g22).gr g23).gr g24).gr g25).gr g26).gr g27).gr g28).gr g29) (BW.cons (((b26.gr g27).gr g28).gr g29) (BW.one (((b26.gr g27).gr g28).gr g29)))))) (by rw [lres, List.length_append, List.length_take, List.length_singleton]; omega) rfl (fun v hu => by
    have w1 := v1 v ((((((((((((((((((((((((((((hu.gr g29).gr g28).gr g27).gr g26).gr g25).gr g24).gr g23).gr g22).gr g21).gr g20).gr g19).gr g18).gr g17).gr g16).gr g15).gr g14).gr g13).gr g12).gr g11).gr g10).gr g9).gr g8).gr g7).gr g6).gr g5).gr g4).gr g3).gr g2)
    have w2 := v2 v (((((((((((((((((((((((((((hu.gr g29).gr g28).gr g27).gr g26).gr g25).gr g24).gr g23).gr g22).gr g21).gr g20).gr g19).gr g18).gr g17).gr g16).gr g15).gr g14).gr g13).gr g12).gr g11).gr g10).gr g9).gr g8).gr g7).gr g6).gr g5).gr g4).gr g3)
    have w3 := v3 v ((((((((((((((((((((((((((hu.gr g29).gr g28).gr g27).gr g26).gr g25).gr g24).gr g23).gr g22).gr g21).gr g20).gr g19).gr g18).gr g17).gr g16).gr g15).gr g14).gr g13).gr g12).gr g11).gr g10).gr g9).gr g8).gr g7).gr g6).gr g5).gr g4)
    have w4 := v4 v (((((((((((((((((((((((((hu.gr g29).gr g28).gr g27).gr g26).gr g25).gr g24).gr g23).gr g22).gr g21).gr g20).gr g19).gr g18).gr g17).gr g16).gr g15).gr g14).gr g13).gr g12).gr g11).gr g10).gr g9).gr g8).gr g7).gr g6).gr g5)
    have w5 := v5 v ((((((((((((((((((((((((hu.gr g29).gr g28).gr g27).gr g26).gr g25).gr g24).gr g23).gr g22).gr g21).gr g20).gr g19).gr g18).gr g17).gr g16).gr g15).gr g14).gr g13).gr g12).gr g11).gr g10).gr g9).gr g8).gr g7).gr g6)
    have w6 := v6 v (((((((((((((((((((((((hu.gr g29).gr g28).gr g27).gr g26).gr g25).gr g24).gr g23).gr g22).gr g21).gr g20).gr g19).gr g18).gr g17).gr g16).gr g15).gr g14).gr g13).gr g12).gr g11).gr g10).gr g9).gr g8).gr g7)
    have w7 := v7 v ((((((((((((((((((((((hu.gr g29).gr g28).gr g27).gr g26).gr g25).gr g24).gr g23).gr g22).gr g21).gr g20).gr g19).gr g18).gr g17).gr g16).gr g15).gr g14).gr g13).gr g12).gr g11).gr g10).gr g9).gr g8)
    have w8 := v8 v (((((((((((((((((((((hu.gr g29).gr g28).gr g27).gr g26).gr g25).gr g24).gr g23).gr g22).gr g21).gr g20).gr g19).gr g18).gr g17).gr g16).gr g15).gr g14).gr g13).gr g12).gr g11).gr g10).gr g9)
    have w9 := v9 v ((((((((((((((((((((hu.gr g29).gr g28).gr g27).gr g26).gr g25).gr g24).gr g23).gr g22).gr g21).gr g20).gr g19).gr g18).gr g17).gr g16).gr g15).gr g14).gr g13).gr g12).gr g11).gr g10)
    have w10 := v10 v (((((((((((((((((((hu.gr g29).gr g28).gr g27).gr g26).gr g25).gr g24).gr g23).gr g22).gr g21).gr g20).gr g19).gr g18).gr g17).gr g16).gr g15).gr g14).gr g13).gr g12).gr g11)
    have w11 := v11 v ((((((((((((((((((hu.gr g29).gr g28).gr g27).gr g26).gr g25).gr g24).gr g23).gr g22).gr g21).gr g20).gr g19).gr g18).gr g17).gr g16).gr g15).gr g14).gr g13).gr g12)
    have w12 := v12 v (((((((((((((((((hu.gr g29).gr g28).gr g27).gr g26).gr g25).gr g24).gr g23).gr g22).gr g21).gr g20).gr g19).gr g18).gr g17).gr g16).gr g15).gr g14).gr g13)
    have w13 := v13 v ((((((((((((((((hu.gr g29).gr g28).gr g27).gr g26).gr g25).gr g24).gr g23).gr g22).gr g21).gr g20).gr g19).gr g18).gr g17).gr g16).gr g15).gr g14)
    have w14 := v14 v (((((((((((((((hu.gr g29).gr g28).gr g27).gr g26).gr g25).gr g24).gr g23).gr g22).gr g21).gr g20).gr g19).gr g18).gr g17).gr g16).gr g15)
    have w15 := v15 v ((((((((((((((hu.gr g29).gr g28).gr g27).gr g26).gr g25).gr g24).gr g23).gr g22).gr g21).gr g20).gr g19).gr g18).gr g17).gr g16)
    have w16 := v16 v (((((((((((((hu.gr g29).gr g28).gr g27).gr g26).gr g25).gr g24).gr g23).gr g22).gr g21).gr g20).gr g19).gr g18).gr g17)
    have w17 := v17 v ((((((((((((hu.gr g29).gr g28).gr g27).gr g26).gr g25).gr g24).gr g23).gr g22).gr g21).gr g20).gr g19).gr g18)
    have w18 := v18 v (((((((((((hu.gr g29).gr g28).gr g27).gr g26).gr g25).gr g24).gr g23).gr g22).gr g21).gr g20).gr g19)
    have w19 := v19 v ((((((((((hu.gr g29).gr g28).gr g27).gr g26).gr g25).gr g24).gr g23).gr g22).gr g21).gr g20)
    have w20 := v20 v (((((((((hu.gr g29).gr g28).gr g27).gr g26).gr g25).gr g24).gr g23).gr g22).gr g21)
    have w21 := v21 v ((((((((hu.gr g29).gr g28).gr g27).gr g26).gr g25).gr g24).gr g23).gr g22)
    have w22 := v22 v (((((((hu.gr g29).gr g28).gr g27).gr g26).gr g25).gr g24).gr g23)
    have w23 := v23 v ((((((hu.gr g29).gr g28).gr g27).gr g26).gr g25).gr g24)
    have w24 := v24 v (((((hu.gr g29).gr g28).gr g27).gr g26).gr g25)
    have w25 := v25 v ((((hu.gr g29).gr g28).gr g27).gr g26)
    have w26 := v26 v (((hu.gr g29).gr g28).gr g27)
    have w27 := v27 v ((hu.gr g29).gr g28)
    have w28 := v28 v (hu.gr g29)
    have w29 := v29 v hu
    rw [List.length_append, lz, lbase, ltop, show max (fp - 1 + (max (max pl.length (wd sz.length)) fw + 2)) fp = fp - 1 + (max (max pl.length (wd sz.length)) fw + 2) by omega] at w15
    simp only [List.take_length] at w16 w17
    have e9 : fb - 1 = fp - 1 + fw := by omega
    rw [e9] at w23 w24 w29
    have J := pack_join v (W := (max (max pl.length (wd sz.length)) fw + 2)) hP (by omega) (by omega) (by omega) lmd ltop lbase lall2 w1 w2 w3 w4 w5 w6 w7 w8 w9 w10 w11 w12 w13 w14 lz (co := co) w15 w16 w17 w18 rfl w19 w20 w21 w22 w23 w24 w25 (w26.trans (by simp)) w27 w28 w29
    exact J))
theorem roundPad {p : Nat} {F : List Nat} {nd : List Nd} {ins outs : List Pt} {s : St} {K : AV → St → Prop} (hp : s p = some (bld F nd ins outs)) (hw : WfB nd) (hn : nd.length + 1100000 < 2^39) {fb fp fw : Nat} {md pl sz : List Int} {sg mo : Int} (hmd : BW nd md) (lmd : md.length = 3) (hs : B1 nd sg) (hpl : BW nd pl) (hsz : BW nd sz) (hmo : B1 nd mo) (h1p : 1 ≤ pl.length) (hp20 : pl.length ≤ 20) (hP : 2 ≤ fp) (hfw : 2 ≤ fw) (hfw30 : fw ≤ 30) (hfb : fb = fp + fw) (hfb64 : fb ≤ 64) (h1z : 1 ≤ sz.length) (hn6 : sz.length ≤ 600) (hlow : sz.length < fp + 2) (hk : ∀ F2 n2 x fl, Gr nd n2 1100000 → BW n2 x → BW n2 fl → x.length = fb → fl.length = 5 → (∀ v, Mod v n2 → (wv v x, wv v fl) = packF fp fw (wv v md) (bv v sg) (wv v sz) (sv v pl) (bv v mo)) → K (.tup [ints x, ints fl]) (upd s p (bld F2 n2 ins outs))) : CallsA Try.prog 65 [ptv p 0, fmA fb fp fw, ints md, .int sg, ints pl, ints sz, .int mo] s K := by
  refine callsA_of Try.func65 rfl rfl (Nat.le_of_ble_eq_true rfl) ?_
  refine vc_seq ?_
  refine vc_regionW (qm 7) [0, 1, 2] rfl rfl ?_
  refine vq rfl rfl (q_box rfl rfl) ?_
  refine vq rfl rfl (q_assign rfl) ?_
  refine vq rfl rfl (q_assign rfl) ?_
  refine vendW ?_
  refine vc_seq ?_
  refine vc_seq ?_
  refine vc_regionW (qm 127) [0, 1, 2, 3, 4, 5, 6] rfl rfl ?_
  refine vq rfl rfl (q_field fo63_1 rfl (Nat.le_of_ble_eq_true rfl)) ?_
  refine vq rfl rfl (q_load sc3 rfl) ?_
  refine vq rfl rfl (q_add rfl rfl (show _ = ((fp + 2 : Nat) : Int) by rw [w64 (by omega)]; omega)) ?_
  refine vq rfl rfl (q_move rfl) ?_
  refine vq rfl rfl (q_len sl40 rfl (by first | exact lenM | rfl)) ?_
  refine vq rfl rfl (q_sub rfl rfl (show _ = (((fp + 2 - sz.length) : Nat) : Int) by rw [w64 (by omega)]; omega)) ?_
  refine vq rfl rfl (q_assign rfl) ?_
  refine vendW ?_
  refine vc_seq ?_
  refine vc_regionW (qm 3) [0, 1] rfl rfl ?_
  refine vq rfl rfl (q_move rfl) ?_
  refine vq rfl rfl (q_gt rfl rfl) ?_
  refine vendW ?_
  refine vc_condT rfl (decide_eq_true (by omega)) ?_
  refine vc_seq ?_
  have hwl : wd (fp + 2 - sz.length) ≤ 6 := wd_mono (by omega)
  refine vc_regionW (qm 127) [0, 1, 2, 3, 4, 5, 6] rfl rfl ?_
  refine vq rfl rfl (q_move rfl) ?_
  refine vq rfl rfl (q_len sl40 rfl (by first | exact lenM | rfl)) ?_
  refine vq rfl rfl (q_move rfl) ?_
  refine vq rfl rfl (q_callF go99 rfl (fun s => wideN (n := (fp + 2 - sz.length)) (by omega) ⟨rfl, rfl⟩)) ?_
  refine vq rfl rfl (q_maxN rfl rfl) ?_
  refine vq rfl rfl (q_add rfl rfl (show _ = (((max pl.length (wd (fp + 2 - sz.length)) + 2) : Nat) : Int) by rw [w64 (by omega)]; omega)) ?_
  refine vq rfl rfl (q_assign rfl) ?_
  refine vendW ?_
  refine vc_seq ?_
  refine vc_regionW (qm 43) [0, 1, 2, 3, 4, 5] rfl rfl ?_
  refine vq rfl rfl (q_move rfl) ?_
  refine vq rfl rfl (q_move rfl) ?_
  refine ve rfl rfl (e_callF go55 rfl (padZ (w := (fp + 2 - sz.length)) hp hw (by omega) (by omega) (fun F1 n1 z1 x1 s1 g1 bz1 lz1 v1 ho1 => ?_)))
  refine vq rfl rfl (q_move rfl) ?_
  refine ve rfl rfl (e_append sl40 zo3 rfl rfl ho1 (SrcOK.sl 1 _) (rowsC1_ints _) (by simp [maxLen_eq]; omega) (fun x2 s2 ho2 => ?_))
  refine vq rfl rfl (q_assign rfl) ?_
  refine vendW ?_
  rw [← List.map_append] at ho2
  refine vc_frz (i := 5) ho2 rfl ?_
  refine vc_regionW (qm 2559) [0, 1, 2, 3, 4, 5, 6, 7, 8, 9, 10, 11] rfl rfl ?_
  refine vq rfl rfl (q_move rfl) ?_
  refine vq rfl rfl (q_move rfl) ?_
  refine vq rfl rfl (q_move rfl) ?_
  refine vq rfl rfl (q_move rfl) ?_
  refine vq rfl rfl (q_callF go18 rfl (fun s => signedN (x := pl) (w := (max pl.length (wd (fp + 2 - sz.length)) + 2)) h1p (by omega) (by omega) ⟨rfl, rfl⟩)) ?_
  refine vq rfl rfl (q_move rfl) ?_
  refine vq rfl rfl (q_move rfl) ?_
  refine vq rfl rfl (q_neg rfl (show _ = -(((fp + 2 - sz.length) : Nat) : Int) by rw [w64 (by omega)]; omega)) ?_
  refine vq rfl rfl (q_move rfl) ?_
  refine ve rfl rfl (e_callF go19 rfl (countB (n := -(((fp + 2 - sz.length) : Nat) : Int)) (w := (max pl.length (wd (fp + 2 - sz.length)) + 2)) (upd_same _ _ _) g1.wf (by have := g1.len; omega) (by omega) (fun F2 n2 l2 g2 b2 le2 v2 => ?_)))
  refine ve rfl rfl (e_callF go100 rfl (addB (x := sgL pl (max pl.length (wd (fp + 2 - sz.length)) + 2)) (y := l2) (upd_same _ _ _) g2.wf (by have := g1.len; have := g2.len; omega) (sgL_bw ((hpl.gr g1).gr g2) h1p _) b2 (by rw [sgL_len]; omega) (by omega) (fun F3 n3 l3 g3 b3 le3 v3 => ?_)))
  refine vq rfl rfl (q_assign rfl) ?_
  refine vendW ?_
  rw [sgL_len, le2, Nat.max_self] at le3
  refine vc_seq ?_
  have hwdz : wd (z1 ++ sz).length ≤ 10 := wd_mono (by rw [List.length_append, lz1]; omega)
  refine vc_regionW (qm 31) [0, 1, 2, 3, 4, 5, 6, 7] rfl rfl ?_
  refine vq rfl rfl (q_move rfl) ?_
  refine vq rfl rfl (q_loadA ag63 rfl rfl) ?_
  refine vq rfl rfl (q_move rfl) ?_
  refine vq rfl rfl (q_move rfl) ?_
  refine vq rfl rfl (q_move rfl) ?_
  refine ve rfl rfl (e_callF go101 rfl (shiftedB (pl := l3) (sz := (z1 ++ sz)) (upd_same _ _ _) g3.wf (by have := g1.len; have := g2.len; have := g3.len; omega) b3 ((((bz1.gr g2).gr g3)).app (((hsz.gr g1).gr g2).gr g3)) (((hmo.gr g1).gr g2).gr g3) (by omega) (by omega) hP (by rw [List.length_append, lz1]; omega) (by rw [List.length_append, lz1]; omega) hfw30 (fun F4 n4 top half less base tiny any g4 btop bhalf bless bbase btiny bany ltop lbase v4 => ?_)))
  refine ve rfl rfl (e_alloc zr158 (fun k18 hk18 => ?_))
  refine vn rfl rfl (e_storeN sz158 rfl rfl rfl rfl (upd_same _ _ _) rfl ?_)
  refine vendW ?_
  refine vc_frzC (i := 18) hk18 (upd_upd _ _ _ _) rfl ?_
  refine vc_seq ?_
  refine vc_regionW (qm 3) [0, 1, 2, 3, 4] rfl rfl ?_
  refine vq rfl rfl (q_move rfl) ?_
  refine vq rfl rfl (q_move rfl) ?_
  refine ve rfl rfl (e_callF go20 rfl (modesB (x := md) (upd_same _ _ _) g4.wf (by have := g1.len; have := g2.len; have := g3.len; have := g4.len; omega) ((((hmd.gr g1).gr g2).gr g3).gr g4) (by omega) (fun F5 n5 ms g5 bms lms v5 => ?_)))
  obtain ⟨m0, m1, m2, m3, m4, rfl⟩ := len5 lms
  have hm0 : B1 n5 m0 := bms _ (by simp)
  have hm1 : B1 n5 m1 := bms _ (by simp)
  have hm2 : B1 n5 m2 := bms _ (by simp)
  have hm3 : B1 n5 m3 := bms _ (by simp)
  have hm4 : B1 n5 m4 := bms _ (by simp)
  refine ve rfl rfl (e_alloc zr44 (fun k19 hk19 => ?_))
  refine vn rfl rfl (e_storeN sz44 rfl rfl rfl rfl (upd_same _ _ _) rfl ?_)
  refine vendW ?_
  refine vc_frzC (i := 19) hk19 (upd_upd _ _ _ _) rfl ?_
  refine vc_seq ?_
  refine vc_regionW (qm 11) [0, 1, 2, 3] rfl rfl ?_
  refine vq rfl rfl (q_move rfl) ?_
  refine vq rfl rfl (q_move rfl) ?_
  refine ve rfl rfl (e_callF go89 rfl (notB (x := sg) (upd_same _ _ _) g5.wf (by have := g1.len; have := g2.len; have := g3.len; have := g4.len; have := g5.len; omega) (((((hs.gr g1).gr g2).gr g3).gr g4).gr g5)  (fun F6 n6 o6 g6 b6 v6 => ?_)))
  refine vq rfl rfl (q_assign rfl) ?_
  refine vendW ?_
  refine vc_seq ?_
  refine vc_regionW (qm 95) [0, 1, 2, 3, 4, 5, 6] rfl rfl ?_
  refine vq rfl rfl (q_move rfl) ?_
  refine vq rfl rfl (q_field fo158_1 rfl (Nat.le_of_ble_eq_true rfl)) ?_
  refine vq rfl rfl (q_load sc3 rfl) ?_
  refine vq rfl rfl (q_field fo158_2 rfl (Nat.le_of_ble_eq_true rfl)) ?_
  refine vq rfl rfl (q_load sc3 rfl) ?_
  refine ve rfl rfl (e_callF go102 rfl (orB (x := half) (y := less) (upd_same _ _ _) g6.wf (by have := g1.len; have := g2.len; have := g3.len; have := g4.len; have := g5.len; have := g6.len; omega) ((bhalf.gr g5).gr g6) ((bless.gr g5).gr g6) (fun F7 n7 o7 g7 b7 v7 => ?_)))
  refine vq rfl rfl (q_assign rfl) ?_
  refine vendW ?_
  refine vc_seq ?_
  refine vc_regionDW mx (qm 5119) [0, 1, 2, 3, 4, 5, 6, 7, 8, 9, 10, 11, 12] (by kernel_rfl) ?_
  refine vq rfl rfl (q_move rfl) ?_
  refine vq rfl rfl (q_indexB arx5 rfl rfl (by omega) (by omega) (Nat.le_of_ble_eq_true rfl)) ?_
  refine vq rfl rfl (q_load sc3 rfl) ?_
  refine vq rfl rfl (q_move rfl) ?_
  refine vq rfl rfl (q_field fo158_2 rfl (Nat.le_of_ble_eq_true rfl)) ?_
  refine vq rfl rfl (q_load sc3 rfl) ?_
  refine vq rfl rfl (q_field fo158_0 rfl (Nat.le_of_ble_eq_true rfl)) ?_
  refine vq rfl rfl (q_load sc40 rfl) ?_
  refine vq rfl rfl (q_index sl40 rfl rfl (by omega) (nthM (by omega))) ?_
  refine vq rfl rfl (q_load sc3 rfl) ?_
  refine ve rfl rfl (e_callF go102 rfl (orB (x := less) (y := (top.getD 0 default)) (upd_same _ _ _) g7.wf (by have := g1.len; have := g2.len; have := g3.len; have := g4.len; have := g5.len; have := g6.len; have := g7.len; omega) (((bless.gr g5).gr g6).gr g7) ((((btop.get (i := 0) (by omega)).gr g5).gr g6).gr g7) (fun F8 n8 o8 g8 b8 v8 => ?_)))
  refine ve rfl rfl (e_callF go103 rfl (andB (x := m0) (y := o8) (upd_same _ _ _) g8.wf (by have := g1.len; have := g2.len; have := g3.len; have := g4.len; have := g5.len; have := g6.len; have := g7.len; have := g8.len; omega) (((hm0.gr g6).gr g7).gr g8) b8 (fun F9 n9 o9 g9 b9 v9 => ?_)))
  refine vq rfl rfl (q_assign rfl) ?_
  refine vendW ?_
  refine vc_seq ?_
  refine vc_regionDW mx (qm 639) [0, 1, 2, 3, 4, 5, 6, 7, 8, 9] (by kernel_rfl) ?_
  refine vq rfl rfl (q_move rfl) ?_
  refine vq rfl rfl (q_field fo158_1 rfl (Nat.le_of_ble_eq_true rfl)) ?_
  refine vq rfl rfl (q_load sc3 rfl) ?_
  refine vq rfl rfl (q_move rfl) ?_
  refine vq rfl rfl (q_indexB arx5 rfl rfl (by omega) (by omega) (Nat.le_of_ble_eq_true rfl)) ?_
  refine vq rfl rfl (q_load sc3 rfl) ?_
  refine vq rfl rfl (q_move rfl) ?_
  refine ve rfl rfl (e_callF go102 rfl (orB (x := m4) (y := o9) (upd_same _ _ _) g9.wf (by have := g1.len; have := g2.len; have := g3.len; have := g4.len; have := g5.len; have := g6.len; have := g7.len; have := g8.len; have := g9.len; omega) ((((hm4.gr g6).gr g7).gr g8).gr g9) b9 (fun F10 n10 o10 g10 b10 v10 => ?_)))
  refine ve rfl rfl (e_callF go103 rfl (andB (x := half) (y := o10) (upd_same _ _ _) g10.wf (by have := g1.len; have := g2.len; have := g3.len; have := g4.len; have := g5.len; have := g6.len; have := g7.len; have := g8.len; have := g9.len; have := g10.len; omega) ((((((bhalf.gr g5).gr g6).gr g7).gr g8).gr g9).gr g10) b10 (fun F11 n11 o11 g11 b11 v11 => ?_)))
  refine vq rfl rfl (q_assign rfl) ?_
  refine vendW ?_
  refine vc_seq ?_
  refine vc_regionDW mx (qm 5087) [0, 1, 2, 3, 4, 6, 7, 8, 9, 5, 10, 11, 12] (by kernel_rfl) ?_
  refine vq rfl rfl (q_move rfl) ?_
  refine vq rfl rfl (q_move rfl) ?_
  refine vq rfl rfl (q_indexB arx5 rfl rfl (by omega) (by omega) (Nat.le_of_ble_eq_true rfl)) ?_
  refine vq rfl rfl (q_load sc3 rfl) ?_
  refine vq rfl rfl (q_move rfl) ?_
  refine vq rfl rfl (q_move rfl) ?_
  refine vq rfl rfl (q_indexB arx5 rfl rfl (by omega) (by omega) (Nat.le_of_ble_eq_true rfl)) ?_
  refine vq rfl rfl (q_load sc3 rfl) ?_
  refine vq rfl rfl (q_move rfl) ?_
  refine ve rfl rfl (e_callF go103 rfl (andB (x := m2) (y := sg) (upd_same _ _ _) g11.wf (by have := g1.len; have := g2.len; have := g3.len; have := g4.len; have := g5.len; have := g6.len; have := g7.len; have := g8.len; have := g9.len; have := g10.len; have := g11.len; omega) ((((((hm2.gr g6).gr g7).gr g8).gr g9).gr g10).gr g11) (((((((((((hs.gr g1).gr g2).gr g3).gr g4).gr g5).gr g6).gr g7).gr g8).gr g9).gr g10).gr g11) (fun F12 n12 o12 g12 b12 v12 => ?_)))
  refine ve rfl rfl (e_callF go103 rfl (andB (x := m3) (y := o6) (upd_same _ _ _) g12.wf (by have := g1.len; have := g2.len; have := g3.len; have := g4.len; have := g5.len; have := g6.len; have := g7.len; have := g8.len; have := g9.len; have := g10.len; have := g11.len; have := g12.len; omega) (((((((hm3.gr g6).gr g7).gr g8).gr g9).gr g10).gr g11).gr g12) ((((((b6.gr g7).gr g8).gr g9).gr g10).gr g11).gr g12) (fun F13 n13 o13 g13 b13 v13 => ?_)))
  refine ve rfl rfl (e_callF go102 rfl (orB (x := o12) (y := o13) (upd_same _ _ _) g13.wf (by have := g1.len; have := g2.len; have := g3.len; have := g4.len; have := g5.len; have := g6.len; have := g7.len; have := g8.len; have := g9.len; have := g10.len; have := g11.len; have := g12.len; have := g13.len; omega) (b12.gr g13) b13 (fun F14 n14 o14 g14 b14 v14 => ?_)))
  refine vq rfl rfl (q_assign rfl) ?_
  refine vendW ?_
  refine vc_seq ?_
  refine vc_regionW (qm 159) [0, 1, 2, 3, 4, 5, 6, 7] rfl rfl ?_
  refine vq rfl rfl (q_move rfl) ?_
  refine vq rfl rfl (q_move rfl) ?_
  refine vq rfl rfl (q_move rfl) ?_
  refine vq rfl rfl (q_move rfl) ?_
  refine vq rfl rfl (q_move rfl) ?_
  refine ve rfl rfl (e_callF go103 rfl (andB (x := o14) (y := o7) (upd_same _ _ _) g14.wf (by have := g1.len; have := g2.len; have := g3.len; have := g4.len; have := g5.len; have := g6.len; have := g7.len; have := g8.len; have := g9.len; have := g10.len; have := g11.len; have := g12.len; have := g13.len; have := g14.len; omega) b14 (((((((b7.gr g8).gr g9).gr g10).gr g11).gr g12).gr g13).gr g14) (fun F15 n15 o15 g15 b15 v15 => ?_)))
  refine ve rfl rfl (e_callF go102 rfl (orB (x := o11) (y := o15) (upd_same _ _ _) g15.wf (by have := g1.len; have := g2.len; have := g3.len; have := g4.len; have := g5.len; have := g6.len; have := g7.len; have := g8.len; have := g9.len; have := g10.len; have := g11.len; have := g12.len; have := g13.len; have := g14.len; have := g15.len; omega) ((((b11.gr g12).gr g13).gr g14).gr g15) b15 (fun F16 n16 o16 g16 b16 v16 => ?_)))
  refine vq rfl rfl (q_assign rfl) ?_
  refine vendW ?_
  refine vc_seq ?_
  refine vc_regionDW mx (qm 257759) [0, 1, 2, 3, 4, 6, 7, 9, 10, 11, 5, 8, 12, 13, 14, 15, 16, 17] (by kernel_rfl) ?_
  refine vq rfl rfl (q_move rfl) ?_
  refine vq rfl rfl (q_move rfl) ?_
  refine vq rfl rfl (q_field fo63_1 rfl (Nat.le_of_ble_eq_true rfl)) ?_
  refine vq rfl rfl (q_load sc3 rfl) ?_
  refine vq rfl rfl (q_sub rfl rfl (show _ = ((fp - 1 : Nat) : Int) by rw [w64 (by omega)]; omega)) ?_
  refine vq rfl rfl (q_field fo158_3 rfl (Nat.le_of_ble_eq_true rfl)) ?_
  refine vq rfl rfl (q_load sc40 rfl) ?_
  refine vq rfl rfl (q_field fo158_0 rfl (Nat.le_of_ble_eq_true rfl)) ?_
  refine vq rfl rfl (q_load sc40 rfl) ?_
  refine vq rfl rfl (q_move rfl) ?_
  refine ve rfl rfl (e_callF go55 rfl (padZ (w := fp - 1) (upd_same _ _ _) g16.wf (by have := g1.len; have := g2.len; have := g3.len; have := g4.len; have := g5.len; have := g6.len; have := g7.len; have := g8.len; have := g9.len; have := g10.len; have := g11.len; have := g12.len; have := g13.len; have := g14.len; have := g15.len; have := g16.len; omega) (by omega) (fun F17 n17 z zx sz9 g17 bz lz v17 hoz => ?_)))
  refine ve rfl rfl (e_append sl40 zo3 rfl rfl hoz (SrcOK.sl 1 _) (rowsC1_ints _) (by simp [maxLen_eq]; omega) (fun xy sy hoy => ?_))
  refine ve rfl rfl (e_callF go104 rfl (CallsA.cv hoy.le (Cvs.cons (Cv.le hoy.le _) (Cvs.cons (by rw [← List.map_append] at hoy; exact hoy.frz) (Cvs.cons (Cv.le hoy.le _) (Cvs.cons (Cv.le hoy.le _) Cvs.nil)))) (prefixB (x := z ++ base) (y := top) (c := o16) (upd_same _ _ _) g17.wf (by have := g1.len; have := g2.len; have := g3.len; have := g4.len; have := g5.len; have := g6.len; have := g7.len; have := g8.len; have := g9.len; have := g10.len; have := g11.len; have := g12.len; have := g13.len; have := g14.len; have := g15.len; have := g16.len; have := g17.len; omega) (bz.app (((((((((((((bbase.gr g5).gr g6).gr g7).gr g8).gr g9).gr g10).gr g11).gr g12).gr g13).gr g14).gr g15).gr g16).gr g17)) (((((((((((((btop.gr g5).gr g6).gr g7).gr g8).gr g9).gr g10).gr g11).gr g12).gr g13).gr g14).gr g15).gr g16).gr g17) (by rw [List.length_append]; omega) (by omega) (b16.gr g17) (fun F18 n18 all co g18 ball bco lall v18 => ?_))))
  refine vq rfl rfl (q_move rfl) ?_
  refine vq rfl rfl (q_extract rfl rfl) ?_
  refine vq rfl rfl (q_extract rfl rfl) ?_
  refine vq rfl rfl (q_assign rfl) ?_
  refine vq rfl rfl (q_assign rfl) ?_
  refine vendW ?_
  rw [List.length_append, lz, lbase, ltop] at lall
  have lall2 : all.length = fp - 1 + (max (max l3.length (wd (z1 ++ sz).length)) fw + 2) := by omega
  refine vc_seq ?_
  refine vc_regionW (qm 63) [0, 1, 2, 3, 4, 5] rfl rfl ?_
  refine vq rfl rfl (q_move rfl) ?_
  refine vq rfl rfl (q_field fo63_1 rfl (Nat.le_of_ble_eq_true rfl)) ?_
  refine vq rfl rfl (q_load sc3 rfl) ?_
  refine vq rfl rfl (q_sub rfl rfl (show _ = ((fp - 1 : Nat) : Int) by rw [w64 (by omega)]; omega)) ?_
  refine vq rfl rfl (q_sliceM (f := eI) (xs := all) (fp - 1) all.length sl40 rfl rfl rfl rfl (by simp) (by omega)) ?_
  refine vq rfl rfl (q_assign rfl) ?_
  refine vendW ?_
  refine vc_seq ?_
  refine vc_regionDW mx (qm 20415) [0, 1, 2, 3, 4, 5, 7, 8, 9, 10, 11, 6, 12, 13, 14] (by kernel_rfl) ?_
  refine vq rfl rfl (q_move rfl) ?_
  refine vq rfl rfl (q_move rfl) ?_
  refine vq rfl rfl (q_move rfl) ?_
  refine vq rfl rfl (q_field fo63_2 rfl (Nat.le_of_ble_eq_true rfl)) ?_
  refine vq rfl rfl (q_load sc3 rfl) ?_
  refine vq rfl rfl (q_sliceM (f := eI) (xs := (all.take all.length).drop (fp - 1)) fw ((all.take all.length).drop (fp - 1)).length sl40 rfl rfl rfl rfl (by simp) (by rw [List.length_drop, List.length_take]; omega)) ?_
  refine vq rfl rfl (q_move rfl) ?_
  refine vq rfl rfl (q_move rfl) ?_
  refine vq rfl rfl (q_field fo63_2 rfl (Nat.le_of_ble_eq_true rfl)) ?_
  refine vq rfl rfl (q_load sc3 rfl) ?_
  refine vq rfl rfl (q_sliceM (f := eI) (xs := (all.take all.length).drop (fp - 1)) 0 fw sl40 rfl rfl rfl (by simp) rfl (by rw [List.length_drop, List.length_take]; omega)) ?_
  refine ve rfl rfl (e_callF go90 rfl (foldB (k := 4) (x := (((all.take all.length).drop (fp - 1)).take ((all.take all.length).drop (fp - 1)).length).drop fw) (upd_same _ _ _) g18.wf (by have := g1.len; have := g2.len; have := g3.len; have := g4.len; have := g5.len; have := g6.len; have := g7.len; have := g8.len; have := g9.len; have := g10.len; have := g11.len; have := g12.len; have := g13.len; have := g14.len; have := g15.len; have := g16.len; have := g17.len; have := g18.len; omega) ((((ball.take _).drop _).take _).drop _) (by simp only [List.length_drop, List.length_take]; omega) (fun F19 n19 o19 g19 b19 v19 => ?_)))
  refine ve rfl rfl (e_callF go90 rfl (foldB (k := 3) (x := ((all.take all.length).drop (fp - 1)).take fw) (upd_same _ _ _) g19.wf (by have := g1.len; have := g2.len; have := g3.len; have := g4.len; have := g5.len; have := g6.len; have := g7.len; have := g8.len; have := g9.len; have := g10.len; have := g11.len; have := g12.len; have := g13.len; have := g14.len; have := g15.len; have := g16.len; have := g17.len; have := g18.len; have := g19.len; omega) ((((ball.gr g19).take _).drop _).take _) (by simp only [List.length_drop, List.length_take]; omega) (fun F20 n20 o20 g20 b20 v20 => ?_)))
  refine ve rfl rfl (e_callF go102 rfl (orB (x := o19) (y := o20) (upd_same _ _ _) g20.wf (by have := g1.len; have := g2.len; have := g3.len; have := g4.len; have := g5.len; have := g6.len; have := g7.len; have := g8.len; have := g9.len; have := g10.len; have := g11.len; have := g12.len; have := g13.len; have := g14.len; have := g15.len; have := g16.len; have := g17.len; have := g18.len; have := g19.len; have := g20.len; omega) (b19.gr g20) b20 (fun F21 n21 o21 g21 b21 v21 => ?_)))
  refine vq rfl rfl (q_assign rfl) ?_
  refine vendW ?_
  refine vc_seq ?_
  refine vc_regionW (qm 735) [0, 1, 2, 3, 4, 5, 6, 7, 8, 9] rfl rfl ?_
  refine vq rfl rfl (q_move rfl) ?_
  refine vq rfl rfl (q_field fo63_0 rfl (Nat.le_of_ble_eq_true rfl)) ?_
  refine vq rfl rfl (q_load sc3 rfl) ?_
  refine vq rfl rfl (q_sub rfl rfl (show _ = ((fb - 1 : Nat) : Int) by rw [w64 (by omega)]; omega)) ?_
  refine vq rfl rfl (q_sliceM (f := eI) (xs := all) 0 (fb - 1) sl40 rfl rfl rfl (by simp) rfl (by omega)) ?_
  refine ve rfl rfl (e_callF go54 rfl (cloneIO (l := all.take (fb - 1)) (by rw [List.length_take]; omega) (fun xb sb hob => ?_)))
  refine vq rfl rfl (q_move rfl) ?_
  refine vq rfl rfl (q_buildS sl40 zo3 (by decide) rfl rfl rfl rfl (by decide)) ?_
  refine ve rfl rfl (e_append sl40 zo3 rfl rfl hob (SrcOK.slx 1 _) (rowsC1_one rfl) (by simp [maxLen_eq]; omega) (fun xb2 sb2 hob2 => ?_))
  refine vq rfl rfl (q_assign rfl) ?_
  refine vendW ?_
  refine vc_seq ?_
  refine vc_frz (i := 29) (OwnSt.snocI (l := all.take (fb - 1)) (a := sg) hob2) rfl ?_
  refine vc_regionDW mx (qm 73471) [0, 1, 2, 3, 4, 5, 6, 7, 9, 10, 11, 12, 8, 13, 14, 15, 16] (by kernel_rfl) ?_
  refine vq rfl rfl (q_move rfl) ?_
  refine vq rfl rfl (q_indexB arx5 rfl rfl (by omega) (by omega) (Nat.le_of_ble_eq_true rfl)) ?_
  refine vq rfl rfl (q_load sc3 rfl) ?_
  refine vq rfl rfl (q_move rfl) ?_
  refine vq rfl rfl (q_move rfl) ?_
  refine vq rfl rfl (q_indexB arx5 rfl rfl (by omega) (by omega) (Nat.le_of_ble_eq_true rfl)) ?_
  refine vq rfl rfl (q_load sc3 rfl) ?_
  refine vq rfl rfl (q_move rfl) ?_
  refine vq rfl rfl (q_move rfl) ?_
  refine vq rfl rfl (q_indexB arx5 rfl rfl (by omega) (by omega) (Nat.le_of_ble_eq_true rfl)) ?_
  refine vq rfl rfl (q_load sc3 rfl) ?_
  refine vq rfl rfl (q_move rfl) ?_
  refine ve rfl rfl (e_callF go103 rfl (andB (x := m2) (y := o6) (upd_same _ _ _) g21.wf (by have := g1.len; have := g2.len; have := g3.len; have := g4.len; have := g5.len; have := g6.len; have := g7.len; have := g8.len; have := g9.len; have := g10.len; have := g11.len; have := g12.len; have := g13.len; have := g14.len; have := g15.len; have := g16.len; have := g17.len; have := g18.len; have := g19.len; have := g20.len; have := g21.len; omega) ((((((((((((((((hm2.gr g6).gr g7).gr g8).gr g9).gr g10).gr g11).gr g12).gr g13).gr g14).gr g15).gr g16).gr g17).gr g18).gr g19).gr g20).gr g21) (((((((((((((((b6.gr g7).gr g8).gr g9).gr g10).gr g11).gr g12).gr g13).gr g14).gr g15).gr g16).gr g17).gr g18).gr g19).gr g20).gr g21) (fun F22 n22 o22 g22 b22 v22 => ?_)))
  refine ve rfl rfl (e_callF go103 rfl (andB (x := m3) (y := sg) (upd_same _ _ _) g22.wf (by have := g1.len; have := g2.len; have := g3.len; have := g4.len; have := g5.len; have := g6.len; have := g7.len; have := g8.len; have := g9.len; have := g10.len; have := g11.len; have := g12.len; have := g13.len; have := g14.len; have := g15.len; have := g16.len; have := g17.len; have := g18.len; have := g19.len; have := g20.len; have := g21.len; have := g22.len; omega) (((((((((((((((((hm3.gr g6).gr g7).gr g8).gr g9).gr g10).gr g11).gr g12).gr g13).gr g14).gr g15).gr g16).gr g17).gr g18).gr g19).gr g20).gr g21).gr g22) ((((((((((((((((((((((hs.gr g1).gr g2).gr g3).gr g4).gr g5).gr g6).gr g7).gr g8).gr g9).gr g10).gr g11).gr g12).gr g13).gr g14).gr g15).gr g16).gr g17).gr g18).gr g19).gr g20).gr g21).gr g22) (fun F23 n23 o23 g23 b23 v23 => ?_)))
  refine ve rfl rfl (e_callF go102 rfl (orB (x := o22) (y := o23) (upd_same _ _ _) g23.wf (by have := g1.len; have := g2.len; have := g3.len; have := g4.len; have := g5.len; have := g6.len; have := g7.len; have := g8.len; have := g9.len; have := g10.len; have := g11.len; have := g12.len; have := g13.len; have := g14.len; have := g15.len; have := g16.len; have := g17.len; have := g18.len; have := g19.len; have := g20.len; have := g21.len; have := g22.len; have := g23.len; omega) (b22.gr g23) b23 (fun F24 n24 o24 g24 b24 v24 => ?_)))
  refine ve rfl rfl (e_callF go102 rfl (orB (x := m1) (y := o24) (upd_same _ _ _) g24.wf (by have := g1.len; have := g2.len; have := g3.len; have := g4.len; have := g5.len; have := g6.len; have := g7.len; have := g8.len; have := g9.len; have := g10.len; have := g11.len; have := g12.len; have := g13.len; have := g14.len; have := g15.len; have := g16.len; have := g17.len; have := g18.len; have := g19.len; have := g20.len; have := g21.len; have := g22.len; have := g23.len; have := g24.len; omega) (((((((((((((((((((hm1.gr g6).gr g7).gr g8).gr g9).gr g10).gr g11).gr g12).gr g13).gr g14).gr g15).gr g16).gr g17).gr g18).gr g19).gr g20).gr g21).gr g22).gr g23).gr g24) b24 (fun F25 n25 o25 g25 b25 v25 => ?_)))
  refine vq rfl rfl (q_assign rfl) ?_
  refine vendW ?_
  refine vc_seq ?_
  refine vc_regionDW mx (qm 44991) [0, 1, 2, 3, 4, 5, 7, 8, 9, 10, 13, 6, 11, 12, 14, 15] (by kernel_rfl) ?_
  refine vq rfl rfl (q_move rfl) ?_
  refine vq rfl rfl (q_move rfl) ?_
  refine vq rfl rfl (q_loadA ag63 rfl rfl) ?_
  refine vq rfl rfl (q_move rfl) ?_
  refine vq rfl rfl (q_loadA ag63 rfl rfl) ?_
  refine vq rfl rfl (q_callF go107 rfl (fun s => infF (by omega) (by omega) (by omega) ⟨rfl, rfl⟩)) ?_
  refine vq rfl rfl (q_move rfl) ?_
  refine vq rfl rfl (q_loadA ag63 rfl rfl) ?_
  refine vq rfl rfl (q_move rfl) ?_
  refine vq rfl rfl (q_loadA ag63 rfl rfl) ?_
  refine vq rfl rfl (q_move rfl) ?_
  refine ve rfl rfl (e_callF go106 rfl (putB (sg := sg) (N := infN fp fw) (upd_same _ _ _) g25.wf (by have := g1.len; have := g2.len; have := g3.len; have := g4.len; have := g5.len; have := g6.len; have := g7.len; have := g8.len; have := g9.len; have := g10.len; have := g11.len; have := g12.len; have := g13.len; have := g14.len; have := g15.len; have := g16.len; have := g17.len; have := g18.len; have := g19.len; have := g20.len; have := g21.len; have := g22.len; have := g23.len; have := g24.len; have := g25.len; omega) (((((((((((((((((((((((((hs.gr g1).gr g2).gr g3).gr g4).gr g5).gr g6).gr g7).gr g8).gr g9).gr g10).gr g11).gr g12).gr g13).gr g14).gr g15).gr g16).gr g17).gr g18).gr g19).gr g20).gr g21).gr g22).gr g23).gr g24).gr g25) (Nat.lt_trans (infN_lt (by omega)) (by decide)) (by omega) (by omega) (fun F26 n26 pi g26 bpi lpi v26 => ?_)))
  refine vq rfl rfl (q_callF go108 rfl (fun s => greatF (by omega) (by omega) (by omega) ⟨rfl, rfl⟩)) ?_
  refine ve rfl rfl (e_callF go106 rfl (putB (sg := sg) (N := infN fp fw - 1) (upd_same _ _ _) g26.wf (by have := g1.len; have := g2.len; have := g3.len; have := g4.len; have := g5.len; have := g6.len; have := g7.len; have := g8.len; have := g9.len; have := g10.len; have := g11.len; have := g12.len; have := g13.len; have := g14.len; have := g15.len; have := g16.len; have := g17.len; have := g18.len; have := g19.len; have := g20.len; have := g21.len; have := g22.len; have := g23.len; have := g24.len; have := g25.len; have := g26.len; omega) ((((((((((((((((((((((((((hs.gr g1).gr g2).gr g3).gr g4).gr g5).gr g6).gr g7).gr g8).gr g9).gr g10).gr g11).gr g12).gr g13).gr g14).gr g15).gr g16).gr g17).gr g18).gr g19).gr g20).gr g21).gr g22).gr g23).gr g24).gr g25).gr g26) (Nat.lt_of_le_of_lt (Nat.sub_le _ _) (Nat.lt_trans (infN_lt (by omega)) (by decide))) (by omega) (by omega) (fun F27 n27 pg g27 bpg lpg v27 => ?_)))
  refine ve rfl rfl (e_callF go105 rfl (pickB (x := pi) (y := pg) (c := o25) (upd_same _ _ _) g27.wf (by have := g1.len; have := g2.len; have := g3.len; have := g4.len; have := g5.len; have := g6.len; have := g7.len; have := g8.len; have := g9.len; have := g10.len; have := g11.len; have := g12.len; have := g13.len; have := g14.len; have := g15.len; have := g16.len; have := g17.len; have := g18.len; have := g19.len; have := g20.len; have := g21.len; have := g22.len; have := g23.len; have := g24.len; have := g25.len; have := g26.len; have := g27.len; omega) (bpi.gr g27) bpg (by omega) (by omega) ((b25.gr g26).gr g27) (fun F28 n28 bey g28 bbey lbey v28 => ?_)))
  refine vq rfl rfl (q_assign rfl) ?_
  refine vendW ?_
  refine vc_seq ?_
  refine vc_regionW (qm 5) [0, 1, 2] rfl rfl ?_
  refine vq rfl rfl (q_move rfl) ?_
  refine ve rfl rfl (e_callF go56 rfl (bitB (b := 0) (upd_same _ _ _) g28.wf (by have := g1.len; have := g2.len; have := g3.len; have := g4.len; have := g5.len; have := g6.len; have := g7.len; have := g8.len; have := g9.len; have := g10.len; have := g11.len; have := g12.len; have := g13.len; have := g14.len; have := g15.len; have := g16.len; have := g17.len; have := g18.len; have := g19.len; have := g20.len; have := g21.len; have := g22.len; have := g23.len; have := g24.len; have := g25.len; have := g26.len; have := g27.len; have := g28.len; omega) (fun F29 n29 o29 g29 b29 v29 => ?_)))
  refine vq rfl rfl (q_assign rfl) ?_
  refine vendW ?_
  refine vc_seq ?_
  refine vc_regionDW mx (qm 16119) [0, 1, 2, 4, 5, 6, 7, 9, 10, 11, 3, 8, 12, 13] (by kernel_rfl) ?_
  refine vq rfl rfl (q_move rfl) ?_
  refine vq rfl rfl (q_move rfl) ?_
  refine vq rfl rfl (q_move rfl) ?_
  refine vq rfl rfl (q_move rfl) ?_
  refine vq rfl rfl (q_field fo158_4 rfl (Nat.le_of_ble_eq_true rfl)) ?_
  refine vq rfl rfl (q_load sc3 rfl) ?_
  refine vq rfl rfl (q_move rfl) ?_
  refine vq rfl rfl (q_move rfl) ?_
  refine vq rfl rfl (q_move rfl) ?_
  refine vq rfl rfl (q_move rfl) ?_
  refine ve rfl rfl (e_callF go102 rfl (orB (x := o7) (y := o21) (upd_same _ _ _) g29.wf (by have := g1.len; have := g2.len; have := g3.len; have := g4.len; have := g5.len; have := g6.len; have := g7.len; have := g8.len; have := g9.len; have := g10.len; have := g11.len; have := g12.len; have := g13.len; have := g14.len; have := g15.len; have := g16.len; have := g17.len; have := g18.len; have := g19.len; have := g20.len; have := g21.len; have := g22.len; have := g23.len; have := g24.len; have := g25.len; have := g26.len; have := g27.len; have := g28.len; have := g29.len; omega) ((((((((((((((((((((((b7.gr g8).gr g9).gr g10).gr g11).gr g12).gr g13).gr g14).gr g15).gr g16).gr g17).gr g18).gr g19).gr g20).gr g21).gr g22).gr g23).gr g24).gr g25).gr g26).gr g27).gr g28).gr g29) ((((((((b21.gr g22).gr g23).gr g24).gr g25).gr g26).gr g27).gr g28).gr g29) (fun F30 n30 o30 g30 b30 v30 => ?_)))
  refine ve rfl rfl (e_callF go103 rfl (andB (x := tiny) (y := o7) (upd_same _ _ _) g30.wf (by have := g1.len; have := g2.len; have := g3.len; have := g4.len; have := g5.len; have := g6.len; have := g7.len; have := g8.len; have := g9.len; have := g10.len; have := g11.len; have := g12.len; have := g13.len; have := g14.len; have := g15.len; have := g16.len; have := g17.len; have := g18.len; have := g19.len; have := g20.len; have := g21.len; have := g22.len; have := g23.len; have := g24.len; have := g25.len; have := g26.len; have := g27.len; have := g28.len; have := g29.len; have := g30.len; omega) ((((((((((((((((((((((((((btiny.gr g5).gr g6).gr g7).gr g8).gr g9).gr g10).gr g11).gr g12).gr g13).gr g14).gr g15).gr g16).gr g17).gr g18).gr g19).gr g20).gr g21).gr g22).gr g23).gr g24).gr g25).gr g26).gr g27).gr g28).gr g29).gr g30) (((((((((((((((((((((((b7.gr g8).gr g9).gr g10).gr g11).gr g12).gr g13).gr g14).gr g15).gr g16).gr g17).gr g18).gr g19).gr g20).gr g21).gr g22).gr g23).gr g24).gr g25).gr g26).gr g27).gr g28).gr g29).gr g30) (fun F31 n31 o31 g31 b31 v31 => ?_)))
  refine vq rfl rfl (q_buildS sl40 zo3 (by decide) rfl rfl rfl rfl (by decide)) ?_
  refine vq rfl rfl (q_assign rfl) ?_
  refine vendW ?_
  refine vc_seq ?_
  refine vc_regionW (qm 239) [0, 1, 2, 3, 4, 5, 6, 7] rfl rfl ?_
  refine vq rfl rfl (q_move rfl) ?_
  refine vq rfl rfl (q_move rfl) ?_
  refine vq rfl rfl (q_move rfl) ?_
  refine vq rfl rfl (q_move rfl) ?_
  refine ve rfl rfl (e_callF go105 rfl (pickB (x := all.take (fb - 1) ++ [sg]) (y := bey) (c := o21) (upd_same _ _ _) g31.wf (by have := g1.len; have := g2.len; have := g3.len; have := g4.len; have := g5.len; have := g6.len; have := g7.len; have := g8.len; have := g9.len; have := g10.len; have := g11.len; have := g12.len; have := g13.len; have := g14.len; have := g15.len; have := g16.len; have := g17.len; have := g18.len; have := g19.len; have := g20.len; have := g21.len; have := g22.len; have := g23.len; have := g24.len; have := g25.len; have := g26.len; have := g27.len; have := g28.len; have := g29.len; have := g30.len; have := g31.len; omega) ((((((((((((((((ball.gr g19).gr g20).gr g21).gr g22).gr g23).gr g24).gr g25).gr g26).gr g27).gr g28).gr g29).gr g30).gr g31).take _)).app (BW.one (((((((((((((((((((((((((((((((hs.gr g1).gr g2).gr g3).gr g4).gr g5).gr g6).gr g7).gr g8).gr g9).gr g10).gr g11).gr g12).gr g13).gr g14).gr g15).gr g16).gr g17).gr g18).gr g19).gr g20).gr g21).gr g22).gr g23).gr g24).gr g25).gr g26).gr g27).gr g28).gr g29).gr g30).gr g31))) (((bbey.gr g29).gr g30).gr g31) (by rw [List.length_append, List.length_take, List.length_singleton]; omega) (by omega) ((((((((((b21.gr g22).gr g23).gr g24).gr g25).gr g26).gr g27).gr g28).gr g29).gr g30).gr g31) (fun F32 n32 res g32 bres lres v32 => ?_)))
  refine vq rfl rfl (q_move rfl) ?_
  refine vq rfl rfl (q_assign rfl) ?_
  refine vq rfl rfl (q_assign rfl) ?_
  refine vendW ?_
  refine vc_ret ?_
  exact ret2 rfl rfl rfl (by simp only [upd_upd]; exact Le.refl _) (Cv.le (by simp only [upd_upd]; exact Le.refl _) _) (Cv.ale (by simp only [upd_upd]; exact Le.refl _) (ale_slx 1 _)) (hk F32 n32 res [o30, o31, o21, o29, o29] (((((((((((((((((((((((((((((((g1.trans g2 (Nat.le_refl _)).trans g3 (Nat.le_refl _)).trans g4 (Nat.le_refl _)).trans g5 (Nat.le_refl _)).trans g6 (Nat.le_refl _)).trans g7 (Nat.le_refl _)).trans g8 (Nat.le_refl _)).trans g9 (Nat.le_refl _)).trans g10 (Nat.le_refl _)).trans g11 (Nat.le_refl _)).trans g12 (Nat.le_refl _)).trans g13 (Nat.le_refl _)).trans g14 (Nat.le_refl _)).trans g15 (Nat.le_refl _)).trans g16 (Nat.le_refl _)).trans g17 (Nat.le_refl _)).trans g18 (Nat.le_refl _)).trans g19 (Nat.le_refl _)).trans g20 (Nat.le_refl _)).trans g21 (Nat.le_refl _)).trans g22 (Nat.le_refl _)).trans g23 (Nat.le_refl _)).trans g24 (Nat.le_refl _)).trans g25 (Nat.le_refl _)).trans g26 (Nat.le_refl _)).trans g27 (Nat.le_refl _)).trans g28 (Nat.le_refl _)).trans g29 (Nat.le_refl _)).trans g30 (Nat.le_refl _)).trans g31 (Nat.le_refl _)).trans g32 (by omega)) bres (BW.cons ((b30.gr g31).gr g32) (BW.cons (b31.gr g32) (BW.cons (((((((((((b21.gr g22).gr g23).gr g24).gr g25).gr g26).gr g27).gr g28).gr g29).gr g30).gr g31).gr g32) (BW.cons (((b29.gr g30).gr g31).gr g32) (BW.one (((b29.gr g30).gr g31).gr g32)))))) (by rw [lres, List.length_append, List.length_take, List.length_singleton]; omega) rfl (fun v hu => by
    have w1 := v1 v (((((((((((((((((((((((((((((((hu.gr g32).gr g31).gr g30).gr g29).gr g28).gr g27).gr g26).gr g25).gr g24).gr g23).gr g22).gr g21).gr g20).gr g19).gr g18).gr g17).gr g16).gr g15).gr g14).gr g13).gr g12).gr g11).gr g10).gr g9).gr g8).gr g7).gr g6).gr g5).gr g4).gr g3).gr g2)
    have w2 := v2 v ((((((((((((((((((((((((((((((hu.gr g32).gr g31).gr g30).gr g29).gr g28).gr g27).gr g26).gr g25).gr g24).gr g23).gr g22).gr g21).gr g20).gr g19).gr g18).gr g17).gr g16).gr g15).gr g14).gr g13).gr g12).gr g11).gr g10).gr g9).gr g8).gr g7).gr g6).gr g5).gr g4).gr g3)
    have w3 := v3 v (((((((((((((((((((((((((((((hu.gr g32).gr g31).gr g30).gr g29).gr g28).gr g27).gr g26).gr g25).gr g24).gr g23).gr g22).gr g21).gr g20).gr g19).gr g18).gr g17).gr g16).gr g15).gr g14).gr g13).gr g12).gr g11).gr g10).gr g9).gr g8).gr g7).gr g6).gr g5).gr g4)
    have w4 := v4 v ((((((((((((((((((((((((((((hu.gr g32).gr g31).gr g30).gr g29).gr g28).gr g27).gr g26).gr g25).gr g24).gr g23).gr g22).gr g21).gr g20).gr g19).gr g18).gr g17).gr g16).gr g15).gr g14).gr g13).gr g12).gr g11).gr g10).gr g9).gr g8).gr g7).gr g6).gr g5)
    have w5 := v5 v (((((((((((((((((((((((((((hu.gr g32).gr g31).gr g30).gr g29).gr g28).gr g27).gr g26).gr g25).gr g24).gr g23).gr g22).gr g21).gr g20).gr g19).gr g18).gr g17).gr g16).gr g15).gr g14).gr g13).gr g12).gr g11).gr g10).gr g9).gr g8).gr g7).gr g6)
    have w6 := v6 v ((((((((((((((((((((((((((hu.gr g32).gr g31).gr g30).gr g29).gr g28).gr g27).gr g26).gr g25).gr g24).gr g23).gr g22).gr g21).gr g20).gr g19).gr g18).gr g17).gr g16).gr g15).gr g14).gr g13).gr g12).gr g11).gr g10).gr g9).gr g8).gr g7)
    have w7 := v7 v (((((((((((((((((((((((((hu.gr g32).gr g31).gr g30).gr g29).gr g28).gr g27).gr g26).gr g25).gr g24).gr g23).gr g22).gr g21).gr g20).gr g19).gr g18).gr g17).gr g16).gr g15).gr g14).gr g13).gr g12).gr g11).gr g10).gr g9).gr g8)
    have w8 := v8 v ((((((((((((((((((((((((hu.gr g32).gr g31).gr g30).gr g29).gr g28).gr g27).gr g26).gr g25).gr g24).gr g23).gr g22).gr g21).gr g20).gr g19).gr g18).gr g17).gr g16).gr g15).gr g14).gr g13).gr g12).gr g11).gr g10).gr g9)
    have w9 := v9 v (((((((((((((((((((((((hu.gr g32).gr g31).gr g30).gr g29).gr g28).gr g27).gr g26).gr g25).gr g24).gr g23).gr g22).gr g21).gr g20).gr g19).gr g18).gr g17).gr g16).gr g15).gr g14).gr g13).gr g12).gr g11).gr g10)
    have w10 := v10 v ((((((((((((((((((((((hu.gr g32).gr g31).gr g30).gr g29).gr g28).gr g27).gr g26).gr g25).gr g24).gr g23).gr g22).gr g21).gr g20).gr g19).gr g18).gr g17).gr g16).gr g15).gr g14).gr g13).gr g12).gr g11)
    have w11 := v11 v (((((((((((((((((((((hu.gr g32).gr g31).gr g30).gr g29).gr g28).gr g27).gr g26).gr g25).gr g24).gr g23).gr g22).gr g21).gr g20).gr g19).gr g18).gr g17).gr g16).gr g15).gr g14).gr g13).gr g12)
    have w12 := v12 v ((((((((((((((((((((hu.gr g32).gr g31).gr g30).gr g29).gr g28).gr g27).gr g26).gr g25).gr g24).gr g23).gr g22).gr g21).gr g20).gr g19).gr g18).gr g17).gr g16).gr g15).gr g14).gr g13)
    have w13 := v13 v (((((((((((((((((((hu.gr g32).gr g31).gr g30).gr g29).gr g28).gr g27).gr g26).gr g25).gr g24).gr g23).gr g22).gr g21).gr g20).gr g19).gr g18).gr g17).gr g16).gr g15).gr g14)
    have w14 := v14 v ((((((((((((((((((hu.gr g32).gr g31).gr g30).gr g29).gr g28).gr g27).gr g26).gr g25).gr g24).gr g23).gr g22).gr g21).gr g20).gr g19).gr g18).gr g17).gr g16).gr g15)
    have w15 := v15 v (((((((((((((((((hu.gr g32).gr g31).gr g30).gr g29).gr g28).gr g27).gr g26).gr g25).gr g24).gr g23).gr g22).gr g21).gr g20).gr g19).gr g18).gr g17).gr g16)
    have w16 := v16 v ((((((((((((((((hu.gr g32).gr g31).gr g30).gr g29).gr g28).gr g27).gr g26).gr g25).gr g24).gr g23).gr g22).gr g21).gr g20).gr g19).gr g18).gr g17)
    have w17 := v17 v (((((((((((((((hu.gr g32).gr g31).gr g30).gr g29).gr g28).gr g27).gr g26).gr g25).gr g24).gr g23).gr g22).gr g21).gr g20).gr g19).gr g18)
    have w18 := v18 v ((((((((((((((hu.gr g32).gr g31).gr g30).gr g29).gr g28).gr g27).gr g26).gr g25).gr g24).gr g23).gr g22).gr g21).gr g20).gr g19)
    have w19 := v19 v (((((((((((((hu.gr g32).gr g31).gr g30).gr g29).gr g28).gr g27).gr g26).gr g25).gr g24).gr g23).gr g22).gr g21).gr g20)
    have w20 := v20 v ((((((((((((hu.gr g32).gr g31).gr g30).gr g29).gr g28).gr g27).gr g26).gr g25).gr g24).gr g23).gr g22).gr g21)
    have w21 := v21 v (((((((((((hu.gr g32).gr g31).gr g30).gr g29).gr g28).gr g27).gr g26).gr g25).gr g24).gr g23).gr g22)
    have w22 := v22 v ((((((((((hu.gr g32).gr g31).gr g30).gr g29).gr g28).gr g27).gr g26).gr g25).gr g24).gr g23)
    have w23 := v23 v (((((((((hu.gr g32).gr g31).gr g30).gr g29).gr g28).gr g27).gr g26).gr g25).gr g24)
    have w24 := v24 v ((((((((hu.gr g32).gr g31).gr g30).gr g29).gr g28).gr g27).gr g26).gr g25)
    have w25 := v25 v (((((((hu.gr g32).gr g31).gr g30).gr g29).gr g28).gr g27).gr g26)
    have w26 := v26 v ((((((hu.gr g32).gr g31).gr g30).gr g29).gr g28).gr g27)
    have w27 := v27 v (((((hu.gr g32).gr g31).gr g30).gr g29).gr g28)
    have w28 := v28 v ((((hu.gr g32).gr g31).gr g30).gr g29)
    have w29 := v29 v (((hu.gr g32).gr g31).gr g30)
    have w30 := v30 v ((hu.gr g32).gr g31)
    have w31 := v31 v (hu.gr g32)
    have w32 := v32 v hu
    rw [List.length_append, lz, lbase, ltop, show max (fp - 1 + (max (max l3.length (wd (z1 ++ sz).length)) fw + 2)) fp = fp - 1 + (max (max l3.length (wd (z1 ++ sz).length)) fw + 2) by omega] at w18
    simp only [List.take_length] at w19 w20
    have e9 : fb - 1 = fp - 1 + fw := by omega
    rw [e9] at w26 w27 w32
    have J := pack_join v (W := (max (max l3.length (wd (z1 ++ sz).length)) fw + 2)) hP (by omega) (by omega) (by omega) lmd ltop lbase lall2 w4 w5 w6 w7 w8 w9 w10 w11 w12 w13 w14 w15 w16 w17 lz (co := co) w18 w19 w20 w21 rfl w22 w23 w24 w25 w26 w27 w28 (w29.trans (by simp)) w30 w31 w32
    exact J.trans (pad_join v h1p rfl le3 le2 w1 lz1 w2 w3)))
end Go.Proofs.Ytpcpdepfnoijoaa

set_option linter.unusedVariables false
set_option linter.unusedSimpArgs false
namespace Go.Vc
def eT (b : Bool) : List AV := [.bool b]
abbrev bl (l : List Bool) : AV := .sl 1 (l.map eT)
theorem rowsC1_bools (l : List Bool) : rowsC1 (l.map eT) := by
  intro e he
  obtain ⟨b, _, rfl⟩ := List.mem_map.1 he
  intro c hc
  simp [eT] at hc
  subst hc; rfl
def bN : List Bool → Nat
  | [] => 0
  | b :: l => b.toNat + 2 * bN l
theorem bN_lt : ∀ l, bN l < 2 ^ l.length
  | [] => by simp [bN]
  | b :: l => by
    have h1 := bN_lt l
    have h2 : b.toNat ≤ 1 := Bool.toNat_le _
    simp only [bN, List.length_cons, Nat.pow_succ]; omega
theorem bN_app : ∀ l m, bN (l ++ m) = bN l + 2 ^ l.length * bN m
  | [], m => by simp [bN]
  | a :: l, m => by
    simp only [List.cons_append, bN, bN_app l m, List.length_cons, Nat.pow_succ]
    rw [Nat.mul_comm (2 ^ l.length) 2, Nat.mul_assoc, Nat.mul_add]; omega
theorem bN_snoc (l : List Bool) (b : Bool) : bN (l ++ [b]) = bN l + 2 ^ l.length * b.toNat := by rw [bN_app]; simp [bN]
theorem bN_bit : ∀ (l : List Bool) (i : Nat), (bN l).testBit i = l.getD i false
  | [], i => by simp [bN]
  | b :: l, 0 => by
    rw [Nat.testBit_zero, List.getD_cons_zero]
    have h2 : (b.toNat + 2 * bN l) % 2 = b.toNat := by have := Bool.toNat_le b; omega
    rw [bN, h2]; cases b <;> rfl
  | b :: l, i + 1 => by
    rw [Nat.testBit_succ, bN]
    have h2 : (b.toNat + 2 * bN l) / 2 = bN l := by have := Bool.toNat_le b; omega
    rw [h2, bN_bit l i, List.getD_cons_succ]
def toB (n : Nat) : List Bool := (List.range (wd n)).map n.testBit
theorem toB_len (n : Nat) : (toB n).length = wd n := by simp [toB]
theorem toB_get (n i : Nat) : (toB n).getD i false = n.testBit i := by
  unfold toB
  rcases Nat.lt_or_ge i (wd n) with h | h
  · simp [List.getD_eq_getElem?_getD, h]
  · rw [Nat.testBit_lt_two_pow (Nat.lt_of_lt_of_le (wd_lt n) (Nat.pow_le_pow_right (by decide) h))]
    simp [List.getD_eq_getElem?_getD, h]
theorem bN_toB (n : Nat) : bN (toB n) = n := by
  apply Nat.eq_of_testBit_eq
  intro i
  rw [bN_bit, toB_get]
theorem toB_zero : toB 0 = [] := rfl
theorem ext_bits {l m : List Bool} (h1 : l.length = m.length) (h2 : ∀ i, i < l.length → l.getD i false = m.getD i false) : l = m := by
  apply List.ext_getElem h1
  intro i a b
  have := h2 i a
  simpa [List.getD_eq_getElem?_getD, a, b] using this
theorem cut_eq {b : List Bool} {n : Nat} (h1 : n ≤ b.length) (h2 : n = 0 ∨ b.getD (n - 1) false = true) (h3 : ∀ j, n ≤ j → j < b.length → b.getD j false = false) : b.take n = toB (bN b) := by
  have e : n = wd (bN b) := by
    apply wd_eq
    · apply Nat.lt_pow_two_of_testBit
      intro i hi
      rw [bN_bit]
      rcases Nat.lt_or_ge i b.length with h | h
      · exact h3 i hi h
      · simp [List.getD_eq_getElem?_getD, h]
    · rcases h2 with h2 | h2
      · left; exact h2
      · right
        apply Nat.ge_two_pow_of_testBit
        rw [bN_bit]; exact h2
  apply ext_bits
  · rw [List.length_take, toB_len]; omega
  · intro i hi
    rw [List.length_take] at hi
    rw [toB_get, bN_bit, List.getD_eq_getElem?_getD, List.getD_eq_getElem?_getD, List.getElem?_take, if_pos (by omega)]
def pts (N len : Nat) : List Int := (List.range ((len + 31) / 32)).map fun i => ((N / 2 ^ (32 * i) % 2 ^ 32 : Nat) : Int)
def pN : List Int → Nat
  | [] => 0
  | x :: l => x.toNat + 2 ^ 32 * pN l
theorem pN_app : ∀ l m, pN (l ++ m) = pN l + 2 ^ (32 * l.length) * pN m
  | [], m => by simp [pN]
  | a :: l, m => by
    simp only [List.cons_append, pN, pN_app l m, List.length_cons, Nat.mul_add, Nat.pow_add, Nat.mul_one]
    rw [Nat.mul_comm (2 ^ (32 * l.length)) (2 ^ 32), Nat.mul_assoc]; omega
theorem pN_pts_aux (N : Nat) : ∀ k, pN ((List.range k).map fun i => ((N / 2 ^ (32 * i) % 2 ^ 32 : Nat) : Int)) = N % 2 ^ (32 * k)
  | 0 => by simp [pN, Nat.mod_one]
  | k + 1 => by
    rw [List.range_succ, List.map_append, pN_app, pN_pts_aux N k, List.length_map, List.length_range]
    simp only [List.map_cons, List.map_nil, pN, Nat.mul_zero, Nat.add_zero, Int.toNat_natCast]
    rw [Nat.mul_add, Nat.mul_one, Nat.pow_add, Nat.mod_mul]
theorem pN_pts {N len : Nat} (h : N < 2 ^ len) : pN (pts N len) = N := by
  unfold pts
  rw [pN_pts_aux, Nat.mod_eq_of_lt (Nat.lt_of_lt_of_le h (Nat.pow_le_pow_right (by decide) (by omega)))]
theorem pts_u32 (N len : Nat) : U32 (pts N len) := by
  intro n hn
  unfold pts at hn
  obtain ⟨i, _, rfl⟩ := List.mem_map.1 hn
  have := Nat.mod_lt (N / 2 ^ (32 * i)) (show 0 < 2 ^ 32 by decide)
  omega
theorem pts_len (N len : Nat) : (pts N len).length = (len + 31) / 32 := by simp [pts]
theorem nthT {l : List Bool} {i : Nat} (h : i < l.length) : nth (l.map eT) i = some (eT (l.getD i false)) := by
  rw [nth_eq, List.getElem?_map, List.getD_eq_getElem?_getD, List.getElem?_eq_getElem h]; rfl
theorem cut_pos {b : List Bool} {n : Nat} (h : (decide (0 < n) && !b.getD (n - 1) false) = true) : 0 < n := by
  simp at h; exact h.1
theorem cut_next {b : List Bool} {n : Nat} (hz : ∀ j, n ≤ j → j < b.length → b.getD j false = false) (h : (decide (0 < n) && !b.getD (n - 1) false) = true) : ∀ j, n - 1 ≤ j → j < b.length → b.getD j false = false := by
  intro j h1 h2
  by_cases e : j = n - 1
  · subst e
    rw [Bool.and_eq_true] at h
    simpa using h.2
  · exact hz j (by omega) h2
theorem cut_stop {b : List Bool} {n : Nat} (h' : (decide (0 < n) && !b.getD (n - 1) false) = false) : n = 0 ∨ b.getD (n - 1) false = true := by
  have h : ¬ (decide (0 < n) && !b.getD (n - 1) false) = true := by rw [h']; decide
  by_cases h0 : n = 0
  · left; exact h0
  · right
    rw [Bool.and_eq_true, not_and] at h
    have := h (by simp; omega)
    simpa using this
theorem half_u64 {n : Nat} (hn : n < 2 ^ 64) (i : Nat) : IntKind.u64.wrap (((n / 2 ^ i : Nat) : Int).tdiv 2) = ((n / 2 ^ (i + 1) : Nat) : Int) := by
  have h1 : n / 2 ^ i ≤ n := Nat.div_le_self _ _
  rw [Nat.pow_succ, ← Nat.div_div_eq_div_mul]
  generalize n / 2 ^ i = m at *
  rw [Int.tdiv_eq_ediv_of_nonneg (by omega), IntKind.wrap_u64, Int.emod_eq_of_lt (by omega) (by omega)]
  rfl
theorem odd_bit (n i : Nat) : decide (((n / 2 ^ i : Nat) : Int).tmod 2 = 1) = n.testBit i := by
  rw [Nat.testBit_eq_decide_div_mod_eq]
  apply decide_eq_decide.2
  generalize n / 2 ^ i = m at *
  rw [Int.tmod_eq_emod_of_nonneg (by omega)]
  omega
theorem word_own {s0 s : St} {x : AV} {e : Nat} {l : List (List AV)} (n i : Nat) (h : OwnSt s0 x e 1 (l ++ [[.bool (decide (((n / 2 ^ i : Nat) : Int).tmod 2 = 1))]]) s) : OwnSt s0 x e 1 (l ++ ([i].map n.testBit).map eT) s := by
  rw [odd_bit] at h; exact h
theorem bpart_lt (N e m : Nat) : N / 2 ^ e % 2 ^ m < 2 ^ m := Nat.mod_lt _ (Nat.pow_pos (by decide))
theorem part_step {N q m : Nat} (h : m < 32) : N / 2 ^ (32 * q + 32 - (m + 1)) % 2 ^ (m + 1) = 2 * (N / 2 ^ (32 * q + 32 - m) % 2 ^ m) + (N.testBit (32 * q + 31 - m)).toNat := by
  have e : 32 * q + 32 - m = (32 * q + 31 - m) + 1 := by omega
  rw [show 32 * q + 32 - (m + 1) = 32 * q + 31 - m by omega, e, Nat.pow_succ 2 (32 * q + 31 - m), ← Nat.div_div_eq_div_mul, Nat.toNat_testBit]
  generalize N / 2 ^ (32 * q + 31 - m) = X
  rw [Nat.pow_succ, Nat.mul_comm (2 ^ m) 2, Nat.mod_mul]; omega
theorem part_31 {v m : Nat} (h : m < 32) (hv : v < 2 ^ m) : v < 2 ^ 31 := Nat.lt_of_lt_of_le hv (Nat.pow_le_pow_right (by decide) (by omega))
theorem part_mul {v m : Nat} (h : m < 32) (hv : v < 2 ^ m) : IntKind.u32.wrap ((v : Int) * 2) = ((2 * v : Nat) : Int) := by
  have := part_31 h hv
  rw [IntKind.wrap_u32, Int.emod_eq_of_lt (by omega) (by omega)]; omega
theorem part_add {v m : Nat} (h : m < 32) (hv : v < 2 ^ m) : IntKind.u32.wrap (((2 * v : Nat) : Int) + 1) = ((2 * v + 1 : Nat) : Int) := by
  have := part_31 h hv
  rw [IntKind.wrap_u32, Int.emod_eq_of_lt (by omega) (by omega)]; omega
theorem part_yes {b : List Bool} {q m : Nat} (h : m < 32) (hb : b.getD (32 * q + 31 - m) false = true) : ((2 * (bN b / 2 ^ (32 * q + 32 - m) % 2 ^ m) + 1 : Nat) : Int) = ((bN b / 2 ^ (32 * q + 32 - (m + 1)) % 2 ^ (m + 1) : Nat) : Int) := by
  rw [part_step h, bN_bit, hb]; rfl
theorem part_no {b : List Bool} {q m : Nat} (h : m < 32) (hb : b.getD (32 * q + 31 - m) false = false) : ((2 * (bN b / 2 ^ (32 * q + 32 - m) % 2 ^ m) : Nat) : Int) = ((bN b / 2 ^ (32 * q + 32 - (m + 1)) % 2 ^ (m + 1) : Nat) : Int) := by
  rw [part_step h, bN_bit, hb]; rfl
theorem parts_own {s0 s : St} {x : AV} {e q m N : Nat} {l : List (List AV)} (hm : m = 32) (h : OwnSt s0 x e 1 (l ++ [[.v (.int .u32 ((N / 2 ^ (32 * q + 32 - m) % 2 ^ m : Nat) : Int))]]) s) :
    OwnSt s0 x e 1 (l ++ ([q].map (fun i => ((N / 2 ^ (32 * i) % 2 ^ 32 : Nat) : Int))).map eU) s := by
  subst hm
  rw [show 32 * q + 32 - 32 = 32 * q by omega] at h
  exact h
theorem full_step {b : List Bool} {m : Nat} (h : m < b.length) : bN b / 2 ^ (b.length - (m + 1)) = 2 * (bN b / 2 ^ (b.length - m)) + (b.getD (b.length - 1 - m) false).toNat := by
  have e : b.length - m = (b.length - 1 - m) + 1 := by omega
  rw [show b.length - (m + 1) = b.length - 1 - m by omega, e, Nat.pow_succ, ← Nat.div_div_eq_div_mul, ← bN_bit, Nat.toNat_testBit]
  generalize bN b / 2 ^ (b.length - 1 - m) = X
  omega
theorem full_lt {b : List Bool} {m : Nat} (h : m < b.length) (hl : b.length ≤ 64) : bN b / 2 ^ (b.length - m) < 2 ^ 63 := by
  have h1 := bN_lt b
  refine (Nat.div_lt_iff_lt_mul (Nat.pow_pos (by decide))).2 ?_
  rw [← Nat.pow_add]
  exact Nat.lt_of_lt_of_le h1 (Nat.pow_le_pow_right (by decide) (by omega))
theorem full_mul {b : List Bool} {m : Nat} (h : m < b.length) (hl : b.length ≤ 64) : IntKind.u64.wrap (((bN b / 2 ^ (b.length - m) : Nat) : Int) * 2) = ((2 * (bN b / 2 ^ (b.length - m)) : Nat) : Int) := by
  have := full_lt h hl
  generalize bN b / 2 ^ (b.length - m) = v at *
  rw [IntKind.wrap_u64, Int.emod_eq_of_lt (by omega) (by omega)]; omega
theorem full_add {b : List Bool} {m : Nat} (h : m < b.length) (hl : b.length ≤ 64) : IntKind.u64.wrap (((2 * (bN b / 2 ^ (b.length - m)) : Nat) : Int) + 1) = ((2 * (bN b / 2 ^ (b.length - m)) + 1 : Nat) : Int) := by
  have := full_lt h hl
  generalize bN b / 2 ^ (b.length - m) = v at *
  rw [IntKind.wrap_u64, Int.emod_eq_of_lt (by omega) (by omega)]; omega
theorem idx_full {b : List Bool} {m : Nat} (h : m < b.length) : ((b.length : Int) - 1 - m).toNat = b.length - 1 - m := by omega
theorem full_yes {b : List Bool} {m : Nat} (h : m < b.length) (hl : b.length ≤ 64) (hb : b.getD ((b.length : Int) - 1 - m).toNat false = true) : ((2 * (bN b / 2 ^ (b.length - m)) + 1 : Nat) : Int) = ((bN b / 2 ^ (b.length - (m + 1)) : Nat) : Int) := by
  rw [idx_full h] at hb
  rw [full_step h, hb]; rfl
theorem full_no {b : List Bool} {m : Nat} (h : m < b.length) (hl : b.length ≤ 64) (hb : b.getD ((b.length : Int) - 1 - m).toNat false = false) : ((2 * (bN b / 2 ^ (b.length - m)) : Nat) : Int) = ((bN b / 2 ^ (b.length - (m + 1)) : Nat) : Int) := by
  rw [idx_full h] at hb
  rw [full_step h, hb]; rfl
theorem wd_0 {N : Nat} (h : wd N = 0) : N = 0 := by
  have := wd_lt N
  rw [h] at this; omega
theorem left_toB {N n : Nat} (h : N ≠ 0) : List.replicate n false ++ toB N = toB (N * 2 ^ n) := by
  have e : wd (N * 2 ^ n) = n + wd N := by
    symm
    apply wd_eq
    · rw [Nat.pow_add, Nat.mul_comm]; exact Nat.mul_lt_mul_of_pos_left (wd_lt N) (Nat.pow_pos (by decide))
    · right
      have h2 := wd_pos h
      rw [show n + wd N - 1 = (wd N - 1) + n by omega, Nat.pow_add]
      exact Nat.mul_le_mul_right _ (wd_le h)
  apply ext_bits
  · rw [List.length_append, List.length_replicate, toB_len, toB_len, e]
  · intro i hi
    rw [toB_get, Nat.testBit_mul_two_pow]
    rcases Nat.lt_or_ge i n with h1 | h1
    · rw [getD_front (by simpa using h1), decide_eq_false (by omega), Bool.false_and]
      simp [List.getD_eq_getElem?_getD, h1]
    · rw [decide_eq_true h1, Bool.true_and, ← toB_get]
      simp [List.getD_eq_getElem?_getD, List.getElem?_append_right, h1]
theorem U32.nat {a : List Int} (ha : U32 a) (i : Nat) : a.getD i 0 = (((a.getD i 0).toNat : Nat) : Int) ∧ (a.getD i 0).toNat < 2 ^ 32 := by
  have := ha.get i; omega
theorem of_init {a : List Int} (ha : U32 a) (i : Nat) : a.getD i default = (((a.getD i 0).toNat / 2 ^ 0 : Nat) : Int) := by
  rw [Nat.pow_zero, Nat.div_one]; exact (ha.nat i).1
theorem half_u32 {a : List Int} (ha : U32 a) (i k : Nat) : IntKind.u32.wrap ((((a.getD i 0).toNat / 2 ^ k : Nat) : Int).tdiv 2) = (((a.getD i 0).toNat / 2 ^ (k + 1) : Nat) : Int) := by
  have h0 := (ha.nat i).2
  have h1 : (a.getD i 0).toNat / 2 ^ k ≤ (a.getD i 0).toNat := Nat.div_le_self _ _
  rw [Nat.pow_succ, ← Nat.div_div_eq_div_mul]
  generalize (a.getD i 0).toNat / 2 ^ k = m at *
  rw [Int.tdiv_eq_ediv_of_nonneg (by omega), IntKind.wrap_u32, Int.emod_eq_of_lt (by omega) (by omega)]
  rfl
theorem of_own {s0 s : St} {x : AV} {e n i : Nat} {l : List (List AV)} (h : OwnSt s0 x e 1 (l ++ [[.bool (decide (((n / 2 ^ i : Nat) : Int).tmod 2 = 1))]]) s) : OwnSt s0 x e 1 (l ++ [n.testBit i].map eT) s := by
  rw [odd_bit] at h; exact h
theorem of_bit {l : List Bool} {i k n p : Nat} (hl : l.length = 32 * i + k) (h : bN l = p + 2 ^ (32 * i) * (n % 2 ^ k)) : bN (l ++ [n.testBit k]) = p + 2 ^ (32 * i) * (n % 2 ^ (k + 1)) := by
  rw [bN_snoc, h, hl, mod_bit, Nat.mul_add, Nat.pow_add, Nat.mul_assoc]
  cases n.testBit k
  · simp
  · simp; omega
theorem of_take {a : List Int} {i k : Nat} {b : Nat} (ha : U32 a) (hi : i < a.length) (hk : k = 32) (h : b = pN (a.take i) + 2 ^ (32 * i) * ((a.getD i 0).toNat % 2 ^ k)) : b = pN (a.take (i + 1)) := by
  subst hk
  rw [h, List.take_succ_eq_append_getElem hi, pN_app, List.length_take, Nat.min_eq_left (by omega)]
  have e : a.getD i 0 = a[i] := by simp [List.getD_eq_getElem?_getD, hi]
  rw [Nat.mod_eq_of_lt (ha.nat i).2, e]
  simp [pN]
end Go.Vc

set_option linter.unusedVariables false
set_option maxRecDepth 100000
namespace Go.Proofs.Ytpcpdepfnoijoaa
open Go.Vc
theorem eq_of_getD {x y : List Int} (hl : x.length = y.length) (h : ∀ j, j < x.length → x.getD j 0 = y.getD j 0) : x = y := by
  apply List.ext_getElem hl
  intro i h1 h2
  have := h i h1
  simpa [List.getD_eq_getElem?_getD, h1, h2] using this
theorem ref01_same {x y : List Int} {s : St} {K : AV → St → Prop} (hx : x.length < 2^60) (hk : K (.bool (x == y)) s) : CallsA Try.prog 52 [natA x, natA y] s K := by
  refine callsA_of Try.func52 rfl rfl (Nat.le_of_ble_eq_true rfl) ?_
  refine vc_seq ?_
  refine vc_regionW (qm 1) [0] rfl rfl ?_
  refine vq rfl rfl (q_assign rfl) ?_
  refine vendW ?_
  refine vc_seq ?_
  refine vc_seq ?_
  refine vc_regionW (qm 31) [0, 1, 2, 3, 4] rfl rfl ?_
  refine vq rfl rfl (q_move rfl) ?_
  refine vq rfl rfl (q_len sl53 rfl (by first | exact lenM | rfl)) ?_
  refine vq rfl rfl (q_move rfl) ?_
  refine vq rfl rfl (q_len sl53 rfl (by first | exact lenM | rfl)) ?_
  refine vq rfl rfl (q_ne rfl rfl) ?_
  refine vendW ?_
  refine vc_condD rfl (fun h => ?_) (fun h => ?_)
  ·
    refine vc_seq ?_
    refine vc_regionW (qm 1) [0] rfl rfl ?_
    refine vq rfl rfl (q_assign rfl) ?_
    refine vendW ?_
    refine vc_ret ?_
    have e : (x == y) = false := by simp; rintro rfl; exact h rfl
    rw [e] at hk
    exact ret1 rfl rfl (Le.refl _) (Cv.le (Le.refl _) _) hk
  refine vc_skip ?_
  refine vc_seq ?_
  refine vc_seq ?_
  refine vc_regionW (qm 1) [0] rfl rfl ?_
  refine vq rfl rfl (q_assign rfl) ?_
  refine vendW ?_
  refine vc_block ?_
  refine vc_loopS (α := Nat) [4, 5, 11, 12, 13, 14, 15, 16, 17, 18, 19, 20, 21, 22, 23, 24, 25] (fun i => [(5, .int (i : Int))]) (fun i => s) (fun i => i ≤ x.length ∧ ∀ j, j < i → x.getD j 0 = y.getD j 0) (fun i => x.length - i) 0 ⟨by simp, by simp⟩ rfl ⟨rfl, trivial⟩ (fun _ => rfl) ?_
  intro i hok
  refine vc_seq ?_
  refine vc_seq ?_
  refine vc_regionW (qm 15) [0, 1, 2, 3] rfl rfl ?_
  refine vq rfl rfl (q_move rfl) ?_
  refine vq rfl rfl (q_move rfl) ?_
  refine vq rfl rfl (q_len sl53 rfl (by first | exact lenM | rfl)) ?_
  refine vq rfl rfl (q_lt rfl rfl) ?_
  refine vendW ?_
  refine vc_condD rfl (fun h => ?_) (fun h => ?_)
  ·
    refine vc_skip ?_
    refine vc_seq ?_
    refine vc_block ?_
    refine vc_seq ?_
    refine vc_regionDW mx (qm 511) [0, 1, 2, 3, 4, 5, 6, 7, 8] (by kernel_rfl) ?_
    refine vq rfl rfl (q_move rfl) ?_
    refine vq rfl rfl (q_move rfl) ?_
    refine vq rfl rfl (q_index sl53 rfl rfl (by omega) (by first | exact nthI (by omega) | exact nthM (by omega))) ?_
    refine vq rfl rfl (q_load sc92 rfl) ?_
    refine vq rfl rfl (q_move rfl) ?_
    refine vq rfl rfl (q_move rfl) ?_
    refine vq rfl rfl (q_index sl53 rfl rfl (by omega) (by first | exact nthI (by omega) | exact nthM (by omega))) ?_
    refine vq rfl rfl (q_load sc92 rfl) ?_
    refine vq rfl rfl (q_ne rfl rfl) ?_
    refine vendW ?_
    refine vc_condD rfl (fun h2 => ?_) (fun h2 => ?_)
    ·
      refine vc_seq ?_
      refine vc_regionW (qm 1) [0] rfl rfl ?_
      refine vq rfl rfl (q_assign rfl) ?_
      refine vendW ?_
      refine vc_ret ?_
      have e : (x == y) = false := by simp; rintro rfl; exact h2 rfl
      rw [e] at hk
      exact ret1 rfl rfl (Le.refl _) (Cv.le (Le.refl _) _) hk
    refine vc_skip ?_
    refine vc_regionW (qm 7) [0, 1, 2] rfl rfl ?_
    refine vq rfl rfl (q_move rfl) ?_
    refine vq rfl rfl (q_add rfl rfl (w64 (by omega))) ?_
    refine vq rfl rfl (q_assign rfl) ?_
    refine vendW ?_
    refine ⟨i + 1, ⟨by omega, fun j hj => by by_cases e : j = i; (· subst e; simpa using h2); (· exact hok.2 j (by omega))⟩, by omega, ?_, ⟨rfl, trivial⟩, rfl⟩
    repeat (first | exact Same.refl | refine Same.upd rfl ?_ | refine Same.drop rfl ?_)
  refine vc_exit ?_
  refine vc_seq ?_
  refine vc_regionW (qm 1) [0] rfl rfl ?_
  refine vq rfl rfl (q_assign rfl) ?_
  refine vendW ?_
  refine vc_ret ?_
  have e : (x == y) = true := by simp; exact eq_of_getD (by omega) fun j hj => hok.2 j (by omega)
  rw [e] at hk
  exact ret1 rfl rfl (Le.refl _) (Cv.le (Le.refl _) _) hk
theorem parts {l : List (List Int)} {s : St} {K : AV → St → Prop} (hl : l.length < 2^40) (hk : K (natsA l) s) : CallsA Try.prog 14 [natsA l] s K := by
  refine callsA_of Try.func14 rfl rfl (Nat.le_of_ble_eq_true rfl) ?_
  refine vc_seq ?_
  refine vc_regionW (qm 1) [0] rfl rfl ?_
  refine vq rfl rfl (q_assign rfl) ?_
  refine vendW ?_
  refine vc_seq ?_
  refine vc_regionW (qm 3) [0, 1] rfl rfl ?_
  refine vq rfl rfl (q_buildS sl33 zo53 (by decide) rfl rfl rfl rfl (by decide)) ?_
  refine vq rfl rfl (q_assign rfl) ?_
  refine vendW ?_
  refine vc_seq ?_
  refine vc_seq ?_
  refine vc_regionW (qm 7) [0, 1, 2] rfl rfl ?_
  refine vq rfl rfl (q_move rfl) ?_
  refine vq rfl rfl (q_len sl35 rfl (by first | exact lenM | rfl)) ?_
  refine vq rfl rfl (q_move rfl) ?_
  refine vendW ?_
  refine vc_block ?_
  refine vc_loopS (α := Nat × AV × St) [3, 4, 8, 9, 10, 11, 12, 13, 14, 15, 16, 17, 18] (fun a => [(8, .int (a.1 : Int)), (3, a.2.1)]) (fun a => a.2.2) (fun a => a.1 ≤ l.length ∧ OwnSt s a.2.1 53 1 ((l.take a.1).map eN) a.2.2) (fun a => l.length - a.1) (0, .slx 1 [], s) ⟨by simp, OwnSt.slx _ _ _⟩ rfl ⟨rfl, rfl, trivial⟩ (fun _ => rfl) ?_
  intro ⟨i, x, s1⟩ ⟨hi, ho⟩
  simp only at hi ho ⊢
  refine vc_seq ?_
  refine vc_regionW (qm 1) [0] rfl rfl ?_
  refine vq rfl rfl (q_lt rfl rfl) ?_
  refine vendW ?_
  refine vc_seq ?_
  refine vc_condD rfl (fun h => ?_) (fun h => ?_)
  ·
    refine vc_skip ?_
    refine vc_seq ?_
    refine vc_block ?_
    refine vc_seq ?_
    refine vc_regionW (qm 3) [0, 1] rfl rfl ?_
    refine vq rfl rfl (q_move rfl) ?_
    refine vq rfl rfl (q_assign rfl) ?_
    refine vendW ?_
    refine vc_regionW (qm 191) [0, 1, 2, 3, 4, 5, 6, 7] rfl rfl ?_
    refine vq rfl rfl (q_move rfl) ?_
    refine vq rfl rfl (q_move rfl) ?_
    refine vq rfl rfl (q_move rfl) ?_
    refine vq rfl rfl (q_index sl35 rfl rfl (by omega) (by first | exact nthI (by omega) | exact nthM (by omega))) ?_
    refine vq rfl rfl (q_load sc61 rfl) ?_
    refine vq rfl rfl (q_buildS sl33 zo53 (by decide) rfl rfl rfl rfl (by decide)) ?_
    refine ve rfl rfl (e_append sl33 zo53 rfl rfl ho (SrcOK.slx 1 _) (rowsC1_one rfl) (by simp [maxLen_eq]; omega) (fun x2 s2 ho2 => ?_))
    refine vq rfl rfl (q_assign rfl) ?_
    refine vendW ?_
    refine vc_regionW (qm 3) [0, 1] rfl rfl ?_
    refine vq rfl rfl (q_add rfl rfl (w64 (by omega))) ?_
    refine vq rfl rfl (q_move rfl) ?_
    refine vendW ?_
    refine ⟨(i + 1, x2, s2), ⟨by simp only; omega, by rw [map_take_succ (by omega)]; exact ho2⟩, by simp only; omega, ?_, ⟨rfl, rfl, trivial⟩, rfl⟩
    repeat (first | exact Same.refl | refine Same.upd rfl ?_ | refine Same.drop rfl ?_)
  refine vc_exit ?_
  refine vc_seq ?_
  refine vc_regionW (qm 3) [0, 1] rfl rfl ?_
  refine vq rfl rfl (q_move rfl) ?_
  refine vq rfl rfl (q_assign rfl) ?_
  refine vendW ?_
  refine vc_ret ?_
  have e : (l.take i).map eN = l.map eN := by rw [List.take_of_length_le (by omega)]
  rw [e] at ho
  exact ret1 rfl rfl ho.le ho.frz hk
end Go.Proofs.Ytpcpdepfnoijoaa

set_option linter.unusedVariables false
set_option linter.unusedSimpArgs false
set_option maxRecDepth 100000
namespace Go.Proofs.Ytpcpdepfnoijoaa
open Go.Vc
theorem rBit {l : List Bool} {i : Nat} {s : St} {K : AV → St → Prop} (hl : l.length < 2^40) (hi : i < 2^50) (hk : K (.bool (l.getD i false)) s) : CallsA Try.prog 62 [bl l, .int (i : Int)] s K := by
  refine callsA_of Try.func62 rfl rfl (Nat.le_of_ble_eq_true rfl) ?_
  refine vc_seq ?_
  refine vc_regionW (qm 1) [0] rfl rfl ?_
  refine vq rfl rfl (q_assign rfl) ?_
  refine vendW ?_
  refine vc_seq ?_
  refine vc_regionW (qm 32767) [0, 1, 2, 3, 4, 5, 6, 7, 8, 9, 10, 11, 12, 13, 14] rfl rfl ?_
  refine vq rfl rfl (q_move rfl) ?_
  refine vq rfl rfl (q_ge rfl rfl) ?_
  refine vq rfl rfl (q_move rfl) ?_
  refine vgrp [3, 4, 5, 6, 7] [8, 9, 10, 11, 12, 13, 14] [8, 9, 10, 11] 12 (.v (.bool (decide (i < l.length)))) ?_ ?_
  ·
    by_cases hg2 : (0 : Int) ≤ (i : Int)
    ·
      refine gq_run rfl rfl rfl rfl (by first | exact congrArg Value.bool (decide_eq_true hg2) | (rw [decide_eq_true hg2]; done) | (simp [hg2]; done) | simp_all) (q_move rfl) ?_
      refine gq_run rfl rfl rfl rfl (by first | exact congrArg Value.bool (decide_eq_true hg2) | (rw [decide_eq_true hg2]; done) | (simp [hg2]; done) | simp_all) (q_move rfl) ?_
      refine gq_run rfl rfl rfl rfl (by first | exact congrArg Value.bool (decide_eq_true hg2) | (rw [decide_eq_true hg2]; done) | (simp [hg2]; done) | simp_all) (q_len sl48 rfl (by first | exact lenM | rfl)) ?_
      refine gq_run rfl rfl rfl rfl (by first | exact congrArg Value.bool (decide_eq_true hg2) | (rw [decide_eq_true hg2]; done) | (simp [hg2]; done) | simp_all) (q_lt rfl rfl) ?_
      refine vq rfl rfl (q_pickT rfl (by first | exact (decide_eq_true hg2) | exact hg2 | (simp [hg2]; done) | simp_all) rfl) ?_
      refine vendW ⟨rfl, congrArg (fun b => some (AV.v (Value.bool b))) (by first | (simp only [decide_eq_true hg2]; done) | (simp only [decide_eq_true hg2]; rfl) | (simp [hg2]; done) | simp_all), ?_⟩
      repeat (first | exact Same.refl | refine Same.upd rfl ?_)
    ·
      refine g_skip rfl rfl rfl (by first | (rw [decide_eq_false hg2]; simp; done) | (intro e; have e2 := Value.bool.inj e; rw [decide_eq_false hg2] at e2; cases e2; done) | (simp [hg2]; done) | simp_all) ?_
      refine g_skip rfl rfl rfl (by first | (rw [decide_eq_false hg2]; simp; done) | (intro e; have e2 := Value.bool.inj e; rw [decide_eq_false hg2] at e2; cases e2; done) | (simp [hg2]; done) | simp_all) ?_
      refine g_skip rfl rfl rfl (by first | (rw [decide_eq_false hg2]; simp; done) | (intro e; have e2 := Value.bool.inj e; rw [decide_eq_false hg2] at e2; cases e2; done) | (simp [hg2]; done) | simp_all) ?_
      refine g_skip rfl rfl rfl (by first | (rw [decide_eq_false hg2]; simp; done) | (intro e; have e2 := Value.bool.inj e; rw [decide_eq_false hg2] at e2; cases e2; done) | (simp [hg2]; done) | simp_all) ?_
      refine vq rfl rfl (q_pickF rfl (by first | exact (decide_eq_false hg2) | exact hg2 | (simp [hg2]; done) | simp_all) rfl) ?_
      refine vendW ⟨rfl, congrArg (fun b => some (AV.v (Value.bool b))) (by first | (simp only [decide_eq_false hg2]; done) | (simp only [decide_eq_false hg2]; rfl) | (simp [hg2]; done) | simp_all), ?_⟩
      repeat (first | exact Same.refl | refine Same.upd rfl ?_)
  refine vq rfl rfl (q_move rfl) ?_
  refine vgrp [9, 10, 11, 12, 13] [14] [14, 15, 16, 17] 18 (.v (.bool (l.getD i false))) ?_ ?_
  ·
    by_cases hg8 : (decide (i < l.length)) = true
    ·
      refine gq_run rfl rfl rfl rfl (congrArg Value.bool hg8) (q_move rfl) ?_
      refine gq_run rfl rfl rfl rfl (congrArg Value.bool hg8) (q_move rfl) ?_
      refine gq_run rfl rfl rfl rfl (congrArg Value.bool hg8) (q_index sl48 rfl rfl (by omega) (nthT (of_decide_eq_true hg8))) ?_
      refine gq_run rfl rfl rfl rfl (congrArg Value.bool hg8) (q_load sc4 rfl) ?_
      refine vq rfl rfl (q_pickT rfl (by first | exact hg8 | exact hg8 | (simp [hg8]; done) | simp_all) rfl) ?_
      refine vendW ⟨rfl, congrArg (fun b => some (AV.v (Value.bool b))) (by first | (simp only [hg8]; done) | (simp only [hg8]; rfl) | (simp [hg8]; done) | simp_all), ?_⟩
      repeat (first | exact Same.refl | refine Same.upd rfl ?_)
    ·
      refine g_skip rfl rfl rfl (by first | (rw [(eq_false_of_ne_true hg8)]; simp; done) | (intro e; have e2 := Value.bool.inj e; rw [(eq_false_of_ne_true hg8)] at e2; cases e2; done) | (simp [hg8]; done) | simp_all) ?_
      refine g_skip rfl rfl rfl (by first | (rw [(eq_false_of_ne_true hg8)]; simp; done) | (intro e; have e2 := Value.bool.inj e; rw [(eq_false_of_ne_true hg8)] at e2; cases e2; done) | (simp [hg8]; done) | simp_all) ?_
      refine g_skip rfl rfl rfl (by first | (rw [(eq_false_of_ne_true hg8)]; simp; done) | (intro e; have e2 := Value.bool.inj e; rw [(eq_false_of_ne_true hg8)] at e2; cases e2; done) | (simp [hg8]; done) | simp_all) ?_
      refine g_skip rfl rfl rfl (by first | (rw [(eq_false_of_ne_true hg8)]; simp; done) | (intro e; have e2 := Value.bool.inj e; rw [(eq_false_of_ne_true hg8)] at e2; cases e2; done) | (simp [hg8]; done) | simp_all) ?_
      refine vq rfl rfl (q_pickF rfl (by first | exact (eq_false_of_ne_true hg8) | exact hg8 | (simp [hg8]; done) | simp_all) rfl) ?_
      refine vendW ⟨rfl, congrArg (fun b => some (AV.v (Value.bool b))) (by first | (simp only [eq_false_of_ne_true hg8]; done) | (simp only [eq_false_of_ne_true hg8]; rfl) | (simp [hg8]; done) | simp_all), ?_⟩
      repeat (first | exact Same.refl | refine Same.upd rfl ?_)
  refine vq rfl rfl (q_assign rfl) ?_
  refine vendW ?_
  refine vc_ret ?_
  exact ret1 rfl rfl (Le.refl _) (Cv.le (Le.refl _) _) hk
theorem rCut {b : List Bool} {s : St} {K : AV → St → Prop} (hl : b.length < 2^40) (hk : K (bl (toB (bN b))) s) : CallsA Try.prog 64 [bl b] s K := by
  refine callsA_of Try.func64 rfl rfl (Nat.le_of_ble_eq_true rfl) ?_
  refine vc_seq ?_
  refine vc_regionW (qm 1) [0] rfl rfl ?_
  refine vq rfl rfl (q_assign rfl) ?_
  refine vendW ?_
  refine vc_seq ?_
  refine vc_regionW (qm 7) [0, 1, 2] rfl rfl ?_
  refine vq rfl rfl (q_move rfl) ?_
  refine vq rfl rfl (q_len sl48 rfl (by first | exact lenM | rfl)) ?_
  refine vq rfl rfl (q_assign rfl) ?_
  refine vendW ?_
  refine vc_seq ?_
  refine vc_block ?_
  refine vc_loopS (α := Nat) [3, 6, 7, 8, 9, 10, 11, 12, 13, 14, 15, 16, 17] (fun n => [(3, .int (n : Int))]) (fun n => s) (fun n => n ≤ b.length ∧ ∀ j, n ≤ j → j < b.length → b.getD j false = false) (fun n => n) b.length ⟨Nat.le_refl _, fun j h1 h2 => by omega⟩ rfl ⟨rfl, trivial⟩ (fun _ => rfl) ?_
  intro n ⟨hn, hz⟩
  refine vc_seq ?_
  refine vc_seq ?_
  refine vc_regionW (qm 1023) [0, 1, 2, 3, 4, 5, 6, 7, 8, 9] rfl rfl ?_
  refine vq rfl rfl (q_move rfl) ?_
  refine vq rfl rfl (q_gt rfl rfl) ?_
  refine vq rfl rfl (q_move rfl) ?_
  refine vgrp [3, 4, 5, 6, 7, 8, 9] [] [9, 10, 11, 12, 13, 14] 15 (.v (.bool (decide (0 < n) && !b.getD (n - 1) false))) ?_ ?_
  ·
    by_cases hg2 : (0 : Int) < (n : Int)
    ·
      refine gq_run rfl rfl rfl rfl (by first | exact congrArg Value.bool (decide_eq_true hg2) | (rw [decide_eq_true hg2]; done) | (simp [hg2]; done) | simp_all) (q_move rfl) ?_
      refine gq_run rfl rfl rfl rfl (by first | exact congrArg Value.bool (decide_eq_true hg2) | (rw [decide_eq_true hg2]; done) | (simp [hg2]; done) | simp_all) (q_move rfl) ?_
      refine gq_run rfl rfl rfl rfl (by first | exact congrArg Value.bool (decide_eq_true hg2) | (rw [decide_eq_true hg2]; done) | (simp [hg2]; done) | simp_all) (q_sub rfl rfl (show _ = ((n - 1 : Nat) : Int) by rw [w64 (by omega)]; omega)) ?_
      refine gq_run rfl rfl rfl rfl (by first | exact congrArg Value.bool (decide_eq_true hg2) | (rw [decide_eq_true hg2]; done) | (simp [hg2]; done) | simp_all) (q_index sl48 rfl rfl (by omega) (nthT (by omega))) ?_
      refine gq_run rfl rfl rfl rfl (by first | exact congrArg Value.bool (decide_eq_true hg2) | (rw [decide_eq_true hg2]; done) | (simp [hg2]; done) | simp_all) (q_load sc4 rfl) ?_
      refine gq_run rfl rfl rfl rfl (by first | exact congrArg Value.bool (decide_eq_true hg2) | (rw [decide_eq_true hg2]; done) | (simp [hg2]; done) | simp_all) (q_not rfl) ?_
      refine vq rfl rfl (q_pickT rfl (by first | exact (decide_eq_true hg2) | exact hg2 | (simp [hg2]; done) | simp_all) rfl) ?_
      refine vendW ⟨rfl, congrArg (fun b => some (AV.v (Value.bool b))) (by first | (simp only [decide_eq_true hg2]; done) | (simp only [decide_eq_true hg2]; rfl) | (simp [hg2]; done) | simp_all), ?_⟩
      repeat (first | exact Same.refl | refine Same.upd rfl ?_)
    ·
      refine g_skip rfl rfl rfl (by first | (rw [decide_eq_false hg2]; simp; done) | (intro e; have e2 := Value.bool.inj e; rw [decide_eq_false hg2] at e2; cases e2; done) | (simp [hg2]; done) | simp_all) ?_
      refine g_skip rfl rfl rfl (by first | (rw [decide_eq_false hg2]; simp; done) | (intro e; have e2 := Value.bool.inj e; rw [decide_eq_false hg2] at e2; cases e2; done) | (simp [hg2]; done) | simp_all) ?_
      refine g_skip rfl rfl rfl (by first | (rw [decide_eq_false hg2]; simp; done) | (intro e; have e2 := Value.bool.inj e; rw [decide_eq_false hg2] at e2; cases e2; done) | (simp [hg2]; done) | simp_all) ?_
      refine g_skip rfl rfl rfl (by first | (rw [decide_eq_false hg2]; simp; done) | (intro e; have e2 := Value.bool.inj e; rw [decide_eq_false hg2] at e2; cases e2; done) | (simp [hg2]; done) | simp_all) ?_
      refine g_skip rfl rfl rfl (by first | (rw [decide_eq_false hg2]; simp; done) | (intro e; have e2 := Value.bool.inj e; rw [decide_eq_false hg2] at e2; cases e2; done) | (simp [hg2]; done) | simp_all) ?_
      refine g_skip rfl rfl rfl (by first | (rw [decide_eq_false hg2]; simp; done) | (intro e; have e2 := Value.bool.inj e; rw [decide_eq_false hg2] at e2; cases e2; done) | (simp [hg2]; done) | simp_all) ?_
      refine vq rfl rfl (q_pickF rfl (by first | exact (decide_eq_false hg2) | exact hg2 | (simp [hg2]; done) | simp_all) rfl) ?_
      refine vendW ⟨rfl, congrArg (fun b => some (AV.v (Value.bool b))) (by first | (simp only [decide_eq_false hg2]; done) | (simp only [decide_eq_false hg2]; rfl) | (simp [hg2]; done) | simp_all), ?_⟩
      repeat (first | exact Same.refl | refine Same.upd rfl ?_)
  refine vendW ?_
  refine vc_cond rfl (fun h15 => ?_) (fun h15 => ?_)
  ·
    refine vc_skip ?_
    refine vc_block ?_
    refine vc_regionW (qm 7) [0, 1, 2] rfl rfl ?_
    refine vq rfl rfl (q_move rfl) ?_
    refine vq rfl rfl (q_sub rfl rfl (w64 (by omega))) ?_
    refine vq rfl rfl (q_assign rfl) ?_
    refine vendW ?_
    refine ⟨n - 1, ⟨by omega, cut_next hz h15⟩, by have := cut_pos h15; omega, ?_, ⟨(congrArg (fun z : Int => some (AV.int z)) (by have := cut_pos h15; omega)), trivial⟩, rfl⟩
    repeat (first | exact Same.refl | refine Same.upd rfl ?_ | refine Same.drop rfl ?_)
  refine vc_exit ?_
  refine vc_seq ?_
  refine vc_regionW (qm 15) [0, 1, 2, 3] rfl rfl ?_
  refine vq rfl rfl (q_move rfl) ?_
  refine vq rfl rfl (q_move rfl) ?_
  refine vq rfl rfl (q_sliceM (f := eT) (xs := b) 0 n sl48 rfl rfl rfl (by simp) rfl (by omega)) ?_
  refine vq rfl rfl (q_assign rfl) ?_
  refine vendW ?_
  refine vc_ret ?_
  rw [← cut_eq hn (cut_stop h15) hz] at hk
  exact ret1 rfl rfl (Le.refl _) (Cv.le (Le.refl _) _) hk
theorem rWord {n : Nat} {s : St} {K : AV → St → Prop} (hn : n < 2^64) (hk : K (bl (toB n)) s) : CallsA Try.prog 26 [.v (.int .u64 (n : Int))] s K := by
  refine callsA_of Try.func26 rfl rfl (Nat.le_of_ble_eq_true rfl) ?_
  refine vc_seq ?_
  refine vc_regionW (qm 1) [0] rfl rfl ?_
  refine vq rfl rfl (q_assign rfl) ?_
  refine vendW ?_
  refine vc_seq ?_
  refine vc_regionW (qm 3) [0, 1] rfl rfl ?_
  refine vq rfl rfl (q_buildS sl48 zo4 (by decide) rfl rfl rfl rfl (by decide)) ?_
  refine vq rfl rfl (q_assign rfl) ?_
  refine vendW ?_
  refine vc_seq ?_
  refine vc_block ?_
  refine vc_loopS (α := Nat × AV × St) [0, 3, 5, 6, 7, 8, 9, 10, 11, 12, 13, 14] (fun a => [(0, .v (.int .u64 ((n / 2 ^ a.1 : Nat) : Int))), (3, a.2.1)]) (fun a => a.2.2) (fun a => a.1 ≤ wd n ∧ OwnSt s a.2.1 4 1 (((List.range a.1).map n.testBit).map eT) a.2.2) (fun a => wd n - a.1) (0, .slx 1 [], s) ⟨by simp, OwnSt.slx _ _ _⟩ rfl ⟨(congrArg (fun z : Int => some (AV.v (.int .u64 z))) (by simp)), rfl, trivial⟩ (fun _ => rfl) ?_
  intro ⟨i, x, s1⟩ ⟨hi, ho⟩
  simp only at hi ho ⊢
  have hwd := wd_mono (k := 64) hn
  refine vc_seq ?_
  refine vc_seq ?_
  refine vc_regionW (qm 3) [0, 1] rfl rfl ?_
  refine vq rfl rfl (q_move rfl) ?_
  refine vq rfl rfl (q_gt rfl rfl) ?_
  refine vendW ?_
  refine vc_condD rfl (fun h6 => ?_) (fun h6 => ?_)
  ·
    refine vc_skip ?_
    refine vc_block ?_
    refine vc_seq ?_
    refine vc_regionW (qm 95) [0, 1, 2, 3, 4, 5, 6] rfl rfl ?_
    refine vq rfl rfl (q_move rfl) ?_
    refine vq rfl rfl (q_move rfl) ?_
    refine vq rfl rfl (q_rem rfl rfl (by omega) rfl) ?_
    refine vq rfl rfl (q_eq rfl rfl) ?_
    refine vq rfl rfl (q_buildS sl48 zo4 (by decide) rfl rfl rfl rfl (by decide)) ?_
    refine ve rfl rfl (e_append sl48 zo4 rfl rfl ho (SrcOK.slx 1 _) (rowsC1_one rfl) (by simp [maxLen_eq]; omega) (fun x3 s3 ho3 => ?_))
    refine vq rfl rfl (q_assign rfl) ?_
    refine vendW ?_
    refine vc_regionW (qm 7) [0, 1, 2] rfl rfl ?_
    refine vq rfl rfl (q_move rfl) ?_
    refine vq rfl rfl (q_quo rfl rfl (by omega) rfl) ?_
    refine vq rfl rfl (q_assign rfl) ?_
    refine vendW ?_
    refine ⟨(i + 1, x3, s3), ⟨wd_next (by omega), by rw [List.range_succ, List.map_append, List.map_append]; exact word_own n i ho3⟩, by have := wd_next (n := n) (k := i) (by omega); simp only; omega, ?_, ⟨(congrArg (fun z : Int => some (AV.v (.int .u64 z))) (half_u64 hn i)), rfl, trivial⟩, rfl⟩
    repeat (first | exact Same.refl | refine Same.upd rfl ?_ | refine Same.drop rfl ?_)
  refine vc_exit ?_
  refine vc_seq ?_
  refine vc_regionW (qm 3) [0, 1] rfl rfl ?_
  refine vq rfl rfl (q_move rfl) ?_
  refine vq rfl rfl (q_assign rfl) ?_
  refine vendW ?_
  refine vc_ret ?_
  have e : i = wd n := wd_end h6 hi
  subst e
  exact ret1 rfl rfl ho.le ho.frz hk
end Go.Proofs.Ytpcpdepfnoijoaa

set_option linter.unusedVariables false
set_option linter.unusedSimpArgs false
set_option maxRecDepth 100000
namespace Go.Proofs.Ytpcpdepfnoijoaa
open Go.Vc
theorem rParts {b : List Bool} {s : St} {K : AV → St → Prop} (hl : b.length < 2^40) (hk : K (.sl 1 ((pts (bN b) b.length).map eU)) s) : CallsA Try.prog 25 [bl b] s K := by
  refine callsA_of Try.func25 rfl rfl (Nat.le_of_ble_eq_true rfl) ?_
  refine vc_seq ?_
  refine vc_regionW (qm 1) [0] rfl rfl ?_
  refine vq rfl rfl (q_assign rfl) ?_
  refine vendW ?_
  refine vc_seq ?_
  refine vc_regionW (qm 3) [0, 1] rfl rfl ?_
  refine vq rfl rfl (q_buildS sl53 zo92 (by decide) rfl rfl rfl rfl (by decide)) ?_
  refine vq rfl rfl (q_assign rfl) ?_
  refine vendW ?_
  refine vc_seq ?_
  refine vc_seq ?_
  refine vc_regionW (qm 1) [0] rfl rfl ?_
  refine vq rfl rfl (q_assign rfl) ?_
  refine vendW ?_
  refine vc_block ?_
  refine vc_loopS (α := Nat × AV × St) [3, 4, 5, 6, 8, 9, 10, 11, 12, 13, 14, 15, 16, 17, 18, 19, 20, 21, 22, 23, 24, 25, 26, 27, 28, 29, 30] (fun a => [(4, .int (32 * a.1 : Int)), (3, a.2.1)]) (fun a => a.2.2) (fun a => a.1 ≤ (b.length + 31) / 32 ∧ OwnSt s a.2.1 92 1 (((List.range a.1).map (fun i => ((bN b / 2 ^ (32 * i) % 2 ^ 32 : Nat) : Int))).map eU) a.2.2) (fun a => (b.length + 31) / 32 - a.1) (0, .slx 1 [], s) ⟨by simp, OwnSt.slx _ _ _⟩ rfl ⟨rfl, rfl, trivial⟩ (fun _ => rfl) ?_
  intro ⟨q, x, s1⟩ ⟨hq, ho⟩
  simp only at hq ho ⊢
  refine vc_seq ?_
  refine vc_seq ?_
  refine vc_regionW (qm 15) [0, 1, 2, 3] rfl rfl ?_
  refine vq rfl rfl (q_move rfl) ?_
  refine vq rfl rfl (q_move rfl) ?_
  refine vq rfl rfl (q_len sl48 rfl (by first | exact lenM | rfl)) ?_
  refine vq rfl rfl (q_lt rfl rfl) ?_
  refine vendW ?_
  refine vc_condD rfl (fun h11 => ?_) (fun h11 => ?_)
  ·
    refine vc_skip ?_
    refine vc_seq ?_
    refine vc_block ?_
    refine vc_seq ?_
    refine vc_regionW (qm 1) [0] rfl rfl ?_
    refine vq rfl rfl (q_assign rfl) ?_
    refine vendW ?_
    refine vc_seq ?_
    refine vc_seq ?_
    refine vc_regionW (qm 1) [0] rfl rfl ?_
    refine vq rfl rfl (q_assign rfl) ?_
    refine vendW ?_
    refine vc_block ?_
    refine vc_loopS (α := Nat) [5, 6, 14, 15, 16, 17, 18, 19, 20, 21, 22, 23, 24, 25, 26] (fun m => [(6, .int (31 - m : Int)), (5, .v (.int .u32 (((bN b / 2 ^ (32 * q + 32 - m) % 2 ^ m) : Nat) : Int)))]) (fun m => s1) (fun m => m ≤ 32) (fun m => 32 - m) 0 (by simp) rfl ⟨rfl, (congrArg (fun z : Int => some (AV.v (.int .u32 z))) (by simp [Nat.mod_one])), trivial⟩ (fun _ => rfl) ?_
    intro m hm
    have hvl := bpart_lt (bN b) (32 * q + 32 - m) m
    refine vc_seq ?_
    refine vc_seq ?_
    refine vc_regionW (qm 3) [0, 1] rfl rfl ?_
    refine vq rfl rfl (q_move rfl) ?_
    refine vq rfl rfl (q_ge rfl rfl) ?_
    refine vendW ?_
    refine vc_condD rfl (fun h15 => ?_) (fun h15 => ?_)
    ·
      refine vc_skip ?_
      refine vc_seq ?_
      refine vc_block ?_
      refine vc_seq ?_
      refine vc_regionW (qm 7) [0, 1, 2] rfl rfl ?_
      refine vq rfl rfl (q_move rfl) ?_
      refine vq rfl rfl (q_mul rfl rfl (part_mul (by omega) hvl)) ?_
      refine vq rfl rfl (q_assign rfl) ?_
      refine vendW ?_
      refine vc_seq ?_
      refine vc_regionW (qm 31) [0, 1, 2, 3, 4] rfl rfl ?_
      refine vq rfl rfl (q_move rfl) ?_
      refine vq rfl rfl (q_move rfl) ?_
      refine vq rfl rfl (q_move rfl) ?_
      refine vq rfl rfl (q_add rfl rfl (show _ = ((32 * q + 31 - m : Nat) : Int) by rw [w64 (by omega)]; omega)) ?_
      refine vq rfl rfl (q_callF go62 rfl (fun s => rBit (l := b) (i := 32 * q + 31 - m) hl (by omega) ⟨rfl, rfl⟩)) ?_
      refine vendW ?_
      refine vc_cond rfl (fun h24 => ?_) (fun h24 => ?_)
      ·
        refine vc_regionW (qm 7) [0, 1, 2] rfl rfl ?_
        refine vq rfl rfl (q_move rfl) ?_
        refine vq rfl rfl (q_add rfl rfl (part_add (by omega) hvl)) ?_
        refine vq rfl rfl (q_assign rfl) ?_
        refine vendW ?_
        refine vc_regionW (qm 7) [0, 1, 2] rfl rfl ?_
        refine vq rfl rfl (q_move rfl) ?_
        refine vq rfl rfl (q_sub rfl rfl (w64 (by omega))) ?_
        refine vq rfl rfl (q_assign rfl) ?_
        refine vendW ?_
        refine ⟨m + 1, by omega, by omega, ?_, ⟨(congrArg (fun z : Int => some (AV.int z)) (by push_cast; omega)), (congrArg (fun z : Int => some (AV.v (.int .u32 z))) (by first | exact part_yes (by omega) h24 | exact part_no (by omega) h24)), trivial⟩, rfl⟩
        repeat (first | exact Same.refl | refine Same.upd rfl ?_ | refine Same.drop rfl ?_)
      refine vc_skip ?_
      refine vc_regionW (qm 7) [0, 1, 2] rfl rfl ?_
      refine vq rfl rfl (q_move rfl) ?_
      refine vq rfl rfl (q_sub rfl rfl (w64 (by omega))) ?_
      refine vq rfl rfl (q_assign rfl) ?_
      refine vendW ?_
      refine ⟨m + 1, by omega, by omega, ?_, ⟨(congrArg (fun z : Int => some (AV.int z)) (by push_cast; omega)), (congrArg (fun z : Int => some (AV.v (.int .u32 z))) (by first | exact part_yes (by omega) h24 | exact part_no (by omega) h24)), trivial⟩, rfl⟩
      repeat (first | exact Same.refl | refine Same.upd rfl ?_ | refine Same.drop rfl ?_)
    refine vc_exit ?_
    have hm32 : m = 32 := by omega
    refine vc_regionW (qm 23) [0, 1, 2, 3, 4] rfl rfl ?_
    refine vq rfl rfl (q_move rfl) ?_
    refine vq rfl rfl (q_move rfl) ?_
    refine vq rfl rfl (q_buildS sl53 zo92 (by decide) rfl rfl rfl rfl (by decide)) ?_
    refine ve rfl rfl (e_append sl53 zo92 rfl rfl ho (SrcOK.slx 1 _) (rowsC1_one rfl) (by simp [maxLen_eq]; omega) (fun x3 s3 ho3 => ?_))
    refine vq rfl rfl (q_assign rfl) ?_
    refine vendW ?_
    refine vc_regionW (qm 7) [0, 1, 2] rfl rfl ?_
    refine vq rfl rfl (q_move rfl) ?_
    refine vq rfl rfl (q_add rfl rfl (w64 (by omega))) ?_
    refine vq rfl rfl (q_assign rfl) ?_
    refine vendW ?_
    refine ⟨(q + 1, x3, s3), ⟨by simp only; omega, by rw [List.range_succ, List.map_append, List.map_append]; exact parts_own hm32 ho3⟩, by simp only; omega, ?_, ⟨(congrArg (fun z : Int => some (AV.int z)) (by push_cast; omega)), rfl, trivial⟩, rfl⟩
    repeat (first | exact Same.refl | refine Same.upd rfl ?_ | refine Same.drop rfl ?_)
  refine vc_exit ?_
  refine vc_seq ?_
  refine vc_regionW (qm 3) [0, 1] rfl rfl ?_
  refine vq rfl rfl (q_move rfl) ?_
  refine vq rfl rfl (q_assign rfl) ?_
  refine vendW ?_
  refine vc_ret ?_
  have e : q = (b.length + 31) / 32 := by omega
  subst e
  exact ret1 rfl rfl ho.le ho.frz hk
theorem rFull {b : List Bool} {s : St} {K : AV → St → Prop} (hl : b.length ≤ 64) (hk : K (.tup [.v (.int .u64 ((bN b : Nat) : Int)), .int 0]) s) : CallsA Try.prog 66 [bl b] s K := by
  refine callsA_of Try.func66 rfl rfl (Nat.le_of_ble_eq_true rfl) ?_
  refine vc_seq ?_
  refine vc_regionW (qm 3) [0, 1] rfl rfl ?_
  refine vq rfl rfl (q_assign rfl) ?_
  refine vq rfl rfl (q_assign rfl) ?_
  refine vendW ?_
  refine vc_seq ?_
  refine vc_seq ?_
  refine vc_regionW (qm 7) [0, 1, 2] rfl rfl ?_
  refine vq rfl rfl (q_move rfl) ?_
  refine vq rfl rfl (q_len sl48 rfl (by first | exact lenM | rfl)) ?_
  refine vq rfl rfl (q_gt rfl rfl) ?_
  refine vendW ?_
  refine vc_condF rfl (decide_eq_false (by omega)) ?_
  refine vc_skip ?_
  refine vc_seq ?_
  refine vc_regionW (qm 1) [0] rfl rfl ?_
  refine vq rfl rfl (q_assign rfl) ?_
  refine vendW ?_
  refine vc_seq ?_
  refine vc_seq ?_
  refine vc_regionW (qm 15) [0, 1, 2, 3] rfl rfl ?_
  refine vq rfl rfl (q_move rfl) ?_
  refine vq rfl rfl (q_len sl48 rfl (by first | exact lenM | rfl)) ?_
  refine vq rfl rfl (q_sub rfl rfl (w64 (by omega))) ?_
  refine vq rfl rfl (q_assign rfl) ?_
  refine vendW ?_
  refine vc_block ?_
  refine vc_loopS (α := Nat) [4, 5, 12, 13, 14, 15, 16, 17, 18, 19, 20, 21, 22, 23] (fun m => [(5, .int ((b.length : Int) - 1 - m)), (4, .v (.int .u64 ((bN b / 2 ^ (b.length - m) : Nat) : Int)))]) (fun m => s) (fun m => m ≤ b.length) (fun m => b.length - m) 0 (by simp) rfl ⟨(congrArg (fun z : Int => some (AV.int z)) (by simp)), (congrArg (fun z : Int => some (AV.v (.int .u64 z))) (by rw [Nat.sub_zero, Nat.div_eq_of_lt (bN_lt b)]; rfl)), trivial⟩ (fun _ => rfl) ?_
  intro m hm
  refine vc_seq ?_
  refine vc_seq ?_
  refine vc_regionW (qm 3) [0, 1] rfl rfl ?_
  refine vq rfl rfl (q_move rfl) ?_
  refine vq rfl rfl (q_ge rfl rfl) ?_
  refine vendW ?_
  refine vc_condD rfl (fun h13 => ?_) (fun h13 => ?_)
  ·
    refine vc_skip ?_
    refine vc_seq ?_
    refine vc_block ?_
    refine vc_seq ?_
    refine vc_regionW (qm 7) [0, 1, 2] rfl rfl ?_
    refine vq rfl rfl (q_move rfl) ?_
    refine vq rfl rfl (q_mul rfl rfl (full_mul (by omega) hl)) ?_
    refine vq rfl rfl (q_assign rfl) ?_
    refine vendW ?_
    refine vc_seq ?_
    refine vc_regionW (qm 15) [0, 1, 2, 3] rfl rfl ?_
    refine vq rfl rfl (q_move rfl) ?_
    refine vq rfl rfl (q_move rfl) ?_
    refine vq rfl rfl (q_index sl48 rfl rfl (by omega) (nthT (by omega))) ?_
    refine vq rfl rfl (q_load sc4 rfl) ?_
    refine vendW ?_
    refine vc_cond rfl (fun h21 => ?_) (fun h21 => ?_)
    ·
      refine vc_regionW (qm 7) [0, 1, 2] rfl rfl ?_
      refine vq rfl rfl (q_move rfl) ?_
      refine vq rfl rfl (q_add rfl rfl (full_add (by omega) hl)) ?_
      refine vq rfl rfl (q_assign rfl) ?_
      refine vendW ?_
      refine vc_regionW (qm 7) [0, 1, 2] rfl rfl ?_
      refine vq rfl rfl (q_move rfl) ?_
      refine vq rfl rfl (q_sub rfl rfl (w64 (by omega))) ?_
      refine vq rfl rfl (q_assign rfl) ?_
      refine vendW ?_
      refine ⟨m + 1, by omega, by omega, ?_, ⟨(congrArg (fun z : Int => some (AV.int z)) (by push_cast; omega)), (congrArg (fun z : Int => some (AV.v (.int .u64 z))) (by first | exact full_yes (by omega) hl h21 | exact full_no (by omega) hl h21)), trivial⟩, rfl⟩
      repeat (first | exact Same.refl | refine Same.upd rfl ?_ | refine Same.drop rfl ?_)
    refine vc_skip ?_
    refine vc_regionW (qm 7) [0, 1, 2] rfl rfl ?_
    refine vq rfl rfl (q_move rfl) ?_
    refine vq rfl rfl (q_sub rfl rfl (w64 (by omega))) ?_
    refine vq rfl rfl (q_assign rfl) ?_
    refine vendW ?_
    refine ⟨m + 1, by omega, by omega, ?_, ⟨(congrArg (fun z : Int => some (AV.int z)) (by push_cast; omega)), (congrArg (fun z : Int => some (AV.v (.int .u64 z))) (by first | exact full_yes (by omega) hl h21 | exact full_no (by omega) hl h21)), trivial⟩, rfl⟩
    repeat (first | exact Same.refl | refine Same.upd rfl ?_ | refine Same.drop rfl ?_)
  refine vc_exit ?_
  refine vc_seq ?_
  refine vc_regionW (qm 7) [0, 1, 2] rfl rfl ?_
  refine vq rfl rfl (q_move rfl) ?_
  refine vq rfl rfl (q_assign rfl) ?_
  refine vq rfl rfl (q_assign rfl) ?_
  refine vendW ?_
  refine vc_ret ?_
  have e : m = b.length := by omega
  subst e
  exact ret2 rfl rfl rfl (Le.refl _) (Cv.le (Le.refl _) _) (Cv.le (Le.refl _) _) (by rw [Nat.sub_self, Nat.pow_zero, Nat.div_one]; exact hk)
theorem rLeft {N n : Nat} {s : St} {K : AV → St → Prop} (hl : wd N < 2^30) (hn : n < 2^30) (hk : K (bl (toB (N * 2 ^ n))) s) : CallsA Try.prog 27 [bl (toB N), .int (n : Int)] s K := by
  refine callsA_of Try.func27 rfl rfl (Nat.le_of_ble_eq_true rfl) ?_
  refine vc_seq ?_
  refine vc_regionW (qm 1) [0] rfl rfl ?_
  refine vq rfl rfl (q_assign rfl) ?_
  refine vendW ?_
  refine vc_seq ?_
  refine vc_seq ?_
  refine vc_regionW (qm 7) [0, 1, 2] rfl rfl ?_
  refine vq rfl rfl (q_move rfl) ?_
  refine vq rfl rfl (q_len sl48 rfl (by first | exact lenM | rfl)) ?_
  refine vq rfl rfl (q_eq rfl rfl) ?_
  refine vendW ?_
  refine vc_condD rfl (fun h7 => ?_) (fun h7 => ?_)
  ·
    refine vc_seq ?_
    refine vc_regionW (qm 3) [0, 1] rfl rfl ?_
    refine vq rfl rfl (q_move rfl) ?_
    refine vq rfl rfl (q_assign rfl) ?_
    refine vendW ?_
    refine vc_ret ?_
    rw [toB_len] at h7
    have e : N = 0 := wd_0 (by omega)
    subst e
    rw [Nat.zero_mul] at hk
    exact ret1 rfl rfl (Le.refl _) (Cv.le (Le.refl _) _) hk
  refine vc_skip ?_
  refine vc_seq ?_
  refine vc_regionW (qm 21) [0, 1, 2, 3, 4] rfl rfl ?_
  refine vq rfl rfl (q_move rfl) ?_
  refine ve rfl rfl (e_make sl48 zr4 rfl (List.cons_ne_nil _ _) rfl rfl (by omega) (by omega) (by omega) (by omega) (fun k3 hk3 => ?_))
  refine vq rfl rfl (q_move rfl) ?_
  refine ve rfl rfl (e_append sl48 zo4 rfl rfl (show OwnSt s (.hdr k3 1 (n : Int).toNat) 4 1 ((List.replicate n false).map eT) _ from by rw [List.map_replicate]; exact OwnSt.mk hk3 (by simp)) (SrcOK.sl 1 _) (rowsC1_bools _) (by rw [List.length_map, List.length_replicate, List.length_map, toB_len]; simp only [maxLen_eq]; omega) (fun x3 s3 ho3 => ?_))
  refine vq rfl rfl (q_assign rfl) ?_
  refine vendW ?_
  refine vc_ret ?_
  rw [toB_len] at h7
  rw [← List.map_append, left_toB (by intro e; subst e; simp [wd] at h7)] at ho3
  exact ret1 rfl rfl ho3.le ho3.frz hk
end Go.Proofs.Ytpcpdepfnoijoaa
