/-
  Part of a proof: A size twice as great, one place lower, is packed as the same (slipsticklaw19.PackScaled).
-/
import Derived.Test.YtpcpdepfnoijoaaB5
set_option linter.unusedVariables false
namespace Go.Vc
def Gf (x y : Nat → Bool) (far j : Nat) : Bool := gen x y (j + 1 - min (j + 1) far) (min (j + 1) far)
def Pf (x y : Nat → Bool) (far j : Nat) : Bool := prp x y (j + 1 - min (j + 1) far) (min (j + 1) far)
theorem Gf_low (x y : Nat → Bool) {far j : Nat} (h : j < far) : Gf x y (far * 2) j = Gf x y far j := by
  unfold Gf; rw [Nat.min_eq_left (by omega), Nat.min_eq_left (by omega)]
theorem Pf_low (x y : Nat → Bool) {far j : Nat} (h : j < far) : Pf x y (far * 2) j = Pf x y far j := by
  unfold Pf; rw [Nat.min_eq_left (by omega), Nat.min_eq_left (by omega)]
theorem Gf_step (x y : Nat → Bool) {far j : Nat} (h0 : 0 < far) (h : far ≤ j) : Gf x y (far * 2) j = (Gf x y far j || (Pf x y far j && Gf x y far (j - far))) := by
  unfold Gf Pf
  rw [show min (j + 1) far = far by omega]
  have e1 : min (j + 1) (far * 2) = min (j - far + 1) far + far := by omega
  have e2 : j + 1 - min (j + 1) (far * 2) + min (j - far + 1) far = j + 1 - far := by omega
  have e3 : j - far + 1 - min (j - far + 1) far = j + 1 - min (j + 1) (far * 2) := by omega
  rw [e3, ← e2]
  generalize j + 1 - min (j + 1) (far * 2) = lo
  rw [e1, gen_add]
theorem Pf_step (x y : Nat → Bool) {far j : Nat} (h0 : 0 < far) (h : far ≤ j) : Pf x y (far * 2) j = (Pf x y far j && Pf x y far (j - far)) := by
  unfold Pf
  rw [show min (j + 1) far = far by omega]
  have e1 : min (j + 1) (far * 2) = min (j - far + 1) far + far := by omega
  have e2 : j + 1 - min (j + 1) (far * 2) + min (j - far + 1) far = j + 1 - far := by omega
  have e3 : j - far + 1 - min (j - far + 1) far = j + 1 - min (j + 1) (far * 2) := by omega
  rw [e3, ← e2]
  generalize j + 1 - min (j + 1) (far * 2) = lo
  rw [e1, prp_add]
theorem Gf_one (x y : Nat → Bool) (j : Nat) : Gf x y 1 j = (x j && y j) := by
  unfold Gf; rw [Nat.min_eq_right (by omega)]; simp [gen]
theorem Pf_one (x y : Nat → Bool) (j : Nat) : Pf x y 1 j = (x j ^^ y j) := by
  unfold Pf; rw [Nat.min_eq_right (by omega)]; simp [prp]
theorem Gf_all (x y : Nat → Bool) {far j : Nat} (h : j < far) : Gf x y far j = gen x y 0 (j + 1) := by
  unfold Gf; rw [Nat.min_eq_left (by omega), Nat.sub_self]
theorem Pf_all (x y : Nat → Bool) {far j : Nat} (h : j < far) : Pf x y far j = prp x y 0 (j + 1) := by
  unfold Pf; rw [Nat.min_eq_left (by omega), Nat.sub_self]
theorem car_of (x y : Nat → Bool) (c : Bool) {far at_ : Nat} (h0 : at_ ≠ 0) (h : at_ ≤ far) : (Gf x y far (at_ - 1) || (Pf x y far (at_ - 1) && c)) = car x y c at_ := by
  rw [Gf_all x y (by omega), Pf_all x y (by omega), show at_ - 1 + 1 = at_ by omega, car]
abbrev wb (v : Nat → Bool) (l : List Int) (i : Nat) : Bool := bv v (l.getD i default)
theorem wv_num' (v : Nat → Bool) (l : List Int) {L : Nat} (h : l.length = L) : wv v l = num (wb v l) L := by subst h; exact wv_num v l
theorem add_wv (v : Nat → Bool) {x y r : List Int} {c o : Bool} {L : Nat} (hx : x.length = L) (hy : y.length = L) (hr : r.length = L)
    (h : ∀ i, i < L → wb v r i = (wb v x i ^^ wb v y i ^^ car (wb v x) (wb v y) c i)) (ho : o = car (wb v x) (wb v y) c L) : wv v r + 2 ^ L * o.toNat = wv v x + wv v y + c.toNat := by
  rw [wv_num' v r hr, wv_num' v x hx, wv_num' v y hy, num_congr (y := fun i => wb v x i ^^ wb v y i ^^ car (wb v x) (wb v y) c i) h, ho]
  exact num_carry _ _ _ _
theorem pow_bd {e : Nat} (h : 2 ^ e ≤ 2000) : e ≤ 10 := by
  rcases Nat.lt_or_ge e 11 with h1 | h1
  · omega
  · have := Nat.pow_le_pow_right (n := 2) (by decide) h1
    omega
theorem xor0 {a b : Nat} : a ^^^ b = 0 ↔ a = b := by
  constructor
  · intro h
    apply Nat.eq_of_testBit_eq
    intro i
    have := congrArg (fun n => n.testBit i) h
    simp only [Nat.testBit_xor, Nat.zero_testBit] at this
    cases ha : a.testBit i <;> cases hb : b.testBit i <;> simp_all
  · intro h; subst h; exact Nat.xor_self a
theorem each_bit (v : Nat → Bool) {k : Int} {r l m : List Int} {j : Nat} (h : wv v r = gopN k (wv v l) (wv v m)) (h1 : j < r.length) (h2 : j < l.length) (h3 : j < m.length) : wb v r j = gop k (wb v l j) (wb v m j) := by
  have e := congrArg (fun n => n.testBit j) h
  simp only [gopN_bit] at e
  rw [wv_bit v r j h1, wv_bit v l j h2, wv_bit v m j h3] at e
  exact e
theorem c0_car (v : Nat → Bool) (c : Bool) {mk ps l m : List Int} {far at_ L : Nat} (h : ∀ j, j < L → wb v mk j = Gf (wb v l) (wb v m) far j ∧ wb v ps j = Pf (wb v l) (wb v m) far j) (h1 : at_ ≤ L) (h2 : at_ ≤ far) :
    (if at_ = 0 then c else (wb v mk (at_ - 1) || (wb v ps (at_ - 1) && c))) = car (wb v l) (wb v m) c at_ := by
  by_cases e : at_ = 0
  · rw [if_pos e, e, car_zero]
  · rw [if_neg e, (h (at_ - 1) (by omega)).1, (h (at_ - 1) (by omega)).2, car_of _ _ _ e h2]
end Go.Vc

set_option linter.unusedVariables false
set_option linter.unusedSimpArgs false
set_option maxRecDepth 100000
namespace Go.Proofs.Ytpcpdepfnoijoaa
open Go.Vc
theorem sameB {p : Nat} {F : List Nat} {nd : List Nd} {ins outs : List Pt} {s : St} {K : AV → St → Prop} (hp : s p = some (bld F nd ins outs)) (hw : WfB nd) (hn : nd.length + 5000 < 2^39) {x y : List Int} (hx : BW nd x) (hy : BW nd y) (hlx : x.length ≤ 1000) (hly : y.length ≤ 1000) (hk : ∀ F2 n2 o, Gr nd n2 5000 → B1 n2 o → (∀ v, Mod v n2 → bv v o = decide (wv v x = wv v y)) → K (.int o) (upd s p (bld F2 n2 ins outs))) : CallsA Try.prog 57 [ptv p 0, ints x, ints y] s K := by
  refine callsA_of Try.func57 rfl rfl (Nat.le_of_ble_eq_true rfl) ?_
  refine vc_seq ?_
  refine vc_regionW (qm 1) [0] rfl rfl ?_
  refine vq rfl rfl (q_assign rfl) ?_
  refine vendW ?_
  refine vc_seq ?_
  refine vc_regionW (qm 287) [0, 1, 2, 3, 4, 5, 6, 7, 8] rfl rfl ?_
  refine vq rfl rfl (q_move rfl) ?_
  refine vq rfl rfl (q_move rfl) ?_
  refine vq rfl rfl (q_move rfl) ?_
  refine vq rfl rfl (q_move rfl) ?_
  refine vq rfl rfl (q_move rfl) ?_
  refine ve rfl rfl (e_callF go91 rfl (eachB (k := 5) hp hw (by omega) hx hy hlx hly (fun F1 n1 l g1 b1 l1 v1 => ?_)))
  refine ve rfl rfl (e_callF go90 rfl (foldB (k := 4) (upd_same _ _ _) g1.wf (by have := g1.len; omega) b1 (by omega) (fun F2 n2 o g2 b2 v2 => ?_)))
  refine ve rfl rfl (e_callF go89 rfl (notB (upd_same _ _ _) g2.wf (by have := g1.len; have := g2.len; omega) b2 (fun F3 n3 q g3 b3 v3 => ?_)))
  refine vq rfl rfl (q_assign rfl) ?_
  refine vendW ?_
  refine vc_ret ?_
  exact ret1 rfl rfl (by simp only [upd_upd]; exact Le.refl _) (Cv.le (by simp only [upd_upd]; exact Le.refl _) _) (hk F3 n3 q ((g1.trans g2 (Nat.le_refl _)).trans g3 (by omega)) b3 (fun v hv => by
    rw [v3 v hv, v2 v (hv.gr g3), gall_or, v1 v ((hv.gr g3).gr g2), show gopN 5 = fun a b => a ^^^ b from rfl]
    by_cases h : wv v x = wv v y <;> simp [h, xor0]))
theorem levelB {p : Nat} {F : List Nat} {nd : List Nd} {ins outs : List Pt} {s : St} {K : AV → St → Prop} (hp : s p = some (bld F nd ins outs)) (hw : WfB nd) (hn : nd.length + 2000 < 2^39) {x y : List Int} (hx : BW nd x) (hy : BW nd y) (hlx : x.length ≤ 1000) (hly : y.length ≤ 1000) (hk : ∀ F2 n2 l m, Gr nd n2 2000 → BW n2 l → BW n2 m → l.length = max x.length y.length → m.length = max x.length y.length → (∀ v, Mod v n2 → wv v l = wv v x ∧ wv v m = wv v y) → K (.tup [ints l, ints m]) (upd s p (bld F2 n2 ins outs))) : CallsA Try.prog 151 [ptv p 0, ints x, ints y] s K := by
  refine callsA_of Try.func151 rfl rfl (Nat.le_of_ble_eq_true rfl) ?_
  refine vc_seq ?_
  refine vc_regionW (qm 3) [0, 1] rfl rfl ?_
  refine vq rfl rfl (q_assign rfl) ?_
  refine vq rfl rfl (q_assign rfl) ?_
  refine vendW ?_
  refine vc_seq ?_
  refine vc_regionW (qm 63) [0, 1, 2, 3, 4, 5] rfl rfl ?_
  refine vq rfl rfl (q_move rfl) ?_
  refine vq rfl rfl (q_len sl40 rfl (by first | exact lenM | rfl)) ?_
  refine vq rfl rfl (q_move rfl) ?_
  refine vq rfl rfl (q_len sl40 rfl (by first | exact lenM | rfl)) ?_
  refine vq rfl rfl (q_maxN rfl rfl) ?_
  refine vq rfl rfl (q_assign rfl) ?_
  refine vendW ?_
  refine vc_seq ?_
  refine vc_regionW (qm 887) [0, 1, 2, 3, 4, 5, 6, 7, 8, 9] rfl rfl ?_
  refine vq rfl rfl (q_move rfl) ?_
  refine vq rfl rfl (q_move rfl) ?_
  refine vq rfl rfl (q_move rfl) ?_
  refine ve rfl rfl (e_callF go55 rfl (padF (x := x) (w := max x.length y.length) hp hw (by omega) hx (by omega) (by omega) (fun F1 n1 l g1 b1 l1 v1 => ?_)))
  refine vq rfl rfl (q_move rfl) ?_
  refine vq rfl rfl (q_move rfl) ?_
  refine vq rfl rfl (q_move rfl) ?_
  refine ve rfl rfl (e_callF go55 rfl (padF (x := y) (w := max x.length y.length) (upd_same _ _ _) g1.wf (by have := g1.len; omega) (hy.gr g1) (by omega) (by omega) (fun F2 n2 m g2 b2 l2 v2 => ?_)))
  refine vq rfl rfl (q_assign rfl) ?_
  refine vq rfl rfl (q_assign rfl) ?_
  refine vendW ?_
  refine vc_ret ?_
  exact ret2 rfl rfl rfl (by simp only [upd_upd]; exact Le.refl _) (Cv.le (by simp only [upd_upd]; exact Le.refl _) _) (Cv.le (by simp only [upd_upd]; exact Le.refl _) _) (hk F2 n2 l m (g1.trans g2 (by omega)) (b1.gr g2) b2 l1 l2 (fun v hv => ⟨by rw [v1 v (hv.gr g2), wv_modL v (by omega)], by rw [v2 v hv, wv_modL v (by omega)]⟩))
theorem c0B {p : Nat} {F : List Nat} {nd : List Nd} {ins outs : List Pt} {s : St} {K : AV → St → Prop} (hp : s p = some (bld F nd ins outs)) (hw : WfB nd) (hn : nd.length + 2 < 2^39) {mk ps : List Int} {c : Int} {at_ : Nat} (hmk : BW nd mk) (hps : BW nd ps) (hc : B1 nd c) (ha : at_ ≤ mk.length) (ha2 : at_ ≤ ps.length) (hl : mk.length < 2^40) (hk : ∀ F2 n2 o, Gr nd n2 2 → B1 n2 o → (∀ v, Mod v n2 → bv v o = if at_ = 0 then bv v c else (wb v mk (at_ - 1) || (wb v ps (at_ - 1) && bv v c))) → K (.int o) (upd s p (bld F2 n2 ins outs))) : CallsA Try.prog 153 [ptv p 0, ints mk, ints ps, .int c, .int (at_ : Int)] s K := by
  refine callsA_of Try.func153 rfl rfl (Nat.le_of_ble_eq_true rfl) ?_
  refine vc_seq ?_
  refine vc_regionW (qm 1) [0] rfl rfl ?_
  refine vq rfl rfl (q_assign rfl) ?_
  refine vendW ?_
  refine vc_seq ?_
  refine vc_seq ?_
  refine vc_regionW (qm 3) [0, 1] rfl rfl ?_
  refine vq rfl rfl (q_move rfl) ?_
  refine vq rfl rfl (q_eq rfl rfl) ?_
  refine vendW ?_
  refine vc_condD rfl (fun h12 => ?_) (fun h12 => ?_)
  ·
    refine vc_seq ?_
    refine vc_regionW (qm 3) [0, 1] rfl rfl ?_
    refine vq rfl rfl (q_move rfl) ?_
    refine vq rfl rfl (q_assign rfl) ?_
    refine vendW ?_
    refine vc_ret ?_
    have e : at_ = 0 := by omega
    exact ret1 rfl rfl (Le.refl _) (Cv.le (Le.refl _) _) (by have h := hk F nd c (Gr.refl hw _) hc (fun v hv => by rw [if_pos e]); rwa [upd_self _ _ _ hp] at h)
  refine vc_skip ?_
  refine vc_seq ?_
  refine vc_regionDW mx (qm 40959) [0, 1, 2, 3, 4, 5, 6, 7, 8, 9, 10, 11, 12, 13, 14, 15] (by kernel_rfl) ?_
  refine vq rfl rfl (q_move rfl) ?_
  refine vq rfl rfl (q_move rfl) ?_
  refine vq rfl rfl (q_move rfl) ?_
  refine vq rfl rfl (q_sub rfl rfl (show _ = ((at_ - 1 : Nat) : Int) by rw [w64 (by omega)]; omega)) ?_
  refine vq rfl rfl (q_index sl40 rfl rfl (by omega) (by first | exact nthI (by omega) | exact nthM (by omega))) ?_
  refine vq rfl rfl (q_load sc3 rfl) ?_
  refine vq rfl rfl (q_move rfl) ?_
  refine vq rfl rfl (q_move rfl) ?_
  refine vq rfl rfl (q_move rfl) ?_
  refine vq rfl rfl (q_sub rfl rfl (show _ = ((at_ - 1 : Nat) : Int) by rw [w64 (by omega)]; omega)) ?_
  refine vq rfl rfl (q_index sl40 rfl rfl (by omega) (by first | exact nthI (by omega) | exact nthM (by omega))) ?_
  refine vq rfl rfl (q_load sc3 rfl) ?_
  refine vq rfl rfl (q_move rfl) ?_
  refine ve rfl rfl (e_callF go103 rfl (andB hp hw (by omega) (hps.get (by omega)) hc (fun F1 n1 o1 g1 b1 v1 => ?_)))
  refine ve rfl rfl (e_callF go102 rfl (orB (upd_same _ _ _) g1.wf (by have := g1.len; omega) ((hmk.get (i := at_ - 1) (by omega)).gr g1) b1 (fun F2 n2 o2 g2 b2 v2 => ?_)))
  refine vq rfl rfl (q_assign rfl) ?_
  refine vendW ?_
  refine vc_ret ?_
  have e : at_ ≠ 0 := by omega
  exact ret1 rfl rfl (by simp only [upd_upd]; exact Le.refl _) (Cv.le (by simp only [upd_upd]; exact Le.refl _) _) (hk F2 n2 o2 (g1.trans g2 (by omega)) b2 (fun v hv => by rw [if_neg e, v2 v hv, v1 v (hv.gr g2)]))
end Go.Proofs.Ytpcpdepfnoijoaa

set_option linter.unusedVariables false
set_option linter.unusedSimpArgs false
set_option maxRecDepth 100000
namespace Go.Proofs.Ytpcpdepfnoijoaa
open Go.Vc
structure PO where
  e : Nat
  mq : List Int
  ps : List Int
  F : List Nat
  n : List Nd
structure PI where
  i : Nat
  lm : List Int
  lp : List Int
  F : List Nat
  n : List Nd
  st1 : St
  st2 : St
structure POok (nd : List Nd) (l m : List Int) (a : PO) : Prop where
  he : 2 ^ a.e ≤ 2000
  lm : a.mq.length = l.length
  lp : a.ps.length = l.length
  g : Gr nd a.n (a.e * 3000)
  bm : BW a.n a.mq
  bp : BW a.n a.ps
  v : ∀ v, Mod v a.n → ∀ j, j < l.length → wb v a.mq j = Gf (wb v l) (wb v m) (2 ^ a.e) j ∧ wb v a.ps j = Pf (wb v l) (wb v m) (2 ^ a.e) j
structure PIok (s : St) (p : Nat) (ins outs : List Pt) (nd : List Nd) (l m : List Int) (far k1 k2 : Nat) (b : PI) : Prop where
  h1 : far ≤ b.i
  h2 : b.i ≤ l.length
  lm : b.lm.length = l.length
  lp : b.lp.length = l.length
  o1 : OwnSt (upd s p (bld b.F b.n ins outs)) (.hdr k1 1 l.length) 3 1 (b.lm.map eI) b.st1
  o2 : OwnSt b.st1 (.hdr k2 1 l.length) 3 1 (b.lp.map eI) b.st2
  g : Gr nd b.n (3 * b.i)
  bm : BW b.n b.lm
  bp : BW b.n b.lp
  v : ∀ v, Mod v b.n → ∀ j, j < l.length → wb v b.lm j = (if j < b.i then Gf (wb v l) (wb v m) (far * 2) j else Gf (wb v l) (wb v m) far j) ∧ wb v b.lp j = (if j < b.i then Pf (wb v l) (wb v m) (far * 2) j else Pf (wb v l) (wb v m) far j)
theorem PIok.p1 {s : St} {p : Nat} {ins outs : List Pt} {nd : List Nd} {l m : List Int} {far k1 k2 : Nat} {b : PI} (h : PIok s p ins outs nd l m far k1 k2 b) : b.st1 p = some (bld b.F b.n ins outs) := h.o1.get (upd_same _ _ _)
theorem PIok.p2 {s : St} {p : Nat} {ins outs : List Pt} {nd : List Nd} {l m : List Int} {far k1 k2 : Nat} {b : PI} (h : PIok s p ins outs nd l m far k1 k2 b) : b.st2 p = some (bld b.F b.n ins outs) := h.o2.get h.p1
theorem PIok.ne {s : St} {p : Nat} {ins outs : List Pt} {nd : List Nd} {l m : List Int} {far k1 k2 : Nat} {b : PI} (h : PIok s p ins outs nd l m far k1 k2 b) : k1 ≠ p := fun e => by
  have h1 := h.o1.cell
  rw [e, h.p1] at h1; cases h1
theorem PIok.q1 {s : St} {p : Nat} {ins outs : List Pt} {nd : List Nd} {l m : List Int} {far k1 k2 : Nat} {b : PI} (h : PIok s p ins outs nd l m far k1 k2 b) (r : Res) : OwnSt (upd s p r) (.hdr k1 1 l.length) 3 1 (b.lm.map eI) (upd b.st1 p r) := h.o1.put
theorem PIok.q2 {s : St} {p : Nat} {ins outs : List Pt} {nd : List Nd} {l m : List Int} {far k1 k2 : Nat} {b : PI} (h : PIok s p ins outs nd l m far k1 k2 b) (r : Res) : OwnSt (upd b.st1 p r) (.hdr k2 1 l.length) 3 1 (b.lp.map eI) (upd b.st2 p r) := h.o2.other h.p1
theorem PIok.q3 {s : St} {p : Nat} {ins outs : List Pt} {nd : List Nd} {l m : List Int} {far k1 k2 : Nat} {b : PI} (h : PIok s p ins outs nd l m far k1 k2 b) (r r2 : Res) (xs : List (List AV)) :
    OwnSt (upd (upd (upd b.st1 p r) k1 (.arr 3 1 xs)) p r2) (.hdr k2 1 l.length) 3 1 (b.lp.map eI) (upd (upd (upd b.st2 p r) k1 (.arr 3 1 xs)) p r2) :=
  ((h.q2 r).other (h.q1 r).cell).other (by rw [upd_ne _ _ (Ne.symm h.ne)]; exact upd_same _ _ _)
theorem prefixB {p : Nat} {F : List Nat} {nd : List Nd} {ins outs : List Pt} {s : St} {K : AV → St → Prop} (hp : s p = some (bld F nd ins outs)) (hw : WfB nd) (hn : nd.length + 65536 < 2^39) {x y : List Int} (hx : BW nd x) (hy : BW nd y) (hlx : x.length ≤ 1000) (hly : y.length ≤ 1000) {c : Int} (hc : B1 nd c) (hk : ∀ F2 n2 l co, Gr nd n2 65536 → BW n2 l → B1 n2 co → l.length = max x.length y.length → (∀ v, Mod v n2 → wv v l + 2 ^ (max x.length y.length) * (bv v co).toNat = wv v x + wv v y + (bv v c).toNat) → K (.tup [ints l, .int co]) (upd s p (bld F2 n2 ins outs))) : CallsA Try.prog 104 [ptv p 0, ints x, ints y, .int c] s K := by
  refine callsA_of Try.func104 rfl rfl (Nat.le_of_ble_eq_true rfl) ?_
  refine vc_seq ?_
  refine vc_regionW (qm 3) [0, 1] rfl rfl ?_
  refine vq rfl rfl (q_assign rfl) ?_
  refine vq rfl rfl (q_assign rfl) ?_
  refine vendW ?_
  refine vc_seq ?_
  refine vc_regionW (qm 503) [0, 1, 2, 3, 4, 5, 6, 7, 8] rfl rfl ?_
  refine vq rfl rfl (q_move rfl) ?_
  refine vq rfl rfl (q_move rfl) ?_
  refine vq rfl rfl (q_move rfl) ?_
  refine ve rfl rfl (e_callF go151 rfl (levelB hp hw (by omega) hx hy hlx hly (fun F1 n1 l m g1 bl bm ll lm vv => ?_)))
  refine vq rfl rfl (q_move rfl) ?_
  refine vq rfl rfl (q_extract rfl rfl) ?_
  refine vq rfl rfl (q_extract rfl rfl) ?_
  refine vq rfl rfl (q_assign rfl) ?_
  refine vq rfl rfl (q_assign rfl) ?_
  refine vendW ?_
  refine vc_seq ?_
  refine vc_regionW (qm 23) [0, 1, 2, 3, 4] rfl rfl ?_
  refine vq rfl rfl (q_move rfl) ?_
  refine vq rfl rfl (q_move rfl) ?_
  refine vq rfl rfl (q_move rfl) ?_
  refine ve rfl rfl (e_callF go91 rfl (eachB (k := 5) (upd_same _ _ _) g1.wf (by have := g1.len; omega) bl bm (by omega) (by omega) (fun F2 n2 hf g2 bhf lhf vhf => ?_)))
  refine vq rfl rfl (q_assign rfl) ?_
  refine vendW ?_
  refine vc_seq ?_
  refine vc_regionW (qm 247) [0, 1, 2, 3, 4, 5, 6, 7] rfl rfl ?_
  refine vq rfl rfl (q_move rfl) ?_
  refine vq rfl rfl (q_move rfl) ?_
  refine vq rfl rfl (q_move rfl) ?_
  refine ve rfl rfl (e_callF go91 rfl (eachB (k := 3) (upd_same _ _ _) g2.wf (by have := g1.len; have := g2.len; omega) (bl.gr g2) (bm.gr g2) (by omega) (by omega) (fun F3 n3 mk0 g3 bmk0 lmk0 vmk0 => ?_)))
  refine vq rfl rfl (q_move rfl) ?_
  refine vq rfl rfl (q_callF go54 rfl (fun s => cloneI (l := hf) (by omega) ⟨rfl, rfl⟩)) ?_
  refine vq rfl rfl (q_assign rfl) ?_
  refine vq rfl rfl (q_assign rfl) ?_
  refine vendW ?_
  have hll : hf.length = l.length := by omega
  have hgl1 := g1.len
  have hgl2 := g2.len
  have hgl3 := g3.len
  refine vc_seq ?_
  refine vc_seq ?_
  refine vc_regionW (qm 1) [0] rfl rfl ?_
  refine vq rfl rfl (q_assign rfl) ?_
  refine vendW ?_
  refine vc_block ?_
  refine vc_loopS (α := PO) [11, 12, 13, 14, 15, 16, 36, 37, 38, 39, 40, 41, 42, 43, 44, 45, 46, 47, 48, 49, 50, 51, 52, 53, 54, 55, 56, 57, 58, 59, 60, 61, 62, 63, 64, 65, 66, 67, 68, 69, 70, 71, 72, 73, 74, 75, 76, 77, 78, 79, 80, 81, 82, 83, 84, 85, 86, 87, 88, 89, 90] (fun a => [(13, .int ((2 ^ a.e : Nat) : Int)), (11, ints a.mq), (12, ints a.ps)]) (fun a => upd s p (bld a.F a.n ins outs)) (fun a => POok n3 l m a) (fun a => l.length - 2 ^ a.e) ⟨0, mk0, hf, F3, n3⟩ ⟨by simp, by simp only; omega, by simp only; omega, Gr.refl g3.wf _, bmk0, bhf.gr g3, fun v hv j hj => ⟨by show wb v mk0 j = Gf _ _ 1 j; rw [Gf_one]; exact each_bit v (k := 3) (vmk0 v hv) (by omega) (by omega) (by omega), by show wb v hf j = Pf _ _ 1 j; rw [Pf_one]; exact each_bit v (k := 5) (vhf v (hv.gr g3)) (by omega) (by omega) (by omega)⟩⟩ (by simp only [upd_upd]) ⟨rfl, rfl, rfl, trivial⟩ (fun _ => rfl) ?_
  intro a ha
  have he10 := pow_bd ha.he
  have hgl := ha.g.len
  have hml := ha.lm
  have hpl := ha.lp
  refine vc_seq ?_
  refine vc_seq ?_
  refine vc_regionW (qm 15) [0, 1, 2, 3] rfl rfl ?_
  refine vq rfl rfl (q_move rfl) ?_
  refine vq rfl rfl (q_move rfl) ?_
  refine vq rfl rfl (q_len sl40 rfl (by first | exact lenM | rfl)) ?_
  refine vq rfl rfl (q_lt rfl rfl) ?_
  refine vendW ?_
  refine vc_condD rfl (fun h39 => ?_) (fun h39 => ?_)
  ·
    refine vc_skip ?_
    refine vc_seq ?_
    refine vc_block ?_
    refine vc_seq ?_
    refine vc_regionW (qm 53) [0, 1, 2, 3, 4, 5] rfl rfl ?_
    refine vq rfl rfl (q_move rfl) ?_
    refine ve rfl rfl (e_callF go54 rfl (cloneIO (l := a.mq) (by have := ha.lm; omega) (fun zm st1 ho1 => ?_)))
    refine vq rfl rfl (q_move rfl) ?_
    refine ve rfl rfl (e_callF go54 rfl (cloneIO (l := a.ps) (by have := ha.lp; omega) (fun zp st2 ho2 => ?_)))
    refine vq rfl rfl (q_assign rfl) ?_
    refine vq rfl rfl (q_assign rfl) ?_
    refine vendW ?_
    refine vc_seq ?_
    refine vc_seq ?_
    have hL : 2 ^ a.e < l.length := by omega
    have h2e : 0 < 2 ^ a.e := Nat.pow_pos (by decide)
    have hml := ha.lm
    have hpl := ha.lp
    obtain ⟨k1, hz1, _⟩ := ho1.pos (by rw [List.length_map]; omega)
    rw [List.length_map, hml] at hz1
    subst hz1
    obtain ⟨k2, hz2, _⟩ := ho2.pos (by rw [List.length_map]; omega)
    rw [List.length_map, hpl] at hz2
    subst hz2
    refine vc_regionW (qm 3) [0, 1] rfl rfl ?_
    refine vq rfl rfl (q_move rfl) ?_
    refine vq rfl rfl (q_assign rfl) ?_
    refine vendW ?_
    refine vc_block ?_
    refine vc_loopS (α := PI) [16, 47, 48, 49, 50, 51, 52, 53, 54, 55, 56, 57, 58, 59, 60, 61, 62, 63, 64, 65, 66, 67, 68, 69, 70, 71, 72, 73, 74, 75, 76, 77, 78, 79, 80, 81, 82, 83, 84, 85, 86, 87, 88] (fun b => [(16, .int (b.i : Int))]) (fun b => b.st2) (fun b => PIok s p ins outs a.n l m (2 ^ a.e) k1 k2 b) (fun b => l.length - b.i) ⟨2 ^ a.e, a.mq, a.ps, a.F, a.n, st1, st2⟩ ⟨Nat.le_refl _, by simp only; omega, hml, hpl, ho1, ho2, Gr.refl ha.g.wf _, ha.bm, ha.bp, fun v hv j hj => by
    have h := ha.v v hv j hj
    by_cases e : j < 2 ^ a.e
    · rw [if_pos e, if_pos e, Gf_low _ _ e, Pf_low _ _ e]; exact h
    · rw [if_neg e, if_neg e]; exact h⟩ rfl ⟨rfl, trivial⟩ (fun _ => rfl) ?_
    intro b hb
    refine vc_seq ?_
    refine vc_seq ?_
    refine vc_regionW (qm 15) [0, 1, 2, 3] rfl rfl ?_
    refine vq rfl rfl (q_move rfl) ?_
    refine vq rfl rfl (q_move rfl) ?_
    refine vq rfl rfl (q_len sl40 rfl (by first | exact lenM | rfl)) ?_
    refine vq rfl rfl (q_lt rfl rfl) ?_
    refine vendW ?_
    refine vc_condD rfl (fun h50 => ?_) (fun h50 => ?_)
    ·
      refine vc_skip ?_
      refine vc_seq ?_
      refine vc_block ?_
      refine vc_seq ?_
      have h1 := hb.h1
      have h2 := hb.h2
      have hbl := hb.lm
      have hbp := hb.lp
      have hgl := hb.g.len
      have hil : b.i < l.length := by omega
      refine vc_regionDW mx (qm 1310719) [0, 1, 2, 3, 4, 5, 6, 7, 8, 9, 10, 11, 12, 13, 14, 15, 16, 17, 18, 19, 20, 21] (by kernel_rfl) ?_
      refine vq rfl rfl (q_move rfl) ?_
      refine vq rfl rfl (q_move rfl) ?_
      refine vq rfl rfl (q_move rfl) ?_
      refine vq rfl rfl (q_move rfl) ?_
      refine vq rfl rfl (q_move rfl) ?_
      refine vq rfl rfl (q_index sl40 rfl rfl (by omega) (by first | exact nthI (by omega) | exact nthM (by omega))) ?_
      refine vq rfl rfl (q_load sc3 rfl) ?_
      refine vq rfl rfl (q_move rfl) ?_
      refine vq rfl rfl (q_move rfl) ?_
      refine vq rfl rfl (q_move rfl) ?_
      refine vq rfl rfl (q_index sl40 rfl rfl (by omega) (by first | exact nthI (by omega) | exact nthM (by omega))) ?_
      refine vq rfl rfl (q_load sc3 rfl) ?_
      refine vq rfl rfl (q_move rfl) ?_
      refine vq rfl rfl (q_move rfl) ?_
      refine vq rfl rfl (q_move rfl) ?_
      refine vq rfl rfl (q_sub rfl rfl (show _ = ((b.i - 2 ^ a.e : Nat) : Int) by rw [w64 (by omega)]; omega)) ?_
      refine vq rfl rfl (q_index sl40 rfl rfl (by omega) (by first | exact nthI (by omega) | exact nthM (by omega))) ?_
      refine vq rfl rfl (q_load sc3 rfl) ?_
      refine ve rfl rfl (e_callF go103 rfl (andB hb.p2 hb.g.wf (by omega) ((ha.bp.get (i := b.i) (by omega)).gr hb.g) ((ha.bm.get (i := b.i - 2 ^ a.e) (by omega)).gr hb.g) (fun F5 n5 o1 g5 b5 v5 => ?_)))
      refine ve rfl rfl (e_callF go102 rfl (orB (upd_same _ _ _) g5.wf (by have := g5.len; omega) (((ha.bm.get (i := b.i) (by omega)).gr hb.g).gr g5) b5 (fun F6 n6 o2 g6 b6 v6 => ?_)))
      refine vq rfl rfl (q_indexH sl40 rfl rfl (by omega) (by omega)) ?_
      refine vn rfl rfl (e_storeE sz3 rfl rfl rfl (by rw [upd_upd]; exact (hb.q2 _).get (hb.q1 _).cell) (nthM (by omega)) rfl ?_)
      refine vendW ?_
      rw [upd_upd]
      refine vc_regionDW mx (qm 24575) [0, 1, 2, 3, 4, 5, 6, 7, 8, 9, 10, 11, 12, 13, 14, 15] (by kernel_rfl) ?_
      refine vq rfl rfl (q_move rfl) ?_
      refine vq rfl rfl (q_move rfl) ?_
      refine vq rfl rfl (q_move rfl) ?_
      refine vq rfl rfl (q_move rfl) ?_
      refine vq rfl rfl (q_move rfl) ?_
      refine vq rfl rfl (q_index sl40 rfl rfl (by omega) (by first | exact nthI (by omega) | exact nthM (by omega))) ?_
      refine vq rfl rfl (q_load sc3 rfl) ?_
      refine vq rfl rfl (q_move rfl) ?_
      refine vq rfl rfl (q_move rfl) ?_
      refine vq rfl rfl (q_move rfl) ?_
      refine vq rfl rfl (q_sub rfl rfl (show _ = ((b.i - 2 ^ a.e : Nat) : Int) by rw [w64 (by omega)]; omega)) ?_
      refine vq rfl rfl (q_index sl40 rfl rfl (by omega) (by first | exact nthI (by omega) | exact nthM (by omega))) ?_
      refine vq rfl rfl (q_load sc3 rfl) ?_
      refine ve rfl rfl (e_callF go103 rfl (andB (by rw [upd_ne _ _ (Ne.symm hb.ne)]; exact upd_same _ _ _) g6.wf (by have := g5.len; have := g6.len; omega) ((((ha.bp.get (i := b.i) (by omega)).gr hb.g).gr g5).gr g6) ((((ha.bp.get (i := b.i - 2 ^ a.e) (by omega)).gr hb.g).gr g5).gr g6) (fun F7 n7 o3 g7 b7 v7 => ?_)))
      refine vq rfl rfl (q_indexH sl40 rfl rfl (by omega) (by omega)) ?_
      refine vn rfl rfl (e_storeE sz3 rfl rfl rfl (hb.q3 _ _ _).cell (nthM (by omega)) rfl ?_)
      refine vendW ?_
      refine vc_regionW (qm 7) [0, 1, 2] rfl rfl ?_
      refine vq rfl rfl (q_move rfl) ?_
      refine vq rfl rfl (q_add rfl rfl (w64 (by omega))) ?_
      refine vq rfl rfl (q_assign rfl) ?_
      refine vendW ?_
      have HN : PIok s p ins outs a.n l m (2 ^ a.e) k1 k2 ⟨b.i + 1, b.lm.set b.i o2, b.lp.set b.i o3, F7, n7, upd (upd (upd b.st1 p (bld F6 n6 ins outs)) k1 (.arr 3 1 ((b.lm.set b.i o2).map eI))) p (bld F7 n7 ins outs), upd (upd (upd (upd b.st2 p (bld F6 n6 ins outs)) k1 (.arr 3 1 ((b.lm.set b.i o2).map eI))) p (bld F7 n7 ins outs)) k2 (.arr 3 1 ((b.lp.set b.i o3).map eI))⟩ := by
        refine ⟨by simp only; omega, by simp only; omega, by simp only [List.length_set]; exact hbl, by simp only [List.length_set]; exact hbp, ((hb.q1 _).set (by simp)).put, (hb.q3 _ _ _).set (by simp), ((hb.g.trans g5 (Nat.le_refl _)).trans g6 (Nat.le_refl _)).trans g7 (by simp only; omega), ((hb.bm.gr g5).gr g6 |>.gr g7).set (b6.gr g7) _, (((hb.bp.gr g5).gr g6).gr g7).set b7 _, fun v hv j hj => ?_⟩
        have hv6 := hv.gr g7
        have hv5 := hv6.gr g6
        have hv4 := hv5.gr g5
        have A := ha.v v (hv4.gr hb.g)
        have B := hb.v v hv4 j hj
        by_cases e : j = b.i
        · subst e
          obtain ⟨A1, A2⟩ := A b.i hj
          obtain ⟨A3, A4⟩ := A (b.i - 2 ^ a.e) (by omega)
          rw [if_pos (by simp only; omega), if_pos (by simp only; omega), Gf_step _ _ h2e (by omega), Pf_step _ _ h2e (by omega), ← A1, ← A2, ← A3, ← A4]
          refine ⟨?_, ?_⟩
          · simp only [wb]; rw [getD_setS (by omega), v6 v hv6, v5 v hv5]
          · simp only [wb]; rw [getD_setS (by omega), v7 v hv]
        · simp only [wb]
          rw [getD_setN (fun h => e h.symm), getD_setN (fun h => e h.symm)]
          simp only [wb] at B
          rw [B.1, B.2]
          by_cases e2 : j < b.i
          · rw [if_pos e2, if_pos e2, if_pos (by omega), if_pos (by omega)]; exact ⟨rfl, rfl⟩
          · rw [if_neg e2, if_neg e2, if_neg (by omega), if_neg (by omega)]; exact ⟨rfl, rfl⟩
      refine ⟨⟨b.i + 1, b.lm.set b.i o2, b.lp.set b.i o3, F7, n7, upd (upd (upd b.st1 p (bld F6 n6 ins outs)) k1 (.arr 3 1 ((b.lm.set b.i o2).map eI))) p (bld F7 n7 ins outs), upd (upd (upd (upd b.st2 p (bld F6 n6 ins outs)) k1 (.arr 3 1 ((b.lm.set b.i o2).map eI))) p (bld F7 n7 ins outs)) k2 (.arr 3 1 ((b.lp.set b.i o3).map eI))⟩, HN, by simp only; omega, ?_, ⟨rfl, trivial⟩, (by rw [List.map_set, List.map_set]; rfl)⟩
      repeat (first | exact Same.refl | refine Same.upd rfl ?_ | refine Same.drop rfl ?_)
    refine vc_exit ?_
    refine vc_frz (i := 15) hb.o2 rfl ?_
    refine vc_frz (i := 14) hb.o1 rfl ?_
    refine vc_regionW (qm 15) [0, 1, 2, 3] rfl rfl ?_
    refine vq rfl rfl (q_move rfl) ?_
    refine vq rfl rfl (q_move rfl) ?_
    refine vq rfl rfl (q_assign rfl) ?_
    refine vq rfl rfl (q_assign rfl) ?_
    refine vendW ?_
    refine vc_regionW (qm 7) [0, 1, 2] rfl rfl ?_
    refine vq rfl rfl (q_move rfl) ?_
    refine vq rfl rfl (q_mul rfl rfl (w64 (by omega))) ?_
    refine vq rfl rfl (q_assign rfl) ?_
    refine vendW ?_
    have hbe : b.i = l.length := by have := hb.h2; omega
    have HN : POok n3 l m ⟨a.e + 1, b.lm, b.lp, b.F, b.n⟩ := ⟨by simp only [Nat.pow_succ]; omega, hb.lm, hb.lp, ha.g.trans hb.g (by simp only; omega), hb.bm, hb.bp, fun v hv j hj => by have h := hb.v v hv j hj; rw [if_pos (by omega), if_pos (by omega)] at h; simp only [Nat.pow_succ]; exact h⟩
    refine ⟨⟨a.e + 1, b.lm, b.lp, b.F, b.n⟩, HN, by have := Nat.pow_lt_pow_succ (a := 2) (n := a.e) (by decide); simp only; omega, ?_, ⟨(congrArg (fun z : Int => some (AV.int z)) (by simp only [Nat.pow_succ]; push_cast; rfl)), rfl, rfl, trivial⟩, rfl⟩
    repeat (first | exact Same.refl | refine Same.upd rfl ?_ | refine Same.drop rfl ?_)
  refine vc_exit ?_
  refine vc_seq ?_
  refine vc_regionW (qm 1) [0] rfl rfl ?_
  refine vq rfl rfl (q_assign rfl) ?_
  refine vendW ?_
  refine vc_seq ?_
  refine vc_seq ?_
  refine vc_regionW (qm 7) [0, 1, 2] rfl rfl ?_
  refine vq rfl rfl (q_move rfl) ?_
  refine vq rfl rfl (q_len sl40 rfl (by first | exact lenM | rfl)) ?_
  refine vq rfl rfl (q_move rfl) ?_
  refine vendW ?_
  refine vc_block ?_
  refine vc_loopS (α := LB) [17, 18, 93, 94, 95, 96, 97, 98, 99, 100, 101, 102, 103, 104, 105, 106, 107, 108, 109, 110, 111] (fun d => [(93, .int (d.i : Int)), (17, d.x)]) (fun d => d.st) (fun d => ((d.i ≤ l.length ∧ d.l.length = d.i) ∧ (∀ v, Mod v d.n → ∀ j, j < d.i → wb v d.l j = (wb v l j ^^ wb v m j ^^ car (wb v l) (wb v m) (bv v c) j))) ∧ LBok s p ins outs a.n (3 * d.i) d) (fun d => l.length - d.i) ⟨0, nilS, [], a.F, a.n, upd s p (bld a.F a.n ins outs)⟩ ⟨⟨⟨by simp, rfl⟩, fun v _ j hj => by simp at hj⟩, ⟨OwnSt.nil _ _ _, Gr.refl ha.g.wf _, BW.nil⟩⟩ rfl ⟨rfl, rfl, trivial⟩ (fun _ => rfl) ?_
  intro d ⟨⟨⟨hdi, hdl⟩, hdv⟩, hok⟩
  refine vc_seq ?_
  refine vc_regionW (qm 1) [0] rfl rfl ?_
  refine vq rfl rfl (q_lt rfl rfl) ?_
  refine vendW ?_
  refine vc_seq ?_
  refine vc_condD rfl (fun h94 => ?_) (fun h94 => ?_)
  ·
    refine vc_skip ?_
    refine vc_seq ?_
    refine vc_block ?_
    refine vc_seq ?_
    refine vc_regionW (qm 3) [0, 1] rfl rfl ?_
    refine vq rfl rfl (q_move rfl) ?_
    refine vq rfl rfl (q_assign rfl) ?_
    refine vendW ?_
    have hol := hok.g.len
    refine vc_regionDW mx (qm 43007) [0, 1, 2, 3, 4, 5, 6, 7, 8, 9, 10, 11, 12, 13, 14, 15] (by kernel_rfl) ?_
    refine vq rfl rfl (q_move rfl) ?_
    refine vq rfl rfl (q_move rfl) ?_
    refine vq rfl rfl (q_move rfl) ?_
    refine vq rfl rfl (q_move rfl) ?_
    refine vq rfl rfl (q_index sl40 rfl rfl (by omega) (by first | exact nthI (by omega) | exact nthM (by omega))) ?_
    refine vq rfl rfl (q_load sc3 rfl) ?_
    refine vq rfl rfl (q_move rfl) ?_
    refine vq rfl rfl (q_move rfl) ?_
    refine vq rfl rfl (q_move rfl) ?_
    refine vq rfl rfl (q_move rfl) ?_
    refine vq rfl rfl (q_move rfl) ?_
    refine ve rfl rfl (e_callF go153 rfl (c0B (mk := a.mq) (ps := a.ps) (at_ := d.i) hok.hp hok.g.wf (by omega) (ha.bm.gr hok.g) (ha.bp.gr hok.g) ((((hc.gr g1).gr g2).gr g3).gr (ha.g) |>.gr hok.g) (by omega) (by omega) (by omega) (fun F5 n5 o1 g5 b5 v5 => ?_)))
    refine ve rfl rfl (e_callF go152 rfl (xorB (upd_same _ _ _) g5.wf (by have := g5.len; omega) ((((bhf.get (i := d.i) (by omega)).gr g3).gr ha.g |>.gr hok.g).gr g5) b5 (fun F6 n6 o2 g6 b6 v6 => ?_)))
    refine vq rfl rfl (q_buildS sl40 zo3 (by decide) rfl rfl rfl rfl (by decide)) ?_
    refine ve rfl rfl (e_append sl40 zo3 rfl rfl (show OwnSt (upd s p (bld F6 n6 ins outs)) d.x 3 1 (d.l.map eI) _ from by rw [upd_upd]; exact hok.ho.put) (SrcOK.slx 1 _) (rowsC1_one rfl) (by simp [maxLen_eq]; omega) (fun x3 s3 ho3 => ?_))
    refine vq rfl rfl (q_assign rfl) ?_
    refine vendW ?_
    refine vc_regionW (qm 3) [0, 1] rfl rfl ?_
    refine vq rfl rfl (q_add rfl rfl (w64 (by omega))) ?_
    refine vq rfl rfl (q_move rfl) ?_
    refine vendW ?_
    have hst : ∀ v, Mod v n6 → ∀ j, j < d.i + 1 → wb v (d.l ++ [o2]) j = (wb v l j ^^ wb v m j ^^ car (wb v l) (wb v m) (bv v c) j) := fun v hv j hj => by
      have hv5 := hv.gr g6
      have hv4 := hv5.gr g5
      have hva := hv4.gr hok.g
      by_cases e : j = d.i
      · subst e
        have e1 : wb v (d.l ++ [o2]) d.i = bv v o2 := by simp only [wb]; rw [← hdl, getD_end]
        have e2 : bv v (hf.getD d.i default) = (wb v l d.i ^^ wb v m d.i) := each_bit v (k := 5) (vhf v ((hva.gr ha.g).gr g3)) (by omega) (by omega) (by omega)
        have e3 : bv v o1 = car (wb v l) (wb v m) (bv v c) d.i := by rw [v5 v hv5]; exact c0_car v _ (fun j hj => ha.v v hva j hj) (by omega) (by omega)
        rw [e1, v6 v hv, e3]; exact congrArg (fun z => z ^^ _) e2
      · have e1 : wb v (d.l ++ [o2]) j = wb v d.l j := by simp only [wb]; rw [getD_front (by omega)]
        rw [e1, hdv v hv4 j (by omega)]
    refine ⟨⟨d.i + 1, x3, d.l ++ [o2], F6, n6, s3⟩, ⟨⟨⟨by simp only; omega, by simp only [List.length_append, List.length_singleton]; omega⟩, hst⟩, ⟨by rw [List.map_append]; exact ho3, (hok.g.trans g5 (Nat.le_refl _)).trans g6 (by simp only; omega), ((hok.bw.gr g5).gr g6).app (BW.one b6)⟩⟩, by simp only; omega, ?_, ⟨rfl, rfl, trivial⟩, rfl⟩
    repeat (first | exact Same.refl | refine Same.upd rfl ?_ | refine Same.drop rfl ?_)
  refine vc_exit ?_
  refine vc_seq ?_
  have hol := hok.g.len
  refine vc_frz (i := 17) hok.ho rfl ?_
  refine vc_regionW (qm 895) [0, 1, 2, 3, 4, 5, 6, 7, 8, 9] rfl rfl ?_
  refine vq rfl rfl (q_move rfl) ?_
  refine vq rfl rfl (q_move rfl) ?_
  refine vq rfl rfl (q_move rfl) ?_
  refine vq rfl rfl (q_move rfl) ?_
  refine vq rfl rfl (q_move rfl) ?_
  refine vq rfl rfl (q_move rfl) ?_
  refine vq rfl rfl (q_len sl40 rfl (by first | exact lenM | rfl)) ?_
  refine ve rfl rfl (e_callF go153 rfl (c0B (mk := a.mq) (ps := a.ps) (at_ := l.length) (upd_same _ _ _) hok.g.wf (by omega) (ha.bm.gr hok.g) (ha.bp.gr hok.g) ((((hc.gr g1).gr g2).gr g3).gr (ha.g) |>.gr hok.g) (by omega) (by omega) (by omega) (fun F5 n5 co g5 b5 v5 => ?_)))
  refine vq rfl rfl (q_assign rfl) ?_
  refine vq rfl rfl (q_assign rfl) ?_
  refine vendW ?_
  refine vc_ret ?_
  have hdi2 : d.i = l.length := by omega
  exact ret2 rfl rfl rfl (by simp only [upd_upd]; exact Le.refl _) (Cv.le (by simp only [upd_upd]; exact Le.refl _) _) (Cv.le (by simp only [upd_upd]; exact Le.refl _) _) (hk F5 n5 d.l co (((((g1.trans g2 (Nat.le_refl _)).trans g3 (Nat.le_refl _)).trans ha.g (Nat.le_refl _)).trans hok.g (Nat.le_refl _)).trans g5 (by omega)) (hok.bw.gr g5) b5 (by omega) (fun v hv => by
    have hv4 := hv.gr g5
    have hva := hv4.gr hok.g
    have hv1 := ((hva.gr ha.g).gr g3).gr g2
    have e := vv v hv1
    rw [← e.1, ← e.2, ← ll]
    exact add_wv v rfl (by omega) (by omega) (fun i hi => hdv v hv4 i (by omega)) (by rw [v5 v hv]; exact c0_car v _ (fun j hj => ha.v v hva j hj) (by omega) (by omega))))
end Go.Proofs.Ytpcpdepfnoijoaa

set_option linter.unusedVariables false
set_option linter.unusedSimpArgs false
namespace Go.Vc
def wd (n : Nat) : Nat := if n = 0 then 0 else Nat.log2 n + 1
theorem wd_zero : wd 0 = 0 := rfl
theorem wd_lt (n : Nat) : n < 2 ^ wd n := by
  unfold wd
  split
  · subst_vars; decide
  · exact Nat.lt_log2_self
theorem wd_le {n : Nat} (h : n ≠ 0) : 2 ^ (wd n - 1) ≤ n := by
  unfold wd
  rw [if_neg h, Nat.add_sub_cancel]
  exact Nat.log2_self_le h
theorem wd_eq {n k : Nat} (h1 : n < 2 ^ k) (h2 : k = 0 ∨ 2 ^ (k - 1) ≤ n) : k = wd n := by
  have h3 := wd_lt n
  rcases Nat.lt_trichotomy k (wd n) with h | h | h
  · have hn : n ≠ 0 := by intro e; subst e; simp [wd] at h
    have h4 := wd_le hn
    have h5 := Nat.pow_le_pow_right (n := 2) (by decide) (show k ≤ wd n - 1 by omega)
    omega
  · exact h
  · rcases h2 with h2 | h2
    · omega
    · have h5 := Nat.pow_le_pow_right (n := 2) (by decide) (show wd n ≤ k - 1 by omega)
      omega
theorem wd_mono {n k : Nat} (h : n < 2 ^ k) : wd n ≤ k := by
  by_cases e : n = 0
  · subst e; simp [wd]
  · have h1 := wd_le e
    rcases Nat.lt_or_ge k (wd n) with h2 | h2
    · have := Nat.pow_le_pow_right (n := 2) (by decide) (show k ≤ wd n - 1 by omega)
      omega
    · exact h2
theorem wd_pos {n : Nat} (h : n ≠ 0) : 0 < wd n := by unfold wd; rw [if_neg h]; omega
theorem shl1 {i : Nat} (h : i ≤ 40) : IntKind.i64.wrap (1 * 2 ^ (min (i : Int).toNat IntKind.i64.bits)) = ((2 ^ i : Nat) : Int) := by
  have h1 : min (i : Int).toNat IntKind.i64.bits = i := by
    rw [show IntKind.i64.bits = 64 from rfl, Int.toNat_natCast]; omega
  have h2 : (2 : Nat) ^ i ≤ 2 ^ 40 := Nat.pow_le_pow_right (by decide) h
  rw [h1, Int.one_mul, w64]
  · push_cast; rfl
  · have e : ((2 : Int) ^ i) = ((2 ^ i : Nat) : Int) := by push_cast; rfl
    rw [e]
    obtain ⟨m, hm⟩ : ∃ m, m = 2 ^ i := ⟨_, rfl⟩
    rw [← hm] at h2 ⊢
    omega
theorem wv_zeros (v : Nat → Bool) {z : List Int} {a b : Nat} (h : wv v z = 0) (hl : z.length = a) (x : List Int) : wv v (z ++ x) = 2 ^ a * wv v x := by
  rw [wv_app, h, hl, Nat.zero_add]
theorem left_step (v : Nat → Bool) {L far i : Nat} {z out : List Int} {x r : Nat} (hz : wv v z = 0) (hzl : z.length = far) (ho : out.length = L) (hf : far = min (2 ^ i) L) (hv : wv v out = x * 2 ^ r % 2 ^ L) :
    wv v (z ++ out.take (L - far)) = x * 2 ^ (r + 2 ^ i) % 2 ^ L := by
  rw [wv_zeros v hz hzl (b := 0), wv_take, hv]
  have e : 2 ^ L = 2 ^ far * 2 ^ (L - far) := by rw [← Nat.pow_add]; congr 1; omega
  rw [Nat.mod_mod_of_dvd _ (Nat.pow_dvd_pow 2 (by omega)), ← Nat.mul_mod_mul_left, ← e, Nat.pow_add, ← Nat.mul_assoc]
  rcases Nat.le_total (2 ^ i) L with h | h
  · rw [hf, Nat.min_eq_left h]
    simp only [Nat.mul_comm, Nat.mul_left_comm, Nat.mul_assoc]
  · have hf2 : far = L := by omega
    rw [hf2, Nat.mul_assoc, Nat.mul_mod_right]
    obtain ⟨k, hk⟩ := Nat.exists_eq_add_of_le h
    rw [hk, Nat.pow_add, Nat.mul_left_comm (2 ^ r), Nat.mul_left_comm x, Nat.mul_mod_right]
theorem right_step (v : Nat → Bool) {L far i : Nat} {z out : List Int} {x r : Nat} (hz : wv v z = 0) (ho : out.length = L) (hf : far = min (2 ^ i) L) (hv : wv v out = x / 2 ^ r) :
    wv v (out.drop far ++ z) = x / 2 ^ (r + 2 ^ i) := by
  rw [wv_app, hz, Nat.mul_zero, Nat.add_zero, wv_drop, hv, Nat.div_div_eq_div_mul, ← Nat.pow_add]
  rcases Nat.le_total (2 ^ i) L with h | h
  · rw [hf, Nat.min_eq_left h]
  · have hf2 : far = L := by omega
    have h1 := wv_lt v out
    rw [ho, hv] at h1
    rw [hf2]
    have h2 : x < 2 ^ (r + L) := by
      rw [Nat.pow_add, Nat.mul_comm]
      exact (Nat.div_lt_iff_lt_mul (Nat.pow_pos (by decide))).1 h1
    rw [Nat.div_eq_of_lt h2, Nat.div_eq_of_lt (Nat.lt_of_lt_of_le h2 (Nat.pow_le_pow_right (by decide) (by omega)))]
theorem lost_step (v : Nat → Bool) {L far i : Nat} {out : List Int} {x r : Nat} {b : Bool} (ho : out.length = L) (hf : far = min (2 ^ i) L) (hv : wv v out = x / 2 ^ r) :
    (decide (x % 2 ^ r ≠ 0) || (decide (wv v (out.take far) ≠ 0) && b)) = decide (x % 2 ^ (r + bif b then 2 ^ i else 0) ≠ 0) := by
  cases b
  · simp
  · simp only [Bool.and_true, cond_true]
    have e : wv v (out.take far) = x / 2 ^ r % 2 ^ (2 ^ i) := by
      rw [wv_take, hv]
      rcases Nat.le_total (2 ^ i) L with h | h
      · rw [hf, Nat.min_eq_left h]
      · have h1 := wv_lt v out
        rw [ho, hv] at h1
        rw [hf, Nat.min_eq_right h, Nat.mod_eq_of_lt h1, Nat.mod_eq_of_lt (Nat.lt_of_lt_of_le h1 (Nat.pow_le_pow_right (by decide) h))]
    have h2 : 0 < 2 ^ r := Nat.pow_pos (by decide)
    rw [e, ← Bool.decide_or]
    apply decide_eq_decide.2
    rw [Nat.pow_add, Nat.mod_mul]
    constructor
    · rintro (h | h)
      · omega
      · have := Nat.mul_pos h2 (Nat.pos_of_ne_zero h); omega
    · intro h
      rcases Nat.eq_zero_or_pos (x % 2 ^ r) with h3 | h3
      · right; intro h4; rw [h3, h4] at h; simp at h
      · left; omega
theorem mod_bit (n i : Nat) : n % 2 ^ (i + 1) = n % 2 ^ i + bif n.testBit i then 2 ^ i else 0 := by
  rw [Nat.pow_succ, Nat.mod_mul]
  have e : n / 2 ^ i % 2 = (n.testBit i).toNat := (Nat.toNat_testBit n i).symm
  rw [e]
  cases n.testBit i <;> simp
theorem amount_ok (v : Nat → Bool) {b : List Int} {L k : Nat} (h0 : 1 ≤ L) (hk : k = min (wd (L - 1)) b.length) (h : wv v (b.drop k) ≠ 0) : L ≤ wv v b := by
  have h1 := wd_lt (L - 1)
  rw [wv_drop] at h
  rcases Nat.lt_or_ge (wv v b) (2 ^ k) with h2 | h2
  · rw [Nat.div_eq_of_lt h2] at h; exact absurd rfl h
  · rcases Nat.le_total (wd (L - 1)) b.length with h3 | h3
    · rw [hk, Nat.min_eq_left h3] at h2; omega
    · have := wv_lt v b
      rw [hk, Nat.min_eq_right h3] at h2; omega
theorem amount_no (v : Nat → Bool) {b : List Int} {k : Nat} (h : wv v (b.drop k) = 0) : wv v b % 2 ^ k = wv v b := by
  rw [wv_drop] at h
  exact Nat.mod_eq_of_lt (by
    rcases Nat.div_eq_zero_iff.1 h with h | h
    · exact absurd h (Nat.ne_of_gt (Nat.pow_pos (by decide)))
    · exact h)
theorem left_out {x L n : Nat} (h : L ≤ n) : x * 2 ^ n % 2 ^ L = 0 := by
  obtain ⟨k, rfl⟩ := Nat.exists_eq_add_of_le h
  rw [Nat.pow_add, Nat.mul_left_comm, Nat.mul_mod_right]
theorem right_out {x L n : Nat} (hx : x < 2 ^ L) (h : L ≤ n) : x / 2 ^ n = 0 := Nat.div_eq_of_lt (Nat.lt_of_lt_of_le hx (Nat.pow_le_pow_right (by decide) h))
theorem lead_step {n h : Nat} (hn : n < 2 ^ (h + h)) (h0 : n ≠ 0) :
    (n / 2 ^ h = 0 → n % 2 ^ h = n ∧ h + h - wd n = h + (h - wd (n % 2 ^ h))) ∧ (n / 2 ^ h ≠ 0 → h + h - wd n = h - wd (n / 2 ^ h)) := by
  constructor
  · intro h1
    have h2 : n < 2 ^ h := by
      rcases Nat.div_eq_zero_iff.1 h1 with h | h
      · exact absurd h (Nat.ne_of_gt (Nat.pow_pos (by decide)))
      · exact h
    rw [Nat.mod_eq_of_lt h2]
    exact ⟨rfl, by have := wd_mono h2; omega⟩
  · intro h1
    have h2 : wd (n / 2 ^ h) + h = wd n := by
      apply wd_eq
      · have := wd_lt (n / 2 ^ h)
        rw [Nat.pow_add]
        exact (Nat.div_lt_iff_lt_mul (Nat.pow_pos (by decide))).1 this
      · right
        have := wd_le h1
        have h3 := wd_pos h1
        rw [show wd (n / 2 ^ h) + h - 1 = (wd (n / 2 ^ h) - 1) + h by omega, Nat.pow_add]
        exact (Nat.le_div_iff_mul_le (Nat.pow_pos (by decide))).1 this
    omega
theorem wd_fill {f n : Nat} : wd (2 ^ f - 1 + 2 ^ f * n) = f + wd n := by
  symm
  have h0 : 0 < 2 ^ f := Nat.pow_pos (by decide)
  apply wd_eq
  · have h1 := wd_lt n
    have h2 : 2 ^ f * (n + 1) ≤ 2 ^ f * 2 ^ wd n := Nat.mul_le_mul_left _ h1
    rw [Nat.pow_add]
    rw [Nat.mul_add] at h2
    omega
  · by_cases e : n = 0
    · subst e
      rw [wd_zero, Nat.add_zero, Nat.mul_zero, Nat.add_zero]
      cases f with
      | zero => left; rfl
      | succ f => right; rw [Nat.add_sub_cancel, Nat.pow_succ]; have : 0 < 2 ^ f := Nat.pow_pos (by decide); omega
    · right
      have h1 := wd_le e
      have h2 := wd_pos e
      rw [show f + wd n - 1 = f + (wd n - 1) by omega, Nat.pow_add]
      have := Nat.mul_le_mul_left (2 ^ f) h1
      omega
theorem wd_end {n k : Nat} (h : ¬ (0 : Int) < ((n / 2 ^ k : Nat) : Int)) (hk : k ≤ wd n) : k = wd n := by
  have h1 : n / 2 ^ k = 0 := by
    rcases Nat.eq_zero_or_pos (n / 2 ^ k) with h0 | h0
    · exact h0
    · exact absurd (Int.natCast_pos.2 h0) h
  have h2 : n < 2 ^ k := by
    rcases Nat.div_eq_zero_iff.1 h1 with h | h
    · exact absurd h (Nat.ne_of_gt (Nat.pow_pos (by decide)))
    · exact h
  have := wd_mono h2
  omega
theorem wd_next {n k : Nat} (h : (0 : Int) < ((n / 2 ^ k : Nat) : Int)) : k + 1 ≤ wd n := by
  have h1 : 0 < n / 2 ^ k := Int.natCast_pos.1 h
  rcases Nat.lt_or_ge k (wd n) with h2 | h2
  · exact h2
  · have h3 := Nat.lt_of_lt_of_le (wd_lt n) (Nat.pow_le_pow_right (by decide) h2)
    rw [Nat.div_eq_of_lt h3] at h1; cases h1
theorem wide_shr (n k : Nat) : ((n / 2 ^ k : Nat) : Int).fdiv (2 ^ (min (1 : Int).toNat IntKind.i64.bits)) = ((n / 2 ^ (k + 1) : Nat) : Int) := by
  rw [show min (1 : Int).toNat IntKind.i64.bits = 1 from rfl, Int.fdiv_eq_ediv_of_nonneg _ (by decide), Nat.pow_succ, ← Nat.div_div_eq_div_mul]
  rfl
theorem wv_nil (v : Nat → Bool) {l : List Int} (h : ∀ j, j < l.length → bv v (l.getD j default) = false) : wv v l = 0 := by
  refine wv_ext (Nat.pow_pos (by decide)) fun i hi => ?_
  rw [h i hi, Nat.zero_testBit]
theorem lost_all {x z r : Nat} (hz : z ≠ 0) : (decide (x % 2 ^ r ≠ 0) || (decide (z ≠ 0) && decide (x ≠ 0))) = decide (x ≠ 0) := by
  by_cases h : x = 0
  · subst h; simp
  · simp [h, hz]
theorem quo2 {m h : Nat} (e : m = h + h) (hb : h < 2 ^ 40) : IntKind.i64.wrap ((m : Int).tdiv 2) = (h : Int) := by
  have e1 : (m : Int).tdiv 2 = (h : Int) := by
    rw [Int.tdiv_eq_ediv_of_nonneg (by omega)]; omega
  rw [e1, w64 (by omega)]
theorem lead_set {α : Type} {m n : Nat} (h : n = m + 1) (z x : α) (r : List α) : (List.replicate n x ++ r).set m z = List.replicate m x ++ z :: r := by
  subst h
  rw [List.replicate_succ', List.append_assoc]
  rw [List.set_append_right _ _ (by simp)]
  simp
theorem BW.cons {nd : List Nd} {a : Int} {l : List Int} (h : B1 nd a) (k : BW nd l) : BW nd (a :: l) := fun b hb => by
  rcases List.mem_cons.1 hb with e | e
  · subst e; exact h
  · exact k b e
theorem wv_ones (v : Nat → Bool) {l : List Int} (h : ∀ j, j < l.length → bv v (l.getD j default) = true) : wv v l = 2 ^ l.length - 1 := by
  refine wv_ext (by have := Nat.pow_pos (n := l.length) (show 0 < 2 by decide); omega) fun i hi => ?_
  rw [h i hi, Nat.testBit_two_pow_sub_one]; simp [hi]
theorem lead_init (v : Nat → Bool) {l x : List Int} {k i : Nat} (h : ∀ j, j < i → bv v (l.getD j default) = true) (hl : l.length = i ∧ i = 2 ^ k - x.length) (hf : 0 < 2 ^ k - x.length) (hk : x.length < 2 ^ k) :
    wv v (l ++ x) ≠ 0 ∧ wv v [] * 2 ^ (k - 0) + (2 ^ (k - 0) - wd (wv v (l ++ x))) = x.length - wd (wv v x) := by
  have e := wv_ones v (l := l) (fun j hj => h j (by omega))
  rw [wv_app, e]
  have h2 : 2 ^ 1 ≤ 2 ^ l.length := Nat.pow_le_pow_right (by decide) (by omega)
  refine ⟨by omega, ?_⟩
  rw [wd_fill, wv, Nat.zero_mul, Nat.zero_add, Nat.sub_zero]
  omega
theorem lead_next (v : Nat → Bool) {l l' r : List Int} {z : Int} {k i h : Nat} (hl : l.length = 2 ^ (k - i)) (hh : 2 ^ (k - i) = h + h) (h0 : wv v l ≠ 0) {t : Nat} (h1 : wv v r * 2 ^ (k - i) + (2 ^ (k - i) - wd (wv v l)) = t)
    (h2 : wv v l' = bif bv v z then wv v (l.take h) else wv v (l.drop h)) (h3 : bv v z = !decide (wv v (l.drop h) ≠ 0)) (hk : h = 2 ^ (k - (i + 1))) : wv v l' ≠ 0 ∧ wv v (z :: r) * 2 ^ (k - (i + 1)) + (2 ^ (k - (i + 1)) - wd (wv v l')) = t := by
  have h4 := wv_lt v l
  rw [hl, hh] at h4
  obtain ⟨q1, q2⟩ := lead_step h4 h0
  rw [← hk, wv]
  rw [hh] at h1
  rw [wv_take, wv_drop] at h2
  rw [wv_drop] at h3
  by_cases e : wv v l / 2 ^ h = 0
  · have e3 : bv v z = true := by rw [h3]; simp [e]
    rw [e3, cond_true] at h2
    obtain ⟨p1, p2⟩ := q1 e
    rw [h2, e3]
    refine ⟨by rw [p1]; exact h0, ?_⟩
    rw [Bool.toNat_true, Nat.add_mul, Nat.one_mul, Nat.mul_assoc, Nat.mul_comm 2, Nat.mul_assoc, Nat.mul_comm h 2] at *
    rw [← h1, p2, Nat.mul_add]
    rw [show wv v r * (2 * h) = wv v r * h + wv v r * h by rw [Nat.two_mul, Nat.mul_add]]
    omega
  · have e3 : bv v z = false := by rw [h3]; simp [e]
    rw [e3, cond_false] at h2
    have p2 := q2 e
    rw [h2, e3]
    refine ⟨e, ?_⟩
    rw [Bool.toNat_false, Nat.zero_add, ← h1, p2, Nat.mul_add, Nat.mul_comm 2, Nat.mul_assoc, Nat.two_mul, Nat.mul_add]
theorem lead_fin (v : Nat → Bool) {l r : List Int} (hl : l.length = 2 ^ 0) (h0 : wv v l ≠ 0) {t : Nat} (h1 : wv v r * 2 ^ 0 + (2 ^ 0 - wd (wv v l)) = t) : wv v r = t := by
  have h2 := wv_lt v l
  rw [hl] at h2
  have h3 : wv v l = 1 := by omega
  rw [h3] at h1
  have h4 : wd 1 = 1 := by decide
  rw [h4] at h1
  omega
end Go.Vc

set_option linter.unusedVariables false
set_option linter.unusedSimpArgs false
set_option maxRecDepth 100000
namespace Go.Proofs.Ytpcpdepfnoijoaa
open Go.Vc
structure SH where
  i : Nat
  l : List Int
  o : Int
  F : List Nat
  n : List Nd
theorem subB {p : Nat} {F : List Nat} {nd : List Nd} {ins outs : List Pt} {s : St} {K : AV → St → Prop} (hp : s p = some (bld F nd ins outs)) (hw : WfB nd) (hn : nd.length + 70000 < 2^39) {x y : List Int} (hx : BW nd x) (hy : BW nd y) (hlx : x.length ≤ 1000) (hly : y.length ≤ 1000) (hk : ∀ F2 n2 l co, Gr nd n2 70000 → BW n2 l → B1 n2 co → l.length = max x.length y.length → (∀ v, Mod v n2 → wv v l + 2 ^ (max x.length y.length) * (bv v co).toNat + wv v y = wv v x + 2 ^ (max x.length y.length)) → K (.tup [ints l, .int co]) (upd s p (bld F2 n2 ins outs))) : CallsA Try.prog 146 [ptv p 0, ints x, ints y] s K := by
  refine callsA_of Try.func146 rfl rfl (Nat.le_of_ble_eq_true rfl) ?_
  refine vc_seq ?_
  refine vc_regionW (qm 3) [0, 1] rfl rfl ?_
  refine vq rfl rfl (q_assign rfl) ?_
  refine vq rfl rfl (q_assign rfl) ?_
  refine vendW ?_
  refine vc_seq ?_
  refine vc_regionW (qm 503) [0, 1, 2, 3, 4, 5, 6, 7, 8] rfl rfl ?_
  refine vq rfl rfl (q_move rfl) ?_
  refine vq rfl rfl (q_move rfl) ?_
  refine vq rfl rfl (q_move rfl) ?_
  refine ve rfl rfl (e_callF go151 rfl (levelB hp hw (by omega) hx hy hlx hly (fun F1 n1 l m g1 bl bm ll lm vv => ?_)))
  refine vq rfl rfl (q_move rfl) ?_
  refine vq rfl rfl (q_extract rfl rfl) ?_
  refine vq rfl rfl (q_extract rfl rfl) ?_
  refine vq rfl rfl (q_assign rfl) ?_
  refine vq rfl rfl (q_assign rfl) ?_
  refine vendW ?_
  refine vc_seq ?_
  refine vc_regionW (qm 3887) [0, 1, 2, 3, 4, 5, 6, 7, 8, 9, 10, 11] rfl rfl ?_
  refine vq rfl rfl (q_move rfl) ?_
  refine vq rfl rfl (q_move rfl) ?_
  refine vq rfl rfl (q_move rfl) ?_
  refine vq rfl rfl (q_move rfl) ?_
  refine ve rfl rfl (e_callF go176 rfl (notsB (upd_same _ _ _) g1.wf (by have := g1.len; omega) bm (by omega) (fun F2 n2 t g2 bt lt vt => ?_)))
  refine vq rfl rfl (q_move rfl) ?_
  refine ve rfl rfl (e_callF go56 rfl (bitB (b := 1) (upd_same _ _ _) g2.wf (by have := g1.len; have := g2.len; omega) (fun F3 n3 c g3 bc vc => ?_)))
  refine ve rfl rfl (e_callF go104 rfl (prefixB (upd_same _ _ _) g3.wf (by have := g1.len; have := g2.len; have := g3.len; omega) ((bl.gr g2).gr g3) (bt.gr g3) (by omega) (by omega) bc (fun F4 n4 r co g4 br bco lr vr => ?_)))
  refine vq rfl rfl (q_extract rfl rfl) ?_
  refine vq rfl rfl (q_extract rfl rfl) ?_
  refine vq rfl rfl (q_assign rfl) ?_
  refine vq rfl rfl (q_assign rfl) ?_
  refine vendW ?_
  refine vc_ret ?_
  exact ret2 rfl rfl rfl (by simp only [upd_upd]; exact Le.refl _) (Cv.le (by simp only [upd_upd]; exact Le.refl _) _) (Cv.le (by simp only [upd_upd]; exact Le.refl _) _) (hk F4 n4 r co (((g1.trans g2 (Nat.le_refl _)).trans g3 (Nat.le_refl _)).trans g4 (by omega)) br bco (by omega) (fun v hv => by
    have hv3 := hv.gr g4
    have hv2 := hv3.gr g3
    have h1 := vr v hv
    have h2 := vt v hv2
    have h3 := vv v (hv2.gr g2)
    rw [vc v hv3] at h1
    rw [show max l.length t.length = max x.length y.length by omega] at h1
    rw [show m.length = max x.length y.length by omega] at h2
    simp only [show (!decide ((1:Int) = 0)).toNat = 1 from rfl] at h1
    omega))
theorem moreB {p : Nat} {F : List Nat} {nd : List Nd} {ins outs : List Pt} {s : St} {K : AV → St → Prop} (hp : s p = some (bld F nd ins outs)) (hw : WfB nd) (hn : nd.length + 65536 < 2^39) {x : List Int} (hx : BW nd x) (hlx : x.length ≤ 1000) {c : Int} (hc : B1 nd c) (hk : ∀ F2 n2 l co, Gr nd n2 65536 → BW n2 l → B1 n2 co → l.length = x.length → (∀ v, Mod v n2 → wv v l + 2 ^ x.length * (bv v co).toNat = wv v x + (bv v c).toNat) → K (.tup [ints l, .int co]) (upd s p (bld F2 n2 ins outs))) : CallsA Try.prog 180 [ptv p 0, ints x, .int c] s K := by
  refine callsA_of Try.func180 rfl rfl (Nat.le_of_ble_eq_true rfl) ?_
  refine vc_seq ?_
  refine vc_regionW (qm 3) [0, 1] rfl rfl ?_
  refine vq rfl rfl (q_assign rfl) ?_
  refine vq rfl rfl (q_assign rfl) ?_
  refine vendW ?_
  refine vc_seq ?_
  refine vc_regionW (qm 247) [0, 1, 2, 3, 4, 5, 6, 7] rfl rfl ?_
  refine vq rfl rfl (q_move rfl) ?_
  refine vq rfl rfl (q_move rfl) ?_
  refine vq rfl rfl (q_move rfl) ?_
  refine ve rfl rfl (e_callF go104 rfl (CallsA.le (ALes.cons (ALe.refl _) (ALes.cons (ALe.refl _) (ALes.cons (ale_nil 1) (ALes.cons (ALe.refl _) ALes.nil)))) (prefixB (y := []) hp hw (by omega) hx BW.nil hlx (by simp) hc (fun F4 n4 r co g4 br bco lr vr => ?_))))
  refine vq rfl rfl (q_extract rfl rfl) ?_
  refine vq rfl rfl (q_extract rfl rfl) ?_
  refine vq rfl rfl (q_assign rfl) ?_
  refine vq rfl rfl (q_assign rfl) ?_
  refine vendW ?_
  refine vc_ret ?_
  have e : max x.length ([] : List Int).length = x.length := by simp
  rw [e] at lr vr
  exact ret2 rfl rfl rfl (Le.refl _) (Cv.le (Le.refl _) _) (Cv.le (Le.refl _) _) (hk F4 n4 r co g4 br bco lr (fun v hv => by rw [vr v hv]; rfl))
theorem sizeB {p : Nat} {F : List Nat} {nd : List Nd} {ins outs : List Pt} {s : St} {K : AV → St → Prop} (hp : s p = some (bld F nd ins outs)) (hw : WfB nd) (hn : nd.length + 67000 < 2^39) {x : List Int} (hx : BW nd x) (hlx : x.length ≤ 1000) {c : Int} (hc : B1 nd c) (hk : ∀ F2 n2 l, Gr nd n2 67000 → BW n2 l → l.length = x.length → (∀ v, Mod v n2 → wv v l = bif bv v c then (2 ^ x.length - wv v x) % 2 ^ x.length else wv v x) → K (ints l) (upd s p (bld F2 n2 ins outs))) : CallsA Try.prog 149 [ptv p 0, ints x, .int c] s K := by
  refine callsA_of Try.func149 rfl rfl (Nat.le_of_ble_eq_true rfl) ?_
  refine vc_seq ?_
  refine vc_regionW (qm 1) [0] rfl rfl ?_
  refine vq rfl rfl (q_assign rfl) ?_
  refine vendW ?_
  refine vc_seq ?_
  refine vc_regionW (qm 1) [0] rfl rfl ?_
  refine vq rfl rfl (q_assign rfl) ?_
  refine vendW ?_
  refine vc_seq ?_
  refine vc_seq ?_
  refine vc_regionW (qm 7) [0, 1, 2] rfl rfl ?_
  refine vq rfl rfl (q_move rfl) ?_
  refine vq rfl rfl (q_len sl40 rfl (by first | exact lenM | rfl)) ?_
  refine vq rfl rfl (q_move rfl) ?_
  refine vendW ?_
  refine vc_block ?_
  refine vc_loopS (α := LB) [7, 9, 14, 15, 16, 17, 18, 19, 20, 21, 22, 23, 24, 25] (fun a => [(14, .int (a.i : Int)), (7, a.x)]) (fun a => a.st) (fun a => ((a.i ≤ x.length ∧ a.l.length = a.i) ∧ (∀ v, Mod v a.n → ∀ j, j < a.i → bv v (a.l.getD j default) = (bv v (x.getD j default) ^^ bv v c))) ∧ LBok s p ins outs nd a.i a) (fun a => x.length - a.i) ⟨0, nilS, [], F, nd, s⟩ ⟨⟨⟨by simp, rfl⟩, fun v _ j hj => by simp at hj⟩, ⟨by rw [upd_self _ _ _ hp]; exact OwnSt.nil _ _ _, Gr.refl hw _, BW.nil⟩⟩ rfl ⟨rfl, rfl, trivial⟩ (fun _ => rfl) ?_
  intro a ⟨⟨⟨hai, hal⟩, hv⟩, hok⟩
  refine vc_seq ?_
  refine vc_regionW (qm 1) [0] rfl rfl ?_
  refine vq rfl rfl (q_lt rfl rfl) ?_
  refine vendW ?_
  refine vc_seq ?_
  refine vc_condD rfl (fun hend => ?_) (fun hend => ?_)
  ·
    refine vc_skip ?_
    refine vc_seq ?_
    refine vc_block ?_
    refine vc_seq ?_
    refine vc_regionW (qm 7) [0, 1, 2] rfl rfl ?_
    refine vq rfl rfl (q_index sl40 rfl rfl (by omega) (by first | exact nthI (by omega) | exact nthM (by omega))) ?_
    refine vq rfl rfl (q_load sc3 rfl) ?_
    refine vq rfl rfl (q_assign rfl) ?_
    refine vendW ?_
    refine vc_regionW (qm 175) [0, 1, 2, 3, 4, 5, 6, 7] rfl rfl ?_
    refine vq rfl rfl (q_move rfl) ?_
    refine vq rfl rfl (q_move rfl) ?_
    refine vq rfl rfl (q_move rfl) ?_
    refine vq rfl rfl (q_move rfl) ?_
    refine ve rfl rfl (e_callF go152 rfl (xorB hok.hp hok.g.wf (by have := hok.g.len; omega) ((hx.get (i := a.i) (by omega)).gr hok.g) (hc.gr hok.g) (fun F2 n2 o g2 b2 v2 => ?_)))
    refine vq rfl rfl (q_buildS sl40 zo3 (by decide) rfl rfl rfl rfl (by decide)) ?_
    refine ve rfl rfl (e_append sl40 zo3 rfl rfl hok.ho.put (SrcOK.slx 1 _) (rowsC1_one rfl) (by simp [maxLen_eq]; omega) (fun x3 s3 ho3 => ?_))
    refine vq rfl rfl (q_assign rfl) ?_
    refine vendW ?_
    refine vc_regionW (qm 3) [0, 1] rfl rfl ?_
    refine vq rfl rfl (q_add rfl rfl (w64 (by omega))) ?_
    refine vq rfl rfl (q_move rfl) ?_
    refine vendW ?_
    have hst : ∀ v, Mod v n2 → ∀ j, j < a.i + 1 → bv v ((a.l ++ [o]).getD j default) = (bv v (x.getD j default) ^^ bv v c) := fun v hm j hj => by
      by_cases e : j = a.i
      · subst e; rw [← hal, getD_end, v2 v hm]; rw [hal]
      · rw [getD_front (by omega), hv v (hm.gr g2) j (by omega)]
    refine ⟨⟨a.i + 1, x3, a.l ++ [o], F2, n2, s3⟩, ⟨⟨⟨by simp only; omega, by simp only [List.length_append, List.length_singleton]; omega⟩, hst⟩, ⟨by rw [List.map_append]; exact ho3, hok.g.trans g2 (by simp), (hok.bw.gr g2).app (BW.one b2)⟩⟩, by simp only; omega, ?_, ⟨rfl, rfl, trivial⟩, rfl⟩
    repeat (first | exact Same.refl | refine Same.upd rfl ?_ | refine Same.drop rfl ?_)
  refine vc_exit ?_
  refine vc_seq ?_
  refine vc_frz (i := 7) hok.ho rfl ?_
  refine vc_regionW (qm 503) [0, 1, 2, 3, 4, 5, 6, 7, 8] rfl rfl ?_
  refine vq rfl rfl (q_move rfl) ?_
  refine vq rfl rfl (q_move rfl) ?_
  refine vq rfl rfl (q_move rfl) ?_
  refine ve rfl rfl (e_callF go180 rfl (moreB (x := a.l) (upd_same _ _ _) hok.g.wf (by have := hok.g.len; omega) hok.bw (by omega) (hc.gr hok.g) (fun F4 n4 r co g4 br bco lr vr => ?_)))
  refine vq rfl rfl (q_move rfl) ?_
  refine vq rfl rfl (q_extract rfl rfl) ?_
  refine vq rfl rfl (q_extract rfl rfl) ?_
  refine vq rfl rfl (q_assign rfl) ?_
  refine vq rfl rfl (q_assign rfl) ?_
  refine vendW ?_
  refine vc_seq ?_
  refine vc_regionW (qm 3) [0, 1] rfl rfl ?_
  refine vq rfl rfl (q_move rfl) ?_
  refine vq rfl rfl (q_assign rfl) ?_
  refine vendW ?_
  refine vc_ret ?_
  have hax : a.i = x.length := by omega
  exact ret1 rfl rfl (by simp only [upd_upd]; exact Le.refl _) (Cv.le (by simp only [upd_upd]; exact Le.refl _) _) (hk F4 n4 r ((hok.g.trans g4 (by omega))) br (by omega) (fun v hu => by
    have h1 := vr v hu
    have h2 := hv v (hu.gr g4)
    rw [show a.l.length = x.length by omega] at h1
    have h3 := wv_lt v r
    have h4 := wv_lt v x
    rw [show r.length = x.length by omega] at h3
    cases hc1 : bv v c
    · rw [hc1] at h1 h2
      have e : wv v a.l = wv v x := wv_congr v (by omega) (fun j hj => by rw [h2 j (by omega), Bool.xor_false])
      rw [cond_false]
      have e0 : (bv v co).toNat = 0 ∨ (bv v co).toNat = 1 := by cases bv v co <;> simp
      simp only [Bool.toNat_false] at h1
      rcases e0 with e0 | e0 <;> rw [e0] at h1 <;> omega
    · rw [hc1] at h1 h2
      have e := wv_nots v (l := x) (m := a.l) (by omega) (fun j hj => by rw [h2 j (by omega), Bool.xor_true])
      rw [cond_true]
      simp only [Bool.toNat_true] at h1
      have e0 : (bv v co).toNat = 0 ∨ (bv v co).toNat = 1 := by cases bv v co <;> simp
      have e1 : wv v r + 2 ^ x.length * (bv v co).toNat = 2 ^ x.length - wv v x := by omega
      rw [← e1, Nat.add_mul_mod_self_left, Nat.mod_eq_of_lt h3]))
theorem wideN {n : Nat} {s : St} {K : AV → St → Prop} (hn : n < 2^40) (hk : K (.int (wd n : Int)) s) : CallsA Try.prog 99 [.int (n : Int)] s K := by
  refine callsA_of Try.func99 rfl rfl (Nat.le_of_ble_eq_true rfl) ?_
  refine vc_seq ?_
  refine vc_regionW (qm 1) [0] rfl rfl ?_
  refine vq rfl rfl (q_assign rfl) ?_
  refine vendW ?_
  refine vc_seq ?_
  refine vc_regionW (qm 1) [0] rfl rfl ?_
  refine vq rfl rfl (q_assign rfl) ?_
  refine vendW ?_
  refine vc_seq ?_
  refine vc_block ?_
  refine vc_loopS (α := Nat) [0, 3, 4, 5, 6, 7, 8, 9] (fun k => [(0, .int ((n / 2 ^ k : Nat) : Int)), (3, .int (k : Int))]) (fun k => s) (fun k => k ≤ wd n) (fun k => wd n - k) 0 (by simp) rfl ⟨(congrArg (fun z : Int => some (AV.int z)) (by simp)), rfl, trivial⟩ (fun _ => rfl) ?_
  intro k hok
  refine vc_seq ?_
  refine vc_seq ?_
  refine vc_regionW (qm 3) [0, 1] rfl rfl ?_
  refine vq rfl rfl (q_move rfl) ?_
  refine vq rfl rfl (q_gt rfl rfl) ?_
  refine vendW ?_
  refine vc_condD rfl (fun h5 => ?_) (fun h5 => ?_)
  ·
    refine vc_skip ?_
    refine vc_seq ?_
    refine vc_block ?_
    refine vc_regionW (qm 7) [0, 1, 2] rfl rfl ?_
    refine vq rfl rfl (q_move rfl) ?_
    refine vq rfl rfl (q_add rfl rfl (w64 (by have := wd_mono (k := 40) hn; omega))) ?_
    refine vq rfl rfl (q_assign rfl) ?_
    refine vendW ?_
    refine vc_regionW (qm 7) [0, 1, 2] rfl rfl ?_
    refine vq rfl rfl (q_move rfl) ?_
    refine vq rfl rfl (q_shr rfl rfl (by omega) rfl) ?_
    refine vq rfl rfl (q_assign rfl) ?_
    refine vendW ?_
    refine ⟨k + 1, wd_next (by omega), by have := wd_next (n := n) (k := k) (by omega); omega, ?_, ⟨(congrArg (fun z : Int => some (AV.int z)) (wide_shr n k)), rfl, trivial⟩, rfl⟩
    repeat (first | exact Same.refl | refine Same.upd rfl ?_ | refine Same.drop rfl ?_)
  refine vc_exit ?_
  refine vc_seq ?_
  refine vc_regionW (qm 3) [0, 1] rfl rfl ?_
  refine vq rfl rfl (q_move rfl) ?_
  refine vq rfl rfl (q_assign rfl) ?_
  refine vendW ?_
  refine vc_ret ?_
  have e : k = wd n := wd_end (by omega) hok
  subst e
  exact ret1 rfl rfl (Le.refl _) (Cv.le (Le.refl _) _) hk
theorem wideM {n : Int} {s : St} {K : AV → St → Prop} (hn : n ≤ 0) (hk : K (.int 0) s) : CallsA Try.prog 99 [.int n] s K := by
  refine callsA_of Try.func99 rfl rfl (Nat.le_of_ble_eq_true rfl) ?_
  refine vc_seq ?_
  refine vc_regionW (qm 1) [0] rfl rfl ?_
  refine vq rfl rfl (q_assign rfl) ?_
  refine vendW ?_
  refine vc_seq ?_
  refine vc_regionW (qm 1) [0] rfl rfl ?_
  refine vq rfl rfl (q_assign rfl) ?_
  refine vendW ?_
  refine vc_seq ?_
  refine vc_block ?_
  refine vc_loopS (α := Nat) [0, 3, 4, 5, 6, 7, 8, 9] (fun k => [(0, .int n), (3, .int 0)]) (fun k => s) (fun k => True) (fun k => 0) 0 (by simp) rfl ⟨rfl, rfl, trivial⟩ (fun _ => rfl) ?_
  intro k hok
  refine vc_seq ?_
  refine vc_seq ?_
  refine vc_regionW (qm 3) [0, 1] rfl rfl ?_
  refine vq rfl rfl (q_move rfl) ?_
  refine vq rfl rfl (q_gt rfl rfl) ?_
  refine vendW ?_
  refine vc_condF rfl (by first | (simp; done) | (simp; omega) | simp_all) ?_
  refine vc_exit ?_
  refine vc_seq ?_
  refine vc_regionW (qm 3) [0, 1] rfl rfl ?_
  refine vq rfl rfl (q_move rfl) ?_
  refine vq rfl rfl (q_assign rfl) ?_
  refine vendW ?_
  refine vc_ret ?_
  exact ret1 rfl rfl (Le.refl _) (Cv.le (Le.refl _) _) hk
theorem amountsB {p : Nat} {F : List Nat} {nd : List Nd} {ins outs : List Pt} {s : St} {K : AV → St → Prop} (hp : s p = some (bld F nd ins outs)) (hw : WfB nd) (hn : nd.length + 1000 < 2^39) {x : List Int} {n : Nat} (hx : BW nd x) (hlx : x.length ≤ 1000) (h1 : 1 ≤ n) (hn2 : n ≤ 1000) (hk : ∀ F2 n2 k all, Gr nd n2 1000 → B1 n2 all → k = min (wd (n - 1)) x.length → (∀ v, Mod v n2 → bv v all = decide (wv v (x.drop k) ≠ 0)) → K (.tup [ints (x.take k), .int all]) (upd s p (bld F2 n2 ins outs))) : CallsA Try.prog 178 [ptv p 0, ints x, .int (n : Int)] s K := by
  refine callsA_of Try.func178 rfl rfl (Nat.le_of_ble_eq_true rfl) ?_
  refine vc_seq ?_
  refine vc_regionW (qm 3) [0, 1] rfl rfl ?_
  refine vq rfl rfl (q_assign rfl) ?_
  refine vq rfl rfl (q_assign rfl) ?_
  refine vendW ?_
  refine vc_seq ?_
  refine vc_regionW (qm 127) [0, 1, 2, 3, 4, 5, 6] rfl rfl ?_
  refine vq rfl rfl (q_move rfl) ?_
  refine vq rfl rfl (q_sub rfl rfl (show _ = ((n - 1 : Nat) : Int) by rw [w64 (by omega)]; omega)) ?_
  refine vq rfl rfl (q_callF go99 rfl (fun s => wideN (n := n - 1) (by omega) ⟨rfl, rfl⟩)) ?_
  refine vq rfl rfl (q_move rfl) ?_
  refine vq rfl rfl (q_len sl40 rfl (by first | exact lenM | rfl)) ?_
  refine vq rfl rfl (q_minN rfl rfl) ?_
  refine vq rfl rfl (q_assign rfl) ?_
  refine vendW ?_
  refine vc_seq ?_
  refine vc_regionDW mx (qm 895) [0, 1, 2, 3, 4, 5, 6, 7, 8, 9] (by kernel_rfl) ?_
  refine vq rfl rfl (q_move rfl) ?_
  refine vq rfl rfl (q_move rfl) ?_
  refine vq rfl rfl (q_sliceM (f := eI) (xs := x) 0 (min (wd (n - 1)) x.length) sl40 rfl rfl rfl (by simp) rfl (by omega)) ?_
  refine vq rfl rfl (q_move rfl) ?_
  refine vq rfl rfl (q_move rfl) ?_
  refine vq rfl rfl (q_move rfl) ?_
  refine vq rfl rfl (q_sliceM (f := eI) (xs := x) (min (wd (n - 1)) x.length) x.length sl40 rfl rfl rfl rfl (by simp) (by omega)) ?_
  refine ve rfl rfl (e_callF go90 rfl (foldB (k := 4) (x := (x.take x.length).drop (min (wd (n - 1)) x.length)) hp hw (by omega) ((hx.take _).drop _) (by simp; omega) (fun F2 n2 o g2 b2 v2 => ?_)))
  refine vq rfl rfl (q_assign rfl) ?_
  refine vq rfl rfl (q_assign rfl) ?_
  refine vendW ?_
  refine vc_ret ?_
  exact ret2 rfl rfl rfl (Le.refl _) (Cv.le (Le.refl _) _) (Cv.le (Le.refl _) _) (hk F2 n2 _ o g2 b2 rfl (fun v hv => by rw [v2 v hv, gall_or, List.take_length]))
theorem noneB {p : Nat} {F : List Nat} {nd : List Nd} {ins outs : List Pt} {s : St} {K : AV → St → Prop} (hp : s p = some (bld F nd ins outs)) (hw : WfB nd) (hn : nd.length + 1010 < 2^39) {x : List Int} (hx : BW nd x) (hlx : x.length ≤ 1000) {c : Int} (hc : B1 nd c) (hk : ∀ F2 n2 l, Gr nd n2 1010 → BW n2 l → l.length = x.length → (∀ v, Mod v n2 → wv v l = bif bv v c then 0 else wv v x) → K (ints l) (upd s p (bld F2 n2 ins outs))) : CallsA Try.prog 179 [ptv p 0, ints x, .int c] s K := by
  refine callsA_of Try.func179 rfl rfl (Nat.le_of_ble_eq_true rfl) ?_
  refine vc_seq ?_
  refine vc_regionW (qm 1) [0] rfl rfl ?_
  refine vq rfl rfl (q_assign rfl) ?_
  refine vendW ?_
  refine vc_seq ?_
  refine vc_regionW (qm 11) [0, 1, 2, 3] rfl rfl ?_
  refine vq rfl rfl (q_move rfl) ?_
  refine vq rfl rfl (q_move rfl) ?_
  refine ve rfl rfl (e_callF go89 rfl (notB hp hw (by omega) hc (fun F1 n1 q g1 b1 v1 => ?_)))
  refine vq rfl rfl (q_assign rfl) ?_
  refine vendW ?_
  refine vc_seq ?_
  refine vc_regionW (qm 1) [0] rfl rfl ?_
  refine vq rfl rfl (q_assign rfl) ?_
  refine vendW ?_
  refine vc_seq ?_
  refine vc_seq ?_
  refine vc_regionW (qm 7) [0, 1, 2] rfl rfl ?_
  refine vq rfl rfl (q_move rfl) ?_
  refine vq rfl rfl (q_len sl40 rfl (by first | exact lenM | rfl)) ?_
  refine vq rfl rfl (q_move rfl) ?_
  refine vendW ?_
  refine vc_block ?_
  refine vc_loopS (α := LB) [8, 10, 16, 17, 18, 19, 20, 21, 22, 23, 24, 25, 26, 27] (fun a => [(16, .int (a.i : Int)), (8, a.x)]) (fun a => a.st) (fun a => ((a.i ≤ x.length ∧ a.l.length = a.i) ∧ (∀ v, Mod v a.n → ∀ j, j < a.i → bv v (a.l.getD j default) = (bv v (x.getD j default) && bv v q))) ∧ LBok s p ins outs n1 a.i a) (fun a => x.length - a.i) ⟨0, nilS, [], F1, n1, upd s p (bld F1 n1 ins outs)⟩ ⟨⟨⟨by simp, rfl⟩, fun v _ j hj => by simp at hj⟩, ⟨OwnSt.nil _ _ _, Gr.refl g1.wf _, BW.nil⟩⟩ rfl ⟨rfl, rfl, trivial⟩ (fun _ => rfl) ?_
  intro a ⟨⟨⟨hai, hal⟩, hv⟩, hok⟩
  refine vc_seq ?_
  refine vc_regionW (qm 1) [0] rfl rfl ?_
  refine vq rfl rfl (q_lt rfl rfl) ?_
  refine vendW ?_
  refine vc_seq ?_
  refine vc_condD rfl (fun hend => ?_) (fun hend => ?_)
  ·
    refine vc_skip ?_
    refine vc_seq ?_
    refine vc_block ?_
    refine vc_seq ?_
    refine vc_regionW (qm 7) [0, 1, 2] rfl rfl ?_
    refine vq rfl rfl (q_index sl40 rfl rfl (by omega) (by first | exact nthI (by omega) | exact nthM (by omega))) ?_
    refine vq rfl rfl (q_load sc3 rfl) ?_
    refine vq rfl rfl (q_assign rfl) ?_
    refine vendW ?_
    refine vc_regionW (qm 175) [0, 1, 2, 3, 4, 5, 6, 7] rfl rfl ?_
    refine vq rfl rfl (q_move rfl) ?_
    refine vq rfl rfl (q_move rfl) ?_
    refine vq rfl rfl (q_move rfl) ?_
    refine vq rfl rfl (q_move rfl) ?_
    refine ve rfl rfl (e_callF go103 rfl (andB hok.hp hok.g.wf (by have := g1.len; have := hok.g.len; omega) (((hx.gr g1).get (i := a.i) (by omega)).gr hok.g) (b1.gr hok.g) (fun F2 n2 o g2 b2 v2 => ?_)))
    refine vq rfl rfl (q_buildS sl40 zo3 (by decide) rfl rfl rfl rfl (by decide)) ?_
    refine ve rfl rfl (e_append sl40 zo3 rfl rfl hok.ho.put (SrcOK.slx 1 _) (rowsC1_one rfl) (by simp [maxLen_eq]; omega) (fun x3 s3 ho3 => ?_))
    refine vq rfl rfl (q_assign rfl) ?_
    refine vendW ?_
    refine vc_regionW (qm 3) [0, 1] rfl rfl ?_
    refine vq rfl rfl (q_add rfl rfl (w64 (by omega))) ?_
    refine vq rfl rfl (q_move rfl) ?_
    refine vendW ?_
    have hst : ∀ v, Mod v n2 → ∀ j, j < a.i + 1 → bv v ((a.l ++ [o]).getD j default) = (bv v (x.getD j default) && bv v q) := fun v hm j hj => by
      by_cases e : j = a.i
      · subst e; rw [← hal, getD_end, v2 v hm]; rw [hal]
      · rw [getD_front (by omega), hv v (hm.gr g2) j (by omega)]
    refine ⟨⟨a.i + 1, x3, a.l ++ [o], F2, n2, s3⟩, ⟨⟨⟨by simp only; omega, by simp only [List.length_append, List.length_singleton]; omega⟩, hst⟩, ⟨by rw [List.map_append]; exact ho3, hok.g.trans g2 (by simp), (hok.bw.gr g2).app (BW.one b2)⟩⟩, by simp only; omega, ?_, ⟨rfl, rfl, trivial⟩, rfl⟩
    repeat (first | exact Same.refl | refine Same.upd rfl ?_ | refine Same.drop rfl ?_)
  refine vc_exit ?_
  refine vc_seq ?_
  refine vc_regionW (qm 3) [0, 1] rfl rfl ?_
  refine vq rfl rfl (q_move rfl) ?_
  refine vq rfl rfl (q_assign rfl) ?_
  refine vendW ?_
  refine vc_ret ?_
  have hax : a.i = x.length := by omega
  exact ret1 rfl rfl hok.ho.le hok.ho.frz (hk _ _ a.l (g1.trans hok.g (by omega)) hok.bw (by omega) (fun v hm => by
    have h1 := v1 v (hm.gr hok.g)
    have h2 := hv v hm
    cases hc1 : bv v c
    · rw [hc1] at h1; rw [cond_false]; exact wv_congr v (by omega) (fun j hj => by rw [h2 j (by omega), h1]; simp)
    · rw [hc1] at h1; rw [cond_true]; exact wv_nil v (fun j hj => by rw [h2 j (by omega), h1]; simp)))
end Go.Proofs.Ytpcpdepfnoijoaa

set_option linter.unusedVariables false
set_option linter.unusedSimpArgs false
set_option maxRecDepth 100000
namespace Go.Proofs.Ytpcpdepfnoijoaa
open Go.Vc
theorem leftB {p : Nat} {F : List Nat} {nd : List Nd} {ins outs : List Pt} {s : St} {K : AV → St → Prop} (hp : s p = some (bld F nd ins outs)) (hw : WfB nd) (hn : nd.length + 65536 < 2^39) {x y : List Int} (hx : BW nd x) (hy : BW nd y) (h1x : 1 ≤ x.length) (hlx : x.length ≤ 1000) (hly : y.length ≤ 1000) (hk : ∀ F2 n2 l, Gr nd n2 65536 → BW n2 l → l.length = x.length → (∀ v, Mod v n2 → wv v l = wv v x * 2 ^ wv v y % 2 ^ x.length) → K (ints l) (upd s p (bld F2 n2 ins outs))) : CallsA Try.prog 148 [ptv p 0, ints x, ints y] s K := by
  refine callsA_of Try.func148 rfl rfl (Nat.le_of_ble_eq_true rfl) ?_
  refine vc_seq ?_
  refine vc_regionW (qm 1) [0] rfl rfl ?_
  refine vq rfl rfl (q_assign rfl) ?_
  refine vendW ?_
  refine vc_seq ?_
  refine vc_regionW (qm 1007) [0, 1, 2, 3, 4, 5, 6, 7, 8, 9] rfl rfl ?_
  refine vq rfl rfl (q_move rfl) ?_
  refine vq rfl rfl (q_move rfl) ?_
  refine vq rfl rfl (q_move rfl) ?_
  refine vq rfl rfl (q_len sl40 rfl (by first | exact lenM | rfl)) ?_
  refine ve rfl rfl (e_callF go178 rfl (amountsB (x := y) (n := x.length) hp hw (by omega) hy hly h1x hlx (fun F1 n1 k0 all g1 b1 hk0 v1 => ?_)))
  refine vq rfl rfl (q_move rfl) ?_
  refine vq rfl rfl (q_extract rfl rfl) ?_
  refine vq rfl rfl (q_extract rfl rfl) ?_
  refine vq rfl rfl (q_assign rfl) ?_
  refine vq rfl rfl (q_assign rfl) ?_
  refine vendW ?_
  have hk10 : k0 ≤ 10 := by have := wd_mono (n := x.length - 1) (k := 10) (by omega); omega
  have hyl : (y.take k0).length = k0 := by rw [List.length_take]; omega
  have hgl1 := g1.len
  refine vc_seq ?_
  refine vc_regionW (qm 7) [0, 1, 2] rfl rfl ?_
  refine vq rfl rfl (q_move rfl) ?_
  refine vq rfl rfl (q_callF go54 rfl (fun s => cloneI (l := x) (by omega) ⟨rfl, rfl⟩)) ?_
  refine vq rfl rfl (q_assign rfl) ?_
  refine vendW ?_
  refine vc_seq ?_
  refine vc_seq ?_
  refine vc_regionW (qm 7) [0, 1, 2] rfl rfl ?_
  refine vq rfl rfl (q_move rfl) ?_
  refine vq rfl rfl (q_len sl40 rfl (by first | exact lenM | rfl)) ?_
  refine vq rfl rfl (q_move rfl) ?_
  refine vendW ?_
  refine vc_block ?_
  refine vc_loopS (α := SH) [9, 10, 11, 12, 25, 26, 27, 28, 29, 30, 31, 32, 33, 34, 35, 36, 37, 38, 39, 40, 41, 42, 43, 44, 45, 46, 47, 48, 49, 50, 51] (fun a => [(25, .int (a.i : Int)), (9, ints a.l)]) (fun a => upd s p (bld a.F a.n ins outs)) (fun a => (a.i ≤ k0 ∧ a.l.length = x.length) ∧ Gr n1 a.n (a.i * 4000) ∧ BW a.n a.l ∧ (∀ v, Mod v a.n → wv v a.l = wv v x * 2 ^ (wv v y % 2 ^ a.i) % 2 ^ x.length)) (fun a => k0 - a.i) ⟨0, x, 0, F1, n1⟩ ⟨⟨by simp, rfl⟩, Gr.refl g1.wf _, hx.gr g1, fun v _ => by simp [Nat.mod_one, wv_lt v x, Nat.mod_eq_of_lt (wv_lt v x)]⟩ rfl ⟨rfl, rfl, trivial⟩ (fun _ => rfl) ?_
  intro a ⟨⟨hai, hal⟩, hg, hbw, hv⟩
  refine vc_seq ?_
  refine vc_regionW (qm 1) [0] rfl rfl ?_
  refine vq rfl rfl (q_lt rfl rfl) ?_
  refine vendW ?_
  refine vc_seq ?_
  refine vc_condD rfl (fun hend => ?_) (fun hend => ?_)
  ·
    refine vc_skip ?_
    refine vc_seq ?_
    refine vc_block ?_
    refine vc_seq ?_
    refine vc_regionW (qm 3) [0, 1] rfl rfl ?_
    refine vq rfl rfl (q_move rfl) ?_
    refine vq rfl rfl (q_assign rfl) ?_
    refine vendW ?_
    refine vc_seq ?_
    have hail : a.i < k0 := by omega
    refine vc_regionW (qm 63) [0, 1, 2, 3, 4, 5] rfl rfl ?_
    refine vq rfl rfl (q_move rfl) ?_
    refine vq rfl rfl (q_shl rfl rfl (by omega) (shl1 (i := a.i) (by omega))) ?_
    refine vq rfl rfl (q_move rfl) ?_
    refine vq rfl rfl (q_len sl40 rfl (by first | exact lenM | rfl)) ?_
    refine vq rfl rfl (q_minN rfl rfl) ?_
    refine vq rfl rfl (q_assign rfl) ?_
    refine vendW ?_
    refine vc_seq ?_
    have hgl := hg.len
    have h2i : 0 < 2 ^ a.i := Nat.pow_pos (by decide)
    refine vc_regionDW mx (qm 1531) [0, 1, 3, 4, 5, 6, 7, 8, 2, 9, 10] (by kernel_rfl) ?_
    refine vq rfl rfl (q_move rfl) ?_
    refine vq rfl rfl (q_move rfl) ?_
    refine vq rfl rfl (q_move rfl) ?_
    refine vq rfl rfl (q_move rfl) ?_
    refine vq rfl rfl (q_len sl40 rfl (by first | exact lenM | rfl)) ?_
    refine vq rfl rfl (q_move rfl) ?_
    refine vq rfl rfl (q_sub rfl rfl (show _ = ((x.length - min (2 ^ a.i) x.length : Nat) : Int) by rw [w64 (by omega)]; omega)) ?_
    refine vq rfl rfl (q_sliceM (f := eI) (xs := a.l) 0 (x.length - min (2 ^ a.i) x.length) sl40 rfl rfl rfl (by simp) rfl (by omega)) ?_
    refine ve rfl rfl (e_callF go55 rfl (padZ (w := min (2 ^ a.i) x.length) (upd_same _ _ _) hg.wf (by omega) (by omega) (fun F3 n3 z zx s3 g3 bz lz vz hoz => ?_)))
    refine ve rfl rfl (e_append sl40 zo3 rfl rfl hoz (SrcOK.sl 1 _) (rowsC1_ints _) (by simp [maxLen_eq]; omega) (fun x4 s4 ho4 => ?_))
    refine vq rfl rfl (q_assign rfl) ?_
    refine vendW ?_
    rw [← List.map_append] at ho4
    refine vc_frz (i := 12) ho4 rfl ?_
    refine vc_regionW (qm 383) [0, 1, 2, 3, 4, 5, 6, 7, 8] rfl rfl ?_
    refine vq rfl rfl (q_move rfl) ?_
    refine vq rfl rfl (q_move rfl) ?_
    refine vq rfl rfl (q_move rfl) ?_
    refine vq rfl rfl (q_move rfl) ?_
    refine vq rfl rfl (q_move rfl) ?_
    refine vq rfl rfl (q_index sl40 rfl rfl (by omega) (by first | exact nthI (by omega) | exact nthM (by omega))) ?_
    refine vq rfl rfl (q_load sc3 rfl) ?_
    refine ve rfl rfl (e_callF go105 rfl (pickB (x := a.l) (y := z ++ a.l.take (x.length - min (2 ^ a.i) x.length)) (c := (y.take k0).getD a.i default) (upd_same _ _ _) g3.wf (by have := g3.len; omega) (hbw.gr g3) (bz.app ((hbw.take _).gr g3)) (by omega) (by rw [List.length_append, List.length_take]; omega) ((((hy.take _).get (i := a.i) (by omega)).gr g1 |>.gr hg).gr g3) (fun F5 n5 l5 g5 b5 l5l v5 => ?_)))
    refine vq rfl rfl (q_assign rfl) ?_
    refine vendW ?_
    refine vc_regionW (qm 3) [0, 1] rfl rfl ?_
    refine vq rfl rfl (q_add rfl rfl (w64 (by omega))) ?_
    refine vq rfl rfl (q_move rfl) ?_
    refine vendW ?_
    have HN : (a.i + 1 ≤ k0 ∧ l5.length = x.length) ∧ Gr n1 n5 ((a.i + 1) * 4000) ∧ BW n5 l5 ∧ (∀ v, Mod v n5 → wv v l5 = wv v x * 2 ^ (wv v y % 2 ^ (a.i + 1)) % 2 ^ x.length) := by
      refine ⟨⟨by omega, by rw [l5l, List.length_append, List.length_take]; omega⟩, ((hg.trans g3 (Nat.le_refl _)).trans g5 (by omega)), b5, fun v hu => ?_⟩
      have hu3 := hu.gr g5
      have hua := hu3.gr g3
      have e1 := hv v hua
      have e2 := left_step v (i := a.i) (vz v hu3) lz hal rfl e1
      rw [v5 v hu, mod_bit, wv_bit v y a.i (by omega)]
      have e3 : (y.take k0).getD a.i default = y.getD a.i default := by simp [List.getD_eq_getElem?_getD, List.getElem?_take, hail]
      rw [e3]
      cases hb : bv v (y.getD a.i default)
      · rw [cond_false, cond_false, Nat.add_zero]; exact e1
      · rw [cond_true, cond_true]; exact e2
    refine ⟨⟨a.i + 1, l5, 0, F5, n5⟩, HN, by simp only; omega, ?_, ⟨rfl, rfl, trivial⟩, (by simp only [upd_upd])⟩
    repeat (first | exact Same.refl | refine Same.upd rfl ?_ | refine Same.drop rfl ?_)
  refine vc_exit ?_
  refine vc_seq ?_
  refine vc_regionW (qm 23) [0, 1, 2, 3, 4] rfl rfl ?_
  refine vq rfl rfl (q_move rfl) ?_
  refine vq rfl rfl (q_move rfl) ?_
  refine vq rfl rfl (q_move rfl) ?_
  refine ve rfl rfl (e_callF go179 rfl (noneB (x := a.l) (upd_same _ _ _) hg.wf (by have := hg.len; omega) hbw (by omega) (b1.gr hg) (fun F3 n3 l3 g3 b3 l3l v3 => ?_)))
  refine vq rfl rfl (q_assign rfl) ?_
  refine vendW ?_
  refine vc_ret ?_
  have hax : a.i = k0 := by omega
  exact ret1 rfl rfl (by simp only [upd_upd]; exact Le.refl _) (Cv.le (by simp only [upd_upd]; exact Le.refl _) _) (hk F3 n3 l3 ((g1.trans hg (Nat.le_refl _)).trans g3 (by omega)) b3 (by omega) (fun v hu => by
    have hua := hu.gr g3
    have e1 := hv v hua
    have e2 := v3 v hu
    have e4 := v1 v (hua.gr hg)
    rw [hax] at e1
    by_cases hz : wv v (y.drop k0) = 0
    · rw [amount_no v hz] at e1
      rw [e2, e4]; simp only [hz]; exact e1
    · rw [e2, e4, left_out (amount_ok v h1x hk0 hz)]; simp [hz]))
theorem rightB {p : Nat} {F : List Nat} {nd : List Nd} {ins outs : List Pt} {s : St} {K : AV → St → Prop} (hp : s p = some (bld F nd ins outs)) (hw : WfB nd) (hn : nd.length + 65536 < 2^39) {x y : List Int} (hx : BW nd x) (hy : BW nd y) (h1x : 1 ≤ x.length) (hlx : x.length ≤ 1000) (hly : y.length ≤ 1000) (hk : ∀ F2 n2 l lost, Gr nd n2 65536 → BW n2 l → B1 n2 lost → l.length = x.length → (∀ v, Mod v n2 → wv v l = wv v x / 2 ^ wv v y ∧ bv v lost = decide (wv v x % 2 ^ wv v y ≠ 0)) → K (.tup [ints l, .int lost]) (upd s p (bld F2 n2 ins outs))) : CallsA Try.prog 150 [ptv p 0, ints x, ints y] s K := by
  refine callsA_of Try.func150 rfl rfl (Nat.le_of_ble_eq_true rfl) ?_
  refine vc_seq ?_
  refine vc_regionW (qm 3) [0, 1] rfl rfl ?_
  refine vq rfl rfl (q_assign rfl) ?_
  refine vq rfl rfl (q_assign rfl) ?_
  refine vendW ?_
  refine vc_seq ?_
  refine vc_regionW (qm 1007) [0, 1, 2, 3, 4, 5, 6, 7, 8, 9] rfl rfl ?_
  refine vq rfl rfl (q_move rfl) ?_
  refine vq rfl rfl (q_move rfl) ?_
  refine vq rfl rfl (q_move rfl) ?_
  refine vq rfl rfl (q_len sl40 rfl (by first | exact lenM | rfl)) ?_
  refine ve rfl rfl (e_callF go178 rfl (amountsB (x := y) (n := x.length) hp hw (by omega) hy hly h1x hlx (fun F1 n1 k0 all g1 b1 hk0 v1 => ?_)))
  refine vq rfl rfl (q_move rfl) ?_
  refine vq rfl rfl (q_extract rfl rfl) ?_
  refine vq rfl rfl (q_extract rfl rfl) ?_
  refine vq rfl rfl (q_assign rfl) ?_
  refine vq rfl rfl (q_assign rfl) ?_
  refine vendW ?_
  have hk10 : k0 ≤ 10 := by have := wd_mono (n := x.length - 1) (k := 10) (by omega); omega
  have hyl : (y.take k0).length = k0 := by rw [List.length_take]; omega
  have hgl1 := g1.len
  refine vc_seq ?_
  refine vc_regionW (qm 7) [0, 1, 2] rfl rfl ?_
  refine vq rfl rfl (q_move rfl) ?_
  refine vq rfl rfl (q_callF go54 rfl (fun s => cloneI (l := x) (by omega) ⟨rfl, rfl⟩)) ?_
  refine vq rfl rfl (q_assign rfl) ?_
  refine vendW ?_
  refine vc_seq ?_
  refine vc_regionW (qm 5) [0, 1, 2] rfl rfl ?_
  refine vq rfl rfl (q_move rfl) ?_
  refine ve rfl rfl (e_callF go56 rfl (bitB (b := 0) (upd_same _ _ _) g1.wf (by omega) (fun F2 n2 l0 g2 b2 v2 => ?_)))
  refine vq rfl rfl (q_assign rfl) ?_
  refine vendW ?_
  have hgl2 := g2.len
  refine vc_seq ?_
  refine vc_seq ?_
  refine vc_regionW (qm 7) [0, 1, 2] rfl rfl ?_
  refine vq rfl rfl (q_move rfl) ?_
  refine vq rfl rfl (q_len sl40 rfl (by first | exact lenM | rfl)) ?_
  refine vq rfl rfl (q_move rfl) ?_
  refine vendW ?_
  refine vc_block ?_
  refine vc_loopS (α := SH) [10, 11, 12, 13, 14, 15, 30, 31, 32, 33, 34, 35, 36, 37, 38, 39, 40, 41, 42, 43, 44, 45, 46, 47, 48, 49, 50, 51, 52, 53, 54, 55, 56, 57, 58, 59, 60, 61, 62, 63, 64, 65, 66, 67, 68, 69] (fun a => [(30, .int (a.i : Int)), (10, ints a.l), (11, .int a.o)]) (fun a => upd s p (bld a.F a.n ins outs)) (fun a => (a.i ≤ k0 ∧ a.l.length = x.length) ∧ Gr n2 a.n (a.i * 6000) ∧ BW a.n a.l ∧ B1 a.n a.o ∧ (∀ v, Mod v a.n → wv v a.l = wv v x / 2 ^ (wv v y % 2 ^ a.i) ∧ bv v a.o = decide (wv v x % 2 ^ (wv v y % 2 ^ a.i) ≠ 0))) (fun a => k0 - a.i) ⟨0, x, l0, F2, n2⟩ ⟨⟨by simp, rfl⟩, Gr.refl g2.wf _, (hx.gr g1).gr g2, b2, fun v hu => ⟨by simp [Nat.mod_one], by rw [v2 v hu]; simp [Nat.mod_one]⟩⟩ (by simp only [upd_upd]) ⟨rfl, rfl, rfl, trivial⟩ (fun _ => rfl) ?_
  intro a ⟨⟨hai, hal⟩, hg, hbw, hbo, hv⟩
  refine vc_seq ?_
  refine vc_regionW (qm 1) [0] rfl rfl ?_
  refine vq rfl rfl (q_lt rfl rfl) ?_
  refine vendW ?_
  refine vc_seq ?_
  refine vc_condD rfl (fun hend => ?_) (fun hend => ?_)
  ·
    refine vc_skip ?_
    refine vc_seq ?_
    refine vc_block ?_
    refine vc_seq ?_
    refine vc_regionW (qm 3) [0, 1] rfl rfl ?_
    refine vq rfl rfl (q_move rfl) ?_
    refine vq rfl rfl (q_assign rfl) ?_
    refine vendW ?_
    refine vc_seq ?_
    have hail : a.i < k0 := by omega
    have hgl := hg.len
    have h2i : 0 < 2 ^ a.i := Nat.pow_pos (by decide)
    refine vc_regionW (qm 63) [0, 1, 2, 3, 4, 5] rfl rfl ?_
    refine vq rfl rfl (q_move rfl) ?_
    refine vq rfl rfl (q_shl rfl rfl (by omega) (shl1 (i := a.i) (by omega))) ?_
    refine vq rfl rfl (q_move rfl) ?_
    refine vq rfl rfl (q_len sl40 rfl (by first | exact lenM | rfl)) ?_
    refine vq rfl rfl (q_minN rfl rfl) ?_
    refine vq rfl rfl (q_assign rfl) ?_
    refine vendW ?_
    refine vc_seq ?_
    refine vc_regionDW mx (qm 3039) [0, 1, 2, 3, 4, 6, 7, 8, 9, 5, 10, 11] (by kernel_rfl) ?_
    refine vq rfl rfl (q_move rfl) ?_
    refine vq rfl rfl (q_move rfl) ?_
    refine vq rfl rfl (q_move rfl) ?_
    refine vq rfl rfl (q_move rfl) ?_
    refine vq rfl rfl (q_sliceM (f := eI) (xs := a.l) 0 (min (2 ^ a.i) x.length) sl40 rfl rfl rfl (by simp) rfl (by omega)) ?_
    refine vq rfl rfl (q_move rfl) ?_
    refine vq rfl rfl (q_move rfl) ?_
    refine vq rfl rfl (q_index sl40 rfl rfl (by omega) (by first | exact nthI (by omega) | exact nthM (by omega))) ?_
    refine vq rfl rfl (q_load sc3 rfl) ?_
    refine ve rfl rfl (e_callF go90 rfl (foldB (k := 4) (x := a.l.take (min (2 ^ a.i) x.length)) (upd_same _ _ _) hg.wf (by omega) (hbw.take _) (by rw [List.length_take]; omega) (fun F3 n3 o3 g3 b3 v3 => ?_)))
    refine ve rfl rfl (e_callF go103 rfl (andB (upd_same _ _ _) g3.wf (by have := g3.len; omega) b3 ((((hy.take _).get (i := a.i) (by omega)).gr g1 |>.gr g2 |>.gr hg).gr g3) (fun F4 n4 o4 g4 b4 v4 => ?_)))
    refine vq rfl rfl (q_assign rfl) ?_
    refine vendW ?_
    refine vc_seq ?_
    refine vc_regionW (qm 23) [0, 1, 2, 3, 4] rfl rfl ?_
    refine vq rfl rfl (q_move rfl) ?_
    refine vq rfl rfl (q_move rfl) ?_
    refine vq rfl rfl (q_move rfl) ?_
    refine ve rfl rfl (e_callF go102 rfl (orB (upd_same _ _ _) g4.wf (by have := g3.len; have := g4.len; omega) ((hbo.gr g3).gr g4) b4 (fun F5 n5 o5 g5 b5 v5 => ?_)))
    refine vq rfl rfl (q_assign rfl) ?_
    refine vendW ?_
    refine vc_seq ?_
    refine vc_regionW (qm 311) [0, 1, 2, 3, 4, 5, 6, 7, 8] rfl rfl ?_
    refine vq rfl rfl (q_move rfl) ?_
    refine vq rfl rfl (q_move rfl) ?_
    refine vq rfl rfl (q_sliceM (f := eI) (xs := a.l) (min (2 ^ a.i) x.length) x.length sl40 rfl rfl rfl rfl (by simp [hal]) (by omega)) ?_
    refine ve rfl rfl (e_callF go54 rfl (cloneIO (l := (a.l.take x.length).drop (min (2 ^ a.i) x.length)) (by rw [List.length_drop, List.length_take]; omega) (fun xc sc hoc => ?_)))
    refine vq rfl rfl (q_move rfl) ?_
    refine vq rfl rfl (q_move rfl) ?_
    refine ve rfl rfl (e_callF go55 rfl (padZF (w := min (2 ^ a.i) x.length) (hoc.get (upd_same _ _ _)) g5.wf (by have := g3.len; have := g4.len; have := g5.len; omega) (by omega) (fun F6 n6 z g6 bz lz vz => ?_)))
    refine ve rfl rfl (e_append sl40 zo3 rfl rfl (hoc.put) (SrcOK.sl 1 _) (rowsC1_ints _) (by simp [maxLen_eq]; omega) (fun x7 s7 ho7 => ?_))
    refine vq rfl rfl (q_assign rfl) ?_
    refine vendW ?_
    rw [← List.map_append] at ho7
    refine vc_frz (i := 15) ho7 rfl ?_
    refine vc_regionW (qm 383) [0, 1, 2, 3, 4, 5, 6, 7, 8] rfl rfl ?_
    refine vq rfl rfl (q_move rfl) ?_
    refine vq rfl rfl (q_move rfl) ?_
    refine vq rfl rfl (q_move rfl) ?_
    refine vq rfl rfl (q_move rfl) ?_
    refine vq rfl rfl (q_move rfl) ?_
    refine vq rfl rfl (q_index sl40 rfl rfl (by omega) (by first | exact nthI (by omega) | exact nthM (by omega))) ?_
    refine vq rfl rfl (q_load sc3 rfl) ?_
    refine ve rfl rfl (e_callF go105 rfl (pickB (x := a.l) (y := (a.l.take x.length).drop (min (2 ^ a.i) x.length) ++ z) (c := (y.take k0).getD a.i default) (upd_same _ _ _) g6.wf (by have := g3.len; have := g4.len; have := g5.len; have := g6.len; omega) ((((hbw.gr g3).gr g4).gr g5).gr g6) ((((((hbw.take _).drop _).gr g3).gr g4).gr g5 |>.gr g6).app bz) (by omega) (by rw [List.length_append, List.length_drop, List.length_take]; omega) ((((((((hy.take _).get (i := a.i) (by omega)).gr g1).gr g2).gr hg).gr g3).gr g4).gr g5 |>.gr g6) (fun F8 n8 l8 g8 b8 l8l v8 => ?_)))
    refine vq rfl rfl (q_assign rfl) ?_
    refine vendW ?_
    refine vc_regionW (qm 3) [0, 1] rfl rfl ?_
    refine vq rfl rfl (q_add rfl rfl (w64 (by omega))) ?_
    refine vq rfl rfl (q_move rfl) ?_
    refine vendW ?_
    have HN : (a.i + 1 ≤ k0 ∧ l8.length = x.length) ∧ Gr n2 n8 ((a.i + 1) * 6000) ∧ BW n8 l8 ∧ B1 n8 o5 ∧ (∀ v, Mod v n8 → wv v l8 = wv v x / 2 ^ (wv v y % 2 ^ (a.i + 1)) ∧ bv v o5 = decide (wv v x % 2 ^ (wv v y % 2 ^ (a.i + 1)) ≠ 0)) := by
      refine ⟨⟨by omega, by rw [l8l, List.length_append, List.length_drop, List.length_take]; omega⟩, (((((hg.trans g3 (Nat.le_refl _)).trans g4 (Nat.le_refl _)).trans g5 (Nat.le_refl _)).trans g6 (Nat.le_refl _)).trans g8 (by omega)), b8, (b5.gr g6).gr g8, fun v hu => ?_⟩
      have hu6 := hu.gr g8
      have hu5 := hu6.gr g6
      have hu4 := hu5.gr g5
      have hu3 := hu4.gr g4
      have hua := hu3.gr g3
      obtain ⟨e1, f1⟩ := hv v hua
      have et : a.l.take x.length = a.l := List.take_of_length_le (by omega)
      have e2 := right_step v (i := a.i) (vz v hu6) hal rfl e1
      have e3 : (y.take k0).getD a.i default = y.getD a.i default := by simp [List.getD_eq_getElem?_getD, List.getElem?_take, hail]
      have f2 := lost_step v (i := a.i) (b := bv v (y.getD a.i default)) hal rfl e1
      rw [mod_bit, wv_bit v y a.i (by omega)]
      refine ⟨?_, by rw [v5 v hu5, v4 v hu4, v3 v hu3, f1, e3, gall_or]; exact f2⟩
      rw [v8 v hu, e3, et]
      cases hb : bv v (y.getD a.i default)
      · rw [cond_false, cond_false, Nat.add_zero]; exact e1
      · rw [cond_true, cond_true]; exact e2
    refine ⟨⟨a.i + 1, l8, o5, F8, n8⟩, HN, by simp only; omega, ?_, ⟨rfl, rfl, rfl, trivial⟩, (by simp only [upd_upd])⟩
    repeat (first | exact Same.refl | refine Same.upd rfl ?_ | refine Same.drop rfl ?_)
  refine vc_exit ?_
  refine vc_seq ?_
  refine vc_regionW (qm 575) [0, 1, 2, 3, 4, 5, 6, 7, 8, 9] rfl rfl ?_
  refine vq rfl rfl (q_move rfl) ?_
  refine vq rfl rfl (q_move rfl) ?_
  refine vq rfl rfl (q_move rfl) ?_
  refine vq rfl rfl (q_move rfl) ?_
  refine vq rfl rfl (q_move rfl) ?_
  refine vq rfl rfl (q_move rfl) ?_
  refine ve rfl rfl (e_callF go90 rfl (foldB (k := 4) (x := x) (upd_same _ _ _) hg.wf (by have := hg.len; omega) (((hx.gr g1).gr g2).gr hg) hlx (fun F3 n3 o3 g3 b3 v3 => ?_)))
  refine ve rfl rfl (e_callF go103 rfl (andB (upd_same _ _ _) g3.wf (by have := hg.len; have := g3.len; omega) (((b1.gr g2).gr hg).gr g3) b3 (fun F4 n4 o4 g4 b4 v4 => ?_)))
  refine ve rfl rfl (e_callF go102 rfl (orB (upd_same _ _ _) g4.wf (by have := hg.len; have := g3.len; have := g4.len; omega) ((hbo.gr g3).gr g4) b4 (fun F5 n5 o5 g5 b5 v5 => ?_)))
  refine vq rfl rfl (q_assign rfl) ?_
  refine vendW ?_
  refine vc_seq ?_
  refine vc_regionW (qm 119) [0, 1, 2, 3, 4, 5, 6] rfl rfl ?_
  refine vq rfl rfl (q_move rfl) ?_
  refine vq rfl rfl (q_move rfl) ?_
  refine vq rfl rfl (q_move rfl) ?_
  refine ve rfl rfl (e_callF go179 rfl (noneB (x := a.l) (upd_same _ _ _) g5.wf (by have := hg.len; have := g3.len; have := g4.len; have := g5.len; omega) (((hbw.gr g3).gr g4).gr g5) (by omega) (((((b1.gr g2).gr hg).gr g3).gr g4).gr g5) (fun F6 n6 l6 g6 b6 l6l v6 => ?_)))
  refine vq rfl rfl (q_move rfl) ?_
  refine vq rfl rfl (q_assign rfl) ?_
  refine vq rfl rfl (q_assign rfl) ?_
  refine vendW ?_
  refine vc_ret ?_
  have hax : a.i = k0 := by omega
  exact ret2 rfl rfl rfl (by simp only [upd_upd]; exact Le.refl _) (Cv.le (by simp only [upd_upd]; exact Le.refl _) _) (Cv.le (by simp only [upd_upd]; exact Le.refl _) _) (hk F6 n6 l6 o5 ((((((g1.trans g2 (Nat.le_refl _)).trans hg (Nat.le_refl _)).trans g3 (Nat.le_refl _)).trans g4 (Nat.le_refl _)).trans g5 (Nat.le_refl _)).trans g6 (by omega)) b6 (b5.gr g6) (by omega) (fun v hu => by
    have hu5 := hu.gr g6
    have hu4 := hu5.gr g5
    have hu3 := hu4.gr g4
    have hua := hu3.gr g3
    obtain ⟨e1, f1⟩ := hv v hua
    have e2 := v6 v hu
    have e4 := v1 v ((hua.gr hg).gr g2)
    rw [hax] at e1 f1
    rw [e2, v5 v hu5, v4 v hu4, v3 v hu3, f1, e4, gall_or]
    by_cases hz : wv v (y.drop k0) = 0
    · rw [amount_no v hz] at e1 ⊢
      simp only [hz]; exact ⟨e1, by simp⟩
    · have h3 := amount_ok v h1x hk0 hz
      have h4 := wv_lt v x
      rw [right_out h4 h3, Nat.mod_eq_of_lt (Nat.lt_of_lt_of_le h4 (Nat.pow_le_pow_right (by decide) h3))]
      refine ⟨by simp [hz], ?_⟩
      exact lost_all hz))
end Go.Proofs.Ytpcpdepfnoijoaa

set_option linter.unusedVariables false
set_option linter.unusedSimpArgs false
set_option maxRecDepth 100000
namespace Go.Proofs.Ytpcpdepfnoijoaa
open Go.Vc
structure LD where
  i : Nat
  l : List Int
  r : List Int
  F : List Nat
  n : List Nd
  st : St
structure LDok (s : St) (p : Nat) (ins outs : List Pt) (nd : List Nd) (k7 k : Nat) (x : List Int) (a : LD) : Prop where
  hi : a.i ≤ k
  hl : a.l.length = 2 ^ (k - a.i)
  hr : a.r.length = a.i
  ho : OwnSt (upd s p (bld a.F a.n ins outs)) (.hdr k7 1 k) 3 1 ((List.replicate (k - a.i) (0 : Int) ++ a.r).map eI) a.st
  g : Gr nd a.n (a.i * 5000)
  bl : BW a.n a.l
  br : BW a.n a.r
  v : ∀ v, Mod v a.n → wv v a.l ≠ 0 ∧ wv v a.r * 2 ^ (k - a.i) + (2 ^ (k - a.i) - wd (wv v a.l)) = x.length - wd (wv v x)
theorem LDok.hp {s : St} {p : Nat} {ins outs : List Pt} {nd : List Nd} {k7 k : Nat} {x : List Int} {a : LD} (h : LDok s p ins outs nd k7 k x a) : a.st p = some (bld a.F a.n ins outs) := h.ho.get (upd_same _ _ _)
theorem LDok.ne {s : St} {p : Nat} {ins outs : List Pt} {nd : List Nd} {k7 k : Nat} {x : List Int} {a : LD} (h : LDok s p ins outs nd k7 k x a) : p ≠ k7 := fun e => by
  have h1 := h.ho.cell
  rw [← e, h.hp] at h1; cases h1
theorem leadB {p : Nat} {F : List Nat} {nd : List Nd} {ins outs : List Pt} {s : St} {K : AV → St → Prop} (hp : s p = some (bld F nd ins outs)) (hw : WfB nd) (hn : nd.length + 65536 < 2^39) {x : List Int} (hx : BW nd x) (h1x : 1 ≤ x.length) (hlx : x.length ≤ 1000) (hk : ∀ F2 n2 l, Gr nd n2 65536 → BW n2 l → l.length = wd x.length → (∀ v, Mod v n2 → wv v l = x.length - wd (wv v x)) → K (ints l) (upd s p (bld F2 n2 ins outs))) : CallsA Try.prog 145 [ptv p 0, ints x] s K := by
  obtain ⟨hk1, hk2⟩ : 2 ^ (wd x.length - 1) ≤ x.length ∧ x.length < 2 ^ wd x.length := ⟨wd_le (by omega), wd_lt _⟩
  have hk3 := wd_pos (n := x.length) (by omega)
  have hk4 : wd x.length ≤ 10 := wd_mono (by omega)
  have hk5 : 2 ^ wd x.length = 2 * 2 ^ (wd x.length - 1) := by rw [Nat.mul_comm, ← Nat.pow_succ]; congr 1; omega
  have hfp : 0 < (2 ^ wd x.length - x.length) := by omega
  refine callsA_of Try.func145 rfl rfl (Nat.le_of_ble_eq_true rfl) ?_
  refine vc_seq ?_
  refine vc_regionW (qm 1) [0] rfl rfl ?_
  refine vq rfl rfl (q_assign rfl) ?_
  refine vendW ?_
  refine vc_seq ?_
  refine vc_regionW (qm 15) [0, 1, 2, 3] rfl rfl ?_
  refine vq rfl rfl (q_move rfl) ?_
  refine vq rfl rfl (q_len sl40 rfl (by first | exact lenM | rfl)) ?_
  refine vq rfl rfl (q_callF go99 rfl (fun s => wideN (n := x.length) (by omega) ⟨rfl, rfl⟩)) ?_
  refine vq rfl rfl (q_assign rfl) ?_
  refine vendW ?_
  refine vc_seq ?_
  refine vc_seq ?_
  refine vc_regionW (qm 3) [0, 1] rfl rfl ?_
  refine vq rfl rfl (q_move rfl) ?_
  refine vq rfl rfl (q_eq rfl rfl) ?_
  refine vendW ?_
  refine vc_condF rfl (by simp; omega) ?_
  refine vc_skip ?_
  refine vc_seq ?_
  refine vc_regionW (qm 1) [0] rfl rfl ?_
  refine vq rfl rfl (q_assign rfl) ?_
  refine vendW ?_
  refine vc_seq ?_
  refine vc_seq ?_
  refine vc_regionW (qm 63) [0, 1, 2, 3, 4, 5] rfl rfl ?_
  refine vq rfl rfl (q_move rfl) ?_
  refine vq rfl rfl (q_shl rfl rfl (by omega) (shl1 (i := wd x.length) (by omega))) ?_
  refine vq rfl rfl (q_move rfl) ?_
  refine vq rfl rfl (q_len sl40 rfl (by first | exact lenM | rfl)) ?_
  refine vq rfl rfl (q_sub rfl rfl (show _ = (((2 ^ wd x.length - x.length) : Nat) : Int) by rw [w64 (by omega)]; omega)) ?_
  refine vq rfl rfl (q_move rfl) ?_
  refine vendW ?_
  refine vc_block ?_
  refine vc_loopS (α := LB) [6, 21, 22, 23, 24, 25, 26, 27, 28] (fun a => [(21, .int (a.i : Int)), (6, a.x)]) (fun a => a.st) (fun a => ((a.i ≤ (2 ^ wd x.length - x.length) ∧ a.l.length = a.i) ∧ (∀ v, Mod v a.n → ∀ j, j < a.i → bv v (a.l.getD j default) = true)) ∧ LBok s p ins outs nd a.i a) (fun a => (2 ^ wd x.length - x.length) - a.i) ⟨0, nilS, [], F, nd, s⟩ ⟨⟨⟨by simp, rfl⟩, fun v _ j hj => by simp at hj⟩, ⟨by rw [upd_self _ _ _ hp]; exact OwnSt.nil _ _ _, Gr.refl hw _, BW.nil⟩⟩ rfl ⟨rfl, rfl, trivial⟩ (fun _ => rfl) ?_
  intro a ⟨⟨⟨hai, hal⟩, hv⟩, hok⟩
  refine vc_seq ?_
  refine vc_regionW (qm 1) [0] rfl rfl ?_
  refine vq rfl rfl (q_lt rfl rfl) ?_
  refine vendW ?_
  refine vc_seq ?_
  refine vc_condD rfl (fun hend => ?_) (fun hend => ?_)
  ·
    refine vc_skip ?_
    refine vc_seq ?_
    refine vc_block ?_
    refine vc_regionW (qm 43) [0, 1, 2, 3, 4, 5] rfl rfl ?_
    refine vq rfl rfl (q_move rfl) ?_
    refine vq rfl rfl (q_move rfl) ?_
    refine ve rfl rfl (e_callF go56 rfl (bitB (b := 1) hok.hp hok.g.wf (by have := hok.g.len; omega) (fun F2 n2 o g2 b2 v2 => ?_)))
    refine vq rfl rfl (q_buildS sl40 zo3 (by decide) rfl rfl rfl rfl (by decide)) ?_
    refine ve rfl rfl (e_append sl40 zo3 rfl rfl hok.ho.put (SrcOK.slx 1 _) (rowsC1_one rfl) (by simp [maxLen_eq]; omega) (fun x3 s3 ho3 => ?_))
    refine vq rfl rfl (q_assign rfl) ?_
    refine vendW ?_
    refine vc_regionW (qm 3) [0, 1] rfl rfl ?_
    refine vq rfl rfl (q_add rfl rfl (w64 (by omega))) ?_
    refine vq rfl rfl (q_move rfl) ?_
    refine vendW ?_
    have hst : ∀ v, Mod v n2 → ∀ j, j < a.i + 1 → bv v ((a.l ++ [o]).getD j default) = true := fun v hm j hj => by
      by_cases e : j = a.i
      · subst e; rw [← hal, getD_end, v2 v hm]; rfl
      · rw [getD_front (by omega), hv v (hm.gr g2) j (by omega)]
    refine ⟨⟨a.i + 1, x3, a.l ++ [o], F2, n2, s3⟩, ⟨⟨⟨by simp only; omega, by simp only [List.length_append, List.length_singleton]; omega⟩, hst⟩, ⟨by rw [List.map_append]; exact ho3, hok.g.trans g2 (by simp), (hok.bw.gr g2).app (BW.one b2)⟩⟩, by simp only; omega, ?_, ⟨rfl, rfl, trivial⟩, rfl⟩
    repeat (first | exact Same.refl | refine Same.upd rfl ?_ | refine Same.drop rfl ?_)
  refine vc_exit ?_
  refine vc_seq ?_
  refine vc_regionW (qm 11) [0, 1, 2, 3] rfl rfl ?_
  refine vq rfl rfl (q_move rfl) ?_
  refine vq rfl rfl (q_move rfl) ?_
  refine ve rfl rfl (e_append sl40 zo3 rfl rfl hok.ho (SrcOK.sl 1 _) (rowsC1_ints _) (by simp [maxLen_eq]; omega) (fun x4 s4 ho4 => ?_))
  refine vq rfl rfl (q_assign rfl) ?_
  refine vendW ?_
  refine vc_seq ?_
  rw [← List.map_append] at ho4
  refine vc_frz (i := 6) ho4 rfl ?_
  have hax : a.i = (2 ^ wd x.length - x.length) := by omega
  have hagl := hok.g.len
  refine vc_regionW (qm 5) [0, 1, 2] rfl rfl ?_
  refine vq rfl rfl (q_move rfl) ?_
  refine ve rfl rfl (e_make sl40 zr3 rfl (List.cons_ne_nil _ _) rfl rfl (by omega) (by omega) (by omega) (by omega) (fun k7 hk7 => ?_))
  refine vq rfl rfl (q_assign rfl) ?_
  refine vendW ?_
  refine vc_seq ?_
  refine vc_seq ?_
  refine vc_regionW (qm 3) [0, 1] rfl rfl ?_
  refine vq rfl rfl (q_move rfl) ?_
  refine vq rfl rfl (q_move rfl) ?_
  refine vendW ?_
  refine vc_block ?_
  refine vc_loopS (α := LD) [6, 8, 9, 10, 35, 36, 37, 38, 39, 40, 41, 42, 43, 44, 45, 46, 47, 48, 49, 50, 51, 52, 53, 54, 55, 56, 57, 58, 59, 60, 61, 62, 63, 64] (fun d => [(35, .int (d.i : Int)), (6, ints d.l)]) (fun d => d.st) (fun d => LDok s p ins outs a.n k7 (wd x.length) x d) (fun d => wd x.length - d.i) ⟨0, a.l ++ x, [], a.F, a.n, _⟩ ⟨by simp, by simp only [List.length_append]; rw [Nat.sub_zero]; omega, rfl, by rw [List.append_nil, List.map_replicate]; exact OwnSt.mk hk7 (by simp), Gr.refl hok.g.wf _, hok.bw.app (hx.gr hok.g), BW.nil, fun v hu => lead_init v (hv v hu) (by omega) hfp (by omega)⟩ rfl ⟨rfl, rfl, trivial⟩ (fun _ => rfl) ?_
  intro d hd
  refine vc_seq ?_
  refine vc_regionW (qm 1) [0] rfl rfl ?_
  refine vq rfl rfl (q_lt rfl rfl) ?_
  refine vendW ?_
  refine vc_seq ?_
  refine vc_condD rfl (fun h36 => ?_) (fun h36 => ?_)
  ·
    refine vc_skip ?_
    refine vc_seq ?_
    refine vc_block ?_
    refine vc_seq ?_
    refine vc_regionW (qm 3) [0, 1] rfl rfl ?_
    refine vq rfl rfl (q_move rfl) ?_
    refine vq rfl rfl (q_assign rfl) ?_
    refine vendW ?_
    refine vc_seq ?_
    have hdi : d.i < wd x.length := by omega
    have hdl := hd.hl
    have hh : 2 ^ (wd x.length - d.i) = 2 ^ (wd x.length - (d.i + 1)) + 2 ^ (wd x.length - (d.i + 1)) := by rw [show wd x.length - d.i = wd x.length - (d.i + 1) + 1 by omega, Nat.pow_succ]; omega
    have hh2 := Nat.pow_le_pow_right (n := 2) (by decide) (show wd x.length - (d.i + 1) ≤ wd x.length - 1 by omega)
    have hdg := hd.g.len
    have hdr := hd.hr
    have hh3 : 0 < 2 ^ (wd x.length - (d.i + 1)) := Nat.pow_pos (by decide)
    refine vc_regionW (qm 15) [0, 1, 2, 3] rfl rfl ?_
    refine vq rfl rfl (q_move rfl) ?_
    refine vq rfl rfl (q_len sl40 rfl (by first | exact lenM | rfl)) ?_
    refine vq rfl rfl (q_quo rfl rfl (by omega) (quo2 (h := 2 ^ (wd x.length - (d.i + 1))) (by omega) (by omega))) ?_
    refine vq rfl rfl (q_assign rfl) ?_
    refine vendW ?_
    refine vc_seq ?_
    refine vc_regionW (qm 159) [0, 1, 2, 3, 4, 5, 6, 7] rfl rfl ?_
    refine vq rfl rfl (q_move rfl) ?_
    refine vq rfl rfl (q_move rfl) ?_
    refine vq rfl rfl (q_move rfl) ?_
    refine vq rfl rfl (q_move rfl) ?_
    refine vq rfl rfl (q_sliceM (f := eI) (xs := d.l) (2 ^ (wd x.length - (d.i + 1))) d.l.length sl40 rfl rfl rfl rfl (by simp) (by omega)) ?_
    refine ve rfl rfl (e_callF go90 rfl (foldB (k := 4) (x := (d.l.take d.l.length).drop (2 ^ (wd x.length - (d.i + 1)))) hd.hp hd.g.wf (by omega) ((hd.bl.take _).drop _) (by rw [List.length_drop, List.length_take]; omega) (fun F3 n3 o3 g3 b3 v3 => ?_)))
    refine ve rfl rfl (e_callF go89 rfl (notB (upd_same _ _ _) g3.wf (by have := g3.len; omega) b3 (fun F4 n4 z g4 b4 v4 => ?_)))
    refine vq rfl rfl (q_assign rfl) ?_
    refine vendW ?_
    refine vc_seq ?_
    refine vc_regionW (qm 127) [0, 1, 2, 3, 4, 5, 6, 7] rfl rfl ?_
    refine vq rfl rfl (q_move rfl) ?_
    refine vq rfl rfl (q_move rfl) ?_
    refine vq rfl rfl (q_sub rfl rfl (show _ = ((wd x.length - 1 : Nat) : Int) by rw [w64 (by omega)]; omega)) ?_
    refine vq rfl rfl (q_move rfl) ?_
    refine vq rfl rfl (q_sub rfl rfl (show _ = ((wd x.length - (d.i + 1) : Nat) : Int) by rw [w64 (by omega)]; omega)) ?_
    refine vq rfl rfl (q_move rfl) ?_
    refine vq rfl rfl (q_indexH sl40 rfl rfl (by omega) (by omega)) ?_
    refine vn rfl rfl (e_storeE sz3 rfl rfl rfl (by rw [upd_upd]; exact hd.ho.put.cell) (nthM (by rw [List.length_append, List.length_replicate]; omega)) rfl ?_)
    refine vendW ?_
    refine vc_regionDW mx (qm 767) [0, 1, 2, 3, 4, 5, 6, 7, 8, 9] (by kernel_rfl) ?_
    refine vq rfl rfl (q_move rfl) ?_
    refine vq rfl rfl (q_move rfl) ?_
    refine vq rfl rfl (q_move rfl) ?_
    refine vq rfl rfl (q_sliceM (f := eI) (xs := d.l) (2 ^ (wd x.length - (d.i + 1))) d.l.length sl40 rfl rfl rfl rfl (by simp) (by omega)) ?_
    refine vq rfl rfl (q_move rfl) ?_
    refine vq rfl rfl (q_move rfl) ?_
    refine vq rfl rfl (q_sliceM (f := eI) (xs := d.l) 0 (2 ^ (wd x.length - (d.i + 1))) sl40 rfl rfl rfl (by simp) rfl (by omega)) ?_
    refine vq rfl rfl (q_move rfl) ?_
    refine ve rfl rfl (e_callF go105 rfl (pickB (x := (d.l.take d.l.length).drop (2 ^ (wd x.length - (d.i + 1)))) (y := d.l.take (2 ^ (wd x.length - (d.i + 1)))) (by rw [upd_ne _ _ hd.ne]; exact upd_same _ _ _) g4.wf (by have := g3.len; have := g4.len; omega) (((hd.bl.take _).drop _).gr g3 |>.gr g4) ((hd.bl.take _).gr g3 |>.gr g4) (by rw [List.length_drop, List.length_take]; omega) (by rw [List.length_take]; omega) b4 (fun F5 n5 l5 g5 b5 l5l v5 => ?_)))
    refine vq rfl rfl (q_assign rfl) ?_
    refine vendW ?_
    refine vc_regionW (qm 3) [0, 1] rfl rfl ?_
    refine vq rfl rfl (q_add rfl rfl (w64 (by omega))) ?_
    refine vq rfl rfl (q_move rfl) ?_
    refine vendW ?_
    have e16 : ((List.replicate (wd x.length - d.i) (0 : Int) ++ d.r).map eI).set (wd x.length - (d.i + 1)) (eI z) = (List.replicate (wd x.length - (d.i + 1)) (0 : Int) ++ z :: d.r).map eI := by rw [← List.map_set, lead_set (by omega)]
    have HN : LDok s p ins outs a.n k7 (wd x.length) x ⟨d.i + 1, l5, z :: d.r, F5, n5, upd (upd (upd d.st p (bld F4 n4 ins outs)) k7 (.arr 3 1 ((List.replicate (wd x.length - (d.i + 1)) (0 : Int) ++ z :: d.r).map eI))) p (bld F5 n5 ins outs)⟩ := by
      refine ⟨by simp only; omega, by simp only; rw [l5l, List.length_drop, List.length_take, List.length_take]; omega, by simp only [List.length_cons]; omega, ((hd.ho.put (r' := bld F4 n4 ins outs)).set (by simp only [List.length_map, List.length_append, List.length_replicate, List.length_cons]; omega)).put, ((hd.g.trans g3 (Nat.le_refl _)).trans g4 (Nat.le_refl _)).trans g5 (by simp only; omega), b5, BW.cons (b4.gr g5) (((hd.br.gr g3).gr g4).gr g5), fun v hu => ?_⟩
      have hu4 := hu.gr g5
      have hu3 := hu4.gr g4
      have hud := hu3.gr g3
      have e1 := hd.v v hud
      have e2 := v5 v hu
      have e3 := v4 v hu4
      rw [v3 v hu3, gall_or] at e3
      rw [List.take_length] at e2 e3
      exact lead_next v hdl hh e1.1 e1.2 e2 e3 rfl
    refine ⟨⟨d.i + 1, l5, z :: d.r, F5, n5, upd (upd (upd d.st p (bld F4 n4 ins outs)) k7 (.arr 3 1 ((List.replicate (wd x.length - (d.i + 1)) (0 : Int) ++ z :: d.r).map eI))) p (bld F5 n5 ins outs)⟩, HN, by simp only; omega, ?_, ⟨rfl, rfl, trivial⟩, (by rw [upd_upd]; exact congrArg (fun q => upd (upd _ k7 (Res.arr 3 1 q)) p _) e16)⟩
    repeat (first | exact Same.refl | refine Same.upd rfl ?_ | refine Same.drop rfl ?_)
  refine vc_exit ?_
  refine vc_seq ?_
  refine vc_regionW (qm 3) [0, 1] rfl rfl ?_
  refine vq rfl rfl (q_move rfl) ?_
  refine vq rfl rfl (q_assign rfl) ?_
  refine vendW ?_
  refine vc_ret ?_
  have hdx : d.i = wd x.length := by have := hd.hi; omega
  have ho9 := hd.ho
  rw [hdx, Nat.sub_self, List.replicate_zero, List.nil_append] at ho9
  exact ret1 rfl rfl ho9.le ho9.frz (hk _ _ d.r (hok.g.trans hd.g (by omega)) hd.br (by have := hd.hr; omega) (fun v hu => by
    have e1 := hd.v v hu
    have e2 := hd.hl
    rw [hdx, Nat.sub_self] at e1 e2
    exact lead_fin v e2 e1.1 e1.2))
end Go.Proofs.Ytpcpdepfnoijoaa

set_option linter.unusedVariables false
set_option linter.unusedSimpArgs false
namespace Go.Vc
abbrev svv (k off n cap : Nat) : AV := .v (.slice (some ⟨k, off, none⟩) n cap)
section
variable {P : Program} {env : Env} {s : St} {d : Option Nat} {ty : TypeId} {pos : String} {af : Array Edge} {gd : Option (Nat × Bool)}
variable {a b : Operand} {x y : AV} {t t2 : TypeId} {K : AV → St → Prop}
theorem e_makeX {e sz bb : Nat} {zs : List Value} {k1 k2 : IntKind} {l c : Int} (hT : slT P t = some (e, sz, bb)) (hz : zrA P e = some zs) (hzl : zs.length = sz) (hz0 : zs ≠ []) (ha : evA env a = some (.v (.int k1 l))) (hb : evA env b = some (.v (.int k2 c)))
    (h0 : 0 ≤ l) (h1 : l ≤ c) (hc : (bb : Int) * c ≤ 281474976710656) (hc2 : c ≤ 9223372036854775807) (h : ∀ k, s k = none → K (svv k 0 l.toNat c.toNat) (upd s k (.arr e sz (List.replicate l.toNat (zs.map .v))))) :
    EffOK P ⟨d, .makeSlice t a b, ty, pos, af, gd⟩ env s K := by
  intro w ρ hs hr
  have ha' : ρ a = _ := hr.1 a (by simp [Op.operands]) _ ha
  have hb' : ρ b = _ := hr.1 b (by simp [Op.operands]) _ hb
  obtain ⟨hut, i, hi, hsz, hbb⟩ := slT_spec hT
  have hz' := hz
  unfold zrA at hz'
  rw [hi] at hz'
  cases hzi : i.zero with
  | none => simp [hzi] at hz'
  | some z =>
    simp only [hzi] at hz'
    cases hbq : Nat.beq z.cells.size i.size <;> simp only [hbq, cond_true, cond_false] at hz'
    · cases hz'
    · cases hz'
      have hzs : z.cells.size = sz := by simpa using hzl
      have hrun0 := run_make (P := P) w t e i z hut hi hzi k1 k2 l c h0 h1 (by rw [hbb]; exact hc) hc2
      rw [hsz, ← hzs] at hrun0
      have hcell : (madeCells z.cells (c.toNat * z.cells.size)).toList = (List.replicate l.toNat z.cells.toList).flatten ++ (List.replicate (c.toNat - l.toNat) z.cells.toList).flatten := by
        rw [madeCells_list z.cells hz0, ← List.flatten_append, List.replicate_append_replicate]
        congr 2
        omega
      have hfl : ((List.replicate l.toNat z.cells.toList).flatten).length = l.toNat * sz := by simp [hzs]
      obtain ⟨g1, g2⟩ := newE hs (madeCells z.cells (c.toNat * z.cells.size)) e (.arr e sz (List.replicate l.toNat (z.cells.toList.map .v))) (fun b hb => hb)
        (fun f => ⟨c.toNat, _, heap_alloc_new w _, by rw [size_madeCells, hzs], by simp; omega, by simp only [maxLen]; omega, by
          rw [hcell]
          simp only [List.length_replicate]
          rw [List.take_append_of_le_length (by omega), List.take_of_length_le (by omega)]
          have := zero_rows (w := w.alloc (.cells (madeCells z.cells (c.toNat * z.cells.size)) e)) (M := Mut (upd s w.heap.size (.arr e sz (List.replicate l.toNat (z.cells.toList.map .v))))) z.cells.toList l.toNat
          simpa [hzs] using this⟩)
      have hrun : (execOp ρ ⟨d, .makeSlice t a b, ty, pos, af, gd⟩).run P w = .ok (.value (.slice (some ⟨w.heap.size, 0, none⟩) l.toNat c.toNat)) (w.alloc (.cells (madeCells z.cells (c.toNat * z.cells.size)) e)) := by
        simp [execOp, ha', hb', hrun0]
      rw [hrun]
      exact ⟨svv w.heap.size 0 l.toNat c.toNat, _, rfl, g1, g2, h _ (Mut.none_of_ge hs (Nat.le_refl _))⟩
theorem q_lenX {e : Nat × Nat × Nat} {k off n cap : Nat} (hT : slT P t = some e) (ha : evA env a = some (svv k off n cap)) : QOK P ⟨d, .call ⟨.builtin .len, #[a], #[t]⟩, ty, pos, af, gd⟩ env (.int (n : Int)) :=
  q_of fun w s ρ hs hr => by
    have h1 : ρ a = _ := hr.1 a (by simp [Op.operands, Call.operands]) _ ha
    obtain ⟨hu, _⟩ := slT_spec (e := e.1) (sz := e.2.1) (b := e.2.2) hT
    exact ⟨_, by simp [execOp, resolve, invoke, builtin, h1, Builtin.len_, run_underlying hu, goInt], rfl⟩
theorem q_slX {e bb k off n cap : Nat} {lo hi : Option Operand} {l' h' : Int} (l h : Nat) (hT : slT P t = some (e, 1, bb)) (ha : evA env a = some (svv k off n cap)) (hl : loV lo env = some l') (hh : hiV n hi env = some h') (e1 : l' = l) (e2 : h' = h)
    (h1 : l ≤ h) (h2 : h ≤ n) (h3 : n ≤ cap) (h4 : l < cap) : QOK P ⟨d, .slice t a lo hi none, ty, pos, af, gd⟩ env (svv k (off + l) (h - l) (cap - l)) :=
  q_of fun w s ρ hs hr => by
    subst e1 e2
    have g1 : ρ a = _ := hr.1 a (by simp [Op.operands]) _ ha
    have hrun := run_sl (P := P) (ρ := ρ) (w := w) (ad := some ⟨k, off, none⟩) (len := n) (cap := cap) hT (fun o n k ho he => hr.1 o (by rcases ho with rfl | rfl <;> simp [Op.operands]) _ he) hl hh (by omega) (by omega) (by omega) h3
    refine ⟨_, by simp [execOp, g1, hrun]; rfl, ?_⟩
    show _ = _
    simp only [sliced, Int.toNat_natCast, Nat.mul_one]
    rw [if_neg (by omega)]
    simp only [Option.map_some, Addr.add_lit]
theorem SrcOK.pre {k e m c : Nat} {xs : List (List AV)} (hk : s k = some (.arr e 1 xs)) (hm : m ≤ xs.length) : SrcOK s (svv k 0 m c) 1 (xs.take m) := by
  rintro w v hs rfl
  obtain ⟨cap', cur, g1, g2, g3, g4, g5⟩ := hs.ok k _ hk
  have hsp := (RepRows.split (xs := xs.take m) (ys := xs.drop m)).1 (by rw [List.take_append_drop]; exact g5)
  obtain ⟨u, u', e1, e2, e3⟩ := hsp
  refine ⟨_, c, u, by rw [List.length_take, Nat.min_eq_left hm], e2, .inr ⟨k, 0, rfl, fun j z hj => ?_⟩⟩
  rw [Nat.zero_add, cell_res g1]
  have h1 : (cur.toList.take (xs.length * 1))[j]? = some z := by
    rw [e1, List.getElem?_append_left (List.getElem?_eq_some_iff.1 hj).1]; exact hj
  rw [List.getElem?_take] at h1
  split at h1
  · simpa using h1
  · cases h1
theorem e_copyX {e bb kd off n cap : Nat} {xs ys : List (List AV)} {ts : TypeId} (hT : slT P t = some (e, 1, bb)) (ha : evA env a = some (svv kd off n cap)) (hb : evA env b = some y) (hk : s kd = some (.arr e 1 xs)) (hsrc : SrcOK s y 1 ys) (hc : rowsC1 ys)
    (hf : off + n = xs.length) (hy0 : ys ≠ [])
    (h : K (.int ((min ys.length n : Nat) : Int)) (upd s kd (.arr e 1 (xs.take off ++ ys.take (min ys.length n) ++ xs.drop (off + min ys.length n))))) : EffOK P ⟨d, .call ⟨.builtin .copy, #[a, b], #[t, ts]⟩, ty, pos, af, gd⟩ env s K := by
  intro w ρ hs hr
  have h1 : ρ a = _ := hr.1 a (by simp [Op.operands, Call.operands]) _ ha
  have hu := hr.1 b (by simp [Op.operands, Call.operands]) _ hb
  obtain ⟨ad, c, us, h5, h6, h7⟩ := hsrc w _ hs hu
  obtain ⟨hut, i, hi, hisz, hbb⟩ := slT_spec hT
  have his : (P.info? e).map (·.size) = some 1 := by rw [hi]; simp [hisz]
  have hul : us.length = ys.length := by have := RepRows.length h6; simpa using this
  obtain ⟨cap', cur, g1, g2, g3, g4, g5⟩ := hs.ok kd _ hk
  obtain ⟨b', off', rfl, hcs⟩ := h7.resolve_left hy0
  have hmn : (us.take (min ys.length n)).length = min ys.length n := by rw [List.length_take, hul]; omega
  have hrun0 := run_copy_row (P := P) w t ts ty e kd off n cap ⟨b', off', none⟩ ys.length c cur e (us.take (min ys.length n)) hut his g1 hmn (fun j v hj => by
      rw [Addr.add_lit]; rw [List.getElem?_take] at hj
      split at hj
      · exact hcs j v hj
      · cases hj)
    (by rw [hmn]; omega) (fun v hv => RepRows.c1 hc h6 v (List.mem_of_mem_take hv))
  have hrun : (execOp ρ ⟨d, .call ⟨.builtin .copy, #[a, b], #[t, ts]⟩, ty, pos, af, gd⟩).run P w = .ok (.value (goInt (us.take (min ys.length n)).length)) (w.setRow kd (cur.toList.take off ++ us.take (min ys.length n) ++ cur.toList.drop (off + (us.take (min ys.length n)).length)).toArray) := by
    simp only [execOp, resolve, invoke, builtin, Sem.run_bind, Sem.run_pure, Result.andThen_ok, List.map_toArray, List.map_cons, List.map_nil, h1, h5, hrun0]
  rw [hrun]
  rw [hmn]
  have hsz : (cur.toList.take off ++ us.take (min ys.length n) ++ cur.toList.drop (off + min ys.length n)).toArray.size = cur.size := by
    simp only [List.size_toArray, List.length_append, List.length_take, List.length_drop, Array.length_toList, hul]; omega
  obtain ⟨s1, s2⟩ := setRowS (cur' := (cur.toList.take off ++ us.take (min ys.length n) ++ cur.toList.drop (off + min ys.length n)).toArray) (r := .arr e 1 (xs.take off ++ ys.take (min ys.length n) ++ xs.drop (off + min ys.length n))) hs hk (fun b => Iff.rfl) (fun b => Iff.rfl) g1 hsz
    (fun f => ⟨cap', _, setRow_heap w kd cur _ e _ g1, by rw [hsz, g2], by simp only [List.length_append, List.length_take, List.length_drop]; omega, g4, by
      have hxl : (xs.take off ++ ys.take (min ys.length n) ++ xs.drop (off + min ys.length n)).length = xs.length := by simp only [List.length_append, List.length_take, List.length_drop]; omega
      rw [hxl, Nat.mul_one]
      rw [Nat.mul_one] at g5
      have g5' := RepRows.mono f _ _ _ g5
      have h6' := RepRows.mono f _ _ _ h6
      have p1 := (RepRows.split (xs := xs.take off) (ys := xs.drop off)).1 (by rw [List.take_append_drop]; exact g5')
      obtain ⟨u1, v1, q1, q2, q3⟩ := p1
      have l1 : u1.length = off := by have := RepRows.length q2; rw [List.length_take] at this; omega
      have p2 := (RepRows.split (xs := (xs.drop off).take (min ys.length n)) (ys := (xs.drop off).drop (min ys.length n))).1 (by rw [List.take_append_drop]; exact q3)
      obtain ⟨u2, v2, q4, q5, q6⟩ := p2
      have l2 : u2.length = min ys.length n := by have := RepRows.length q5; rw [List.length_take, List.length_drop] at this; omega
      have p3 := (RepRows.split (xs := ys.take (min ys.length n)) (ys := ys.drop (min ys.length n))).1 (by rw [List.take_append_drop]; exact h6')
      obtain ⟨u3, v3, q7, q8, q9⟩ := p3
      have l3 : u3.length = min ys.length n := by have := RepRows.length q8; rw [List.length_take] at this; omega
      have e3 : us.take (min ys.length n) = u3 := by rw [q7, ← l3]; exact List.take_left
      have hcur : cur.toList = u1 ++ (u2 ++ v2) ++ cur.toList.drop xs.length := by
        rw [← q4, ← q1, List.take_append_drop]
      have e4 : cur.toList.take off = u1 := by rw [hcur, List.append_assoc, ← l1]; exact List.take_left
      have e5 : cur.toList.drop (off + min ys.length n) = v2 ++ cur.toList.drop xs.length := by
        conv => lhs; rw [hcur]
        rw [show u1 ++ (u2 ++ v2) ++ cur.toList.drop xs.length = (u1 ++ u2) ++ (v2 ++ cur.toList.drop xs.length) by simp]
        rw [← l1, ← l2, ← List.length_append]
        rw [List.drop_left]
      have l4 : v2.length = xs.length - (off + min ys.length n) := by have := RepRows.length q6; rw [List.length_drop, List.length_drop] at this; omega
      have e6 : (cur.toList.take off ++ us.take (min ys.length n) ++ cur.toList.drop (off + min ys.length n)).toArray.toList.take xs.length = (u1 ++ u3) ++ v2 := by
        rw [e3, e4, e5]
        show List.take xs.length (u1 ++ u3 ++ (v2 ++ cur.toList.drop xs.length)) = _
        rw [show u1 ++ u3 ++ (v2 ++ cur.toList.drop xs.length) = (u1 ++ u3 ++ v2) ++ cur.toList.drop xs.length by simp]
        have l5 : (u1 ++ u3 ++ v2).length = xs.length := by simp only [List.length_append]; omega
        rw [← l5]; exact List.take_left
      rw [e6]
      exact RepRows.split.2 ⟨_, _, rfl, RepRows.split.2 ⟨_, _, rfl, q2, q8⟩, by rw [List.drop_drop] at q6; exact q6⟩⟩)
  exact ⟨.int ((min ys.length n : Nat) : Int), _, rfl, s1, s2, h⟩
end
theorem Cv.frzX {s s0 : St} {k e n : Nat} {xs : List (List AV)} (h0 : s0 k = none) (hs : s = upd s0 k (.arr e 1 xs)) (hn : n = xs.length) : Le s0 s ∧ Cv s s0 (svv k 0 n n) (.sl 1 xs) := by
  subst hs hn
  have hle : Le s0 (upd s0 k (.arr e 1 xs)) := Le.new1 h0
  refine ⟨hle, fun w y hs hr => ?_⟩
  obtain rfl : y = _ := hr
  obtain ⟨cap', cur, g1, g2, g3, g4, g5⟩ := hs.ok k _ (upd_same _ _ _)
  have hm : ¬ Mut s0 k := by
    rintro ⟨j, r, h7, h8⟩
    have := hs.disj j r k _ k (hle j r h7) (upd_same _ _ _) h8 rfl
    subst this; rw [h0] at h7; cases h7
  have g5' := RepRows.mono (Fr.of_le hle) _ _ _ g5
  refine ⟨_, _, _, rfl, Nat.le_refl _, by omega, g5', .inr ⟨k, 0, rfl, fun _ => hm, fun j u hj => ?_⟩⟩
  rw [Nat.zero_add, cell_res g1]
  rw [List.getElem?_take] at hj
  split at hj
  · simpa using hj
  · cases hj
theorem vc_frzX {P : Program} {N : Nat} {Q : EQ} {env : Env} {s s0 : St} {c : Code} {i k e n : Nat} {xs : List (List AV)} (h0 : s0 k = none) (hs : s = upd s0 k (.arr e 1 xs)) (hn : n = xs.length) (hi : env i = some (svv k 0 n n)) (h : VC P N c Q (upd env i (.sl 1 xs)) s0) : VC P N c Q env s := by
  obtain ⟨h1, h2⟩ := Cv.frzX h0 hs hn
  refine vc_conv h1 (fun j y hy => ?_) h
  by_cases e : j = i
  · subst e; rw [upd_same] at hy; cases hy; exact ⟨_, hi, h2⟩
  · rw [upd_ne _ _ e] at hy; exact ⟨y, hy, Cv.le h1 y⟩
theorem and32 {w : Nat} (h : w < 2 ^ 31) : bitsV .and .u64 (w : Int) 4294967295 = (w : Int) := by
  show IntKind.u64.wrap (((BitVec.ofInt 64 (w : Int) &&& BitVec.ofInt 64 4294967295).toNat : Nat) : Int) = _
  have h2 : (BitVec.ofInt 64 (w : Int) &&& BitVec.ofInt 64 4294967295).toNat = w := by
    rw [BitVec.toNat_and]
    have e1 : (BitVec.ofInt 64 (w : Int)).toNat = w := by
      rw [BitVec.toNat_ofInt]
      rw [Int.emod_eq_of_lt (by omega) (by show (w : Int) < 18446744073709551616; omega)]; rfl
    have e2 : (BitVec.ofInt 64 4294967295).toNat = 2 ^ 32 - 1 := rfl
    rw [e1, e2, Nat.and_two_pow_sub_one_eq_mod, Nat.mod_eq_of_lt (by omega)]
  rw [h2, IntKind.wrap_u64, Int.emod_eq_of_lt (by omega) (by omega)]
theorem shr32 {w : Nat} (h : w < 2 ^ 31) : (w : Int).fdiv (2 ^ (min (32 : Int).toNat IntKind.u64.bits)) = 0 := by
  rw [show min (32 : Int).toNat IntKind.u64.bits = 32 from rfl, Int.fdiv_eq_ediv_of_nonneg _ (by decide)]
  exact Int.ediv_eq_zero_of_lt (by omega) (by omega)
theorem wU {w : Nat} (h : w < 2 ^ 31) : IntKind.u64.wrap (w : Int) = (w : Int) := by
  rw [IntKind.wrap_u64, Int.emod_eq_of_lt (by omega) (by omega)]
theorem rep_c1 (x : Int) (i w : Nat) : rowsC1 (((List.replicate i x ++ List.replicate (w - i) 0).map eI).take i) := fun e he => rowsC1_ints _ e (List.mem_of_mem_take he)
theorem rep_ne (x : Int) {i w : Nat} (h : 1 ≤ i) : ((List.replicate i x ++ List.replicate (w - i) 0).map eI).take i ≠ [] := by
  intro e
  have := congrArg List.length e
  simp at this; omega
theorem rep_take (x : Int) (i w : Nat) : ((List.replicate i x ++ List.replicate (w - i) 0).map eI).take i = List.replicate i (eI x) := by
  rw [List.map_append, List.map_replicate, List.take_left' (by simp)]
theorem rep_step {x : Int} {i w c : Nat} (h1 : 1 ≤ i) (h2 : i < w) (hc : c = min (((List.replicate i x ++ List.replicate (w - i) 0).map eI).take i).length (w - i)) :
    ((List.replicate i x ++ List.replicate (w - i) 0).map eI).take i ++ (((List.replicate i x ++ List.replicate (w - i) 0).map eI).take i).take c ++ ((List.replicate i x ++ List.replicate (w - i) 0).map eI).drop (i + c) =
      (List.replicate (min w (i + i)) x ++ List.replicate (w - min w (i + i)) 0).map eI := by
  have hc2 : c = min i (w - i) := by rw [hc, rep_take]; simp
  rw [rep_take]
  have e1 : ((List.replicate i x ++ List.replicate (w - i) (0 : Int)).map eI).drop (i + c) = List.replicate (w - i - c) (eI 0) := by
    rw [List.map_append, List.map_replicate, List.map_replicate, ← List.drop_drop, List.drop_left' (by simp), List.drop_replicate]
  rw [e1, List.take_replicate, List.replicate_append_replicate, List.map_append, List.map_replicate, List.map_replicate]
  congr 2 <;> omega
theorem rep_init {x : Int} {w : Nat} (h : 1 ≤ w) : (List.replicate w ([AV.v (Value.int .i64 0)] : List AV)).take 0 ++ [eI x].take (min [eI x].length w) ++ (List.replicate w ([AV.v (Value.int .i64 0)] : List AV)).drop (0 + min [eI x].length w) = (List.replicate 1 x ++ List.replicate (w - 1) 0).map eI := by
  rw [show min [eI x].length w = 1 by simp; omega]
  rw [List.map_append, List.map_replicate, List.map_replicate, List.drop_replicate]
  rfl
section
variable {P : Program} {env : Env} {s : St} {d : Option Nat} {ty : TypeId} {pos : String} {af : Array Edge} {gd : Option (Nat × Bool)}
variable {a b : Operand} {t : TypeId}
theorem q_indexP {n e kb off : Nat} {k : IntKind} {m : Int} (hT : arT P t = some (n, e, 1)) (ha : evA env a = some (ptv kb off)) (hb : evA env b = some (.v (.int k m))) (h0 : 0 ≤ m) (h1 : m < n) :
    QOK P ⟨d, .indexAddr t a b, ty, pos, af, gd⟩ env (ptv kb (off + m.toNat)) :=
  q_of fun w s ρ hs hr => by
    have g1 : ρ a = _ := hr.1 a (by simp [Op.operands]) _ ha
    have g2 : ρ b = _ := hr.1 b (by simp [Op.operands]) _ hb
    unfold arT at hT
    cases hu : P.underlying t with
    | none => simp [hu] at hT
    | some du =>
      cases du with
      | array n' e' =>
        simp only [hu] at hT
        cases hi : P.info? e' with
        | none => simp [hi] at hT
        | some i =>
          simp only [hi, Option.map_some, Option.some.injEq, Prod.mk.injEq] at hT
          obtain ⟨rfl, rfl, hz⟩ := hT
          refine ⟨.pointer (some ⟨kb, off + m.toNat, none⟩), ?_, rfl⟩
          simp [execOp, g1, g2, Instr.indexAt, asIntOf, run_underlying hu, Instr.sureAddr, h0, h1, sizeOf, typeInfo, hi, hz, Addr.add_lit]
      | _ => simp [hu] at hT
end
def iw (n : Int) (w : Nat) : Nat := (n % (2 ^ w : Int)).toNat
theorem iw_lt (n : Int) (w : Nat) : iw n w < 2 ^ w := by
  have h0 : (0 : Int) < 2 ^ w := Int.pow_pos (by decide)
  have h1 := Int.emod_lt_of_pos n h0
  have h2 := Int.emod_nonneg n (Int.ne_of_gt h0)
  unfold iw
  have e : ((2 ^ w : Nat) : Int) = (2 : Int) ^ w := by push_cast; rfl
  omega
theorem iw_cast (n : Int) (w : Nat) : ((iw n w : Nat) : Int) = n % (2 ^ w : Int) := by
  unfold iw
  exact Int.toNat_of_nonneg (Int.emod_nonneg _ (Int.ne_of_gt (Int.pow_pos (by decide))))
theorem iw_bit (n : Int) {w j : Nat} (h : j < w) : (iw n w).testBit j = !decide (n / 2 ^ j % 2 = 0) := by
  have h1 := iw_cast n w
  rw [Nat.testBit_eq_decide_div_mod_eq]
  have e : ((iw n w / 2 ^ j % 2 : Nat) : Int) = n / 2 ^ j % 2 := by
    push_cast
    rw [h1]
    obtain ⟨d, rfl⟩ := Nat.exists_eq_add_of_lt h
    have e2 : (2 : Int) ^ (j + d + 1) = 2 ^ j * (2 * 2 ^ d) := by
      rw [show j + d + 1 = j + (1 + d) by omega, Int.pow_add, Int.pow_add]; rfl
    rw [e2]
    have e3 := Int.mul_ediv_add_emod n (2 ^ j * (2 * 2 ^ d))
    have hp : (2 : Int) ^ j ≠ 0 := Int.ne_of_gt (Int.pow_pos (by decide))
    have e4 : n / 2 ^ j = n % (2 ^ j * (2 * 2 ^ d)) / 2 ^ j + (2 * 2 ^ d) * (n / (2 ^ j * (2 * 2 ^ d))) := by
      conv => lhs; rw [← e3]
      rw [Int.mul_assoc (2 ^ j), Int.add_comm, Int.add_mul_ediv_left _ _ hp]
    rw [e4, Int.mul_assoc, Int.add_mul_emod_self_left]
  have h2 : n / 2 ^ j % 2 = 0 ∨ n / 2 ^ j % 2 = 1 := Int.emod_two_eq _
  have h3 : (iw n w / 2 ^ j % 2 = 1) ↔ n / 2 ^ j % 2 = 1 := by omega
  rcases h2 with h2 | h2
  · rw [h2]; rw [h2] at h3; simp [h3]
  · rw [h2]; rw [h2] at h3; simp [h3]
theorem iw_eq {n m : Int} {w : Nat} (h : (2 ^ w : Int) ∣ n - m) : iw n w = iw m w := by
  unfold iw
  rw [Int.emod_eq_emod_iff_emod_sub_eq_zero.2 (Int.emod_eq_zero_of_dvd h)]
end Go.Vc

set_option linter.unusedVariables false
set_option linter.unusedSimpArgs false
set_option maxRecDepth 100000
namespace Go.Proofs.Ytpcpdepfnoijoaa
open Go.Vc
theorem mul64 {w : Nat} {s : St} {K : AV → St → Prop} (hw : w < 2^31) (hk : K (.tup [.v (.int .u64 0), .v (.int .u64 (w : Int))]) s) : CallsA Try.prog 187 [.v (.int .u64 1), .v (.int .u64 (w : Int))] s K := by
  refine callsA_of Try.func187 rfl rfl (Nat.le_of_ble_eq_true rfl) ?_
  refine vc_seq ?_
  refine vc_regionW (qm 3) [0, 1] rfl rfl ?_
  refine vq rfl rfl (q_assign rfl) ?_
  refine vq rfl rfl (q_assign rfl) ?_
  refine vendW ?_
  refine vc_seq ?_
  refine vc_regionW (qm 7) [0, 1, 2] rfl rfl ?_
  refine vq rfl rfl (q_move rfl) ?_
  refine vq rfl rfl (q_and rfl rfl (show _ = (1 : Int) from by decide)) ?_
  refine vq rfl rfl (q_assign rfl) ?_
  refine vendW ?_
  refine vc_seq ?_
  refine vc_regionW (qm 7) [0, 1, 2] rfl rfl ?_
  refine vq rfl rfl (q_move rfl) ?_
  refine vq rfl rfl (q_shr rfl rfl (by omega) (show _ = (0 : Int) from by decide)) ?_
  refine vq rfl rfl (q_assign rfl) ?_
  refine vendW ?_
  refine vc_seq ?_
  refine vc_regionW (qm 7) [0, 1, 2] rfl rfl ?_
  refine vq rfl rfl (q_move rfl) ?_
  refine vq rfl rfl (q_and rfl rfl (and32 hw)) ?_
  refine vq rfl rfl (q_assign rfl) ?_
  refine vendW ?_
  refine vc_seq ?_
  refine vc_regionW (qm 7) [0, 1, 2] rfl rfl ?_
  refine vq rfl rfl (q_move rfl) ?_
  refine vq rfl rfl (q_shr rfl rfl (by omega) (shr32 hw)) ?_
  refine vq rfl rfl (q_assign rfl) ?_
  refine vendW ?_
  refine vc_seq ?_
  refine vc_regionW (qm 15) [0, 1, 2, 3] rfl rfl ?_
  refine vq rfl rfl (q_move rfl) ?_
  refine vq rfl rfl (q_move rfl) ?_
  refine vq rfl rfl (q_mul rfl rfl (show _ = (w : Int) by rw [Int.one_mul]; exact wU hw)) ?_
  refine vq rfl rfl (q_assign rfl) ?_
  refine vendW ?_
  refine vc_seq ?_
  refine vc_regionW (qm 127) [0, 1, 2, 3, 4, 5, 6] rfl rfl ?_
  refine vq rfl rfl (q_move rfl) ?_
  refine vq rfl rfl (q_move rfl) ?_
  refine vq rfl rfl (q_mul rfl rfl (show _ = (0 : Int) by rw [Int.zero_mul]; rfl)) ?_
  refine vq rfl rfl (q_move rfl) ?_
  refine vq rfl rfl (q_shr rfl rfl (by omega) (shr32 hw)) ?_
  refine vq rfl rfl (q_add rfl rfl (show _ = (0 : Int) from by decide)) ?_
  refine vq rfl rfl (q_assign rfl) ?_
  refine vendW ?_
  refine vc_seq ?_
  refine vc_regionW (qm 7) [0, 1, 2] rfl rfl ?_
  refine vq rfl rfl (q_move rfl) ?_
  refine vq rfl rfl (q_and rfl rfl (show _ = (0 : Int) from by decide)) ?_
  refine vq rfl rfl (q_assign rfl) ?_
  refine vendW ?_
  refine vc_seq ?_
  refine vc_regionW (qm 7) [0, 1, 2] rfl rfl ?_
  refine vq rfl rfl (q_move rfl) ?_
  refine vq rfl rfl (q_shr rfl rfl (by omega) (show _ = (0 : Int) from by decide)) ?_
  refine vq rfl rfl (q_assign rfl) ?_
  refine vendW ?_
  refine vc_seq ?_
  refine vc_regionW (qm 63) [0, 1, 2, 3, 4, 5] rfl rfl ?_
  refine vq rfl rfl (q_move rfl) ?_
  refine vq rfl rfl (q_move rfl) ?_
  refine vq rfl rfl (q_move rfl) ?_
  refine vq rfl rfl (q_mul rfl rfl (show _ = (0 : Int) from by decide)) ?_
  refine vq rfl rfl (q_add rfl rfl (show _ = (0 : Int) from by decide)) ?_
  refine vq rfl rfl (q_assign rfl) ?_
  refine vendW ?_
  refine vc_seq ?_
  refine vc_regionW (qm 511) [0, 1, 2, 3, 4, 5, 6, 7, 8] rfl rfl ?_
  refine vq rfl rfl (q_move rfl) ?_
  refine vq rfl rfl (q_move rfl) ?_
  refine vq rfl rfl (q_mul rfl rfl (show _ = (0 : Int) from by decide)) ?_
  refine vq rfl rfl (q_move rfl) ?_
  refine vq rfl rfl (q_add rfl rfl (show _ = (0 : Int) from by decide)) ?_
  refine vq rfl rfl (q_move rfl) ?_
  refine vq rfl rfl (q_shr rfl rfl (by omega) (show _ = (0 : Int) from by decide)) ?_
  refine vq rfl rfl (q_add rfl rfl (show _ = (0 : Int) from by decide)) ?_
  refine vq rfl rfl (q_assign rfl) ?_
  refine vendW ?_
  refine vc_seq ?_
  refine vc_regionW (qm 15) [0, 1, 2, 3] rfl rfl ?_
  refine vq rfl rfl (q_move rfl) ?_
  refine vq rfl rfl (q_move rfl) ?_
  refine vq rfl rfl (q_mul rfl rfl (show _ = (w : Int) by rw [Int.one_mul]; exact wU hw)) ?_
  refine vq rfl rfl (q_assign rfl) ?_
  refine vendW ?_
  refine vc_ret ?_
  exact ret2 rfl rfl rfl (Le.refl _) (Cv.le (Le.refl _) _) (Cv.le (Le.refl _) _) hk
theorem mulU {w : Nat} {s : St} {K : AV → St → Prop} (hw : w < 2^31) (hk : K (.tup [.v (.int .u64 0), .v (.int .u64 (w : Int))]) s) : CallsA Try.prog 177 [.v (.int .u64 1), .v (.int .u64 (w : Int))] s K := by
  refine callsA_of Try.func177 rfl rfl (Nat.le_of_ble_eq_true rfl) ?_
  refine vc_seq ?_
  refine vc_regionW (qm 3) [0, 1] rfl rfl ?_
  refine vq rfl rfl (q_assign rfl) ?_
  refine vq rfl rfl (q_assign rfl) ?_
  refine vendW ?_
  refine vc_seq ?_
  refine vc_condF rfl (by rfl) ?_
  refine vc_skip ?_
  refine vc_seq ?_
  refine vc_regionW (qm 255) [0, 1, 2, 3, 4, 5, 6, 7] rfl rfl ?_
  refine vq rfl rfl (q_move rfl) ?_
  refine vq rfl rfl (q_move rfl) ?_
  refine vq rfl rfl (q_callF go187 rfl (fun s => mul64 (w := w) hw ⟨rfl, rfl⟩)) ?_
  refine vq rfl rfl (q_move rfl) ?_
  refine vq rfl rfl (q_extract rfl rfl) ?_
  refine vq rfl rfl (q_extract rfl rfl) ?_
  refine vq rfl rfl (q_assign rfl) ?_
  refine vq rfl rfl (q_assign rfl) ?_
  refine vendW ?_
  refine vc_seq ?_
  refine vc_regionW (qm 15) [0, 1, 2, 3] rfl rfl ?_
  refine vq rfl rfl (q_move rfl) ?_
  refine vq rfl rfl (q_move rfl) ?_
  refine vq rfl rfl (q_assign rfl) ?_
  refine vq rfl rfl (q_assign rfl) ?_
  refine vendW ?_
  refine vc_ret ?_
  exact ret2 rfl rfl rfl (Le.refl _) (Cv.le (Le.refl _) _) (Cv.le (Le.refl _) _) hk
theorem repeatI {x : Int} {w : Nat} {s : St} {K : AV → St → Prop} (hw : w < 2^30) (h1 : 1 ≤ w) (hk : K (ints (List.replicate w x)) s) : CallsA Try.prog 147 [.slx 1 [eI x], .int (w : Int)] s K := by
  refine callsA_of Try.func147 rfl rfl (Nat.le_of_ble_eq_true rfl) ?_
  refine vc_seq ?_
  refine vc_regionW (qm 1) [0] rfl rfl ?_
  refine vq rfl rfl (q_assign rfl) ?_
  refine vendW ?_
  refine vc_seq ?_
  refine vc_seq ?_
  refine vc_regionW (qm 3) [0, 1] rfl rfl ?_
  refine vq rfl rfl (q_move rfl) ?_
  refine vq rfl rfl (q_lt rfl rfl) ?_
  refine vendW ?_
  refine vc_condF rfl (by first | (simp; done) | (simp; omega) | simp_all) ?_
  refine vc_skip ?_
  refine vc_seq ?_
  refine vc_regionW (qm 2047) [0, 1, 2, 3, 4, 5, 6, 7, 8, 9, 10] rfl rfl ?_
  refine vq rfl rfl (q_move rfl) ?_
  refine vq rfl rfl (q_len sl40 rfl (by first | exact lenM | rfl)) ?_
  refine vq rfl rfl (q_conv us3 ik109 rfl (show _ = (1 : Int) from rfl)) ?_
  refine vq rfl rfl (q_move rfl) ?_
  refine vq rfl rfl (q_conv us3 ik109 rfl (wU (by omega))) ?_
  refine vq rfl rfl (q_callF go177 rfl (fun s => mulU (w := w) (by omega) ⟨rfl, rfl⟩)) ?_
  refine vq rfl rfl (q_move rfl) ?_
  refine vq rfl rfl (q_extract rfl rfl) ?_
  refine vq rfl rfl (q_extract rfl rfl) ?_
  refine vq rfl rfl (q_assign rfl) ?_
  refine vq rfl rfl (q_assign rfl) ?_
  refine vendW ?_
  refine vc_seq ?_
  refine vc_seq ?_
  refine vc_regionW (qm 63) [0, 1, 2, 3, 4, 5] rfl rfl ?_
  refine vq rfl rfl (q_move rfl) ?_
  refine vq rfl rfl (q_gt rfl rfl) ?_
  refine vq rfl rfl (q_move rfl) ?_
  refine vgrp [3, 4, 5] [] [24, 25] 26 (.v (.bool (decide ((9223372036854775807 : Int) < (w : Int))))) ?_ ?_
  ·
    by_cases hg2 : (0 : Int) < 0
    ·
      refine g_skip rfl rfl rfl (by first | (rw [decide_eq_true hg2]; simp; done) | (intro e; have e2 := Value.bool.inj e; rw [decide_eq_true hg2] at e2; cases e2; done) | (simp [hg2]; done) | simp_all) ?_
      refine g_skip rfl rfl rfl (by first | (rw [decide_eq_true hg2]; simp; done) | (intro e; have e2 := Value.bool.inj e; rw [decide_eq_true hg2] at e2; cases e2; done) | (simp [hg2]; done) | simp_all) ?_
      refine vq rfl rfl (q_pickT rfl (by first | exact (decide_eq_true hg2) | exact hg2 | (simp [hg2]; done) | simp_all) rfl) ?_
      refine vendW ⟨rfl, congrArg (fun b => some (AV.v (Value.bool b))) (by first | (simp only [decide_eq_true hg2]; done) | (simp only [decide_eq_true hg2]; rfl) | (simp [hg2]; done) | simp_all), ?_⟩
      repeat (first | exact Same.refl | refine Same.upd rfl ?_)
    ·
      refine gq_run rfl rfl rfl rfl (by first | exact congrArg Value.bool (decide_eq_false hg2) | (rw [decide_eq_false hg2]; done) | (simp [hg2]; done) | simp_all) (q_move rfl) ?_
      refine gq_run rfl rfl rfl rfl (by first | exact congrArg Value.bool (decide_eq_false hg2) | (rw [decide_eq_false hg2]; done) | (simp [hg2]; done) | simp_all) (q_gt rfl rfl) ?_
      refine vq rfl rfl (q_pickF rfl (by first | exact (decide_eq_false hg2) | exact hg2 | (simp [hg2]; done) | simp_all) rfl) ?_
      refine vendW ⟨rfl, congrArg (fun b => some (AV.v (Value.bool b))) (by first | (simp only [decide_eq_false hg2]; done) | (simp only [decide_eq_false hg2]; rfl) | (simp [hg2]; done) | simp_all), ?_⟩
      repeat (first | exact Same.refl | refine Same.upd rfl ?_)
  refine vendW ?_
  refine vc_condF rfl (decide_eq_false (by omega)) ?_
  refine vc_skip ?_
  refine vc_seq ?_
  refine vc_regionW (qm 11) [0, 1, 2, 3] rfl rfl ?_
  refine vq rfl rfl (q_move rfl) ?_
  refine vq rfl rfl (q_conv us109 ik3 rfl (w64 (by omega))) ?_
  refine ve rfl rfl (e_makeX sl40 zr3 rfl (List.cons_ne_nil _ _) rfl rfl (by omega) (by omega) (by omega) (by omega) (fun k7 hk7 => ?_))
  refine vq rfl rfl (q_assign rfl) ?_
  refine vendW ?_
  refine vc_seq ?_
  refine vc_regionW (qm 11) [0, 1, 2, 3] rfl rfl ?_
  refine vq rfl rfl (q_move rfl) ?_
  refine vq rfl rfl (q_move rfl) ?_
  refine ve rfl rfl (e_copyX sl40 rfl rfl (upd_same _ _ _) (SrcOK.slx 1 _) (rowsC1_one rfl) (by simp) (by simp) ?_)
  refine vq rfl rfl (q_assign rfl) ?_
  refine vendW ?_
  refine vc_seq ?_
  refine vc_block ?_
  refine vc_loopS (α := Nat) [8, 34, 35, 36, 37, 38, 39, 40, 41, 42, 43, 44, 45, 46] (fun i => [(8, .int (i : Int))]) (fun i => upd s k7 (.arr 3 1 ((List.replicate i x ++ List.replicate (w - i) 0).map eI))) (fun i => 1 ≤ i ∧ i ≤ w) (fun i => w - i) 1 ⟨by omega, by omega⟩ (by rw [upd_upd]; exact congrArg (fun q => upd s k7 (Res.arr 3 1 q)) (rep_init h1)) ⟨(congrArg (fun z : Int => some (AV.int z)) (by simp; omega)), trivial⟩ (fun _ => rfl) ?_
  intro i hok
  refine vc_seq ?_
  refine vc_seq ?_
  refine vc_regionW (qm 15) [0, 1, 2, 3] rfl rfl ?_
  refine vq rfl rfl (q_move rfl) ?_
  refine vq rfl rfl (q_move rfl) ?_
  refine vq rfl rfl (q_lenX sl40 rfl) ?_
  refine vq rfl rfl (q_lt rfl rfl) ?_
  refine vendW ?_
  refine vc_condD rfl (fun h37 => ?_) (fun h37 => ?_)
  ·
    refine vc_skip ?_
    refine vc_block ?_
    refine vc_regionDW mx (qm 895) [0, 1, 2, 3, 4, 5, 6, 7, 8, 9] (by kernel_rfl) ?_
    refine vq rfl rfl (q_move rfl) ?_
    refine vq rfl rfl (q_move rfl) ?_
    refine vq rfl rfl (q_move rfl) ?_
    refine vq rfl rfl (q_slX i w sl40 rfl rfl rfl rfl (by simp) (by omega) (by omega) (by omega) (by omega)) ?_
    refine vq rfl rfl (q_move rfl) ?_
    refine vq rfl rfl (q_move rfl) ?_
    refine vq rfl rfl (q_slX 0 i sl40 rfl rfl rfl rfl rfl (by omega) (by omega) (by omega) (by omega)) ?_
    refine ve rfl rfl (e_copyX sl40 rfl rfl (upd_same _ _ _) (SrcOK.pre (upd_same _ _ _) (m := i) (by first | (simp; done) | (simp; omega))) (rep_c1 x i w) (by first | (simp; done) | (simp; omega)) (rep_ne x hok.1) ?_)
    refine vq rfl rfl (q_add rfl rfl (w64 (by omega))) ?_
    refine vq rfl rfl (q_assign rfl) ?_
    refine vendW ?_
    refine ⟨min w (i + i), ⟨by omega, by omega⟩, by omega, ?_, ⟨(congrArg (fun z : Int => some (AV.int z)) (by simp; omega)), trivial⟩, (by rw [upd_upd, Nat.zero_add]; exact congrArg (fun q => upd s k7 (Res.arr 3 1 q)) (rep_step (x := x) (w := w) hok.1 (by omega) rfl))⟩
    repeat (first | exact Same.refl | refine Same.upd rfl ?_ | refine Same.drop rfl ?_)
  refine vc_exit ?_
  refine vc_seq ?_
  have e : i = w := by omega
  subst e
  refine vc_frzX (i := 7) hk7 rfl (by simp) rfl ?_
  refine vc_regionW (qm 3) [0, 1] rfl rfl ?_
  refine vq rfl rfl (q_move rfl) ?_
  refine vq rfl rfl (q_assign rfl) ?_
  refine vendW ?_
  refine vc_ret ?_
  have e2 : (List.replicate i x ++ List.replicate (i - i) 0).map eI = (List.replicate i x).map eI := by simp
  exact ret1 rfl rfl (Le.refl _) (Cv.le (Le.refl _) _) (by rw [e2]; exact hk)
end Go.Proofs.Ytpcpdepfnoijoaa

set_option linter.unusedVariables false
set_option linter.unusedSimpArgs false
namespace Go.Vc
theorem count_shr (n : Int) (i : Nat) : (n / 2 ^ i).fdiv (2 ^ (min (1 : Int).toNat IntKind.i64.bits)) = n / 2 ^ (i + 1) := by
  rw [show min (1 : Int).toNat IntKind.i64.bits = 1 from rfl, Int.fdiv_eq_ediv_of_nonneg _ (by decide)]
  rw [show (2 : Int) ^ (i + 1) = 2 ^ i * 2 from Int.pow_succ _ _, ← Int.ediv_ediv_of_nonneg (Int.le_of_lt (Int.pow_pos (by decide)))]
  rfl
theorem wv_iw (v : Nat → Bool) {l : List Int} {w : Nat} {n : Int} (hl : l.length = w) (h : ∀ j, j < w → bv v (l.getD j default) = !decide (n / 2 ^ j % 2 = 0)) : wv v l = iw n w := by
  subst hl
  exact wv_ext (iw_lt _ _) fun i hi => by rw [h i hi, iw_bit n hi]
def sv (v : Nat → Bool) (x : List Int) : Int := (wv v x : Int) - (bif bv v (x.getD (x.length - 1) default) then (2 : Int) ^ x.length else 0)
def sgL (x : List Int) (w : Nat) : List Int := x.take (min x.length w) ++ List.replicate (w - min x.length w) (x.getD (x.length - 1) default)
theorem sgL_len (x : List Int) (w : Nat) : (sgL x w).length = w := by simp [sgL]; omega
theorem sgL_bw {nd : List Nd} {x : List Int} (h : BW nd x) (h1 : 1 ≤ x.length) (w : Nat) : BW nd (sgL x w) := (h.take _).app (BW.rep (h.get (by omega)) _)
theorem wv_rep (v : Nat → Bool) (a : Int) : ∀ n, wv v (List.replicate n a) = bif bv v a then 2 ^ n - 1 else 0
  | 0 => by simp [wv]
  | n + 1 => by
    have h : 0 < 2 ^ n := Nat.pow_pos (by decide)
    rw [List.replicate_succ, wv, wv_rep v a n, Nat.pow_succ]
    cases bv v a <;> simp
    omega
theorem sgL_wv (v : Nat → Bool) {x : List Int} (h1 : 1 ≤ x.length) (w : Nat) : wv v (sgL x w) = iw (sv v x) w := by
  have hlt := wv_lt v (sgL x w)
  rw [sgL_len] at hlt
  have key : (2 ^ w : Int) ∣ sv v x - (wv v (sgL x w) : Int) := by
    unfold sgL sv
    rw [wv_app, wv_take, wv_rep]
    rcases Nat.le_total x.length w with h | h
    · rw [Nat.min_eq_left h, List.length_take, Nat.min_self, Nat.mod_eq_of_lt (wv_lt v x)]
      cases bv v (x.getD (x.length - 1) default)
      · simp
      · rw [cond_true, cond_true]
        have h2 : 2 ^ x.length * (2 ^ (w - x.length) - 1) + 2 ^ x.length = 2 ^ w := by
          rw [Nat.mul_sub, Nat.mul_one, ← Nat.pow_add, Nat.add_sub_cancel' h]
          have := Nat.pow_le_pow_right (n := 2) (by decide) h
          omega
        refine ⟨-1, ?_⟩
        have h3 : ((2 ^ x.length * (2 ^ (w - x.length) - 1) : Nat) : Int) + 2 ^ x.length = 2 ^ w := by
          have := congrArg (fun n : Nat => (n : Int)) h2
          push_cast at this
          push_cast
          exact this
        rw [Int.natCast_add]
        omega
    · rw [Nat.min_eq_right h, Nat.sub_self]
      have e0 : (bif bv v (x.getD (x.length - 1) default) then 2 ^ 0 - 1 else 0) = 0 := by cases bv v (x.getD (x.length - 1) default) <;> rfl
      rw [e0, Nat.mul_zero, Nat.add_zero]
      have h3 : (2 ^ w : Int) ∣ (wv v x : Int) - ((wv v x % 2 ^ w : Nat) : Int) := by
        push_cast
        exact Int.dvd_self_sub_emod
      have h4 : (2 ^ w : Int) ∣ (bif bv v (x.getD (x.length - 1) default) then (2 : Int) ^ x.length else 0) := by
        cases bv v (x.getD (x.length - 1) default)
        · exact Int.dvd_zero _
        · exact ⟨2 ^ (x.length - w), by rw [cond_true, ← Int.pow_add, Nat.add_sub_cancel' h]⟩
      have h5 := Int.dvd_sub h3 h4
      rwa [show (wv v x : Int) - ((wv v x % 2 ^ w : Nat) : Int) - (bif bv v (x.getD (x.length - 1) default) then (2 : Int) ^ x.length else 0) = (wv v x : Int) - (bif bv v (x.getD (x.length - 1) default) then (2 : Int) ^ x.length else 0) - ((wv v x % 2 ^ w : Nat) : Int) by omega] at h5
  rw [iw_eq key]
  unfold iw
  rw [Int.emod_eq_of_lt (by omega) (by have e : ((2 ^ w : Nat) : Int) = (2 : Int) ^ w := by push_cast; rfl
                                       omega)]
  rfl
theorem upd_swap {β : Type} {f : Nat → Option β} {a b : Nat} {x y : β} (h : a ≠ b) : upd (upd f a x) b y = upd (upd f b y) a x := by
  funext j
  by_cases e1 : j = a
  · subst e1; rw [upd_ne _ _ h, upd_same, upd_same]
  · by_cases e2 : j = b
    · subst e2; rw [upd_same, upd_ne _ _ e1, upd_same]
    · rw [upd_ne _ _ e2, upd_ne _ _ e1, upd_ne _ _ e1, upd_ne _ _ e2]
theorem nthG {α β : Type} [Inhabited α] {f : α → β} {l : List α} {i : Nat} (h : i < l.length) : nth (l.map f) i = some (f (l.getD i default)) := by
  rw [nth_eq, List.getElem?_map, List.getD_eq_getElem?_getD, List.getElem?_eq_getElem h]; rfl
theorem okA_ints (l : List Int) : okA (.agg (l.map AV.int)) = true := by
  show (l.map AV.int).all isC1 = true
  rw [List.all_map]
  exact List.all_eq_true.2 fun _ _ => rfl
theorem le_locals {s : St} {p k4 k5 : Nat} {B C Z C2 : Res} (h4 : s k4 = none) (h5 : (upd s k4 Z) k5 = none) (h4p : k4 ≠ p) (h5p : k5 ≠ p) : Le (upd s p B) (upd (upd (upd (upd s k4 Z) k5 C) p B) k4 C2) := by
  intro i r hi
  have e4 : i ≠ k4 := fun e => by subst e; rw [upd_ne _ _ h4p, h4] at hi; cases hi
  have h45 : k5 ≠ k4 := fun e => by subst e; rw [upd_same] at h5; cases h5
  have e5 : i ≠ k5 := fun e => by
    subst e
    rw [upd_ne _ _ h45] at h5
    rw [upd_ne _ _ h5p, h5] at hi; cases hi
  rw [upd_ne _ _ e4]
  by_cases ep : i = p
  · subst ep; rw [upd_same] at hi ⊢; exact hi
  · rw [upd_ne _ _ ep] at hi ⊢; rw [upd_ne _ _ e5, upd_ne _ _ e4]; exact hi
theorem mem_get {p : Int → Prop} {l : List Int} {b : Int} (h : b ∈ l) (hp : ∀ j, j < l.length → p (l.getD j default)) : p b := by
  obtain ⟨j, hj, rfl⟩ := List.getElem_of_mem h
  have := hp j hj
  rwa [List.getD_eq_getElem?_getD, List.getElem?_eq_getElem hj] at this
end Go.Vc
