/-
  Part of a proof: A size twice as great, one place lower, is packed as the same (slipsticklaw19.PackScaled).
-/
import Derived.Test.YtpcpdepfnoijoaaPkL
import Derived.Test.YtpcpdepfnoijoaaQ9
import Derived.Test.YtpcpdepfnoijoaaVcB
import Derived.ProofKit
import Derived.JoinedCond
set_option linter.unusedVariables false
set_option linter.unusedSimpArgs false
namespace Go.Vc
theorem fill_congr {p q : Nat → Option (Nat × Nat)} : ∀ {l : List (Nat × Value)} {c : Array Value}, (∀ x ∈ l, p x.1 = q x.1) → Instr.fill p c l = Instr.fill q c l
  | [], _, _ => rfl
  | (i, v) :: l, c, h => by
    have e : p i = q i := h (i, v) (by simp)
    have ih : ∀ c, Instr.fill p c l = Instr.fill q c l := fun c => fill_congr fun x hx => h x (by simp [hx])
    simp only [Instr.fill, e]
    cases q i with
    | none => rfl
    | some r => simp only [ih]
def plR (n sz : Nat) : List (Nat × Nat) := (List.range n).map fun i => (i * sz, sz)
theorem fillA_keys {pl : List (Nat × Nat)} : ∀ {xs : List (Nat × AV)} {cs cs' : List AV}, fillA pl cs xs = some cs' → ∀ x ∈ xs, (nth pl x.1).isSome = true
  | [], _, _, _, x, hx => by cases hx
  | (i, x) :: xs, cs, cs', h, y, hy => by
    simp only [fillA] at h
    cases hn : nth pl i with
    | none => simp [hn] at h
    | some p =>
      obtain ⟨off, n⟩ := p
      simp only [hn] at h
      rcases List.mem_cons.1 hy with rfl | hy
      · simp [hn]
      · cases hb : (okA x && (Nat.beq (cellsA x).length n && Nat.ble (off + n) cs.length)) <;> simp only [hb, cond_true, cond_false] at h
        · cases h
        · exact fillA_keys h y hy
theorem PRep.keys {w : World} {M : Mset} : ∀ {xs : List (Nat × AV)} {us : List (Nat × Value)}, PRep w M xs us → ∀ u ∈ us, ∃ x ∈ xs, x.1 = u.1
  | [], us, h, u, hu => by cases h; cases hu
  | (i, x) :: xs, us, ⟨v, us', e, h1, h2⟩, u, hu => by
    subst e
    rcases List.mem_cons.1 hu with rfl | hu
    · exact ⟨(i, x), by simp, rfl⟩
    · obtain ⟨y, hy, e⟩ := PRep.keys h2 u hu
      exact ⟨y, by simp [hy], e⟩
section
variable {P : Program} {env : Env} {s : St} {d : Option Nat} {ty : TypeId} {pos : String} {af : Array Edge} {gd : Option (Nat × Bool)}
variable {a b : Operand} {t : TypeId}
theorem q_buildAr {n e sz : Nat} {zs : List Value} {ps : List (Nat × Operand)} {xs : List (Nat × AV)} {cs : List AV} (hT : arT P t = some (n, e, sz)) (hz : zrA P t = some zs) (hps : evP env ps = some xs) (hf : fillA (plR n sz) (zs.map .v) xs = some cs) :
    QOK P ⟨d, .build t ps.toArray, ty, pos, af, gd⟩ env (.agg cs) :=
  q_of fun w s ρ hs hr => by
    have hp := evP_rep (ρ := ρ) (fun p hp y hy => hr.1 p.2 (by simp [Op.operands]; exact ⟨p.1, hp⟩) y hy) hps
    unfold arT at hT
    cases hu : P.underlying t with
    | none => simp [hu] at hT
    | some du =>
      cases du with
      | array n' e' =>
        simp only [hu] at hT
        cases hi : P.info? e' with
        | none => simp [hi] at hT
        | some ie =>
          simp only [hi, Option.map_some, Option.some.injEq, Prod.mk.injEq] at hT
          obtain ⟨rfl, rfl, hsz⟩ := hT
          unfold zrA at hz
          cases hit : P.info? t with
          | none => simp [hit] at hz
          | some it =>
            cases hzz : it.zero with
            | none => simp [hit, hzz] at hz
            | some z =>
              simp only [hit, hzz] at hz
              cases hb : Nat.beq z.cells.size it.size <;> simp only [hb, cond_true, cond_false] at hz
              · cases hz
              · cases hz
                obtain ⟨cur', h1, h2⟩ := fillA_run (pl := plR n' sz) hp (RepL_v z.cells.toList) hf
                have hk := fillA_keys hf
                have hbt : P.built t (ps.map fun p => (p.1, ρ p.2)) = some cur' := by
                  unfold Program.built
                  simp only [hit, hu, hzz, hi]
                  rw [← h1]
                  apply fill_congr
                  intro u hu2
                  obtain ⟨x, hx, ex⟩ := PRep.keys hp u hu2
                  have := hk x hx
                  rw [ex, nth_eq] at this
                  unfold plR at this ⊢
                  simp at this
                  simp [this, hsz]
                refine ⟨.agg cur', ?_, cur'.toList, by simp, h2⟩
                have := run_build (P := P) w t ((ps.map fun p => (p.1, ρ p.2)).toArray) cur' (by simpa using hbt)
                simp [execOp, this]
      | _ => simp [hu] at hT
theorem q_indexAN {n e sz : Nat} {cs : List AV} {k : IntKind} {m : Int} (hT : arT P t = some (n, e, sz)) (he : agN P e = some sz) (ha : evA env a = some (.agg cs)) (hb : evA env b = some (.v (.int k m))) (h0 : 0 ≤ m) (h1 : m < n) (hn : cs.length = n * sz) :
    QOK P ⟨d, .index t a b, ty, pos, af, gd⟩ env (.agg ((cs.drop (m.toNat * sz)).take sz)) :=
  q_of fun w s ρ hs hr => by
    obtain ⟨us, g1, g2⟩ := hr.1 a (by simp [Op.operands]) _ ha
    have h2 : ρ b = _ := hr.1 b (by simp [Op.operands]) _ hb
    obtain ⟨i1, i2⟩ := isAgg_ag he w
    unfold arT at hT
    cases hu : P.underlying t with
    | none => simp [hu] at hT
    | some du =>
      cases du with
      | array n' e' =>
        simp only [hu] at hT
        cases hi : P.info? e' with
        | none => simp [hi] at hT
        | some i =>
          simp only [hi, Option.map_some, Option.some.injEq, Prod.mk.injEq] at hT
          obtain ⟨rfl, rfl, _⟩ := hT
          refine ⟨.agg (us.toArray.extract (m.toNat * sz) (m.toNat * sz + sz)), ?_, (us.drop (m.toNat * sz)).take sz, by simp [List.extract_toArray, List.extract_eq_take_drop], ?_⟩
          · simp [execOp, g1, h2, Instr.index, asIntOf, run_underlying hu, h0, h1, i1, i2, part]
          · have e1 : cs = cs.take (m.toNat * sz) ++ ((cs.drop (m.toNat * sz)).take sz ++ (cs.drop (m.toNat * sz)).drop sz) := by rw [List.take_append_drop, List.take_append_drop]
            rw [e1] at g2
            obtain ⟨u1, u2, rfl, q1, q2⟩ := RepL.append.1 g2
            obtain ⟨u3, u4, rfl, q3, q4⟩ := RepL.append.1 q2
            have hm : m.toNat * sz + sz ≤ cs.length := by
              rw [hn, ← Nat.succ_mul]; exact Nat.mul_le_mul_right _ (by omega)
            have l1 : u1.length = m.toNat * sz := by rw [RepL.length q1, List.length_take]; omega
            have l3 : u3.length = sz := by rw [RepL.length q3, List.length_take, List.length_drop]; omega
            rw [← l1, List.drop_left, ← l3, List.take_left]
            rw [l1, l3]; exact q3
      | _ => simp [hu] at hT
end
theorem results_cellT {P : Program} {fn : Func} {p t2 : Tmp} {ty : TypeId} (h : fn.results = #[.cell p ty, .tmp t2]) {n : Nat} (hT : agN P ty = some n) (tmps : Array Value) (w : World) (g : Nat) (t : TypeId) (cs : Array Value)
    (hp : tmps.getD p undef = .pointer (some ⟨g, 0, none⟩)) (hw : w.heap[g]? = some (.cells cs t (0, 0))) (hc : cs.size = n) : (results fn tmps).run P w = .ok (.tuple #[.agg cs, tmps.getD t2 undef]) w := by
  have hp' : tmps[p]?.getD undef = .pointer (some ⟨g, 0, none⟩) := by simpa using hp
  have hl := run_loadCells_list (P := P) w ⟨g, 0, none⟩ cs.toList fun j z hj => by
    rw [Addr.add_lit, Nat.zero_add, cell_res hw]; simpa using hj
  rw [Array.length_toList, hc] at hl
  simp [results, h, hp', asAddr, loadVar, isAgg_ag hT, hl]
theorem retCT {P : Program} {N : Nat} {env : Env} {s : St} {K : AV → St → Prop} {ty : TypeId} {fn : Func} {s' : St} {p n k t2 : Nat} {cs : List AV} {r x2 r2 : AV} (hres : fn.results = #[.cell p ty, .tmp t2]) (hT : agN P ty = some n) (hx : env p = some (ptv k 0)) (hx2 : env t2 = some x2) (hk : s k = some (.cells cs)) (hn : cs.length = n)
    (hl : Le s' s) (hc : Cv s s' (.agg cs) r) (hc2 : Cv s s' x2 r2) (h : K (.tup [r, r2]) s') : RetA P N fn K env s := by
  intro cx w a hs he
  have h1 : a.tmps.getD p undef = _ := (he.slot p _ hx).2
  obtain ⟨cur, e, h2, h3⟩ := hs.ok k _ hk
  have hcl : cur.size = n := by have := RepL.length h3; simpa [hn] using this
  exact ⟨_, results_cellT hres hT _ w k e cur h1 h2 hcl, .tup [r, r2], s', ⟨[_, _], rfl, _, _, rfl, hc w _ hs ⟨cur.toList, by simp, h3⟩, _, _, rfl, hc2 w _ hs (he.slot t2 x2 hx2).2, rfl⟩, hs.le hl, Fr.of_le hl, h⟩
end Go.Vc

set_option linter.unusedVariables false
set_option linter.unusedSimpArgs false
set_option maxRecDepth 100000
namespace Go.Proofs.Ytpcpdepfnoijoaa
open Go.Vc
theorem rLow {b : List Bool} {w : Nat} {s : St} {K : AV → St → Prop} (hl : b.length < 2^40) (hw : w < 2^30) (hk : K (bl (toB (bN b % 2 ^ w))) s) : CallsA Try.prog 31 [bl b, .int (w : Int)] s K := by
  refine callsA_of Try.func31 rfl rfl (Nat.le_of_ble_eq_true rfl) ?_
  refine vc_seq ?_
  refine vc_regionW (qm 1) [0] rfl rfl ?_
  refine vq rfl rfl (q_assign rfl) ?_
  refine vendW ?_
  refine vc_seq ?_
  refine vc_regionW (qm 3) [0, 1] rfl rfl ?_
  refine vq rfl rfl (q_buildS sl48 zo4 (by decide) rfl rfl rfl rfl (by decide)) ?_
  refine vq rfl rfl (q_assign rfl) ?_
  refine vendW ?_
  refine vc_seq ?_
  refine vc_regionW (qm 1) [0] rfl rfl ?_
  refine vq rfl rfl (q_assign rfl) ?_
  refine vendW ?_
  refine vc_seq ?_
  refine vc_seq ?_
  refine vc_regionW (qm 1) [0] rfl rfl ?_
  refine vq rfl rfl (q_assign rfl) ?_
  refine vendW ?_
  refine vc_block ?_
  refine vc_loopS (α := Nat × Nat × AV × St) [5, 6, 7, 9, 10, 11, 12, 13, 14, 15, 16, 17, 18, 19, 20, 21, 22, 23, 24] (fun a => [(7, .int (a.1 : Int)), (6, .int (a.2.1 : Int)), (5, a.2.2.1)]) (fun a => a.2.2.2) (fun a => (a.1 ≤ w ∧ a.2.1 ≤ a.1 ∧ (a.2.1 = 0 ∨ (bN b % 2 ^ w).testBit (a.2.1 - 1) = true) ∧ (∀ j, a.2.1 ≤ j → j < a.1 → (bN b % 2 ^ w).testBit j = false)) ∧ OwnSt s a.2.2.1 4 1 (((List.range a.1).map (bN b % 2 ^ w).testBit).map eT) a.2.2.2) (fun a => w - a.1) (0, 0, .slx 1 [], s) ⟨⟨by simp, by simp, .inl rfl, fun j h1 h2 => by simp at h2⟩, OwnSt.slx _ _ _⟩ rfl ⟨rfl, rfl, rfl, trivial⟩ (fun _ => rfl) ?_
  intro ⟨i, last, x, s1⟩ ⟨⟨hi, hla, hlb, hlc⟩, ho⟩
  simp only at hi hla hlb hlc ho ⊢
  refine vc_seq ?_
  refine vc_seq ?_
  refine vc_regionW (qm 7) [0, 1, 2] rfl rfl ?_
  refine vq rfl rfl (q_move rfl) ?_
  refine vq rfl rfl (q_move rfl) ?_
  refine vq rfl rfl (q_lt rfl rfl) ?_
  refine vendW ?_
  refine vc_condD rfl (fun h11 => ?_) (fun h11 => ?_)
  ·
    refine vc_skip ?_
    refine vc_seq ?_
    refine vc_block ?_
    refine vc_seq ?_
    refine vc_regionW (qm 95) [0, 1, 2, 3, 4, 5, 6] rfl rfl ?_
    refine vq rfl rfl (q_move rfl) ?_
    refine vq rfl rfl (q_move rfl) ?_
    refine vq rfl rfl (q_move rfl) ?_
    refine vq rfl rfl (q_callF go62 rfl (fun s => rBit (l := b) (i := i) hl (by omega) ⟨rfl, rfl⟩)) ?_
    refine vq rfl rfl (q_buildS sl48 zo4 (by decide) rfl rfl rfl rfl (by decide)) ?_
    refine ve rfl rfl (e_append sl48 zo4 rfl rfl ho (SrcOK.slx 1 _) (rowsC1_one rfl) (by simp [maxLen_eq]; omega) (fun x3 s3 ho3 => ?_))
    refine vq rfl rfl (q_assign rfl) ?_
    refine vendW ?_
    refine vc_seq ?_
    refine vc_regionW (qm 7) [0, 1, 2] rfl rfl ?_
    refine vq rfl rfl (q_move rfl) ?_
    refine vq rfl rfl (q_move rfl) ?_
    refine vq rfl rfl (q_callF go62 rfl (fun s => rBit (l := b) (i := i) hl (by omega) ⟨rfl, rfl⟩)) ?_
    refine vendW ?_
    refine vc_cond rfl (fun h22 => ?_) (fun h22 => ?_)
    ·
      refine vc_regionW (qm 7) [0, 1, 2] rfl rfl ?_
      refine vq rfl rfl (q_move rfl) ?_
      refine vq rfl rfl (q_add rfl rfl (w64 (by omega))) ?_
      refine vq rfl rfl (q_assign rfl) ?_
      refine vendW ?_
      refine vc_regionW (qm 7) [0, 1, 2] rfl rfl ?_
      refine vq rfl rfl (q_move rfl) ?_
      refine vq rfl rfl (q_add rfl rfl (w64 (by omega))) ?_
      refine vq rfl rfl (q_assign rfl) ?_
      refine vendW ?_
      have hil : i < w := by omega
      have HB : (bN b % 2 ^ w).testBit i = true := by rw [low_bit hil]; exact h22
      have HO : OwnSt s x3 4 1 (((List.range (i + 1)).map (bN b % 2 ^ w).testBit).map eT) s3 := by
        rw [List.range_succ, List.map_append, List.map_append]
        rw [← low_bit hil] at ho3
        exact ho3
      refine ⟨(i + 1, i + 1, x3, s3), ⟨⟨by simp only; omega, by simp, .inr HB, fun j h1 h2 => by simp only at h1 h2; omega⟩, HO⟩, by simp only; omega, ?_, ⟨rfl, rfl, rfl, trivial⟩, rfl⟩
      repeat (first | exact Same.refl | refine Same.upd rfl ?_ | refine Same.drop rfl ?_)
    refine vc_skip ?_
    refine vc_regionW (qm 7) [0, 1, 2] rfl rfl ?_
    refine vq rfl rfl (q_move rfl) ?_
    refine vq rfl rfl (q_add rfl rfl (w64 (by omega))) ?_
    refine vq rfl rfl (q_assign rfl) ?_
    refine vendW ?_
    have hil : i < w := by omega
    have HB : (bN b % 2 ^ w).testBit i = false := by rw [low_bit hil]; exact h22
    have HO : OwnSt s x3 4 1 (((List.range (i + 1)).map (bN b % 2 ^ w).testBit).map eT) s3 := by
      rw [List.range_succ, List.map_append, List.map_append]
      rw [← low_bit hil] at ho3
      exact ho3
    refine ⟨(i + 1, last, x3, s3), ⟨⟨by simp only; omega, by simp only; omega, hlb, fun j h1 h2 => by
      simp only at h1 h2
      by_cases e : j = i
      · subst e; exact HB
      · exact hlc j h1 (by omega)⟩, HO⟩, by simp only; omega, ?_, ⟨rfl, rfl, rfl, trivial⟩, rfl⟩
    repeat (first | exact Same.refl | refine Same.upd rfl ?_ | refine Same.drop rfl ?_)
  refine vc_exit ?_
  refine vc_seq ?_
  refine vc_frz (i := 5) ho rfl ?_
  refine vc_regionW (qm 15) [0, 1, 2, 3] rfl rfl ?_
  refine vq rfl rfl (q_move rfl) ?_
  refine vq rfl rfl (q_move rfl) ?_
  refine vq rfl rfl (q_sliceM (f := eT) (xs := (List.range i).map (bN b % 2 ^ w).testBit) 0 last sl48 rfl rfl rfl (by simp) rfl (by rw [List.length_map, List.length_range]; omega)) ?_
  refine vq rfl rfl (q_assign rfl) ?_
  refine vendW ?_
  refine vc_ret ?_
  have hiw : i = w := by omega
  subst hiw
  exact ret1 rfl rfl (Le.refl _) (Cv.le (Le.refl _) _) (by rw [← cut_range (M := bN b % 2 ^ i) (Nat.mod_lt _ (Nat.pow_pos (by decide))) hla hlb hlc] at hk; exact hk)
theorem rWordS {n : Int} {w : Nat} {s : St} {K : AV → St → Prop} (hn : -4611686018427387904 ≤ n ∧ n < 4611686018427387904) (hw : w < 2^30) (hk : K (bl (toB (iw n w))) s) : CallsA Try.prog 22 [.int n, .int (w : Int)] s K := by
  refine callsA_of Try.func22 rfl rfl (Nat.le_of_ble_eq_true rfl) ?_
  refine vc_seq ?_
  refine vc_regionW (qm 1) [0] rfl rfl ?_
  refine vq rfl rfl (q_assign rfl) ?_
  refine vendW ?_
  refine vc_seq ?_
  refine vc_regionW (qm 3) [0, 1] rfl rfl ?_
  refine vq rfl rfl (q_buildS sl48 zo4 (by decide) rfl rfl rfl rfl (by decide)) ?_
  refine vq rfl rfl (q_assign rfl) ?_
  refine vendW ?_
  refine vc_seq ?_
  refine vc_regionW (qm 1) [0] rfl rfl ?_
  refine vq rfl rfl (q_assign rfl) ?_
  refine vendW ?_
  refine vc_seq ?_
  refine vc_seq ?_
  refine vc_regionW (qm 1) [0] rfl rfl ?_
  refine vq rfl rfl (q_assign rfl) ?_
  refine vendW ?_
  refine vc_block ?_
  refine vc_loopS (α := Nat × Nat × AV × St) [0, 5, 6, 7, 8, 10, 11, 12, 13, 14, 15, 16, 17, 18, 19, 20, 21, 22, 23, 24, 25, 26, 27, 28] (fun a => [(7, .int (a.1 : Int)), (6, .int (a.2.1 : Int)), (5, a.2.2.1), (0, .int (n / 2 ^ a.1))]) (fun a => a.2.2.2) (fun a => (a.1 ≤ w ∧ a.2.1 ≤ a.1 ∧ (a.2.1 = 0 ∨ (iw n w).testBit (a.2.1 - 1) = true) ∧ (∀ j, a.2.1 ≤ j → j < a.1 → (iw n w).testBit j = false)) ∧ OwnSt s a.2.2.1 4 1 (((List.range a.1).map (iw n w).testBit).map eT) a.2.2.2) (fun a => w - a.1) (0, 0, .slx 1 [], s) ⟨⟨by simp, by simp, .inl rfl, fun j h1 h2 => by simp at h2⟩, OwnSt.slx _ _ _⟩ rfl ⟨rfl, rfl, rfl, (congrArg (fun z : Int => some (AV.int z)) (by simp)), trivial⟩ (fun _ => rfl) ?_
  intro ⟨i, last, x, s1⟩ ⟨⟨hi, hla, hlb, hlc⟩, ho⟩
  simp only at hi hla hlb hlc ho ⊢
  refine vc_seq ?_
  refine vc_seq ?_
  refine vc_regionW (qm 7) [0, 1, 2] rfl rfl ?_
  refine vq rfl rfl (q_move rfl) ?_
  refine vq rfl rfl (q_move rfl) ?_
  refine vq rfl rfl (q_lt rfl rfl) ?_
  refine vendW ?_
  refine vc_condD rfl (fun h12 => ?_) (fun h12 => ?_)
  ·
    refine vc_skip ?_
    refine vc_seq ?_
    refine vc_block ?_
    refine vc_seq ?_
    refine vc_regionW (qm 15) [0, 1, 2, 3] rfl rfl ?_
    refine vq rfl rfl (q_move rfl) ?_
    refine vq rfl rfl (q_rem rfl rfl (by omega) rfl) ?_
    refine vq rfl rfl (q_ne rfl rfl) ?_
    refine vq rfl rfl (q_assign rfl) ?_
    refine vendW ?_
    refine vc_seq ?_
    refine vc_regionW (qm 23) [0, 1, 2, 3, 4] rfl rfl ?_
    refine vq rfl rfl (q_move rfl) ?_
    refine vq rfl rfl (q_move rfl) ?_
    refine vq rfl rfl (q_buildS sl48 zo4 (by decide) rfl rfl rfl rfl (by decide)) ?_
    refine ve rfl rfl (e_append sl48 zo4 rfl rfl ho (SrcOK.slx 1 _) (rowsC1_one rfl) (by simp [maxLen_eq]; omega) (fun x3 s3 ho3 => ?_))
    refine vq rfl rfl (q_assign rfl) ?_
    refine vendW ?_
    refine vc_seq ?_
    refine vc_seq ?_
    refine vc_regionW (qm 1) [0] rfl rfl ?_
    refine vq rfl rfl (q_move rfl) ?_
    refine vendW ?_
    refine vc_cond rfl (fun h22 => ?_) (fun h22 => ?_)
    ·
      refine vc_seq ?_
      refine vc_regionW (qm 7) [0, 1, 2] rfl rfl ?_
      refine vq rfl rfl (q_move rfl) ?_
      refine vq rfl rfl (q_add rfl rfl (w64 (by omega))) ?_
      refine vq rfl rfl (q_assign rfl) ?_
      refine vendW ?_
      refine vc_regionW (qm 7) [0, 1, 2] rfl rfl ?_
      refine vq rfl rfl (q_move rfl) ?_
      refine vq rfl rfl (q_sub rfl rfl (w64 (by have := div_bd hn i; omega))) ?_
      refine vq rfl rfl (q_assign rfl) ?_
      refine vendW ?_
      refine vc_regionW (qm 7) [0, 1, 2] rfl rfl ?_
      refine vq rfl rfl (q_move rfl) ?_
      refine vq rfl rfl (q_quo rfl rfl (by omega) (w64 (by have := div_bd hn i; exact tdiv_bd (by omega) (by omega)))) ?_
      refine vq rfl rfl (q_assign rfl) ?_
      refine vendW ?_
      refine vc_regionW (qm 7) [0, 1, 2] rfl rfl ?_
      refine vq rfl rfl (q_move rfl) ?_
      refine vq rfl rfl (q_add rfl rfl (w64 (by omega))) ?_
      refine vq rfl rfl (q_assign rfl) ?_
      refine vendW ?_
      have hil : i < w := by omega
      have HB : (iw n w).testBit i = true := by rw [word_bit hil]; exact h22
      have HO : OwnSt s x3 4 1 (((List.range (i + 1)).map (iw n w).testBit).map eT) s3 := by
        rw [List.range_succ, List.map_append, List.map_append]
        rw [← word_bit hil] at ho3
        exact ho3
      refine ⟨(i + 1, i + 1, x3, s3), ⟨⟨by simp only; omega, by simp, .inr HB, fun j h1 h2 => by simp only at h1 h2; omega⟩, HO⟩, by simp only; omega, ?_, ⟨rfl, rfl, rfl, (congrArg (fun z : Int => some (AV.int z)) (by first | exact half_odd h22 | exact half_even h22)), trivial⟩, rfl⟩
      repeat (first | exact Same.refl | refine Same.upd rfl ?_ | refine Same.drop rfl ?_)
    refine vc_skip ?_
    refine vc_regionW (qm 7) [0, 1, 2] rfl rfl ?_
    refine vq rfl rfl (q_move rfl) ?_
    refine vq rfl rfl (q_quo rfl rfl (by omega) (w64 (by have := div_bd hn i; exact tdiv_bd (by omega) (by omega)))) ?_
    refine vq rfl rfl (q_assign rfl) ?_
    refine vendW ?_
    refine vc_regionW (qm 7) [0, 1, 2] rfl rfl ?_
    refine vq rfl rfl (q_move rfl) ?_
    refine vq rfl rfl (q_add rfl rfl (w64 (by omega))) ?_
    refine vq rfl rfl (q_assign rfl) ?_
    refine vendW ?_
    have hil : i < w := by omega
    have HB : (iw n w).testBit i = false := by rw [word_bit hil]; exact h22
    have HO : OwnSt s x3 4 1 (((List.range (i + 1)).map (iw n w).testBit).map eT) s3 := by
      rw [List.range_succ, List.map_append, List.map_append]
      rw [← word_bit hil] at ho3
      exact ho3
    refine ⟨(i + 1, last, x3, s3), ⟨⟨by simp only; omega, by simp only; omega, hlb, fun j h1 h2 => by
      simp only at h1 h2
      by_cases e : j = i
      · subst e; exact HB
      · exact hlc j h1 (by omega)⟩, HO⟩, by simp only; omega, ?_, ⟨rfl, rfl, rfl, (congrArg (fun z : Int => some (AV.int z)) (by first | exact half_odd h22 | exact half_even h22)), trivial⟩, rfl⟩
    repeat (first | exact Same.refl | refine Same.upd rfl ?_ | refine Same.drop rfl ?_)
  refine vc_exit ?_
  refine vc_seq ?_
  refine vc_frz (i := 5) ho rfl ?_
  refine vc_regionW (qm 15) [0, 1, 2, 3] rfl rfl ?_
  refine vq rfl rfl (q_move rfl) ?_
  refine vq rfl rfl (q_move rfl) ?_
  refine vq rfl rfl (q_sliceM (f := eT) (xs := (List.range i).map (iw n w).testBit) 0 last sl48 rfl rfl rfl (by simp) rfl (by rw [List.length_map, List.length_range]; omega)) ?_
  refine vq rfl rfl (q_assign rfl) ?_
  refine vendW ?_
  refine vc_ret ?_
  have hiw : i = w := by omega
  subst hiw
  exact ret1 rfl rfl (Le.refl _) (Cv.le (Le.refl _) _) (by rw [← cut_range (M := iw n i) (iw_lt _ _) hla hlb hlc] at hk; exact hk)
theorem ar118x : arT Try.prog 118 = some (3, 63, 3) := by kernel_rfl
def FL : List (Nat × Nat × Nat) := [(16, 11, 5), (32, 24, 8), (64, 53, 11)]
def fAt (i : Nat) : Nat × Nat × Nat := FL.getD i (0, 0, 0)
abbrev allA : AV := .agg [.int 16, .int 11, .int 5, .int 32, .int 24, .int 8, .int 64, .int 53, .int 11]
theorem q_indexF {P : Program} {env : Env} {d : Option Nat} {ty : TypeId} {pos : String} {af : Array Edge} {gd : Option (Nat × Bool)} {a b : Operand} {t e i : Nat} (hT : arT P t = some (3, e, 3)) (he : agN P e = some 3) (ha : evA env a = some allA) (hb : evA env b = some (.int (i : Int))) (h1 : i < 3) :
    QOK P ⟨d, .index t a b, ty, pos, af, gd⟩ env (fmA (fAt i).1 (fAt i).2.1 (fAt i).2.2) := by
  have h := q_indexAN (P := P) (d := d) (ty := ty) (pos := pos) (af := af) (gd := gd) hT he ha hb (by omega) (by omega) rfl
  match i, h1 with
  | 0, _ => exact h
  | 1, _ => exact h
  | 2, _ => exact h
def formOf (bits : Int) : (Nat × Nat × Nat) × Int := if bits = 16 then ((16, 11, 5), 0) else if bits = 32 then ((32, 24, 8), 0) else if bits = 64 then ((64, 53, 11), 0) else ((0, 0, 0), 1)
theorem formOf_at {bits : Int} {i : Nat} (h : i < 3) (hb : ((fAt i).1 : Int) = bits) : formOf bits = (fAt i, 0) := by
  subst hb
  match i, h with
  | 0, _ => rfl
  | 1, _ => rfl
  | 2, _ => rfl
theorem formOf_no {bits : Int} (h : ∀ j, j < 3 → ((fAt j).1 : Int) ≠ bits) : formOf bits = ((0, 0, 0), 1) := by
  have h0 := h 0 (by decide)
  have h1 := h 1 (by decide)
  have h2 := h 2 (by decide)
  simp [fAt, FL] at h0 h1 h2
  unfold formOf
  rw [if_neg (by omega), if_neg (by omega), if_neg (by omega)]
theorem allF {s : St} {K : AV → St → Prop} (hk : K allA s) : CallsA Try.prog 63 [] s K := by
  refine callsA_of Try.func63 rfl rfl (Nat.le_of_ble_eq_true rfl) ?_
  refine vc_seq ?_
  refine vc_regionW (qm 0) [0] rfl rfl ?_
  refine ve rfl rfl (e_alloc zr118 (fun k0 hk0 => ?_))
  refine vendW ?_
  refine vc_seq ?_
  refine vc_regionW (qm 15) [0, 1, 2, 3, 4] rfl rfl ?_
  refine vq rfl rfl (q_build pl63 zr63 rfl rfl) ?_
  refine vq rfl rfl (q_build pl63 zr63 rfl rfl) ?_
  refine vq rfl rfl (q_build pl63 zr63 rfl rfl) ?_
  refine vq rfl rfl (q_buildAr ar118x zr118 rfl rfl) ?_
  refine vn rfl rfl (e_storeN sz118 rfl rfl rfl rfl (upd_same _ _ _) rfl ?_)
  refine vendW ?_
  refine vc_ret ?_
  exact retC rfl ag118 rfl (upd_same _ _ _) rfl (Le.new2 hk0) (Cv.le (Le.new2 hk0) _) hk
theorem ofF {bits : Int} {s : St} {K : AV → St → Prop} (hk : K (.tup [fmA (formOf bits).1.1 (formOf bits).1.2.1 (formOf bits).1.2.2, .int (formOf bits).2]) s) : CallsA Try.prog 30 [.int bits] s K := by
  refine callsA_of Try.func30 rfl rfl (Nat.le_of_ble_eq_true rfl) ?_
  refine vc_seq ?_
  refine vc_regionW (qm 2) [0, 1] rfl rfl ?_
  refine ve rfl rfl (e_alloc zr63 (fun k2 hk2 => ?_))
  refine vq rfl rfl (q_assign rfl) ?_
  refine vendW ?_
  refine vc_seq ?_
  refine vc_seq ?_
  refine vc_regionW (qm 3) [0, 1] rfl rfl ?_
  refine vq rfl rfl (q_callF go63 rfl (fun s => allF ⟨rfl, rfl⟩)) ?_
  refine vq rfl rfl (q_move rfl) ?_
  refine vendW ?_
  refine vc_block ?_
  refine vc_loopS (α := Nat) [3, 5, 7, 8, 9, 10, 11, 12, 13, 14, 15] (fun i => [(7, .int (i : Int))]) (fun i => upd s k2 (.cells (List.map AV.v [.int .i64 0, .int .i64 0, .int .i64 0]))) (fun i => i ≤ 3 ∧ ∀ j, j < i → ((fAt j).1 : Int) ≠ bits) (fun i => 3 - i) 0 ⟨by simp, fun j h => by omega⟩ rfl ⟨rfl, trivial⟩ (fun _ => rfl) ?_
  intro i ⟨hi, hno⟩
  refine vc_seq ?_
  refine vc_regionW (qm 1) [0] rfl rfl ?_
  refine vq rfl rfl (q_lt rfl rfl) ?_
  refine vendW ?_
  refine vc_seq ?_
  refine vc_condD rfl (fun h8 => ?_) (fun h8 => ?_)
  ·
    refine vc_skip ?_
    refine vc_seq ?_
    refine vc_block ?_
    refine vc_seq ?_
    refine vc_regionW (qm 1) [0, 1, 2] rfl rfl ?_
    refine vq rfl rfl (q_indexF ar118x ag63 rfl rfl (by omega)) ?_
    refine ve rfl rfl (e_alloc zr63 (fun k5 hk5 => ?_))
    refine vn rfl rfl (e_storeN sz63 rfl rfl rfl rfl (upd_same _ _ _) rfl ?_)
    refine vendW ?_
    refine vc_frzC (i := 5) hk5 (upd_upd _ _ _ _) rfl ?_
    refine vc_seq ?_
    refine vc_regionW (qm 15) [0, 1, 2, 3] rfl rfl ?_
    refine vq rfl rfl (q_field fo63_0 rfl (Nat.le_of_ble_eq_true rfl)) ?_
    refine vq rfl rfl (q_load sc3 rfl) ?_
    refine vq rfl rfl (q_move rfl) ?_
    refine vq rfl rfl (q_eq rfl rfl) ?_
    refine vendW ?_
    refine vc_condD rfl (fun h13 => ?_) (fun h13 => ?_)
    ·
      refine vc_seq ?_
      refine vc_regionW (qm 5) [0, 1, 2] rfl rfl ?_
      refine vq rfl rfl (q_loadA ag63 rfl rfl) ?_
      refine vn rfl rfl (e_storeN sz63 rfl rfl rfl rfl (upd_same _ _ _) rfl ?_)
      refine vq rfl rfl (q_assign rfl) ?_
      refine vendW ?_
      refine vc_ret ?_
      rw [formOf_at (by omega) h13] at hk
      exact retCT rfl ag63 rfl rfl (upd_same _ _ _) rfl (Le.new2 hk2) (Cv.le (Le.new2 hk2) _) (Cv.le (Le.new2 hk2) _) hk
    refine vc_skip ?_
    refine vc_regionW (qm 3) [0, 1] rfl rfl ?_
    refine vq rfl rfl (q_add rfl rfl (w64 (by omega))) ?_
    refine vq rfl rfl (q_move rfl) ?_
    refine vendW ?_
    refine ⟨i + 1, ⟨by omega, fun j h => by
      by_cases e : j = i
      · subst e; exact h13
      · exact hno j (by omega)⟩, by omega, ?_, ⟨rfl, trivial⟩, rfl⟩
    repeat (first | exact Same.refl | refine Same.upd rfl ?_ | refine Same.drop rfl ?_)
  refine vc_exit ?_
  refine vc_seq ?_
  refine vc_regionW (qm 5) [0, 1, 2] rfl rfl ?_
  refine vq rfl rfl (q_build pl63 zr63 rfl rfl) ?_
  refine vn rfl rfl (e_storeN sz63 rfl rfl rfl rfl (upd_same _ _ _) rfl ?_)
  refine vq rfl rfl (q_assign rfl) ?_
  refine vendW ?_
  refine vc_ret ?_
  rw [formOf_no (fun j h => hno j (by omega))] at hk
  exact retCT rfl ag63 rfl rfl (upd_same _ _ _) rfl (Le.new2 hk2) (Cv.le (Le.new2 hk2) _) (Cv.le (Le.new2 hk2) _) hk
end Go.Proofs.Ytpcpdepfnoijoaa

set_option linter.unusedVariables false
set_option linter.unusedSimpArgs false
set_option maxRecDepth 100000
namespace Go.Proofs.Ytpcpdepfnoijoaa
open Go.Vc
structure Pw where
  name : ByteArray
  w : Nat
  v : Nat
instance : Inhabited Pw := ⟨⟨default, 0, 0⟩⟩
def catW : List Pw → Nat
  | [] => 0
  | q :: l => q.v + 2 ^ q.w * catW l
def sumW : List Pw → Nat
  | [] => 0
  | q :: l => q.w + sumW l
def portsW : Nat → List Pw → List Pt
  | _, [] => []
  | off, q :: l => ⟨q.name, seqI off q.w⟩ :: portsW (off + q.w) l
def prtsW (l : List Pw) : List (List Int) := l.map fun q => pts q.v (wd q.v)
theorem seqI_get (b : Nat) : ∀ {n k : Nat}, k < n → (seqI b n).getD k default = ((b + k : Nat) : Int)
  | n + 1, k, h => by
    rw [seqI]
    by_cases e : k = n
    · subst e
      have := getD_end (seqI b k) (((b + k : Nat) : Int)) default
      rwa [seqI_len] at this
    · rw [getD_front (by rw [seqI_len]; omega), seqI_get b (by omega)]
theorem seqI_mem (b : Nat) : ∀ {n : Nat} {x : Int}, x ∈ seqI b n → ∃ k, k < n ∧ x = ((b + k : Nat) : Int)
  | 0, x, h => by cases h
  | n + 1, x, h => by
    rw [seqI] at h
    rcases List.mem_append.1 h with h | h
    · obtain ⟨k, hk, e⟩ := seqI_mem b h
      exact ⟨k, by omega, e⟩
    · exact ⟨n, by omega, by simpa using h⟩
theorem cat_lo {q : Pw} {l : List Pw} {k : Nat} (hv : q.v < 2 ^ q.w) (hk : k < q.w) : (catW (q :: l)).testBit k = q.v.testBit k := by
  rw [catW, Nat.add_comm, Nat.testBit_two_pow_mul_add _ hv, if_pos hk]
theorem cat_hi {q : Pw} {l : List Pw} {k : Nat} (hv : q.v < 2 ^ q.w) : (catW (q :: l)).testBit (q.w + k) = (catW l).testBit k := by
  rw [catW, Nat.add_comm, Nat.testBit_two_pow_mul_add _ hv, if_neg (by omega), Nat.add_sub_cancel_left]
theorem cat_lt : ∀ (l : List Pw), (∀ q ∈ l, q.v < 2 ^ q.w) → catW l < 2 ^ sumW l
  | [], _ => by simp [catW, sumW]
  | q :: l, h => by
    have h1 := h q (by simp)
    have h2 := cat_lt l fun x hx => h x (by simp [hx])
    rw [catW, sumW, Nat.pow_add]
    have h3 : 2 ^ q.w * (catW l + 1) ≤ 2 ^ q.w * 2 ^ sumW l := Nat.mul_le_mul_left _ h2
    rw [Nat.mul_add] at h3
    omega
theorem portsW_len : ∀ (l : List Pw) (off : Nat), (portsW off l).length = l.length
  | [], _ => rfl
  | q :: l, off => by rw [portsW, List.length_cons, List.length_cons, portsW_len l]
theorem prts_get {l : List Pw} {i : Nat} (h : i < l.length) : (prtsW l).getD i default = pts (l.getD i default).v (wd (l.getD i default).v) := by
  simp [prtsW, List.getD_eq_getElem?_getD, h]
theorem inp_aux : ∀ (l : List Pw) (off : Nat) (C : Nat → Bool), (∀ k, C (off + k) = (catW l).testBit k) → (∀ q ∈ l, q.v < 2 ^ q.w) → ∀ i, i < l.length → ∀ k, k < ((portsW off l).getD i default).bits.length →
    C ((((portsW off l).getD i default).bits.getD k default).toNat) = (pN ((prtsW l).getD i default)).testBit k
  | q :: l, off, C, hC, hv, 0, _, k, hk => by
    simp only [portsW, List.getD_cons_zero, seqI_len] at hk ⊢
    rw [seqI_get off hk, prts_get (by simp), pN_pts (wd_lt _), Int.toNat_natCast, hC k, cat_lo (hv q (by simp)) hk]
    rfl
  | q :: l, off, C, hC, hv, i + 1, hi, k, hk => by
    simp only [portsW, List.getD_cons_succ] at hk ⊢
    have := inp_aux l (off + q.w) C (fun k => by rw [Nat.add_assoc, hC (q.w + k), cat_hi (hv q (by simp))]) (fun x hx => hv x (by simp [hx])) i (by simpa using hi) k hk
    rw [this]
    rfl
theorem cover_aux : ∀ (l : List Pw) (off j : Nat), off ≤ j → j < off + sumW l → ∃ i, i < l.length ∧ ∃ k, k < ((portsW off l).getD i default).bits.length ∧ ((portsW off l).getD i default).bits.getD k default = (j : Int)
  | [], off, j, h1, h2 => by simp [sumW] at h2; omega
  | q :: l, off, j, h1, h2 => by
    rcases Nat.lt_or_ge j (off + q.w) with h | h
    · refine ⟨0, by simp, j - off, by simp only [portsW, List.getD_cons_zero, seqI_len]; omega, ?_⟩
      simp only [portsW, List.getD_cons_zero]
      rw [seqI_get off (by omega)]; congr 1; omega
    · obtain ⟨i, hi, k, hk, e⟩ := cover_aux l (off + q.w) j h (by rw [sumW] at h2; omega)
      exact ⟨i + 1, by simpa using hi, k, by simpa only [portsW, List.getD_cons_succ] using hk, by simpa only [portsW, List.getD_cons_succ] using e⟩
theorem ports_rng : ∀ (l : List Pw) (off : Nat) (p : Pt), p ∈ portsW off l → (∃ q ∈ l, p.bits.length = q.w) ∧ ∀ b ∈ p.bits, 0 ≤ b ∧ b < ((off + sumW l : Nat) : Int)
  | [], off, p, h => by cases h
  | q :: l, off, p, h => by
    rw [portsW] at h
    rcases List.mem_cons.1 h with rfl | h
    · refine ⟨⟨q, by simp, seqI_len _ _⟩, fun b hb => ?_⟩
      obtain ⟨k, hk, rfl⟩ := seqI_mem off hb
      rw [sumW]; omega
    · obtain ⟨⟨x, hx, e⟩, h2⟩ := ports_rng l (off + q.w) p h
      refine ⟨⟨x, by simp [hx], e⟩, fun b hb => ?_⟩
      have := h2 b hb
      rw [sumW]; omega
theorem port_len : ∀ (l : List Pw) (off i : Nat), i < l.length → ((portsW off l).getD i default).bits.length = (l.getD i default).w
  | q :: l, off, 0, _ => by simp only [portsW, List.getD_cons_zero, seqI_len]
  | q :: l, off, i + 1, h => by
    simp only [portsW, List.getD_cons_succ]
    exact port_len l (off + q.w) i (by simpa using h)
structure PwOK (l : List Pw) : Prop where
  v : ∀ q ∈ l, q.v < 2 ^ q.w
  w : ∀ q ∈ l, 1 ≤ q.w ∧ q.w ≤ 1000
  n : l.length ≤ 64
theorem EvOK.mk' {nd : List Nd} {ws : List Pw} {outs : List Pt} (hw : WfB nd) (hn : nd.length < 2^38) (hp : PwOK ws) (hs : sumW ws ≤ nd.length) (ho : outs.length < 2^30) (hpo : ∀ q ∈ outs, 1 ≤ q.bits.length ∧ q.bits.length < 2^30 ∧ ∀ b ∈ q.bits, 0 ≤ b ∧ b < nd.length) :
    EvOK ⟨nd, portsW 0 ws, outs⟩ (prtsW ws) (catW ws).testBit := by
  refine ⟨hn, by show (portsW 0 ws).length < _; rw [portsW_len]; have := hp.n; omega, ho, hw, fun q hq => ?_, by simp [prtsW, portsW_len], fun i hi => ?_, fun i hi k hk => ?_, fun i hi hk => ?_⟩
  · rcases List.mem_append.1 hq with h | h
    · obtain ⟨⟨x, hx, e⟩, h2⟩ := ports_rng ws 0 q h
      have := hp.w x hx
      exact ⟨by omega, by omega, fun b hb => by have := h2 b hb; have hs2 := hs; simp only at *; omega⟩
    · exact hpo q h
  · simp only [portsW_len] at hi
    have hm := getD_mem (l := ws) hi
    have h1 := hp.w _ hm
    have h2 := hp.v _ hm
    rw [prts_get hi]
    refine ⟨pts_u32 _ _, ?_, ?_⟩
    · rw [pts_len]; have := wd_mono h2; omega
    · rw [pN_pts (wd_lt _)]
      have e := port_len ws 0 i hi
      show _ < 2 ^ ((portsW 0 ws).getD i default).bits.length
      rw [e]; exact h2
  · simp only [portsW_len] at hi
    exact inp_aux ws 0 _ (fun k => by rw [Nat.zero_add]) hp.v i hi k hk
  · rcases Nat.lt_or_ge i (sumW ws) with h | h
    · left
      obtain ⟨j, hj, k, hk2, e⟩ := cover_aux ws 0 i (Nat.zero_le _) (by omega)
      exact ⟨j, by show j < (portsW 0 ws).length; rw [portsW_len]; exact hj, k, hk2, e⟩
    · right
      exact Nat.testBit_lt_two_pow (Nat.lt_of_lt_of_le (cat_lt ws hp.v) (Nat.pow_le_pow_right (by decide) h))
theorem seq_val {nd : List Nd} {C : Nat → Bool} {off w N v : Nat} (hpre : List.replicate N nI <+: nd) (h : off + w ≤ N) (hv : v < 2 ^ w) (hC : ∀ k, k < w → C (off + k) = v.testBit k) : wv (valN nd C) (seqI off w) = v := by
  refine wv_ext (by rw [seqI_len]; exact hv) fun k hk => ?_
  rw [seqI_len] at hk
  rw [seqI_get off hk]
  show valN nd C (((off + k : Nat) : Int).toNat) = _
  rw [Int.toNat_natCast]
  obtain ⟨t, ht⟩ := hpre
  have hl : off + k < nd.length := by rw [← ht]; simp; omega
  have hg : nd.getD (off + k) default = nI := by
    rw [← ht, getD_front (by simp; omega)]
    have : off + k < N := by omega
    simp [List.getD_eq_getElem?_getD, this]
  rw [valN_in nd C hl (by rw [hg]; rfl), hC k hk]
theorem roundB {p : Nat} {F : List Nat} {nd : List Nd} {ins outs : List Pt} {s : St} {K : AV → St → Prop} (hp : s p = some (bld F nd ins outs)) (hw : WfB nd) (hn : nd.length + 1100000 < 2^39) {fb fp fw : Nat} {md pl sz : List Int} {sg mo : Int} (hmd : BW nd md) (lmd : md.length = 3) (hs : B1 nd sg) (hpl : BW nd pl) (hsz : BW nd sz) (hmo : B1 nd mo) (h1p : 1 ≤ pl.length) (hp20 : pl.length ≤ 20) (hP : 2 ≤ fp) (hfw : 2 ≤ fw) (hfw30 : fw ≤ 30) (hfb : fb = fp + fw) (hfb64 : fb ≤ 64) (h1z : 1 ≤ sz.length) (hn6 : sz.length ≤ 600)
    (hk : ∀ F2 n2 x fl, Gr nd n2 1100000 → BW n2 x → BW n2 fl → x.length = fb → fl.length = 5 → (∀ v, Mod v n2 → (wv v x, wv v fl) = packF fp fw (wv v md) (bv v sg) (wv v sz) (sv v pl) (bv v mo)) → K (.tup [ints x, ints fl]) (upd s p (bld F2 n2 ins outs))) :
    CallsA Try.prog 65 [ptv p 0, fmA fb fp fw, ints md, .int sg, ints pl, ints sz, .int mo] s K := by
  rcases Nat.lt_or_ge sz.length (fp + 2) with h | h
  · exact roundPad hp hw hn hmd lmd hs hpl hsz hmo h1p hp20 hP hfw hfw30 hfb hfb64 h1z hn6 h hk
  · exact roundPlain hp hw hn hmd lmd hs hpl hsz hmo h1p hp20 hP hfw hfw30 hfb hfb64 h1z hn6 h hk
end Go.Proofs.Ytpcpdepfnoijoaa

set_option linter.unusedVariables false
set_option linter.unusedSimpArgs false
set_option maxRecDepth 100000
namespace Go.Proofs.Ytpcpdepfnoijoaa
open Go.Vc
theorem inR {p : Nat} {F : List Nat} {off w : Nat} {ins outs : List Pt} {s : St} {K : AV → St → Prop} (hp : s p = some (bld F (List.replicate off nI) ins outs)) {z : ByteArray} (ho : off < 2^30) (hwl : w ≤ 1000) (hil : ins.length < 2^30)
    (hk : ∀ F2, K (ints (seqI off w)) (upd s p (bld F2 (List.replicate (off + w) nI) (ins ++ [⟨z, seqI off w⟩]) outs))) : CallsA Try.prog 17 [ptv p 0, .v (.string z), .int (w : Int)] s K :=
  inB hp (by rw [List.length_replicate]; omega) hwl hil fun F2 => by
    have h := hk F2
    rw [List.length_replicate, List.replicate_append_replicate]
    exact h
theorem rPartsN {N : Nat} {s : St} {K : AV → St → Prop} (hl : wd N < 2^40) (hk : K (.sl 1 ((pts N (wd N)).map eU)) s) : CallsA Try.prog 25 [bl (toB N)] s K :=
  rParts (by rw [toB_len]; exact hl) (by rw [bN_toB, toB_len]; exact hk)
theorem rOfN {X : Nat} {s : St} {K : AV → St → Prop} (hl : wd X < 2^30) (hk : K (bl (toB X)) s) : CallsA Try.prog 32 [.sl 1 ((pts X (wd X)).map eU)] s K :=
  rOf (by rw [pts_len]; omega) (pts_u32 _ _) (by rw [pN_pts (wd_lt _)]; exact hk)
theorem rFullN {X : Nat} {s : St} {K : AV → St → Prop} (hl : wd X ≤ 64) (hk : K (.tup [.v (.int .u64 (X : Int)), .int 0]) s) : CallsA Try.prog 66 [bl (toB X)] s K :=
  rFull (by rw [toB_len]; exact hl) (by rw [bN_toB]; exact hk)
def ws19 (M kv : Nat) (pl : Int) (n N : Nat) : List Pw := [⟨⟨#[109]⟩, 3, M % 8⟩, ⟨⟨#[99]⟩, 2, kv⟩, ⟨⟨#[112]⟩, 13, iw pl 13⟩, ⟨⟨#[115]⟩, n, N⟩]
theorem ws19_ok {M kv : Nat} {pl : Int} {n N : Nat} (hkv : kv < 4) (hN : N < 2 ^ n) (h1 : 1 ≤ n) (h6 : n ≤ 600) : PwOK (ws19 M kv pl n N) := by
  refine ⟨fun q hq => ?_, fun q hq => ?_, by simp [ws19]⟩ <;> simp only [ws19, List.mem_cons, List.mem_nil_iff, or_false] at hq <;> rcases hq with rfl | rfl | rfl | rfl
  · exact Nat.mod_lt _ (by decide)
  · exact hkv
  · exact iw_lt _ _
  · exact hN
  · simp
  · simp
  · simp
  · exact ⟨h1, by simp only; omega⟩
theorem round_val {nd : List Nd} {M kv n N fp fw : Nat} {pl : Int} {x fl : List Int} {ng mo : Bool} (hw : WfB nd) (hpre : List.replicate (18 + n) nI <+: nd) (hkv : kv = ng.toNat + 2 * mo.toNat) (hpl : -4096 ≤ pl ∧ pl < 4096) (hN : N < 2 ^ n)
    (h : ∀ v, Mod v nd → (wv v x, wv v fl) = packF fp fw (wv v (seqI 0 3)) (bv v ((seqI 3 2).getD 0 default)) (wv v (seqI 18 n)) (sv v (seqI 5 13)) (bv v ((seqI 3 2).getD 1 default))) :
    (wv (valN nd (catW (ws19 M kv pl n N)).testBit) x, wv (valN nd (catW (ws19 M kv pl n N)).testBit) fl) = packF fp fw (M % 8) ng N pl mo := by
  have hkv4 : kv < 2 ^ 2 := by subst hkv; cases ng <;> cases mo <;> decide
  have hm : M % 8 < 2 ^ 3 := Nat.mod_lt _ (by decide)
  have hi := iw_lt pl 13
  rw [h _ (valN_mod hw _)]
  have c1 : ∀ k, k < 3 → (catW (ws19 M kv pl n N)).testBit (0 + k) = (M % 8).testBit k := fun k hk => by
    rw [Nat.zero_add]; exact cat_lo hm hk
  have c2 : ∀ k, k < 2 → (catW (ws19 M kv pl n N)).testBit (3 + k) = kv.testBit k := fun k hk => by
    rw [ws19, cat_hi (q := ⟨⟨#[109]⟩, 3, M % 8⟩) hm]; exact cat_lo hkv4 hk
  have c3 : ∀ k, k < 13 → (catW (ws19 M kv pl n N)).testBit (5 + k) = (iw pl 13).testBit k := fun k hk => by
    rw [ws19, show 5 + k = 3 + (2 + k) by omega, cat_hi (q := ⟨⟨#[109]⟩, 3, M % 8⟩) hm, cat_hi (q := ⟨⟨#[99]⟩, 2, kv⟩) hkv4]; exact cat_lo hi hk
  have c4 : ∀ k, k < n → (catW (ws19 M kv pl n N)).testBit (18 + k) = N.testBit k := fun k hk => by
    rw [ws19, show 18 + k = 3 + (2 + (13 + k)) by omega, cat_hi (q := ⟨⟨#[109]⟩, 3, M % 8⟩) hm, cat_hi (q := ⟨⟨#[99]⟩, 2, kv⟩) hkv4, cat_hi (q := ⟨⟨#[112]⟩, 13, iw pl 13⟩) hi]; exact cat_lo hN hk
  have v1 := seq_val (off := 0) (w := 3) hpre (by omega) hm c1
  have v2 := seq_val (off := 3) (w := 2) hpre (by omega) hkv4 c2
  have v3 := seq_val (off := 5) (w := 13) hpre (by omega) hi c3
  have v4 := seq_val (off := 18) (w := n) hpre (by omega) hN c4
  generalize valN nd (catW (ws19 M kv pl n N)).testBit = u at *
  have b0 : bv u ((seqI 3 2).getD 0 default) = ng := by
    rw [← wv_bit u (seqI 3 2) 0 (by decide), v2, hkv]; cases ng <;> cases mo <;> rfl
  have b1 : bv u ((seqI 3 2).getD 1 default) = mo := by
    rw [← wv_bit u (seqI 3 2) 1 (by decide), v2, hkv]; cases ng <;> cases mo <;> rfl
  rw [v1, v4, b0, b1, sv_iw u (w := 13) (a := pl) rfl (by decide) v3 (by omega) (by omega)]
theorem round_ff {fb fp fw M n N : Nat} {pl : Int} {s : St} {K : AV → St → Prop} (hP : 2 ≤ fp) (hfw : 2 ≤ fw) (hfw30 : fw ≤ 30) (hfb : fb = fp + fw) (hfb64 : fb ≤ 64) (hM : M < 256) (hpl : -4096 ≤ pl ∧ pl < 4096) (hN : N < 2 ^ n) (h1n : 1 ≤ n) (hn6 : n ≤ 600) (hk : K (.tup [.v (.int .u64 (((packF fp fw (M % 8) false N pl false).1 : Nat) : Int)), .int (((packF fp fw (M % 8) false N pl false).2 : Nat) : Int), .bool true]) s) : CallsA Try.prog 33 [fmA fb fp fw, .v (.int .u8 (M : Int)), .bool false, .int pl, bl (toB N), .int (n : Int), .bool false] s K := by
  refine callsA_of Try.func33 rfl rfl (Nat.le_of_ble_eq_true rfl) ?_
  refine vc_seq ?_
  refine vc_regionW (qm 15) [0, 1, 2, 3] rfl rfl ?_
  refine vq rfl rfl (q_box rfl rfl) ?_
  refine vq rfl rfl (q_assign rfl) ?_
  refine vq rfl rfl (q_assign rfl) ?_
  refine vq rfl rfl (q_assign rfl) ?_
  refine vendW ?_
  refine vc_seq ?_
  refine vc_regionW (qm 2) [0, 1] rfl rfl ?_
  refine ve rfl rfl (e_callF go16 rfl (newB (fun p F hp0 => ?_)))
  refine vq rfl rfl (q_assign rfl) ?_
  refine vendW ?_
  refine vc_seq ?_
  refine vc_regionW (qm 7893) [0, 1, 2, 3, 4, 5, 6, 7, 8, 9, 10, 11, 12] rfl rfl ?_
  refine vq rfl rfl (q_move rfl) ?_
  refine ve rfl rfl (e_callF go17 rfl (inR (off := 0) (w := 3) (upd_same _ _ _) (by decide) (by decide) (by simp) (fun F1 => ?_)))
  refine vq rfl rfl (q_move rfl) ?_
  refine ve rfl rfl (e_callF go17 rfl (inR (off := 3) (w := 2) (upd_same _ _ _) (by decide) (by decide) (by simp) (fun F2 => ?_)))
  refine vq rfl rfl (q_move rfl) ?_
  refine ve rfl rfl (e_callF go17 rfl (inR (off := 5) (w := 13) (upd_same _ _ _) (by decide) (by decide) (by simp) (fun F3 => ?_)))
  refine vq rfl rfl (q_move rfl) ?_
  refine vq rfl rfl (q_move rfl) ?_
  refine ve rfl rfl (e_callF go17 rfl (inR (off := 18) (w := n) (upd_same _ _ _) (by decide) (by omega) (by simp) (fun F4 => ?_)))
  refine vq rfl rfl (q_assign rfl) ?_
  refine vq rfl rfl (q_assign rfl) ?_
  refine vq rfl rfl (q_assign rfl) ?_
  refine vq rfl rfl (q_assign rfl) ?_
  refine vendW ?_
  refine vc_seq ?_
  refine vc_seq ?_
  refine vc_regionW (qm 524287) [0, 1, 2, 3, 4, 5, 6, 7, 8, 9, 10, 11, 12, 13, 14, 15, 16, 17, 18] rfl rfl ?_
  refine vq rfl rfl (q_move rfl) ?_
  refine vq rfl rfl (q_len (n := 3) sl40 rfl rfl) ?_
  refine vq rfl rfl (q_ne rfl rfl) ?_
  refine vq rfl rfl (q_move rfl) ?_
  refine vgrp [4, 5, 6, 7] [8, 9, 10, 11, 12, 13, 14, 15, 16, 17, 18] [45, 46, 47] 48 (.v (.bool (false))) ?_ ?_
  ·
    by_cases hg3 : (3 : Int) ≠ 3
    ·
      exact absurd hg3 (by decide)
    ·
      refine gq_run rfl rfl rfl rfl (by first | exact congrArg Value.bool (decide_eq_false hg3) | (rw [decide_eq_false hg3]; done) | (simp [hg3]; done) | simp_all) (q_move rfl) ?_
      refine gq_run rfl rfl rfl rfl (by first | exact congrArg Value.bool (decide_eq_false hg3) | (rw [decide_eq_false hg3]; done) | (simp [hg3]; done) | simp_all) (q_len (n := 2) sl40 rfl rfl) ?_
      refine gq_run rfl rfl rfl rfl (by first | exact congrArg Value.bool (decide_eq_false hg3) | (rw [decide_eq_false hg3]; done) | (simp [hg3]; done) | simp_all) (q_ne rfl rfl) ?_
      refine vq rfl rfl (q_pickF rfl (by first | exact (decide_eq_false hg3) | exact hg3 | (simp [hg3]; done) | simp_all) rfl) ?_
      refine vendW ⟨rfl, congrArg (fun b => some (AV.v (Value.bool b))) (by first | (simp only [decide_eq_false hg3]; done) | (simp only [decide_eq_false hg3]; rfl) | (simp [hg3]; done) | simp_all), ?_⟩
      repeat (first | exact Same.refl | refine Same.upd rfl ?_)
  refine vq rfl rfl (q_move rfl) ?_
  refine vgrp [9, 10, 11, 12] [13, 14, 15, 16, 17, 18] [50, 51, 52] 53 (.v (.bool (false))) ?_ ?_
  ·
    by_cases hg8 : False
    ·
      exact absurd hg8 id
    ·
      refine gq_run rfl rfl rfl rfl (by first | exact congrArg Value.bool (decide_eq_false hg8) | (rw [decide_eq_false hg8]; done) | (simp [hg8]; done) | simp_all) (q_move rfl) ?_
      refine gq_run rfl rfl rfl rfl (by first | exact congrArg Value.bool (decide_eq_false hg8) | (rw [decide_eq_false hg8]; done) | (simp [hg8]; done) | simp_all) (q_len (n := 13) sl40 rfl rfl) ?_
      refine gq_run rfl rfl rfl rfl (by first | exact congrArg Value.bool (decide_eq_false hg8) | (rw [decide_eq_false hg8]; done) | (simp [hg8]; done) | simp_all) (q_ne rfl rfl) ?_
      refine vq rfl rfl (q_pickF rfl (by first | exact (decide_eq_false hg8) | exact hg8 | (simp [hg8]; done) | simp_all) rfl) ?_
      refine vendW ⟨rfl, congrArg (fun b => some (AV.v (Value.bool b))) (by first | (simp only [decide_eq_false hg8]; done) | (simp only [decide_eq_false hg8]; rfl) | (simp [hg8]; done) | simp_all), ?_⟩
      repeat (first | exact Same.refl | refine Same.upd rfl ?_)
  refine vq rfl rfl (q_move rfl) ?_
  refine vgrp [14, 15, 16, 17, 18] [] [55, 56, 57, 58] 59 (.v (.bool (false))) ?_ ?_
  ·
    by_cases hg13 : False
    ·
      exact absurd hg13 id
    ·
      refine gq_run rfl rfl rfl rfl (by first | exact congrArg Value.bool (decide_eq_false hg13) | (rw [decide_eq_false hg13]; done) | (simp [hg13]; done) | simp_all) (q_move rfl) ?_
      refine gq_run rfl rfl rfl rfl (by first | exact congrArg Value.bool (decide_eq_false hg13) | (rw [decide_eq_false hg13]; done) | (simp [hg13]; done) | simp_all) (q_len (n := n) sl40 rfl (by simp [lenA, seqI_len])) ?_
      refine gq_run rfl rfl rfl rfl (by first | exact congrArg Value.bool (decide_eq_false hg13) | (rw [decide_eq_false hg13]; done) | (simp [hg13]; done) | simp_all) (q_move rfl) ?_
      refine gq_run rfl rfl rfl rfl (by first | exact congrArg Value.bool (decide_eq_false hg13) | (rw [decide_eq_false hg13]; done) | (simp [hg13]; done) | simp_all) (q_ne rfl rfl) ?_
      refine vq rfl rfl (q_pickF rfl (by first | exact (decide_eq_false hg13) | exact hg13 | (simp [hg13]; done) | simp_all) rfl) ?_
      refine vendW ⟨rfl, congrArg (fun b => some (AV.v (Value.bool b))) (by first | (simp only [decide_eq_false hg13]; done) | (simp only [decide_eq_false hg13]; rfl) | (simp [hg13]; done) | simp_all), ?_⟩
      repeat (first | exact Same.refl | refine Same.upd rfl ?_)
  refine vendW ?_
  refine vc_condF rfl rfl ?_
  refine vc_skip ?_
  refine vc_seq ?_
  have gI := gr_in (nd := []) (fun i h => by cases h) (18 + n)
  rw [List.nil_append] at gI
  have sw : ∀ a b, a + b ≤ 18 + n → BW (List.replicate (18 + n) nI) (seqI a b) := fun a b h y hy => by
    obtain ⟨k, hk2, rfl⟩ := seqI_mem a hy
    rw [List.length_replicate]; omega
  refine vc_regionDW mx (qm 129023) [0, 1, 2, 3, 4, 5, 6, 7, 8, 9, 10, 11, 12, 13, 14, 15, 16] (by kernel_rfl) ?_
  refine vq rfl rfl (q_move rfl) ?_
  refine vq rfl rfl (q_loadA ag63 rfl rfl) ?_
  refine vq rfl rfl (q_move rfl) ?_
  refine vq rfl rfl (q_move rfl) ?_
  refine vq rfl rfl (q_index sl40 rfl rfl (by decide) (nthM (by decide))) ?_
  refine vq rfl rfl (q_load sc3 rfl) ?_
  refine vq rfl rfl (q_move rfl) ?_
  refine vq rfl rfl (q_move rfl) ?_
  refine vq rfl rfl (q_move rfl) ?_
  refine vq rfl rfl (q_index sl40 rfl rfl (by decide) (nthM (by decide))) ?_
  refine vq rfl rfl (q_load sc3 rfl) ?_
  refine ve rfl rfl (e_callF go65 rfl (roundB (md := seqI 0 3) (pl := seqI 5 13) (sz := seqI 18 n) (upd_same _ _ _) gI.wf (by rw [List.length_replicate]; omega) (sw 0 3 (by omega)) rfl ((sw 3 2 (by omega)).get (by decide)) (sw 5 13 (by omega)) (sw 18 n (by omega)) ((sw 3 2 (by omega)).get (by decide)) (by decide) (by decide) hP hfw hfw30 hfb hfb64 (by rw [seqI_len]; exact h1n) (by rw [seqI_len]; exact hn6) (fun F6 n6 x fl g6 bx bfl lx lf v6 => ?_)))
  refine vq rfl rfl (q_move rfl) ?_
  refine vq rfl rfl (q_extract rfl rfl) ?_
  refine vq rfl rfl (q_extract rfl rfl) ?_
  refine vq rfl rfl (q_assign rfl) ?_
  refine vq rfl rfl (q_assign rfl) ?_
  refine vendW ?_
  refine vc_seq ?_
  refine vc_seq ?_
  refine vc_regionW (qm 1023) [0, 1, 2, 3, 4, 5, 6, 7, 8, 9] rfl rfl ?_
  refine vq rfl rfl (q_move rfl) ?_
  refine vq rfl rfl (q_len (n := fb) sl40 rfl (by simp [lenA, lx])) ?_
  refine vq rfl rfl (q_field fo63_0 rfl (Nat.le_of_ble_eq_true rfl)) ?_
  refine vq rfl rfl (q_load sc3 rfl) ?_
  refine vq rfl rfl (q_ne rfl rfl) ?_
  refine vq rfl rfl (q_move rfl) ?_
  refine vgrp [6, 7, 8, 9] [] [81, 82, 83] 84 (.v (.bool (false))) ?_ ?_
  ·
    by_cases hg5 : (fb : Int) ≠ (fb : Int)
    ·
      exact absurd hg5 (by simp)
    ·
      refine gq_run rfl rfl rfl rfl (by first | exact congrArg Value.bool (decide_eq_false hg5) | (rw [decide_eq_false hg5]; done) | (simp [hg5]; done) | simp_all) (q_move rfl) ?_
      refine gq_run rfl rfl rfl rfl (by first | exact congrArg Value.bool (decide_eq_false hg5) | (rw [decide_eq_false hg5]; done) | (simp [hg5]; done) | simp_all) (q_len (n := 5) sl40 rfl (by simp [lenA, lf])) ?_
      refine gq_run rfl rfl rfl rfl (by first | exact congrArg Value.bool (decide_eq_false hg5) | (rw [decide_eq_false hg5]; done) | (simp [hg5]; done) | simp_all) (q_ne rfl rfl) ?_
      refine vq rfl rfl (q_pickF rfl (by first | exact (decide_eq_false hg5) | exact hg5 | (simp [hg5]; done) | simp_all) rfl) ?_
      refine vendW ⟨rfl, congrArg (fun b => some (AV.v (Value.bool b))) (by first | (simp only [decide_eq_false hg5]; done) | (simp only [decide_eq_false hg5]; rfl) | (simp [hg5]; done) | simp_all), ?_⟩
      repeat (first | exact Same.refl | refine Same.upd rfl ?_)
  refine vendW ?_
  refine vc_condF rfl rfl ?_
  refine vc_skip ?_
  refine vc_seq ?_
  have gl := g6.len
  have gge := g6.ge
  rw [List.length_replicate] at gl gge
  refine vc_regionW (qm 3) [0, 1, 2] rfl rfl ?_
  refine vq rfl rfl (q_move rfl) ?_
  refine vq rfl rfl (q_move rfl) ?_
  refine ve rfl rfl (e_callF go21 rfl (outB (l := x) (upd_same _ _ _) (by omega) (by simp) (fun F7 => ?_)))
  refine vendW ?_
  refine vc_seq ?_
  refine vc_regionW (qm 3) [0, 1, 2] rfl rfl ?_
  refine vq rfl rfl (q_move rfl) ?_
  refine vq rfl rfl (q_move rfl) ?_
  refine ve rfl rfl (e_callF go21 rfl (outB (l := fl) (upd_same _ _ _) (by omega) (by simp) (fun F8 => ?_)))
  refine vendW ?_
  refine vc_seq ?_
  refine vc_regionW (qm 1) [0] rfl rfl ?_
  refine vq rfl rfl (q_assign rfl) ?_
  refine vendW ?_
  refine vc_seq ?_
  refine vc_seq ?_
  refine vc_regionW (qm 1) [0] rfl rfl ?_
  refine vq rfl rfl (q_move rfl) ?_
  refine vendW ?_
  refine vc_condF rfl rfl ?_
  refine vc_skip ?_
  refine vc_seq ?_
  refine vc_seq ?_
  refine vc_regionW (qm 1) [0] rfl rfl ?_
  refine vq rfl rfl (q_move rfl) ?_
  refine vendW ?_
  refine vc_condF rfl rfl ?_
  refine vc_skip ?_
  refine vc_seq ?_
  have hd1 : wd (M % 8) < 2^40 := by have := wd_mono (n := M % 8) (k := 3) (Nat.mod_lt _ (by decide)); omega
  have hd2 : wd (iw pl 13) < 2^40 := by have := wd_mono (iw_lt pl 13); omega
  have hd3 : wd N < 2^40 := by have := wd_mono hN; omega
  have hwo := ws19_ok (M := M) (kv := 0) (pl := pl) (by decide) hN h1n hn6
  have hpo : ∀ q ∈ ([⟨⟨#[120]⟩, x⟩, ⟨⟨#[102]⟩, fl⟩] : List Pt), 1 ≤ q.bits.length ∧ q.bits.length < 2^30 ∧ ∀ b ∈ q.bits, 0 ≤ b ∧ b < n6.length := fun q hq => by
    simp only [List.mem_cons, List.mem_nil_iff, or_false] at hq
    rcases hq with rfl | rfl
    · exact ⟨by simp only; omega, by simp only; omega, bx⟩
    · exact ⟨by simp only; omega, by simp only; omega, bfl⟩
  have hev : EvOK ⟨n6, portsW 0 (ws19 M 0 pl n N), [⟨⟨#[120]⟩, x⟩, ⟨⟨#[102]⟩, fl⟩]⟩ (prtsW (ws19 M 0 pl n N)) (catW (ws19 M 0 pl n N)).testBit := EvOK.mk' g6.wf (by omega) hwo (by simp only [ws19, sumW]; omega) (by simp) hpo
  have hbt : ∀ q ∈ portsW 0 (ws19 M 0 pl n N) ++ ([⟨⟨#[120]⟩, x⟩, ⟨⟨#[102]⟩, fl⟩] : List Pt), q.bits.length < 2^40 := fun q hq => by have := (hev.p q hq).2.1; omega
  have hrv := round_val (M := M) (kv := 0) (n := n) (N := N) (fp := fp) (fw := fw) (ng := false) (mo := false) g6.wf g6.pre rfl hpl hN v6
  have hdx : wd (wv (valN n6 (catW (ws19 M 0 pl n N)).testBit) x) ≤ 64 := by have := wd_mono (wv_lt (valN n6 (catW (ws19 M 0 pl n N)).testBit) x); omega
  have hdf := wv_lt (valN n6 (catW (ws19 M 0 pl n N)).testBit) fl
  rw [lf] at hdf
  have hdf2 := wd_mono hdf
  refine vc_regionW (qm 4194301) [0, 1, 2, 3, 4, 5, 6, 7, 8, 9, 10, 11, 12, 13, 14, 15, 16, 17, 18, 19, 20, 21] rfl rfl ?_
  refine vq rfl rfl (q_move rfl) ?_
  refine ve rfl rfl (e_callF go24 rfl (netB (ins := portsW 0 (ws19 M 0 pl n N)) (outs := [⟨⟨#[120]⟩, x⟩, ⟨⟨#[102]⟩, fl⟩]) hp0 (by simp only [upd_upd]; rfl) (by omega) (by rw [portsW_len]; simp [ws19]) (by simp) hbt ?_))
  refine vq rfl rfl (q_move rfl) ?_
  refine vq rfl rfl (q_rem rfl rfl (by decide) (show _ = ((M % 8 : Nat) : Int) by rw [Int.tmod_eq_emod_of_nonneg (by omega)]; omega)) ?_
  refine vq rfl rfl (q_conv us5 ik56 rfl (wU (w := M % 8) (by omega))) ?_
  refine vq rfl rfl (q_callF go26 rfl (fun s => rWord (n := M % 8) (by omega) ⟨rfl, rfl⟩)) ?_
  refine vq rfl rfl (q_callF go25 rfl (fun s => rPartsN (N := M % 8) hd1 ⟨rfl, rfl⟩)) ?_
  refine vq rfl rfl (q_move rfl) ?_
  refine vq rfl rfl (q_callF go26 rfl (fun s => rWord (n := 0) (by decide) ⟨rfl, rfl⟩)) ?_
  refine vq rfl rfl (q_callF go25 rfl (fun s => rPartsN (N := 0) (by decide) ⟨rfl, rfl⟩)) ?_
  refine vq rfl rfl (q_move rfl) ?_
  refine vq rfl rfl (q_callF go22 rfl (fun s => rWordS (n := pl) (w := 13) (by omega) (by decide) ⟨rfl, rfl⟩)) ?_
  refine vq rfl rfl (q_callF go25 rfl (fun s => rPartsN (N := iw pl 13) hd2 ⟨rfl, rfl⟩)) ?_
  refine vq rfl rfl (q_move rfl) ?_
  refine vq rfl rfl (q_callF go25 rfl (fun s => rPartsN (N := N) hd3 ⟨rfl, rfl⟩)) ?_
  refine vq rfl rfl (q_buildS sl33 zo53 (by decide) rfl rfl rfl rfl (by decide)) ?_
  refine vq rfl rfl (q_callF go23 rfl (fun s => CallsA.le (ALes.cons (ALe.refl _) (ALes.cons (ale_slx 1 _) ALes.nil)) (evalN (nt := ⟨n6, portsW 0 (ws19 M 0 pl n N), [⟨⟨#[120]⟩, x⟩, ⟨⟨#[102]⟩, fl⟩]⟩) (prts := prtsW (ws19 M 0 pl n N)) (inp := (catW (ws19 M 0 pl n N)).testBit) hev ⟨rfl, rfl⟩))) ?_
  refine vq rfl rfl (q_move rfl) ?_
  refine vq rfl rfl (q_extract rfl rfl) ?_
  refine vq rfl rfl (q_extract rfl rfl) ?_
  refine vq rfl rfl (q_assign rfl) ?_
  refine vq rfl rfl (q_assign rfl) ?_
  refine vendW ?_
  refine vc_seq ?_
  refine vc_seq ?_
  refine vc_regionW (qm 127) [0, 1, 2, 3, 4, 5, 6] rfl rfl ?_
  refine vq rfl rfl (q_move rfl) ?_
  refine vq rfl rfl (q_not rfl) ?_
  refine vq rfl rfl (q_move rfl) ?_
  refine vgrp [3, 4, 5, 6] [] [118, 119, 120] 121 (.v (.bool (false))) ?_ ?_
  ·
    by_cases hg2 : False
    ·
      exact absurd hg2 id
    ·
      refine gq_run rfl rfl rfl rfl (by first | exact congrArg Value.bool (decide_eq_false hg2) | (rw [decide_eq_false hg2]; done) | (simp [hg2]; done) | simp_all) (q_move rfl) ?_
      refine gq_run rfl rfl rfl rfl (by first | exact congrArg Value.bool (decide_eq_false hg2) | (rw [decide_eq_false hg2]; done) | (simp [hg2]; done) | simp_all) (q_len sl33 rfl (by first | exact lenM | rfl)) ?_
      refine gq_run rfl rfl rfl rfl (by first | exact congrArg Value.bool (decide_eq_false hg2) | (rw [decide_eq_false hg2]; done) | (simp [hg2]; done) | simp_all) (q_ne rfl rfl) ?_
      refine vq rfl rfl (q_pickF rfl (by first | exact (decide_eq_false hg2) | exact hg2 | (simp [hg2]; done) | simp_all) rfl) ?_
      refine vendW ⟨rfl, congrArg (fun b => some (AV.v (Value.bool b))) (by first | (simp only [decide_eq_false hg2]; done) | (simp only [decide_eq_false hg2]; rfl) | (simp [hg2]; done) | simp_all), ?_⟩
      repeat (first | exact Same.refl | refine Same.upd rfl ?_)
  refine vendW ?_
  refine vc_condF rfl rfl ?_
  refine vc_skip ?_
  refine vc_seq ?_
  refine vc_regionW (qm 1023) [0, 1, 2, 3, 4, 5, 6, 7, 8, 9] rfl rfl ?_
  refine vq rfl rfl (q_move rfl) ?_
  refine vq rfl rfl (q_index sl33 rfl rfl (by decide) rfl) ?_
  refine vq rfl rfl (q_load sc53 rfl) ?_
  refine vq rfl rfl (q_callF go32 rfl (fun s => rOfN (X := wv (valN n6 (catW (ws19 M 0 pl n N)).testBit) x) (by omega) ⟨rfl, rfl⟩)) ?_
  refine vq rfl rfl (q_callF go66 rfl (fun s => rFullN (X := wv (valN n6 (catW (ws19 M 0 pl n N)).testBit) x) hdx ⟨rfl, rfl⟩)) ?_
  refine vq rfl rfl (q_move rfl) ?_
  refine vq rfl rfl (q_extract rfl rfl) ?_
  refine vq rfl rfl (q_extract rfl rfl) ?_
  refine vq rfl rfl (q_assign rfl) ?_
  refine vq rfl rfl (q_assign rfl) ?_
  refine vendW ?_
  refine vc_seq ?_
  refine vc_regionW (qm 1023) [0, 1, 2, 3, 4, 5, 6, 7, 8, 9] rfl rfl ?_
  refine vq rfl rfl (q_move rfl) ?_
  refine vq rfl rfl (q_index sl33 rfl rfl (by decide) rfl) ?_
  refine vq rfl rfl (q_load sc53 rfl) ?_
  refine vq rfl rfl (q_callF go32 rfl (fun s => rOfN (X := wv (valN n6 (catW (ws19 M 0 pl n N)).testBit) fl) (by omega) ⟨rfl, rfl⟩)) ?_
  refine vq rfl rfl (q_callF go66 rfl (fun s => rFullN (X := wv (valN n6 (catW (ws19 M 0 pl n N)).testBit) fl) (by omega) ⟨rfl, rfl⟩)) ?_
  refine vq rfl rfl (q_move rfl) ?_
  refine vq rfl rfl (q_extract rfl rfl) ?_
  refine vq rfl rfl (q_extract rfl rfl) ?_
  refine vq rfl rfl (q_assign rfl) ?_
  refine vq rfl rfl (q_assign rfl) ?_
  refine vendW ?_
  refine vc_seq ?_
  refine vc_regionW (qm 4095) [0, 1, 2, 3, 4, 5, 6, 7, 8, 9, 10, 11] rfl rfl ?_
  refine vq rfl rfl (q_move rfl) ?_
  refine vq rfl rfl (q_move rfl) ?_
  refine vq rfl rfl (q_conv us56 ik3 rfl (w64 (by omega))) ?_
  refine vq rfl rfl (q_move rfl) ?_
  refine vq rfl rfl (q_eq rfl rfl) ?_
  refine vq rfl rfl (q_move rfl) ?_
  refine vgrp [6, 7, 8] [9, 10, 11] [144, 145] 146 (.v (.bool (true))) ?_ ?_
  ·
    by_cases hg5 : True
    ·
      refine gq_run rfl rfl rfl rfl (by first | exact congrArg Value.bool (decide_eq_true hg5) | (rw [decide_eq_true hg5]; done) | (simp [hg5]; done) | simp_all) (q_move rfl) ?_
      refine gq_run rfl rfl rfl rfl (by first | exact congrArg Value.bool (decide_eq_true hg5) | (rw [decide_eq_true hg5]; done) | (simp [hg5]; done) | simp_all) (q_eq rfl rfl) ?_
      refine vq rfl rfl (q_pickT rfl (by first | exact (decide_eq_true hg5) | exact hg5 | (simp [hg5]; done) | simp_all) rfl) ?_
      refine vendW ⟨rfl, congrArg (fun b => some (AV.v (Value.bool b))) (by first | (simp only [decide_eq_true hg5]; done) | (simp only [decide_eq_true hg5]; rfl) | (simp [hg5]; done) | simp_all), ?_⟩
      repeat (first | exact Same.refl | refine Same.upd rfl ?_)
    ·
      refine g_skip rfl rfl rfl (by first | (rw [decide_eq_false hg5]; simp; done) | (intro e; have e2 := Value.bool.inj e; rw [decide_eq_false hg5] at e2; cases e2; done) | (simp [hg5]; done) | simp_all) ?_
      refine g_skip rfl rfl rfl (by first | (rw [decide_eq_false hg5]; simp; done) | (intro e; have e2 := Value.bool.inj e; rw [decide_eq_false hg5] at e2; cases e2; done) | (simp [hg5]; done) | simp_all) ?_
      refine vq rfl rfl (q_pickF rfl (by first | exact (decide_eq_false hg5) | exact hg5 | (simp [hg5]; done) | simp_all) rfl) ?_
      refine vendW ⟨rfl, congrArg (fun b => some (AV.v (Value.bool b))) (by first | (simp only [decide_eq_false hg5]; done) | (simp only [decide_eq_false hg5]; rfl) | (simp [hg5]; done) | simp_all), ?_⟩
      repeat (first | exact Same.refl | refine Same.upd rfl ?_)
  refine vq rfl rfl (q_assign rfl) ?_
  refine vq rfl rfl (q_assign rfl) ?_
  refine vq rfl rfl (q_assign rfl) ?_
  refine vendW ?_
  refine vc_ret ?_
  rw [← hrv] at hk
  exact ret3 rfl rfl rfl rfl (Le.refl _) (Cv.le (Le.refl _) _) (Cv.le (Le.refl _) _) (Cv.le (Le.refl _) _) hk
theorem round_ft {fb fp fw M n N : Nat} {pl : Int} {s : St} {K : AV → St → Prop} (hP : 2 ≤ fp) (hfw : 2 ≤ fw) (hfw30 : fw ≤ 30) (hfb : fb = fp + fw) (hfb64 : fb ≤ 64) (hM : M < 256) (hpl : -4096 ≤ pl ∧ pl < 4096) (hN : N < 2 ^ n) (h1n : 1 ≤ n) (hn6 : n ≤ 600) (hk : K (.tup [.v (.int .u64 (((packF fp fw (M % 8) false N pl true).1 : Nat) : Int)), .int (((packF fp fw (M % 8) false N pl true).2 : Nat) : Int), .bool true]) s) : CallsA Try.prog 33 [fmA fb fp fw, .v (.int .u8 (M : Int)), .bool false, .int pl, bl (toB N), .int (n : Int), .bool true] s K := by
  refine callsA_of Try.func33 rfl rfl (Nat.le_of_ble_eq_true rfl) ?_
  refine vc_seq ?_
  refine vc_regionW (qm 15) [0, 1, 2, 3] rfl rfl ?_
  refine vq rfl rfl (q_box rfl rfl) ?_
  refine vq rfl rfl (q_assign rfl) ?_
  refine vq rfl rfl (q_assign rfl) ?_
  refine vq rfl rfl (q_assign rfl) ?_
  refine vendW ?_
  refine vc_seq ?_
  refine vc_regionW (qm 2) [0, 1] rfl rfl ?_
  refine ve rfl rfl (e_callF go16 rfl (newB (fun p F hp0 => ?_)))
  refine vq rfl rfl (q_assign rfl) ?_
  refine vendW ?_
  refine vc_seq ?_
  refine vc_regionW (qm 7893) [0, 1, 2, 3, 4, 5, 6, 7, 8, 9, 10, 11, 12] rfl rfl ?_
  refine vq rfl rfl (q_move rfl) ?_
  refine ve rfl rfl (e_callF go17 rfl (inR (off := 0) (w := 3) (upd_same _ _ _) (by decide) (by decide) (by simp) (fun F1 => ?_)))
  refine vq rfl rfl (q_move rfl) ?_
  refine ve rfl rfl (e_callF go17 rfl (inR (off := 3) (w := 2) (upd_same _ _ _) (by decide) (by decide) (by simp) (fun F2 => ?_)))
  refine vq rfl rfl (q_move rfl) ?_
  refine ve rfl rfl (e_callF go17 rfl (inR (off := 5) (w := 13) (upd_same _ _ _) (by decide) (by decide) (by simp) (fun F3 => ?_)))
  refine vq rfl rfl (q_move rfl) ?_
  refine vq rfl rfl (q_move rfl) ?_
  refine ve rfl rfl (e_callF go17 rfl (inR (off := 18) (w := n) (upd_same _ _ _) (by decide) (by omega) (by simp) (fun F4 => ?_)))
  refine vq rfl rfl (q_assign rfl) ?_
  refine vq rfl rfl (q_assign rfl) ?_
  refine vq rfl rfl (q_assign rfl) ?_
  refine vq rfl rfl (q_assign rfl) ?_
  refine vendW ?_
  refine vc_seq ?_
  refine vc_seq ?_
  refine vc_regionW (qm 524287) [0, 1, 2, 3, 4, 5, 6, 7, 8, 9, 10, 11, 12, 13, 14, 15, 16, 17, 18] rfl rfl ?_
  refine vq rfl rfl (q_move rfl) ?_
  refine vq rfl rfl (q_len (n := 3) sl40 rfl rfl) ?_
  refine vq rfl rfl (q_ne rfl rfl) ?_
  refine vq rfl rfl (q_move rfl) ?_
  refine vgrp [4, 5, 6, 7] [8, 9, 10, 11, 12, 13, 14, 15, 16, 17, 18] [45, 46, 47] 48 (.v (.bool (false))) ?_ ?_
  ·
    by_cases hg3 : (3 : Int) ≠ 3
    ·
      exact absurd hg3 (by decide)
    ·
      refine gq_run rfl rfl rfl rfl (by first | exact congrArg Value.bool (decide_eq_false hg3) | (rw [decide_eq_false hg3]; done) | (simp [hg3]; done) | simp_all) (q_move rfl) ?_
      refine gq_run rfl rfl rfl rfl (by first | exact congrArg Value.bool (decide_eq_false hg3) | (rw [decide_eq_false hg3]; done) | (simp [hg3]; done) | simp_all) (q_len (n := 2) sl40 rfl rfl) ?_
      refine gq_run rfl rfl rfl rfl (by first | exact congrArg Value.bool (decide_eq_false hg3) | (rw [decide_eq_false hg3]; done) | (simp [hg3]; done) | simp_all) (q_ne rfl rfl) ?_
      refine vq rfl rfl (q_pickF rfl (by first | exact (decide_eq_false hg3) | exact hg3 | (simp [hg3]; done) | simp_all) rfl) ?_
      refine vendW ⟨rfl, congrArg (fun b => some (AV.v (Value.bool b))) (by first | (simp only [decide_eq_false hg3]; done) | (simp only [decide_eq_false hg3]; rfl) | (simp [hg3]; done) | simp_all), ?_⟩
      repeat (first | exact Same.refl | refine Same.upd rfl ?_)
  refine vq rfl rfl (q_move rfl) ?_
  refine vgrp [9, 10, 11, 12] [13, 14, 15, 16, 17, 18] [50, 51, 52] 53 (.v (.bool (false))) ?_ ?_
  ·
    by_cases hg8 : False
    ·
      exact absurd hg8 id
    ·
      refine gq_run rfl rfl rfl rfl (by first | exact congrArg Value.bool (decide_eq_false hg8) | (rw [decide_eq_false hg8]; done) | (simp [hg8]; done) | simp_all) (q_move rfl) ?_
      refine gq_run rfl rfl rfl rfl (by first | exact congrArg Value.bool (decide_eq_false hg8) | (rw [decide_eq_false hg8]; done) | (simp [hg8]; done) | simp_all) (q_len (n := 13) sl40 rfl rfl) ?_
      refine gq_run rfl rfl rfl rfl (by first | exact congrArg Value.bool (decide_eq_false hg8) | (rw [decide_eq_false hg8]; done) | (simp [hg8]; done) | simp_all) (q_ne rfl rfl) ?_
      refine vq rfl rfl (q_pickF rfl (by first | exact (decide_eq_false hg8) | exact hg8 | (simp [hg8]; done) | simp_all) rfl) ?_
      refine vendW ⟨rfl, congrArg (fun b => some (AV.v (Value.bool b))) (by first | (simp only [decide_eq_false hg8]; done) | (simp only [decide_eq_false hg8]; rfl) | (simp [hg8]; done) | simp_all), ?_⟩
      repeat (first | exact Same.refl | refine Same.upd rfl ?_)
  refine vq rfl rfl (q_move rfl) ?_
  refine vgrp [14, 15, 16, 17, 18] [] [55, 56, 57, 58] 59 (.v (.bool (false))) ?_ ?_
  ·
    by_cases hg13 : False
    ·
      exact absurd hg13 id
    ·
      refine gq_run rfl rfl rfl rfl (by first | exact congrArg Value.bool (decide_eq_false hg13) | (rw [decide_eq_false hg13]; done) | (simp [hg13]; done) | simp_all) (q_move rfl) ?_
      refine gq_run rfl rfl rfl rfl (by first | exact congrArg Value.bool (decide_eq_false hg13) | (rw [decide_eq_false hg13]; done) | (simp [hg13]; done) | simp_all) (q_len (n := n) sl40 rfl (by simp [lenA, seqI_len])) ?_
      refine gq_run rfl rfl rfl rfl (by first | exact congrArg Value.bool (decide_eq_false hg13) | (rw [decide_eq_false hg13]; done) | (simp [hg13]; done) | simp_all) (q_move rfl) ?_
      refine gq_run rfl rfl rfl rfl (by first | exact congrArg Value.bool (decide_eq_false hg13) | (rw [decide_eq_false hg13]; done) | (simp [hg13]; done) | simp_all) (q_ne rfl rfl) ?_
      refine vq rfl rfl (q_pickF rfl (by first | exact (decide_eq_false hg13) | exact hg13 | (simp [hg13]; done) | simp_all) rfl) ?_
      refine vendW ⟨rfl, congrArg (fun b => some (AV.v (Value.bool b))) (by first | (simp only [decide_eq_false hg13]; done) | (simp only [decide_eq_false hg13]; rfl) | (simp [hg13]; done) | simp_all), ?_⟩
      repeat (first | exact Same.refl | refine Same.upd rfl ?_)
  refine vendW ?_
  refine vc_condF rfl rfl ?_
  refine vc_skip ?_
  refine vc_seq ?_
  have gI := gr_in (nd := []) (fun i h => by cases h) (18 + n)
  rw [List.nil_append] at gI
  have sw : ∀ a b, a + b ≤ 18 + n → BW (List.replicate (18 + n) nI) (seqI a b) := fun a b h y hy => by
    obtain ⟨k, hk2, rfl⟩ := seqI_mem a hy
    rw [List.length_replicate]; omega
  refine vc_regionDW mx (qm 129023) [0, 1, 2, 3, 4, 5, 6, 7, 8, 9, 10, 11, 12, 13, 14, 15, 16] (by kernel_rfl) ?_
  refine vq rfl rfl (q_move rfl) ?_
  refine vq rfl rfl (q_loadA ag63 rfl rfl) ?_
  refine vq rfl rfl (q_move rfl) ?_
  refine vq rfl rfl (q_move rfl) ?_
  refine vq rfl rfl (q_index sl40 rfl rfl (by decide) (nthM (by decide))) ?_
  refine vq rfl rfl (q_load sc3 rfl) ?_
  refine vq rfl rfl (q_move rfl) ?_
  refine vq rfl rfl (q_move rfl) ?_
  refine vq rfl rfl (q_move rfl) ?_
  refine vq rfl rfl (q_index sl40 rfl rfl (by decide) (nthM (by decide))) ?_
  refine vq rfl rfl (q_load sc3 rfl) ?_
  refine ve rfl rfl (e_callF go65 rfl (roundB (md := seqI 0 3) (pl := seqI 5 13) (sz := seqI 18 n) (upd_same _ _ _) gI.wf (by rw [List.length_replicate]; omega) (sw 0 3 (by omega)) rfl ((sw 3 2 (by omega)).get (by decide)) (sw 5 13 (by omega)) (sw 18 n (by omega)) ((sw 3 2 (by omega)).get (by decide)) (by decide) (by decide) hP hfw hfw30 hfb hfb64 (by rw [seqI_len]; exact h1n) (by rw [seqI_len]; exact hn6) (fun F6 n6 x fl g6 bx bfl lx lf v6 => ?_)))
  refine vq rfl rfl (q_move rfl) ?_
  refine vq rfl rfl (q_extract rfl rfl) ?_
  refine vq rfl rfl (q_extract rfl rfl) ?_
  refine vq rfl rfl (q_assign rfl) ?_
  refine vq rfl rfl (q_assign rfl) ?_
  refine vendW ?_
  refine vc_seq ?_
  refine vc_seq ?_
  refine vc_regionW (qm 1023) [0, 1, 2, 3, 4, 5, 6, 7, 8, 9] rfl rfl ?_
  refine vq rfl rfl (q_move rfl) ?_
  refine vq rfl rfl (q_len (n := fb) sl40 rfl (by simp [lenA, lx])) ?_
  refine vq rfl rfl (q_field fo63_0 rfl (Nat.le_of_ble_eq_true rfl)) ?_
  refine vq rfl rfl (q_load sc3 rfl) ?_
  refine vq rfl rfl (q_ne rfl rfl) ?_
  refine vq rfl rfl (q_move rfl) ?_
  refine vgrp [6, 7, 8, 9] [] [81, 82, 83] 84 (.v (.bool (false))) ?_ ?_
  ·
    by_cases hg5 : (fb : Int) ≠ (fb : Int)
    ·
      exact absurd hg5 (by simp)
    ·
      refine gq_run rfl rfl rfl rfl (by first | exact congrArg Value.bool (decide_eq_false hg5) | (rw [decide_eq_false hg5]; done) | (simp [hg5]; done) | simp_all) (q_move rfl) ?_
      refine gq_run rfl rfl rfl rfl (by first | exact congrArg Value.bool (decide_eq_false hg5) | (rw [decide_eq_false hg5]; done) | (simp [hg5]; done) | simp_all) (q_len (n := 5) sl40 rfl (by simp [lenA, lf])) ?_
      refine gq_run rfl rfl rfl rfl (by first | exact congrArg Value.bool (decide_eq_false hg5) | (rw [decide_eq_false hg5]; done) | (simp [hg5]; done) | simp_all) (q_ne rfl rfl) ?_
      refine vq rfl rfl (q_pickF rfl (by first | exact (decide_eq_false hg5) | exact hg5 | (simp [hg5]; done) | simp_all) rfl) ?_
      refine vendW ⟨rfl, congrArg (fun b => some (AV.v (Value.bool b))) (by first | (simp only [decide_eq_false hg5]; done) | (simp only [decide_eq_false hg5]; rfl) | (simp [hg5]; done) | simp_all), ?_⟩
      repeat (first | exact Same.refl | refine Same.upd rfl ?_)
  refine vendW ?_
  refine vc_condF rfl rfl ?_
  refine vc_skip ?_
  refine vc_seq ?_
  have gl := g6.len
  have gge := g6.ge
  rw [List.length_replicate] at gl gge
  refine vc_regionW (qm 3) [0, 1, 2] rfl rfl ?_
  refine vq rfl rfl (q_move rfl) ?_
  refine vq rfl rfl (q_move rfl) ?_
  refine ve rfl rfl (e_callF go21 rfl (outB (l := x) (upd_same _ _ _) (by omega) (by simp) (fun F7 => ?_)))
  refine vendW ?_
  refine vc_seq ?_
  refine vc_regionW (qm 3) [0, 1, 2] rfl rfl ?_
  refine vq rfl rfl (q_move rfl) ?_
  refine vq rfl rfl (q_move rfl) ?_
  refine ve rfl rfl (e_callF go21 rfl (outB (l := fl) (upd_same _ _ _) (by omega) (by simp) (fun F8 => ?_)))
  refine vendW ?_
  refine vc_seq ?_
  refine vc_regionW (qm 1) [0] rfl rfl ?_
  refine vq rfl rfl (q_assign rfl) ?_
  refine vendW ?_
  refine vc_seq ?_
  refine vc_seq ?_
  refine vc_regionW (qm 1) [0] rfl rfl ?_
  refine vq rfl rfl (q_move rfl) ?_
  refine vendW ?_
  refine vc_condF rfl rfl ?_
  refine vc_skip ?_
  refine vc_seq ?_
  refine vc_seq ?_
  refine vc_regionW (qm 1) [0] rfl rfl ?_
  refine vq rfl rfl (q_move rfl) ?_
  refine vendW ?_
  refine vc_condT rfl rfl ?_
  refine vc_regionW (qm 7) [0, 1, 2] rfl rfl ?_
  refine vq rfl rfl (q_move rfl) ?_
  refine vq rfl rfl (q_add rfl rfl (show _ = (2 : Int) from by decide)) ?_
  refine vq rfl rfl (q_assign rfl) ?_
  refine vendW ?_
  refine vc_seq ?_
  have hd1 : wd (M % 8) < 2^40 := by have := wd_mono (n := M % 8) (k := 3) (Nat.mod_lt _ (by decide)); omega
  have hd2 : wd (iw pl 13) < 2^40 := by have := wd_mono (iw_lt pl 13); omega
  have hd3 : wd N < 2^40 := by have := wd_mono hN; omega
  have hwo := ws19_ok (M := M) (kv := 2) (pl := pl) (by decide) hN h1n hn6
  have hpo : ∀ q ∈ ([⟨⟨#[120]⟩, x⟩, ⟨⟨#[102]⟩, fl⟩] : List Pt), 1 ≤ q.bits.length ∧ q.bits.length < 2^30 ∧ ∀ b ∈ q.bits, 0 ≤ b ∧ b < n6.length := fun q hq => by
    simp only [List.mem_cons, List.mem_nil_iff, or_false] at hq
    rcases hq with rfl | rfl
    · exact ⟨by simp only; omega, by simp only; omega, bx⟩
    · exact ⟨by simp only; omega, by simp only; omega, bfl⟩
  have hev : EvOK ⟨n6, portsW 0 (ws19 M 2 pl n N), [⟨⟨#[120]⟩, x⟩, ⟨⟨#[102]⟩, fl⟩]⟩ (prtsW (ws19 M 2 pl n N)) (catW (ws19 M 2 pl n N)).testBit := EvOK.mk' g6.wf (by omega) hwo (by simp only [ws19, sumW]; omega) (by simp) hpo
  have hbt : ∀ q ∈ portsW 0 (ws19 M 2 pl n N) ++ ([⟨⟨#[120]⟩, x⟩, ⟨⟨#[102]⟩, fl⟩] : List Pt), q.bits.length < 2^40 := fun q hq => by have := (hev.p q hq).2.1; omega
  have hrv := round_val (M := M) (kv := 2) (n := n) (N := N) (fp := fp) (fw := fw) (ng := false) (mo := true) g6.wf g6.pre rfl hpl hN v6
  have hdx : wd (wv (valN n6 (catW (ws19 M 2 pl n N)).testBit) x) ≤ 64 := by have := wd_mono (wv_lt (valN n6 (catW (ws19 M 2 pl n N)).testBit) x); omega
  have hdf := wv_lt (valN n6 (catW (ws19 M 2 pl n N)).testBit) fl
  rw [lf] at hdf
  have hdf2 := wd_mono hdf
  refine vc_regionW (qm 4194301) [0, 1, 2, 3, 4, 5, 6, 7, 8, 9, 10, 11, 12, 13, 14, 15, 16, 17, 18, 19, 20, 21] rfl rfl ?_
  refine vq rfl rfl (q_move rfl) ?_
  refine ve rfl rfl (e_callF go24 rfl (netB (ins := portsW 0 (ws19 M 2 pl n N)) (outs := [⟨⟨#[120]⟩, x⟩, ⟨⟨#[102]⟩, fl⟩]) hp0 (by simp only [upd_upd]; rfl) (by omega) (by rw [portsW_len]; simp [ws19]) (by simp) hbt ?_))
  refine vq rfl rfl (q_move rfl) ?_
  refine vq rfl rfl (q_rem rfl rfl (by decide) (show _ = ((M % 8 : Nat) : Int) by rw [Int.tmod_eq_emod_of_nonneg (by omega)]; omega)) ?_
  refine vq rfl rfl (q_conv us5 ik56 rfl (wU (w := M % 8) (by omega))) ?_
  refine vq rfl rfl (q_callF go26 rfl (fun s => rWord (n := M % 8) (by omega) ⟨rfl, rfl⟩)) ?_
  refine vq rfl rfl (q_callF go25 rfl (fun s => rPartsN (N := M % 8) hd1 ⟨rfl, rfl⟩)) ?_
  refine vq rfl rfl (q_move rfl) ?_
  refine vq rfl rfl (q_callF go26 rfl (fun s => rWord (n := 2) (by decide) ⟨rfl, rfl⟩)) ?_
  refine vq rfl rfl (q_callF go25 rfl (fun s => rPartsN (N := 2) (by decide) ⟨rfl, rfl⟩)) ?_
  refine vq rfl rfl (q_move rfl) ?_
  refine vq rfl rfl (q_callF go22 rfl (fun s => rWordS (n := pl) (w := 13) (by omega) (by decide) ⟨rfl, rfl⟩)) ?_
  refine vq rfl rfl (q_callF go25 rfl (fun s => rPartsN (N := iw pl 13) hd2 ⟨rfl, rfl⟩)) ?_
  refine vq rfl rfl (q_move rfl) ?_
  refine vq rfl rfl (q_callF go25 rfl (fun s => rPartsN (N := N) hd3 ⟨rfl, rfl⟩)) ?_
  refine vq rfl rfl (q_buildS sl33 zo53 (by decide) rfl rfl rfl rfl (by decide)) ?_
  refine vq rfl rfl (q_callF go23 rfl (fun s => CallsA.le (ALes.cons (ALe.refl _) (ALes.cons (ale_slx 1 _) ALes.nil)) (evalN (nt := ⟨n6, portsW 0 (ws19 M 2 pl n N), [⟨⟨#[120]⟩, x⟩, ⟨⟨#[102]⟩, fl⟩]⟩) (prts := prtsW (ws19 M 2 pl n N)) (inp := (catW (ws19 M 2 pl n N)).testBit) hev ⟨rfl, rfl⟩))) ?_
  refine vq rfl rfl (q_move rfl) ?_
  refine vq rfl rfl (q_extract rfl rfl) ?_
  refine vq rfl rfl (q_extract rfl rfl) ?_
  refine vq rfl rfl (q_assign rfl) ?_
  refine vq rfl rfl (q_assign rfl) ?_
  refine vendW ?_
  refine vc_seq ?_
  refine vc_seq ?_
  refine vc_regionW (qm 127) [0, 1, 2, 3, 4, 5, 6] rfl rfl ?_
  refine vq rfl rfl (q_move rfl) ?_
  refine vq rfl rfl (q_not rfl) ?_
  refine vq rfl rfl (q_move rfl) ?_
  refine vgrp [3, 4, 5, 6] [] [118, 119, 120] 121 (.v (.bool (false))) ?_ ?_
  ·
    by_cases hg2 : False
    ·
      exact absurd hg2 id
    ·
      refine gq_run rfl rfl rfl rfl (by first | exact congrArg Value.bool (decide_eq_false hg2) | (rw [decide_eq_false hg2]; done) | (simp [hg2]; done) | simp_all) (q_move rfl) ?_
      refine gq_run rfl rfl rfl rfl (by first | exact congrArg Value.bool (decide_eq_false hg2) | (rw [decide_eq_false hg2]; done) | (simp [hg2]; done) | simp_all) (q_len sl33 rfl (by first | exact lenM | rfl)) ?_
      refine gq_run rfl rfl rfl rfl (by first | exact congrArg Value.bool (decide_eq_false hg2) | (rw [decide_eq_false hg2]; done) | (simp [hg2]; done) | simp_all) (q_ne rfl rfl) ?_
      refine vq rfl rfl (q_pickF rfl (by first | exact (decide_eq_false hg2) | exact hg2 | (simp [hg2]; done) | simp_all) rfl) ?_
      refine vendW ⟨rfl, congrArg (fun b => some (AV.v (Value.bool b))) (by first | (simp only [decide_eq_false hg2]; done) | (simp only [decide_eq_false hg2]; rfl) | (simp [hg2]; done) | simp_all), ?_⟩
      repeat (first | exact Same.refl | refine Same.upd rfl ?_)
  refine vendW ?_
  refine vc_condF rfl rfl ?_
  refine vc_skip ?_
  refine vc_seq ?_
  refine vc_regionW (qm 1023) [0, 1, 2, 3, 4, 5, 6, 7, 8, 9] rfl rfl ?_
  refine vq rfl rfl (q_move rfl) ?_
  refine vq rfl rfl (q_index sl33 rfl rfl (by decide) rfl) ?_
  refine vq rfl rfl (q_load sc53 rfl) ?_
  refine vq rfl rfl (q_callF go32 rfl (fun s => rOfN (X := wv (valN n6 (catW (ws19 M 2 pl n N)).testBit) x) (by omega) ⟨rfl, rfl⟩)) ?_
  refine vq rfl rfl (q_callF go66 rfl (fun s => rFullN (X := wv (valN n6 (catW (ws19 M 2 pl n N)).testBit) x) hdx ⟨rfl, rfl⟩)) ?_
  refine vq rfl rfl (q_move rfl) ?_
  refine vq rfl rfl (q_extract rfl rfl) ?_
  refine vq rfl rfl (q_extract rfl rfl) ?_
  refine vq rfl rfl (q_assign rfl) ?_
  refine vq rfl rfl (q_assign rfl) ?_
  refine vendW ?_
  refine vc_seq ?_
  refine vc_regionW (qm 1023) [0, 1, 2, 3, 4, 5, 6, 7, 8, 9] rfl rfl ?_
  refine vq rfl rfl (q_move rfl) ?_
  refine vq rfl rfl (q_index sl33 rfl rfl (by decide) rfl) ?_
  refine vq rfl rfl (q_load sc53 rfl) ?_
  refine vq rfl rfl (q_callF go32 rfl (fun s => rOfN (X := wv (valN n6 (catW (ws19 M 2 pl n N)).testBit) fl) (by omega) ⟨rfl, rfl⟩)) ?_
  refine vq rfl rfl (q_callF go66 rfl (fun s => rFullN (X := wv (valN n6 (catW (ws19 M 2 pl n N)).testBit) fl) (by omega) ⟨rfl, rfl⟩)) ?_
  refine vq rfl rfl (q_move rfl) ?_
  refine vq rfl rfl (q_extract rfl rfl) ?_
  refine vq rfl rfl (q_extract rfl rfl) ?_
  refine vq rfl rfl (q_assign rfl) ?_
  refine vq rfl rfl (q_assign rfl) ?_
  refine vendW ?_
  refine vc_seq ?_
  refine vc_regionW (qm 4095) [0, 1, 2, 3, 4, 5, 6, 7, 8, 9, 10, 11] rfl rfl ?_
  refine vq rfl rfl (q_move rfl) ?_
  refine vq rfl rfl (q_move rfl) ?_
  refine vq rfl rfl (q_conv us56 ik3 rfl (w64 (by omega))) ?_
  refine vq rfl rfl (q_move rfl) ?_
  refine vq rfl rfl (q_eq rfl rfl) ?_
  refine vq rfl rfl (q_move rfl) ?_
  refine vgrp [6, 7, 8] [9, 10, 11] [144, 145] 146 (.v (.bool (true))) ?_ ?_
  ·
    by_cases hg5 : True
    ·
      refine gq_run rfl rfl rfl rfl (by first | exact congrArg Value.bool (decide_eq_true hg5) | (rw [decide_eq_true hg5]; done) | (simp [hg5]; done) | simp_all) (q_move rfl) ?_
      refine gq_run rfl rfl rfl rfl (by first | exact congrArg Value.bool (decide_eq_true hg5) | (rw [decide_eq_true hg5]; done) | (simp [hg5]; done) | simp_all) (q_eq rfl rfl) ?_
      refine vq rfl rfl (q_pickT rfl (by first | exact (decide_eq_true hg5) | exact hg5 | (simp [hg5]; done) | simp_all) rfl) ?_
      refine vendW ⟨rfl, congrArg (fun b => some (AV.v (Value.bool b))) (by first | (simp only [decide_eq_true hg5]; done) | (simp only [decide_eq_true hg5]; rfl) | (simp [hg5]; done) | simp_all), ?_⟩
      repeat (first | exact Same.refl | refine Same.upd rfl ?_)
    ·
      refine g_skip rfl rfl rfl (by first | (rw [decide_eq_false hg5]; simp; done) | (intro e; have e2 := Value.bool.inj e; rw [decide_eq_false hg5] at e2; cases e2; done) | (simp [hg5]; done) | simp_all) ?_
      refine g_skip rfl rfl rfl (by first | (rw [decide_eq_false hg5]; simp; done) | (intro e; have e2 := Value.bool.inj e; rw [decide_eq_false hg5] at e2; cases e2; done) | (simp [hg5]; done) | simp_all) ?_
      refine vq rfl rfl (q_pickF rfl (by first | exact (decide_eq_false hg5) | exact hg5 | (simp [hg5]; done) | simp_all) rfl) ?_
      refine vendW ⟨rfl, congrArg (fun b => some (AV.v (Value.bool b))) (by first | (simp only [decide_eq_false hg5]; done) | (simp only [decide_eq_false hg5]; rfl) | (simp [hg5]; done) | simp_all), ?_⟩
      repeat (first | exact Same.refl | refine Same.upd rfl ?_)
  refine vq rfl rfl (q_assign rfl) ?_
  refine vq rfl rfl (q_assign rfl) ?_
  refine vq rfl rfl (q_assign rfl) ?_
  refine vendW ?_
  refine vc_ret ?_
  rw [← hrv] at hk
  exact ret3 rfl rfl rfl rfl (Le.refl _) (Cv.le (Le.refl _) _) (Cv.le (Le.refl _) _) (Cv.le (Le.refl _) _) hk
theorem round_tf {fb fp fw M n N : Nat} {pl : Int} {s : St} {K : AV → St → Prop} (hP : 2 ≤ fp) (hfw : 2 ≤ fw) (hfw30 : fw ≤ 30) (hfb : fb = fp + fw) (hfb64 : fb ≤ 64) (hM : M < 256) (hpl : -4096 ≤ pl ∧ pl < 4096) (hN : N < 2 ^ n) (h1n : 1 ≤ n) (hn6 : n ≤ 600) (hk : K (.tup [.v (.int .u64 (((packF fp fw (M % 8) true N pl false).1 : Nat) : Int)), .int (((packF fp fw (M % 8) true N pl false).2 : Nat) : Int), .bool true]) s) : CallsA Try.prog 33 [fmA fb fp fw, .v (.int .u8 (M : Int)), .bool true, .int pl, bl (toB N), .int (n : Int), .bool false] s K := by
  refine callsA_of Try.func33 rfl rfl (Nat.le_of_ble_eq_true rfl) ?_
  refine vc_seq ?_
  refine vc_regionW (qm 15) [0, 1, 2, 3] rfl rfl ?_
  refine vq rfl rfl (q_box rfl rfl) ?_
  refine vq rfl rfl (q_assign rfl) ?_
  refine vq rfl rfl (q_assign rfl) ?_
  refine vq rfl rfl (q_assign rfl) ?_
  refine vendW ?_
  refine vc_seq ?_
  refine vc_regionW (qm 2) [0, 1] rfl rfl ?_
  refine ve rfl rfl (e_callF go16 rfl (newB (fun p F hp0 => ?_)))
  refine vq rfl rfl (q_assign rfl) ?_
  refine vendW ?_
  refine vc_seq ?_
  refine vc_regionW (qm 7893) [0, 1, 2, 3, 4, 5, 6, 7, 8, 9, 10, 11, 12] rfl rfl ?_
  refine vq rfl rfl (q_move rfl) ?_
  refine ve rfl rfl (e_callF go17 rfl (inR (off := 0) (w := 3) (upd_same _ _ _) (by decide) (by decide) (by simp) (fun F1 => ?_)))
  refine vq rfl rfl (q_move rfl) ?_
  refine ve rfl rfl (e_callF go17 rfl (inR (off := 3) (w := 2) (upd_same _ _ _) (by decide) (by decide) (by simp) (fun F2 => ?_)))
  refine vq rfl rfl (q_move rfl) ?_
  refine ve rfl rfl (e_callF go17 rfl (inR (off := 5) (w := 13) (upd_same _ _ _) (by decide) (by decide) (by simp) (fun F3 => ?_)))
  refine vq rfl rfl (q_move rfl) ?_
  refine vq rfl rfl (q_move rfl) ?_
  refine ve rfl rfl (e_callF go17 rfl (inR (off := 18) (w := n) (upd_same _ _ _) (by decide) (by omega) (by simp) (fun F4 => ?_)))
  refine vq rfl rfl (q_assign rfl) ?_
  refine vq rfl rfl (q_assign rfl) ?_
  refine vq rfl rfl (q_assign rfl) ?_
  refine vq rfl rfl (q_assign rfl) ?_
  refine vendW ?_
  refine vc_seq ?_
  refine vc_seq ?_
  refine vc_regionW (qm 524287) [0, 1, 2, 3, 4, 5, 6, 7, 8, 9, 10, 11, 12, 13, 14, 15, 16, 17, 18] rfl rfl ?_
  refine vq rfl rfl (q_move rfl) ?_
  refine vq rfl rfl (q_len (n := 3) sl40 rfl rfl) ?_
  refine vq rfl rfl (q_ne rfl rfl) ?_
  refine vq rfl rfl (q_move rfl) ?_
  refine vgrp [4, 5, 6, 7] [8, 9, 10, 11, 12, 13, 14, 15, 16, 17, 18] [45, 46, 47] 48 (.v (.bool (false))) ?_ ?_
  ·
    by_cases hg3 : (3 : Int) ≠ 3
    ·
      exact absurd hg3 (by decide)
    ·
      refine gq_run rfl rfl rfl rfl (by first | exact congrArg Value.bool (decide_eq_false hg3) | (rw [decide_eq_false hg3]; done) | (simp [hg3]; done) | simp_all) (q_move rfl) ?_
      refine gq_run rfl rfl rfl rfl (by first | exact congrArg Value.bool (decide_eq_false hg3) | (rw [decide_eq_false hg3]; done) | (simp [hg3]; done) | simp_all) (q_len (n := 2) sl40 rfl rfl) ?_
      refine gq_run rfl rfl rfl rfl (by first | exact congrArg Value.bool (decide_eq_false hg3) | (rw [decide_eq_false hg3]; done) | (simp [hg3]; done) | simp_all) (q_ne rfl rfl) ?_
      refine vq rfl rfl (q_pickF rfl (by first | exact (decide_eq_false hg3) | exact hg3 | (simp [hg3]; done) | simp_all) rfl) ?_
      refine vendW ⟨rfl, congrArg (fun b => some (AV.v (Value.bool b))) (by first | (simp only [decide_eq_false hg3]; done) | (simp only [decide_eq_false hg3]; rfl) | (simp [hg3]; done) | simp_all), ?_⟩
      repeat (first | exact Same.refl | refine Same.upd rfl ?_)
  refine vq rfl rfl (q_move rfl) ?_
  refine vgrp [9, 10, 11, 12] [13, 14, 15, 16, 17, 18] [50, 51, 52] 53 (.v (.bool (false))) ?_ ?_
  ·
    by_cases hg8 : False
    ·
      exact absurd hg8 id
    ·
      refine gq_run rfl rfl rfl rfl (by first | exact congrArg Value.bool (decide_eq_false hg8) | (rw [decide_eq_false hg8]; done) | (simp [hg8]; done) | simp_all) (q_move rfl) ?_
      refine gq_run rfl rfl rfl rfl (by first | exact congrArg Value.bool (decide_eq_false hg8) | (rw [decide_eq_false hg8]; done) | (simp [hg8]; done) | simp_all) (q_len (n := 13) sl40 rfl rfl) ?_
      refine gq_run rfl rfl rfl rfl (by first | exact congrArg Value.bool (decide_eq_false hg8) | (rw [decide_eq_false hg8]; done) | (simp [hg8]; done) | simp_all) (q_ne rfl rfl) ?_
      refine vq rfl rfl (q_pickF rfl (by first | exact (decide_eq_false hg8) | exact hg8 | (simp [hg8]; done) | simp_all) rfl) ?_
      refine vendW ⟨rfl, congrArg (fun b => some (AV.v (Value.bool b))) (by first | (simp only [decide_eq_false hg8]; done) | (simp only [decide_eq_false hg8]; rfl) | (simp [hg8]; done) | simp_all), ?_⟩
      repeat (first | exact Same.refl | refine Same.upd rfl ?_)
  refine vq rfl rfl (q_move rfl) ?_
  refine vgrp [14, 15, 16, 17, 18] [] [55, 56, 57, 58] 59 (.v (.bool (false))) ?_ ?_
  ·
    by_cases hg13 : False
    ·
      exact absurd hg13 id
    ·
      refine gq_run rfl rfl rfl rfl (by first | exact congrArg Value.bool (decide_eq_false hg13) | (rw [decide_eq_false hg13]; done) | (simp [hg13]; done) | simp_all) (q_move rfl) ?_
      refine gq_run rfl rfl rfl rfl (by first | exact congrArg Value.bool (decide_eq_false hg13) | (rw [decide_eq_false hg13]; done) | (simp [hg13]; done) | simp_all) (q_len (n := n) sl40 rfl (by simp [lenA, seqI_len])) ?_
      refine gq_run rfl rfl rfl rfl (by first | exact congrArg Value.bool (decide_eq_false hg13) | (rw [decide_eq_false hg13]; done) | (simp [hg13]; done) | simp_all) (q_move rfl) ?_
      refine gq_run rfl rfl rfl rfl (by first | exact congrArg Value.bool (decide_eq_false hg13) | (rw [decide_eq_false hg13]; done) | (simp [hg13]; done) | simp_all) (q_ne rfl rfl) ?_
      refine vq rfl rfl (q_pickF rfl (by first | exact (decide_eq_false hg13) | exact hg13 | (simp [hg13]; done) | simp_all) rfl) ?_
      refine vendW ⟨rfl, congrArg (fun b => some (AV.v (Value.bool b))) (by first | (simp only [decide_eq_false hg13]; done) | (simp only [decide_eq_false hg13]; rfl) | (simp [hg13]; done) | simp_all), ?_⟩
      repeat (first | exact Same.refl | refine Same.upd rfl ?_)
  refine vendW ?_
  refine vc_condF rfl rfl ?_
  refine vc_skip ?_
  refine vc_seq ?_
  have gI := gr_in (nd := []) (fun i h => by cases h) (18 + n)
  rw [List.nil_append] at gI
  have sw : ∀ a b, a + b ≤ 18 + n → BW (List.replicate (18 + n) nI) (seqI a b) := fun a b h y hy => by
    obtain ⟨k, hk2, rfl⟩ := seqI_mem a hy
    rw [List.length_replicate]; omega
  refine vc_regionDW mx (qm 129023) [0, 1, 2, 3, 4, 5, 6, 7, 8, 9, 10, 11, 12, 13, 14, 15, 16] (by kernel_rfl) ?_
  refine vq rfl rfl (q_move rfl) ?_
  refine vq rfl rfl (q_loadA ag63 rfl rfl) ?_
  refine vq rfl rfl (q_move rfl) ?_
  refine vq rfl rfl (q_move rfl) ?_
  refine vq rfl rfl (q_index sl40 rfl rfl (by decide) (nthM (by decide))) ?_
  refine vq rfl rfl (q_load sc3 rfl) ?_
  refine vq rfl rfl (q_move rfl) ?_
  refine vq rfl rfl (q_move rfl) ?_
  refine vq rfl rfl (q_move rfl) ?_
  refine vq rfl rfl (q_index sl40 rfl rfl (by decide) (nthM (by decide))) ?_
  refine vq rfl rfl (q_load sc3 rfl) ?_
  refine ve rfl rfl (e_callF go65 rfl (roundB (md := seqI 0 3) (pl := seqI 5 13) (sz := seqI 18 n) (upd_same _ _ _) gI.wf (by rw [List.length_replicate]; omega) (sw 0 3 (by omega)) rfl ((sw 3 2 (by omega)).get (by decide)) (sw 5 13 (by omega)) (sw 18 n (by omega)) ((sw 3 2 (by omega)).get (by decide)) (by decide) (by decide) hP hfw hfw30 hfb hfb64 (by rw [seqI_len]; exact h1n) (by rw [seqI_len]; exact hn6) (fun F6 n6 x fl g6 bx bfl lx lf v6 => ?_)))
  refine vq rfl rfl (q_move rfl) ?_
  refine vq rfl rfl (q_extract rfl rfl) ?_
  refine vq rfl rfl (q_extract rfl rfl) ?_
  refine vq rfl rfl (q_assign rfl) ?_
  refine vq rfl rfl (q_assign rfl) ?_
  refine vendW ?_
  refine vc_seq ?_
  refine vc_seq ?_
  refine vc_regionW (qm 1023) [0, 1, 2, 3, 4, 5, 6, 7, 8, 9] rfl rfl ?_
  refine vq rfl rfl (q_move rfl) ?_
  refine vq rfl rfl (q_len (n := fb) sl40 rfl (by simp [lenA, lx])) ?_
  refine vq rfl rfl (q_field fo63_0 rfl (Nat.le_of_ble_eq_true rfl)) ?_
  refine vq rfl rfl (q_load sc3 rfl) ?_
  refine vq rfl rfl (q_ne rfl rfl) ?_
  refine vq rfl rfl (q_move rfl) ?_
  refine vgrp [6, 7, 8, 9] [] [81, 82, 83] 84 (.v (.bool (false))) ?_ ?_
  ·
    by_cases hg5 : (fb : Int) ≠ (fb : Int)
    ·
      exact absurd hg5 (by simp)
    ·
      refine gq_run rfl rfl rfl rfl (by first | exact congrArg Value.bool (decide_eq_false hg5) | (rw [decide_eq_false hg5]; done) | (simp [hg5]; done) | simp_all) (q_move rfl) ?_
      refine gq_run rfl rfl rfl rfl (by first | exact congrArg Value.bool (decide_eq_false hg5) | (rw [decide_eq_false hg5]; done) | (simp [hg5]; done) | simp_all) (q_len (n := 5) sl40 rfl (by simp [lenA, lf])) ?_
      refine gq_run rfl rfl rfl rfl (by first | exact congrArg Value.bool (decide_eq_false hg5) | (rw [decide_eq_false hg5]; done) | (simp [hg5]; done) | simp_all) (q_ne rfl rfl) ?_
      refine vq rfl rfl (q_pickF rfl (by first | exact (decide_eq_false hg5) | exact hg5 | (simp [hg5]; done) | simp_all) rfl) ?_
      refine vendW ⟨rfl, congrArg (fun b => some (AV.v (Value.bool b))) (by first | (simp only [decide_eq_false hg5]; done) | (simp only [decide_eq_false hg5]; rfl) | (simp [hg5]; done) | simp_all), ?_⟩
      repeat (first | exact Same.refl | refine Same.upd rfl ?_)
  refine vendW ?_
  refine vc_condF rfl rfl ?_
  refine vc_skip ?_
  refine vc_seq ?_
  have gl := g6.len
  have gge := g6.ge
  rw [List.length_replicate] at gl gge
  refine vc_regionW (qm 3) [0, 1, 2] rfl rfl ?_
  refine vq rfl rfl (q_move rfl) ?_
  refine vq rfl rfl (q_move rfl) ?_
  refine ve rfl rfl (e_callF go21 rfl (outB (l := x) (upd_same _ _ _) (by omega) (by simp) (fun F7 => ?_)))
  refine vendW ?_
  refine vc_seq ?_
  refine vc_regionW (qm 3) [0, 1, 2] rfl rfl ?_
  refine vq rfl rfl (q_move rfl) ?_
  refine vq rfl rfl (q_move rfl) ?_
  refine ve rfl rfl (e_callF go21 rfl (outB (l := fl) (upd_same _ _ _) (by omega) (by simp) (fun F8 => ?_)))
  refine vendW ?_
  refine vc_seq ?_
  refine vc_regionW (qm 1) [0] rfl rfl ?_
  refine vq rfl rfl (q_assign rfl) ?_
  refine vendW ?_
  refine vc_seq ?_
  refine vc_seq ?_
  refine vc_regionW (qm 1) [0] rfl rfl ?_
  refine vq rfl rfl (q_move rfl) ?_
  refine vendW ?_
  refine vc_condT rfl rfl ?_
  refine vc_regionW (qm 1) [0] rfl rfl ?_
  refine vq rfl rfl (q_assign rfl) ?_
  refine vendW ?_
  refine vc_seq ?_
  refine vc_seq ?_
  refine vc_regionW (qm 1) [0] rfl rfl ?_
  refine vq rfl rfl (q_move rfl) ?_
  refine vendW ?_
  refine vc_condF rfl rfl ?_
  refine vc_skip ?_
  refine vc_seq ?_
  have hd1 : wd (M % 8) < 2^40 := by have := wd_mono (n := M % 8) (k := 3) (Nat.mod_lt _ (by decide)); omega
  have hd2 : wd (iw pl 13) < 2^40 := by have := wd_mono (iw_lt pl 13); omega
  have hd3 : wd N < 2^40 := by have := wd_mono hN; omega
  have hwo := ws19_ok (M := M) (kv := 1) (pl := pl) (by decide) hN h1n hn6
  have hpo : ∀ q ∈ ([⟨⟨#[120]⟩, x⟩, ⟨⟨#[102]⟩, fl⟩] : List Pt), 1 ≤ q.bits.length ∧ q.bits.length < 2^30 ∧ ∀ b ∈ q.bits, 0 ≤ b ∧ b < n6.length := fun q hq => by
    simp only [List.mem_cons, List.mem_nil_iff, or_false] at hq
    rcases hq with rfl | rfl
    · exact ⟨by simp only; omega, by simp only; omega, bx⟩
    · exact ⟨by simp only; omega, by simp only; omega, bfl⟩
  have hev : EvOK ⟨n6, portsW 0 (ws19 M 1 pl n N), [⟨⟨#[120]⟩, x⟩, ⟨⟨#[102]⟩, fl⟩]⟩ (prtsW (ws19 M 1 pl n N)) (catW (ws19 M 1 pl n N)).testBit := EvOK.mk' g6.wf (by omega) hwo (by simp only [ws19, sumW]; omega) (by simp) hpo
  have hbt : ∀ q ∈ portsW 0 (ws19 M 1 pl n N) ++ ([⟨⟨#[120]⟩, x⟩, ⟨⟨#[102]⟩, fl⟩] : List Pt), q.bits.length < 2^40 := fun q hq => by have := (hev.p q hq).2.1; omega
  have hrv := round_val (M := M) (kv := 1) (n := n) (N := N) (fp := fp) (fw := fw) (ng := true) (mo := false) g6.wf g6.pre rfl hpl hN v6
  have hdx : wd (wv (valN n6 (catW (ws19 M 1 pl n N)).testBit) x) ≤ 64 := by have := wd_mono (wv_lt (valN n6 (catW (ws19 M 1 pl n N)).testBit) x); omega
  have hdf := wv_lt (valN n6 (catW (ws19 M 1 pl n N)).testBit) fl
  rw [lf] at hdf
  have hdf2 := wd_mono hdf
  refine vc_regionW (qm 4194301) [0, 1, 2, 3, 4, 5, 6, 7, 8, 9, 10, 11, 12, 13, 14, 15, 16, 17, 18, 19, 20, 21] rfl rfl ?_
  refine vq rfl rfl (q_move rfl) ?_
  refine ve rfl rfl (e_callF go24 rfl (netB (ins := portsW 0 (ws19 M 1 pl n N)) (outs := [⟨⟨#[120]⟩, x⟩, ⟨⟨#[102]⟩, fl⟩]) hp0 (by simp only [upd_upd]; rfl) (by omega) (by rw [portsW_len]; simp [ws19]) (by simp) hbt ?_))
  refine vq rfl rfl (q_move rfl) ?_
  refine vq rfl rfl (q_rem rfl rfl (by decide) (show _ = ((M % 8 : Nat) : Int) by rw [Int.tmod_eq_emod_of_nonneg (by omega)]; omega)) ?_
  refine vq rfl rfl (q_conv us5 ik56 rfl (wU (w := M % 8) (by omega))) ?_
  refine vq rfl rfl (q_callF go26 rfl (fun s => rWord (n := M % 8) (by omega) ⟨rfl, rfl⟩)) ?_
  refine vq rfl rfl (q_callF go25 rfl (fun s => rPartsN (N := M % 8) hd1 ⟨rfl, rfl⟩)) ?_
  refine vq rfl rfl (q_move rfl) ?_
  refine vq rfl rfl (q_callF go26 rfl (fun s => rWord (n := 1) (by decide) ⟨rfl, rfl⟩)) ?_
  refine vq rfl rfl (q_callF go25 rfl (fun s => rPartsN (N := 1) (by decide) ⟨rfl, rfl⟩)) ?_
  refine vq rfl rfl (q_move rfl) ?_
  refine vq rfl rfl (q_callF go22 rfl (fun s => rWordS (n := pl) (w := 13) (by omega) (by decide) ⟨rfl, rfl⟩)) ?_
  refine vq rfl rfl (q_callF go25 rfl (fun s => rPartsN (N := iw pl 13) hd2 ⟨rfl, rfl⟩)) ?_
  refine vq rfl rfl (q_move rfl) ?_
  refine vq rfl rfl (q_callF go25 rfl (fun s => rPartsN (N := N) hd3 ⟨rfl, rfl⟩)) ?_
  refine vq rfl rfl (q_buildS sl33 zo53 (by decide) rfl rfl rfl rfl (by decide)) ?_
  refine vq rfl rfl (q_callF go23 rfl (fun s => CallsA.le (ALes.cons (ALe.refl _) (ALes.cons (ale_slx 1 _) ALes.nil)) (evalN (nt := ⟨n6, portsW 0 (ws19 M 1 pl n N), [⟨⟨#[120]⟩, x⟩, ⟨⟨#[102]⟩, fl⟩]⟩) (prts := prtsW (ws19 M 1 pl n N)) (inp := (catW (ws19 M 1 pl n N)).testBit) hev ⟨rfl, rfl⟩))) ?_
  refine vq rfl rfl (q_move rfl) ?_
  refine vq rfl rfl (q_extract rfl rfl) ?_
  refine vq rfl rfl (q_extract rfl rfl) ?_
  refine vq rfl rfl (q_assign rfl) ?_
  refine vq rfl rfl (q_assign rfl) ?_
  refine vendW ?_
  refine vc_seq ?_
  refine vc_seq ?_
  refine vc_regionW (qm 127) [0, 1, 2, 3, 4, 5, 6] rfl rfl ?_
  refine vq rfl rfl (q_move rfl) ?_
  refine vq rfl rfl (q_not rfl) ?_
  refine vq rfl rfl (q_move rfl) ?_
  refine vgrp [3, 4, 5, 6] [] [118, 119, 120] 121 (.v (.bool (false))) ?_ ?_
  ·
    by_cases hg2 : False
    ·
      exact absurd hg2 id
    ·
      refine gq_run rfl rfl rfl rfl (by first | exact congrArg Value.bool (decide_eq_false hg2) | (rw [decide_eq_false hg2]; done) | (simp [hg2]; done) | simp_all) (q_move rfl) ?_
      refine gq_run rfl rfl rfl rfl (by first | exact congrArg Value.bool (decide_eq_false hg2) | (rw [decide_eq_false hg2]; done) | (simp [hg2]; done) | simp_all) (q_len sl33 rfl (by first | exact lenM | rfl)) ?_
      refine gq_run rfl rfl rfl rfl (by first | exact congrArg Value.bool (decide_eq_false hg2) | (rw [decide_eq_false hg2]; done) | (simp [hg2]; done) | simp_all) (q_ne rfl rfl) ?_
      refine vq rfl rfl (q_pickF rfl (by first | exact (decide_eq_false hg2) | exact hg2 | (simp [hg2]; done) | simp_all) rfl) ?_
      refine vendW ⟨rfl, congrArg (fun b => some (AV.v (Value.bool b))) (by first | (simp only [decide_eq_false hg2]; done) | (simp only [decide_eq_false hg2]; rfl) | (simp [hg2]; done) | simp_all), ?_⟩
      repeat (first | exact Same.refl | refine Same.upd rfl ?_)
  refine vendW ?_
  refine vc_condF rfl rfl ?_
  refine vc_skip ?_
  refine vc_seq ?_
  refine vc_regionW (qm 1023) [0, 1, 2, 3, 4, 5, 6, 7, 8, 9] rfl rfl ?_
  refine vq rfl rfl (q_move rfl) ?_
  refine vq rfl rfl (q_index sl33 rfl rfl (by decide) rfl) ?_
  refine vq rfl rfl (q_load sc53 rfl) ?_
  refine vq rfl rfl (q_callF go32 rfl (fun s => rOfN (X := wv (valN n6 (catW (ws19 M 1 pl n N)).testBit) x) (by omega) ⟨rfl, rfl⟩)) ?_
  refine vq rfl rfl (q_callF go66 rfl (fun s => rFullN (X := wv (valN n6 (catW (ws19 M 1 pl n N)).testBit) x) hdx ⟨rfl, rfl⟩)) ?_
  refine vq rfl rfl (q_move rfl) ?_
  refine vq rfl rfl (q_extract rfl rfl) ?_
  refine vq rfl rfl (q_extract rfl rfl) ?_
  refine vq rfl rfl (q_assign rfl) ?_
  refine vq rfl rfl (q_assign rfl) ?_
  refine vendW ?_
  refine vc_seq ?_
  refine vc_regionW (qm 1023) [0, 1, 2, 3, 4, 5, 6, 7, 8, 9] rfl rfl ?_
  refine vq rfl rfl (q_move rfl) ?_
  refine vq rfl rfl (q_index sl33 rfl rfl (by decide) rfl) ?_
  refine vq rfl rfl (q_load sc53 rfl) ?_
  refine vq rfl rfl (q_callF go32 rfl (fun s => rOfN (X := wv (valN n6 (catW (ws19 M 1 pl n N)).testBit) fl) (by omega) ⟨rfl, rfl⟩)) ?_
  refine vq rfl rfl (q_callF go66 rfl (fun s => rFullN (X := wv (valN n6 (catW (ws19 M 1 pl n N)).testBit) fl) (by omega) ⟨rfl, rfl⟩)) ?_
  refine vq rfl rfl (q_move rfl) ?_
  refine vq rfl rfl (q_extract rfl rfl) ?_
  refine vq rfl rfl (q_extract rfl rfl) ?_
  refine vq rfl rfl (q_assign rfl) ?_
  refine vq rfl rfl (q_assign rfl) ?_
  refine vendW ?_
  refine vc_seq ?_
  refine vc_regionW (qm 4095) [0, 1, 2, 3, 4, 5, 6, 7, 8, 9, 10, 11] rfl rfl ?_
  refine vq rfl rfl (q_move rfl) ?_
  refine vq rfl rfl (q_move rfl) ?_
  refine vq rfl rfl (q_conv us56 ik3 rfl (w64 (by omega))) ?_
  refine vq rfl rfl (q_move rfl) ?_
  refine vq rfl rfl (q_eq rfl rfl) ?_
  refine vq rfl rfl (q_move rfl) ?_
  refine vgrp [6, 7, 8] [9, 10, 11] [144, 145] 146 (.v (.bool (true))) ?_ ?_
  ·
    by_cases hg5 : True
    ·
      refine gq_run rfl rfl rfl rfl (by first | exact congrArg Value.bool (decide_eq_true hg5) | (rw [decide_eq_true hg5]; done) | (simp [hg5]; done) | simp_all) (q_move rfl) ?_
      refine gq_run rfl rfl rfl rfl (by first | exact congrArg Value.bool (decide_eq_true hg5) | (rw [decide_eq_true hg5]; done) | (simp [hg5]; done) | simp_all) (q_eq rfl rfl) ?_
      refine vq rfl rfl (q_pickT rfl (by first | exact (decide_eq_true hg5) | exact hg5 | (simp [hg5]; done) | simp_all) rfl) ?_
      refine vendW ⟨rfl, congrArg (fun b => some (AV.v (Value.bool b))) (by first | (simp only [decide_eq_true hg5]; done) | (simp only [decide_eq_true hg5]; rfl) | (simp [hg5]; done) | simp_all), ?_⟩
      repeat (first | exact Same.refl | refine Same.upd rfl ?_)
    ·
      refine g_skip rfl rfl rfl (by first | (rw [decide_eq_false hg5]; simp; done) | (intro e; have e2 := Value.bool.inj e; rw [decide_eq_false hg5] at e2; cases e2; done) | (simp [hg5]; done) | simp_all) ?_
      refine g_skip rfl rfl rfl (by first | (rw [decide_eq_false hg5]; simp; done) | (intro e; have e2 := Value.bool.inj e; rw [decide_eq_false hg5] at e2; cases e2; done) | (simp [hg5]; done) | simp_all) ?_
      refine vq rfl rfl (q_pickF rfl (by first | exact (decide_eq_false hg5) | exact hg5 | (simp [hg5]; done) | simp_all) rfl) ?_
      refine vendW ⟨rfl, congrArg (fun b => some (AV.v (Value.bool b))) (by first | (simp only [decide_eq_false hg5]; done) | (simp only [decide_eq_false hg5]; rfl) | (simp [hg5]; done) | simp_all), ?_⟩
      repeat (first | exact Same.refl | refine Same.upd rfl ?_)
  refine vq rfl rfl (q_assign rfl) ?_
  refine vq rfl rfl (q_assign rfl) ?_
  refine vq rfl rfl (q_assign rfl) ?_
  refine vendW ?_
  refine vc_ret ?_
  rw [← hrv] at hk
  exact ret3 rfl rfl rfl rfl (Le.refl _) (Cv.le (Le.refl _) _) (Cv.le (Le.refl _) _) (Cv.le (Le.refl _) _) hk
theorem round_tt {fb fp fw M n N : Nat} {pl : Int} {s : St} {K : AV → St → Prop} (hP : 2 ≤ fp) (hfw : 2 ≤ fw) (hfw30 : fw ≤ 30) (hfb : fb = fp + fw) (hfb64 : fb ≤ 64) (hM : M < 256) (hpl : -4096 ≤ pl ∧ pl < 4096) (hN : N < 2 ^ n) (h1n : 1 ≤ n) (hn6 : n ≤ 600) (hk : K (.tup [.v (.int .u64 (((packF fp fw (M % 8) true N pl true).1 : Nat) : Int)), .int (((packF fp fw (M % 8) true N pl true).2 : Nat) : Int), .bool true]) s) : CallsA Try.prog 33 [fmA fb fp fw, .v (.int .u8 (M : Int)), .bool true, .int pl, bl (toB N), .int (n : Int), .bool true] s K := by
  refine callsA_of Try.func33 rfl rfl (Nat.le_of_ble_eq_true rfl) ?_
  refine vc_seq ?_
  refine vc_regionW (qm 15) [0, 1, 2, 3] rfl rfl ?_
  refine vq rfl rfl (q_box rfl rfl) ?_
  refine vq rfl rfl (q_assign rfl) ?_
  refine vq rfl rfl (q_assign rfl) ?_
  refine vq rfl rfl (q_assign rfl) ?_
  refine vendW ?_
  refine vc_seq ?_
  refine vc_regionW (qm 2) [0, 1] rfl rfl ?_
  refine ve rfl rfl (e_callF go16 rfl (newB (fun p F hp0 => ?_)))
  refine vq rfl rfl (q_assign rfl) ?_
  refine vendW ?_
  refine vc_seq ?_
  refine vc_regionW (qm 7893) [0, 1, 2, 3, 4, 5, 6, 7, 8, 9, 10, 11, 12] rfl rfl ?_
  refine vq rfl rfl (q_move rfl) ?_
  refine ve rfl rfl (e_callF go17 rfl (inR (off := 0) (w := 3) (upd_same _ _ _) (by decide) (by decide) (by simp) (fun F1 => ?_)))
  refine vq rfl rfl (q_move rfl) ?_
  refine ve rfl rfl (e_callF go17 rfl (inR (off := 3) (w := 2) (upd_same _ _ _) (by decide) (by decide) (by simp) (fun F2 => ?_)))
  refine vq rfl rfl (q_move rfl) ?_
  refine ve rfl rfl (e_callF go17 rfl (inR (off := 5) (w := 13) (upd_same _ _ _) (by decide) (by decide) (by simp) (fun F3 => ?_)))
  refine vq rfl rfl (q_move rfl) ?_
  refine vq rfl rfl (q_move rfl) ?_
  refine ve rfl rfl (e_callF go17 rfl (inR (off := 18) (w := n) (upd_same _ _ _) (by decide) (by omega) (by simp) (fun F4 => ?_)))
  refine vq rfl rfl (q_assign rfl) ?_
  refine vq rfl rfl (q_assign rfl) ?_
  refine vq rfl rfl (q_assign rfl) ?_
  refine vq rfl rfl (q_assign rfl) ?_
  refine vendW ?_
  refine vc_seq ?_
  refine vc_seq ?_
  refine vc_regionW (qm 524287) [0, 1, 2, 3, 4, 5, 6, 7, 8, 9, 10, 11, 12, 13, 14, 15, 16, 17, 18] rfl rfl ?_
  refine vq rfl rfl (q_move rfl) ?_
  refine vq rfl rfl (q_len (n := 3) sl40 rfl rfl) ?_
  refine vq rfl rfl (q_ne rfl rfl) ?_
  refine vq rfl rfl (q_move rfl) ?_
  refine vgrp [4, 5, 6, 7] [8, 9, 10, 11, 12, 13, 14, 15, 16, 17, 18] [45, 46, 47] 48 (.v (.bool (false))) ?_ ?_
  ·
    by_cases hg3 : (3 : Int) ≠ 3
    ·
      exact absurd hg3 (by decide)
    ·
      refine gq_run rfl rfl rfl rfl (by first | exact congrArg Value.bool (decide_eq_false hg3) | (rw [decide_eq_false hg3]; done) | (simp [hg3]; done) | simp_all) (q_move rfl) ?_
      refine gq_run rfl rfl rfl rfl (by first | exact congrArg Value.bool (decide_eq_false hg3) | (rw [decide_eq_false hg3]; done) | (simp [hg3]; done) | simp_all) (q_len (n := 2) sl40 rfl rfl) ?_
      refine gq_run rfl rfl rfl rfl (by first | exact congrArg Value.bool (decide_eq_false hg3) | (rw [decide_eq_false hg3]; done) | (simp [hg3]; done) | simp_all) (q_ne rfl rfl) ?_
      refine vq rfl rfl (q_pickF rfl (by first | exact (decide_eq_false hg3) | exact hg3 | (simp [hg3]; done) | simp_all) rfl) ?_
      refine vendW ⟨rfl, congrArg (fun b => some (AV.v (Value.bool b))) (by first | (simp only [decide_eq_false hg3]; done) | (simp only [decide_eq_false hg3]; rfl) | (simp [hg3]; done) | simp_all), ?_⟩
      repeat (first | exact Same.refl | refine Same.upd rfl ?_)
  refine vq rfl rfl (q_move rfl) ?_
  refine vgrp [9, 10, 11, 12] [13, 14, 15, 16, 17, 18] [50, 51, 52] 53 (.v (.bool (false))) ?_ ?_
  ·
    by_cases hg8 : False
    ·
      exact absurd hg8 id
    ·
      refine gq_run rfl rfl rfl rfl (by first | exact congrArg Value.bool (decide_eq_false hg8) | (rw [decide_eq_false hg8]; done) | (simp [hg8]; done) | simp_all) (q_move rfl) ?_
      refine gq_run rfl rfl rfl rfl (by first | exact congrArg Value.bool (decide_eq_false hg8) | (rw [decide_eq_false hg8]; done) | (simp [hg8]; done) | simp_all) (q_len (n := 13) sl40 rfl rfl) ?_
      refine gq_run rfl rfl rfl rfl (by first | exact congrArg Value.bool (decide_eq_false hg8) | (rw [decide_eq_false hg8]; done) | (simp [hg8]; done) | simp_all) (q_ne rfl rfl) ?_
      refine vq rfl rfl (q_pickF rfl (by first | exact (decide_eq_false hg8) | exact hg8 | (simp [hg8]; done) | simp_all) rfl) ?_
      refine vendW ⟨rfl, congrArg (fun b => some (AV.v (Value.bool b))) (by first | (simp only [decide_eq_false hg8]; done) | (simp only [decide_eq_false hg8]; rfl) | (simp [hg8]; done) | simp_all), ?_⟩
      repeat (first | exact Same.refl | refine Same.upd rfl ?_)
  refine vq rfl rfl (q_move rfl) ?_
  refine vgrp [14, 15, 16, 17, 18] [] [55, 56, 57, 58] 59 (.v (.bool (false))) ?_ ?_
  ·
    by_cases hg13 : False
    ·
      exact absurd hg13 id
    ·
      refine gq_run rfl rfl rfl rfl (by first | exact congrArg Value.bool (decide_eq_false hg13) | (rw [decide_eq_false hg13]; done) | (simp [hg13]; done) | simp_all) (q_move rfl) ?_
      refine gq_run rfl rfl rfl rfl (by first | exact congrArg Value.bool (decide_eq_false hg13) | (rw [decide_eq_false hg13]; done) | (simp [hg13]; done) | simp_all) (q_len (n := n) sl40 rfl (by simp [lenA, seqI_len])) ?_
      refine gq_run rfl rfl rfl rfl (by first | exact congrArg Value.bool (decide_eq_false hg13) | (rw [decide_eq_false hg13]; done) | (simp [hg13]; done) | simp_all) (q_move rfl) ?_
      refine gq_run rfl rfl rfl rfl (by first | exact congrArg Value.bool (decide_eq_false hg13) | (rw [decide_eq_false hg13]; done) | (simp [hg13]; done) | simp_all) (q_ne rfl rfl) ?_
      refine vq rfl rfl (q_pickF rfl (by first | exact (decide_eq_false hg13) | exact hg13 | (simp [hg13]; done) | simp_all) rfl) ?_
      refine vendW ⟨rfl, congrArg (fun b => some (AV.v (Value.bool b))) (by first | (simp only [decide_eq_false hg13]; done) | (simp only [decide_eq_false hg13]; rfl) | (simp [hg13]; done) | simp_all), ?_⟩
      repeat (first | exact Same.refl | refine Same.upd rfl ?_)
  refine vendW ?_
  refine vc_condF rfl rfl ?_
  refine vc_skip ?_
  refine vc_seq ?_
  have gI := gr_in (nd := []) (fun i h => by cases h) (18 + n)
  rw [List.nil_append] at gI
  have sw : ∀ a b, a + b ≤ 18 + n → BW (List.replicate (18 + n) nI) (seqI a b) := fun a b h y hy => by
    obtain ⟨k, hk2, rfl⟩ := seqI_mem a hy
    rw [List.length_replicate]; omega
  refine vc_regionDW mx (qm 129023) [0, 1, 2, 3, 4, 5, 6, 7, 8, 9, 10, 11, 12, 13, 14, 15, 16] (by kernel_rfl) ?_
  refine vq rfl rfl (q_move rfl) ?_
  refine vq rfl rfl (q_loadA ag63 rfl rfl) ?_
  refine vq rfl rfl (q_move rfl) ?_
  refine vq rfl rfl (q_move rfl) ?_
  refine vq rfl rfl (q_index sl40 rfl rfl (by decide) (nthM (by decide))) ?_
  refine vq rfl rfl (q_load sc3 rfl) ?_
  refine vq rfl rfl (q_move rfl) ?_
  refine vq rfl rfl (q_move rfl) ?_
  refine vq rfl rfl (q_move rfl) ?_
  refine vq rfl rfl (q_index sl40 rfl rfl (by decide) (nthM (by decide))) ?_
  refine vq rfl rfl (q_load sc3 rfl) ?_
  refine ve rfl rfl (e_callF go65 rfl (roundB (md := seqI 0 3) (pl := seqI 5 13) (sz := seqI 18 n) (upd_same _ _ _) gI.wf (by rw [List.length_replicate]; omega) (sw 0 3 (by omega)) rfl ((sw 3 2 (by omega)).get (by decide)) (sw 5 13 (by omega)) (sw 18 n (by omega)) ((sw 3 2 (by omega)).get (by decide)) (by decide) (by decide) hP hfw hfw30 hfb hfb64 (by rw [seqI_len]; exact h1n) (by rw [seqI_len]; exact hn6) (fun F6 n6 x fl g6 bx bfl lx lf v6 => ?_)))
  refine vq rfl rfl (q_move rfl) ?_
  refine vq rfl rfl (q_extract rfl rfl) ?_
  refine vq rfl rfl (q_extract rfl rfl) ?_
  refine vq rfl rfl (q_assign rfl) ?_
  refine vq rfl rfl (q_assign rfl) ?_
  refine vendW ?_
  refine vc_seq ?_
  refine vc_seq ?_
  refine vc_regionW (qm 1023) [0, 1, 2, 3, 4, 5, 6, 7, 8, 9] rfl rfl ?_
  refine vq rfl rfl (q_move rfl) ?_
  refine vq rfl rfl (q_len (n := fb) sl40 rfl (by simp [lenA, lx])) ?_
  refine vq rfl rfl (q_field fo63_0 rfl (Nat.le_of_ble_eq_true rfl)) ?_
  refine vq rfl rfl (q_load sc3 rfl) ?_
  refine vq rfl rfl (q_ne rfl rfl) ?_
  refine vq rfl rfl (q_move rfl) ?_
  refine vgrp [6, 7, 8, 9] [] [81, 82, 83] 84 (.v (.bool (false))) ?_ ?_
  ·
    by_cases hg5 : (fb : Int) ≠ (fb : Int)
    ·
      exact absurd hg5 (by simp)
    ·
      refine gq_run rfl rfl rfl rfl (by first | exact congrArg Value.bool (decide_eq_false hg5) | (rw [decide_eq_false hg5]; done) | (simp [hg5]; done) | simp_all) (q_move rfl) ?_
      refine gq_run rfl rfl rfl rfl (by first | exact congrArg Value.bool (decide_eq_false hg5) | (rw [decide_eq_false hg5]; done) | (simp [hg5]; done) | simp_all) (q_len (n := 5) sl40 rfl (by simp [lenA, lf])) ?_
      refine gq_run rfl rfl rfl rfl (by first | exact congrArg Value.bool (decide_eq_false hg5) | (rw [decide_eq_false hg5]; done) | (simp [hg5]; done) | simp_all) (q_ne rfl rfl) ?_
      refine vq rfl rfl (q_pickF rfl (by first | exact (decide_eq_false hg5) | exact hg5 | (simp [hg5]; done) | simp_all) rfl) ?_
      refine vendW ⟨rfl, congrArg (fun b => some (AV.v (Value.bool b))) (by first | (simp only [decide_eq_false hg5]; done) | (simp only [decide_eq_false hg5]; rfl) | (simp [hg5]; done) | simp_all), ?_⟩
      repeat (first | exact Same.refl | refine Same.upd rfl ?_)
  refine vendW ?_
  refine vc_condF rfl rfl ?_
  refine vc_skip ?_
  refine vc_seq ?_
  have gl := g6.len
  have gge := g6.ge
  rw [List.length_replicate] at gl gge
  refine vc_regionW (qm 3) [0, 1, 2] rfl rfl ?_
  refine vq rfl rfl (q_move rfl) ?_
  refine vq rfl rfl (q_move rfl) ?_
  refine ve rfl rfl (e_callF go21 rfl (outB (l := x) (upd_same _ _ _) (by omega) (by simp) (fun F7 => ?_)))
  refine vendW ?_
  refine vc_seq ?_
  refine vc_regionW (qm 3) [0, 1, 2] rfl rfl ?_
  refine vq rfl rfl (q_move rfl) ?_
  refine vq rfl rfl (q_move rfl) ?_
  refine ve rfl rfl (e_callF go21 rfl (outB (l := fl) (upd_same _ _ _) (by omega) (by simp) (fun F8 => ?_)))
  refine vendW ?_
  refine vc_seq ?_
  refine vc_regionW (qm 1) [0] rfl rfl ?_
  refine vq rfl rfl (q_assign rfl) ?_
  refine vendW ?_
  refine vc_seq ?_
  refine vc_seq ?_
  refine vc_regionW (qm 1) [0] rfl rfl ?_
  refine vq rfl rfl (q_move rfl) ?_
  refine vendW ?_
  refine vc_condT rfl rfl ?_
  refine vc_regionW (qm 1) [0] rfl rfl ?_
  refine vq rfl rfl (q_assign rfl) ?_
  refine vendW ?_
  refine vc_seq ?_
  refine vc_seq ?_
  refine vc_regionW (qm 1) [0] rfl rfl ?_
  refine vq rfl rfl (q_move rfl) ?_
  refine vendW ?_
  refine vc_condT rfl rfl ?_
  refine vc_regionW (qm 7) [0, 1, 2] rfl rfl ?_
  refine vq rfl rfl (q_move rfl) ?_
  refine vq rfl rfl (q_add rfl rfl (show _ = (3 : Int) from by decide)) ?_
  refine vq rfl rfl (q_assign rfl) ?_
  refine vendW ?_
  refine vc_seq ?_
  have hd1 : wd (M % 8) < 2^40 := by have := wd_mono (n := M % 8) (k := 3) (Nat.mod_lt _ (by decide)); omega
  have hd2 : wd (iw pl 13) < 2^40 := by have := wd_mono (iw_lt pl 13); omega
  have hd3 : wd N < 2^40 := by have := wd_mono hN; omega
  have hwo := ws19_ok (M := M) (kv := 3) (pl := pl) (by decide) hN h1n hn6
  have hpo : ∀ q ∈ ([⟨⟨#[120]⟩, x⟩, ⟨⟨#[102]⟩, fl⟩] : List Pt), 1 ≤ q.bits.length ∧ q.bits.length < 2^30 ∧ ∀ b ∈ q.bits, 0 ≤ b ∧ b < n6.length := fun q hq => by
    simp only [List.mem_cons, List.mem_nil_iff, or_false] at hq
    rcases hq with rfl | rfl
    · exact ⟨by simp only; omega, by simp only; omega, bx⟩
    · exact ⟨by simp only; omega, by simp only; omega, bfl⟩
  have hev : EvOK ⟨n6, portsW 0 (ws19 M 3 pl n N), [⟨⟨#[120]⟩, x⟩, ⟨⟨#[102]⟩, fl⟩]⟩ (prtsW (ws19 M 3 pl n N)) (catW (ws19 M 3 pl n N)).testBit := EvOK.mk' g6.wf (by omega) hwo (by simp only [ws19, sumW]; omega) (by simp) hpo
  have hbt : ∀ q ∈ portsW 0 (ws19 M 3 pl n N) ++ ([⟨⟨#[120]⟩, x⟩, ⟨⟨#[102]⟩, fl⟩] : List Pt), q.bits.length < 2^40 := fun q hq => by have := (hev.p q hq).2.1; omega
  have hrv := round_val (M := M) (kv := 3) (n := n) (N := N) (fp := fp) (fw := fw) (ng := true) (mo := true) g6.wf g6.pre rfl hpl hN v6
  have hdx : wd (wv (valN n6 (catW (ws19 M 3 pl n N)).testBit) x) ≤ 64 := by have := wd_mono (wv_lt (valN n6 (catW (ws19 M 3 pl n N)).testBit) x); omega
  have hdf := wv_lt (valN n6 (catW (ws19 M 3 pl n N)).testBit) fl
  rw [lf] at hdf
  have hdf2 := wd_mono hdf
  refine vc_regionW (qm 4194301) [0, 1, 2, 3, 4, 5, 6, 7, 8, 9, 10, 11, 12, 13, 14, 15, 16, 17, 18, 19, 20, 21] rfl rfl ?_
  refine vq rfl rfl (q_move rfl) ?_
  refine ve rfl rfl (e_callF go24 rfl (netB (ins := portsW 0 (ws19 M 3 pl n N)) (outs := [⟨⟨#[120]⟩, x⟩, ⟨⟨#[102]⟩, fl⟩]) hp0 (by simp only [upd_upd]; rfl) (by omega) (by rw [portsW_len]; simp [ws19]) (by simp) hbt ?_))
  refine vq rfl rfl (q_move rfl) ?_
  refine vq rfl rfl (q_rem rfl rfl (by decide) (show _ = ((M % 8 : Nat) : Int) by rw [Int.tmod_eq_emod_of_nonneg (by omega)]; omega)) ?_
  refine vq rfl rfl (q_conv us5 ik56 rfl (wU (w := M % 8) (by omega))) ?_
  refine vq rfl rfl (q_callF go26 rfl (fun s => rWord (n := M % 8) (by omega) ⟨rfl, rfl⟩)) ?_
  refine vq rfl rfl (q_callF go25 rfl (fun s => rPartsN (N := M % 8) hd1 ⟨rfl, rfl⟩)) ?_
  refine vq rfl rfl (q_move rfl) ?_
  refine vq rfl rfl (q_callF go26 rfl (fun s => rWord (n := 3) (by decide) ⟨rfl, rfl⟩)) ?_
  refine vq rfl rfl (q_callF go25 rfl (fun s => rPartsN (N := 3) (by decide) ⟨rfl, rfl⟩)) ?_
  refine vq rfl rfl (q_move rfl) ?_
  refine vq rfl rfl (q_callF go22 rfl (fun s => rWordS (n := pl) (w := 13) (by omega) (by decide) ⟨rfl, rfl⟩)) ?_
  refine vq rfl rfl (q_callF go25 rfl (fun s => rPartsN (N := iw pl 13) hd2 ⟨rfl, rfl⟩)) ?_
  refine vq rfl rfl (q_move rfl) ?_
  refine vq rfl rfl (q_callF go25 rfl (fun s => rPartsN (N := N) hd3 ⟨rfl, rfl⟩)) ?_
  refine vq rfl rfl (q_buildS sl33 zo53 (by decide) rfl rfl rfl rfl (by decide)) ?_
  refine vq rfl rfl (q_callF go23 rfl (fun s => CallsA.le (ALes.cons (ALe.refl _) (ALes.cons (ale_slx 1 _) ALes.nil)) (evalN (nt := ⟨n6, portsW 0 (ws19 M 3 pl n N), [⟨⟨#[120]⟩, x⟩, ⟨⟨#[102]⟩, fl⟩]⟩) (prts := prtsW (ws19 M 3 pl n N)) (inp := (catW (ws19 M 3 pl n N)).testBit) hev ⟨rfl, rfl⟩))) ?_
  refine vq rfl rfl (q_move rfl) ?_
  refine vq rfl rfl (q_extract rfl rfl) ?_
  refine vq rfl rfl (q_extract rfl rfl) ?_
  refine vq rfl rfl (q_assign rfl) ?_
  refine vq rfl rfl (q_assign rfl) ?_
  refine vendW ?_
  refine vc_seq ?_
  refine vc_seq ?_
  refine vc_regionW (qm 127) [0, 1, 2, 3, 4, 5, 6] rfl rfl ?_
  refine vq rfl rfl (q_move rfl) ?_
  refine vq rfl rfl (q_not rfl) ?_
  refine vq rfl rfl (q_move rfl) ?_
  refine vgrp [3, 4, 5, 6] [] [118, 119, 120] 121 (.v (.bool (false))) ?_ ?_
  ·
    by_cases hg2 : False
    ·
      exact absurd hg2 id
    ·
      refine gq_run rfl rfl rfl rfl (by first | exact congrArg Value.bool (decide_eq_false hg2) | (rw [decide_eq_false hg2]; done) | (simp [hg2]; done) | simp_all) (q_move rfl) ?_
      refine gq_run rfl rfl rfl rfl (by first | exact congrArg Value.bool (decide_eq_false hg2) | (rw [decide_eq_false hg2]; done) | (simp [hg2]; done) | simp_all) (q_len sl33 rfl (by first | exact lenM | rfl)) ?_
      refine gq_run rfl rfl rfl rfl (by first | exact congrArg Value.bool (decide_eq_false hg2) | (rw [decide_eq_false hg2]; done) | (simp [hg2]; done) | simp_all) (q_ne rfl rfl) ?_
      refine vq rfl rfl (q_pickF rfl (by first | exact (decide_eq_false hg2) | exact hg2 | (simp [hg2]; done) | simp_all) rfl) ?_
      refine vendW ⟨rfl, congrArg (fun b => some (AV.v (Value.bool b))) (by first | (simp only [decide_eq_false hg2]; done) | (simp only [decide_eq_false hg2]; rfl) | (simp [hg2]; done) | simp_all), ?_⟩
      repeat (first | exact Same.refl | refine Same.upd rfl ?_)
  refine vendW ?_
  refine vc_condF rfl rfl ?_
  refine vc_skip ?_
  refine vc_seq ?_
  refine vc_regionW (qm 1023) [0, 1, 2, 3, 4, 5, 6, 7, 8, 9] rfl rfl ?_
  refine vq rfl rfl (q_move rfl) ?_
  refine vq rfl rfl (q_index sl33 rfl rfl (by decide) rfl) ?_
  refine vq rfl rfl (q_load sc53 rfl) ?_
  refine vq rfl rfl (q_callF go32 rfl (fun s => rOfN (X := wv (valN n6 (catW (ws19 M 3 pl n N)).testBit) x) (by omega) ⟨rfl, rfl⟩)) ?_
  refine vq rfl rfl (q_callF go66 rfl (fun s => rFullN (X := wv (valN n6 (catW (ws19 M 3 pl n N)).testBit) x) hdx ⟨rfl, rfl⟩)) ?_
  refine vq rfl rfl (q_move rfl) ?_
  refine vq rfl rfl (q_extract rfl rfl) ?_
  refine vq rfl rfl (q_extract rfl rfl) ?_
  refine vq rfl rfl (q_assign rfl) ?_
  refine vq rfl rfl (q_assign rfl) ?_
  refine vendW ?_
  refine vc_seq ?_
  refine vc_regionW (qm 1023) [0, 1, 2, 3, 4, 5, 6, 7, 8, 9] rfl rfl ?_
  refine vq rfl rfl (q_move rfl) ?_
  refine vq rfl rfl (q_index sl33 rfl rfl (by decide) rfl) ?_
  refine vq rfl rfl (q_load sc53 rfl) ?_
  refine vq rfl rfl (q_callF go32 rfl (fun s => rOfN (X := wv (valN n6 (catW (ws19 M 3 pl n N)).testBit) fl) (by omega) ⟨rfl, rfl⟩)) ?_
  refine vq rfl rfl (q_callF go66 rfl (fun s => rFullN (X := wv (valN n6 (catW (ws19 M 3 pl n N)).testBit) fl) (by omega) ⟨rfl, rfl⟩)) ?_
  refine vq rfl rfl (q_move rfl) ?_
  refine vq rfl rfl (q_extract rfl rfl) ?_
  refine vq rfl rfl (q_extract rfl rfl) ?_
  refine vq rfl rfl (q_assign rfl) ?_
  refine vq rfl rfl (q_assign rfl) ?_
  refine vendW ?_
  refine vc_seq ?_
  refine vc_regionW (qm 4095) [0, 1, 2, 3, 4, 5, 6, 7, 8, 9, 10, 11] rfl rfl ?_
  refine vq rfl rfl (q_move rfl) ?_
  refine vq rfl rfl (q_move rfl) ?_
  refine vq rfl rfl (q_conv us56 ik3 rfl (w64 (by omega))) ?_
  refine vq rfl rfl (q_move rfl) ?_
  refine vq rfl rfl (q_eq rfl rfl) ?_
  refine vq rfl rfl (q_move rfl) ?_
  refine vgrp [6, 7, 8] [9, 10, 11] [144, 145] 146 (.v (.bool (true))) ?_ ?_
  ·
    by_cases hg5 : True
    ·
      refine gq_run rfl rfl rfl rfl (by first | exact congrArg Value.bool (decide_eq_true hg5) | (rw [decide_eq_true hg5]; done) | (simp [hg5]; done) | simp_all) (q_move rfl) ?_
      refine gq_run rfl rfl rfl rfl (by first | exact congrArg Value.bool (decide_eq_true hg5) | (rw [decide_eq_true hg5]; done) | (simp [hg5]; done) | simp_all) (q_eq rfl rfl) ?_
      refine vq rfl rfl (q_pickT rfl (by first | exact (decide_eq_true hg5) | exact hg5 | (simp [hg5]; done) | simp_all) rfl) ?_
      refine vendW ⟨rfl, congrArg (fun b => some (AV.v (Value.bool b))) (by first | (simp only [decide_eq_true hg5]; done) | (simp only [decide_eq_true hg5]; rfl) | (simp [hg5]; done) | simp_all), ?_⟩
      repeat (first | exact Same.refl | refine Same.upd rfl ?_)
    ·
      refine g_skip rfl rfl rfl (by first | (rw [decide_eq_false hg5]; simp; done) | (intro e; have e2 := Value.bool.inj e; rw [decide_eq_false hg5] at e2; cases e2; done) | (simp [hg5]; done) | simp_all) ?_
      refine g_skip rfl rfl rfl (by first | (rw [decide_eq_false hg5]; simp; done) | (intro e; have e2 := Value.bool.inj e; rw [decide_eq_false hg5] at e2; cases e2; done) | (simp [hg5]; done) | simp_all) ?_
      refine vq rfl rfl (q_pickF rfl (by first | exact (decide_eq_false hg5) | exact hg5 | (simp [hg5]; done) | simp_all) rfl) ?_
      refine vendW ⟨rfl, congrArg (fun b => some (AV.v (Value.bool b))) (by first | (simp only [decide_eq_false hg5]; done) | (simp only [decide_eq_false hg5]; rfl) | (simp [hg5]; done) | simp_all), ?_⟩
      repeat (first | exact Same.refl | refine Same.upd rfl ?_)
  refine vq rfl rfl (q_assign rfl) ?_
  refine vq rfl rfl (q_assign rfl) ?_
  refine vq rfl rfl (q_assign rfl) ?_
  refine vendW ?_
  refine vc_ret ?_
  rw [← hrv] at hk
  exact ret3 rfl rfl rfl rfl (Le.refl _) (Cv.le (Le.refl _) _) (Cv.le (Le.refl _) _) (Cv.le (Le.refl _) _) hk
end Go.Proofs.Ytpcpdepfnoijoaa

set_option linter.unusedVariables false
set_option linter.unusedSimpArgs false
set_option maxRecDepth 100000
namespace Go.Proofs.Ytpcpdepfnoijoaa
open Go.Vc
theorem roundL {fb fp fw M n N : Nat} {pl : Int} {ng mo : Bool} {s : St} {K : AV → St → Prop} (hP : 2 ≤ fp) (hfw : 2 ≤ fw) (hfw30 : fw ≤ 30) (hfb : fb = fp + fw) (hfb64 : fb ≤ 64) (hM : M < 256) (hpl : -4096 ≤ pl ∧ pl < 4096) (hN : N < 2 ^ n) (h1n : 1 ≤ n) (hn6 : n ≤ 600)
    (hk : K (.tup [.v (.int .u64 (((packF fp fw (M % 8) ng N pl mo).1 : Nat) : Int)), .int (((packF fp fw (M % 8) ng N pl mo).2 : Nat) : Int), .bool true]) s) :
    CallsA Try.prog 33 [fmA fb fp fw, .v (.int .u8 (M : Int)), .bool ng, .int pl, bl (toB N), .int (n : Int), .bool mo] s K := by
  cases ng <;> cases mo
  · exact round_ff hP hfw hfw30 hfb hfb64 hM hpl hN h1n hn6 hk
  · exact round_ft hP hfw hfw30 hfb hfb64 hM hpl hN h1n hn6 hk
  · exact round_tf hP hfw hfw30 hfb hfb64 hM hpl hN h1n hn6 hk
  · exact round_tt hP hfw hfw30 hfb hfb64 hM hpl hN h1n hn6 hk
theorem pk1 : packF 11 5 (0 % 8) false 2049 24 false = (26624, 1) := by decide +kernel
theorem pk2 : packF 11 5 (3 % 8) true 1 (-3) false = (32768, 3) := by decide +kernel
theorem formOf_ok {bits : Int} (h : (formOf bits).2 = 0) : 2 ≤ (formOf bits).1.2.1 ∧ 2 ≤ (formOf bits).1.2.2 ∧ (formOf bits).1.2.2 ≤ 30 ∧ (formOf bits).1.1 = (formOf bits).1.2.1 + (formOf bits).1.2.2 ∧ (formOf bits).1.1 ≤ 64 := by
  unfold formOf at h ⊢
  split
  · simp
  · split
    · simp
    · split
      · simp
      · rename_i h1 h2 h3
        rw [if_neg h1, if_neg h2, if_neg h3] at h; cases h
theorem scaled_or {e : Int} {n : Nat} (h : (decide (e ≠ 0) || decide (20 < (n : Int))) = false) : e = 0 ∧ n ≤ 20 := by
  rw [Bool.or_eq_false_iff] at h
  have h1 := of_decide_eq_false h.1
  have h2 := of_decide_eq_false h.2
  exact ⟨Classical.not_not.1 h1, by omega⟩
theorem pN_lt : ∀ {l : List Int}, U32 l → pN l < 2 ^ (32 * l.length)
  | [], _ => by simp [pN]
  | x :: l, h => by
    have h1 := h x (by simp)
    have h2 := pN_lt (l := l) fun y hy => h y (by simp [hy])
    rw [pN, List.length_cons, Nat.mul_add, Nat.mul_one, Nat.pow_add, Nat.mul_comm (2 ^ (32 * l.length))]
    have h3 : 2 ^ 32 * (pN l + 1) ≤ 2 ^ 32 * 2 ^ (32 * l.length) := Nat.mul_le_mul_left _ h2
    rw [Nat.mul_add] at h3
    omega
theorem tmod4000 (x : Int) : -4000 < x.tmod 4000 ∧ x.tmod 4000 < 4000 := ⟨Int.lt_tmod_of_pos x (by decide), Int.tmod_lt_of_pos x (by decide)⟩
theorem awake19 {s : St} {K : AV → St → Prop} (hk : K (.bool true) s) : CallsA Try.prog 15 [] s K := by
  refine callsA_of Try.func15 rfl rfl (Nat.le_of_ble_eq_true rfl) ?_
  refine vc_seq ?_
  refine vc_regionW (qm 1) [0] rfl rfl ?_
  refine vq rfl rfl (q_assign rfl) ?_
  refine vendW ?_
  refine vc_seq ?_
  refine vc_regionW (qm 79) [0, 1, 2, 3, 4, 5, 6] rfl rfl ?_
  refine vq rfl rfl (q_callF go30 rfl (fun s => ofF (bits := 16) ⟨rfl, rfl⟩)) ?_
  refine vq rfl rfl (q_move rfl) ?_
  refine vq rfl rfl (q_extract rfl rfl) ?_
  refine vq rfl rfl (q_extract rfl rfl) ?_
  refine ve rfl rfl (e_alloc zr63 (fun k1 hk1 => ?_))
  refine vn rfl rfl (e_storeN sz63 rfl rfl rfl rfl (upd_same _ _ _) rfl ?_)
  refine vq rfl rfl (q_assign rfl) ?_
  refine vendW ?_
  refine vc_frzC (i := 1) hk1 (upd_upd _ _ _ _) rfl ?_
  refine vc_seq ?_
  refine vc_seq ?_
  refine vc_regionW (qm 127) [0, 1, 2, 3, 4, 5, 6] rfl rfl ?_
  refine vq rfl rfl (q_move rfl) ?_
  refine vq rfl rfl (q_ne rfl rfl) ?_
  refine vq rfl rfl (q_move rfl) ?_
  refine gq_run rfl rfl rfl rfl (by first | rfl | (simp; done)) (q_loadA ag63 rfl rfl) ?_
  refine gq_run rfl rfl rfl rfl (by first | rfl | (simp; done)) (q_build pl63 zr63 rfl rfl) ?_
  refine gq_run rfl rfl rfl rfl (by first | rfl | (simp; done)) (q_neN si63 rfl rfl (ms := [16, 11, 5]) (ns := [16, 11, 5]) rfl rfl rfl rfl) ?_
  refine vq rfl rfl (q_pickF rfl (by first | rfl | (simp; done)) rfl) ?_
  refine vendW ?_
  refine vc_condF rfl (by decide) ?_
  refine vc_skip ?_
  refine vc_seq ?_
  refine vc_regionDW mx (qm 1023) [0, 1, 2, 3, 4, 5, 6, 7, 8, 9] (by kernel_rfl) ?_
  refine vq rfl rfl (q_loadA ag63 rfl rfl) ?_
  refine vq rfl rfl (q_callF go26 rfl (fun s => rWord (n := 2049) (by decide) ⟨rfl, rfl⟩)) ?_
  refine vq rfl rfl (q_callF (x := .tup [.v (.int .u64 26624), .int 1, .bool true]) go33 rfl (fun s => roundL (fb := 16) (fp := 11) (fw := 5) (M := 0) (n := 13) (N := 2049) (pl := 24) (by decide) (by decide) (by decide) rfl (by decide) (by decide) (by decide) (by decide) (by decide) (by decide) (by rw [pk1]; exact ⟨rfl, rfl⟩))) ?_
  refine vq rfl rfl (q_move rfl) ?_
  refine vq rfl rfl (q_extract rfl rfl) ?_
  refine vq rfl rfl (q_extract rfl rfl) ?_
  refine vq rfl rfl (q_extract rfl rfl) ?_
  refine vq rfl rfl (q_assign rfl) ?_
  refine vq rfl rfl (q_assign rfl) ?_
  refine vq rfl rfl (q_assign rfl) ?_
  refine vendW ?_
  refine vc_seq ?_
  refine vc_regionDW mx (qm 1023) [0, 1, 2, 3, 4, 5, 6, 7, 8, 9] (by kernel_rfl) ?_
  refine vq rfl rfl (q_loadA ag63 rfl rfl) ?_
  refine vq rfl rfl (q_callF go26 rfl (fun s => rWord (n := 1) (by decide) ⟨rfl, rfl⟩)) ?_
  refine vq rfl rfl (q_callF (x := .tup [.v (.int .u64 32768), .int 3, .bool true]) go33 rfl (fun s => roundL (fb := 16) (fp := 11) (fw := 5) (M := 3) (n := 4) (N := 1) (pl := -3) (by decide) (by decide) (by decide) rfl (by decide) (by decide) (by decide) (by decide) (by decide) (by decide) (by rw [pk2]; exact ⟨rfl, rfl⟩))) ?_
  refine vq rfl rfl (q_move rfl) ?_
  refine vq rfl rfl (q_extract rfl rfl) ?_
  refine vq rfl rfl (q_extract rfl rfl) ?_
  refine vq rfl rfl (q_extract rfl rfl) ?_
  refine vq rfl rfl (q_assign rfl) ?_
  refine vq rfl rfl (q_assign rfl) ?_
  refine vq rfl rfl (q_assign rfl) ?_
  refine vendW ?_
  refine vc_seq ?_
  refine vc_regionW (qm 2097151) [0, 1, 2, 3, 4, 5, 6, 7, 8, 9, 10, 11, 12, 13, 14, 15, 16, 17, 18, 19, 20] rfl rfl ?_
  refine vq rfl rfl (q_move rfl) ?_
  refine vq rfl rfl (q_move rfl) ?_
  refine gq_run rfl rfl rfl rfl (by first | rfl | (simp; done)) (q_move rfl) ?_
  refine vq rfl rfl (q_pickT rfl (by first | rfl | (simp; done)) rfl) ?_
  refine vq rfl rfl (q_move rfl) ?_
  refine gq_run rfl rfl rfl rfl (by first | rfl | (simp; done)) (q_move rfl) ?_
  refine gq_run rfl rfl rfl rfl (by first | rfl | (simp; done)) (q_eq rfl rfl) ?_
  refine vq rfl rfl (q_pickT rfl (by first | rfl | (simp; done)) rfl) ?_
  refine vq rfl rfl (q_move rfl) ?_
  refine gq_run rfl rfl rfl rfl (by first | rfl | (simp; done)) (q_move rfl) ?_
  refine gq_run rfl rfl rfl rfl (by first | rfl | (simp; done)) (q_eq rfl rfl) ?_
  refine vq rfl rfl (q_pickT rfl (by first | rfl | (simp; done)) rfl) ?_
  refine vq rfl rfl (q_move rfl) ?_
  refine gq_run rfl rfl rfl rfl (by first | rfl | (simp; done)) (q_move rfl) ?_
  refine gq_run rfl rfl rfl rfl (by first | rfl | (simp; done)) (q_eq rfl rfl) ?_
  refine vq rfl rfl (q_pickT rfl (by first | rfl | (simp; done)) rfl) ?_
  refine vq rfl rfl (q_move rfl) ?_
  refine gq_run rfl rfl rfl rfl (by first | rfl | (simp; done)) (q_move rfl) ?_
  refine gq_run rfl rfl rfl rfl (by first | rfl | (simp; done)) (q_eq rfl rfl) ?_
  refine vq rfl rfl (q_pickT rfl (by first | rfl | (simp; done)) rfl) ?_
  refine vq rfl rfl (q_assign rfl) ?_
  refine vendW ?_
  refine vc_ret ?_
  exact ret1 rfl rfl (Le.refl _) (Cv.le (Le.refl _) _) hk
theorem packScaled {bits pl : Int} {M room : Nat} {ng : Bool} {size : List Int} {s : St} {K : AV → St → Prop} (hM : M < 256) (hr : room < 256) (hpl : -32768 ≤ pl ∧ pl < 32768) (hu : U32 size) (hk : K (.bool true) s) : CallsA Try.prog 5 [.int bits, .v (.int .u8 (M : Int)), .bool ng, .v (.int .i16 pl), natA size, .v (.int .u8 (room : Int))] s K := by
  refine callsA_of Try.func5 rfl rfl (Nat.le_of_ble_eq_true rfl) ?_
  refine vc_seq ?_
  refine vc_regionW (qm 1) [0] rfl rfl ?_
  refine vq rfl rfl (q_assign rfl) ?_
  refine vendW ?_
  refine vc_seq ?_
  refine vc_seq ?_
  refine vc_regionW (qm 3) [0, 1] rfl rfl ?_
  refine vq rfl rfl (q_callF go15 rfl (fun s => awake19 ⟨rfl, rfl⟩)) ?_
  refine vq rfl rfl (q_not rfl) ?_
  refine vendW ?_
  refine vc_condF rfl rfl ?_
  refine vc_skip ?_
  refine vc_seq ?_
  refine vc_regionW (qm 159) [0, 1, 2, 3, 4, 5, 6, 7] rfl rfl ?_
  refine vq rfl rfl (q_move rfl) ?_
  refine vq rfl rfl (q_callF go30 rfl (fun s => ofF (bits := bits) ⟨rfl, rfl⟩)) ?_
  refine vq rfl rfl (q_move rfl) ?_
  refine vq rfl rfl (q_extract rfl rfl) ?_
  refine vq rfl rfl (q_extract rfl rfl) ?_
  refine ve rfl rfl (e_alloc zr63 (fun k13 hk13 => ?_))
  refine vn rfl rfl (e_storeN sz63 rfl rfl rfl rfl (upd_same _ _ _) rfl ?_)
  refine vq rfl rfl (q_assign rfl) ?_
  refine vendW ?_
  refine vc_frzC (i := 13) hk13 (upd_upd _ _ _ _) rfl ?_
  refine vc_seq ?_
  refine vc_seq ?_
  refine vc_regionW (qm 127) [0, 1, 2, 3, 4, 5, 6] rfl rfl ?_
  refine vq rfl rfl (q_move rfl) ?_
  refine vq rfl rfl (q_ne rfl rfl) ?_
  refine vq rfl rfl (q_move rfl) ?_
  refine vgrp [3, 4, 5, 6] [] [33, 34, 35] 36 (.v (.bool (decide ((formOf bits).2 ≠ 0) || decide (20 < (size.length : Int))))) ?_ ?_
  ·
    by_cases hg2 : (formOf bits).2 ≠ 0
    ·
      refine g_skip rfl rfl rfl (by first | (rw [decide_eq_true hg2]; simp; done) | (intro e; have e2 := Value.bool.inj e; rw [decide_eq_true hg2] at e2; cases e2; done) | (simp [hg2]; done) | simp_all) ?_
      refine g_skip rfl rfl rfl (by first | (rw [decide_eq_true hg2]; simp; done) | (intro e; have e2 := Value.bool.inj e; rw [decide_eq_true hg2] at e2; cases e2; done) | (simp [hg2]; done) | simp_all) ?_
      refine g_skip rfl rfl rfl (by first | (rw [decide_eq_true hg2]; simp; done) | (intro e; have e2 := Value.bool.inj e; rw [decide_eq_true hg2] at e2; cases e2; done) | (simp [hg2]; done) | simp_all) ?_
      refine vq rfl rfl (q_pickT rfl (by first | exact (decide_eq_true hg2) | exact hg2 | (simp [hg2]; done) | simp_all) rfl) ?_
      refine vendW ⟨rfl, congrArg (fun b => some (AV.v (Value.bool b))) (by first | (simp only [decide_eq_true hg2]; done) | (simp only [decide_eq_true hg2]; rfl) | (simp [hg2]; done) | simp_all), ?_⟩
      repeat (first | exact Same.refl | refine Same.upd rfl ?_)
    ·
      refine gq_run rfl rfl rfl rfl (by first | exact congrArg Value.bool (decide_eq_false hg2) | (rw [decide_eq_false hg2]; done) | (simp [hg2]; done) | simp_all) (q_move rfl) ?_
      refine gq_run rfl rfl rfl rfl (by first | exact congrArg Value.bool (decide_eq_false hg2) | (rw [decide_eq_false hg2]; done) | (simp [hg2]; done) | simp_all) (q_len sl61 rfl (by first | exact lenM | rfl)) ?_
      refine gq_run rfl rfl rfl rfl (by first | exact congrArg Value.bool (decide_eq_false hg2) | (rw [decide_eq_false hg2]; done) | (simp [hg2]; done) | simp_all) (q_gt rfl rfl) ?_
      refine vq rfl rfl (q_pickF rfl (by first | exact (decide_eq_false hg2) | exact hg2 | (simp [hg2]; done) | simp_all) rfl) ?_
      refine vendW ⟨rfl, congrArg (fun b => some (AV.v (Value.bool b))) (by first | (simp only [decide_eq_false hg2]; done) | (simp only [decide_eq_false hg2]; rfl) | (simp [hg2]; done) | simp_all), ?_⟩
      repeat (first | exact Same.refl | refine Same.upd rfl ?_)
  refine vendW ?_
  refine vc_cond rfl (fun h36 => ?_) (fun h36 => ?_)
  ·
    refine vc_seq ?_
    refine vc_regionW (qm 1) [0] rfl rfl ?_
    refine vq rfl rfl (q_assign rfl) ?_
    refine vendW ?_
    refine vc_ret ?_
    exact ret1 rfl rfl (Le.refl _) (Cv.le (Le.refl _) _) hk
  refine vc_skip ?_
  refine vc_seq ?_
  have hb2 := scaled_or h36
  have hsl : size.length ≤ 20 := by omega
  have hf := formOf_ok hb2.1
  have hpn := pN_lt hu
  have hwp := wd_mono hpn
  refine vc_regionW (qm 15) [0, 1, 2, 3] rfl rfl ?_
  refine vq rfl rfl (q_move rfl) ?_
  refine vq rfl rfl (q_callF go32 rfl (fun s => rOf (a := size) (by omega) hu ⟨rfl, rfl⟩)) ?_
  refine vq rfl rfl (q_callF (x := bl (toB (pN size % 2 ^ 120))) go31 rfl (fun s => rLow (b := toB (pN size)) (w := 120) (by rw [toB_len]; omega) (by decide) (by rw [bN_toB]; exact ⟨rfl, rfl⟩))) ?_
  refine vq rfl rfl (q_assign rfl) ?_
  refine vendW ?_
  refine vc_seq ?_
  have hN120 : (pN size % 2 ^ 120) < 2 ^ 120 := Nat.mod_lt _ (by decide)
  have hwN := wd_mono hN120
  have hat := tmod4000 pl
  have hN1 : (pN size % 2 ^ 120) < 2 ^ (max (wd (pN size % 2 ^ 120)) 1 + room % 60) := Nat.lt_of_lt_of_le (wd_lt _) (Nat.pow_le_pow_right (by decide) (by omega))
  have hN2 : (pN size % 2 ^ 120) * 2 ^ 1 < 2 ^ (max (wd (pN size % 2 ^ 120)) 1 + 1) := by
    have h1 := wd_lt (pN size % 2 ^ 120)
    have h2 := Nat.pow_le_pow_right (n := 2) (by decide) (show wd (pN size % 2 ^ 120) ≤ max (wd (pN size % 2 ^ 120)) 1 by omega)
    obtain ⟨q, hq⟩ : ∃ q, q = max (wd (pN size % 2 ^ 120)) 1 := ⟨_, rfl⟩
    rw [← hq] at h2 ⊢
    have h3 : 2 ^ (q + 1) = 2 ^ q * 2 := by rw [Nat.pow_succ]
    rw [h3]; omega
  refine vc_regionW (qm 15) [0, 1, 2, 3] rfl rfl ?_
  refine vq rfl rfl (q_move rfl) ?_
  refine vq rfl rfl (q_conv us37 ik3 rfl (w64 (by omega))) ?_
  refine vq rfl rfl (q_rem rfl rfl (by decide) rfl) ?_
  refine vq rfl rfl (q_assign rfl) ?_
  refine vendW ?_
  refine vc_seq ?_
  refine vc_regionW (qm 1048575) [0, 1, 2, 3, 4, 5, 6, 7, 8, 9, 10, 11, 12, 13, 14, 15, 16, 17, 18, 19] rfl rfl ?_
  refine vq rfl rfl (q_loadA ag63 rfl rfl) ?_
  refine vq rfl rfl (q_move rfl) ?_
  refine vq rfl rfl (q_move rfl) ?_
  refine vq rfl rfl (q_move rfl) ?_
  refine vq rfl rfl (q_move rfl) ?_
  refine vq rfl rfl (q_move rfl) ?_
  refine vq rfl rfl (q_len (n := wd (pN size % 2 ^ 120)) sl48 rfl (by simp [lenA, toB_len])) ?_
  refine vq rfl rfl (q_max rfl rfl) ?_
  refine vq rfl rfl (q_move rfl) ?_
  refine vq rfl rfl (q_rem rfl rfl (by decide) (show _ = ((room % 60 : Nat) : Int) by rw [Int.tmod_eq_emod_of_nonneg (by omega)]; omega)) ?_
  refine vq rfl rfl (q_conv us5 ik3 rfl (w64 (by omega))) ?_
  refine vq rfl rfl (q_add rfl rfl (show _ = ((max (wd (pN size % 2 ^ 120)) 1 + room % 60 : Nat) : Int) by rw [w64 (by omega)]; omega)) ?_
  refine vq rfl rfl (q_callF (x := .tup [.v (.int .u64 (((packF (formOf bits).1.2.1 (formOf bits).1.2.2 (M % 8) ng (pN size % 2 ^ 120) ((pl : Int).tmod 4000) false).1 : Nat) : Int)), .int (((packF (formOf bits).1.2.1 (formOf bits).1.2.2 (M % 8) ng (pN size % 2 ^ 120) ((pl : Int).tmod 4000) false).2 : Nat) : Int), .bool true]) go33 rfl (fun s => roundL (fb := (formOf bits).1.1) (fp := (formOf bits).1.2.1) (fw := (formOf bits).1.2.2) (M := M) (n := max (wd (pN size % 2 ^ 120)) 1 + room % 60) (N := (pN size % 2 ^ 120)) (pl := ((pl : Int).tmod 4000)) hf.1 hf.2.1 hf.2.2.1 hf.2.2.2.1 hf.2.2.2.2 hM (by omega) hN1 (by omega) (by omega) ⟨rfl, rfl⟩)) ?_
  refine vq rfl rfl (q_move rfl) ?_
  refine vq rfl rfl (q_extract rfl rfl) ?_
  refine vq rfl rfl (q_extract rfl rfl) ?_
  refine vq rfl rfl (q_extract rfl rfl) ?_
  refine vq rfl rfl (q_assign rfl) ?_
  refine vq rfl rfl (q_assign rfl) ?_
  refine vq rfl rfl (q_assign rfl) ?_
  refine vendW ?_
  refine vc_seq ?_
  refine vc_regionDW mx (qm 524287) [0, 1, 2, 3, 4, 5, 6, 7, 8, 9, 10, 11, 12, 13, 14, 15, 16, 17, 18] (by kernel_rfl) ?_
  refine vq rfl rfl (q_loadA ag63 rfl rfl) ?_
  refine vq rfl rfl (q_move rfl) ?_
  refine vq rfl rfl (q_move rfl) ?_
  refine vq rfl rfl (q_move rfl) ?_
  refine vq rfl rfl (q_sub rfl rfl (w64 (by omega))) ?_
  refine vq rfl rfl (q_move rfl) ?_
  refine vq rfl rfl (q_callF go27 rfl (fun s => rLeft (N := (pN size % 2 ^ 120)) (n := 1) (by omega) (by decide) ⟨rfl, rfl⟩)) ?_
  refine vq rfl rfl (q_move rfl) ?_
  refine vq rfl rfl (q_len (n := wd (pN size % 2 ^ 120)) sl48 rfl (by simp [lenA, toB_len])) ?_
  refine vq rfl rfl (q_max rfl rfl) ?_
  refine vq rfl rfl (q_add rfl rfl (show _ = ((max (wd (pN size % 2 ^ 120)) 1 + 1 : Nat) : Int) by rw [w64 (by omega)]; omega)) ?_
  refine vq rfl rfl (q_callF (x := .tup [.v (.int .u64 (((packF (formOf bits).1.2.1 (formOf bits).1.2.2 (M % 8) ng (pN size % 2 ^ 120) ((pl : Int).tmod 4000) false).1 : Nat) : Int)), .int (((packF (formOf bits).1.2.1 (formOf bits).1.2.2 (M % 8) ng (pN size % 2 ^ 120) ((pl : Int).tmod 4000) false).2 : Nat) : Int), .bool true]) go33 rfl (fun s => roundL (fb := (formOf bits).1.1) (fp := (formOf bits).1.2.1) (fw := (formOf bits).1.2.2) (M := M) (n := max (wd (pN size % 2 ^ 120)) 1 + 1) (N := (pN size % 2 ^ 120) * 2 ^ 1) (pl := ((pl : Int).tmod 4000) - 1) hf.1 hf.2.1 hf.2.2.1 hf.2.2.2.1 hf.2.2.2.2 hM (by omega) hN2 (by omega) (by omega) (by rw [show (pN size % 2 ^ 120) * 2 ^ 1 = 2 * (pN size % 2 ^ 120) by omega, packF_scale1]; exact ⟨rfl, rfl⟩))) ?_
  refine vq rfl rfl (q_move rfl) ?_
  refine vq rfl rfl (q_extract rfl rfl) ?_
  refine vq rfl rfl (q_extract rfl rfl) ?_
  refine vq rfl rfl (q_extract rfl rfl) ?_
  refine vq rfl rfl (q_assign rfl) ?_
  refine vq rfl rfl (q_assign rfl) ?_
  refine vq rfl rfl (q_assign rfl) ?_
  refine vendW ?_
  refine vc_seq ?_
  refine vc_regionW (qm 32767) [0, 1, 2, 3, 4, 5, 6, 7, 8, 9, 10, 11, 12, 13, 14] rfl rfl ?_
  refine vq rfl rfl (q_move rfl) ?_
  refine vq rfl rfl (q_move rfl) ?_
  refine gq_run rfl rfl rfl rfl (by first | rfl | (simp; done)) (q_move rfl) ?_
  refine vq rfl rfl (q_pickT rfl (by first | rfl | (simp; done)) rfl) ?_
  refine vq rfl rfl (q_move rfl) ?_
  refine gq_run rfl rfl rfl rfl (by first | rfl | (simp; done)) (q_move rfl) ?_
  refine gq_run rfl rfl rfl rfl (by first | rfl | (simp; done)) (q_move rfl) ?_
  refine gq_run rfl rfl rfl rfl (by first | rfl | (simp; done)) (q_eq rfl rfl) ?_
  refine vq rfl rfl (q_pickT rfl (by first | rfl | (simp; done)) rfl) ?_
  refine vq rfl rfl (q_move rfl) ?_
  refine gq_run rfl rfl rfl rfl (by first | rfl | (simp; done)) (q_move rfl) ?_
  refine gq_run rfl rfl rfl rfl (by first | rfl | (simp; done)) (q_move rfl) ?_
  refine gq_run rfl rfl rfl rfl (by first | rfl | (simp; done)) (q_eq rfl rfl) ?_
  refine vq rfl rfl (q_pickT rfl (by first | rfl | (simp; done)) rfl) ?_
  refine vq rfl rfl (q_assign rfl) ?_
  refine vendW ?_
  refine vc_ret ?_
  exact ret1 rfl rfl (Le.refl _) (Cv.le (Le.refl _) _) (by simpa using hk)
end Go.Proofs.Ytpcpdepfnoijoaa

set_option linter.unusedVariables false
namespace Go.Vc
def noM : Mset := fun _ => False
abbrev TrodE {H : Type} (enc : TypeId × Value → H) (P : Program) (w : World) (fuel : Nat) (t : TypeId) (cs : List Value) : Option (DataW H × List MemPlace) := DataW.trod enc P w 0 (fun _ => true) true fuel t cs
structure Blk (μ : (H : Type) → DataW H → Nat) : Prop where
  one : ∀ H d, 1 ≤ μ H d
  slice : ∀ H (es sp : List (DataW H)), (es.map (μ H)).sum + 1 ≤ μ H (.slice es sp)
  agg : ∀ H (ps : List (DataW H)), (ps.map (μ H)).sum + 1 ≤ μ H (.agg ps)
  str : ∀ H b, b.length + 1 ≤ μ H (.lit (.string b))
def Rdr (μ : (H : Type) → DataW H → Nat) (P : Program) (t : TypeId) {α : Type} (f : α → List AV) (G : Nat → α → Prop) : Prop :=
  ∀ (H : Type) (enc : TypeId × Value → H) (w : World) (fuel : Nat) (cs : List Value) (x : DataW H × List MemPlace), TrodE enc P w fuel t cs = some x →
    ∃ a : α, RepL w noM (f a) cs ∧ G (μ H x.1) a
theorem Rdr.mono {μ : (H : Type) → DataW H → Nat} {P : Program} {t : TypeId} {α β : Type} {f : α → List AV} {g : β → List AV} {G : Nat → α → Prop} {G' : Nat → β → Prop} (h : Rdr μ P t f G) (hm : ∀ b a, G b a → ∃ c : β, g c = f a ∧ G' b c) : Rdr μ P t g G' := by
  intro H enc w fuel cs x hx
  obtain ⟨a, h1, h2⟩ := h H enc w fuel cs x hx
  obtain ⟨c, h3, h4⟩ := hm _ _ h2
  exact ⟨c, by rw [h3]; exact h1, h4⟩
theorem rdr_int {μ : (H : Type) → DataW H → Nat} {P : Program} {t : TypeId} {k : IntKind} (hu : P.underlying t = some (.int k)) : Rdr μ P t (fun n : Int => [.v (.int k n)]) (fun _ n => (Lit.int k n).wf = true) := by
  intro H enc w fuel cs x hx
  obtain ⟨n, rfl, _, hw⟩ := DataW.trod_int hu hx
  exact ⟨n, ⟨_, [], rfl, rfl, rfl⟩, hw⟩
theorem rdr_bool {μ : (H : Type) → DataW H → Nat} {P : Program} {t : TypeId} (hu : P.underlying t = some .bool) : Rdr μ P t (fun b : Bool => [.v (.bool b)]) (fun _ _ => True) := by
  intro H enc w fuel cs x hx
  obtain ⟨n, rfl, _⟩ := DataW.trod_bool hu hx
  exact ⟨n, ⟨_, [], rfl, rfl, rfl⟩, trivial⟩
theorem rdr_str {μ : (H : Type) → DataW H → Nat} (hb : Blk μ) {P : Program} {t : TypeId} (hu : P.underlying t = some .string) : Rdr μ P t (fun b : ByteArray => [.v (.string b)]) (fun n b => b.size + 1 ≤ n) := by
  intro H enc w fuel cs x hx
  obtain ⟨s, rfl, rfl, hs⟩ := DataW.trod_string hu hx
  exact ⟨s, ⟨_, [], rfl, rfl, rfl⟩, by have := hb.str H s.data.toList; simpa using this⟩
theorem cells_get {w : World} {a : Addr} {n : Nat} {cs : List Value} (h : w.cells? 0 a n = some cs) : cs.length = n ∧ ∀ i v, cs[i]? = some v → w.cell? (a.add i) = some v := by
  unfold World.cells? at h
  rw [if_pos (Nat.zero_le _)] at h
  have hl := mapM_some_length h
  have hl' : cs.length = n := by simpa using hl
  refine ⟨hl', fun i v hi => ?_⟩
  have hlt : i < n := by rw [← hl']; exact (List.getElem?_eq_some_iff.1 hi).1
  have := mapM_some_get h i i (by simp [hlt])
  rw [this]; exact hi
theorem spot_none {w : World} {a : Addr} {v : Value} (h : w.cell? a = some v) : a.spot = none := by
  unfold World.cell? at h
  split at h
  · split at h
    · cases h
    · rename_i hs; simpa using hs
  · cases h
theorem sum_ge {α : Type} {g : α → Nat} (h1 : ∀ a, 1 ≤ g a) : ∀ (l : List α), l.length ≤ (l.map g).sum ∧ ∀ a ∈ l, g a ≤ (l.map g).sum
  | [] => by simp
  | a :: l => by
    obtain ⟨h2, h3⟩ := sum_ge h1 l
    have := h1 a
    refine ⟨by simp; omega, fun b hb => ?_⟩
    rcases List.mem_cons.1 hb with rfl | hb
    · simp
    · have := h3 b hb; simp; omega
def GS {α : Type} (G : Nat → α → Prop) : Nat → List α → Prop := fun b l => l.length + 1 ≤ b ∧ ∀ a ∈ l, ∃ c, c < b ∧ G c a
theorem rdr_slice {μ : (H : Type) → DataW H → Nat} (hb : Blk μ) {P : Program} {t e : TypeId} {sz : Nat} {α : Type} {f : α → List AV} {G : Nat → α → Prop} (hu : P.underlying t = some (.slice e)) (hsz : P.cellsOf e = sz) (hs0 : 0 < sz) (hr : Rdr μ P e f G) :
    Rdr μ P t (fun l : List α => [.sl sz (l.map f)]) (GS G) := by
  subst hsz
  intro H enc w fuel cs x hx
  rcases DataW.trod_slice hu hx with ⟨rfl, rfl⟩ | ⟨⟨b, off, sp⟩, len, cap, elems, rest, n, _, rfl, rfl, _, hlc, hcm, hel, hget, _, _⟩
  · exact ⟨[], ⟨_, [], rfl, ⟨none, 0, [], rfl, Nat.le_refl _, Nat.zero_le _, rfl, .inl rfl⟩, rfl⟩, by have := hb.one H DataW.nil; exact ⟨by simpa using this, by simp⟩⟩
  · have hs := hb.slice H (elems.map (·.1)) (rest.map (·.1))
    obtain ⟨s1, s2⟩ := sum_ge (g := μ H) (hb.one H) (elems.map (·.1))
    rw [List.length_map] at s1
    by_cases hl0 : len = 0
    · subst hl0
      refine ⟨[], ⟨_, [], rfl, ⟨_, cap, [], rfl, Nat.zero_le _, hcm, rfl, .inl rfl⟩, rfl⟩, ⟨?_, by simp⟩⟩
      exact hb.one H _
    · have hsp : sp = none := by
        have hg := hget 0 (by omega)
        rw [List.getElem?_eq_getElem (show 0 < elems.length by omega), Option.bind_eq_some_iff] at hg
        obtain ⟨cs, hc1, hc2⟩ := hg
        obtain ⟨hcl, hcg⟩ := cells_get hc1
        have h1 := spot_none (hcg 0 (cs[0]'(by omega)) (List.getElem?_eq_getElem _))
        simpa [Addr.add] using h1
      subst hsp
      have key : ∀ m i, i + m = len → ∃ (l : List α) (us : List Value), l.length = m ∧ RepRows w noM (P.cellsOf e) (l.map f) us ∧ (∀ j v, us[j]? = some v → w.cell? ⟨b, off + (i * P.cellsOf e + j), none⟩ = some v) ∧
          ∀ y ∈ l, ∃ d ∈ elems, G (μ H d.1) y := by
        intro m
        induction m with
        | zero => intro i _; exact ⟨[], [], rfl, rfl, by simp, by simp⟩
        | succ m ih =>
          intro i hi
          obtain ⟨l, us, h1, h2, h3, h4⟩ := ih (i + 1) (by omega)
          have hg := hget i (by omega)
          have hlt : i < elems.length := by omega
          rw [List.getElem?_eq_getElem hlt, Option.bind_eq_some_iff] at hg
          obtain ⟨cs, hc1, hc2⟩ := hg
          obtain ⟨hcl, hcg⟩ := cells_get hc1
          obtain ⟨y, hy1, hy2⟩ := hr H enc w n cs _ hc2
          refine ⟨y :: l, cs ++ us, by simp [h1], ⟨cs, us, rfl, hcl, hy1, h2⟩, fun j v hj => ?_, fun z hz => ?_⟩
          · by_cases hjl : j < cs.length
            · rw [List.getElem?_append_left hjl] at hj
              have := hcg j v hj
              rw [Addr.add_lit, Addr.add_lit, Nat.add_assoc] at this
              exact this
            · rw [List.getElem?_append_right (by omega)] at hj
              have := h3 _ v hj
              rw [Nat.succ_mul, show i * P.cellsOf e + P.cellsOf e + (j - cs.length) = i * P.cellsOf e + j by omega] at this
              exact this
          · rcases List.mem_cons.1 hz with rfl | hz
            · exact ⟨_, List.getElem_mem hlt, hy2⟩
            · exact h4 z hz
      obtain ⟨l, us, h1, h2, h3, h4⟩ := key len 0 (by omega)
      refine ⟨l, ⟨_, [], rfl, ⟨some ⟨b, off, none⟩, cap, us, by simp [h1], by simp [h1]; exact hlc, hcm, h2, .inr ⟨b, off, rfl, fun _ h => h, fun j v hj => ?_⟩⟩, rfl⟩, ?_, fun y hy => ?_⟩
      · have := h3 j v hj
        rwa [Nat.zero_mul, Nat.zero_add] at this
      · have : (elems.map (·.1)).length = len := by rw [List.length_map]; exact hel
        show l.length + 1 ≤ μ H (DataW.slice (elems.map (·.1)) (rest.map (·.1)))
        omega
      · obtain ⟨d, hd1, hd2⟩ := h4 y hy
        have := s2 d.1 (List.mem_map.2 ⟨d, hd1, rfl⟩)
        exact ⟨_, Nat.lt_of_le_of_lt this hs, hd2⟩
def fldIs (P : Program) (t i ty off : Nat) : Bool := match P.underlying t with
  | some (.struct fs) => match fs[i]? with | some f => Nat.beq f.type ty && Nat.beq f.offset off | none => false
  | _ => false
def nFld (P : Program) (t : Nat) : Option Nat := match P.underlying t with
  | some (.struct fs) => some fs.size
  | _ => none
theorem fld_read {μ : (H : Type) → DataW H → Nat} (hb : Blk μ) {P : Program} {t k : Nat} {H : Type} {enc : TypeId × Value → H} {w : World} {fuel : Nat} {cs : List Value} {x : DataW H × List MemPlace} (hn : nFld P t = some k) (hx : TrodE enc P w fuel t cs = some x) :
    cs.length = P.cellsOf t ∧ ∃ (n : Nat) (ds : List (DataW H × List MemPlace)), ds.length = k ∧ (ds.map fun d => μ H d.1).sum + 1 ≤ μ H x.1 ∧
      ∀ i ty off, fldIs P t i ty off = true → i < k → ∃ d, ds[i]? = some d ∧ TrodE enc P w n ty ((cs.drop off).take (P.cellsOf ty)) = some d := by
  unfold nFld at hn
  cases hu : P.underlying t with
  | none => simp [hu] at hn
  | some q =>
    cases q with
    | struct fs =>
      simp only [hu, Option.some.injEq] at hn
      obtain ⟨xs, n, _, rfl, hl, hxl, hget⟩ := DataW.trod_struct hu hx
      refine ⟨hl, n, xs, by omega, ?_, fun i ty off hf hi => ?_⟩
      · have := hb.agg H (xs.map (·.1))
        rw [List.map_map] at this
        exact this
      · unfold fldIs at hf
        simp only [hu] at hf
        cases hfi : fs[i]? with
        | none => simp [hfi] at hf
        | some f =>
          simp only [hfi, Bool.and_eq_true] at hf
          have e1 := Nat.eq_of_beq_eq_true hf.1
          have e2 := Nat.eq_of_beq_eq_true hf.2
          have := hget i f hfi
          have hlt : i < xs.length := by omega
          rw [List.getElem?_eq_getElem hlt, e1, e2] at this
          exact ⟨_, List.getElem?_eq_getElem hlt, this⟩
    | _ => simp [hu] at hn
theorem len1 {cs : List Value} (h : cs.length = 1) : ∃ c, cs = [c] := by
  match cs, h with
  | [c], _ => exact ⟨c, rfl⟩
theorem len2 {cs : List Value} (h : cs.length = 2) : ∃ c d, cs = [c, d] := by
  match cs, h with
  | [c, d], _ => exact ⟨c, d, rfl⟩
theorem len3 {cs : List Value} (h : cs.length = 3) : ∃ c d e, cs = [c, d, e] := by
  match cs, h with
  | [c, d, e], _ => exact ⟨c, d, e, rfl⟩
theorem len4 {cs : List Value} (h : cs.length = 4) : ∃ c d e f, cs = [c, d, e, f] := by
  match cs, h with
  | [c, d, e, f], _ => exact ⟨c, d, e, f, rfl⟩
theorem part_lt {μ : (H : Type) → DataW H → Nat} (hb : Blk μ) {H : Type} {ds : List (DataW H × List MemPlace)} {i : Nat} {d : DataW H × List MemPlace} {m : Nat} (hs : (ds.map fun d => μ H d.1).sum + 1 ≤ m) (hd : ds[i]? = some d) : μ H d.1 < m := by
  have := (sum_ge (g := fun d : DataW H × List MemPlace => μ H d.1) (fun a => hb.one H a.1) ds).2 d (List.mem_of_getElem? hd)
  omega
theorem rdr_s2 {μ : (H : Type) → DataW H → Nat} (hb : Blk μ) {P : Program} {t t0 t1 : TypeId} {α β : Type} {f : α → List AV} {g : β → List AV} {F : Nat → α → Prop} {G : Nat → β → Prop} (hn : nFld P t = some 2) (hc : P.cellsOf t = 2) (h0 : fldIs P t 0 t0 0 = true) (h1 : fldIs P t 1 t1 1 = true) (c0 : P.cellsOf t0 = 1) (c1 : P.cellsOf t1 = 1)
    (r0 : Rdr μ P t0 f F) (r1 : Rdr μ P t1 g G) : Rdr μ P t (fun p : α × β => f p.1 ++ g p.2) (fun b p => (∃ c, c < b ∧ F c p.1) ∧ ∃ c, c < b ∧ G c p.2) := by
  intro H enc w fuel cs x hx
  obtain ⟨hl, n, ds, hdl, hsum, hf⟩ := fld_read hb hn hx
  obtain ⟨v0, v1, rfl⟩ := len2 (hl.trans hc)
  obtain ⟨d0, e0, k0⟩ := hf 0 _ _ h0 (by decide)
  obtain ⟨d1, e1, k1⟩ := hf 1 _ _ h1 (by decide)
  rw [c0] at k0; rw [c1] at k1
  obtain ⟨a, a1, a2⟩ := r0 H enc w n _ d0 k0
  obtain ⟨b, b1, b2⟩ := r1 H enc w n _ d1 k1
  exact ⟨(a, b), RepL.append.2 ⟨[v0], [v1], rfl, a1, b1⟩, ⟨_, part_lt hb hsum e0, a2⟩, ⟨_, part_lt hb hsum e1, b2⟩⟩
theorem rdr_s3 {μ : (H : Type) → DataW H → Nat} (hb : Blk μ) {P : Program} {t t0 t1 t2 : TypeId} {α β γ : Type} {f : α → List AV} {g : β → List AV} {h : γ → List AV} {F : Nat → α → Prop} {G : Nat → β → Prop} {E : Nat → γ → Prop} (hn : nFld P t = some 3) (hc : P.cellsOf t = 3) (h0 : fldIs P t 0 t0 0 = true) (h1 : fldIs P t 1 t1 1 = true) (h2 : fldIs P t 2 t2 2 = true) (c0 : P.cellsOf t0 = 1) (c1 : P.cellsOf t1 = 1) (c2 : P.cellsOf t2 = 1)
    (r0 : Rdr μ P t0 f F) (r1 : Rdr μ P t1 g G) (r2 : Rdr μ P t2 h E) : Rdr μ P t (fun p : α × β × γ => f p.1 ++ (g p.2.1 ++ h p.2.2)) (fun b p => (∃ c, c < b ∧ F c p.1) ∧ (∃ c, c < b ∧ G c p.2.1) ∧ ∃ c, c < b ∧ E c p.2.2) := by
  intro H enc w fuel cs x hx
  obtain ⟨hl, n, ds, hdl, hsum, hf⟩ := fld_read hb hn hx
  obtain ⟨v0, v1, v2, rfl⟩ := len3 (hl.trans hc)
  obtain ⟨d0, e0, k0⟩ := hf 0 _ _ h0 (by decide)
  obtain ⟨d1, e1, k1⟩ := hf 1 _ _ h1 (by decide)
  obtain ⟨d2, e2, k2⟩ := hf 2 _ _ h2 (by decide)
  rw [c0] at k0; rw [c1] at k1; rw [c2] at k2
  obtain ⟨a, a1, a2⟩ := r0 H enc w n _ d0 k0
  obtain ⟨b, b1, b2⟩ := r1 H enc w n _ d1 k1
  obtain ⟨c, g1, g2⟩ := r2 H enc w n _ d2 k2
  exact ⟨(a, b, c), RepL.append.2 ⟨[v0], [v1, v2], rfl, a1, RepL.append.2 ⟨[v1], [v2], rfl, b1, g1⟩⟩, ⟨_, part_lt hb hsum e0, a2⟩, ⟨_, part_lt hb hsum e1, b2⟩, ⟨_, part_lt hb hsum e2, g2⟩⟩
theorem rdr_s4 {μ : (H : Type) → DataW H → Nat} (hb : Blk μ) {P : Program} {t ti : TypeId} {F : Nat → Int → Prop} (hn : nFld P t = some 4) (hc : P.cellsOf t = 4) (h0 : fldIs P t 0 ti 0 = true) (h1 : fldIs P t 1 ti 1 = true) (h2 : fldIs P t 2 ti 2 = true) (h3 : fldIs P t 3 ti 3 = true) (c0 : P.cellsOf ti = 1)
    (r : Rdr μ P ti (fun n : Int => [.int n]) F) : Rdr μ P t ndR (fun b x => ∀ n ∈ [x.k, x.a, x.b, x.c], ∃ c, c < b ∧ F c n) := by
  intro H enc w fuel cs x hx
  obtain ⟨hl, n, ds, hdl, hsum, hf⟩ := fld_read hb hn hx
  obtain ⟨v0, v1, v2, v3, rfl⟩ := len4 (hl.trans hc)
  obtain ⟨d0, e0, k0⟩ := hf 0 _ _ h0 (by decide)
  obtain ⟨d1, e1, k1⟩ := hf 1 _ _ h1 (by decide)
  obtain ⟨d2, e2, k2⟩ := hf 2 _ _ h2 (by decide)
  obtain ⟨d3, e3, k3⟩ := hf 3 _ _ h3 (by decide)
  rw [c0] at k0 k1 k2 k3
  obtain ⟨a, a1, a2⟩ := r H enc w n _ d0 k0
  obtain ⟨b, b1, b2⟩ := r H enc w n _ d1 k1
  obtain ⟨c, g1, g2⟩ := r H enc w n _ d2 k2
  obtain ⟨d, i1, i2⟩ := r H enc w n _ d3 k3
  refine ⟨⟨a, b, c, d⟩, RepL.append.2 ⟨[v0], [v1, v2, v3], rfl, a1, RepL.append.2 ⟨[v1], [v2, v3], rfl, b1, RepL.append.2 ⟨[v2], [v3], rfl, g1, i1⟩⟩⟩, fun m hm => ?_⟩
  simp only [List.mem_cons, List.not_mem_nil, or_false] at hm
  rcases hm with rfl | rfl | rfl | rfl
  · exact ⟨_, part_lt hb hsum e0, a2⟩
  · exact ⟨_, part_lt hb hsum e1, b2⟩
  · exact ⟨_, part_lt hb hsum e2, g2⟩
  · exact ⟨_, part_lt hb hsum e3, i2⟩
end Go.Vc
