/-
  Part of a proof: A size twice as great, one place lower, is packed as the same (slipsticklaw19.PackScaled).
-/
import Derived.Test.YtpcpdepfnoijoaaVc9
import Derived.Great.BuildSlice
import Derived.Lib.AppendZeros
import Derived.Laws.CopyRow
import Derived.Laws.IdiomCopy
import Derived.MapKept
import Derived.Laws.StructEq
import Derived.Laws.IdiomStrings
set_option linter.unusedVariables false
set_option linter.unusedSimpArgs false
namespace Go.Vc
section
variable {P : Program} {env : Env} {s : St} {d : Option Nat} {ty : TypeId} {pos : String} {af : Array Edge} {gd : Option (Nat × Bool)}
variable {a b : Operand} {x y : AV} {t t2 : TypeId} {K : AV → St → Prop}
def zrOK (P : Program) (e sz : Nat) : Bool := match P.info? e with
  | some i => match i.zero with | some z => Nat.beq z.cells.size sz && Nat.beq i.size sz | none => false
  | none => false
theorem zrOK_spec {e sz : Nat} (h : zrOK P e sz = true) : ∃ i z, P.info? e = some i ∧ i.zero = some z ∧ z.cells.size = sz ∧ i.size = sz := by
  unfold zrOK at h
  cases hi : P.info? e with
  | none => simp [hi] at h
  | some i =>
    cases hz : i.zero with
    | none => simp [hi, hz] at h
    | some z =>
      simp only [hi, hz, Bool.and_eq_true] at h
      exact ⟨i, z, rfl, hz, Nat.eq_of_beq_eq_true h.1, Nat.eq_of_beq_eq_true h.2⟩
theorem run_append_own' {t e sz bb : Nat} (hT : slT P t = some (e, sz, bb)) (hz : zrOK P e sz = true) {w : World} {s s0 : St} (hs : Sat w s) {xs ys : List (List AV)} (ho : OwnSt s0 x e sz xs s) {v u : Value}
    (hv : Rep w (Mut s) x v) (hsrc : SrcOK s y sz ys) (hu : Rep w (Mut s) y u) (hc1 : rowsC1 ys) (hlen : xs.length + ys.length ≤ maxLen) (hby : (xs.length + ys.length) * bb ≤ 140737488355328) (ty : TypeId) :
    ∃ v' w' x' s', (Builtin.append_ #[t, t] ty #[v, u]).run P w = .ok v' w' ∧ Rep w' (Mut s') x' v' ∧ Sat w' s' ∧ Fr w (Mut s) w' (Mut s') ∧ OwnSt s0 x' e sz (xs ++ ys) s' := by
  obtain ⟨ad, c, us, rfl, hr, hcells⟩ := hsrc w u hs hu
  obtain ⟨hut, i, hi, hsz, hbb⟩ := slT_spec hT
  obtain ⟨i', z, hi', hzi, hzc, _⟩ := zrOK_spec hz
  rw [hi] at hi'; cases hi'
  by_cases hys : ys = []
  · subst hys
    have hshape : ∃ base n cap, v = .slice base n cap ∧ n ≤ cap := by
      rcases ho with ⟨_, _, rfl | rfl⟩ | ⟨k, rfl, _, _⟩
      · cases hv; exact ⟨_, _, _, rfl, Nat.le_refl _⟩
      · obtain ⟨ad, us, rfl, _⟩ := hv; exact ⟨_, _, _, rfl, Nat.le_refl _⟩
      · obtain ⟨cap, e', rfl, h2, _⟩ := hv; exact ⟨_, _, _, rfl, h2⟩
    obtain ⟨base, n, cap, rfl, hn⟩ := hshape
    exact ⟨_, w, x, s, run_append_none hT w base ad n cap c hn t hT, hv, hs, Fr.refl _ _, by simpa using ho⟩
  · obtain ⟨b, off, rfl, hcs0⟩ := hcells.resolve_left hys
    have hul : us.length = ys.length * sz := RepRows.length hr
    have hy0 : 0 < ys.length := List.length_pos_iff.2 hys
    have hus1 := RepRows.c1 hc1 hr
    have hnews : ∀ j v, us[j]? = some v → w.cell? ((⟨b, off, none⟩ : Addr).add j) = some v := fun j v hj => by rw [Addr.add_lit]; exact hcs0 j v hj
    have fresh : ∀ (old need : Nat) (os : List Value), old < need → need = xs.length + ys.length → os.length = xs.length * sz → RepRows w (Mut s) sz xs os →
        (Builtin.append_ #[t, t] ty #[v, .slice (some ⟨b, off, none⟩) ys.length c]).run P w = .ok (.slice (some ⟨w.heap.size, 0, none⟩) need (grownCap w need old e)) (w.drew.alloc (.cells (os.toArray ++ us.toArray ++ Builtin.zeroCells z.cells (grownCap w need old e - need)) e)) →
        ∃ v' w' x' s', (Builtin.append_ #[t, t] ty #[v, .slice (some ⟨b, off, none⟩) ys.length c]).run P w = .ok v' w' ∧ Rep w' (Mut s') x' v' ∧ Sat w' s' ∧ Fr w (Mut s) w' (Mut s') ∧ OwnSt s0 x' e sz (xs ++ ys) s' := by
      intro old need os hold hneed hosl hosr hrun
      subst hneed
      have hge := grownCap_ge w (xs.length + ys.length) old e
      have hcm := grownCap_le_maxLen w (xs.length + ys.length) old e hlen
      have hsize : (os.toArray ++ us.toArray ++ Builtin.zeroCells z.cells (grownCap w (xs.length + ys.length) old e - (xs.length + ys.length))).size = grownCap w (xs.length + ys.length) old e * sz := by
        simp only [Array.size_append, List.size_toArray, size_zeroCells, hzc, hosl, hul, ← Nat.add_mul]
        congr 1
        omega
      have htake : (os.toArray ++ us.toArray ++ Builtin.zeroCells z.cells (grownCap w (xs.length + ys.length) old e - (xs.length + ys.length))).toList.take ((xs ++ ys).length * sz) = os ++ us := by
        have : (xs ++ ys).length * sz = (os ++ us).length := by simp [hosl, hul, Nat.add_mul]
        rw [this]
        simp only [Array.toList_append, List.append_assoc]
        rw [← List.append_assoc]
        exact List.take_left
      obtain ⟨g1, g2, g3⟩ := newRow hs ho.le _ e sz _ (xs ++ ys) hsize (by simpa using hge) hcm (by rw [htake]; exact RepRows.split.2 ⟨os, us, rfl, hosr, hr⟩)
      refine ⟨_, _, .hdr w.heap.size sz (xs ++ ys).length, _, hrun, ⟨grownCap w (xs.length + ys.length) old e, e, by simp, by simpa using hge, hcm, ?_⟩, g1, g2, .inr ⟨_, rfl, g3, rfl⟩⟩
      have := heap_alloc_new w.drew (.cells (os.toArray ++ us.toArray ++ Builtin.zeroCells z.cells (grownCap w (xs.length + ys.length) old e - (xs.length + ys.length))) e)
      have hsz' : w.drew.heap.size = w.heap.size := rfl
      rw [hsz'] at this
      unfold World.shape?
      rw [this]
      simp only [hsize]
    have ho' := ho
    rcases ho with ⟨rfl, rfl, rfl | rfl⟩ | ⟨k, rfl, hk, rfl⟩
    · cases hv
      refine fresh 0 ys.length [] hy0 (by simp) (by simp) rfl ?_
      have := run_append_nil (P := P) w t ty e i z hut hi hzi ⟨b, off, none⟩ ys.length c us (by rw [hul, hsz]) hnews hy0 (by simp only [maxLen, List.length_nil] at hlen; omega) (by rw [hbb]; simp at hby; omega)
      simpa using this
    · obtain ⟨ad', us', rfl, _⟩ := hv
      cases ad' with
      | none =>
        refine fresh 0 ys.length [] hy0 (by simp) (by simp) rfl ?_
        have := run_append_nil (P := P) w t ty e i z hut hi hzi ⟨b, off, none⟩ ys.length c us (by rw [hul, hsz]) hnews hy0 (by simp only [maxLen, List.length_nil] at hlen; omega) (by rw [hbb]; simp at hby; omega)
        simpa using this
      | some ad' =>
        refine fresh 0 ys.length [] hy0 (by simp) (by simp) rfl ?_
        have := run_append_grow (P := P) w t ty e i z hut hi hzi ad' 0 0 [] (by simp) (by simp) ⟨b, off, none⟩ ys.length c us (by rw [hul, hsz]) hnews (by omega) (by simp only [maxLen, List.length_nil] at hlen; omega) (by
          rw [hbb]; simp only [Nat.zero_add]; exact growslice_fits hy0 (by simpa using hby))
        simpa using this
    · obtain ⟨cap, e', rfl, h2, h3, h4⟩ := hv
      obtain ⟨cap', cur, g1, g2, g3, g4, g5⟩ := hs.ok k _ (upd_same _ _ _)
      have hcc : cap = cap' ∨ sz = 0 := by
        have hsh : w.shape? k = some (e, cur.size) := by simp [World.shape?, g1]
        rw [h4] at hsh
        injection hsh with hsh
        injection hsh with _ hsh
        rw [g2] at hsh
        rcases Nat.eq_zero_or_pos sz with h | h
        · exact .inr h
        · exact .inl (Nat.eq_of_mul_eq_mul_right h hsh)
      have hcs : cur.size = cap * sz := by
        rcases hcc with rfl | rfl
        · exact g2
        · rw [g2]; simp
      have htl : (cur.toList.take (xs.length * sz)).length = xs.length * sz := RepRows.length g5
      by_cases hroom : xs.length + ys.length ≤ cap
      · have hfit : xs.length * i.size + us.length ≤ cur.size := by rw [hul, hcs, hsz, ← Nat.add_mul]; exact Nat.mul_le_mul_right _ hroom
        have hrun := run_append_room (P := P) w t ty e i hut hi k xs.length cap cur g1 ⟨b, off, none⟩ ys.length c us (by rw [hul, hsz]) hnews hus1 hroom hfit
        rw [hsz] at hrun
        generalize hcur' : (cur.toList.take (xs.length * sz) ++ us ++ cur.toList.drop (xs.length * sz + us.length)).toArray = cur' at hrun
        have hsz' : cur'.size = cur.size := by
          rw [← hcur']
          simp only [List.size_toArray, List.length_append, List.length_drop, Array.length_toList, htl]
          rw [hsz] at hfit
          omega
        obtain ⟨q1, q2⟩ := setRowS (cur' := cur') (r := .arr e sz (xs ++ ys)) hs (upd_same s0 k _) (fun b => Iff.rfl) (fun b => Iff.rfl) g1 hsz' (fun f => ⟨cap, cur', setRow_heap w k cur _ e _ g1, by rw [hsz', hcs], by simpa using hroom, h3, by
          have : (xs ++ ys).length * sz = (cur.toList.take (xs.length * sz) ++ us).length := by simp only [List.length_append, htl, hul, Nat.add_mul]
          have ht : cur'.toList.take ((xs ++ ys).length * sz) = cur.toList.take (xs.length * sz) ++ us := by
            rw [this, ← hcur']
            simp only [List.take_left]
          rw [ht]
          exact RepRows.split.2 ⟨_, us, rfl, RepRows.mono f _ _ _ g5, RepRows.mono f _ _ _ hr⟩⟩)
        rw [upd_upd] at q1 q2
        refine ⟨_, _, .hdr k sz (xs ++ ys).length, upd s0 k (.arr e sz (xs ++ ys)), hrun, ⟨cap, e', by simp, by simpa using hroom, h3, ?_⟩, q1, q2, .inr ⟨k, rfl, hk, rfl⟩⟩
        have hlt : k < w.heap.size := (Array.getElem?_eq_some_iff.1 g1).1
        exact (q2.shape k hlt).trans h4
      · have holds : ∀ j v, (cur.toList.take (xs.length * sz))[j]? = some v → w.cell? ((⟨k, 0, none⟩ : Addr).add j) = some v := by
          intro j v hj
          rw [Addr.add_lit, Nat.zero_add, cell_res g1]
          rw [List.getElem?_take] at hj
          split at hj
          · simpa using hj
          · cases hj
        refine fresh cap _ _ (by omega) rfl htl g5 ?_
        have := run_append_grow (P := P) w t ty e i z hut hi hzi ⟨k, 0, none⟩ xs.length cap _ (by rw [htl, hsz]) holds ⟨b, off, none⟩ ys.length c us (by rw [hul, hsz]) hnews (by omega) (by simp only [maxLen] at hlen; omega)
          (by rw [hbb]; exact growslice_fits (by omega) hby)
        exact this
theorem e_append {e sz bb : Nat} (hT : slT P t = some (e, sz, bb)) (hz : zrOK P e sz = true) {s0 : St} {xs ys : List (List AV)} (hx : evA env a = some x) (hy : evA env b = some y) (ho : OwnSt s0 x e sz xs s)
    (hsrc : SrcOK s y sz ys) (hc1 : rowsC1 ys) (hlen : xs.length + ys.length ≤ maxLen ∧ (xs.length + ys.length) * bb ≤ 140737488355328) (h : ∀ x' s', OwnSt s0 x' e sz (xs ++ ys) s' → K x' s') :
    EffOK P ⟨d, .call ⟨.builtin .append, #[a, b], #[t, t]⟩, ty, pos, af, gd⟩ env s K := by
  intro w ρ hs hr
  have h1 := hr.1 a (by simp [Op.operands, Call.operands]) _ hx
  have h2 := hr.1 b (by simp [Op.operands, Call.operands]) _ hy
  obtain ⟨v', w', x', s', g1, g2, g3, g4, g5⟩ := run_append_own' hT hz hs ho h1 hsrc h2 hc1 hlen.1 hlen.2 ty
  have hrun : (execOp ρ ⟨d, .call ⟨.builtin .append, #[a, b], #[t, t]⟩, ty, pos, af, gd⟩).run P w = .ok (.value v') w' := by
    simp [execOp, resolve, invoke, builtin, g1]
  rw [hrun]
  exact ⟨x', s', g2, g3, g4, h x' s' g5⟩
theorem zero_rows {w : World} {M : Mset} (zs : List Value) : ∀ n, RepRows w M zs.length (List.replicate n (zs.map .v)) (List.replicate n zs).flatten
  | 0 => rfl
  | n + 1 => ⟨zs, _, by simp [List.replicate_succ], rfl, RepL_v zs, zero_rows zs n⟩
theorem flatten_get (zs : List Value) (h0 : zs ≠ []) : ∀ n j, j < n * zs.length → (List.replicate n zs).flatten[j]? = zs[j % zs.length]?
  | 0, j, h => by simp at h
  | n + 1, j, h => by
    have hp : 0 < zs.length := List.length_pos_iff.2 h0
    simp only [List.replicate_succ, List.flatten_cons]
    by_cases hj : j < zs.length
    · rw [List.getElem?_append_left hj, Nat.mod_eq_of_lt hj]
    · rw [List.getElem?_append_right (by omega), flatten_get zs h0 n (j - zs.length) (by rw [Nat.succ_mul] at h; omega)]
      rw [Nat.mod_eq_sub_mod (show j ≥ zs.length by omega)]
theorem madeCells_list (z : Array Value) (hz : z.toList ≠ []) (n : Nat) : (madeCells z (n * z.size)).toList = (List.replicate n z.toList).flatten := by
  apply List.ext_getElem?
  intro j
  by_cases hj : j < n * z.size
  · rw [flatten_get _ hz n j (by simpa using hj)]
    have hp : 0 < z.size := by simpa using List.length_pos_iff.2 hz
    have hm : j % z.size < z.size := Nat.mod_lt _ hp
    simp only [madeCells, Array.length_toList]
    rw [Array.getElem?_toList]
    simp [hj, hm]
  · rw [List.getElem?_eq_none (by simpa [madeCells] using hj), List.getElem?_eq_none (by simpa using hj)]
theorem e_make {e sz bb : Nat} {zs : List Value} {k1 k2 : IntKind} {l c : Int} (hT : slT P t = some (e, sz, bb)) (hz : zrA P e = some zs) (hzl : zs.length = sz) (hz0 : zs ≠ []) (ha : evA env a = some (.v (.int k1 l))) (hb : evA env b = some (.v (.int k2 c)))
    (h0 : 0 ≤ l) (h1 : l ≤ c) (hc : (bb : Int) * c ≤ 281474976710656) (hc2 : c ≤ 9223372036854775807) (h : ∀ k, s k = none → K (.hdr k sz l.toNat) (upd s k (.arr e sz (List.replicate l.toNat (zs.map .v))))) :
    EffOK P ⟨d, .makeSlice t a b, ty, pos, af, gd⟩ env s K := by
  intro w ρ hs hr
  have ha' : ρ a = _ := hr.1 a (by simp [Op.operands]) _ ha
  have hb' : ρ b = _ := hr.1 b (by simp [Op.operands]) _ hb
  obtain ⟨hut, i, hi, hsz, hbb⟩ := slT_spec hT
  have hz' := hz
  unfold zrA at hz'
  rw [hi] at hz'
  cases hzi : i.zero with
  | none => simp [hzi] at hz'
  | some z =>
    simp only [hzi] at hz'
    cases hbq : Nat.beq z.cells.size i.size <;> simp only [hbq, cond_true, cond_false] at hz'
    · cases hz'
    · cases hz'
      have hzs : z.cells.size = sz := by simpa using hzl
      have hrun0 := run_make (P := P) w t e i z hut hi hzi k1 k2 l c h0 h1 (by rw [hbb]; exact hc) hc2
      rw [hsz, ← hzs] at hrun0
      have hcell : (madeCells z.cells (c.toNat * z.cells.size)).toList = (List.replicate l.toNat z.cells.toList).flatten ++ (List.replicate (c.toNat - l.toNat) z.cells.toList).flatten := by
        rw [madeCells_list z.cells hz0, ← List.flatten_append, List.replicate_append_replicate]
        congr 2
        omega
      have hfl : ((List.replicate l.toNat z.cells.toList).flatten).length = l.toNat * sz := by simp [hzs]
      obtain ⟨g1, g2⟩ := newE hs (madeCells z.cells (c.toNat * z.cells.size)) e (.arr e sz (List.replicate l.toNat (z.cells.toList.map .v))) (fun b hb => hb)
        (fun f => ⟨c.toNat, _, heap_alloc_new w _, by rw [size_madeCells, hzs], by simp; omega, by simp only [maxLen]; omega, by
          rw [hcell]
          simp only [List.length_replicate]
          rw [List.take_append_of_le_length (by omega), List.take_of_length_le (by omega)]
          have := zero_rows (w := w.alloc (.cells (madeCells z.cells (c.toNat * z.cells.size)) e)) (M := Mut (upd s w.heap.size (.arr e sz (List.replicate l.toNat (z.cells.toList.map .v))))) z.cells.toList l.toNat
          simpa [hzs] using this⟩)
      have hrun : (execOp ρ ⟨d, .makeSlice t a b, ty, pos, af, gd⟩).run P w = .ok (.value (.slice (some ⟨w.heap.size, 0, none⟩) l.toNat c.toNat)) (w.alloc (.cells (madeCells z.cells (c.toNat * z.cells.size)) e)) := by
        simp [execOp, ha', hb', hrun0]
      rw [hrun]
      refine ⟨.hdr w.heap.size sz l.toNat, _, ⟨c.toNat, e, rfl, by omega, by simp only [maxLen]; omega, ?_⟩, g1, g2, h _ (Mut.none_of_ge hs (Nat.le_refl _))⟩
      unfold World.shape?
      rw [heap_alloc_new]
      simp [size_madeCells, hzs]
end
end Go.Vc

set_option linter.unusedVariables false
set_option linter.unusedSimpArgs false
namespace Go.Vc
section
variable {P : Program} {env : Env} {s : St} {d : Option Nat} {ty : TypeId} {pos : String} {af : Array Edge} {gd : Option (Nat × Bool)}
variable {a b : Operand} {x y : AV} {t t2 : TypeId} {K : AV → St → Prop}
def evP (env : Env) : List (Nat × Operand) → Option (List (Nat × AV))
  | [] => some []
  | (i, a) :: as => match evA env a with
    | some x => match evP env as with
      | some xs => some ((i, x) :: xs)
      | none => none
    | none => none
def fillA (pl : List (Nat × Nat)) : List AV → List (Nat × AV) → Option (List AV)
  | cs, [] => some cs
  | cs, (i, x) :: rest => match nth pl i with
    | none => none
    | some (off, n) => bif okA x && (Nat.beq (cellsA x).length n && Nat.ble (off + n) cs.length) then fillA pl (cs.take off ++ (cellsA x ++ cs.drop (off + n))) rest else none
def plA (P : Program) (t : TypeId) : Option (List (Nat × Nat)) := match P.underlying t with
  | some (.struct fields) => fields.toList.mapM (fun f => (P.info? f.type).map fun i => (f.offset, i.size))
  | _ => none
def PRep (w : World) (M : Mset) : List (Nat × AV) → List (Nat × Value) → Prop
  | [], us => us = []
  | (i, x) :: xs, us => ∃ u us', us = (i, u) :: us' ∧ Rep w M x u ∧ PRep w M xs us'
theorem evP_rep {w : World} {M : Mset} {ρ : Operand → Value} : ∀ {as : List (Nat × Operand)} {xs : List (Nat × AV)}, (∀ p ∈ as, ∀ y, evA env p.2 = some y → Rep w M y (ρ p.2)) → evP env as = some xs → PRep w M xs (as.map fun p => (p.1, ρ p.2))
  | [], xs, _, h => by cases h; rfl
  | (i, a) :: as, xs, hr, h => by
    simp only [evP] at h
    split at h
    · rename_i x hx
      split at h
      · rename_i ys hys
        cases h
        exact ⟨ρ a, _, rfl, hr (i, a) (by simp) x hx, evP_rep (fun c hc => hr c (by simp [hc])) hys⟩
      · cases h
    · cases h
theorem set_part (v : Array Value) (off : Nat) (cs : Array Value) (h : off + v.size ≤ cs.size) :
    (v.zipIdx.foldl (fun cs (x : Value × Nat) => cs.setIfInBounds (off + x.2) x.1) cs).toList = cs.toList.take off ++ (v.toList ++ cs.toList.drop (off + v.size)) := by
  have h1 := Great.foldl_set off v.toList 0 cs
  have e : v.zipIdx.foldl (fun cs (x : Value × Nat) => cs.setIfInBounds (off + x.2) x.1) cs = (v.toList.zipIdx 0).foldl (fun cs (x : Value × Nat) => cs.setIfInBounds (off + x.2) x.1) cs := by
    rw [← Array.foldl_toList]; simp
  rw [e]
  obtain ⟨h2, h3⟩ := h1
  apply List.ext_getElem?
  intro k
  rw [Array.getElem?_toList, h3 k]
  simp only [Nat.add_zero, Array.length_toList]
  by_cases hk : k < off
  · rw [if_neg (by omega), List.getElem?_append_left (by simp; omega), List.getElem?_take]
    simp [hk]
  · by_cases hk2 : k < off + v.size
    · rw [if_pos (by omega), List.getElem?_append_right (by simp; omega), List.getElem?_append_left (by simp; omega)]
      have : min off cs.size = off := by omega
      simp [this]
    · rw [if_neg (by omega), List.getElem?_append_right (by simp; omega), List.getElem?_append_right (by simp; omega), List.getElem?_drop]
      have e1 : min off cs.size = off := by omega
      simp only [List.length_take, Array.length_toList, e1]
      rw [show off + v.size + (k - off - v.size) = k by omega]
      simp
theorem fillA_run {w : World} {M : Mset} {pl : List (Nat × Nat)} : ∀ {ps : List (Nat × AV)} {us : List (Nat × Value)} {cs cs' : List AV} {cur : Array Value}, PRep w M ps us → RepL w M cs cur.toList → fillA pl cs ps = some cs' →
    ∃ cur', Instr.fill (pl.toArray[·]?) cur us = some cur' ∧ RepL w M cs' cur'.toList
  | [], us, cs, cs', cur, hp, hr, h => by cases hp; cases h; exact ⟨cur, rfl, hr⟩
  | (i, x) :: ps, us, cs, cs', cur, ⟨u, us', h1, h2, h3⟩, hr, h => by
    subst h1
    simp only [fillA] at h
    cases hpl : nth pl i with
    | none => simp [hpl] at h
    | some on =>
      obtain ⟨off, n⟩ := on
      simp only [hpl] at h
      cases hb : okA x && (Nat.beq (cellsA x).length n && Nat.ble (off + n) cs.length) with
      | false => simp [hb] at h
      | true =>
        simp only [hb, cond_true] at h
        simp only [Bool.and_eq_true] at hb
        obtain ⟨hok, hn, hl⟩ := hb
        have hn := Nat.eq_of_beq_eq_true hn
        have hl := Nat.le_of_ble_eq_true hl
        obtain ⟨g1, g2⟩ := cellsA_spec hok h2
        have hus : u.cells.size = n := by have := RepL.length g1; simpa [hn] using this
        have hcl : cur.size = cs.length := by have := RepL.length hr; simpa using this
        have hset := set_part u.cells off cur (by omega)
        have hpl' : (pl.toArray)[i]? = some (off, n) := by rw [nth_eq] at hpl; simpa using hpl
        have hrep : RepL w M (cs.take off ++ (cellsA x ++ cs.drop (off + n))) (u.cells.zipIdx.foldl (fun cs (x : Value × Nat) => cs.setIfInBounds (off + x.2) x.1) cur).toList := by
          rw [hset]
          have e : cs = cs.take off ++ (cs.drop off) := (List.take_append_drop off cs).symm
          rw [e] at hr
          obtain ⟨p, q, hpq, k1, k2⟩ := RepL.append.1 hr
          have e2 : cs.drop off = (cs.drop off).take n ++ (cs.drop off).drop n := (List.take_append_drop n _).symm
          rw [e2] at k2
          obtain ⟨q1, q2, rfl, k3, k4⟩ := RepL.append.1 k2
          have hp1 : p.length = off := by rw [RepL.length k1]; simp; omega
          have hq1 : q1.length = n := by rw [RepL.length k3]; simp; omega
          rw [List.drop_drop] at k4
          have t1 : cur.toList.take off = p := by rw [hpq, List.take_append_of_le_length (by omega), List.take_of_length_le (by omega)]
          have t2 : cur.toList.drop (off + u.cells.size) = q2 := by
            rw [hpq, hus, List.drop_append, List.drop_of_length_le (by omega), hp1, List.nil_append, List.drop_append, List.drop_of_length_le (by omega), hq1]
            rw [show off + n - off - n = 0 by omega]
            rfl
          rw [t1, t2]
          exact RepL.append.2 ⟨p, _, rfl, k1, RepL.append.2 ⟨_, q2, rfl, g1, k4⟩⟩
        obtain ⟨cur', k1, k2⟩ := fillA_run h3 hrep h
        refine ⟨cur', ?_, k2⟩
        simp only [Instr.fill, hpl']
        rw [if_neg (by simp [hus]; omega)]
        exact k1
theorem q_build {pl : List (Nat × Nat)} {zs : List Value} {ps : List (Nat × Operand)} {xs : List (Nat × AV)} {cs : List AV} (hT : plA P t = some pl) (hz : zrA P t = some zs) (hps : evP env ps = some xs) (hf : fillA pl (zs.map .v) xs = some cs) :
    QOK P ⟨d, .build t ps.toArray, ty, pos, af, gd⟩ env (.agg cs) :=
  q_of fun w s ρ hs hr => by
    have hp := evP_rep (ρ := ρ) (fun p hp y hy => hr.1 p.2 (by simp [Op.operands]; exact ⟨p.1, hp⟩) y hy) hps
    unfold plA at hT
    cases hu : P.underlying t with
    | none => simp [hu] at hT
    | some du =>
      cases du with
      | struct fields =>
        simp only [hu] at hT
        unfold zrA at hz
        cases hit : P.info? t with
        | none => simp [hit] at hz
        | some it =>
          cases hzz : it.zero with
          | none => simp [hit, hzz] at hz
          | some z =>
            simp only [hit, hzz] at hz
            cases hb : Nat.beq z.cells.size it.size <;> simp only [hb, cond_true, cond_false] at hz
            · cases hz
            · cases hz
              obtain ⟨cur', h1, h2⟩ := fillA_run (pl := pl) hp (RepL_v z.cells.toList) hf
              have hbt : P.built t (ps.map fun p => (p.1, ρ p.2)) = some cur' := by
                unfold Program.built
                simp only [hit, hu, hzz, hT]
                exact h1
              refine ⟨.agg cur', ?_, cur'.toList, by simp, h2⟩
              have := run_build (P := P) w t ((ps.map fun p => (p.1, ρ p.2)).toArray) cur' (by simpa using hbt)
              simp [execOp, this]
      | _ => simp [hu] at hT
def inOrd : Nat → List (Nat × AV) → Option (List AV)
  | _, [] => some []
  | i, (j, x) :: r => bif Nat.beq i j then match inOrd (i + 1) r with | some xs => some (x :: xs) | none => none else none
theorem inOrd_spec {w : World} {M : Mset} : ∀ {ps : List (Nat × AV)} {us : List (Nat × Value)} {xs : List AV} {i : Nat}, PRep w M ps us → inOrd i ps = some xs → ∃ vs, us = (vs.zipIdx i).map (fun x => (x.2, x.1)) ∧ RepL w M xs vs
  | [], us, xs, i, h, h2 => by cases h; cases h2; exact ⟨[], rfl, rfl⟩
  | (j, x) :: ps, us, xs, i, ⟨u, us', h1, h3, h4⟩, h2 => by
    simp only [inOrd] at h2
    cases hb : Nat.beq i j with
    | false => simp [hb] at h2
    | true =>
      obtain rfl := Nat.eq_of_beq_eq_true hb
      simp only [hb, cond_true] at h2
      cases hr : inOrd (i + 1) ps with
      | none => simp [hr] at h2
      | some ys =>
        simp only [hr] at h2
        cases h2
        obtain ⟨vs, k1, k2⟩ := inOrd_spec h4 hr
        exact ⟨u :: vs, by simp [h1, k1], u, vs, rfl, h3, k2⟩
theorem q_buildS {e sz bb len : Nat} {ps : List (Nat × Operand)} {xs : List (Nat × AV)} {ys : List AV} (hT : slT P t = some (e, sz, bb)) (hz : zrOK P e sz = true) (hsz : 0 < sz) (hps : evP env ps = some xs) (hio : inOrd 0 xs = some ys)
    (hlen : ys.length = len) (hok : ys.all (fun y => okA y && Nat.beq (cellsA y).length sz) = true) (hsm : len * sz ≤ 16777216) : QOK P ⟨d, .buildSlice t len ps.toArray, ty, pos, af, gd⟩ env (.slx sz (ys.map cellsA)) := by
  refine QOK.intro fun w s ρ hs hr => ?_
  have hp := evP_rep (ρ := ρ) (fun p hp y hy => hr.1 p.2 (by simp [Op.operands]; exact ⟨p.1, hp⟩) y hy) hps
  obtain ⟨vs, hvs, hrv⟩ := inOrd_spec hp hio
  obtain ⟨hut, i, hi, hisz, hbb⟩ := slT_spec hT
  obtain ⟨i', z, hi', hzi, hzc, _⟩ := zrOK_spec hz
  rw [hi] at hi'; cases hi'
  have hvl : vs.length = len := (RepL.length hrv).trans hlen
  have rows : ∀ (ys : List AV) (vs : List Value), ys.all (fun y => okA y && Nat.beq (cellsA y).length sz) = true → RepL w (Mut s) ys vs → RepRows w (Mut s) sz (ys.map cellsA) (vs.flatMap fun v => v.cells.toList) ∧ ∀ v ∈ vs, v.cells.size = sz := by
    intro ys
    induction ys with
    | nil => intro vs _ h; cases h; exact ⟨rfl, by simp⟩
    | cons y ys ih =>
      rintro vs h ⟨u, us, rfl, h2, h3⟩
      simp only [List.all_cons, Bool.and_eq_true] at h
      obtain ⟨⟨h4, h5⟩, h6⟩ := h
      obtain ⟨g1, g2⟩ := cellsA_spec h4 h2
      obtain ⟨g3, g4⟩ := ih us h6 h3
      have hu : u.cells.size = sz := by have := RepL.length g1; simpa [Nat.eq_of_beq_eq_true h5] using this
      refine ⟨⟨u.cells.toList, _, by simp, by simpa using hu, g1, g3⟩, fun v hv => ?_⟩
      rcases List.mem_cons.1 hv with rfl | hv
      · exact hu
      · exact g4 v hv
  obtain ⟨hrows, hsizes⟩ := rows ys vs hok hrv
  by_cases hl0 : len = 0
  · subst hl0
    have hvs0 : vs = [] := List.eq_nil_of_length_eq_zero hvl
    have hys0 : ys = [] := List.eq_nil_of_length_eq_zero hlen
    subst hvs0 hys0
    obtain ⟨g1, g2, g3⟩ := newQ hs #[] e
    refine ⟨.slice (some ⟨w.heap.size, 0, none⟩) 0 0, w.alloc (.cells #[] e), ?_, ⟨_, [], rfl, Nat.zero_le _, rfl, .inl rfl⟩, g1, g2⟩
    have hps0 : ps = [] := by simpa using hvs
    subst hps0
    simp [execOp, Instr.buildSlice, run_underlying hut, sizeOf, typeInfo, hi, Instr.fill, Go.newRow, show Array.range 0 = #[] from rfl]
  · have hrun := run_buildSlice (P := P) w t e len ((ps.map fun p => (p.1, ρ p.2)).toArray) (vs.flatMap fun v => v.cells.toList).toArray i z hut hi hzi (by rw [hisz]; omega) (by rw [hisz]; exact Nat.mul_ne_zero hl0 (by omega)) (by
      rw [hisz]
      have := Great.fill_whole hsz vs (((Array.range (len * sz)).map (z.cells[· % z.cells.size]!))) hsizes (by simp [hvl])
      rw [← this]
      congr 1)
    obtain ⟨g1, g2, g3⟩ := newQ hs (vs.flatMap fun v => v.cells.toList).toArray e
    refine ⟨_, _, by simp [execOp, hrun]; rfl, ⟨some ⟨w.heap.size, 0, none⟩, _, by simp [hlen], ?_, RepRows.mono g2 _ _ _ hrows, .inr ⟨w.heap.size, 0, rfl, ?_⟩⟩, g1, g2⟩
    · simp only [List.length_map, hlen, maxLen]
      have : len ≤ len * sz := Nat.le_mul_of_pos_right _ hsz
      omega
    · have := g3 (vs.flatMap fun v => v.cells.toList) (by simp)
      exact this
theorem e_buildE {e sz bb len : Nat} {ps : List (Nat × Operand)} {xs : List (Nat × AV)} {ys : List AV} (hT : slT P t = some (e, sz, bb)) (hz : zrOK P e sz = true) (hsz : 0 < sz) (hps : evP env ps = some xs) (hio : inOrd 0 xs = some ys)
    (hlen : ys.length = len) (hl0 : 0 < len) (hok : ys.all (fun y => okA y && Nat.beq (cellsA y).length sz) = true) (hsm : len * sz ≤ 16777216)
    (h : ∀ k, s k = none → K (.hdr k sz len) (upd s k (.arr e sz (ys.map cellsA)))) : EffOK P ⟨d, .buildSlice t len ps.toArray, ty, pos, af, gd⟩ env s K := by
  intro w ρ hs hr
  have hp := evP_rep (ρ := ρ) (fun p hp y hy => hr.1 p.2 (by simp [Op.operands]; exact ⟨p.1, hp⟩) y hy) hps
  obtain ⟨vs, hvs, hrv⟩ := inOrd_spec hp hio
  obtain ⟨hut, i, hi, hisz, hbb⟩ := slT_spec hT
  obtain ⟨i', z, hi', hzi, hzc, _⟩ := zrOK_spec hz
  rw [hi] at hi'; cases hi'
  have hvl : vs.length = len := (RepL.length hrv).trans hlen
  have rows : ∀ (w : World) (M : Mset) (ys : List AV) (vs : List Value), ys.all (fun y => okA y && Nat.beq (cellsA y).length sz) = true → RepL w M ys vs → RepRows w M sz (ys.map cellsA) (vs.flatMap fun v => v.cells.toList) ∧ ∀ v ∈ vs, v.cells.size = sz := by
    intro w M ys
    induction ys with
    | nil => intro vs _ h; cases h; exact ⟨rfl, by simp⟩
    | cons y ys ih =>
      rintro vs h ⟨u, us, rfl, h2, h3⟩
      simp only [List.all_cons, Bool.and_eq_true] at h
      obtain ⟨⟨h4, h5⟩, h6⟩ := h
      obtain ⟨g1, g2⟩ := cellsA_spec h4 h2
      obtain ⟨g3, g4⟩ := ih us h6 h3
      have hu : u.cells.size = sz := by have := RepL.length g1; simpa [Nat.eq_of_beq_eq_true h5] using this
      refine ⟨⟨u.cells.toList, _, by simp, by simpa using hu, g1, g3⟩, fun v hv => ?_⟩
      rcases List.mem_cons.1 hv with rfl | hv
      · exact hu
      · exact g4 v hv
  obtain ⟨hrows, hsizes⟩ := rows w (Mut s) ys vs hok hrv
  have hfl : (vs.flatMap fun v => v.cells.toList).length = len * sz := by rw [RepRows.length hrows]; simp [hlen]
  have hrun := run_buildSlice (P := P) w t e len ((ps.map fun p => (p.1, ρ p.2)).toArray) (vs.flatMap fun v => v.cells.toList).toArray i z hut hi hzi (by rw [hisz]; omega) (by rw [hisz]; exact Nat.mul_ne_zero (by omega) (by omega)) (by
    rw [hisz]
    have := Great.fill_whole hsz vs (((Array.range (len * sz)).map (z.cells[· % z.cells.size]!))) hsizes (by simp [hvl])
    rw [← this]
    congr 1)
  have hml : len ≤ maxLen := by
    have : len ≤ len * sz := Nat.le_mul_of_pos_right _ hsz
    simp only [maxLen]; omega
  obtain ⟨g1, g2⟩ := newE hs (vs.flatMap fun v => v.cells.toList).toArray e (.arr e sz (ys.map cellsA)) (fun b hb => hb)
    (fun f => ⟨len, _, heap_alloc_new w _, by simpa using hfl, by simp [hlen], hml, by
      have : (ys.map cellsA).length * sz = (vs.flatMap fun v => v.cells.toList).length := by rw [hfl]; simp [hlen]
      rw [this]
      simp only [List.take_length]
      exact RepRows.mono f _ _ _ hrows⟩)
  have hrun' : (execOp ρ ⟨d, .buildSlice t len ps.toArray, ty, pos, af, gd⟩).run P w = .ok (.value (.slice (some ⟨w.heap.size, 0, none⟩) len len)) (w.alloc (.cells (vs.flatMap fun v => v.cells.toList).toArray e)) := by
    simp [execOp, hrun]
  rw [hrun']
  refine ⟨.hdr w.heap.size sz len, _, ⟨len, e, rfl, Nat.le_refl _, hml, ?_⟩, g1, g2, h _ (Mut.none_of_ge hs (Nat.le_refl _))⟩
  unfold World.shape?
  rw [heap_alloc_new]
  simp only [List.size_toArray, hfl]
def loV : Option Operand → Env → Option Int
  | none, _ => some 0
  | some o, env => match evA env o with | some (.v (.int _ n)) => some n | _ => none
def hiV (len : Nat) : Option Operand → Env → Option Int
  | none, _ => some len
  | some o, env => match evA env o with | some (.v (.int _ n)) => some n | _ => none
theorem RepRows.drop {w : World} {M : Mset} {sz : Nat} {xs : List (List AV)} {us : List Value} (h : RepRows w M sz xs us) (n : Nat) (hn : n ≤ xs.length) :
    ∃ u v, us = u ++ v ∧ u.length = n * sz ∧ RepRows w M sz (xs.take n) u ∧ RepRows w M sz (xs.drop n) v := by
  have e : xs = xs.take n ++ xs.drop n := (List.take_append_drop n xs).symm
  rw [e] at h
  obtain ⟨u, v, h1, h2, h3⟩ := RepRows.split.1 h
  exact ⟨u, v, h1, by rw [RepRows.length h2, List.length_take, Nat.min_eq_left hn], h2, h3⟩
theorem elem_of {e sz bb : Nat} (hT : slT P t = some (e, sz, bb)) (w : World) : P.underlying t = some (.slice (P.elem t)) ∧ (sizeOf (P.elem t)).run P w = .ok sz w := by
  obtain ⟨hu, i, hi, hs, _⟩ := slT_spec hT
  have : P.elem t = e := by simp [Program.elem, hu]
  rw [this]
  exact ⟨hu, by simp [sizeOf, typeInfo, hi, hs]⟩
theorem run_sl {e sz bb : Nat} (hT : slT P t = some (e, sz, bb)) {w : World} {ρ : Operand → Value} {env : Env} {lo hi : Option Operand} {ad : Option Addr} {len cap : Nat} {l h : Int}
    (hρ : ∀ o n k, (lo = some o ∨ hi = some o) → evA env o = some (.v (.int k n)) → ρ o = .int k n)
    (hl : loV lo env = some l) (hh : hiV len hi env = some h) (h0 : 0 ≤ l) (h1 : l ≤ h) (h2 : h ≤ len) (h3 : len ≤ cap) :
    (Instr.sliceAt t (.slice ad len cap) (lo.map ρ) (hi.map ρ) none).run P w = .ok (sliced ad l.toNat h.toNat cap sz) w := by
  obtain ⟨hu, hse⟩ := elem_of hT w
  rw [run_sliceAt_slice w t _ _ _ _ hu]
  have hlo : (lo = none ∧ l = 0) ∨ ∃ o k, lo = some o ∧ ρ o = .int k l := by
    cases lo with
    | none => cases hl; exact .inl ⟨rfl, rfl⟩
    | some o =>
      simp only [loV] at hl
      split at hl
      · rename_i k n he
        cases hl
        exact .inr ⟨o, k, rfl, hρ o _ k (.inl rfl) he⟩
      · cases hl
  have hhi : (hi = none ∧ h = len) ∨ ∃ o k, hi = some o ∧ ρ o = .int k h := by
    cases hi with
    | none => cases hh; exact .inl ⟨rfl, rfl⟩
    | some o =>
      simp only [hiV] at hh
      split at hh
      · rename_i k n he
        cases hh
        exact .inr ⟨o, k, rfl, hρ o _ k (.inr rfl) he⟩
      · cases hh
  rcases hlo with ⟨rfl, rfl⟩ | ⟨ol, kl, rfl, hol⟩ <;> rcases hhi with ⟨rfl, rfl⟩ | ⟨oh, kh, rfl, hoh⟩
  · simp only [Option.map_none]
    rw [run_slice_all w t ad len cap hu, hse]
    simp
  · simp only [Option.map_none, Option.map_some, hoh]
    rw [run_slice_h w t ad len cap hu kh h (by omega) (by omega), hse]
    simp
  · simp only [Option.map_none, Option.map_some, hol]
    rw [run_slice_l w t ad len cap hu kl l h0 (by omega), hse]
    simp
  · simp only [Option.map_some, hol, hoh]
    rw [run_slice_lh w t ad len cap hu kl kh l h h0 h1 (by omega), hse]
    simp
theorem sl_rep {e sz bb : Nat} {xs : List (List AV)} {lo hi : Option Operand} {l h : Int} {w : World} {M : Mset} {ρ : Operand → Value} {v : Value} (hT : slT P t = some (e, sz, bb)) (hv : Rep w M (.sl sz xs) v)
    (hρ : ∀ o n k, (lo = some o ∨ hi = some o) → evA env o = some (.v (.int k n)) → ρ o = .int k n)
    (hl : loV lo env = some l) (hh : hiV xs.length hi env = some h) (h0 : 0 ≤ l) (h1 : l ≤ h) (h2 : h ≤ xs.length) :
    ∃ v', (Instr.sliceAt t v (lo.map ρ) (hi.map ρ) none).run P w = .ok v' w ∧ Rep w M (.sl sz ((xs.take h.toNat).drop l.toNat)) v' := by
  obtain ⟨ad, c, us, rfl, g2, g3, g4, g5⟩ := hv
  have hrun := run_sl (ρ := ρ) (w := w) (ad := ad) (cap := c) hT hρ hl hh h0 h1 h2 g2
  have hlen : ((xs.take h.toNat).drop l.toNat).length = h.toNat - l.toNat := by simp; omega
  obtain ⟨u1, v1, rfl, k1, k2, k3⟩ := g4.drop h.toNat (by omega)
  obtain ⟨u2, v2, rfl, k4, k5, k6⟩ := k2.drop l.toNat (by simp; omega)
  refine ⟨sliced ad l.toNat h.toNat c sz, hrun, ?_⟩
  unfold sliced
  refine ⟨_, c - l.toNat, v2, by rw [hlen], by omega, by omega, k6, ?_⟩
  by_cases hne : (xs.take h.toNat).drop l.toNat = []
  · exact .inl hne
  · right
    have hlt : l.toNat < h.toNat := by
      rcases Nat.lt_or_ge l.toNat h.toNat with hh | hh
      · exact hh
      · exact absurd (List.eq_nil_of_length_eq_zero (by rw [hlen]; omega)) hne
    have hxs : xs ≠ [] := by intro e; subst e; simp at hne
    obtain ⟨b', off, rfl, hc⟩ := g5.resolve_left hxs
    refine ⟨b', off + l.toNat * sz, ?_, ?_⟩
    · rw [if_neg (by omega)]
      simp [Addr.add_lit]
    · rw [← k4]
      rw [List.append_assoc] at hc
      exact hc.drop.take
theorem q_slice {e sz bb : Nat} {xs : List (List AV)} {lo hi : Option Operand} {l h : Int} (hT : slT P t = some (e, sz, bb)) (ha : evA env a = some (.sl sz xs)) (hl : loV lo env = some l) (hh : hiV xs.length hi env = some h)
    (h0 : 0 ≤ l) (h1 : l ≤ h) (h2 : h ≤ xs.length) : QOK P ⟨d, .slice t a lo hi none, ty, pos, af, gd⟩ env (.sl sz ((xs.take h.toNat).drop l.toNat)) :=
  q_of fun w s ρ hs hr => by
    obtain ⟨v', g1, g2⟩ := sl_rep (env := env) (ρ := ρ) hT (hr.1 a (by simp [Op.operands]) _ ha) (fun o n k ho he => hr.1 o (by rcases ho with rfl | rfl <;> simp [Op.operands]) _ he) hl hh h0 h1 h2
    exact ⟨v', by simp [execOp, g1], g2⟩
theorem q_sliceX {e sz bb : Nat} {xs : List (List AV)} {lo hi : Option Operand} {l h : Int} (hT : slT P t = some (e, sz, bb)) (ha : evA env a = some (.slx sz xs)) (hl : loV lo env = some l) (hh : hiV xs.length hi env = some h)
    (h0 : 0 ≤ l) (h1 : l ≤ h) (h2 : h ≤ xs.length) : QOK P ⟨d, .slice t a lo hi none, ty, pos, af, gd⟩ env (.sl sz ((xs.take h.toNat).drop l.toNat)) :=
  q_of fun w s ρ hs hr => by
    obtain ⟨v', g1, g2⟩ := sl_rep (env := env) (ρ := ρ) hT (ale_slx sz xs w _ _ (hr.1 a (by simp [Op.operands]) _ ha)) (fun o n k ho he => hr.1 o (by rcases ho with rfl | rfl <;> simp [Op.operands]) _ he) hl hh h0 h1 h2
    exact ⟨v', by simp [execOp, g1], g2⟩
theorem q_sliceH {e sz bb kb m : Nat} {hi : Option Operand} {h : Int} (hT : slT P t = some (e, sz, bb)) (ha : evA env a = some (.hdr kb sz m)) (hh : hiV m hi env = some h)
    (h0 : 0 ≤ h) (h2 : h ≤ m) : QOK P ⟨d, .slice t a none hi none, ty, pos, af, gd⟩ env (.hdr kb sz h.toNat) :=
  q_of fun w s ρ hs hr => by
    obtain ⟨cap, e', g1, g2, g3, g4⟩ := hr.1 a (by simp [Op.operands]) _ ha
    have hrun := run_sl (ρ := ρ) (w := w) (ad := some ⟨kb, 0, none⟩) (cap := cap) (lo := none) hT (fun o n k ho he => hr.1 o (by rcases ho with ho | rfl <;> simp_all [Op.operands]) _ he) rfl hh (Int.le_refl 0) h0 h2 g2
    simp only [Option.map_none, Int.toNat_zero] at hrun
    refine ⟨sliced (some ⟨kb, 0, none⟩) 0 h.toNat cap sz, by simp [execOp, g1, hrun], cap, e', ?_, by omega, g3, g4⟩
    unfold sliced
    by_cases hc : cap = 0
    · subst hc; simp
    · simp [Addr.add]
theorem e_eqnil {e sz bb : Nat} {xs : List (List AV)} (hT : slT P t = some (e, sz, bb)) (ha : evA env a = some (.sl sz xs)) (h : ∀ p : Bool, (p = true → xs = []) → K (.v (.bool p)) s) :
    EffOK P ⟨d, .binOp .eql t a (.const (.slice none 0 0)) t2, ty, pos, af, gd⟩ env s K := by
  intro w ρ hs hr
  obtain ⟨ad, c, us, g1, g2, g3, g4, g5⟩ := hr.1 a (by simp [Op.operands]) _ ha
  have hb : ρ (.const (.slice none 0 0)) = .slice none 0 0 := hr.2 _
  obtain ⟨hu, _⟩ := slT_spec hT
  have hrun : (execOp ρ ⟨d, .binOp .eql t a (.const (.slice none 0 0)) t2, ty, pos, af, gd⟩).run P w = .ok (.value (.bool ad.isNone)) w := by
    have hb' : binOp .eql t (.slice ad xs.length c) (.slice none 0 0) = (do pure (.bool (← Op.equal t (.slice ad xs.length c) (.slice none 0 0)))) := rfl
    have hg : (eqGuard .eql t a (.const (.slice none 0 0)) (.slice ad xs.length c) (.slice none 0 0)).run P w = .ok () w := by simp [eqGuard]
    have he : (Op.equal t (.slice ad xs.length c) (.slice none 0 0)).run P w = .ok ad.isNone w := by
      have key : ∀ n, (Op.equalIn (n + 1) t (.slice ad xs.length c) (.slice none 0 0)).run P w = .ok ad.isNone w := by
        intro n
        simp only [Op.equalIn]
        cases ad <;> simp [run_underlying hu]
      exact key 9999
    simp only [execOp, g1, hb, hb', Sem.run_bind, Sem.run_pure, Result.andThen_ok, he, hg]
  rw [hrun]
  refine ⟨.v (.bool ad.isNone), s, rfl, hs, Fr.refl _ _, h _ fun hp => ?_⟩
  rcases g5 with g5 | ⟨b', off, rfl, _⟩
  · exact g5
  · simp at hp
theorem q_indexS {z : ByteArray} {k : IntKind} {n : Int} {u : UInt8} (hT : isSt P t = true) (ha : evA env a = some (.v (.string z))) (hb : evA env b = some (.v (.int k n))) (h0 : 0 ≤ n) (hu : z[n.toNat]? = some u) :
    QOK P ⟨d, .index t a b, ty, pos, af, gd⟩ env (.v (.int .u8 u.toNat)) :=
  q_of fun w s ρ hs hr => by
    have h1 : ρ a = _ := hr.1 a (by simp [Op.operands]) _ ha
    have h2 : ρ b = _ := hr.1 b (by simp [Op.operands]) _ hb
    have hut : P.underlying t = some .string := by unfold isSt at hT; split at hT <;> simp_all
    refine ⟨.int .u8 u.toNat, ?_, rfl⟩
    simp [execOp, h1, h2, Instr.index, asIntOf, run_underlying hut, h0, hu]
def arT (P : Program) (t : TypeId) : Option (Nat × TypeId × Nat) := match P.underlying t with
  | some (.array n e) => (P.info? e).map fun i => (n, e, i.size)
  | _ => none
theorem q_indexA {n e sz : Nat} {cs : List AV} {k : IntKind} {m : Int} (hT : arT P t = some (n, e, sz)) (he : isSc P e = true) (ha : evA env a = some (.agg cs)) (hb : evA env b = some (.v (.int k m))) (h0 : 0 ≤ m) (h1 : m < n) (hx : nth cs m.toNat = some x) :
    QOK P ⟨d, .index t a b, ty, pos, af, gd⟩ env x :=
  q_of fun w s ρ hs hr => by
    obtain ⟨us, g1, g2⟩ := hr.1 a (by simp [Op.operands]) _ ha
    have h2 : ρ b = _ := hr.1 b (by simp [Op.operands]) _ hb
    obtain ⟨u, g3, g4⟩ := RepL.get g2 _ _ hx
    unfold arT at hT
    cases hu : P.underlying t with
    | none => simp [hu] at hT
    | some du =>
      cases du with
      | array n' e' =>
        simp only [hu] at hT
        cases hi : P.info? e' with
        | none => simp [hi] at hT
        | some i =>
          simp only [hi, Option.map_some, Option.some.injEq, Prod.mk.injEq] at hT
          obtain ⟨rfl, rfl, _⟩ := hT
          refine ⟨u, ?_, g4⟩
          have hs1 := size_sc he w
          have hlt := (List.getElem?_eq_some_iff.1 g3).1
          have g3' : us[m.toNat]'hlt = u := (List.getElem?_eq_some_iff.1 g3).2
          simp [execOp, g1, h2, Instr.index, asIntOf, run_underlying hu, h0, h1, hs1, part, isAgg_sc he, hlt, g3']
      | _ => simp [hu] at hT
theorem q_fieldV {f o n : Nat} {cs : List AV} (hT : foA P t f = some (o, n)) (hs : ∀ fs z, P.underlying t = some (.struct fs) → fs[f]? = some z → isSc P z.type = true) (ha : evA env a = some (.agg cs)) (hx : nth cs o = some x) :
    QOK P ⟨d, .field t a f, ty, pos, af, gd⟩ env x :=
  q_of fun w s ρ hs' hr => by
    obtain ⟨us, g1, g2⟩ := hr.1 a (by simp [Op.operands]) _ ha
    obtain ⟨u, g3, g4⟩ := RepL.get g2 _ _ hx
    obtain ⟨fs, z, i, k1, k2, k3, k4, k5⟩ := foA_spec hT
    have hlt := (List.getElem?_eq_some_iff.1 g3).1
    have g3' : us[o]'hlt = u := (List.getElem?_eq_some_iff.1 g3).2
    refine ⟨u, ?_, g4⟩
    simp [execOp, g1, Instr.field, run_underlying k1, k2, asAgg, part, isAgg_sc (hs fs z k1 k2), k4, hlt, g3']
theorem results_cell' {fn : Func} {p : Tmp} {ty : TypeId} (h : fn.results = #[.cell p ty]) {n : Nat} (hT : agN P ty = some n) (tmps : Array Value) (w : World) (g : Nat) (t : TypeId) (cs : Array Value)
    (hp : tmps.getD p undef = .pointer (some ⟨g, 0, none⟩)) (hg : w.heap[g]? = some (.cells cs t (0, 0))) (hn : cs.size = n) : (results fn tmps).run P w = .ok (.agg cs) w := by
  have hp' : tmps[p]?.getD undef = .pointer (some ⟨g, 0, none⟩) := by simpa using hp
  have hl := run_loadCells_list (P := P) w ⟨g, 0, none⟩ cs.toList fun j z hj => by
    rw [Addr.add_lit, Nat.zero_add, cell_res hg]; simpa using hj
  rw [Array.length_toList, hn] at hl
  simp [results, h, hp', asAddr, loadVar, isAgg_ag hT, hl]
theorem retC {N : Nat} {fn : Func} {s' : St} {p n k : Nat} {cs : List AV} {r : AV} (hres : fn.results = #[.cell p ty]) (hT : agN P ty = some n) (hx : env p = some (ptv k 0)) (hk : s k = some (.cells cs)) (hn : cs.length = n)
    (hl : Le s' s) (hc : Cv s s' (.agg cs) r) (h : K r s') : RetA P N fn K env s := by
  intro cx w a hs he
  have h1 : a.tmps.getD p undef = _ := (he.slot p _ hx).2
  obtain ⟨cur, e, h2, h3⟩ := hs.ok k _ hk
  have hcl : cur.size = n := by have := RepL.length h3; simpa [hn] using this
  exact ⟨_, results_cell' hres hT _ w k e cur h1 h2 hcl, r, s', hc w _ hs ⟨cur.toList, by simp, h3⟩, hs.le hl, Fr.of_le hl, h⟩
end
end Go.Vc

set_option linter.unusedVariables false
set_option linter.unusedSimpArgs false
namespace Go.Vc
def keyA : AV → List Nat
  | .hdr k _ _ => [k]
  | _ => []
def Opened : List OV → St → List AV → St → Prop
  | [], s, xs, s' => xs = [] ∧ s' = s
  | .a x :: cs, s, xs, s' => ∃ ys, xs = x :: ys ∧ Opened cs s ys s'
  | .r e sz rs :: cs, s, xs, s' => ∃ x ys s1, xs = x :: ys ∧ OwnSt s x e sz rs s1 ∧ Opened cs s1 ys s'
theorem upd_era {β : Type} (f : Nat → Option β) (k : Nat) (x : β) : upd (era f k) k x = upd f k x := by
  funext i
  by_cases e : i = k
  · subst e; rw [upd_same, upd_same]
  · rw [upd_ne _ _ e, upd_ne _ _ e, era_ne _ e]
theorem upd_self {β : Type} (f : Nat → Option β) (k : Nat) (x : β) (h : f k = some x) : upd f k x = f := by
  funext i
  by_cases e : i = k
  · subst e; rw [upd_same, h]
  · rw [upd_ne _ _ e]
theorem Rep.congr {w : World} {M M' : Mset} (h : ∀ b, M' b → M b) {x : AV} {y : Value} (hr : Rep w M x y) : Rep w M' x y :=
  Rep.mono ⟨rfl, rfl, rfl, Nat.le_refl _, fun b _ hm => ⟨rfl, fun hm' => hm (h b hm')⟩, fun _ _ => rfl⟩ x y hr
theorem ResOK.congr {w : World} {M M' : Mset} (h : ∀ b, M' b → M b) {k : Nat} {r : Res} (hr : ResOK w M k r) : ResOK w M' k r :=
  ResOK.mono ⟨rfl, rfl, rfl, Nat.le_refl _, fun b _ hm => ⟨rfl, fun hm' => hm (h b hm')⟩, fun _ _ => rfl⟩ hr fun _ _ => rfl
structure Sat0 (w : World) (s : St) (M : Mset) : Prop where
  ok : ∀ k r, s k = some r → ResOK w M k r
  disj : ∀ k r k' r' b, s k = some r → s k' = some r' → fp k r b → fp k' r' b → k = k'
  lt : ∀ b, Mut s b → b < w.heap.size
theorem Sat.of0 {w : World} {s : St} {M : Mset} (h : Sat0 w s M) (hm : ∀ b, Mut s b → M b) : Sat w s :=
  ⟨fun k r hk => (h.ok k r hk).congr hm, h.disj, h.lt⟩
theorem open_list {w : World} {M : Mset} : ∀ (cs : List OV) (us : List Value) (G : List Nat) (s : St), OVsOK w M cs us G → Sat0 w s M → (∀ b, b ∈ G → ¬ Mut s b) → (∀ b, b ∈ G → s b = none) →
    ∃ xs s', Opened cs s xs s' ∧ RepL w M xs us ∧ Sat0 w s' M ∧ (∀ b, Mut s' b ↔ Mut s b ∨ b ∈ G) ∧ (∀ b, s b = none → b ∉ G → s' b = none)
  | [], us, G, s, ⟨h1, h2⟩, hs, _, _ => by subst h1 h2; exact ⟨[], s, ⟨rfl, rfl⟩, rfl, hs, fun b => by simp, fun b h _ => h⟩
  | .a x :: cs, us, G, s, ⟨u, us', h1, h2, h3⟩, hs, hg, hn => by
    obtain ⟨xs, s', g1, g2, g3, g4, g5⟩ := open_list cs us' G s h3 hs hg hn
    exact ⟨x :: xs, s', ⟨xs, rfl, g1⟩, ⟨u, us', h1, h2, g2⟩, g3, g4, g5⟩
  | .r e sz rs :: cs, us, G, s, ⟨u, us', h1, h2⟩, hs, hg, hn => by
    rcases h2 with ⟨rfl, ⟨ad, rfl⟩, h3⟩ | ⟨g, cap, G', rfl, hrow, rfl, hng, h3⟩
    · obtain ⟨xs, s', g1, g2, g3, g4, g5⟩ := open_list cs us' G s h3 hs hg hn
      exact ⟨.slx sz [] :: xs, s', ⟨_, xs, s, rfl, OwnSt.slx s e sz, g1⟩, ⟨_, us', h1, ⟨ad, [], rfl, Nat.zero_le _, rfl, .inl rfl⟩, g2⟩, g3, g4, g5⟩
    · obtain ⟨cur, k1, k2, k3, k4, k5⟩ := hrow
      have hlt : g < w.heap.size := (Array.getElem?_eq_some_iff.1 k1).1
      have hgn : s g = none := hn g (by simp)
      have hgm : ¬ Mut s g := hg g (by simp)
      have hmut : ∀ b, Mut (upd s g (.arr e sz rs)) b ↔ Mut s b ∨ b = g := by
        intro b
        constructor
        · rintro ⟨k, r, h4, h5⟩
          by_cases e' : k = g
          · subst e'; rw [upd_same] at h4; cases h4; exact .inr h5
          · rw [upd_ne _ _ e'] at h4; exact .inl ⟨k, r, h4, h5⟩
        · rintro (⟨k, r, h4, h5⟩ | rfl)
          · exact ⟨k, r, by rw [upd_ne _ _ (fun e' => by subst e'; rw [hgn] at h4; cases h4)]; exact h4, h5⟩
          · exact ⟨b, _, upd_same _ _ _, rfl⟩
      have hs1 : Sat0 w (upd s g (.arr e sz rs)) M := by
        refine ⟨fun k r hk => ?_, fun k r k' r' b h4 h5 h6 h7 => ?_, fun b hb => ?_⟩
        · by_cases e' : k = g
          · subst e'; rw [upd_same] at hk; cases hk; exact ⟨cap, cur, k1, k2, k3, k4, k5⟩
          · rw [upd_ne _ _ e'] at hk; exact hs.ok k r hk
        · by_cases e1 : k = g <;> by_cases e2 : k' = g
          · rw [e1, e2]
          · subst e1; rw [upd_same] at h4; cases h4; rw [upd_ne _ _ e2] at h5
            cases h6; exact absurd ⟨k', r', h5, h7⟩ hgm
          · subst e2; rw [upd_same] at h5; cases h5; rw [upd_ne _ _ e1] at h4
            cases h7; exact absurd ⟨k, r, h4, h6⟩ hgm
          · rw [upd_ne _ _ e1] at h4; rw [upd_ne _ _ e2] at h5; exact hs.disj k r k' r' b h4 h5 h6 h7
        · rcases (hmut b).1 hb with hb | rfl
          · exact hs.lt b hb
          · exact hlt
      obtain ⟨xs, s', g1, g2, g3, g4, g5⟩ := open_list cs us' G' (upd s g (.arr e sz rs)) h3 hs1
        (fun b hb hm => by
          rcases (hmut b).1 hm with hm | rfl
          · exact hg b (by simp [hb]) hm
          · exact hng hb)
        (fun b hb => by
          have hne : b ≠ g := fun e' => hng (e' ▸ hb)
          rw [upd_ne _ _ hne]; exact hn b (by simp [hb]))
      refine ⟨.hdr g sz rs.length :: xs, s', ⟨_, xs, _, rfl, .inr ⟨g, rfl, hgn, rfl⟩, g1⟩, ⟨_, us', h1, ⟨cap, e, rfl, k3, k4, ?_⟩, g2⟩, g3, fun b => ?_, fun b hb hnb => ?_⟩
      · simp [World.shape?, k1, k2]
      · rw [g4, hmut]; simp [or_assoc]
      · have hne : b ≠ g := fun e' => hnb (by simp [e'])
        exact g5 b (by rw [upd_ne _ _ hne]; exact hb) (fun hm => hnb (by simp [hm]))
theorem Mut.era {s : St} {k : Nat} {r : Res} (hk : s k = some r) (b : Nat) : Mut s b ↔ Mut (era s k) b ∨ fp k r b := by
  constructor
  · rintro ⟨j, rj, h1, h2⟩
    by_cases e : j = k
    · subst e; rw [hk] at h1; cases h1; exact .inr h2
    · exact .inl ⟨j, rj, by rw [era_ne _ e]; exact h1, h2⟩
  · rintro (h | h)
    · exact h.le (Le.era s k)
    · exact ⟨k, r, hk, h⟩
theorem Mut.upd_none {s : St} {k : Nat} {r : Res} (hk : s k = none) (b : Nat) : Mut (upd s k r) b ↔ Mut s b ∨ fp k r b := by
  constructor
  · rintro ⟨j, rj, h1, h2⟩
    by_cases e : j = k
    · subst e; rw [upd_same] at h1; cases h1; exact .inr h2
    · rw [upd_ne _ _ e] at h1; exact .inl ⟨j, rj, h1, h2⟩
  · rintro (⟨j, rj, h1, h2⟩ | h)
    · exact ⟨j, rj, by rw [upd_ne _ _ (fun e => by subst e; rw [hk] at h1; cases h1)]; exact h1, h2⟩
    · exact ⟨k, r, upd_same _ _ _, h⟩
theorem open_obj {w : World} {s : St} {p : Nat} {F : List Nat} {cs : List OV} (hs : Sat w s) (hp : s p = some (.obj F cs)) :
    ∃ xs s', Opened cs (era s p) xs s' ∧ s' p = none ∧ Sat w (upd s' p (.cells xs)) ∧ ∀ b, Mut (upd s' p (.cells xs)) b ↔ Mut s b := by
  obtain ⟨cur, t, G, h1, rfl, h3, h4⟩ := hs.ok p _ hp
  have hs0 : Sat0 w (era s p) (Mut s) := ⟨fun k r hk => hs.ok k r (Le.era s p k r hk), fun k r k' r' b h5 h6 => hs.disj k r k' r' b (Le.era s p k r h5) (Le.era s p k' r' h6), fun b hb => hs.lt b (hb.le (Le.era s p))⟩
  have hdis : ∀ b, fp p (.obj (p :: G) cs) b → ¬ Mut (era s p) b := by
    rintro b hb ⟨j, rj, h5, h6⟩
    have := hs.disj j rj p _ b (Le.era s p j rj h5) hp h6 hb
    subst this
    rw [era_same] at h5; cases h5
  have hnone : ∀ b, b ∈ G → era s p b = none := by
    intro b hb
    cases hbs : era s p b with
    | none => rfl
    | some r =>
      exfalso
      refine hdis b (by simp [fp, hb]) ⟨b, r, hbs, ?_⟩
      cases r with
      | cells _ => rfl
      | arr _ _ _ => rfl
      | map _ => rfl
      | raw _ => rfl
      | obj F' cs' =>
        obtain ⟨_, _, G', _, rfl, _⟩ := hs.ok b _ (Le.era s p b _ hbs)
        simp [fp]
  obtain ⟨xs, s', g1, g2, g3, g4, g5⟩ := open_list cs cur.toList G (era s p) h4 hs0 (fun b hb => hdis b (by simp [fp, hb])) hnone
  have hsp : s' p = none := g5 p (era_same s p) h3
  have hmut : ∀ b, Mut (upd s' p (.cells xs)) b ↔ Mut s b := by
    intro b
    rw [Mut.upd_none hsp, g4, Mut.era hp]
    simp only [fp, List.mem_cons]
    constructor
    · rintro ((h | h) | h)
      · exact .inl h
      · exact .inr (.inr h)
      · exact .inr (.inl h)
    · rintro (h | h | h)
      · exact .inl (.inl h)
      · exact .inr h
      · exact .inl (.inr h)
  have hplt : p < w.heap.size := hs.lt p ⟨p, _, hp, by simp [fp]⟩
  refine ⟨xs, s', g1, hsp, ?_, hmut⟩
  have hpm : ¬ Mut s' p := by
    rw [g4]
    rintro (h | h)
    · exact hdis p (by simp [fp]) h
    · exact h3 h
  refine Sat.of0 (M := Mut s) ⟨fun k r hk => ?_, fun k r k' r' b h5 h6 h7 h8 => ?_, fun b hb => hs.lt b ((hmut b).1 hb)⟩ (fun b hb => (hmut b).1 hb)
  · by_cases e : k = p
    · subst e; rw [upd_same] at hk; cases hk; exact ⟨cur, t, h1, g2⟩
    · rw [upd_ne _ _ e] at hk; exact g3.ok k r hk
  · by_cases e1 : k = p <;> by_cases e2 : k' = p
    · rw [e1, e2]
    · subst e1; rw [upd_same] at h5; cases h5; rw [upd_ne _ _ e2] at h6
      cases h7; exact absurd ⟨k', r', h6, h8⟩ hpm
    · subst e2; rw [upd_same] at h6; cases h6; rw [upd_ne _ _ e1] at h5
      cases h8; exact absurd ⟨k, r, h5, h7⟩ hpm
    · rw [upd_ne _ _ e1] at h5; rw [upd_ne _ _ e2] at h6; exact g3.disj k r k' r' b h5 h6 h7 h8
theorem shut_list {w : World} {M : Mset} : ∀ (cs : List OV) (xs : List AV) (us : List Value) (s s' : St), Opened cs s xs s' → RepL w M xs us → (∀ k r, s' k = some r → ResOK w M k r) →
    ∃ G, OVsOK w M cs us G ∧ Le s s' ∧ (∀ b, b ∈ G → s b = none) ∧ (∀ b, Mut s' b ↔ Mut s b ∨ b ∈ G) ∧ (∀ b, b ∈ G → ∃ e sz rs, s' b = some (.arr e sz rs))
  | [], xs, us, s, s', ⟨h1, h2⟩, hr, _ => by
    subst h1 h2
    cases hr; exact ⟨[], ⟨rfl, rfl⟩, Le.refl _, by simp, fun b => by simp, by simp⟩
  | .a x :: cs, xs, us, s, s', hop, hr, hok => by
    obtain ⟨ys, rfl, ho⟩ := hop
    obtain ⟨u, us', rfl, h2, h3⟩ := hr
    obtain ⟨G, g1, g2, g3, g4, g5⟩ := shut_list cs ys us' s s' ho h3 hok
    exact ⟨G, ⟨u, us', rfl, h2, g1⟩, g2, g3, g4, g5⟩
  | .r e sz rs :: cs, xs, us, s, s', hop, hr, hok => by
    obtain ⟨x, ys, s1, rfl, hown, ho⟩ := hop
    obtain ⟨u, us', rfl, h2, h3⟩ := hr
    obtain ⟨G, g1, g2, g3, g4, g5⟩ := shut_list cs ys us' s1 s' ho h3 hok
    rcases hown with ⟨rfl, rfl, hx⟩ | ⟨k, rfl, hk, rfl⟩
    · refine ⟨G, ⟨u, us', rfl, .inl ⟨rfl, ?_, g1⟩⟩, g2, g3, g4, g5⟩
      rcases hx with rfl | rfl
      · cases h2; exact ⟨none, rfl⟩
      · obtain ⟨ad, _, rfl, _⟩ := h2; exact ⟨ad, rfl⟩
    · have hk' : s' k = some (.arr e sz rs) := g2 k _ (upd_same _ _ _)
      have hkG : k ∉ G := fun hm => by have := g3 k hm; rw [upd_same] at this; cases this
      obtain ⟨cap, e', rfl, k2, k3, k4⟩ := h2
      obtain ⟨cap', cur, q1, q2, q3, q4, q5⟩ := hok k _ hk'
      refine ⟨k :: G, ⟨_, us', rfl, .inr ⟨k, cap, G, rfl, ⟨cur, q1, ?_, k2, k3, q5⟩, rfl, hkG, g1⟩⟩, ?_, ?_, ?_, ?_⟩
      · have : w.shape? k = some (e, cur.size) := by simp [World.shape?, q1]
        rw [k4] at this
        injection this with this
        injection this with _ this
        exact this.symm
      · exact Le.trans (OwnSt.le (.inr ⟨k, rfl, hk, rfl⟩ : OwnSt s (.hdr k sz rs.length) e sz rs _)) g2
      · intro b hb
        rcases List.mem_cons.1 hb with rfl | hb
        · exact hk
        · have := g3 b hb
          rwa [upd_ne _ _ (fun e' => hkG (by rw [← e']; exact hb))] at this
      · intro b
        rw [g4, Mut.upd_none hk]
        simp only [fp, List.mem_cons, or_assoc]
      · intro b hb
        rcases List.mem_cons.1 hb with rfl | hb
        · exact ⟨e, sz, rs, hk'⟩
        · exact g5 b hb
theorem shut_obj {w : World} {s s' : St} {p : Nat} {cs : List OV} {xs : List AV} (ho : Opened cs s xs s') (hp : s' p = none) (hs : Sat w (upd s' p (.cells xs))) :
    ∃ F, Sat w (upd s p (.obj F cs)) ∧ ∀ b, Mut (upd s p (.obj F cs)) b ↔ Mut (upd s' p (.cells xs)) b := by
  obtain ⟨cur, t, h1, h2⟩ := hs.ok p _ (upd_same _ _ _)
  have hok : ∀ k r, s' k = some r → ResOK w (Mut (upd s' p (.cells xs))) k r := fun k r hk => hs.ok k r (by rw [upd_ne _ _ (fun e => by subst e; rw [hp] at hk; cases hk)]; exact hk)
  obtain ⟨G, g1, g2, g3, g4, g5⟩ := shut_list cs xs cur.toList s s' ho h2 hok
  have hpG : p ∉ G := fun hm => by obtain ⟨e, sz, rs, h⟩ := g5 p hm; rw [hp] at h; cases h
  have hsp : s p = none := by
    cases h : s p with
    | none => rfl
    | some r => rw [g2 p r h] at hp; cases hp
  have hmut : ∀ b, Mut (upd s p (.obj (p :: G) cs)) b ↔ Mut (upd s' p (.cells xs)) b := by
    intro b
    rw [Mut.upd_none hsp, Mut.upd_none hp, g4]
    simp only [fp, List.mem_cons]
    constructor
    · rintro (h | h | h)
      · exact .inl (.inl h)
      · exact .inr h
      · exact .inl (.inr h)
    · rintro ((h | h) | h)
      · exact .inl h
      · exact .inr (.inr h)
      · exact .inr (.inl h)
  refine ⟨p :: G, ?_, hmut⟩
  have hin : ∀ k r b, s k = some r → fp k r b → b ∉ (p :: G) := by
    intro k r b hk hb hm
    have hk' : (upd s' p (.cells xs)) k = some r := by
      have hne : k ≠ p := fun e => by subst e; rw [hsp] at hk; cases hk
      rw [upd_ne _ _ hne]; exact g2 k r hk
    rcases List.mem_cons.1 hm with rfl | hm
    · have := hs.disj k r b _ b hk' (upd_same _ _ _) hb rfl
      subst this; rw [hsp] at hk; cases hk
    · obtain ⟨e, sz, rs, h⟩ := g5 b hm
      have h' : (upd s' p (.cells xs)) b = some (.arr e sz rs) := by rw [upd_ne _ _ (fun e' => hpG (by rw [← e']; exact hm))]; exact h
      have := hs.disj k r b _ b hk' h' hb rfl
      subst this; rw [g3 k hm] at hk; cases hk
  refine Sat.of0 (M := Mut (upd s' p (.cells xs))) ⟨fun k r hk => ?_, fun k r k' r' b h5 h6 h7 h8 => ?_, fun b hb => hs.lt b ((hmut b).1 hb)⟩ (fun b hb => (hmut b).1 hb)
  · by_cases e : k = p
    · subst e; rw [upd_same] at hk; cases hk; exact ⟨cur, t, G, h1, rfl, hpG, g1⟩
    · rw [upd_ne _ _ e] at hk; exact hok k r (g2 k r hk)
  · by_cases e1 : k = p <;> by_cases e2 : k' = p
    · rw [e1, e2]
    · subst e1; rw [upd_same] at h5; cases h5; rw [upd_ne _ _ e2] at h6
      exact absurd h7 (hin k' r' b h6 h8)
    · subst e2; rw [upd_same] at h6; cases h6; rw [upd_ne _ _ e1] at h5
      exact absurd h8 (hin k r b h5 h7)
    · rw [upd_ne _ _ e1] at h5; rw [upd_ne _ _ e2] at h6
      have t1 : (upd s' p (.cells xs)) k = some r := by rw [upd_ne _ _ e1]; exact g2 k r h5
      have t2 : (upd s' p (.cells xs)) k' = some r' := by rw [upd_ne _ _ e2]; exact g2 k' r' h6
      exact hs.disj k r k' r' b t1 t2 h7 h8
theorem Fr.same {w : World} {M M' : Mset} (h : ∀ b, M' b → M b) : Fr w M w M' := ⟨rfl, rfl, rfl, Nat.le_refl _, fun b _ hm => ⟨rfl, fun hm' => hm (h b hm')⟩, fun _ _ => rfl⟩
section
variable {P : Program} {N : Nat} {Q : EQ} {env : Env} {s : St}
theorem vc_open {c : Code} {p : Nat} {F : List Nat} {cs : List OV} (hp : s p = some (.obj F cs))
    (h : ∀ xs s', Opened cs (era s p) xs s' → s' p = none → VC P N c Q env (upd s' p (.cells xs))) : VC P N c Q env s := by
  intro cx w a hs he
  obtain ⟨xs, s', h1, h2, h3, h4⟩ := open_obj hs hp
  have hf : Fr w (Mut s) w (Mut (upd s' p (.cells xs))) := Fr.same fun b hb => (h4 b).1 hb
  exact wpIn_mono (h xs s' h1 h2 cx w a h3 (he.mono hf)) fun e a2 w2 hb => Bh.trans hf hb
theorem ret_shut {fn : Func} {K : AV → St → Prop} {s0 s' : St} {p : Nat} {cs : List OV} {xs : List AV} (ho : Opened cs s0 xs s') (hp : s' p = none)
    (h : ∀ F, RetA P N fn K env (upd s0 p (.obj F cs))) : RetA P N fn K env (upd s' p (.cells xs)) := by
  intro cx w a hs he
  obtain ⟨F, h1, h2⟩ := shut_obj ho hp hs
  have hf : Fr w (Mut (upd s' p (.cells xs))) w (Mut (upd s0 p (.obj F cs))) := Fr.same fun b hb => (h2 b).1 hb
  obtain ⟨v, g1, r, s'', g2, g3, g4, g5⟩ := h F cx w a h1 (he.mono hf)
  exact ⟨v, g1, r, s'', g2, g3, hf.trans g4, g5⟩
end
end Go.Vc

set_option linter.unusedVariables false
namespace Go.Vc
section
variable {P : Program} {N : Nat} {Q : EQ} {env : Env} {s : St}
def qm (m : Nat) : Nat → Bool := fun i => Nat.testBit m i
theorem vc_regionP {id : Nat} {l : List Oper} (qs : Nat → Bool) (is : List Nat) (hN : dstOK N l = true) (hi : List.range l.length = is)
    (h : vcI P l qs (Q .normal) is env s) : VC P N (.region id l.toArray false) Q env s :=
  vc_region qs hN (by rw [hi]; exact h)
theorem vc_seqR {x y : Code} (R : Env → St → Prop) (h : VC P N x (thenQ R Q) env s) (k : ∀ env s, R env s → VC P N y Q env s) : VC P N (.seq x y) Q env s :=
  vc_seq (VC.mono (fun e env s hh => by cases e <;> first | exact k _ _ hh | exact hh) h)
theorem vc_cond_t {c : Operand} {x y : Code} (hc : evA env c = some (.v (.bool true))) (ht : VC P N x Q env s) : VC P N (.cond c x y) Q env s :=
  vc_cond hc (fun _ => ht) (fun h => by cases h)
theorem vc_cond_f {c : Operand} {x y : Code} (hc : evA env c = some (.v (.bool false))) (hf : VC P N y Q env s) : VC P N (.cond c x y) Q env s :=
  vc_cond hc (fun h => by cases h) (fun _ => hf)
theorem vc_condD {c : Operand} {x y : Code} {p : Prop} [Decidable p] (hc : evA env c = some (.v (.bool (decide p)))) (ht : p → VC P N x Q env s) (hf : ¬ p → VC P N y Q env s) : VC P N (.cond c x y) Q env s :=
  vc_cond hc (fun h => ht (of_decide_eq_true h)) (fun h => hf (of_decide_eq_false h))
end
abbrev AV.int (n : Int) : AV := .v (.int .i64 n)
abbrev AV.bool (p : Bool) : AV := .v (.bool p)
abbrev nilS : AV := .v (.slice none 0 0)
def eI (n : Int) : List AV := [.int n]
abbrev ints (l : List Int) : AV := .sl 1 (l.map eI)
theorem lenM {α : Type} {f : α → List AV} {l : List α} {sz : Nat} : lenA (.sl sz (l.map f)) = some l.length := by simp [lenA]
theorem lenMx {α : Type} {f : α → List AV} {l : List α} {sz : Nat} : lenA (.slx sz (l.map f)) = some l.length := by simp [lenA]
theorem nthM {α : Type} [Inhabited α] {f : α → List AV} {l : List α} {i : Nat} (h : i < l.length) : nth (l.map f) i = some (f (l.getD i default)) := by
  rw [nth_eq]; simp [h]
theorem nthL {l : List (List AV)} {i : Nat} (h : i < l.length) : nth l i = some (l.getD i []) := by
  rw [nth_eq]; simp [h]
theorem rowsC1_ints (l : List Int) : rowsC1 (l.map eI) := by
  intro e he c hc
  obtain ⟨n, _, rfl⟩ := List.mem_map.1 he
  simp [eI] at hc
  subst hc; rfl
theorem rowsC1_one {e : List AV} (h : e.all isC1 = true) : rowsC1 [e] := by
  intro e' he c hc
  simp at he; subst he
  exact List.all_eq_true.1 h c hc
theorem map_eI_snoc (l : List Int) (n : Int) : l.map eI ++ [eI n] = (l ++ [n]).map eI := by simp
abbrev OwnI (s0 : St) (x : AV) (e : Nat) (l : List Int) (s : St) : Prop := OwnSt s0 x e 1 (l.map eI) s
end Go.Vc

set_option linter.unusedVariables false
namespace Go.Vc
theorem OwnSt.swap {s0 s1 s2 : St} {x y : AV} {e sz e' sz' : Nat} {xs ys : List (List AV)} (h1 : OwnSt s0 x e sz xs s1) (h2 : OwnSt s1 y e' sz' ys s2) :
    ∃ t, OwnSt s0 y e' sz' ys t ∧ OwnSt t x e sz xs s2 := by
  rcases h1 with ⟨a1, rfl, a2⟩ | ⟨k, rfl, hk, rfl⟩
  · exact ⟨s2, h2, .inl ⟨a1, rfl, a2⟩⟩
  · rcases h2 with ⟨b1, rfl, b2⟩ | ⟨j, rfl, hj, rfl⟩
    · exact ⟨s0, .inl ⟨b1, rfl, b2⟩, .inr ⟨k, rfl, hk, rfl⟩⟩
    · have hne : j ≠ k := fun e => by subst e; rw [upd_same] at hj; cases hj
      rw [upd_ne _ _ hne] at hj
      exact ⟨upd s0 j (.arr e' sz' ys), .inr ⟨j, rfl, hj, rfl⟩, .inr ⟨k, rfl, by rw [upd_ne _ _ hne.symm]; exact hk, upd_comm s0 hne.symm _ _⟩⟩
theorem OwnSt.add {s0 s : St} {x : AV} {e sz p : Nat} {xs : List (List AV)} {r : Res} (h : OwnSt s0 x e sz xs s) (hp : s p = none) : OwnSt (upd s0 p r) x e sz xs (upd s p r) := by
  rcases h with ⟨h1, rfl, h2⟩ | ⟨k, h1, hk, rfl⟩
  · exact .inl ⟨h1, rfl, h2⟩
  · have hne : k ≠ p := fun e => by subst e; rw [upd_same] at hp; cases hp
    exact .inr ⟨k, h1, by rw [upd_ne _ _ hne]; exact hk, upd_comm s0 hne _ _⟩
theorem OwnSt.rem {s0 s : St} {x : AV} {e sz p : Nat} {xs : List (List AV)} {r : Res} (h : OwnSt (upd s0 p r) x e sz xs s) (hp : s0 p = none) :
    ∃ s', OwnSt s0 x e sz xs s' ∧ s = upd s' p r ∧ s' p = none := by
  rcases h with ⟨h1, rfl, h2⟩ | ⟨k, h1, hk, rfl⟩
  · exact ⟨s0, .inl ⟨h1, rfl, h2⟩, rfl, hp⟩
  · have hne : k ≠ p := fun e => by subst e; rw [upd_same] at hk; cases hk
    rw [upd_ne _ _ hne] at hk
    exact ⟨upd s0 k (.arr e sz xs), .inr ⟨k, h1, hk, rfl⟩, upd_comm s0 hne.symm _ _, by rw [upd_ne _ _ hne.symm]; exact hp⟩
theorem OwnSt.none {s0 s : St} {x : AV} {e sz p : Nat} {xs : List (List AV)} (h : OwnSt s0 x e sz xs s) (hp : s p = none) : s0 p = none := by
  cases h' : s0 p with
  | none => rfl
  | some r => rw [h.le p r h'] at hp; cases hp
theorem OwnSt.put {s0 s : St} {x : AV} {e sz p : Nat} {xs : List (List AV)} {r r' : Res} (h : OwnSt (upd s0 p r) x e sz xs s) : OwnSt (upd s0 p r') x e sz xs (upd s p r') := by
  have := h.other (r := r') (upd_same s0 p r)
  rwa [upd_upd] at this
end Go.Vc

set_option linter.unusedVariables false
namespace Go.Vc
def hasN (l : List Nat) (i : Nat) : Bool := match l with
  | [] => false
  | j :: l => bif Nat.beq i j then true else hasN l i
def dropL (ds : List Nat) (env : Env) : Env := fun i => bif hasN ds i then none else env i
theorem dropL_le (ds : List Nat) (env : Env) : Le (dropL ds env) env := fun i x h => by
  unfold dropL at h
  cases hh : hasN ds i <;> simp [hh] at h
  exact h
def Wk (K : Env → St → Prop) : Env → St → Prop := fun e s => ∃ e', Le e' e ∧ K e' s
theorem Wk.of {K : Env → St → Prop} {e : Env} {s : St} (h : K e s) : Wk K e s := ⟨e, Le.refl _, h⟩
theorem evA_le {e e' : Env} (h : Le e' e) {x : Operand} {y : AV} (hy : evA e' x = some y) : evA e x = some y := by
  cases x <;> first | exact h _ _ hy | exact hy
theorem OpRho.le {w : World} {M : Mset} {e e' : Env} {o : Oper} {ρ : Operand → Value} (h : Le e' e) (hr : OpRho w M e o ρ) : OpRho w M e' o ρ :=
  ⟨fun x hx y hy => hr.1 x hx y (evA_le h hy), hr.2⟩
theorem put_le {e e' : Env} (h : Le e' e) (d : Option Nat) (x : AV) : Le (put e' d x) (put e d x) := by
  cases d with
  | none => exact h
  | some d =>
    intro i y hy
    simp only [put] at hy ⊢
    by_cases hi : i = d
    · subst hi; rw [upd_same] at hy ⊢; exact hy
    · rw [upd_ne _ _ hi] at hy ⊢; exact h i y hy
theorem GdOK.le {l : List Oper} {o : Oper} {e e' : Env} {a b : Prop} (hl : Le e' e) (h : GdOK l o e' a b) : GdOK l o e a b := by
  unfold GdOK at *
  split
  · rename_i g; simp only [g] at h; exact h
  · rename_i j want g
    simp only [g] at h
    split
    · rename_i g2; simp only [g2] at h
    · rename_i t g2
      simp only [g2] at h
      obtain ⟨v, h1, h2⟩ := h
      exact ⟨v, hl _ _ h1, h2⟩
theorem vcI_le {P : Program} {l : List Oper} {qs : Nat → Bool} {K : Env → St → Prop} : ∀ (is : List Nat) (e e' : Env) (s : St), Le e' e → vcI P l qs K is e' s → vcI P l qs (Wk K) is e s
  | [], e, e', s, h, hk => ⟨e', h, hk⟩
  | i :: is, e, e', s, h, ⟨o, h1, h2⟩ => by
    refine ⟨o, h1, ?_⟩
    cases hq : qs i
    · simp only [hq, cond_false] at h2 ⊢
      refine (GdOK.le h h2).mono (fun g w ρ hs hr => ?_) (fun g => vcI_le is _ _ s (put_le h _ _) g)
      exact EffOK.mono (fun x s' hh => vcI_le is _ _ s' (put_le h _ _) hh) g w ρ hs (hr.le h)
    · simp only [hq, cond_true] at h2 ⊢
      obtain ⟨x, h3, h4⟩ := h2
      refine ⟨x, ?_, vcI_le is _ _ s (put_le h _ _) h4⟩
      cases hr : qs (i + 512) <;> rw [hr] at h3
      · exact (GdOK.le h h3).mono (fun g s w ρ hs hr => g s w ρ hs (hr.le h)) id
      · exact (GdOK.le h h3).mono (fun g w ρ hs hr => g w ρ hs (hr.le h)) id
theorem vcI_app {P : Program} {l : List Oper} {qs : Nat → Bool} {K : Env → St → Prop} {js : List Nat} : ∀ (is : List Nat) (e : Env) (s : St), vcI P l qs (vcI P l qs K js) is e s → vcI P l qs K (is ++ js) e s
  | [], _, _, h => h
  | i :: is, e, s, ⟨o, h1, h2⟩ => by
    refine ⟨o, h1, ?_⟩
    cases hq : qs i
    · simp only [hq, cond_false] at h2 ⊢
      exact h2.mono fun x s' => vcI_app is _ s'
    · simp only [hq, cond_true] at h2 ⊢
      obtain ⟨x, h3, h4⟩ := h2
      exact ⟨x, h3, vcI_app is _ s h4⟩
theorem Wk.idem {K : Env → St → Prop} {e : Env} {s : St} (h : Wk (Wk K) e s) : Wk K e s := by
  obtain ⟨e', h1, e2, h2, h3⟩ := h
  exact ⟨e2, h2.trans h1, h3⟩
theorem EnvOK.leE {cx : Cx} {w : World} {M : Mset} {N : Nat} {env env' : Env} {a : Act} (h : EnvOK cx w M N env a) (hl : Le env' env) : EnvOK cx w M N env' a := h.le hl
theorem Bh.wk {cx : Cx} {w0 : World} {s0 : St} {N : Nat} {K : Env → St → Prop} {a : Act} {w : World} (h : Bh cx w0 s0 N (Wk K) a w) : Bh cx w0 s0 N K a w := by
  obtain ⟨env, s, h1, h2, h3, e', h4, h5⟩ := h
  exact ⟨e', s, h1.le h4, h2, h3, h5⟩
def Same (ds : List Nat) (e e' : Env) : Prop := ∀ i, hasN ds i = false → e i = e' i
theorem Same.refl {ds : List Nat} {e : Env} : Same ds e e := fun _ _ => rfl
theorem Same.upd {ds : List Nat} {e e' : Env} {d : Nat} {x : AV} (hd : hasN ds d = true) (h : Same ds e e') : Same ds (upd e d x) e' := fun i hi => by
  rw [upd_ne _ _ (fun g => by subst g; rw [hd] at hi; cases hi)]; exact h i hi
theorem Same.drop {ds es : List Nat} {e e' : Env} (hd : es.all (hasN ds) = true) (h : Same ds e e') : Same ds (dropL es e) e' := fun i hi => by
  rw [← h i hi]
  unfold dropL
  have : hasN es i = false := by
    cases g : hasN es i with
    | false => rfl
    | true =>
      exfalso
      have : ∀ (l : List Nat), hasN l i = true → i ∈ l := by
        intro l; induction l with
        | nil => intro h; cases h
        | cons j l ih =>
          intro h; simp only [hasN] at h
          cases hb : Nat.beq i j with
          | true => obtain rfl := Nat.eq_of_beq_eq_true hb; simp
          | false => rw [hb] at h; exact List.mem_cons_of_mem _ (ih h)
      have := List.all_eq_true.1 hd i (this es g)
      rw [this] at hi; cases hi
  simp [this]
theorem Same.mk0 {ds : List Nat} {e : Env} : Same ds e (dropL ds e) := fun i hi => by simp [dropL, hi]
def EH (e : Env) : List (Nat × AV) → Prop
  | [] => True
  | (i, x) :: l => e i = some x ∧ EH e l
def hd (ds : List Nat) (env : Env) : List (Nat × AV) → Env
  | [] => dropL ds env
  | (j, x) :: l => fun i => bif Nat.beq i j then some x else hd ds env l i
theorem hd_le {ds : List Nat} {env e : Env} (hsame : Same ds e env) : ∀ (l : List (Nat × AV)), EH e l → Le (hd ds env l) e
  | [], _ => fun i x h => by
    simp only [hd, dropL] at h
    cases hh : hasN ds i <;> simp [hh] at h
    rw [hsame i hh]; exact h
  | (j, y) :: l, ⟨h1, h2⟩ => fun i x h => by
    simp only [hd] at h
    cases hb : Nat.beq i j with
    | true =>
      obtain rfl := Nat.eq_of_beq_eq_true hb
      rw [hb] at h; simp at h; subst h; exact h1
    | false => rw [hb] at h; exact hd_le hsame l h2 i x h
theorem Same.hd {ds : List Nat} {env : Env} : ∀ {l : List (Nat × AV)}, l.all (fun p => hasN ds p.1) = true → Same ds (hd ds env l) env
  | [], _, i, hi => by simp [Vc.hd, dropL, hi]
  | (j, x) :: l, h, i, hi => by
    simp only [List.all_cons, Bool.and_eq_true] at h
    simp only [Vc.hd]
    cases hb : Nat.beq i j with
    | true => obtain rfl := Nat.eq_of_beq_eq_true hb; rw [h.1] at hi; cases hi
    | false => exact Same.hd h.2 i hi
section
variable {P : Program} {N : Nat} {Q : EQ} {env : Env} {s : St}
theorem vc_regionW {id : Nat} {l : List Oper} (qs : Nat → Bool) (is : List Nat) (hN : dstOK N l = true) (hi : List.range l.length = is)
    (h : vcI P l qs (Wk (Q .normal)) is env s) : VC P N (.region id l.toArray false) Q env s := by
  have := vc_regionP (Q := fun e => Wk (Q e)) (env := env) (s := s) (P := P) (id := id) qs is hN hi h
  exact fun cx w a hs he => wpIn_mono (this cx w a hs he) fun e a' w' hb => hb.wk
theorem vc_regionDW {id : Nat} {l : List Oper} (hm : P.follows .mixedOrders = true) (qs : Nat → Bool) (c : List Nat) (hc : drawOK N l qs c = true)
    (h : vcI P l qs (Wk (Q .normal)) c env s) : VC P N (.region id l.toArray true) Q env s := by
  have := vc_regionD (Q := fun e => Wk (Q e)) (env := env) (s := s) (P := P) (id := id) hm qs c hc h
  exact fun cx w a hs he => wpIn_mono (this cx w a hs he) fun e a' w' hb => hb.wk
theorem vgrp {l : List Oper} {qs : Nat → Bool} {K : Env → St → Prop} (is js : List Nat) (ds : List Nat) (d : Nat) (x : AV)
    (h : vcI P l qs (Wk (fun E S => S = s ∧ E d = some x ∧ Same (d :: ds) E env)) is env s)
    (k : vcI P l qs (Wk K) js (upd (dropL ds env) d x) s) : vcI P l qs (Wk K) (is ++ js) env s := by
  refine vcI_app is env s (vcI.mono ?_ is env s h)
  rintro E0 S ⟨E, hle, rfl, h1, h2⟩
  refine vcI.mono (fun e s => Wk.idem) _ _ _ (vcI_le js E0 _ _ (Le.trans ?_ hle) k)
  intro i y hy
  by_cases hi : i = d
  · subst hi; rw [upd_same] at hy; rw [h1]; exact hy
  · rw [upd_ne _ _ hi] at hy
    unfold dropL at hy
    cases hh : hasN ds i with
    | true => rw [hh] at hy; cases hy
    | false =>
      rw [hh] at hy
      rw [h2 i (by simp only [hasN]; cases hb : Nat.beq i d with | true => exact absurd (Nat.eq_of_beq_eq_true hb) hi | false => exact hh)]
      exact hy
theorem vendW {K : Env → St → Prop} {l : List Oper} {qs : Nat → Bool} (k : K env s) : vcI P l qs (Wk K) [] env s := Wk.of k
theorem vc_loopS {c : Code} {α : Type} (ds : List Nat) (vs : α → List (Nat × AV)) (st : α → St) (ok : α → Prop) (μ : α → Nat) (a0 : α) (h0 : ok a0) (hs0 : s = st a0) (hv0 : EH env (vs a0))
    (hk : ∀ a, (vs a).all (fun p => hasN ds p.1) = true)
    (step : ∀ a, ok a → VC P N c (thenQ (fun E S => ∃ a', ok a' ∧ μ a' < μ a ∧ Same ds E (hd ds env (vs a)) ∧ EH E (vs a') ∧ S = st a') Q) (hd ds env (vs a)) (st a)) : VC P N (.loop c) Q env s := by
  have hcv : ∀ (e : Env) (s : St) (a : α), Same ds e env → EH e (vs a) → CvEnv s s e (hd ds env (vs a)) := fun e s a h1 h2 i x' hx => ⟨x', hd_le h1 _ h2 i x' hx, Cv.le (Le.refl s) x'⟩
  subst hs0
  refine vc_env (hcv env _ a0 Same.refl hv0) ?_
  refine vc_loop (fun n E S => ∃ a, ok a ∧ n = μ a ∧ E = hd ds env (vs a) ∧ S = st a) (μ a0) ⟨a0, h0, rfl, rfl, rfl⟩ ?_
  rintro n E S ⟨a, ha, rfl, rfl, rfl⟩
  intro cx w ac hs he
  refine wpIn_mono (step a ha cx w ac hs he) fun e a2 w2 hb => ?_
  cases e with
  | normal =>
    obtain ⟨E, S, g1, g2, g3, a', g4, g5, g6, g7, rfl⟩ := hb
    have hsame : Same ds E env := fun i hi => (g6 i hi).trans (Same.hd (hk a) i hi)
    exact ⟨_, st a', g1.le (hd_le hsame _ g7), g2, g3, μ a', g5, a', g4, rfl, rfl, rfl⟩
  | _ => exact hb
theorem exit_here {id : Nat} (h : Q .normal env s) : blockQ id Q (.exit id) env s := by simp only [blockQ, if_true]; exact h
theorem exit_out {id j : Nat} (hne : Nat.beq j id = false) (h : Q (.exit j) env s) : blockQ id Q (.exit j) env s := by
  have : j ≠ id := fun e => by subst e; simp at hne
  simp only [blockQ, if_neg this]; exact h
theorem vc_condE {c : Operand} {x y : Code} {b : Bool} (hc : evA env c = some (.v (.bool b))) (hf : b = false → VC P N y Q env s) (ht : b = true → VC P N x Q env s) : VC P N (.cond c x y) Q env s := vc_cond hc ht hf
theorem vc_condDE {c : Operand} {x y : Code} {p : Prop} [Decidable p] (hc : evA env c = some (.v (.bool (decide p)))) (hf : ¬ p → VC P N y Q env s) (ht : p → VC P N x Q env s) : VC P N (.cond c x y) Q env s := vc_condD hc ht hf
end
end Go.Vc

set_option linter.unusedVariables false
set_option linter.unusedSimpArgs false
namespace Go.Vc
theorem OVsOK.app {w : World} {M : Mset} : ∀ {l r : List OV} {us : List Value} {G : List Nat}, OVsOK w M (l ++ r) us G ↔
    ∃ u v A B, us = u ++ v ∧ G = A ++ B ∧ OVsOK w M l u A ∧ OVsOK w M r v B ∧ (∀ b, b ∈ A → b ∉ B)
  | [], r, us, G => by
    constructor
    · intro h; exact ⟨[], us, [], G, rfl, rfl, ⟨rfl, rfl⟩, h, by simp⟩
    · rintro ⟨u, v, A, B, rfl, rfl, ⟨rfl, rfl⟩, h, _⟩; simpa using h
  | .a x :: l, r, us, G => by
    constructor
    · rintro ⟨u, us', rfl, h2, h3⟩
      obtain ⟨p, q, A, B, rfl, rfl, h4, h5, h6⟩ := OVsOK.app.1 h3
      exact ⟨u :: p, q, A, B, rfl, rfl, ⟨u, p, rfl, h2, h4⟩, h5, h6⟩
    · rintro ⟨p, q, A, B, rfl, rfl, ⟨u, us', rfl, h2, h3⟩, h5, h6⟩
      exact ⟨u, us' ++ q, rfl, h2, OVsOK.app.2 ⟨us', q, A, B, rfl, rfl, h3, h5, h6⟩⟩
  | .r e sz xs :: l, r, us, G => by
    constructor
    · rintro ⟨u, us', rfl, ⟨rfl, h2, h3⟩ | ⟨g, cap, G', rfl, h2, rfl, h4, h3⟩⟩
      · obtain ⟨p, q, A, B, rfl, rfl, h4, h5, h6⟩ := OVsOK.app.1 h3
        exact ⟨u :: p, q, A, B, rfl, rfl, ⟨u, p, rfl, .inl ⟨rfl, h2, h4⟩⟩, h5, h6⟩
      · obtain ⟨p, q, A, B, rfl, rfl, h5, h6, h7⟩ := OVsOK.app.1 h3
        refine ⟨_ :: p, q, g :: A, B, rfl, rfl, ⟨_, p, rfl, .inr ⟨g, cap, A, rfl, h2, rfl, fun hm => h4 (by simp [hm]), h5⟩⟩, h6, fun b hb => ?_⟩
        rcases List.mem_cons.1 hb with rfl | hb
        · exact fun hm => h4 (by simp [hm])
        · exact h7 b hb
    · rintro ⟨p, q, A, B, rfl, rfl, ⟨u, us', rfl, ⟨rfl, h2, h3⟩ | ⟨g, cap, G', rfl, h2, rfl, h4, h3⟩⟩, h6, h7⟩
      · exact ⟨u, us' ++ q, rfl, .inl ⟨rfl, h2, OVsOK.app.2 ⟨us', q, A, B, rfl, rfl, h3, h6, h7⟩⟩⟩
      · refine ⟨_, us' ++ q, rfl, .inr ⟨g, cap, G' ++ B, rfl, h2, rfl, fun hm => ?_, OVsOK.app.2 ⟨us', q, G', B, rfl, rfl, h3, h6, fun b hb => h7 b (by simp [hb])⟩⟩⟩
        rcases List.mem_append.1 hm with hm | hm
        · exact h4 hm
        · exact h7 g (by simp) hm
theorem OVsOK.length {w : World} {M : Mset} : ∀ {l : List OV} {us : List Value} {G : List Nat}, OVsOK w M l us G → us.length = l.length := by
  intro l
  induction l with
  | nil => rintro us G ⟨rfl, _⟩; rfl
  | cons c l ih =>
    intro us G h
    cases c with
    | a x => obtain ⟨u, us', rfl, _, h⟩ := h; simp [ih h]
    | r e sz xs => obtain ⟨u, us', rfl, ⟨_, _, h⟩ | ⟨_, _, _, _, _, _, _, h⟩⟩ := h <;> simp [ih h]
theorem OVsOK.congr {w : World} {M M' : Mset} (h : ∀ b, M' b → M b) {cs : List OV} {us : List Value} {G : List Nat} (hr : OVsOK w M cs us G) : OVsOK w M' cs us G :=
  OVsOK.mono ⟨rfl, rfl, rfl, Nat.le_refl _, fun b _ hm => ⟨rfl, fun hm' => hm (h b hm')⟩, fun _ _ => rfl⟩ cs us G hr fun _ _ => rfl
section
variable {P : Program} {env : Env} {s : St} {d : Option Nat} {ty : TypeId} {pos : String} {af : Array Edge} {gd : Option (Nat × Bool)}
variable {a b : Operand} {x y : AV} {t t2 : TypeId} {K : AV → St → Prop}
theorem e_loadO {k off : Nat} {F : List Nat} {cs : List OV} (hT : isSc P t = true) (ha : evA env a = some (ptv k off)) (hk : s k = some (.obj F cs)) (hx : nth cs off = some (.a x)) (h : K x s) : EffOK P ⟨d, .load t a, ty, pos, af, gd⟩ env s K := by
  intro w ρ hs hr
  have h1 : ρ a = _ := hr.1 a (by simp [Op.operands]) _ ha
  obtain ⟨cur, e, G, h2, rfl, h3, h4⟩ := hs.ok k _ hk
  obtain ⟨p, q, rfl, hp, _⟩ := split_at hx
  obtain ⟨u, v, A, B, g1, g2, g3, g4, g5⟩ := OVsOK.app.1 h4
  obtain ⟨z, v', rfl, g6, g7⟩ := g4
  have hc : w.cell? ⟨k, off, none⟩ = some z := by
    rw [cell_res h2, ← Array.getElem?_toList, g1, List.getElem?_append_right (by rw [OVsOK.length g3]; omega)]
    simp [OVsOK.length g3, hp]
  have hrun : (execOp ρ ⟨d, .load t a, ty, pos, af, gd⟩).run P w = .ok (.value z) w := by
    simp [execOp, h1, Instr.loadAt, Instr.sureAddr, loadVar, isAgg_sc hT, hc]
  rw [hrun]
  exact ⟨x, s, g6, hs, Fr.refl _ _, h⟩
theorem e_storeO {k off : Nat} {F : List Nat} {cs : List OV} {x0 : AV} (hT : szO P t = some 1) (ha : evA env a = some (ptv k off)) (hb : evA env b = some x) (hx : isC1 x = true) (hk : s k = some (.obj F cs)) (hel : nth cs off = some (.a x0))
    (h : K (.v undef) (upd s k (.obj F (cs.set off (.a x))))) : EffOK P ⟨d, .store t a b, ty, pos, af, gd⟩ env s K := by
  intro w ρ hs hr
  have h1 : ρ a = _ := hr.1 a (by simp [Op.operands]) _ ha
  obtain ⟨hx1, hx2⟩ := cellsA_one hx
  obtain ⟨h2, h3⟩ := cellsA_spec hx2 (hr.1 b (by simp [Op.operands]) _ hb)
  rw [hx1] at h2
  obtain ⟨z, zs, hz, h2, h2'⟩ := h2
  cases h2'
  obtain ⟨cur, e, G, h4, rfl, h5, h6⟩ := hs.ok k _ hk
  obtain ⟨p, q, rfl, hp, hset⟩ := split_at hel
  obtain ⟨u, v, A, B, g1, g2, g3, g4, g5⟩ := OVsOK.app.1 h6
  obtain ⟨z0, v', rfl, g6, g7⟩ := g4
  have hul := OVsOK.length g3
  have hcl : cur.size = u.length + (1 + v'.length) := by rw [← Array.length_toList, g1]; simp; omega
  have hsl : (ρ b).cells.size = 1 := by have := congrArg List.length hz; simpa using this
  have hrun := run_storeAt (w := w) hT hsl h3 h4 (off := off) (by omega)
  have he : (cur.toList.take off ++ (ρ b).cells.toList ++ cur.toList.drop (off + 1)) = u ++ (z :: v') := by
    rw [hz, g1, List.append_assoc]
    congr 1
    · rw [List.take_append_of_le_length (by omega)]; exact List.take_of_length_le (by omega)
    · rw [List.drop_append, List.drop_of_length_le (by omega)]
      rw [show off + 1 - u.length = 1 by omega]
      simp
  rw [he] at hrun
  have hrun' : (execOp ρ ⟨d, .store t a b, ty, pos, af, gd⟩).run P w = .ok .skip (w.setRow k (u ++ (z :: v')).toArray) := by
    simp [execOp, h1, hrun]
  rw [hrun']
  have hlt : k < w.heap.size := (Array.getElem?_eq_some_iff.1 h4).1
  have hother : ∀ b, b ≠ k → (w.setRow k (u ++ (z :: v')).toArray).heap[b]? = w.heap[b]? := fun b hb => setRow_other w k b _ hb
  have hkG : ∀ b, b ∈ G → b ≠ k := fun b hb e' => h5 (e' ▸ hb)
  rw [hset] at h
  obtain ⟨s1, s2⟩ := hs.step (w' := w.setRow k (u ++ (z :: v')).toArray) (k := k) (r := .obj (k :: G) (p ++ ([.a x] ++ q))) rfl rfl rfl (by simp)
    (fun b hb' => by
      unfold World.shape?
      by_cases e' : b = k
      · subst e'; rw [setRow_heap w b cur _ e _ h4, h4]; simp [hcl]; omega
      · rw [hother b e'])
    (fun b hb' hn => hother b fun e' => hn _ hk (by simp [fp, e']))
    (fun b hb' => ⟨by
        have := hs.lt b ⟨k, _, hk, hb'⟩
        simpa using this, fun _ => ⟨_, hk, hb'⟩⟩)
    (fun f => by
      refine ⟨_, e, G, setRow_heap w k cur _ e _ h4, rfl, h5, ?_⟩
      have hB : ∀ b, b ∈ G → (w.setRow k (u ++ (z :: v')).toArray).heap[b]? = w.heap[b]? := fun b hb => hother b (hkG b hb)
      exact OVsOK.app.2 ⟨u, z :: v', A, B, rfl, g2, OVsOK.mono f _ _ _ g3 (fun b hb => hB b (by rw [g2]; simp [hb])), ⟨z, v', rfl, Rep.mono f _ _ h2, OVsOK.mono f _ _ _ g7 (fun b hb => hB b (by rw [g2]; simp [hb]))⟩, g5⟩)
  exact ⟨.v undef, _, rfl, s1, s2, h⟩
variable {N : Nat} {Q : EQ}
theorem obj_split {w : World} {p : Nat} {F : List Nat} {l q : List OV} {e sz : Nat} {xs : List (List AV)} (hs : Sat w s) (hp : s p = some (.obj F (l ++ .r e sz xs :: q))) :
    ∃ x F' s1, OwnSt (upd s p (.obj F' (l ++ .a x :: q))) x e sz xs s1 ∧ Sat w s1 ∧ ∀ b, Mut s1 b ↔ Mut s b := by
  obtain ⟨cur, t, G, h1, rfl, h3, h4⟩ := hs.ok p _ hp
  obtain ⟨u, v, A, B, g1, rfl, g3, g4, g5⟩ := OVsOK.app.1 h4
  obtain ⟨z, v', rfl, g6⟩ := g4
  rcases g6 with ⟨rfl, ⟨ad, rfl⟩, g7⟩ | ⟨g, cap, B', rfl, hrow, rfl, hg, g7⟩
  · have hmut : ∀ b, Mut (upd s p (.obj (p :: (A ++ B)) (l ++ .a (.slx sz []) :: q))) b ↔ Mut s b := by
      intro b
      constructor
      · rintro ⟨k, r, h5, h6⟩
        by_cases e' : k = p
        · subst e'; rw [upd_same] at h5; cases h5; exact ⟨k, _, hp, h6⟩
        · rw [upd_ne _ _ e'] at h5; exact ⟨k, r, h5, h6⟩
      · rintro ⟨k, r, h5, h6⟩
        by_cases e' : k = p
        · subst e'; rw [hp] at h5; cases h5; exact ⟨k, _, upd_same _ _ _, h6⟩
        · exact ⟨k, r, by rw [upd_ne _ _ e']; exact h5, h6⟩
    refine ⟨.slx sz [], p :: (A ++ B), _, OwnSt.slx _ e sz, Sat.of0 (M := Mut s) ⟨fun k r hk => ?_, fun k r k' r' b h5 h6 h7 h8 => ?_, fun b hb => hs.lt b ((hmut b).1 hb)⟩ (fun b hb => (hmut b).1 hb), hmut⟩
    · by_cases e' : k = p
      · subst e'; rw [upd_same] at hk; cases hk
        exact ⟨cur, t, A ++ B, h1, rfl, h3, OVsOK.app.2 ⟨u, _, A, B, g1, rfl, g3, ⟨_, v', rfl, ⟨ad, [], rfl, Nat.zero_le _, rfl, .inl rfl⟩, g7⟩, g5⟩⟩
      · rw [upd_ne _ _ e'] at hk; exact hs.ok k r hk
    · have t1 : ∀ k r b, (upd s p (.obj (p :: (A ++ B)) (l ++ .a (.slx sz []) :: q))) k = some r → fp k r b → ∃ r', s k = some r' ∧ fp k r' b := by
        intro k r b hk hb
        by_cases e' : k = p
        · subst e'; rw [upd_same] at hk; cases hk; exact ⟨_, hp, hb⟩
        · rw [upd_ne _ _ e'] at hk; exact ⟨r, hk, hb⟩
      obtain ⟨_, i1, i2⟩ := t1 k r b h5 h7
      obtain ⟨_, j1, j2⟩ := t1 k' r' b h6 h8
      exact hs.disj _ _ _ _ b i1 j1 i2 j2
  · obtain ⟨cur', k1, k2, k3, k4, k5⟩ := hrow
    have hgp : g ≠ p := fun e' => h3 (by simp [e'])
    have hpg : p ≠ g := Ne.symm hgp
    have hgs : s g = none := by
      cases hgs : s g with
      | none => rfl
      | some r =>
        exfalso
        have : fp g r g := by
          cases r with
          | cells _ => rfl
          | arr _ _ _ => rfl
          | map _ => rfl
          | raw _ => rfl
          | obj F' cs' => obtain ⟨_, _, G', _, rfl, _⟩ := hs.ok g _ hgs; simp [fp]
        exact hgp (hs.disj g r p _ g hgs hp this (by simp [fp]))
    let s0 := upd s p (.obj (p :: (A ++ B')) (l ++ .a (.hdr g sz xs.length) :: q))
    have hmut : ∀ b, Mut (upd s0 g (.arr e sz xs)) b ↔ Mut s b := by
      intro b
      constructor
      · rintro ⟨k, r, h5, h6⟩
        by_cases e' : k = g
        · subst e'; rw [upd_same] at h5; cases h5; cases h6; exact ⟨p, _, hp, by simp [fp]⟩
        · rw [upd_ne _ _ e'] at h5
          by_cases e2 : k = p
          · subst e2; simp only [s0] at h5; rw [upd_same] at h5; cases h5
            refine ⟨k, _, hp, ?_⟩
            simp only [fp, List.mem_cons, List.mem_append] at h6 ⊢
            rcases h6 with h6 | h6 | h6 <;> simp [h6]
          · simp only [s0] at h5; rw [upd_ne _ _ e2] at h5; exact ⟨k, r, h5, h6⟩
      · rintro ⟨k, r, h5, h6⟩
        by_cases e2 : k = p
        · subst e2; rw [hp] at h5; cases h5
          simp only [fp, List.mem_cons, List.mem_append] at h6
          by_cases e3 : b = g
          · subst e3; exact ⟨b, _, upd_same _ _ _, rfl⟩
          · refine ⟨k, .obj (k :: (A ++ B')) (l ++ .a (.hdr g sz xs.length) :: q), by rw [upd_ne _ _ hpg]; exact upd_same _ _ _, ?_⟩
            simp only [fp, List.mem_cons, List.mem_append]
            rcases h6 with h6 | h6 | h6 | h6
            · exact .inl h6
            · exact .inr (.inl h6)
            · exact absurd h6 e3
            · exact .inr (.inr h6)
        · refine ⟨k, r, ?_, h6⟩
          rw [upd_ne _ _ (fun e' => by subst e'; rw [hgs] at h5; cases h5)]
          simp only [s0]; rw [upd_ne _ _ e2]; exact h5
    have t1 : ∀ k r b, (upd s0 g (.arr e sz xs)) k = some r → fp k r b → k ≠ g → b ≠ g ∧ ∃ r', s k = some r' ∧ fp k r' b := by
      intro k r b hk hb e'
      rw [upd_ne _ _ e'] at hk
      by_cases e2 : k = p
      · subst e2; simp only [s0] at hk; rw [upd_same] at hk; cases hk
        simp only [fp, List.mem_cons, List.mem_append] at hb
        refine ⟨?_, _, hp, by simp only [fp, List.mem_cons, List.mem_append]; rcases hb with hb | hb | hb <;> simp [hb]⟩
        rintro rfl
        rcases hb with hb | hb | hb
        · exact hpg hb.symm
        · exact g5 b hb (by simp)
        · exact hg hb
      · simp only [s0] at hk; rw [upd_ne _ _ e2] at hk
        refine ⟨?_, r, hk, hb⟩
        rintro rfl
        exact e2 (hs.disj k r p _ _ hk hp hb (List.mem_cons_of_mem _ (List.mem_append_right _ List.mem_cons_self)))
    refine ⟨.hdr g sz xs.length, p :: (A ++ B'), upd s0 g (.arr e sz xs), .inr ⟨g, rfl, by rw [upd_ne _ _ hgp]; exact hgs, rfl⟩, Sat.of0 (M := Mut s) ⟨fun k r hk => ?_, fun k r k' r' b h5 h6 h7 h8 => ?_, fun b hb => hs.lt b ((hmut b).1 hb)⟩ (fun b hb => (hmut b).1 hb), hmut⟩
    · by_cases e' : k = g
      · subst e'; rw [upd_same] at hk; cases hk; exact ⟨cap, cur', k1, k2, k3, k4, k5⟩
      · rw [upd_ne _ _ e'] at hk
        by_cases e2 : k = p
        · subst e2; simp only [s0] at hk; rw [upd_same] at hk; cases hk
          refine ⟨cur, t, A ++ B', h1, rfl, fun hm => h3 ?_, OVsOK.app.2 ⟨u, _, A, B', g1, rfl, g3, ⟨_, v', rfl, ⟨cap, e, rfl, k3, k4, ?_⟩, g7⟩, fun b hb hm => g5 b hb (by simp [hm])⟩⟩
          · rcases List.mem_append.1 hm with hm | hm <;> simp [hm]
          · simp [World.shape?, k1, k2]
        · simp only [s0] at hk; rw [upd_ne _ _ e2] at hk; exact hs.ok k r hk
    · by_cases e1 : k = g <;> by_cases e2 : k' = g
      · rw [e1, e2]
      · subst e1; rw [upd_same] at h5; cases h5; cases h7
        exact absurd rfl (t1 k' r' _ h6 h8 e2).1
      · subst e2; rw [upd_same] at h6; cases h6; cases h8
        exact absurd rfl (t1 k r _ h5 h7 e1).1
      · obtain ⟨_, _, i1, i2⟩ := t1 k r b h5 h7 e1
        obtain ⟨_, _, j1, j2⟩ := t1 k' r' b h6 h8 e2
        exact hs.disj _ _ _ _ b i1 j1 i2 j2
theorem vc_openAt {c : Code} {p : Nat} {F : List Nat} {l q : List OV} {e sz : Nat} {xs : List (List AV)} (hp : s p = some (.obj F (l ++ .r e sz xs :: q)))
    (h : ∀ x F' s1, OwnSt (upd s p (.obj F' (l ++ .a x :: q))) x e sz xs s1 → VC P N c Q env s1) : VC P N c Q env s := by
  intro cx w a hs he
  obtain ⟨x, F', s1, h1, h2, h3⟩ := obj_split hs hp
  have hf : Fr w (Mut s) w (Mut s1) := Fr.same fun b hb => (h3 b).1 hb
  exact wpIn_mono (h x F' s1 h1 cx w a h2 (he.mono hf)) fun e a2 w2 hb => Bh.trans hf hb
theorem obj_join {w : World} {p : Nat} {F' : List Nat} {l q : List OV} {e sz : Nat} {xs : List (List AV)} {s1 : St} (hs : Sat w s1) (ho : OwnSt (upd s p (.obj F' (l ++ .a x :: q))) x e sz xs s1) :
    ∃ F, Sat w (upd s p (.obj F (l ++ .r e sz xs :: q))) ∧ ∀ b, Mut (upd s p (.obj F (l ++ .r e sz xs :: q))) b ↔ Mut s1 b := by
  have hle : Le (upd s p (.obj F' (l ++ .a x :: q))) s1 := ho.le
  obtain ⟨cur, t, G, h1, rfl, h3, h4⟩ := hs.ok p _ (hle p _ (upd_same _ _ _))
  obtain ⟨u, v, A, B, g1, rfl, g3, g4, g5⟩ := OVsOK.app.1 h4
  obtain ⟨z, v', rfl, g6, g7⟩ := g4
  rcases ho with ⟨rfl, rfl, hx⟩ | ⟨g, rfl, hk, rfl⟩
  · have hz : ∃ ad, z = .slice ad 0 0 := by
      rcases hx with rfl | rfl
      · cases g6; exact ⟨none, rfl⟩
      · obtain ⟨ad, _, rfl, _⟩ := g6; exact ⟨ad, rfl⟩
    obtain ⟨ad, rfl⟩ := hz
    have hmut : ∀ b, Mut (upd s p (.obj (p :: (A ++ B)) (l ++ .r e sz [] :: q))) b ↔ Mut (upd s p (.obj (p :: (A ++ B)) (l ++ .a x :: q))) b := by
      intro b
      constructor <;>
      · rintro ⟨k, r, h5, h6⟩
        by_cases e' : k = p
        · subst e'; rw [upd_same] at h5; cases h5; exact ⟨k, _, upd_same _ _ _, h6⟩
        · rw [upd_ne _ _ e'] at h5; exact ⟨k, r, by rw [upd_ne _ _ e']; exact h5, h6⟩
    refine ⟨p :: (A ++ B), Sat.of0 (M := Mut (upd s p (.obj (p :: (A ++ B)) (l ++ .a x :: q)))) ⟨fun k r hk => ?_, fun k r k' r' b h5 h6 h7 h8 => ?_, fun b hb => hs.lt b ((hmut b).1 hb)⟩ (fun b hb => (hmut b).1 hb), hmut⟩
    · by_cases e' : k = p
      · subst e'; rw [upd_same] at hk; cases hk
        exact ⟨cur, t, A ++ B, h1, rfl, h3, OVsOK.app.2 ⟨u, _, A, B, g1, rfl, g3, ⟨_, v', rfl, .inl ⟨rfl, ⟨ad, rfl⟩, g7⟩⟩, g5⟩⟩
      · refine hs.ok k r ?_
        rw [upd_ne _ _ e'] at hk ⊢; exact hk
    · have t1 : ∀ k r b, (upd s p (.obj (p :: (A ++ B)) (l ++ .r e sz [] :: q))) k = some r → fp k r b → ∃ r', (upd s p (.obj (p :: (A ++ B)) (l ++ .a x :: q))) k = some r' ∧ fp k r' b := by
        intro k r b hk hb
        by_cases e' : k = p
        · subst e'; rw [upd_same] at hk; cases hk; exact ⟨_, upd_same _ _ _, hb⟩
        · rw [upd_ne _ _ e'] at hk; exact ⟨r, by rw [upd_ne _ _ e']; exact hk, hb⟩
      obtain ⟨_, i1, i2⟩ := t1 k r b h5 h7
      obtain ⟨_, j1, j2⟩ := t1 k' r' b h6 h8
      exact hs.disj _ _ _ _ b i1 j1 i2 j2
  · have hgp : g ≠ p := fun e' => by subst e'; rw [upd_same] at hk; cases hk
    have hpg : p ≠ g := Ne.symm hgp
    obtain ⟨cap, e', rfl, k3, k4, k2⟩ := g6
    obtain ⟨cap', cur', q1, q2, q3, q4, q5⟩ := hs.ok g _ (upd_same _ _ _)
    have hgG : g ∉ p :: (A ++ B) := by
      intro hm
      exact hgp (hs.disj g _ p _ g (upd_same _ _ _) (hle p _ (upd_same _ _ _)) rfl hm)
    have hgA : g ∉ A := fun hm => hgG (by simp [hm])
    have hgB : g ∉ B := fun hm => hgG (by simp [hm])
    have hgs : s g = none := by rw [upd_ne _ _ hgp] at hk; exact hk
    have hcap : cur'.size = cap * sz := by
      have : w.shape? g = some (e, cur'.size) := by simp [World.shape?, q1]
      rw [k2] at this
      injection this with this
      injection this with _ this
      exact this.symm
    have hfoot : ∀ b, b ∈ p :: (A ++ g :: B) ↔ b ∈ p :: (A ++ B) ∨ b = g := by
      intro b
      simp only [List.mem_cons, List.mem_append]
      constructor
      · rintro (h | h | h | h)
        · exact .inl (.inl h)
        · exact .inl (.inr (.inl h))
        · exact .inr h
        · exact .inl (.inr (.inr h))
      · rintro ((h | h | h) | h)
        · exact .inl h
        · exact .inr (.inl h)
        · exact .inr (.inr (.inr h))
        · exact .inr (.inr (.inl h))
    have hmut : ∀ b, Mut (upd s p (.obj (p :: (A ++ g :: B)) (l ++ .r e sz xs :: q))) b ↔ Mut (upd (upd s p (.obj (p :: (A ++ B)) (l ++ .a (.hdr g sz xs.length) :: q))) g (.arr e sz xs)) b := by
      intro b
      constructor
      · rintro ⟨k, r, h5, h6⟩
        by_cases e2 : k = p
        · subst e2; rw [upd_same] at h5; cases h5
          rcases (hfoot b).1 h6 with h6 | rfl
          · exact ⟨k, _, hle k _ (upd_same _ _ _), h6⟩
          · exact ⟨b, _, upd_same _ _ _, rfl⟩
        · rw [upd_ne _ _ e2] at h5
          exact ⟨k, r, hle k _ (by rw [upd_ne _ _ e2]; exact h5), h6⟩
      · rintro ⟨k, r, h5, h6⟩
        by_cases e2 : k = g
        · subst e2; rw [upd_same] at h5; cases h5; cases h6
          exact ⟨p, _, upd_same _ _ _, (hfoot _).2 (.inr rfl)⟩
        · rw [upd_ne _ _ e2] at h5
          by_cases e3 : k = p
          · subst e3; rw [upd_same] at h5; cases h5
            exact ⟨k, _, upd_same _ _ _, (hfoot _).2 (.inl h6)⟩
          · rw [upd_ne _ _ e3] at h5; exact ⟨k, r, by rw [upd_ne _ _ e3]; exact h5, h6⟩
    have t1 : ∀ k r b, (upd s p (.obj (p :: (A ++ g :: B)) (l ++ .r e sz xs :: q))) k = some r → fp k r b → k ≠ p → ∃ r', (upd (upd s p (.obj (p :: (A ++ B)) (l ++ .a (.hdr g sz xs.length) :: q))) g (.arr e sz xs)) k = some r' ∧ fp k r' b ∧ k ≠ g := by
      intro k r b hk' hb e2
      rw [upd_ne _ _ e2] at hk'
      have e3 : k ≠ g := fun e3 => by subst e3; rw [hgs] at hk'; cases hk'
      exact ⟨r, by rw [upd_ne _ _ e3, upd_ne _ _ e2]; exact hk', hb, e3⟩
    have t2 : ∀ k r b, (upd (upd s p (.obj (p :: (A ++ B)) (l ++ .a (.hdr g sz xs.length) :: q))) g (.arr e sz xs)) k = some r → fp k r b → k ≠ g → k ≠ p → b ∈ p :: (A ++ g :: B) → False := by
      intro k r b hk' hb e3 e2 hm
      rcases (hfoot b).1 hm with hm | rfl
      · exact e2 (hs.disj k r p _ b hk' (hle p _ (upd_same _ _ _)) hb hm)
      · exact e3 (hs.disj k r b _ b hk' (upd_same _ _ _) hb rfl)
    refine ⟨p :: (A ++ g :: B), Sat.of0 (M := Mut (upd (upd s p (.obj (p :: (A ++ B)) (l ++ .a (.hdr g sz xs.length) :: q))) g (.arr e sz xs))) ⟨fun k r hk' => ?_, fun k r k' r' b h5 h6 h7 h8 => ?_, fun b hb => hs.lt b ((hmut b).1 hb)⟩ (fun b hb => (hmut b).1 hb), hmut⟩
    · by_cases e2 : k = p
      · subst e2; rw [upd_same] at hk'; cases hk'
        refine ⟨cur, t, A ++ g :: B, h1, rfl, fun hm => ?_, OVsOK.app.2 ⟨u, _, A, g :: B, g1, rfl, g3, ⟨_, v', rfl, .inr ⟨g, cap, B, rfl, ⟨cur', q1, hcap, k3, k4, q5⟩, rfl, hgB, g7⟩⟩, fun b hb hm => ?_⟩⟩
        · rcases List.mem_append.1 hm with hm | hm
          · exact h3 (by simp [hm])
          · rcases List.mem_cons.1 hm with hm | hm
            · exact hpg hm
            · exact h3 (by simp [hm])
        · rcases List.mem_cons.1 hm with rfl | hm
          · exact hgA hb
          · exact g5 b hb hm
      · obtain ⟨r', i1, i2, i3⟩ := t1 k r k hk' (by
          rw [upd_ne _ _ e2] at hk'
          have hk2 := hs.ok k r (by rw [upd_ne _ _ (fun e3 => by subst e3; rw [hgs] at hk'; cases hk'), upd_ne _ _ e2]; exact hk')
          cases r with
          | cells _ => rfl
          | arr _ _ _ => rfl
          | map _ => rfl
          | raw _ => rfl
          | obj F2 cs2 => obtain ⟨_, _, G', _, rfl, _⟩ := hk2; simp [fp]) e2
        rw [upd_ne _ _ e2] at hk'
        exact hs.ok k r (by rw [upd_ne _ _ i3, upd_ne _ _ e2]; exact hk')
    · by_cases e1 : k = p <;> by_cases e2 : k' = p
      · rw [e1, e2]
      · subst e1; rw [upd_same] at h5; cases h5
        obtain ⟨r2, i1, i2, i3⟩ := t1 k' r' b h6 h8 e2
        exact (t2 k' r2 b i1 i2 i3 e2 h7).elim
      · subst e2; rw [upd_same] at h6; cases h6
        obtain ⟨r2, i1, i2, i3⟩ := t1 k r b h5 h7 e1
        exact (t2 k r2 b i1 i2 i3 e1 h8).elim
      · obtain ⟨_, i1, i2, _⟩ := t1 k r b h5 h7 e1
        obtain ⟨_, j1, j2, _⟩ := t1 k' r' b h6 h8 e2
        exact hs.disj _ _ _ _ b i1 j1 i2 j2
theorem vc_shutAt {c : Code} {p : Nat} {F' : List Nat} {l q : List OV} {e sz : Nat} {xs : List (List AV)} {s1 : St} (ho : OwnSt (upd s p (.obj F' (l ++ .a x :: q))) x e sz xs s1)
    (h : ∀ F, VC P N c Q env (upd s p (.obj F (l ++ .r e sz xs :: q)))) : VC P N c Q env s1 := by
  intro cx w a hs he
  obtain ⟨F, h1, h2⟩ := obj_join hs ho
  have hf : Fr w (Mut s1) w (Mut (upd s p (.obj F (l ++ .r e sz xs :: q)))) := Fr.same fun b hb => (h2 b).1 hb
  exact wpIn_mono (h F cx w a h1 (he.mono hf)) fun e a2 w2 hb => Bh.trans hf hb
theorem ret_shutAt {fn : Func} {K : AV → St → Prop} {p : Nat} {F' : List Nat} {l q : List OV} {e sz : Nat} {xs : List (List AV)} {s1 : St} (ho : OwnSt (upd s p (.obj F' (l ++ .a x :: q))) x e sz xs s1)
    (h : ∀ F, RetA P N fn K env (upd s p (.obj F (l ++ .r e sz xs :: q)))) : RetA P N fn K env s1 := by
  intro cx w a hs he
  obtain ⟨F, h1, h2⟩ := obj_join hs ho
  have hf : Fr w (Mut s1) w (Mut (upd s p (.obj F (l ++ .r e sz xs :: q)))) := Fr.same fun b hb => (h2 b).1 hb
  obtain ⟨v, g1, r, s'', g2, g3, g4, g5⟩ := h F cx w a h1 (he.mono hf)
  exact ⟨v, g1, r, s'', g2, g3, hf.trans g4, g5⟩
end
end Go.Vc

set_option linter.unusedVariables false
namespace Go.Vc
section
variable {P : Program} {N : Nat} {Q : EQ} {env : Env} {s : St}
theorem vc_condT {c : Operand} {x y : Code} {b : Bool} (hc : evA env c = some (.v (.bool b))) (hb : b = true) (ht : VC P N x Q env s) : VC P N (.cond c x y) Q env s :=
  vc_cond_t (hb ▸ hc) ht
theorem vc_condF {c : Operand} {x y : Code} {b : Bool} (hc : evA env c = some (.v (.bool b))) (hb : b = false) (hf : VC P N y Q env s) : VC P N (.cond c x y) Q env s :=
  vc_cond_f (hb ▸ hc) hf
end
section
variable {P : Program} {env : Env} {s : St} {d : Option Nat} {ty : TypeId} {pos : String} {af : Array Edge} {gd : Option (Nat × Bool)}
variable {a b : Operand} {x y : AV} {t t2 : TypeId} {K : AV → St → Prop}
theorem slx_rep {e sz bb : Nat} {xs : List (List AV)} {lo : Option Operand} {o1 o2 : Operand} {l h : Int} {w : World} {M : Mset} {ρ : Operand → Value} {v : Value} (hT : slT P t = some (e, sz, bb)) (hv : Rep w M (.sl sz xs) v)
    (hρ : ∀ o n k, (lo = some o ∨ some o1 = some o ∨ some o2 = some o) → evA env o = some (.v (.int k n)) → ρ o = .int k n)
    (hl : loV lo env = some l) (hh : hiV xs.length (some o1) env = some h) (hm : hiV xs.length (some o2) env = some h) (h0 : 0 ≤ l) (h1 : l ≤ h) (h2 : h ≤ xs.length) :
    ∃ v', (Instr.sliceAt t v (lo.map ρ) (some (ρ o1)) (some (ρ o2))).run P w = .ok v' w ∧ Rep w M (.slx sz ((xs.take h.toNat).drop l.toNat)) v' := by
  obtain ⟨ad, c, us, rfl, g2, g3, g4, g5⟩ := hv
  obtain ⟨hu, hse⟩ := elem_of hT w
  have iv : ∀ o n, (lo = some o ∨ some o1 = some o ∨ some o2 = some o) → (match evA env o with | some (.v (.int _ n)) => some n | _ => none) = some n → ∃ k, ρ o = .int k n := by
    intro o n ho he
    split at he
    · rename_i k m hx; cases he; exact ⟨k, hρ o _ k ho hx⟩
    · cases he
  obtain ⟨k1, e1⟩ := iv o1 h (.inr (.inl rfl)) hh
  obtain ⟨k2, e2⟩ := iv o2 h (.inr (.inr rfl)) hm
  have hrun : (Instr.sliceAt t (.slice ad xs.length c) (lo.map ρ) (some (ρ o1)) (some (ρ o2))).run P w = .ok (sliced ad l.toNat h.toNat h.toNat sz) w := by
    rw [run_sliceAt_slice w t _ _ _ _ hu, e1, e2]
    cases lo with
    | none =>
      cases hl
      rw [Option.map_none, run_slice_hm w t ad xs.length c hu k1 k2 h h (by omega) (by omega) (by omega), hse]
      simp [Result.andThen]
    | some o =>
      obtain ⟨k3, e3⟩ := iv o l (.inl rfl) hl
      rw [Option.map_some, e3, run_slice_lhm w t ad xs.length c hu k3 k1 k2 l h h h0 h1 (by omega) (by omega), hse]
      simp [Result.andThen]
  have hlen : ((xs.take h.toNat).drop l.toNat).length = h.toNat - l.toNat := by simp; omega
  obtain ⟨u1, v1, rfl, k1, k2, k3⟩ := g4.drop h.toNat (by omega)
  obtain ⟨u2, v2, rfl, k4, k5, k6⟩ := k2.drop l.toNat (by simp; omega)
  refine ⟨sliced ad l.toNat h.toNat h.toNat sz, hrun, ?_⟩
  unfold sliced
  refine ⟨_, v2, by rw [hlen], by omega, k6, ?_⟩
  by_cases hne : (xs.take h.toNat).drop l.toNat = []
  · exact .inl hne
  · right
    have hlt : l.toNat < h.toNat := by
      rcases Nat.lt_or_ge l.toNat h.toNat with hh | hh
      · exact hh
      · exact absurd (List.eq_nil_of_length_eq_zero (by rw [hlen]; omega)) hne
    have hxs : xs ≠ [] := by intro e; subst e; simp at hne
    obtain ⟨b', off, rfl, hc⟩ := g5.resolve_left hxs
    refine ⟨b', off + l.toNat * sz, ?_, ?_⟩
    · rw [if_neg (by omega)]
      simp [Addr.add_lit]
    · rw [← k4]
      rw [List.append_assoc] at hc
      exact hc.drop.take
theorem q_pickT {c : Operand} {p : Bool} (h : evA env c = some (.v (.bool p))) (hp : p = true) (ha : evA env a = some x) : QOK P ⟨d, .pick c a b, ty, pos, af, gd⟩ env x :=
  q_pick h (fun _ => ha) (fun e => by rw [hp] at e; cases e)
theorem q_pickF {c : Operand} {p : Bool} (h : evA env c = some (.v (.bool p))) (hp : p = false) (hb : evA env b = some x) : QOK P ⟨d, .pick c a b, ty, pos, af, gd⟩ env x :=
  q_pick h (fun e => by rw [hp] at e; cases e) (fun _ => hb)
theorem q_slice3 {e sz bb : Nat} {xs : List (List AV)} {lo : Option Operand} {o1 o2 : Operand} {l h : Int} (hT : slT P t = some (e, sz, bb)) (ha : evA env a = some (.sl sz xs)) (hl : loV lo env = some l) (hh : hiV xs.length (some o1) env = some h) (hm : hiV xs.length (some o2) env = some h)
    (h0 : 0 ≤ l) (h1 : l ≤ h) (h2 : h ≤ xs.length) : QOK P ⟨d, .slice t a lo (some o1) (some o2), ty, pos, af, gd⟩ env (.slx sz ((xs.take h.toNat).drop l.toNat)) :=
  q_of fun w s ρ hs hr => by
    obtain ⟨v', g1, g2⟩ := slx_rep (env := env) (ρ := ρ) hT (hr.1 a (by simp [Op.operands]) _ ha) (fun o n k ho he => hr.1 o (by rcases ho with q | q | q <;> (cases q; simp [Op.operands])) _ he) hl hh hm h0 h1 h2
    exact ⟨v', by simp [execOp, g1], g2⟩
variable {N : Nat} {Q : EQ}
theorem vc_frz {c : Code} {s0 : St} {e sz i : Nat} {xs : List (List AV)} (ho : OwnSt s0 x e sz xs s) (hi : env i = some x) (h : VC P N c Q (upd env i (.sl sz xs)) s0) : VC P N c Q env s := by
  refine vc_conv ho.le (fun j y hy => ?_) h
  by_cases e : j = i
  · subst e; rw [upd_same] at hy; cases hy; exact ⟨x, hi, ho.frz⟩
  · rw [upd_ne _ _ e] at hy; exact ⟨y, hy, Cv.le ho.le y⟩
end
theorem OwnSt.mk {s : St} {k e sz n : Nat} {xs : List (List AV)} (hk : s k = Option.none) (hn : n = xs.length) : OwnSt s (.hdr k sz n) e sz xs (upd s k (.arr e sz xs)) := by
  subst hn; exact .inr ⟨k, rfl, hk, rfl⟩
theorem set_mid {α β : Type} (f : α → β) (A : List α) (x z : α) (r : Nat) : ((A ++ List.replicate (r + 1) z).map f).set A.length (f x) = ((A ++ [x]) ++ List.replicate r z).map f := by
  simp [List.replicate_succ]
section
variable {P : Program} {l : List Oper} {qs : Nat → Bool} {K : Env → St → Prop} {i : Nat} {is : List Nat} {env : Env} {s : St}
variable {d : Nat} {op : Op} {ty : TypeId} {pos : String} {af : Array Edge} {j : Nat} {want : Bool} {t : Nat} {g : Value}
theorem gr_run {x : AV} (ho : nth l i = some ⟨some d, op, ty, pos, af, some (j, want)⟩) (hq : qs i = true) (hr : qs (i + 512) = true) (ht : (nth l j).bind (·.dst) = some t) (hg : env t = some (.v g)) (hw : g = .bool want)
    (h : ROK P ⟨some d, op, ty, pos, af, some (j, want)⟩ env s x) (k : vcI P l qs K is (upd env d x) s) : vcI P l qs K (i :: is) env s := by
  refine ⟨_, ho, ?_⟩
  rw [hq, hr]
  refine ⟨x, ?_, k⟩
  simp only [stepV, cond_true, stepR, GdOK, ht]
  exact ⟨g, hg, fun _ => h, fun e => absurd hw e⟩
end
section
variable {P : Program} {env : Env} {s : St} {d : Option Nat} {ty : TypeId} {pos : String} {af : Array Edge} {gd : Option (Nat × Bool)} {x : AV}
theorem q_callF {f : FuncId} {al : List Operand} {ts : Array TypeId} {avs : List AV} (hgo : isGo P f = true) (hal : evL env al = some avs)
    (h : ∀ s, CallsA P f avs s fun r s' => r = x ∧ s' = s) : QOK P ⟨d, .call ⟨.value (.func f), al.toArray, ts⟩, ty, pos, af, gd⟩ env x :=
  fun s => e_callF hgo hal (h s)
theorem q_call {f : FuncId} {fo : Operand} {al : List Operand} {ts : Array TypeId} {fs cs avs : List AV} (hgo : isGo P f = true) (hf : evA env fo = some (.clo f fs cs)) (hal : evL env al = some avs)
    (h : ∀ s, CallsA P f (fs ++ (avs ++ cs)) s fun r s' => r = x ∧ s' = s) : QOK P ⟨d, .call ⟨.value fo, al.toArray, ts⟩, ty, pos, af, gd⟩ env x :=
  fun s => e_call hgo hf hal (h s)
end
structure Nd where
  k : Int
  a : Int
  b : Int
  c : Int
deriving DecidableEq, Inhabited
structure Pt where
  name : ByteArray
  bits : List Int
deriving Inhabited
def ndR (x : Nd) : List AV := [.int x.k, .int x.a, .int x.b, .int x.c]
def ptR (p : Pt) : List AV := [.v (.string p.name), ints p.bits]
structure Net where
  nodes : List Nd
  ins : List Pt
  outs : List Pt
def netR (n : Net) : List AV := [.sl 4 (n.nodes.map ndR), .sl 2 (n.ins.map ptR), .sl 2 (n.outs.map ptR)]
abbrev netA (n : Net) : AV := .agg (netR n)
def eU (n : Int) : List AV := [.v (.int .u32 n)]
abbrev natA (l : List Int) : AV := .sl 1 (l.map eU)
def eN (l : List Int) : List AV := [natA l]
abbrev natsA (l : List (List Int)) : AV := .sl 1 (l.map eN)
def eNs (l : List (List Int)) : List AV := [natsA l]
abbrev scriptA (l : List (List (List Int))) : AV := .sl 1 (l.map eNs)
theorem map_take_succ {α β : Type} [Inhabited α] {f : α → β} {l : List α} {i : Nat} (h : i < l.length) : (l.take (i + 1)).map f = (l.take i).map f ++ [f (l.getD i default)] := by
  have e : l.take (i + 1) = l.take i ++ [l.getD i default] := by
    rw [List.take_add_one, List.getElem?_eq_getElem h]
    simp [List.getD_eq_getElem?_getD, h]
  rw [e, List.map_append]; rfl
theorem nthI {α : Type} [Inhabited α] {f : α → List AV} {l : List α} {i : Nat} (h : i < l.length) : nth (l.map f) (i : Int).toNat = some (f (l.getD i default)) := nthM h
theorem maxLen_eq : maxLen = 9223372036854775807 := rfl
end Go.Vc

set_option linter.unusedVariables false
set_option linter.unusedSimpArgs false
namespace Go.Vc
section
variable {P : Program} {env : Env} {s : St} {d : Option Nat} {ty : TypeId} {pos : String} {af : Array Edge} {gd : Option (Nat × Bool)}
variable {a b : Operand} {x y : AV} {t t2 : TypeId} {K : AV → St → Prop}
theorem e_growNil {e sz bb : Nat} {k kn : IntKind} {n : Int} (hT : slT P t = some (e, sz, bb)) (hz : zrOK P e sz = true) (hsz : 0 < sz) (hi2 : inK P t2 = some kn) (ha : evA env a = some (.v (.slice none 0 0))) (hb : evA env b = some (.v (.int k n)))
    (h0 : 0 < n) (h1 : n ≤ 9223372036854775807) (h2 : n.toNat * bb ≤ 140737488355328) (h : ∀ k, s k = none → K (.hdr k sz n.toNat) (upd s k (.arr e sz []))) :
    EffOK P ⟨d, .call ⟨.builtin .append, #[a, b], #[t, t2]⟩, ty, pos, af, gd⟩ env s K := by
  intro w ρ hs hr
  have h3 : ρ a = _ := hr.1 a (by simp [Op.operands, Call.operands]) _ ha
  have h4 : ρ b = _ := hr.1 b (by simp [Op.operands, Call.operands]) _ hb
  obtain ⟨hut, i, hi, hisz, hbb⟩ := slT_spec hT
  obtain ⟨i', z, hi', hzi, hzc, _⟩ := zrOK_spec hz
  rw [hi] at hi'; cases hi'
  have htn : P.underlying t2 = some (.int kn) := by
    unfold inK at hi2
    cases hu : P.underlying t2 with
    | none => simp [hu] at hi2
    | some q => cases q <;> simp [hu] at hi2; subst hi2; rfl
  have hn : (n.toNat : Int) = n := Int.toNat_of_nonneg (by omega)
  have hrun0 := Lib.run_append_nil_zeros (P := P) w t t2 ty e i z k kn hut htn hi hzi n.toNat (by omega) (by omega) (by omega) (by rw [hbb]; omega)
  rw [hn] at hrun0
  have hrun : (execOp ρ ⟨d, .call ⟨.builtin .append, #[a, b], #[t, t2]⟩, ty, pos, af, gd⟩).run P w = .ok (.value (.slice (some ⟨w.heap.size, 0, none⟩) n.toNat (grownCap w n.toNat 0 e))) (w.drew.alloc (.cells (Builtin.zeroCells z.cells n.toNat ++ Builtin.zeroCells z.cells (grownCap w n.toNat 0 e - n.toNat)) e)) := by
    simp [execOp, resolve, invoke, builtin, h3, h4, hrun0]
  rw [hrun]
  have hge := grownCap_ge w n.toNat 0 e
  have hcm := grownCap_le_maxLen w n.toNat 0 e (by simp [maxLen]; omega)
  have hsize : (Builtin.zeroCells z.cells n.toNat ++ Builtin.zeroCells z.cells (grownCap w n.toNat 0 e - n.toNat)).size = grownCap w n.toNat 0 e * sz := by
    simp only [Array.size_append, size_zeroCells, hzc, ← Nat.add_mul]
    congr 1; omega
  obtain ⟨g1, g2, g3⟩ := newRow hs (Le.refl s) _ e sz _ [] hsize (by simp) hcm (by simp [RepRows])
  refine ⟨.hdr w.heap.size sz n.toNat, _, ⟨_, e, rfl, hge, hcm, ?_⟩, g1, g2, h _ g3⟩
  have := heap_alloc_new w.drew (.cells (Builtin.zeroCells z.cells n.toNat ++ Builtin.zeroCells z.cells (grownCap w n.toNat 0 e - n.toNat)) e)
  have hsz' : w.drew.heap.size = w.heap.size := rfl
  rw [hsz'] at this
  unfold World.shape?
  rw [this]
  simp only [hsize]
theorem q_capNil {e : Nat × Nat × Nat} (hT : slT P t = some e) (ha : evA env a = some (.v (.slice none 0 0))) : QOK P ⟨d, .call ⟨.builtin .cap, #[a], #[t]⟩, ty, pos, af, gd⟩ env (.int 0) :=
  q_of fun w s ρ hs hr => by
    have h1 : ρ a = _ := hr.1 a (by simp [Op.operands, Call.operands]) _ ha
    obtain ⟨e1, e2, e3⟩ := e
    obtain ⟨hu, _⟩ := slT_spec hT
    refine ⟨.int .i64 0, ?_, rfl⟩
    simp [execOp, resolve, invoke, builtin, h1, Builtin.cap_, run_underlying hu, goInt]
theorem q_sliceNil {e sz bb : Nat} {hi : Option Operand} (hT : slT P t = some (e, sz, bb)) (ha : evA env a = some (.v (.slice none 0 0))) (hh : hiV 0 hi env = some 0) : QOK P ⟨d, .slice t a none hi none, ty, pos, af, gd⟩ env (.v (.slice none 0 0)) :=
  q_of fun w s ρ hs hr => by
    have h1 : ρ a = _ := hr.1 a (by simp [Op.operands]) _ ha
    have hrun := run_sl (ρ := ρ) (w := w) (ad := none) (len := 0) (cap := 0) (lo := none) hT (fun o n k ho he => hr.1 o (by rcases ho with ho | rfl <;> simp_all [Op.operands]) _ he) rfl hh (Int.le_refl 0) (Int.le_refl 0) (by simp) (Nat.le_refl _)
    simp only [Option.map_none, Int.toNat_zero] at hrun
    have hsl : sliced none 0 0 0 sz = .slice none 0 0 := by simp [sliced]
    rw [hsl] at hrun
    exact ⟨.slice none 0 0, by simp [execOp, h1, hrun], rfl⟩
theorem Cv.frzC {s0 : St} {k : Nat} {cs : List AV} (h0 : s0 k = none) (hs : s = upd s0 k (.cells cs)) : Le s0 s ∧ Cv s s0 (ptv k 0) (.box cs) := by
  subst hs
  have hle : Le s0 (upd s0 k (.cells cs)) := fun i x hi => by
    by_cases e : i = k
    · subst e; rw [h0] at hi; cases hi
    · rw [upd_ne _ _ e]; exact hi
  refine ⟨hle, fun w y hs hr => ?_⟩
  obtain rfl : y = _ := hr
  obtain ⟨cur, t, h1, h2⟩ := hs.ok k _ (upd_same _ _ _)
  refine ⟨k, 0, cur.toList, rfl, RepL.mono (Fr.of_le hle) _ _ h2, fun _ hm => ?_, fun j u hj => ?_⟩
  · obtain ⟨j, r, h3, h4⟩ := hm
    have := hs.disj j r k _ k (hle j r h3) (upd_same _ _ _) h4 rfl
    subst this; rw [h0] at h3; cases h3
  · rw [Nat.zero_add, cell_res h1]; simpa using hj
theorem vc_frzC {N : Nat} {Q : EQ} {c : Code} {s0 : St} {i k : Nat} {cs : List AV} (h0 : s0 k = none) (hs : s = upd s0 k (.cells cs)) (hi : env i = some (ptv k 0)) (h : VC P N c Q (upd env i (.box cs)) s0) : VC P N c Q env s := by
  obtain ⟨h1, h2⟩ := Cv.frzC h0 hs
  refine vc_conv h1 (fun j y hy => ?_) h
  by_cases e : j = i
  · subst e; rw [upd_same] at hy; cases hy; exact ⟨_, hi, h2⟩
  · rw [upd_ne _ _ e] at hy; exact ⟨y, hy, Cv.le h1 y⟩
theorem e_copy {e bb : Nat} {kd : Nat} {xs ys : List (List AV)} {ts : TypeId} (hT : slT P t = some (e, 1, bb)) (ha : evA env a = some (.hdr kd 1 xs.length)) (hb : evA env b = some y) (hk : s kd = some (.arr e 1 xs)) (hsrc : SrcOK s y 1 ys) (hc : rowsC1 ys) (hl : xs.length = ys.length)
    (h : K (.int ys.length) (upd s kd (.arr e 1 ys))) : EffOK P ⟨d, .call ⟨.builtin .copy, #[a, b], #[t, ts]⟩, ty, pos, af, gd⟩ env s K := by
  intro w ρ hs hr
  obtain ⟨cap, e', h1, h2, h3, h4⟩ := hr.1 a (by simp [Op.operands, Call.operands]) _ ha
  have hu := hr.1 b (by simp [Op.operands, Call.operands]) _ hb
  obtain ⟨ad, c, us, h5, h6, h7⟩ := hsrc w _ hs hu
  obtain ⟨hut, i, hi, hisz, hbb⟩ := slT_spec hT
  have his : (P.info? e).map (·.size) = some 1 := by rw [hi]; simp [hisz]
  have hul : us.length = ys.length := by have := RepRows.length h6; simpa using this
  obtain ⟨cap', cur, g1, g2, g3, g4, g5⟩ := hs.ok kd _ hk
  by_cases hys : ys = []
  · subst hys
    have hxs : xs = [] := List.eq_nil_of_length_eq_zero (by simpa using hl)
    subst hxs
    have hrun0 := run_copy_none (P := P) w t ts ty e (some ⟨kd, 0, none⟩) ad 0 cap 0 c hut his (by simp)
    have hrun : (execOp ρ ⟨d, .call ⟨.builtin .copy, #[a, b], #[t, ts]⟩, ty, pos, af, gd⟩).run P w = .ok (.value (goInt 0)) w := by
      simp only [List.length_nil] at h1 h5
      simp [execOp, resolve, invoke, builtin, h1, h5, hrun0]
    rw [hrun]
    refine ⟨.int 0, _, rfl, ?_, ?_, h⟩
    · rwa [upd_self _ _ _ hk]
    · rw [upd_self _ _ _ hk]; exact Fr.refl _ _
  · obtain ⟨b', off, rfl, hcs⟩ := h7.resolve_left hys
    have hrun0 := run_copy_row (P := P) w t ts ty e kd 0 xs.length cap ⟨b', off, none⟩ ys.length c cur e us hut his g1 (by rw [hul, hl]; simp) (fun j v hj => by rw [Addr.add_lit]; exact hcs j v hj)
      (by rw [hul]; omega) (RepRows.c1 hc h6)
    have hrun : (execOp ρ ⟨d, .call ⟨.builtin .copy, #[a, b], #[t, ts]⟩, ty, pos, af, gd⟩).run P w = .ok (.value (goInt us.length)) (w.setRow kd (cur.toList.take 0 ++ us ++ cur.toList.drop (0 + us.length)).toArray) := by
      simp only [execOp, resolve, invoke, builtin, Sem.run_bind, Sem.run_pure, Result.andThen_ok, List.map_toArray, List.map_cons, List.map_nil, h1, h5, hrun0]
    rw [hrun]
    have hcur' : (cur.toList.take 0 ++ us ++ cur.toList.drop (0 + us.length)).toArray.size = cur.size := by
      simp; omega
    obtain ⟨s1, s2⟩ := setRowS (cur' := (cur.toList.take 0 ++ us ++ cur.toList.drop (0 + us.length)).toArray) (r := .arr e 1 ys) hs hk (fun b => Iff.rfl) (fun b => Iff.rfl) g1 hcur'
      (fun f => ⟨cap', _, setRow_heap w kd cur _ e _ g1, by rw [hcur', g2], by omega, g4, by
        have : (cur.toList.take 0 ++ us ++ cur.toList.drop (0 + us.length)).toArray.toList.take (ys.length * 1) = us := by
          simp only [List.take_zero, List.nil_append, Nat.mul_one]
          rw [← hul]; exact List.take_left
        rw [this]
        exact RepRows.mono f _ _ _ h6⟩)
    refine ⟨_, _, ?_, s1, s2, h⟩
    rw [hul]; rfl
def mpT (P : Program) (t : TypeId) : Option (TypeId × TypeId) := match P.underlying t with
  | some (.map k e) => some (k, e)
  | _ => none
def plKey (P : Program) (t : TypeId) : Bool := match P.underlying t with
  | some .string => true
  | _ => false
def zvA (P : Program) (t : TypeId) : Option Value := match P.info? t with
  | some i => i.zero
  | none => none
theorem zvA_spec {zs : Value} (h : zvA P t = some zs) (w : World) : (zeroValue t).run P w = .ok zs w := by
  unfold zvA at h
  cases hi : P.info? t with
  | none => simp [hi] at h
  | some i => simp only [hi] at h; simp [zeroValue, typeInfo, hi, h]
theorem mpT_spec {k e : TypeId} (h : mpT P t = some (k, e)) : P.underlying t = some (.map k e) := by
  unfold mpT at h
  cases hu : P.underlying t with
  | none => simp [hu] at h
  | some q => cases q <;> simp [hu] at h; obtain ⟨rfl, rfl⟩ := h; rfl
theorem plKey_spec (h : plKey P t = true) : P.underlying t = some .string := by
  unfold plKey at h
  cases hu : P.underlying t with
  | none => simp [hu] at h
  | some q => cases q <;> simp [hu] at h; rfl
def keyV (b : ByteArray) : Value := .string b
def mapGet (ps : List (ByteArray × AV)) (k : ByteArray) : Option AV := match ps with
  | [] => none
  | (j, x) :: ps => if j = k then some x else mapGet ps k
def mapR (ps : List (ByteArray × AV)) : Res := .map (ps.map fun p => (.string p.1, p.2))
theorem bytesBeq (a b : ByteArray) : (a == b) = decide (a = b) := by
  by_cases h : a = b
  · rw [decide_eq_true h]; exact (MapKept.bytes_beq a b).2 h
  · rw [decide_eq_false h]
    cases hb : a == b with
    | false => rfl
    | true => exact absurd ((MapKept.bytes_beq a b).1 hb) h
theorem findNow_first {w : World} {M : Mset} {k : ByteArray} : ∀ (ps : List (ByteArray × AV)) (es : List MapEntry) (i : Nat), MapRep w M (ps.map fun p => (.string p.1, p.2)) es →
    (Instr.findNow .string (.string k) es i = some Option.none ∧ mapGet ps k = none) ∨ ∃ j v x, Instr.findNow .string (.string k) es i = some (some (j, v)) ∧ mapGet ps k = some x ∧ Rep w M x v
  | [], _, i, h => by cases h; exact .inl ⟨rfl, rfl⟩
  | (j, x) :: ps, _, i, ⟨e1, es', rfl, h2, h3, h4⟩ => by
    by_cases e : j = k
    · right
      refine ⟨i, e1.val, x, ?_, by simp [mapGet, e], h3⟩
      simp [Instr.findNow, Instr.sameNow, h2, e, bytesBeq]
    · have hne : ¬ k = j := fun h => e h.symm
      rcases findNow_first (k := k) ps es' (i + 1) h4 with ⟨g1, g2⟩ | ⟨j', v, x', g1, g2, g3⟩
      · left
        refine ⟨?_, by simp [mapGet, e, g2]⟩
        simp [Instr.findNow, Instr.sameNow, h2, hne, g1, bytesBeq]
      · right
        refine ⟨j', v, x', ?_, by simp [mapGet, e, g2], g3⟩
        simp [Instr.findNow, Instr.sameNow, h2, hne, g1, bytesBeq]
theorem e_makeMap (h : ∀ k, s k = none → K (.v (.map (some k))) (upd s k (mapR []))) : EffOK P ⟨d, .makeMap t none, ty, pos, af, gd⟩ env s K := by
  intro w ρ hs hr
  have hrun : (execOp ρ ⟨d, .makeMap t none, ty, pos, af, gd⟩).run P w = .ok (.value (.map (some w.heap.size))) (w.alloc (.map #[] 0)) := by
    simp [execOp, Instr.makeMap]
  rw [hrun]
  have hst := hs.step (w' := w.alloc (.map #[] 0)) (k := w.heap.size) (r := mapR []) rfl rfl rfl (by simp) (fun b hb => by unfold World.shape?; rw [heap_alloc_old w _ hb]) (fun b hb _ => heap_alloc_old w _ hb)
    (fun b hb => by cases hb; exact ⟨by simp, fun h => by omega⟩) (fun f => ⟨#[], 0, heap_alloc_new w _, rfl⟩)
  exact ⟨.v (.map (some w.heap.size)), _, rfl, hst.1, hst.2, h _ (Mut.none_of_ge hs (Nat.le_refl _))⟩
theorem e_lookup {kt et k : Nat} {ps : List (ByteArray × AV)} {m : ByteArray} {zs : Value} (hT : mpT P t = some (kt, et)) (hk0 : plKey P kt = true) (hz : zvA P et = some zs) (ha : evA env a = some (.v (.map (some k)))) (hb : evA env b = some (.v (.string m))) (hk : s k = some (mapR ps)) (hx : (mapGet ps m).getD (.v zs) = x)
    (h : K x s) : EffOK P ⟨d, .lookup t a b false, ty, pos, af, gd⟩ env s K := by
  subst hx
  intro w ρ hs hr
  have h1 : ρ a = _ := hr.1 a (by simp [Op.operands]) _ ha
  have h2 : ρ b = _ := hr.1 b (by simp [Op.operands]) _ hb
  have hu := mpT_spec hT
  have hs0 := plKey_spec hk0
  have hz2 := zvA_spec hz
  obtain ⟨es, clock, g1, g2⟩ := hs.ok k _ hk
  have hck := MapKept.run_checkKey (P := P) (w := w) (d := .string) (k := .string m) hs0 trivial es.isEmpty 9999
  rcases findNow_first (k := m) ps es.toList 0 g2 with ⟨g3, g4⟩ | ⟨j, v, x, g3, g4, g5⟩
  · have hrun : (execOp ρ ⟨d, .lookup t a b false, ty, pos, af, gd⟩).run P w = .ok (.value zs) w := by
      simp [execOp, Instr.lookup, h1, h2, run_underlying hu, MapKept.run_getObj_map g1, hck, MapKept.run_findKey hs0 g3, hz2]
    rw [hrun]
    rw [g4] at h
    exact ⟨.v zs, s, rfl, hs, Fr.refl _ _, h⟩
  · have hrun : (execOp ρ ⟨d, .lookup t a b false, ty, pos, af, gd⟩).run P w = .ok (.value v) w := by
      simp [execOp, Instr.lookup, h1, h2, run_underlying hu, MapKept.run_getObj_map g1, hck, MapKept.run_findKey hs0 g3]
    rw [hrun]
    rw [g4] at h
    exact ⟨x, s, g5, hs, Fr.refl _ _, h⟩
theorem MapRep.snoc {w : World} {M : Mset} {k : Value} {x : AV} {v : Value} {n : Nat} (hv : Rep w M x v) : ∀ {ps : List (Value × AV)} {es : List MapEntry}, MapRep w M ps es → MapRep w M (ps ++ [(k, x)]) (es ++ [{ key := k, val := v, born := n }])
  | [], _, h => by cases h; exact ⟨_, [], rfl, rfl, hv, rfl⟩
  | (j, y) :: ps, _, ⟨e1, es', rfl, h2, h3, h4⟩ => ⟨e1, _, rfl, h2, h3, MapRep.snoc hv h4⟩
theorem e_mapNew {kt et k : Nat} {ps : List (ByteArray × AV)} {m : ByteArray} {c : Operand} (hT : mpT P t = some (kt, et)) (hk0 : plKey P kt = true) (ha : evA env a = some (.v (.map (some k)))) (hb : evA env b = some (.v (.string m))) (hc : evA env c = some x) (hk : s k = some (mapR ps)) (hn : mapGet ps m = none)
    (h : K (.v undef) (upd s k (mapR (ps ++ [(m, x)])))) : EffOK P ⟨d, .mapUpdate t a b c, ty, pos, af, gd⟩ env s K := by
  intro w ρ hs hr
  have h1 : ρ a = _ := hr.1 a (by simp [Op.operands]) _ ha
  have h2 : ρ b = _ := hr.1 b (by simp [Op.operands]) _ hb
  have h3 := hr.1 c (by simp [Op.operands]) _ hc
  have hu := mpT_spec hT
  have hs0 := plKey_spec hk0
  obtain ⟨es, clock, g1, g2⟩ := hs.ok k _ hk
  have hck := MapKept.run_checkKey (P := P) (w := w) (d := .string) (k := .string m) hs0 trivial false 9999
  rcases findNow_first (k := m) ps es.toList 0 g2 with ⟨g3, g4⟩ | ⟨j, v, x, g3, g4, g5⟩
  · let w' : World := { w with heap := w.heap.setIfInBounds k (.map (es.push { key := .string m, val := ρ c, born := clock }) (clock + 1)) }
    have hrun : (execOp ρ ⟨d, .mapUpdate t a b c, ty, pos, af, gd⟩).run P w = .ok .skip w' := by
      simp [execOp, Instr.mapUpdate, h1, h2, run_underlying hu, MapKept.run_getObj_map g1, hck, MapKept.run_findKey hs0 g3, MapKept.run_setObj_map _ g1, w']
    rw [hrun]
    have hh := MapKept.heap_set (o' := .map (es.push { key := .string m, val := ρ c, born := clock }) (clock + 1)) g1
    have hst := hs.step (w' := w') (k := k) (r := mapR (ps ++ [(m, x)])) rfl rfl rfl (by simp [w'])
      (fun b hb => by
        unfold World.shape?
        by_cases e : b = k
        · subst e
          have : w'.heap[b]? = _ := hh.1
          rw [this, g1]
        · have : w'.heap[b]? = w.heap[b]? := hh.2 b e
          rw [this])
      (fun b hb hn' => hh.2 b fun e => hn' _ hk (by rw [e]; rfl))
      (fun b hb => by cases hb; exact ⟨by simpa [w'] using (Array.getElem?_eq_some_iff.1 g1).1, fun _ => ⟨_, hk, rfl⟩⟩)
      (fun f => ⟨_, _, hh.1, by
        rw [Array.toList_push, List.map_append]
        exact MapRep.snoc (Rep.mono f _ _ h3) (MapRep.mono f _ _ g2)⟩)
    exact ⟨.v undef, _, rfl, hst.1, hst.2, h⟩
  · rw [g4] at hn; cases hn
end
end Go.Vc

set_option linter.unusedVariables false
set_option linter.unusedSimpArgs false
namespace Go.Vc
def intFields (P : Program) : List Field → Nat → Bool
  | [], _ => true
  | f :: fs, i => !(f.name == "_") && (Nat.beq f.offset i && (isSc P f.type && ((inK P f.type).isSome && intFields P fs (i + 1))))
def stI (P : Program) (t : TypeId) : Option Nat := match P.underlying t with
  | some (.struct fs) => bif intFields P fs.toList 0 && (!P.stoodInHeld t && !P.eqGuardType P.depth t) then some fs.size else none
  | _ => none
def iv (m : Int) : Value := .int .i64 m
theorem inK_some {P : Program} {t : TypeId} (h : (inK P t).isSome = true) : ∃ k, P.underlying t = some (.int k) := by
  unfold inK at h
  cases hu : P.underlying t with
  | none => simp [hu] at h
  | some q => cases q <;> simp [hu] at h; exact ⟨_, rfl⟩
theorem part_at {P : Program} {t : TypeId} (h : isSc P t = true) (w : World) (pre : List Value) (v : Value) (post : List Value) : (part t (pre ++ v :: post).toArray pre.length).run P w = .ok v w := by
  simp [part, isAgg_sc h]
theorem eqFields_run {P : Program} (w : World) (d : Nat) : ∀ (fs : List Field) (i : Nat) (ms ns : List Int) (p q : List Value), intFields P fs i = true → ms.length = fs.length → ns.length = fs.length → p.length = i → q.length = i →
    (Op.eqFields (d + 1) (p ++ ms.map iv).toArray (q ++ ns.map iv).toArray fs).run P w = .ok (decide (ms = ns)) w
  | [], i, ms, ns, p, q, _, h2, h3, _, _ => by
    have e1 : ms = [] := List.eq_nil_of_length_eq_zero h2
    have e2 : ns = [] := List.eq_nil_of_length_eq_zero h3
    subst e1 e2
    simp [Op.eqFields]
  | f :: fs, i, m :: ms, n :: ns, p, q, h1, h2, h3, h4, h5 => by
    simp only [intFields, Bool.and_eq_true, Bool.not_eq_true', beq_eq_false_iff_ne] at h1
    obtain ⟨hn, ho, hs, hk, hr⟩ := h1
    obtain ⟨k, hk⟩ := inK_some hk
    have ho := Nat.eq_of_beq_eq_true ho
    have a1 : (part f.type (p ++ (m :: ms).map iv).toArray f.offset).run P w = .ok (iv m) w := by
      rw [ho, ← h4]; exact part_at hs w p (iv m) (ms.map iv)
    have a2 : (part f.type (q ++ (n :: ns).map iv).toArray f.offset).run P w = .ok (iv n) w := by
      rw [ho, ← h5]; exact part_at hs w q (iv n) (ns.map iv)
    have a3 : (Op.equalIn (d + 1) f.type (iv m) (iv n)).run P w = .ok (m == n) w := run_equalIn_int w d f.type .i64 k m n hk
    have ih := eqFields_run w d fs (i + 1) ms ns (p ++ [iv m]) (q ++ [iv n]) hr (by simpa using h2) (by simpa using h3) (by simp [h4]) (by simp [h5])
    simp only [List.append_assoc, List.singleton_append] at ih
    have ih' : (Op.eqFields (d + 1) (p ++ (m :: ms).map iv).toArray (q ++ (n :: ns).map iv).toArray fs).run P w = .ok (decide (ms = ns)) w := ih
    rw [Op.eqFields, if_pos hn]
    simp only [Sem.run_bind, Sem.run_ite, a1, a2, a3, Result.andThen_ok]
    by_cases e : m = n
    · subst e; simp only [beq_self_eq_true, Bool.not_true, Bool.false_eq_true, if_false]; rw [ih']; simp
    · have : (m == n) = false := by simpa using e
      simp [this, e]
  | f :: fs, i, [], _, _, _, _, h2, _, _, _ => by simp at h2
  | f :: fs, i, _ :: _, [], _, _, _, _, h3, _, _ => by simp at h3
theorem stI_spec {P : Program} {t n : Nat} (h : stI P t = some n) : P.underlying t = some (.struct (P.fieldsOf t)) ∧ intFields P (P.fieldsOf t).toList 0 = true ∧ P.stoodInHeld t = false ∧ P.eqGuardType P.depth t = false ∧ (P.fieldsOf t).size = n := by
  unfold stI at h
  cases hu : P.underlying t with
  | none => simp [hu] at h
  | some q =>
    cases q with
    | struct fs =>
      simp only [hu] at h
      have hf : P.fieldsOf t = fs := by simp [Program.fieldsOf, hu]
      rw [hf]
      cases hb : (intFields P fs.toList 0 && (!P.stoodInHeld t && !P.eqGuardType P.depth t)) <;> simp only [hb, cond_true, cond_false] at h
      · cases h
      · cases h
        simp only [Bool.and_eq_true, Bool.not_eq_true'] at hb
        exact ⟨rfl, hb.1, hb.2.1, hb.2.2, rfl⟩
    | _ => simp [hu] at h
theorem RepL_iv {w : World} {M : Mset} : ∀ {ms : List Int} {us : List Value}, RepL w M (ms.map fun m => AV.int m) us → us = ms.map iv
  | [], _, h => h
  | m :: ms, _, ⟨u, us', rfl, h2, h3⟩ => by rw [RepL_iv h3]; cases h2; rfl
section
variable {P : Program} {env : Env} {d : Option Nat} {ty : TypeId} {pos : String} {af : Array Edge} {gd : Option (Nat × Bool)}
variable {a b : Operand} {t t2 : TypeId}
theorem q_neN {n : Nat} {ms ns : List Int} {cs ds : List AV} (hT : stI P t = some n) (ha : evA env a = some (.agg cs)) (hb : evA env b = some (.agg ds)) (hc : cs = ms.map fun m => AV.int m) (hd : ds = ns.map fun m => AV.int m) (h1 : ms.length = n) (h2 : ns.length = n) :
    QOK P ⟨d, .binOp .neq t a b t2, ty, pos, af, gd⟩ env (.bool (!decide (ms = ns))) :=
  q_of fun w s ρ hs hr => by
    subst hc hd
    obtain ⟨us, g1, g2⟩ := hr.1 a (by simp [Op.operands]) _ ha
    obtain ⟨vs, g3, g4⟩ := hr.1 b (by simp [Op.operands]) _ hb
    obtain rfl := RepL_iv g2
    obtain rfl := RepL_iv g4
    obtain ⟨k1, k2, k3, k4, k5⟩ := stI_spec hT
    have hlen : (P.fieldsOf t).toList.length = n := by simpa using k5
    have hrun : (Op.equalIn 10000 t (.agg (ms.map iv).toArray) (.agg (ns.map iv).toArray)).run P w = .ok (decide (ms = ns)) w := by
      rw [show (10000 : Nat) = 9999 + 1 from rfl, run_equalIn_struct w 9999 t _ _ k1 k3]
      exact eqFields_run w 9998 _ 0 ms ns [] [] k2 (by rw [h1, hlen]) (by rw [h2, hlen]) rfl rfl
    refine ⟨.bool (!decide (ms = ns)), ?_, rfl⟩
    simp [execOp, g1, g3, run_eqGuard_agg w .neq t a b _ _ k4, run_neq_struct, hrun]
theorem q_eqN {n : Nat} {ms ns : List Int} {cs ds : List AV} (hT : stI P t = some n) (ha : evA env a = some (.agg cs)) (hb : evA env b = some (.agg ds)) (hc : cs = ms.map fun m => AV.int m) (hd : ds = ns.map fun m => AV.int m) (h1 : ms.length = n) (h2 : ns.length = n) :
    QOK P ⟨d, .binOp .eql t a b t2, ty, pos, af, gd⟩ env (.bool (decide (ms = ns))) :=
  q_of fun w s ρ hs hr => by
    subst hc hd
    obtain ⟨us, g1, g2⟩ := hr.1 a (by simp [Op.operands]) _ ha
    obtain ⟨vs, g3, g4⟩ := hr.1 b (by simp [Op.operands]) _ hb
    obtain rfl := RepL_iv g2
    obtain rfl := RepL_iv g4
    obtain ⟨k1, k2, k3, k4, k5⟩ := stI_spec hT
    have hlen : (P.fieldsOf t).toList.length = n := by simpa using k5
    have hrun : (Op.equalIn 10000 t (.agg (ms.map iv).toArray) (.agg (ns.map iv).toArray)).run P w = .ok (decide (ms = ns)) w := by
      rw [show (10000 : Nat) = 9999 + 1 from rfl, run_equalIn_struct w 9999 t _ _ k1 k3]
      exact eqFields_run w 9998 _ 0 ms ns [] [] k2 (by rw [h1, hlen]) (by rw [h2, hlen]) rfl rfl
    refine ⟨.bool (decide (ms = ns)), ?_, rfl⟩
    simp [execOp, g1, g3, run_eqGuard_agg w .eql t a b _ _ k4, run_eql_struct, hrun]
end
theorem Le.new2 {s : St} {k : Nat} {r1 r2 : Res} (h : s k = none) : Le s (upd (upd s k r1) k r2) := fun i x hi => by
  by_cases e : i = k
  · subst e; rw [h] at hi; cases hi
  · rw [upd_ne _ _ e, upd_ne _ _ e]; exact hi
theorem Le.new1 {s : St} {k : Nat} {r1 : Res} (h : s k = none) : Le s (upd s k r1) := fun i x hi => by
  by_cases e : i = k
  · subst e; rw [h] at hi; cases hi
  · rw [upd_ne _ _ e]; exact hi
theorem and1_i64 (m : Int) : bitsV .and .i64 m 1 = m % 2 := by
  show IntKind.i64.wrap (((BitVec.ofInt 64 m &&& BitVec.ofInt 64 1).toNat : Nat) : Int) = _
  have h2 : (BitVec.ofInt 64 m &&& BitVec.ofInt 64 1).toNat = (m % 18446744073709551616).toNat % 2 := by
    rw [BitVec.toNat_and]
    have : (BitVec.ofInt 64 m).toNat = (m % 18446744073709551616).toNat := by rw [BitVec.toNat_ofInt]; rfl
    rw [this]
    have e1 : (BitVec.ofInt 64 1).toNat = 1 := rfl
    rw [e1, Nat.and_one_is_mod]
  rw [h2, IntKind.wrap_i64]
  omega
end Go.Vc

set_option linter.unusedVariables false
set_option linter.unusedSimpArgs false
namespace Go.Vc
def ovs (e sz : Nat) (l : List (List (List AV))) : List OV := l.map fun xs => .r e sz xs
theorem OVsOK_nils {w : World} {M : Mset} (e sz : Nat) : ∀ n, OVsOK w M (ovs e sz (List.replicate n [])) (List.replicate n (Value.slice none 0 0)) []
  | 0 => ⟨rfl, rfl⟩
  | n + 1 => ⟨_, _, rfl, .inl ⟨rfl, ⟨none, rfl⟩, OVsOK_nils e sz n⟩⟩
section
variable {P : Program} {env : Env} {s : St} {d : Option Nat} {ty : TypeId} {pos : String} {af : Array Edge} {gd : Option (Nat × Bool)}
variable {a b : Operand} {x y : AV} {t t2 : TypeId} {K : AV → St → Prop}
theorem e_makeO {e bb : Nat} {k1 k2 : IntKind} {l : Int} {n : Nat} {e2 sz2 : Nat} (hT : slT P t = some (e, 1, bb)) (hz : zrA P e = some [.slice none 0 0]) (ha : evA env a = some (.v (.int k1 l))) (hb : evA env b = some (.v (.int k2 l))) (hn : l = (n : Int))
    (hc : (bb : Int) * n ≤ 281474976710656) (hc2 : (n : Int) ≤ 9223372036854775807) (h : ∀ k F, s k = none → K (.hdr k 1 n) (upd s k (.obj F (ovs e2 sz2 (List.replicate n []))))) :
    EffOK P ⟨d, .makeSlice t a b, ty, pos, af, gd⟩ env s K := by
  subst hn
  intro w ρ hs hr
  have ha' : ρ a = _ := hr.1 a (by simp [Op.operands]) _ ha
  have hb' : ρ b = _ := hr.1 b (by simp [Op.operands]) _ hb
  obtain ⟨hut, i, hi, hsz, hbb⟩ := slT_spec hT
  have hz' := hz
  unfold zrA at hz'
  rw [hi] at hz'
  cases hzi : i.zero with
  | none => simp [hzi] at hz'
  | some z =>
    simp only [hzi] at hz'
    cases hbq : Nat.beq z.cells.size i.size <;> simp only [hbq, cond_true, cond_false] at hz'
    · cases hz'
    · have hzl : z.cells.toList = [.slice none 0 0] := by simpa using hz'
      have hzs : z.cells.size = 1 := by rw [← Array.length_toList, hzl]; rfl
      have hrun0 := run_make (P := P) w t e i z hut hi hzi k1 k2 n n (by omega) (by omega) (by rw [hbb]; exact hc) hc2
      rw [hsz, ← hzs] at hrun0
      simp only [Int.toNat_natCast] at hrun0
      have hcell : (madeCells z.cells (n * z.cells.size)).toList = List.replicate n (Value.slice none 0 0) := by
        rw [madeCells_list z.cells (by rw [hzl]; simp), hzl]
        induction n with
        | zero => rfl
        | succ n ih => simp [List.replicate_succ, List.flatten_replicate_singleton]
      obtain ⟨g1, g2⟩ := newE hs (madeCells z.cells (n * z.cells.size)) e (.obj [w.heap.size] (ovs e2 sz2 (List.replicate n []))) (fun b hb => by simpa [fp] using hb)
        (fun f => ⟨_, e, [], heap_alloc_new w _, rfl, by simp, by rw [hcell]; exact OVsOK_nils e2 sz2 n⟩)
      have hrun : (execOp ρ ⟨d, .makeSlice t a b, ty, pos, af, gd⟩).run P w = .ok (.value (.slice (some ⟨w.heap.size, 0, none⟩) n n)) (w.alloc (.cells (madeCells z.cells (n * z.cells.size)) e)) := by
        simp [execOp, ha', hb', hrun0]
      rw [hrun]
      refine ⟨.hdr w.heap.size 1 n, _, ⟨n, e, rfl, Nat.le_refl _, by simp only [maxLen]; omega, ?_⟩, g1, g2, h _ _ (Mut.none_of_ge hs (Nat.le_refl _))⟩
      unfold World.shape?
      rw [heap_alloc_new]
      simp [size_madeCells, hzs]
theorem OVsOK.rows {w : World} {M : Mset} {e sz : Nat} : ∀ {xss : List (List (List AV))} {us : List Value} {G : List Nat}, OVsOK w M (ovs e sz xss) us G → (∀ b ∈ G, ¬ M b) → RepRows w M 1 (xss.map fun xs => [.sl sz xs]) us
  | [], _, _, ⟨h, _⟩, _ => h
  | xs :: xss, _, G, ⟨u, us', rfl, h⟩, hm => by
    rcases h with ⟨rfl, ⟨ad, rfl⟩, h3⟩ | ⟨g, cap, G', rfl, ⟨cur, h4, h5, h6, h7, h8⟩, rfl, h9, h3⟩
    · exact ⟨[_], us', rfl, rfl, ⟨_, [], rfl, ⟨ad, 0, [], rfl, Nat.le_refl _, Nat.zero_le _, rfl, .inl rfl⟩, rfl⟩, OVsOK.rows h3 hm⟩
    · refine ⟨[_], us', rfl, rfl, ⟨_, [], rfl, ⟨_, cap, cur.toList.take (xs.length * sz), rfl, h6, h7, h8, .inr ⟨g, 0, rfl, fun _ => hm g (by simp), fun j u hj => ?_⟩⟩, rfl⟩, OVsOK.rows h3 (fun b hb => hm b (by simp [hb]))⟩
      rw [Nat.zero_add, cell_res h4]
      rw [List.getElem?_take] at hj
      split at hj
      · simpa using hj
      · cases hj
theorem Cv.frzO {s0 : St} {k e sz : Nat} {F : List Nat} {xss : List (List (List AV))} (h0 : s0 k = none) (hs : s = upd s0 k (.obj F (ovs e sz xss))) : Le s0 s ∧ Cv s s0 (.hdr k 1 xss.length) (.sl 1 (xss.map fun xs => [.sl sz xs])) := by
  subst hs
  have hle : Le s0 (upd s0 k (.obj F (ovs e sz xss))) := Le.new1 h0
  refine ⟨hle, fun w y hs hr => ?_⟩
  obtain ⟨cap, e', rfl, h1, h2, h3⟩ := hr
  obtain ⟨cur, t, G, h4, rfl, h5, h6⟩ := hs.ok k _ (upd_same _ _ _)
  have hm : ∀ b ∈ k :: G, ¬ Mut s0 b := by
    rintro b hb ⟨j, r, h7, h8⟩
    have := hs.disj j r k _ b (hle j r h7) (upd_same _ _ _) h8 hb
    subst this; rw [h0] at h7; cases h7
  have h6' : OVsOK w (Mut s0) (ovs e sz xss) cur.toList G := OVsOK.congr (fun b hb => hb.le hle) h6
  refine ⟨_, cap, cur.toList, by simp, by simpa using h1, h2, OVsOK.rows h6' (fun b hb => hm b (by simp [hb])), .inr ⟨k, 0, rfl, fun _ => hm k (by simp), fun j u hj => ?_⟩⟩
  rw [Nat.zero_add, cell_res h4]; simpa using hj
variable {N : Nat} {Q : EQ}
theorem vc_frzO {c : Code} {s0 : St} {i k e sz : Nat} {F : List Nat} {xss : List (List (List AV))} {n : Nat} (h0 : s0 k = none) (hs : s = upd s0 k (.obj F (ovs e sz xss))) (hi : env i = some (.hdr k 1 n)) (hn : n = xss.length) (h : VC P N c Q (upd env i (.sl 1 (xss.map fun xs => [.sl sz xs]))) s0) : VC P N c Q env s := by
  subst hn
  obtain ⟨h1, h2⟩ := Cv.frzO h0 hs
  refine vc_conv h1 (fun j y hy => ?_) h
  by_cases e : j = i
  · subst e; rw [upd_same] at hy; cases hy; exact ⟨_, hi, h2⟩
  · rw [upd_ne _ _ e] at hy; exact ⟨y, hy, Cv.le h1 y⟩
theorem ovs_split {e sz : Nat} {xss : List (List (List AV))} {i : Nat} (h : i < xss.length) : ovs e sz xss = ovs e sz (xss.take i) ++ .r e sz (xss.getD i []) :: ovs e sz (xss.drop (i + 1)) := by
  unfold ovs
  have e1 : xss.getD i [] = xss[i] := by simp [List.getD_eq_getElem?_getD, h]
  have e2 : xss = xss.take i ++ xss[i] :: xss.drop (i + 1) := by rw [← List.drop_eq_getElem_cons h, List.take_append_drop]
  rw [e1]
  conv => lhs; rw [e2]
  rw [List.map_append, List.map_cons]
theorem ovs_join {e sz : Nat} {xss : List (List (List AV))} {i : Nat} (h : i < xss.length) (ys : List (List AV)) : ovs e sz (xss.take i) ++ .r e sz ys :: ovs e sz (xss.drop (i + 1)) = ovs e sz (xss.set i ys) := by
  unfold ovs
  rw [List.set_eq_take_append_cons_drop, if_pos h]
  simp
theorem vc_openI {c : Code} {p : Nat} {F : List Nat} {e sz i : Nat} {xss : List (List (List AV))} (hp : s p = some (.obj F (ovs e sz xss))) (hi : i < xss.length)
    (h : ∀ x F' s1, OwnSt (upd s p (.obj F' (ovs e sz (xss.take i) ++ .a x :: ovs e sz (xss.drop (i + 1))))) x e sz (xss.getD i []) s1 → VC P N c Q env s1) : VC P N c Q env s := by
  rw [ovs_split hi] at hp
  exact vc_openAt hp h
theorem nth_mid {l q : List OV} {x : OV} {n : Nat} (h : l.length = n) : nth (l ++ x :: q) n = some x := by
  rw [nth_eq]; subst h; simp
theorem set_midO {l q : List OV} {x y : OV} {n : Nat} (h : l.length = n) : (l ++ x :: q).set n y = l ++ y :: q := by subst h; simp
theorem ovs_len {e sz : Nat} {l : List (List (List AV))} : (ovs e sz l).length = l.length := by simp [ovs]
theorem vc_shutI {c : Code} {p : Nat} {F' : List Nat} {e sz i : Nat} {xss : List (List (List AV))} {ys : List (List AV)} {s1 : St} (hi : i < xss.length) (ho : OwnSt (upd s p (.obj F' (ovs e sz (xss.take i) ++ .a x :: ovs e sz (xss.drop (i + 1))))) x e sz ys s1)
    (h : ∀ F, VC P N c Q env (upd s p (.obj F (ovs e sz (xss.set i ys))))) : VC P N c Q env s1 :=
  vc_shutAt ho fun F => by rw [ovs_join hi]; exact h F
end
end Go.Vc

set_option linter.unusedVariables false
set_option linter.unusedSimpArgs false
set_option maxRecDepth 100000
namespace Go.Vc
def eB (b : UInt8) : List AV := [.v (.int .u8 b.toNat)]
section
variable {P : Program} {env : Env} {s : St} {d : Option Nat} {ty : TypeId} {pos : String} {af : Array Edge} {gd : Option (Nat × Bool)}
variable {a b : Operand} {x y : AV} {t t2 : TypeId}
theorem inK_spec {k : IntKind} (h : inK P t = some k) : P.underlying t = some (.int k) := by
  unfold inK at h
  cases hu : P.underlying t with
  | none => simp [hu] at h
  | some q => cases q <;> simp [hu] at h; subst h; rfl
theorem isSt_spec (h : isSt P t = true) : P.underlying t = some .string := by
  unfold isSt at h
  cases hu : P.underlying t with
  | none => simp [hu] at h
  | some q => cases q <;> simp [hu] at h; rfl
theorem RepRows_bytes {w : World} {M : Mset} : ∀ (l : List UInt8), RepRows w M 1 (l.map eB) (l.map fun b => Value.int .u8 b.toNat)
  | [] => rfl
  | b :: l => ⟨[_], _, rfl, rfl, ⟨_, [], rfl, rfl, rfl⟩, RepRows_bytes l⟩
theorem q_toBytes {e bb : Nat} {z : ByteArray} (hS : isSt P t = true) (hT : slT P t2 = some (e, 1, bb)) (hE : inK P e = some .u8) (ha : evA env a = some (.v (.string z))) (hz : z.size < 1125899906842624) :
    QOK P ⟨d, .convert t t2 a, ty, pos, af, gd⟩ env (.sl 1 (z.data.toList.map eB)) := by
  refine QOK.intro fun w s ρ hs hr => ?_
  have h1 : ρ a = _ := hr.1 a (by simp [Op.operands]) _ ha
  obtain ⟨hut, _⟩ := slT_spec hT
  have hrun := run_bytes_of_string (P := P) w t t2 e z (isSt_spec hS) hut (inK_spec hE)
  obtain ⟨hd1, hd2⟩ := hs.drew
  have hge := grownCap_ge w z.size 0 e
  have hcm := grownCap_le_maxLen w z.size 0 e (show z.size ≤ 9223372036854775807 by omega)
  let o : Obj := .cells (bytesRow z (grownCap w z.size 0 e)) e ((bytesRow z (grownCap w z.size 0 e)).size, (bytesRow z (grownCap w z.size 0 e)).size + 1)
  obtain ⟨g1, g2⟩ := hd1.ext (w' := w.drew.alloc o) rfl rfl rfl (by show w.heap.size ≤ (w.heap.push o).size; rw [Array.size_push]; omega) (fun b hb => heap_alloc_old w.drew _ hb)
  have hlen : (z.data.toList.map eB).length = z.size := by rw [List.length_map, Array.length_toList]; rfl
  have hnew : (w.drew.alloc o).heap[w.heap.size]? = some o := heap_alloc_new w.drew o
  refine ⟨.slice (some ⟨w.heap.size, 0, none⟩) z.size (grownCap w z.size 0 e), w.drew.alloc o, by simp [execOp, h1, hrun, o], ⟨_, _, z.data.toList.map fun b => Value.int .u8 b.toNat, by rw [hlen], by rw [hlen]; exact hge, hcm, RepRows_bytes _, .inr ⟨w.heap.size, 0, rfl, fun _ hm => ?_, fun j u hj => ?_⟩⟩, g1, hd2.trans g2⟩
  · have := hs.lt _ hm; omega
  · rw [Nat.zero_add, cell_of_row _ _ _ _ _ _ hnew]
    unfold bytesRow
    have hj' : j < z.data.size := by have := (List.getElem?_eq_some_iff.1 hj).1; simpa using this
    rw [Array.getElem?_append_left (by simpa using hj')]
    rw [← Array.getElem?_toList]
    simpa using hj
end
end Go.Vc
