/-
  Part of a proof: A size twice as great, one place lower, is packed as the same (slipsticklaw19.PackScaled).
-/
import Derived.Test.YtpcpdepfnoijoaaReadL
import Derived.Test.YtpcpdepfnoijoaaVcB
import Derived.Test.YtpcpdepfnoijoaaB5
import Derived.Test.YtpcpdepfnoijoaaRows
set_option linter.unusedVariables false
namespace Go.Vc
open Go.ChangeShapes Go.WideShapes Go.ChangeAt Go.RowKit
structure Kept (W W' : World) : Prop where
  os : W'.os = W.os
  output : W'.output = W.output
  size : W.heap.size ≤ W'.heap.size
  heap : ∀ b, b < W.heap.size → W'.heap[b]? = W.heap[b]?
theorem mut_none : Mut (fun _ => none) = noM := by
  funext b
  apply propext
  constructor
  · rintro ⟨k, r, h, _⟩; cases h
  · intro h; exact h.elim
theorem sat_none (w : World) : Sat w (fun _ => none) := ⟨(fun _ _ h => by cases h), (fun _ _ _ _ _ h => by cases h), (fun b ⟨_, _, h, _⟩ => by cases h)⟩
theorem law_calls {P : Program} {f : FuncId} {avs : List AV} {vs : List Value} {W : World} (hr : RepL W noM avs vs) (hc : CallsA P f avs (fun _ => none) (fun r _ => r = .bool true)) :
    Calls P f vs.toArray W (fun e W' => e = .returned (.bool true) ∧ Kept W W') := by
  refine Calls.mono (hc W vs (sat_none W) (by rw [mut_none]; exact hr)) fun e W' he => ?_
  cases e with
  | returned v =>
    obtain ⟨r, s', h1, h2, h3, rfl⟩ := he
    cases h1
    exact ⟨rfl, h3.os, h3.output, h3.size, fun b hb => (h3.keep b hb (by rw [mut_none]; exact id)).1⟩
  | panicked c => exact he.elim
  | outgrown => exact he.elim
variable {H : Type} {enc : TypeId × Value → H} {P : Program}
theorem trodAll_stays (hl : laidOutB P = true) {W W' : World} {sp : Nat → Bool} : ∀ (ts : List TypeId) (vs : List Value) (ds : List (DataW H)) (ps : List MemPlace), (∀ t ∈ ts, P.readableRec t = true ∧ t < P.types.size) →
    DataW.TrodAll enc P W 0 (fun _ => true) true ts vs ds ps → (∀ p ∈ ps, W.sameAt W' p) → (∀ p ∈ ps, sp p.block = true) → DataW.TrodAll enc P W' 0 sp true ts vs ds ps
  | [], [], [], _, _, h, _, _ => h
  | t :: ts, v :: vs, d :: ds, ps, ht, ⟨p, q, h1, h2, e⟩, hs, hsp => by
    subst e
    refine ⟨p, q, WideElems.Trod_stays hl (ht t (by simp)).1 (ht t (by simp)).2 h1 (fun x hx => hs x (by simp [hx])) (fun x hx => hsp x (by simp [hx])), ?_, rfl⟩
    exact trodAll_stays hl ts vs ds q (fun u hu => ht u (by simp [hu])) h2 (fun x hx => hs x (by simp [hx])) (fun x hx => hsp x (by simp [hx]))
  | [], _ :: _, _, _, _, h, _, _ => h.elim
  | [], [], _ :: _, _, _, h, _, _ => h.elim
  | _ :: _, [], _, _, _, h, _, _ => h.elim
  | _ :: _, _ :: _, [], _, _, h, _, _ => h.elim
theorem kept_but {W W' : World} (h : Kept W W') (may : MemPlace → Prop) : W.keptBut W' may := by
  refine ⟨h.os, h.output, fun i hi => ?_⟩
  rw [h.heap i hi]
  cases hw : W.heap[i]? with
  | none => rfl
  | some o =>
    cases o with
    | cells c t fr => exact ⟨rfl, rfl, rfl, fun _ _ => rfl⟩
    | map es clock => exact .inr ⟨rfl, rfl⟩
    | _ => rfl
theorem law_post {fn : Func} {s : ChangeSpec} {W W' : World} {args : Array Value} {ds gs : List (DataW H)} {before : List MemPlace} {tb : TypeId}
    (hW : DataW.Whole enc P fn.params.toList s.vars false W args.toList ds gs before) (hvars : s.vars = []) (hl : laidOutB P = true) (hts : fn.params.toList.all (fun t => P.readableRec t && decide (t < P.types.size)) = true)
    (hrt : fn.resultTypes = #[tb]) (htb : P.underlying tb = some .bool) (hspec : (s.fn H (ds ++ gs)).results = [.lit (.bool true)] ∧ (s.fn H (ds ++ gs)).args = ds ∧ (s.fn H (ds ++ gs)).vars = []) (hK : Kept W W') :
    s.post enc P fn false true false false W args (.bool true) W' := by
  have hW' := hW
  obtain ⟨p, q, hA, hV, rfl, hfz, hnd⟩ := hW
  have hV' := hV
  rw [hvars] at hV
  obtain ⟨rfl, rfl⟩ := trodVars_none hV
  have hlt : ∀ x ∈ p, x.block < W.heap.size := fun x hx => hW'.lt x (by simp [hx])
  have hts' : ∀ t ∈ fn.params.toList, P.readableRec t = true ∧ t < P.types.size := fun t ht => by
    have := List.all_eq_true.1 hts t ht
    simpa using this
  refine ⟨ds, [], p ++ [], [], p, [], hW', ?_, ?_, ?_, kept_but hK _, fun h => by cases h⟩
  · rw [hspec.1, hrt]
    exact ⟨[], [], shut_bool htb true, rfl, rfl⟩
  · rw [hspec.2.1]
    refine trodAll_stays hl _ _ _ _ hts' hA (fun x hx => ?_) (fun x hx => by simpa using hlt x hx)
    have := hK.heap x.block (hlt x hx)
    cases x with
    | cell b off => exact World.cell?_of_block (w := W) (a := ⟨b, off, none⟩) this
    | map b => exact this
  · rw [hspec.2.2, hvars]
    exact rfl
theorem rep_agg {w : World} {M : Mset} {cs : List AV} {v : Value} (h : RepL w M cs v.cells.toList) (hl : cs.length ≠ 1) : Rep w M (.agg cs) v := by
  have hlen := RepL.length h
  cases v with
  | agg us => exact ⟨us.toList, by simp, h⟩
  | _ => simp [Value.cells] at hlen; omega
theorem rep_one {w : World} {M : Mset} {x : AV} {v : Value} (h : RepL w M [x] v.cells.toList) (hv : v.cells = #[v]) : Rep w M x v := by
  rw [hv] at h
  obtain ⟨u, us, e, h1, _⟩ := h
  simp at e
  rw [e.1]; exact h1
theorem cells_slice {P : Program} {w : World} {base : Nat} {t e : TypeId} {v : Value} (hu : P.underlying t = some (.slice e)) (h : Value.okWide P w .any base t v) : v.cells = #[v] := by
  obtain ⟨a, l, c, rfl⟩ := okWide_slice hu h; rfl
end Go.Vc

set_option linter.unusedVariables false
set_option linter.unusedSimpArgs false
set_option maxRecDepth 100000
namespace Go.Proofs.Ytpcpdepfnoijoaa
open Go.Vc
def mu (H : Type) (d : DataW H) : Nat := Rows.uptoBulk d
theorem all_sum {H : Type} : ∀ l : List (DataW H), Rows.uptoBulkAll l = (l.map (mu H)).sum
  | [] => rfl
  | d :: l => by rw [Rows.uptoBulkAll, all_sum l]; rfl
theorem blk : Blk mu := by
  refine ⟨fun H d => ?_, fun H es sp => ?_, fun H ps => ?_, fun H b => ?_⟩
  · unfold mu
    cases d with
    | lit l => cases l <;> simp [Rows.uptoBulk]
    | _ => simp [Rows.uptoBulk]
  · show _ ≤ Rows.uptoBulk _
    rw [Rows.uptoBulk, all_sum, all_sum]
    omega
  · show _ ≤ Rows.uptoBulk _
    rw [Rows.uptoBulk, all_sum]
    omega
  · show _ ≤ Rows.uptoBulk _
    rw [Rows.uptoBulk]
    omega
theorem u_int : Try.prog.underlying 3 = some (.int .i64) := by kernel_rfl
theorem u_str : Try.prog.underlying 9 = some .string := by kernel_rfl
theorem u_bool : Try.prog.underlying 4 = some .bool := by kernel_rfl
theorem laidB : laidOutB Try.prog = true := by kernel_rfl
theorem rd_int : Rdr mu Try.prog 3 (fun n : Int => [.int n]) (fun _ n => (Lit.int .i64 n).wf = true) := rdr_int u_int
theorem rd_str : Rdr mu Try.prog 9 (fun b : ByteArray => [.v (.string b)]) (fun n b => b.size + 1 ≤ n) := rdr_str blk u_str
theorem rd_ints : Rdr mu Try.prog 40 (fun l : List Int => [ints l]) (GS fun _ n => (Lit.int .i64 n).wf = true) :=
  rdr_slice blk (slT_spec sl40).1 (by kernel_rfl) (by decide) rd_int
theorem rd_node : Rdr mu Try.prog 89 ndR (fun _ x => ∀ n ∈ [x.k, x.a, x.b, x.c], (Lit.int .i64 n).wf = true) :=
  (rdr_s4 blk (ti := 3) (by kernel_rfl) (by kernel_rfl) (by kernel_rfl) (by kernel_rfl) (by kernel_rfl) (by kernel_rfl) (by kernel_rfl) rd_int).mono fun b a h => ⟨a, rfl, fun n hn => by obtain ⟨c, _, h2⟩ := h n hn; exact h2⟩
def PtG (b : Nat) (p : Pt) : Prop := p.name.size < b ∧ p.bits.length < b ∧ ∀ a ∈ p.bits, (Lit.int .i64 a).wf = true
theorem rd_port : Rdr mu Try.prog 91 ptR PtG :=
  (rdr_s2 blk (t0 := 9) (t1 := 40) (by kernel_rfl) (by kernel_rfl) (by kernel_rfl) (by kernel_rfl) (by kernel_rfl) (by kernel_rfl) rd_str rd_ints).mono fun b a h => ⟨⟨a.1, a.2⟩, rfl, by
    obtain ⟨⟨c, h1, h2⟩, c', h3, h4, h5⟩ := h
    exact ⟨by simp only; omega, by simp only; omega, fun x hx => by obtain ⟨_, _, h6⟩ := h5 x hx; exact h6⟩⟩
structure NetG (b : Nat) (n : Net) : Prop where
  nodes : n.nodes.length < b
  ins : n.ins.length < b
  outs : n.outs.length < b
  nd : ∀ x ∈ n.nodes, ∀ a ∈ [x.k, x.a, x.b, x.c], (Lit.int .i64 a).wf = true
  pt : ∀ p ∈ n.ins ++ n.outs, PtG b p
theorem PtG.le {b c : Nat} {p : Pt} (h : PtG b p) (hb : b ≤ c) : PtG c p := ⟨by have := h.1; omega, by have := h.2.1; omega, h.2.2⟩
theorem rd_net : Rdr mu Try.prog 25 netR NetG :=
  (rdr_s3 blk (t0 := 22) (t1 := 23) (t2 := 23) (by kernel_rfl) (by kernel_rfl) (by kernel_rfl) (by kernel_rfl) (by kernel_rfl) (by kernel_rfl) (by kernel_rfl) (by kernel_rfl)
    (rdr_slice blk (slT_spec sl22).1 (by kernel_rfl) (by decide) rd_node) (rdr_slice blk (slT_spec sl23).1 (by kernel_rfl) (by decide) rd_port) (rdr_slice blk (slT_spec sl23).1 (by kernel_rfl) (by decide) rd_port)).mono fun b a h => ⟨⟨a.1, a.2.1, a.2.2⟩, rfl, by
    obtain ⟨⟨c, h1, h2, h3⟩, ⟨c', h4, h5, h6⟩, ⟨c2, h7, h8, h9⟩⟩ := h
    refine ⟨by simp only; omega, by simp only; omega, by simp only; omega, fun x hx => ?_, fun p hp => ?_⟩
    · obtain ⟨_, _, k⟩ := h3 x hx; exact k
    · rcases List.mem_append.1 hp with hp | hp
      · obtain ⟨d, k1, k2⟩ := h6 p hp; exact k2.le (by omega)
      · obtain ⟨d, k1, k2⟩ := h9 p hp; exact k2.le (by omega)⟩
theorem NetG.netB {b : Nat} {n : Net} (h : NetG b n) (hb : b ≤ 1048576) : NetB n :=
  ⟨by have := h.nodes; omega, by have := h.ins; omega, by have := h.outs; omega, fun p hp => by have := (h.pt p hp).2.1; omega, fun p hp => by have := (h.pt p hp).1; omega⟩
end Go.Proofs.Ytpcpdepfnoijoaa
