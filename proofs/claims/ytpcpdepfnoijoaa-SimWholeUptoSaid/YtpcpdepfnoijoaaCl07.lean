/-
  Whatever net, script and number of cycles come in, of bulk at most 1048576: SimWhole returns true, and what came in reads as it did.
-/
import Derived.Test.YtpcpdepfnoijoaaRd
set_option linter.unusedVariables false
set_option linter.unusedSimpArgs false
set_option maxRecDepth 100000
namespace Go.Proofs.Ytpcpdepfnoijoaa
open Go.Vc
open Go.ChangeShapes Go.WideShapes Go.ChangeAt Go.RowKit
theorem u_u32 : Try.prog.underlying 92 = some (.int .u32) := by kernel_rfl
theorem u_u8 : Try.prog.underlying 5 = some (.int .u8) := by kernel_rfl
theorem rd_nat : Rdr mu Try.prog 61 (fun l : List Int => [natA l]) (GS fun _ n => (Lit.int .u32 n).wf = true) :=
  rdr_slice blk (slT_spec sl61).1 (by kernel_rfl) (by decide) (rdr_int u_u32)
theorem rd_nats : Rdr mu Try.prog 35 (fun l : List (List Int) => [natsA l]) (GS (GS fun _ n => (Lit.int .u32 n).wf = true)) :=
  rdr_slice blk (slT_spec sl35).1 (by kernel_rfl) (by decide) rd_nat
theorem rd_script : Rdr mu Try.prog 26 (fun l : List (List (List Int)) => [scriptA l]) (GS (GS (GS fun _ n => (Lit.int .u32 n).wf = true))) :=
  rdr_slice blk (slT_spec sl26).1 (by kernel_rfl) (by decide) rd_nats
theorem script_b {b : Nat} {sc : List (List (List Int))} (h : GS (GS (GS fun _ n => (Lit.int .u32 n).wf = true)) b sc) (hb : b ≤ 1048576) : ScB2 sc := by
  obtain ⟨h1, h2⟩ := h
  refine { ln := by omega, it := fun x hx => ?_, b1 := by omega, b2 := fun x hx => ?_ }
  · obtain ⟨c, h3, h4, h5⟩ := h2 x hx
    refine ⟨by omega, fun y hy => ?_⟩
    obtain ⟨d, h6, h7, h8⟩ := h5 y hy
    refine ⟨fun n hn => ?_, by omega⟩
    obtain ⟨_, _, hw⟩ := h8 n hn
    simp [Lit.wf, IntKind.min, IntKind.max, IntKind.signed, IntKind.bits] at hw
    omega
  · obtain ⟨c, h3, h4, h5⟩ := h2 x hx
    refine ⟨by omega, fun y hy => ?_⟩
    obtain ⟨d, h6, h7, h8⟩ := h5 y hy
    omega
theorem own : ownKnob Try.prog.godebug = none := by kernel_rfl
theorem bulk_all {H : Type} {l : List (DataW H)} (hk : Rows.uptoSmall H l = true) : Rows.uptoBulkAll l ≤ 1048576 := by simpa [Rows.uptoSmall] using hk
theorem bulk_mem {H : Type} {l : List (DataW H)} (hk : Rows.uptoSmall H l = true) {d : DataW H} (hd : d ∈ l) : mu H d ≤ 1048576 := by
  have h1 := bulk_all hk
  rw [all_sum] at h1
  have := (sum_ge (g := mu H) (blk.one H) l).2 d hd
  omega
theorem simWhole_contract (H : Type) (enc : TypeId × Value → H) (W : World) (base : Nat) (args : Array Value) (ds gs : List (DataW H)) (before : List MemPlace)
    (hval : ∀ (j : Nat) t v, Try.f3.params[j]? = some t → args[j]? = some v → Value.okWide Try.prog W .any base t v)
    (hW : DataW.Whole enc Try.prog Try.f3.params.toList Rows.simWholeSpec.vars false W args.toList ds gs before) (hk : Rows.uptoSmall H (ds ++ gs) = true) :
    Calls Try.prog 3 args W fun e W' => ∃ v, e = .returned v ∧ Rows.simWholeSpec.post enc Try.prog Try.f3 false true false false W args v W' := by
  have hW' := hW
  obtain ⟨p, q, hA, hV, rfl, hfz, hnd⟩ := hW
  have hA' : DataW.TrodAll enc Try.prog W 0 (fun _ => true) true [25, 26, 5] args.toList ds p := hA
  obtain ⟨v0, vs0, d0, ds0, p0, q0, hargs, rfl, rfl, h0, r0⟩ := trodAll_cons hA'
  obtain ⟨v1, vs1, d1, ds1, p1, q1, rfl, rfl, rfl, h1, r1⟩ := trodAll_cons r0
  obtain ⟨v2, vs2, d2, ds2, p2, q2, rfl, rfl, rfl, h2, r2⟩ := trodAll_cons r1
  obtain ⟨rfl, rfl, rfl⟩ := trodAll_nil r2
  obtain ⟨rfl, rfl⟩ := trodVars_none hV
  obtain ⟨f0, k0⟩ := h0
  obtain ⟨f1, k1⟩ := h1
  obtain ⟨f2, k2⟩ := h2
  obtain ⟨n, a1, a2⟩ := rd_net H enc W f0 _ _ k0
  obtain ⟨sc, b1, b2⟩ := rd_script H enc W f1 _ _ k1
  have hb0 := bulk_mem hk (d := d0) (by simp)
  have hb1 := bulk_mem hk (d := d1) (by simp)
  have hargs' : args = [v0, v1, v2].toArray := by rw [← hargs]
  subst hargs'
  obtain ⟨m, rfl, _, _, c2⟩ := open_int u_u8 (hval 2 5 v2 rfl rfl) ⟨f2, k2⟩
  have hrep : RepL W noM [netA n, scriptA sc, .v (.int .u8 m)] [v0, v1, .int .u8 m] :=
    ⟨_, _, rfl, rep_agg a1 (by simp [netR]), _, _, rfl, rep_one b1 (cells_slice (slT_spec sl26).1 (hval 1 26 v1 rfl rfl)), _, _, rfl, rfl, rfl⟩
  have hm : 0 ≤ m ∧ m ≤ 255 := by simpa [Lit.wf, IntKind.min, IntKind.max, IntKind.signed, IntKind.bits] using c2
  have a2 : NetG (mu H d0) n := a2
  have hcall := law_calls hrep (simWhole_true (a2.netB hb0) (by have := a2.ins; omega) (by have := a2.outs; omega) (script_b b2 hb1) hm rfl)
  refine hcall.mono fun e W' ⟨he, hK⟩ => ⟨_, he, ?_⟩
  exact law_post hW' rfl laidB (by kernel_rfl) rfl u_bool ⟨rfl, rfl, rfl⟩ hK
set_option maxRecDepth 100000 in
theorem simWhole_lifted (os : Os) (started : os.Started) (H : Type) (enc : TypeId × Value → H) (F : Stop.Interp) :
    ReturnsInHanded {} Try.checked os 3 .any ((Rows.OpenSpec.upto Rows.simWholeSpec).pre6 enc Try.prog Try.f3 Rows.simWholeUptoRow.domain false) (((Rows.OpenSpec.upto Rows.simWholeSpec).at F).post enc Try.prog Try.f3 false true false false) := by
  refine returnsInHanded_of_cond (C := Try.checked) (s := Rows.OpenSpec.upto Rows.simWholeSpec) (k := Rows.uptoSmall) rfl own started (by kernel_rfl) Try.func3
    (OpenSpec.witness (enc := enc) (C := Try.checked) (s := Rows.OpenSpec.upto Rows.simWholeSpec) (k := Rows.uptoSmall) rfl false ⟨#[], #[.agg #[.slice none 0 0, .slice none 0 0, .slice none 0 0], .slice none 0 0, .int .u8 0], []⟩ 8 (by kernel_rfl) (by kernel_rfl) (by kernel_rfl)
      (x := ([.agg [.nil, .nil, .nil], .nil, .lit (.int .u8 0)], [], [])) (by kernel_rfl) rfl (by kernel_rfl)) ?_
  intro W base args ds gs before hval hW _ hk _
  exact simWhole_contract H enc W base args ds gs before hval hW hk
theorem simWhole_over : Rows.simWholeUptoRow.holds Try.pinned (Rows.OpenSpec.upto Rows.simWholeSpec) :=
  OpenClaim.holds_of_cond 3 Try.f3 rfl rfl rfl rfl rfl rfl rfl ⟨rfl, rfl, rfl, rfl, rfl⟩ rfl rfl rfl rfl rfl (by kernel_rfl) Try.func3 (by kernel_rfl)
    (of_decide_eq_true (by kernel_rfl)) (by unfold Func.isWrapper; first | (rw [if_pos (by decide +kernel)]; kernel_rfl) | (rw [if_neg (by decide +kernel)]; exact ⟨rfl, rfl⟩))
    (fun os started H enc _ F => simWhole_lifted os started H enc F)
theorem simWhole_proved : Rows.SimWholeUptoSaid := simWhole_over
#print axioms simWhole_proved
end Go.Proofs.Ytpcpdepfnoijoaa
