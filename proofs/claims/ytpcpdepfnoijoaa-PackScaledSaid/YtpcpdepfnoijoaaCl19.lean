/-
  A size twice as great, one place lower, is packed as the same (slipsticklaw19.PackScaled).
-/
import Derived.Test.YtpcpdepfnoijoaaReadL
import Derived.Test.YtpcpdepfnoijoaaRd
set_option linter.unusedVariables false
set_option linter.unusedSimpArgs false
set_option maxRecDepth 100000
namespace Go.Proofs.Ytpcpdepfnoijoaa
open Go.Vc
open Go.ChangeShapes Go.WideShapes Go.ChangeAt Go.RowKit
theorem s_u32 : Try.prog.underlying 92 = some (.int .u32) := by kernel_rfl
theorem s_u8 : Try.prog.underlying 5 = some (.int .u8) := by kernel_rfl
theorem s_i16 : Try.prog.underlying 37 = some (.int .i16) := by kernel_rfl
theorem s_int : Try.prog.underlying 3 = some (.int .i64) := by kernel_rfl
theorem s_bool : Try.prog.underlying 4 = some .bool := by kernel_rfl
theorem s_nat : Rdr mu Try.prog 61 (fun l : List Int => [natA l]) (GS fun _ n => (Lit.int .u32 n).wf = true) :=
  rdr_slice blk (slT_spec sl61).1 (by kernel_rfl) (by decide) (rdr_int s_u32)
theorem s_own : ownKnob Try.prog.godebug = none := by kernel_rfl
theorem u32_of_GS {b : Nat} {l : List Int} (h : GS (fun _ n => (Lit.int .u32 n).wf = true) b l) : U32 l := by
  intro n hn
  obtain ⟨_, h2⟩ := h
  obtain ⟨_, _, hw⟩ := h2 n hn
  simp [Lit.wf, IntKind.min, IntKind.max, IntKind.signed, IntKind.bits] at hw
  omega
theorem packScaled_contract (H : Type) (enc : TypeId × Value → H) (W : World) (base : Nat) (args : Array Value) (ds gs : List (DataW H)) (before : List MemPlace)
    (hval : ∀ (j : Nat) t v, Try.f5.params[j]? = some t → args[j]? = some v → Value.okWide Try.prog W .any base t v)
    (hW : DataW.Whole enc Try.prog Try.f5.params.toList Rows.packScaledSpec.vars false W args.toList ds gs before) :
    Calls Try.prog 5 args W fun e W' => ∃ v, e = .returned v ∧ Rows.packScaledSpec.post enc Try.prog Try.f5 false true false false W args v W' := by
  have hW' := hW
  obtain ⟨p, q, hA, hV, rfl, hfz, hnd⟩ := hW
  have hA' : DataW.TrodAll enc Try.prog W 0 (fun _ => true) true [3, 5, 4, 37, 61, 5] args.toList ds p := hA
  obtain ⟨v0, vs0, d0, ds0, p0, q0, hargs, rfl, rfl, h0, r0⟩ := trodAll_cons hA'
  obtain ⟨v1, vs1, d1, ds1, p1, q1, rfl, rfl, rfl, h1, r1⟩ := trodAll_cons r0
  obtain ⟨v2, vs2, d2, ds2, p2, q2, rfl, rfl, rfl, h2, r2⟩ := trodAll_cons r1
  obtain ⟨v3, vs3, d3, ds3, p3, q3, rfl, rfl, rfl, h3, r3⟩ := trodAll_cons r2
  obtain ⟨v4, vs4, d4, ds4, p4, q4, rfl, rfl, rfl, h4, r4⟩ := trodAll_cons r3
  obtain ⟨v5, vs5, d5, ds5, p5, q5, rfl, rfl, rfl, h5, r5⟩ := trodAll_cons r4
  obtain ⟨rfl, rfl, rfl⟩ := trodAll_nil r5
  obtain ⟨rfl, rfl⟩ := trodVars_none hV
  obtain ⟨f0, k0⟩ := h0
  obtain ⟨f1, k1⟩ := h1
  obtain ⟨f2, k2⟩ := h2
  obtain ⟨f3, k3⟩ := h3
  obtain ⟨f4, k4⟩ := h4
  obtain ⟨f5, k5⟩ := h5
  obtain ⟨sz, a1, a2⟩ := s_nat H enc W f4 _ _ k4
  have hargs' : args = [v0, v1, v2, v3, v4, v5].toArray := by rw [← hargs]
  subst hargs'
  obtain ⟨bits, rfl, _, _, c0⟩ := open_int s_int (hval 0 3 v0 rfl rfl) ⟨f0, k0⟩
  obtain ⟨md, rfl, _, _, c1⟩ := open_int s_u8 (hval 1 5 v1 rfl rfl) ⟨f1, k1⟩
  obtain ⟨bb, rfl, _⟩ := open_bool s_bool (hval 2 4 v2 rfl rfl) ⟨f2, k2⟩
  obtain ⟨pl, rfl, _, _, c3⟩ := open_int s_i16 (hval 3 37 v3 rfl rfl) ⟨f3, k3⟩
  obtain ⟨rm, rfl, _, _, c5⟩ := open_int s_u8 (hval 5 5 v5 rfl rfl) ⟨f5, k5⟩
  have hm : 0 ≤ md ∧ md ≤ 255 := by simpa [Lit.wf, IntKind.min, IntKind.max, IntKind.signed, IntKind.bits] using c1
  have hr : 0 ≤ rm ∧ rm ≤ 255 := by simpa [Lit.wf, IntKind.min, IntKind.max, IntKind.signed, IntKind.bits] using c5
  have hp : -32768 ≤ pl ∧ pl ≤ 32767 := by simpa [Lit.wf, IntKind.min, IntKind.max, IntKind.signed, IntKind.bits] using c3
  obtain ⟨M, rfl⟩ : ∃ M : Nat, md = (M : Int) := ⟨md.toNat, by omega⟩
  obtain ⟨room, rfl⟩ : ∃ M : Nat, rm = (M : Int) := ⟨rm.toNat, by omega⟩
  have hrep : RepL W noM [.int bits, .v (.int .u8 (M : Int)), .bool bb, .v (.int .i16 pl), natA sz, .v (.int .u8 (room : Int))] [.int .i64 bits, .int .u8 (M : Int), .bool bb, .int .i16 pl, v4, .int .u8 (room : Int)] :=
    ⟨_, _, rfl, rfl, _, _, rfl, rfl, _, _, rfl, rfl, _, _, rfl, rfl, _, _, rfl, rep_one a1 (cells_slice (slT_spec sl61).1 (hval 4 61 v4 rfl rfl)), _, _, rfl, rfl, rfl⟩
  have hcall := law_calls hrep (packScaled (by omega) (by omega) (by omega) (u32_of_GS a2) rfl)
  refine hcall.mono fun e W' ⟨he, hK⟩ => ⟨_, he, ?_⟩
  exact law_post hW' rfl laidB (by kernel_rfl) rfl u_bool ⟨rfl, rfl, rfl⟩ hK
set_option maxRecDepth 100000 in
theorem packScaled_lifted (os : Os) (started : os.Started) (H : Type) (enc : TypeId × Value → H) :
    ReturnsInHanded {} Try.checked os 5 .any (Rows.packScaledSpec.pre6 enc Try.prog Try.f5 Rows.packScaledRow.domain false) (Rows.packScaledSpec.post enc Try.prog Try.f5 false true false false) := by
  refine returnsInHanded_of_change (C := Try.checked) s_own started (by kernel_rfl) Try.func5
    (ChangeSpec.witness6 (enc := enc) (C := Try.checked) false ⟨#[], #[.int .i64 0, .int .u8 0, .bool false, .int .i16 0, .slice none 0 0, .int .u8 0], []⟩ 8 (by kernel_rfl) (by kernel_rfl) (by kernel_rfl) (by kernel_rfl)) ?_
  intro W base args ds gs before hval hW _ _
  exact packScaled_contract H enc W base args ds gs before hval hW
theorem packScaled_proved : Rows.PackScaledSaid :=
  OpenClaim.holds_of_wide 5 Try.f5 rfl rfl rfl rfl rfl rfl rfl ⟨rfl, rfl, rfl, rfl, rfl⟩ rfl rfl rfl rfl rfl (by kernel_rfl) Try.func5 (by kernel_rfl)
    (of_decide_eq_true (by kernel_rfl)) (by unfold Func.isWrapper; first | (rw [if_pos (by decide +kernel)]; kernel_rfl) | (rw [if_neg (by decide +kernel)]; exact ⟨rfl, rfl⟩))
    (fun os started H enc _ => packScaled_lifted os started H enc)
#print axioms packScaled_proved
end Go.Proofs.Ytpcpdepfnoijoaa
