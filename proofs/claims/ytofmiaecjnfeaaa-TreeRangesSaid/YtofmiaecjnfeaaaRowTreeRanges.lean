/- A part of a proof: functions of the program, walked. -/
import Derived.Test.YtofmiaecjnfeaaaRows
import Derived.Test.YtofmiaecjnfeaaaZ28
import Derived.Test.YtofmiaecjnfeaaaGD
import Derived.WalkKit
import Derived.ProofKit
import Derived.OpenShut
import Derived.ShutString
import Derived.ChangeOld
import Derived.Below
import Derived.SizedLaws
namespace Go.Proofs.Ytofmiaecjnfeaaa.treeRanges
open Go.ChangeShapes Go.WideShapes Go.ChangeAt Go.RowKit
open Go.Proofs.YtofmiaecjnfeaaaVm
set_option linter.unusedVariables false
theorem own : ownKnob Try.prog.godebug = none := by kernel_rfl
theorem laidOut : laidOutB Try.prog = true := by kernel_rfl
set_option maxRecDepth 100000 in
theorem lifted (os : Os) (started : os.Started) (H : Type) (enc : TypeId × Value → H) :
    ReturnsInHanded {} Try.checked os 7 .any (Rows.treeRangesSpec.pre6 enc Try.prog Try.f7 Rows.treeRangesRow.domain false) (Rows.treeRangesSpec.post enc Try.prog Try.f7 false true false false) := by
  refine returnsInHanded_of_change_sized (C := Try.checked) own started (by kernel_rfl) Try.func7
    (ChangeSpec.witness6 (enc := enc) (C := Try.checked) false ⟨#[], #[.slice none 0 0, .string ByteArray.empty, .agg #[.string ByteArray.empty, .string ByteArray.empty, .bool false]], []⟩ 8 (by kernel_rfl) (by kernel_rfl) (by kernel_rfl) (by kernel_rfl)) ?_
  intro W base args ds gs before hval0 hW hcnd hsz0 _
  have hval : ∀ (j : Nat) t v, Try.f7.params[j]? = some t → args[j]? = some v → Value.okWide Try.prog W .any base t v := hval0
  have hW' := hW
  obtain ⟨p, q, hA0, hV, rfl, hfz, hnd⟩ := hW
  have hA : DataW.TrodAll enc Try.prog W 0 (fun _ => true) true Try.f7.params.toList args.toList ds p := hA0
  rw [Try.params7] at hA hval
  obtain ⟨v0, vs0, d0, ds0, p0, q0, hargs, rfl, rfl, h0, r0⟩ := trodAll_cons hA
  obtain ⟨v1, vs1, d1, ds1, p1, q1, rfl, rfl, rfl, h1, r1⟩ := trodAll_cons r0
  obtain ⟨v2, vs2, d2, ds2, p2, q2, rfl, rfl, rfl, h2, r2⟩ := trodAll_cons r1
  obtain ⟨rfl, rfl, rfl⟩ := trodAll_nil r2
  obtain rfl : args = #[v0, v1, v2] := by cases args; simp_all
  obtain ⟨rfl, rfl⟩ := trodVars_none hV
  obtain ⟨a0, len0, cap0, rfl⟩ := okWide_slice Try.underlying30 (hval 0 30 v0 rfl rfl)
  have k0 := h0
  have lt0 : ∀ x ∈ p0, x.block < W.heap.size := by obtain ⟨m, hm⟩ := k0; exact DataW.trod_lt m _ _ _ hm
  obtain ⟨fu0, hf0⟩ := h0
  have o0 := open_trod 6 fu0 30 _ _ (by kernel_rfl) hf0
  obtain ⟨a1, rfl⟩ := okWide_string Try.underlying9 (hval 1 9 v1 rfl rfl)
  have k1 := h1
  have lt1 : ∀ x ∈ p1, x.block < W.heap.size := by obtain ⟨m, hm⟩ := k1; exact DataW.trod_lt m _ _ _ hm
  obtain ⟨fu1, hf1⟩ := h1
  have o1 := open_trod 6 fu1 9 _ _ (by kernel_rfl) hf1
  obtain ⟨b2, rfl, _⟩ := okWide_struct Try.underlying24 (hval 2 24 v2 rfl rfl)
  obtain ⟨a2⟩ := b2
  have k2 := h2
  have lt2 : ∀ x ∈ p2, x.block < W.heap.size := by obtain ⟨m, hm⟩ := k2; exact DataW.trod_lt m _ _ _ hm
  obtain ⟨fu2, hf2⟩ := h2
  have o2 := open_trod 6 fu2 24 _ _ (by kernel_rfl) hf2
  obtain ⟨xs0, rp0, l0, ty0⟩ := o0.slice (e := 50) (d' := 20) (ks := [.int .i64, .str, .str, .int .u64]) (by kernel_rfl) (by kernel_rfl) (by kernel_rfl)
  obtain ⟨xs1, rp1⟩ := o1.str Try.underlying9
  obtain ⟨xs2, rp2, ty2, wf2, na2⟩ := o2.struct (d' := 20) (ks := [.str, .str, .bool]) (by kernel_rfl)
  clear hA0 hval0 hsz0
  refine ((ctRangesT xs0 l0 ty0 xs1 xs2 ty2 wf2).law (ps := [.row xs0, .str xs1, .agg xs2]) (vs := [.slice a0 len0 cap0, .string a1, .agg ⟨a2⟩]) (w := W) (Reps.cons (show Reps W (Fw W) [.row xs0] [.slice a0 len0 cap0] from rp0).tail.1 (Reps.cons (show Reps W (Fw W) [.str xs1] [.string a1] from rp1).tail.1 (Reps.cons (Reps.toAgg rp2 na2) (Reps.nil _ _))))).mono fun e W' ⟨he, bel⟩ => ?_
  subst he
  exact ⟨_, rfl, _, _, _, [], _, [], hW', trodAll_mk1 (shut_bool Try.underlying4 _), (trodAll_cons_mk (Below.trod laidOut (by kernel_rfl) (of_decide_eq_true (by kernel_rfl)) k0 bel lt0) (trodAll_cons_mk (Below.trod laidOut (by kernel_rfl) (of_decide_eq_true (by kernel_rfl)) k1 bel lt1) (trodAll_cons_mk (Below.trod laidOut (by kernel_rfl) (of_decide_eq_true (by kernel_rfl)) k2 bel lt2) trodAll_mk0))), rfl, bel.frame _, fun h => by cases h⟩
theorem over : Rows.treeRangesRow.holds Try.pinned (OpenSpec.ofChange Rows.treeRangesSpec) :=
  OpenClaim.holds_of_wide 7 Try.f7 rfl rfl rfl rfl rfl rfl rfl ⟨rfl, rfl, rfl, rfl, rfl⟩ rfl rfl rfl rfl rfl (by kernel_rfl) Try.func7 (by kernel_rfl)
    (of_decide_eq_true (by kernel_rfl)) (by unfold Func.isWrapper; first | (rw [if_pos (by decide +kernel)]; kernel_rfl) | (rw [if_neg (by decide +kernel)]; exact ⟨rfl, rfl⟩))
    (fun os started H enc _ => lifted os started H enc)
theorem proved : Rows.TreeRangesSaid := over
end Go.Proofs.Ytofmiaecjnfeaaa.treeRanges
namespace Go.Proofs.Ytofmiaecjnfeaaa
/-- The row, under a short name, for the claim. -/
theorem treeRanges_holds : Rows.TreeRangesSaid := treeRanges.proved
#print axioms treeRanges_holds
end Go.Proofs.Ytofmiaecjnfeaaa
