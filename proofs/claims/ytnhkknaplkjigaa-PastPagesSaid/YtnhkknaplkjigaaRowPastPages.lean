/- A part of a proof: functions of the program, walked. -/
import Derived.Test.YtnhkknaplkjigaaRows
import Derived.Test.YtnhkknaplkjigaaE4
import Derived.Test.YtnhkknaplkjigaaGD
import Derived.WalkKit
import Derived.ProofKit
import Derived.OpenShut
import Derived.ShutString
import Derived.ChangeOld
import Derived.Below
import Derived.SizedLaws
namespace Go.Proofs.Ytnhkknaplkjigaa.pastPages
open Go.ChangeShapes Go.WideShapes Go.ChangeAt Go.RowKit
open Go.Proofs.YtnhkknaplkjigaaVm
set_option linter.unusedVariables false
theorem own : ownKnob Try.prog.godebug = none := by kernel_rfl
theorem laidOut : laidOutB Try.prog = true := by kernel_rfl
set_option maxRecDepth 100000 in
theorem lifted (os : Os) (started : os.Started) (H : Type) (enc : TypeId × Value → H) :
    ReturnsInHanded {} Try.checked os 4 .any (Rows.pastPagesSpec.pre6 enc Try.prog Try.f4 Rows.pastPagesRow.domain false) (Rows.pastPagesSpec.post enc Try.prog Try.f4 false true false false) := by
  refine returnsInHanded_of_change_sized (C := Try.checked) own started (by kernel_rfl) Try.func4
    (ChangeSpec.witness6 (enc := enc) (C := Try.checked) false ⟨#[], #[.slice none 0 0, .slice none 0 0, .int .i64 0, .int .u8 0, .agg #[.string ByteArray.empty, .string ByteArray.empty, .bool false]], []⟩ 8 (by kernel_rfl) (by kernel_rfl) (by kernel_rfl) (by kernel_rfl)) ?_
  intro W base args ds gs before hval0 hW hcnd hsz0 _
  have hval : ∀ (j : Nat) t v, Try.f4.params[j]? = some t → args[j]? = some v → Value.okWide Try.prog W .any base t v := hval0
  have hW' := hW
  obtain ⟨p, q, hA0, hV, rfl, hfz, hnd⟩ := hW
  have hA : DataW.TrodAll enc Try.prog W 0 (fun _ => true) true Try.f4.params.toList args.toList ds p := hA0
  rw [Try.params4] at hA hval
  obtain ⟨v0, vs0, d0, ds0, p0, q0, hargs, rfl, rfl, h0, r0⟩ := trodAll_cons hA
  obtain ⟨v1, vs1, d1, ds1, p1, q1, rfl, rfl, rfl, h1, r1⟩ := trodAll_cons r0
  obtain ⟨v2, vs2, d2, ds2, p2, q2, rfl, rfl, rfl, h2, r2⟩ := trodAll_cons r1
  obtain ⟨v3, vs3, d3, ds3, p3, q3, rfl, rfl, rfl, h3, r3⟩ := trodAll_cons r2
  obtain ⟨v4, vs4, d4, ds4, p4, q4, rfl, rfl, rfl, h4, r4⟩ := trodAll_cons r3
  obtain ⟨rfl, rfl, rfl⟩ := trodAll_nil r4
  obtain rfl : args = #[v0, v1, v2, v3, v4] := by cases args; simp_all
  obtain ⟨rfl, rfl⟩ := trodVars_none hV
  obtain ⟨a0, len0, cap0, rfl⟩ := okWide_slice Try.underlying22 (hval 0 22 v0 rfl rfl)
  have k0 := h0
  have lt0 : ∀ x ∈ p0, x.block < W.heap.size := by obtain ⟨m, hm⟩ := k0; exact DataW.trod_lt m _ _ _ hm
  obtain ⟨fu0, hf0⟩ := h0
  have o0 := open_trod 6 fu0 22 _ _ (by kernel_rfl) hf0
  obtain ⟨a1, len1, cap1, rfl⟩ := okWide_slice Try.underlying23 (hval 1 23 v1 rfl rfl)
  have k1 := h1
  have lt1 : ∀ x ∈ p1, x.block < W.heap.size := by obtain ⟨m, hm⟩ := k1; exact DataW.trod_lt m _ _ _ hm
  obtain ⟨fu1, hf1⟩ := h1
  have o1 := open_trod 6 fu1 23 _ _ (by kernel_rfl) hf1
  obtain ⟨a2, rfl, rfl, rfl, w2⟩ := open_int Try.underlying3 (hval 2 3 v2 rfl rfl) h2
  obtain ⟨a3, rfl, rfl, rfl, w3⟩ := open_int Try.underlying5 (hval 3 5 v3 rfl rfl) h3
  obtain ⟨b4, rfl, _⟩ := okWide_struct Try.underlying25 (hval 4 25 v4 rfl rfl)
  obtain ⟨a4⟩ := b4
  have k4 := h4
  have lt4 : ∀ x ∈ p4, x.block < W.heap.size := by obtain ⟨m, hm⟩ := k4; exact DataW.trod_lt m _ _ _ hm
  obtain ⟨fu4, hf4⟩ := h4
  have o4 := open_trod 6 fu4 25 _ _ (by kernel_rfl) hf4
  obtain ⟨xs0, rp0, l0, ty0⟩ := o0.slice (e := 41) (d' := 20) (ks := [.str, .str]) (by kernel_rfl) (by kernel_rfl) (by kernel_rfl)
  obtain ⟨xs1, rp1, l1, ty1⟩ := o1.slice (e := 46) (d' := 20) (ks := [.int .i64, .str, .bool, .str, .bool, .str]) (by kernel_rfl) (by kernel_rfl) (by kernel_rfl)
  obtain ⟨xs4, rp4, ty4, wf4, na4⟩ := o4.struct (d' := 20) (ks := [.str, .str, .bool]) (by kernel_rfl)
  clear hA0 hval0 hsz0
  refine ((ctPagesP xs0 l0 ty0 xs1 l1 ty1 a2 w2 a3 w3 xs4 ty4 wf4).law (ps := [.row xs0, .row xs1, .int .i64 a2, .int .u8 a3, .agg xs4]) (vs := [.slice a0 len0 cap0, .slice a1 len1 cap1, .int .i64 a2, .int .u8 a3, .agg ⟨a4⟩]) (w := W) (Reps.cons (show Reps W (Fw W) [.row xs0] [.slice a0 len0 cap0] from rp0).tail.1 (Reps.cons (show Reps W (Fw W) [.row xs1] [.slice a1 len1 cap1] from rp1).tail.1 (Reps.cons (.int .i64 a2) (Reps.cons (.int .u8 a3) (Reps.cons (Reps.toAgg rp4 na4) (Reps.nil _ _))))))).mono fun e W' ⟨he, bel⟩ => ?_
  subst he
  exact ⟨_, rfl, _, _, _, [], _, [], hW', trodAll_mk1 (shut_bool Try.underlying4 _), (trodAll_cons_mk (Below.trod laidOut (by kernel_rfl) (of_decide_eq_true (by kernel_rfl)) k0 bel lt0) (trodAll_cons_mk (Below.trod laidOut (by kernel_rfl) (of_decide_eq_true (by kernel_rfl)) k1 bel lt1) (trodAll_cons_mk (shut_int Try.underlying3 w2) (trodAll_cons_mk (shut_int Try.underlying5 w3) (trodAll_cons_mk (Below.trod laidOut (by kernel_rfl) (of_decide_eq_true (by kernel_rfl)) k4 bel lt4) trodAll_mk0))))), rfl, bel.frame _, fun h => by cases h⟩
theorem over : Rows.pastPagesRow.holds Try.pinned (OpenSpec.ofChange Rows.pastPagesSpec) :=
  OpenClaim.holds_of_wide 4 Try.f4 rfl rfl rfl rfl rfl rfl rfl ⟨rfl, rfl, rfl, rfl, rfl⟩ rfl rfl rfl rfl rfl (by kernel_rfl) Try.func4 (by kernel_rfl)
    (of_decide_eq_true (by kernel_rfl)) (by unfold Func.isWrapper; first | (rw [if_pos (by decide +kernel)]; kernel_rfl) | (rw [if_neg (by decide +kernel)]; exact ⟨rfl, rfl⟩))
    (fun os started H enc _ => lifted os started H enc)
theorem proved : Rows.PastPagesSaid := over
end Go.Proofs.Ytnhkknaplkjigaa.pastPages
namespace Go.Proofs.Ytnhkknaplkjigaa
/-- The row, under a short name, for the claim. -/
theorem pastPages_holds : Rows.PastPagesSaid := pastPages.proved
#print axioms pastPages_holds
end Go.Proofs.Ytnhkknaplkjigaa
