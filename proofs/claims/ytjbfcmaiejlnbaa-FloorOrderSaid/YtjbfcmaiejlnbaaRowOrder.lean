/- The row of the law FloorOrder, out of its contract. -/
import Derived.Test.YtjbfcmaiejlnbaaRows
import Derived.Test.YtjbfcmaiejlnbaaH8
import Derived.Test.YtjbfcmaiejlnbaaVmU
import Derived.WalkKit
import Derived.ProofKit
import Derived.OpenShut
import Derived.ShutString
import Derived.ChangeOld
import Derived.Below
import Derived.SizedLaws
namespace Go.Proofs.Ytjbfcmaiejlnbaa.floorOrder
open Go.ChangeShapes Go.WideShapes Go.ChangeAt Go.RowKit
open Go.Proofs.YtjbfcmaiejlnbaaVm
set_option linter.unusedVariables false
theorem own : ownKnob Try.prog.godebug = none := by kernel_rfl
theorem laidOut : laidOutB Try.prog = true := by kernel_rfl
set_option maxRecDepth 100000 in
theorem lifted (os : Os) (started : os.Started) (H : Type) (enc : TypeId × Value → H) :
    ReturnsInHanded {} Try.checked os 4 .any (Rows.floorOrderSpec.pre6 enc Try.prog Try.f4 Rows.floorOrderRow.domain false) (Rows.floorOrderSpec.post enc Try.prog Try.f4 false true false false) := by
  refine returnsInHanded_of_change_sized (C := Try.checked) own started (by kernel_rfl) Try.func4
    (ChangeSpec.witness6 (enc := enc) (C := Try.checked) false ⟨#[], #[.int .i64 0, .slice none 0 0, .agg #[.int .i64 0, .string ByteArray.empty, .string ByteArray.empty, .bool false, .bool false, .string ByteArray.empty, .int .i64 0], .int .u8 0], []⟩ 8 (by kernel_rfl) (by kernel_rfl) (by kernel_rfl) (by kernel_rfl)) ?_
  intro W base args ds gs before hval0 hW hcnd hsz0 _
  have hval : ∀ (j : Nat) t v, Try.f4.params[j]? = some t → args[j]? = some v → Value.okWide Try.prog W .any base t v := hval0
  have hW' := hW
  obtain ⟨p, q, hA0, hV, rfl, hfz, hnd⟩ := hW
  have hA : DataW.TrodAll enc Try.prog W 0 (fun _ => true) true Try.f4.params.toList args.toList ds p := hA0
  rw [Try.params4] at hA hval
  obtain ⟨v0, vs0, d0, ds0, p0, q0, hargs, rfl, rfl, h0, r0⟩ := trodAll_cons hA
  obtain ⟨v1, vs1, d1, ds1, p1, q1, rfl, rfl, rfl, h1, r1⟩ := trodAll_cons r0
  obtain ⟨v2, vs2, d2, ds2, p2, q2, rfl, rfl, rfl, h2, r2⟩ := trodAll_cons r1
  obtain ⟨v3, vs3, d3, ds3, p3, q3, rfl, rfl, rfl, h3, r3⟩ := trodAll_cons r2
  obtain ⟨rfl, rfl, rfl⟩ := trodAll_nil r3
  obtain rfl : args = #[v0, v1, v2, v3] := by cases args; simp_all
  obtain ⟨rfl, rfl⟩ := trodVars_none hV
  obtain ⟨a0, rfl, rfl, rfl, w0⟩ := open_int Try.underlying3 (hval 0 3 v0 rfl rfl) h0
  obtain ⟨a1, len1, cap1, rfl⟩ := okWide_slice Try.underlying24 (hval 1 24 v1 rfl rfl)
  have k1 := h1
  have lt1 : ∀ x ∈ p1, x.block < W.heap.size := by obtain ⟨m, hm⟩ := k1; exact DataW.trod_lt m _ _ _ hm
  obtain ⟨fu1, hf1⟩ := h1
  have o1 := open_trod 6 fu1 24 _ _ (by kernel_rfl) hf1
  obtain ⟨b2, rfl, _⟩ := okWide_struct Try.underlying37 (hval 2 37 v2 rfl rfl)
  obtain ⟨a2⟩ := b2
  have k2 := h2
  have lt2 : ∀ x ∈ p2, x.block < W.heap.size := by obtain ⟨m, hm⟩ := k2; exact DataW.trod_lt m _ _ _ hm
  obtain ⟨fu2, hf2⟩ := h2
  have o2 := open_trod 6 fu2 37 _ _ (by kernel_rfl) hf2
  obtain ⟨a3, rfl, rfl, rfl, w3⟩ := open_int Try.underlying5 (hval 3 5 v3 rfl rfl) h3
  obtain ⟨xs1, rp1, l1, ty1⟩ := o1.slice (e := 37) (d' := 20) (ks := [.int .i64, .str, .str, .bool, .bool, .str, .int .i64]) (by kernel_rfl) (by kernel_rfl) (by kernel_rfl)
  obtain ⟨xs2, rp2, ty2, wf2, na2⟩ := o2.struct (d' := 20) (ks := [.int .i64, .str, .str, .bool, .bool, .str, .int .i64]) (by kernel_rfl)
  clear hA0 hval0 hsz0
  refine ((ctOrder a0 w0 xs1 l1 ty1 xs2 ty2 wf2 a3 w3).law (ps := [.int .i64 a0, .row xs1, .agg xs2, .int .u8 a3]) (vs := [.int .i64 a0, .slice a1 len1 cap1, .agg ⟨a2⟩, .int .u8 a3]) (w := W) (Reps.cons (.int .i64 a0) (Reps.cons (show Reps W (Fw W) [.row xs1] [.slice a1 len1 cap1] from rp1).tail.1 (Reps.cons (Reps.toAgg rp2 na2) (Reps.cons (.int .u8 a3) (Reps.nil _ _)))))).mono fun e W' ⟨he, bel⟩ => ?_
  subst he
  exact ⟨_, rfl, _, _, _, [], _, [], hW', trodAll_mk1 (shut_bool Try.underlying4 _), (trodAll_cons_mk (shut_int Try.underlying3 w0) (trodAll_cons_mk (Below.trod laidOut (by kernel_rfl) (of_decide_eq_true (by kernel_rfl)) k1 bel lt1) (trodAll_cons_mk (Below.trod laidOut (by kernel_rfl) (of_decide_eq_true (by kernel_rfl)) k2 bel lt2) (trodAll_cons_mk (shut_int Try.underlying5 w3) trodAll_mk0)))), rfl, bel.frame _, fun h => by cases h⟩
theorem over : Rows.floorOrderRow.holds Try.pinned (OpenSpec.ofChange Rows.floorOrderSpec) :=
  OpenClaim.holds_of_wide 4 Try.f4 rfl rfl rfl rfl rfl rfl rfl ⟨rfl, rfl, rfl, rfl, rfl⟩ rfl rfl rfl rfl rfl (by kernel_rfl) Try.func4 (by kernel_rfl)
    (of_decide_eq_true (by kernel_rfl)) (by unfold Func.isWrapper; first | (rw [if_pos (by decide +kernel)]; kernel_rfl) | (rw [if_neg (by decide +kernel)]; exact ⟨rfl, rfl⟩))
    (fun os started H enc _ => lifted os started H enc)
theorem proved : Rows.FloorOrderSaid := over
end Go.Proofs.Ytjbfcmaiejlnbaa.floorOrder
namespace Go.Proofs.Ytjbfcmaiejlnbaa
/-- The row, under a short name, for the claim. -/
theorem floorOrder_holds : Rows.FloorOrderSaid := floorOrder.proved
#print axioms floorOrder_holds
end Go.Proofs.Ytjbfcmaiejlnbaa
