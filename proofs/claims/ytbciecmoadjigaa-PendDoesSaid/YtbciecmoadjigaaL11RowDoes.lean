/- The row of the law PendDoes, out of its contract. -/
import Derived.Test.YtbciecmoadjigaaRows
import Derived.Test.YtbciecmoadjigaaL11P9
import Derived.Test.YtbciecmoadjigaaVmV
import Derived.WalkKit
import Derived.ProofKit
import Derived.OpenShut
import Derived.ShutString
import Derived.ChangeOld
import Derived.Below
import Derived.SizedLaws
namespace Go.Proofs.Ytbciecmoadjigaa.pendDoes
open Go.ChangeShapes Go.WideShapes Go.ChangeAt Go.RowKit
open Go.Proofs.YtbciecmoadjigaaVm
set_option linter.unusedVariables false
theorem own : ownKnob Try.prog.godebug = none := by kernel_rfl
theorem laidOut : laidOutB Try.prog = true := by kernel_rfl
set_option maxRecDepth 100000 in
theorem lifted (os : Os) (started : os.Started) (H : Type) (enc : TypeId × Value → H) :
    ReturnsInHanded {} Try.checked os 8 .any (Rows.pendDoesSpec.pre6 enc Try.prog Try.f8 Rows.pendDoesRow.domain false) (Rows.pendDoesSpec.post enc Try.prog Try.f8 false true false false) := by
  refine returnsInHanded_of_change_sized (C := Try.checked) own started (by kernel_rfl) Try.func8
    (ChangeSpec.witness6 (enc := enc) (C := Try.checked) false ⟨#[], #[.slice none 0 0, .slice none 0 0, .slice none 0 0, .slice none 0 0], []⟩ 8 (by kernel_rfl) (by kernel_rfl) (by kernel_rfl) (by kernel_rfl)) ?_
  intro W base args ds gs before hval0 hW hcnd hsz0 _
  have hval : ∀ (j : Nat) t v, Try.f8.params[j]? = some t → args[j]? = some v → Value.okWide Try.prog W .any base t v := hval0
  have hW' := hW
  obtain ⟨p, q, hA0, hV, rfl, hfz, hnd⟩ := hW
  have hA : DataW.TrodAll enc Try.prog W 0 (fun _ => true) true Try.f8.params.toList args.toList ds p := hA0
  rw [Try.params8] at hA hval
  obtain ⟨v0, vs0, d0, ds0, p0, q0, hargs, rfl, rfl, h0, r0⟩ := trodAll_cons hA
  obtain ⟨v1, vs1, d1, ds1, p1, q1, rfl, rfl, rfl, h1, r1⟩ := trodAll_cons r0
  obtain ⟨v2, vs2, d2, ds2, p2, q2, rfl, rfl, rfl, h2, r2⟩ := trodAll_cons r1
  obtain ⟨v3, vs3, d3, ds3, p3, q3, rfl, rfl, rfl, h3, r3⟩ := trodAll_cons r2
  obtain ⟨rfl, rfl, rfl⟩ := trodAll_nil r3
  obtain rfl : args = #[v0, v1, v2, v3] := by cases args; simp_all
  obtain ⟨rfl, rfl⟩ := trodVars_none hV
  obtain ⟨a0, len0, cap0, rfl⟩ := okWide_slice Try.underlying47 (hval 0 47 v0 rfl rfl)
  have k0 := h0
  have lt0 : ∀ x ∈ p0, x.block < W.heap.size := by obtain ⟨m, hm⟩ := k0; exact DataW.trod_lt m _ _ _ hm
  obtain ⟨fu0, hf0⟩ := h0
  have o0 := open_trod 6 fu0 47 _ _ (by kernel_rfl) hf0
  obtain ⟨a1, len1, cap1, rfl⟩ := okWide_slice Try.underlying22 (hval 1 22 v1 rfl rfl)
  have k1 := h1
  have lt1 : ∀ x ∈ p1, x.block < W.heap.size := by obtain ⟨m, hm⟩ := k1; exact DataW.trod_lt m _ _ _ hm
  obtain ⟨fu1, hf1⟩ := h1
  have o1 := open_trod 6 fu1 22 _ _ (by kernel_rfl) hf1
  obtain ⟨a2, len2, cap2, rfl⟩ := okWide_slice Try.underlying22 (hval 2 22 v2 rfl rfl)
  have k2 := h2
  have lt2 : ∀ x ∈ p2, x.block < W.heap.size := by obtain ⟨m, hm⟩ := k2; exact DataW.trod_lt m _ _ _ hm
  obtain ⟨fu2, hf2⟩ := h2
  have o2 := open_trod 6 fu2 22 _ _ (by kernel_rfl) hf2
  obtain ⟨a3, len3, cap3, rfl⟩ := okWide_slice Try.underlying37 (hval 3 37 v3 rfl rfl)
  have k3 := h3
  have lt3 : ∀ x ∈ p3, x.block < W.heap.size := by obtain ⟨m, hm⟩ := k3; exact DataW.trod_lt m _ _ _ hm
  obtain ⟨fu3, hf3⟩ := h3
  have o3 := open_trod 6 fu3 37 _ _ (by kernel_rfl) hf3
  obtain ⟨xs0, rp0, l0, ty0⟩ := o0.slice (e := 64) (d' := 20) (ks := [.str, .str]) (by kernel_rfl) (by kernel_rfl) (by kernel_rfl)
  obtain ⟨xs1, rp1, l1, ty1⟩ := o1.slice (e := 32) (d' := 20) (ks := [.int .i64, .str, .str, .int .u64]) (by kernel_rfl) (by kernel_rfl) (by kernel_rfl)
  obtain ⟨xs2, rp2, l2, ty2⟩ := o2.slice (e := 32) (d' := 20) (ks := [.int .i64, .str, .str, .int .u64]) (by kernel_rfl) (by kernel_rfl) (by kernel_rfl)
  obtain ⟨xs3, rp3, l3⟩ := o3.strs (e := 9) (by kernel_rfl) (by kernel_rfl) (by kernel_rfl)
  clear hA0 hval0 hsz0
  refine ((ctDoes xs0 l0 ty0 xs1 l1 ty1 xs2 l2 ty2 xs3 l3).law (ps := [.row xs0, .row xs1, .row xs2, .row (xs3.map PV.str)]) (vs := [.slice a0 len0 cap0, .slice a1 len1 cap1, .slice a2 len2 cap2, .slice a3 len3 cap3]) (w := W) (Reps.cons (show Reps W (Fw W) [.row xs0] [.slice a0 len0 cap0] from rp0).tail.1 (Reps.cons (show Reps W (Fw W) [.row xs1] [.slice a1 len1 cap1] from rp1).tail.1 (Reps.cons (show Reps W (Fw W) [.row xs2] [.slice a2 len2 cap2] from rp2).tail.1 (Reps.cons (show Reps W (Fw W) [.row (xs3.map PV.str)] [.slice a3 len3 cap3] from rp3).tail.1 (Reps.nil _ _)))))).mono fun e W' ⟨he, bel⟩ => ?_
  subst he
  exact ⟨_, rfl, _, _, _, [], _, [], hW', trodAll_mk1 (shut_bool Try.underlying4 _), (trodAll_cons_mk (Below.trod laidOut (by kernel_rfl) (of_decide_eq_true (by kernel_rfl)) k0 bel lt0) (trodAll_cons_mk (Below.trod laidOut (by kernel_rfl) (of_decide_eq_true (by kernel_rfl)) k1 bel lt1) (trodAll_cons_mk (Below.trod laidOut (by kernel_rfl) (of_decide_eq_true (by kernel_rfl)) k2 bel lt2) (trodAll_cons_mk (Below.trod laidOut (by kernel_rfl) (of_decide_eq_true (by kernel_rfl)) k3 bel lt3) trodAll_mk0)))), rfl, bel.frame _, fun h => by cases h⟩
theorem over : Rows.pendDoesRow.holds Try.pinned (OpenSpec.ofChange Rows.pendDoesSpec) :=
  OpenClaim.holds_of_wide 8 Try.f8 rfl rfl rfl rfl rfl rfl rfl ⟨rfl, rfl, rfl, rfl, rfl⟩ rfl rfl rfl rfl rfl (by kernel_rfl) Try.func8 (by kernel_rfl)
    (of_decide_eq_true (by kernel_rfl)) (by unfold Func.isWrapper; first | (rw [if_pos (by decide +kernel)]; kernel_rfl) | (rw [if_neg (by decide +kernel)]; exact ⟨rfl, rfl⟩))
    (fun os started H enc _ => lifted os started H enc)
theorem proved : Rows.PendDoesSaid := over
end Go.Proofs.Ytbciecmoadjigaa.pendDoes
namespace Go.Proofs.Ytbciecmoadjigaa
/-- The row, under a short name, for the claim. -/
theorem pendDoes_holds : Rows.PendDoesSaid := pendDoes.proved
#print axioms pendDoes_holds
end Go.Proofs.Ytbciecmoadjigaa
