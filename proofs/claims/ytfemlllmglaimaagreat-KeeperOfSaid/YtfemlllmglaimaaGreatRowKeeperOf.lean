/- A part of a proof: functions of the program, walked. -/
import Derived.Test.YtfemlllmglaimaaGreatRows
import Derived.WalkKit
import Derived.ProofKit
import Derived.OpenShut
import Derived.ShutString
import Derived.ChangeOld
import Derived.Below
import Derived.SizedLaws
import Derived.Test.YtfemlllmglaimaaGreatIH
set_option linter.unusedVariables false
set_option linter.unusedSimpArgs false
namespace Go.Proofs.YtfemlllmglaimaaGreat.keeperOf
open Go.ChangeShapes Go.WideShapes Go.ChangeAt Go.RowKit
open Go.Proofs.Zv
theorem own : ownKnob Tryz.prog.godebug = none := by kernel_rfl
theorem laidOut : laidOutB Tryz.prog = true := by kernel_rfl
set_option maxRecDepth 100000 in
theorem lifted (os : Os) (started : os.Started) (H : Type) (enc : TypeId × Value → H) :
  ReturnsInHanded {} Tryz.checked os 9 .any (Rows.keeperOfSpec.pre6 enc Tryz.prog Tryz.f9 Rows.keeperOfRow.domain false) (Rows.keeperOfSpec.post enc Tryz.prog Tryz.f9 false true false false) := by
 refine returnsInHanded_of_change_sized (C := Tryz.checked) own started (by kernel_rfl) Tryz.func9
  (ChangeSpec.witness6 (enc := enc) (C := Tryz.checked) false ⟨#[],#[.agg #[.slice none 0 0,.slice none 0 0,.slice none 0 0,.int .i64 0,.int .i64 0],.agg #[.int .i64 0,.slice none 0 0,.string ByteArray.empty,.string ByteArray.empty,.string ByteArray.empty,.bool false,.int .i64 0,.int .i64 0,.int .i64 0]],[]⟩ 8 (by kernel_rfl) (by kernel_rfl) (by kernel_rfl) (by kernel_rfl)) ?_
 intro W base args ds gs before hval0 hW hcnd hsz0 _
 have hval : ∀ (j : Nat) t v,Tryz.f9.params[j]? = some t → args[j]? = some v → Value.okWide Tryz.prog W .any base t v := hval0
 have hW' := hW
 obtain ⟨p,q,hA0,hV,rfl,hfz,hnd⟩ := hW
 have hA : DataW.TrodAll enc Tryz.prog W 0 (fun _ => true) true Tryz.f9.params.toList args.toList ds p := hA0
 rw [Tryz.params9] at hA hval
 obtain ⟨v0,vs0,d0,ds0,p0,q0,hargs,rfl,rfl,h0,r0⟩ := trodAll_cons hA
 obtain ⟨v1,vs1,d1,ds1,p1,q1,rfl,rfl,rfl,h1,r1⟩ := trodAll_cons r0
 obtain ⟨rfl,rfl,rfl⟩ := trodAll_nil r1
 obtain rfl : args = #[v0,v1] := by cases args; simp_all
 obtain ⟨rfl,rfl⟩ := trodVars_none hV
 obtain ⟨b0,rfl,_⟩ := okWide_struct Tryz.underlying59 (hval 0 59 v0 rfl rfl)
 obtain ⟨a0⟩ := b0
 have k0 := h0
 have lt0 : ∀ x ∈ p0,x.block < W.heap.size := by obtain ⟨m,hm⟩ := k0; exact DataW.trod_lt m _ _ _ hm
 obtain ⟨fu0,hf0⟩ := h0
 have o0 := open_trod 6 fu0 59 _ _ (by kernel_rfl) hf0
 obtain ⟨b1,rfl,_⟩ := okWide_struct Tryz.underlying40 (hval 1 40 v1 rfl rfl)
 obtain ⟨a1⟩ := b1
 have k1 := h1
 have lt1 : ∀ x ∈ p1,x.block < W.heap.size := by obtain ⟨m,hm⟩ := k1; exact DataW.trod_lt m _ _ _ hm
 obtain ⟨fu1,hf1⟩ := h1
 have o1 := open_trod 6 fu1 40 _ _ (by kernel_rfl) hf1
 obtain ⟨xs0,rp0,ms0,na0⟩ := o0.shape (d' := 20) (ss := stateSh) (by kernel_rfl)
 obtain ⟨xs1,rp1,ms1,na1⟩ := o1.shape (d' := 20) (ss := cmdSh) (by kernel_rfl)
 clear hA0 hval0 hsz0
 refine ((ctOf xs0 ms0 xs1 ms1).law (ps := [.agg xs0,.agg xs1]) (vs := [.agg ⟨a0⟩,.agg ⟨a1⟩]) (w := W) (Reps.cons (Reps.toAgg rp0 na0) (Reps.cons (Reps.toAgg rp1 na1) (Reps.nil _ _)))).mono fun e W' ⟨he,bel⟩ => ?_
 subst he
 exact ⟨_,rfl,_,_,_,[],_,[],hW',trodAll_mk1 (shut_bool Tryz.underlying4 _),(trodAll_cons_mk (Below.trod laidOut (by kernel_rfl) (of_decide_eq_true (by kernel_rfl)) k0 bel lt0) (trodAll_cons_mk (Below.trod laidOut (by kernel_rfl) (of_decide_eq_true (by kernel_rfl)) k1 bel lt1) trodAll_mk0)),rfl,bel.frame _,fun h => by cases h⟩
theorem over : Rows.keeperOfRow.holds Tryz.pinned (OpenSpec.ofChange Rows.keeperOfSpec) :=
 OpenClaim.holds_of_wide 9 Tryz.f9 rfl rfl rfl rfl rfl rfl rfl ⟨rfl,rfl,rfl,rfl,rfl⟩ rfl rfl rfl rfl rfl (by kernel_rfl) Tryz.func9 (by kernel_rfl)
  (of_decide_eq_true (by kernel_rfl)) (by unfold Func.isWrapper; first | (rw [if_pos (by decide +kernel)]; kernel_rfl) | (rw [if_neg (by decide +kernel)]; exact ⟨rfl,rfl⟩))
  (fun os started H enc _ => lifted os started H enc)
theorem proved : Rows.KeeperOfSaid := over
end Go.Proofs.YtfemlllmglaimaaGreat.keeperOf
namespace Go.Proofs.YtfemlllmglaimaaGreat
theorem keeperOf_holds : Rows.KeeperOfSaid := keeperOf.proved
#print axioms keeperOf_holds
end Go.Proofs.YtfemlllmglaimaaGreat
