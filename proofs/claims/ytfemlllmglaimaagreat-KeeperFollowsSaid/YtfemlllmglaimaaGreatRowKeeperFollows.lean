/- A part of a proof: functions of the program, walked. -/
import Derived.Test.YtfemlllmglaimaaGreatRows
import Derived.WalkKit
import Derived.ProofKit
import Derived.OpenShut
import Derived.ShutString
import Derived.ChangeOld
import Derived.Below
import Derived.SizedLaws
import Derived.Test.YtfemlllmglaimaaGreatGH
set_option linter.unusedVariables false
set_option linter.unusedSimpArgs false
namespace Go.Proofs.YtfemlllmglaimaaGreat.keeperFollows
open Go.ChangeShapes Go.WideShapes Go.ChangeAt Go.RowKit
open Go.Proofs.Zv
theorem own : ownKnob Tryz.prog.godebug = none := by kernel_rfl
theorem laidOut : laidOutB Tryz.prog = true := by kernel_rfl
set_option maxRecDepth 100000 in
theorem lifted (os : Os) (started : os.Started) (H : Type) (enc : TypeId × Value → H) :
  ReturnsInHanded {} Tryz.checked os 11 .any (Rows.keeperFollowsSpec.pre6 enc Tryz.prog Tryz.f11 Rows.keeperFollowsRow.domain false) (Rows.keeperFollowsSpec.post enc Tryz.prog Tryz.f11 false true false false) := by
 refine returnsInHanded_of_change_sized (C := Tryz.checked) own started (by kernel_rfl) Tryz.func11
  (ChangeSpec.witness6 (enc := enc) (C := Tryz.checked) false ⟨#[],#[.agg #[.string ByteArray.empty,.string ByteArray.empty,.bool false],.slice none 0 0,.int .u8 0],[]⟩ 8 (by kernel_rfl) (by kernel_rfl) (by kernel_rfl) (by kernel_rfl)) ?_
 intro W base args ds gs before hval0 hW hcnd hsz0 _
 have hval : ∀ (j : Nat) t v,Tryz.f11.params[j]? = some t → args[j]? = some v → Value.okWide Tryz.prog W .any base t v := hval0
 have hW' := hW
 obtain ⟨p,q,hA0,hV,rfl,hfz,hnd⟩ := hW
 have hA : DataW.TrodAll enc Tryz.prog W 0 (fun _ => true) true Tryz.f11.params.toList args.toList ds p := hA0
 rw [Tryz.params11] at hA hval
 obtain ⟨v0,vs0,d0,ds0,p0,q0,hargs,rfl,rfl,h0,r0⟩ := trodAll_cons hA
 obtain ⟨v1,vs1,d1,ds1,p1,q1,rfl,rfl,rfl,h1,r1⟩ := trodAll_cons r0
 obtain ⟨v2,vs2,d2,ds2,p2,q2,rfl,rfl,rfl,h2,r2⟩ := trodAll_cons r1
 obtain ⟨rfl,rfl,rfl⟩ := trodAll_nil r2
 obtain rfl : args = #[v0,v1,v2] := by cases args; simp_all
 obtain ⟨rfl,rfl⟩ := trodVars_none hV
 obtain ⟨b0,rfl,_⟩ := okWide_struct Tryz.underlying38 (hval 0 38 v0 rfl rfl)
 obtain ⟨a0⟩ := b0
 have k0 := h0
 have lt0 : ∀ x ∈ p0,x.block < W.heap.size := by obtain ⟨m,hm⟩ := k0; exact DataW.trod_lt m _ _ _ hm
 obtain ⟨fu0,hf0⟩ := h0
 have o0 := open_trod 6 fu0 38 _ _ (by kernel_rfl) hf0
 obtain ⟨a1,len1,cap1,rfl⟩ := okWide_slice Tryz.underlying22 (hval 1 22 v1 rfl rfl)
 have k1 := h1
 have lt1 : ∀ x ∈ p1,x.block < W.heap.size := by obtain ⟨m,hm⟩ := k1; exact DataW.trod_lt m _ _ _ hm
 obtain ⟨fu1,hf1⟩ := h1
 have o1 := open_trod 6 fu1 22 _ _ (by kernel_rfl) hf1
 obtain ⟨a2,rfl,rfl,rfl,w2⟩ := open_int Tryz.underlying5 (hval 2 5 v2 rfl rfl) h2
 obtain ⟨xs0,rp0,ty0,wf0,na0⟩ := o0.struct (d' := 20) (ks := [.str,.str,.bool]) (by kernel_rfl)
 obtain ⟨xs1,rp1,l1,ty1⟩ := o1.shrow (e := 40) (d' := 20) (ss := cmdSh) (by kernel_rfl) (by kernel_rfl) (by kernel_rfl)
 clear hA0 hval0 hsz0
 refine ((ctFollows xs0 ty0 wf0 xs1 l1 ty1 a2 w2).law (ps := [.agg xs0,.row xs1,.int .u8 a2]) (vs := [.agg ⟨a0⟩,.slice a1 len1 cap1,.int .u8 a2]) (w := W) (Reps.cons (Reps.toAgg rp0 na0) (Reps.cons (show Reps W (Fw W) [.row xs1] [.slice a1 len1 cap1] from rp1).tail.1 (Reps.cons (.int .u8 a2) (Reps.nil _ _))))).mono fun e W' ⟨he,bel⟩ => ?_
 subst he
 exact ⟨_,rfl,_,_,_,[],_,[],hW',trodAll_mk1 (shut_bool Tryz.underlying4 _),(trodAll_cons_mk (Below.trod laidOut (by kernel_rfl) (of_decide_eq_true (by kernel_rfl)) k0 bel lt0) (trodAll_cons_mk (Below.trod laidOut (by kernel_rfl) (of_decide_eq_true (by kernel_rfl)) k1 bel lt1) (trodAll_cons_mk (shut_int Tryz.underlying5 w2) trodAll_mk0))),rfl,bel.frame _,fun h => by cases h⟩
theorem over : Rows.keeperFollowsRow.holds Tryz.pinned (OpenSpec.ofChange Rows.keeperFollowsSpec) :=
 OpenClaim.holds_of_wide 11 Tryz.f11 rfl rfl rfl rfl rfl rfl rfl ⟨rfl,rfl,rfl,rfl,rfl⟩ rfl rfl rfl rfl rfl (by kernel_rfl) Tryz.func11 (by kernel_rfl)
  (of_decide_eq_true (by kernel_rfl)) (by unfold Func.isWrapper; first | (rw [if_pos (by decide +kernel)]; kernel_rfl) | (rw [if_neg (by decide +kernel)]; exact ⟨rfl,rfl⟩))
  (fun os started H enc _ => lifted os started H enc)
theorem proved : Rows.KeeperFollowsSaid := over
end Go.Proofs.YtfemlllmglaimaaGreat.keeperFollows
namespace Go.Proofs.YtfemlllmglaimaaGreat
theorem keeperFollows_holds : Rows.KeeperFollowsSaid := keeperFollows.proved
#print axioms keeperFollows_holds
end Go.Proofs.YtfemlllmglaimaaGreat
