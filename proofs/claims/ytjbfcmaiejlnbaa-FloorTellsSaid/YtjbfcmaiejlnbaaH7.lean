/- A part of a proof: functions of the program, walked. -/
import Derived.Test.YtjbfcmaiejlnbaaH6
set_option linter.unusedVariables false
set_option linter.unusedSimpArgs false
namespace Go.Proofs.Ytjbfcmaiejlnbaa
open Go Go.Proofs Go.Proofs.YtjbfcmaiejlnbaaVm

theorem ctTells (xs0 : List PV) (l0 : xs0.length ≤ maxLen) (h0 : ∀ x ∈ xs0, ∃ qs, x = .agg qs ∧ qs.map PV.kd = [.int .i64, .str, .str, .bool, .bool, .str, .int .i64] ∧ ∀ q ∈ qs, q.wfv)
    (xs1 : List PV) (h1 : xs1.map PV.kd = [.int .i64, .str, .str, .bool, .bool, .str, .int .i64]) (w1 : ∀ q ∈ xs1, q.wfv) (a2 : Int) (w2 : (Lit.int .i64 a2).wf = true) (a3 : Int) (w3 : (Lit.int .i64 a3).wf = true) :
    Ct Try.prog 6 (YtjbfcmaiejlnbaaVm.ops [.row xs0, .agg xs1, .int .i64 a2, .int .i64 a3]) (.vals [.bool true]) := by
  obtain ⟨l, rfl⟩ := sub_of xs0 h0
  obtain ⟨s, hs⟩ := sub_one xs1 h1
  rw [hs]
  exact law_Tells l s a2 a3 (by simpa using l0)
end Go.Proofs.Ytjbfcmaiejlnbaa
