/- A part of a proof: functions of the program, walked. -/
import Derived.Test.YtjbfcmaiejlnbaaG9
set_option linter.unusedVariables false
set_option linter.unusedSimpArgs false
namespace Go.Proofs.Ytjbfcmaiejlnbaa
open Go Go.Proofs Go.Proofs.YtjbfcmaiejlnbaaVm

theorem ctHeads (xs0 : List PV) (l0 : xs0.length ≤ maxLen) (h0 : ∀ x ∈ xs0, ∃ qs, x = .agg qs ∧ qs.map PV.kd = [.int .i64, .str, .bool, .str, .bool, .str] ∧ ∀ q ∈ qs, q.wfv) (a1 : Int) (w1 : (Lit.int .i64 a1).wf = true) (a2 : Int) (w2 : (Lit.int .i64 a2).wf = true)
    (xs3 : List PV) (l3 : xs3.length ≤ maxLen) (h3 : ∀ x ∈ xs3, ∃ qs, x = .agg qs ∧ qs.map PV.kd = [.int .i64, .str, .str, .bool, .bool, .str, .int .i64] ∧ ∀ q ∈ qs, q.wfv) :
    Ct Try.prog 5 (YtjbfcmaiejlnbaaVm.ops [.row xs0, .int .i64 a1, .int .i64 a2, .row xs3]) (.vals [.bool true]) := by
  obtain ⟨t, rfl⟩ := change_of xs0 h0
  obtain ⟨l, rfl⟩ := sub_of xs3 h3
  exact law_Heads t a1 a2 l (by simpa using l0) (by simpa using l3)
end Go.Proofs.Ytjbfcmaiejlnbaa
