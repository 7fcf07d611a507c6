/- A part of a proof: functions of the program, walked. -/
import Derived.Test.YtjbfcmaiejlnbaaGC
import Derived.Laws.StructEq
import Derived.ChangeArms
import Derived.DataElems
import Derived.Below
set_option linter.unusedVariables false
set_option linter.unusedSimpArgs false
namespace Go.Proofs.YtjbfcmaiejlnbaaVm
open Go Classical

/-- One text is less than another. -/
def slt (a b : List UInt8) : Prop := strLt a b = true
/-- Two numbers, bit by bit. -/
def orI (k : IntKind) (x y : Int) : Int := (BitVec.ofInt k.bits x ||| BitVec.ofInt k.bits y).toNat
instance (a b : List UInt8) : Decidable (slt a b) := by unfold slt; infer_instance

def St.setCk (σ : St) (c : Nat) : St := { σ with ck := c }
section
variable {md : Md} {P : Program} {n m : Nat} {R : St → Prop} {sp : List Nat} {σ : St} {k : List It}

theorem exec_nil : exec md P n R sp (m + 1) (.its []) σ = R σ := rfl
theorem exec_ret : exec .pln P n R sp (m + 1) (.its (.code .ret :: k)) σ = R σ := by simp [exec, Md.pln]
theorem exec_retl {K b} : exec ⟨K, b, true⟩ P n R sp (m + 1) (.its (.code .ret :: k)) σ = R σ := by simp [exec]
theorem exec_retg : exec md P n R sp (m + 1) (.its (.code .ret :: k)) σ = (md.rt = true ∧ R σ) := rfl
theorem exec_seq {x y} : exec md P n R sp (m + 1) (.its (.code (.seq x y) :: k)) σ = exec md P n R sp m (.its (.code x :: .code y :: k)) σ := rfl
theorem exec_skip : exec md P n R sp (m + 1) (.its (.code .skip :: k)) σ = exec md P n R sp m (.its k) σ := rfl
theorem exec_cond {c x y} : exec md P n R sp (m + 1) (.its (.code (.cond c x y) :: k)) σ = exec md P n R sp m (.br (σ.ev c) x y k) σ := rfl
theorem exec_block {id c} : exec md P n R sp (m + 1) (.its (.code (.block id c) :: k)) σ = exec md P n R sp m (.its (.code c :: .blk id :: k)) σ := rfl
theorem exec_exit_hit {id} : exec md P n R sp (m + 1) (.its (.code (.exit id) :: .blk id :: k)) σ = exec md P n R sp m (.its k) σ := by simp [exec, exitIt]
theorem exec_exit_blk {id j} (h : j ≠ id) : exec md P n R sp (m + 1) (.its (.code (.exit id) :: .blk j :: k)) σ = exec md P n R sp (m + 1) (.its (.code (.exit id) :: k)) σ := by simp [exec, exitIt, h]
theorem exec_exit_code {id c} : exec md P n R sp (m + 1) (.its (.code (.exit id) :: .code c :: k)) σ = exec md P n R sp (m + 1) (.its (.code (.exit id) :: k)) σ := by simp [exec, exitIt]
theorem exec_exit_again {id J} : exec md P n R sp (m + 1) (.its (.code (.exit id) :: .again J :: k)) σ = exec md P n R sp (m + 1) (.its (.code (.exit id) :: k)) σ := by simp [exec, exitIt]
theorem exec_region {id os} : exec md P n R sp (m + 1) (.its (.code (.region id os false) :: k)) σ = (if id ∈ sp then V md P n R (.code (.region id os false) :: k) σ else exec md P n R sp m (.its (.ops os.toList σ.ck 0 os.toList :: k)) (σ.setCk (σ.ck + os.size))) := rfl
theorem exec_loop {c} : exec md P n R sp (m + 1) (.its (.code (.loop c) :: k)) σ = V md P n R (.code (.loop c) :: k) σ := rfl
theorem exec_rangeFunc {f ps x y} : exec md P n R sp (m + 1) (.its (.code (.rangeFunc f ps x y) :: k)) σ = V md P n R (.code (.rangeFunc f ps x y) :: k) σ := rfl
theorem exec_blk {id} : exec md P n R sp (m + 1) (.its (.blk id :: k)) σ = exec md P n R sp m (.its k) σ := rfl
theorem exec_again {J} : exec md P n R sp (m + 1) (.its (.again J :: k)) σ = J σ := rfl
theorem exec_stop {J} : exec md P n R sp (m + 1) (.its (.stop J :: k)) σ = J σ := rfl
theorem exec_opsnil {all b i} : exec md P n R sp (m + 1) (.its (.ops all b i [] :: k)) σ = exec md P n R sp m (.its k) σ := rfl
theorem exec_ops {all b i o rest} : exec md P n R sp (m + 1) (.its (.ops all b i (o :: rest) :: k)) σ = exec md P n R sp m (.gd (runs σ all o) all b i o rest k) σ := rfl
theorem exec_call {all b i d fx xs ts t p af g rest} : exec md P n R sp (m + 1) (.gd (some true) all b i { dst := d, op := .call { callee := .value fx, args := xs, argTypes := ts }, type := t, pos := p, after := af, guard := g } rest k) σ =
    V md P n R (.ops all b i ({ dst := d, op := .call { callee := .value fx, args := xs, argTypes := ts }, type := t, pos := p, after := af, guard := g } :: rest) :: k) σ := rfl
theorem exec_move {all b i d t p af g rest x} : exec md P n R sp (m + 1) (.gd (some true) all b i { dst := d, op := .move x, type := t, pos := p, after := af, guard := g } rest k) σ = exec md P n R sp m (.res (stepOp P σ (b + i) (.move x)) d all b (i + 1) rest k) σ := rfl
theorem exec_assign {all b i d t p af g rest x} : exec md P n R sp (m + 1) (.gd (some true) all b i { dst := d, op := .assign x, type := t, pos := p, after := af, guard := g } rest k) σ = exec md P n R sp m (.res (stepOp P σ (b + i) (.assign x)) d all b (i + 1) rest k) σ := rfl
theorem exec_pick {all b i d t p af g rest x y z} : exec md P n R sp (m + 1) (.gd (some true) all b i { dst := d, op := .pick x y z, type := t, pos := p, after := af, guard := g } rest k) σ = exec md P n R sp m (.res (stepOp P σ (b + i) (.pick x y z)) d all b (i + 1) rest k) σ := rfl
theorem exec_alloc {all b i d t p af g rest t'} : exec md P n R sp (m + 1) (.gd (some true) all b i { dst := d, op := .alloc t', type := t, pos := p, after := af, guard := g } rest k) σ = exec md P n R sp m (.res (stepOp P σ (b + i) (.alloc t')) d all b (i + 1) rest k) σ := rfl
theorem exec_box {all b i d t p af g rest t' x} : exec md P n R sp (m + 1) (.gd (some true) all b i { dst := d, op := .box t' x, type := t, pos := p, after := af, guard := g } rest k) σ = exec md P n R sp m (.res (stepOp P σ (b + i) (.box t' x)) d all b (i + 1) rest k) σ := rfl
theorem exec_build {all b i d t p af g rest t' ps} : exec md P n R sp (m + 1) (.gd (some true) all b i { dst := d, op := .build t' ps, type := t, pos := p, after := af, guard := g } rest k) σ = exec md P n R sp m (.res (stepOp P σ (b + i) (.build t' ps)) d all b (i + 1) rest k) σ := rfl
theorem exec_buildSlice {all b i d t p af g rest t' l ps} : exec md P n R sp (m + 1) (.gd (some true) all b i { dst := d, op := .buildSlice t' l ps, type := t, pos := p, after := af, guard := g } rest k) σ = exec md P n R sp m (.res (stepOp P σ (b + i) (.buildSlice t' l ps)) d all b (i + 1) rest k) σ := rfl
theorem exec_load {all b i d t p af g rest t' x} : exec md P n R sp (m + 1) (.gd (some true) all b i { dst := d, op := .load t' x, type := t, pos := p, after := af, guard := g } rest k) σ = exec md P n R sp m (.res (stepOp P σ (b + i) (.load t' x)) d all b (i + 1) rest k) σ := rfl
theorem exec_store {all b i d t p af g rest t' x y} : exec md P n R sp (m + 1) (.gd (some true) all b i { dst := d, op := .store t' x y, type := t, pos := p, after := af, guard := g } rest k) σ = exec md P n R sp m (.res (stepOp P σ (b + i) (.store t' x y)) d all b (i + 1) rest k) σ := rfl
theorem exec_nilCheck {all b i d t p af g rest x} : exec md P n R sp (m + 1) (.gd (some true) all b i { dst := d, op := .nilCheck x, type := t, pos := p, after := af, guard := g } rest k) σ = exec md P n R sp m (.res (stepOp P σ (b + i) (.nilCheck x)) d all b (i + 1) rest k) σ := rfl
theorem exec_binOp_t {all b i d t p af g rest o t' x yy u} : exec md P n R sp (m + 1) (.gd (some true) all b i { dst := d, op := .binOp o t' x (.tmp yy) u, type := t, pos := p, after := af, guard := g } rest k) σ = exec md P n R sp m (.res (stepOp P σ (b + i) (.binOp o t' x (.tmp yy) u)) d all b (i + 1) rest k) σ := rfl
theorem exec_binOp_i {all b i d t p af g rest o t' x yk yy u} : exec md P n R sp (m + 1) (.gd (some true) all b i { dst := d, op := .binOp o t' x (.const (.int yk yy)) u, type := t, pos := p, after := af, guard := g } rest k) σ = exec md P n R sp m (.res (stepOp P σ (b + i) (.binOp o t' x (.const (.int yk yy)) u)) d all b (i + 1) rest k) σ := rfl
theorem exec_binOp_b {all b i d t p af g rest o t' x yy u} : exec md P n R sp (m + 1) (.gd (some true) all b i { dst := d, op := .binOp o t' x (.const (.bool yy)) u, type := t, pos := p, after := af, guard := g } rest k) σ = exec md P n R sp m (.res (stepOp P σ (b + i) (.binOp o t' x (.const (.bool yy)) u)) d all b (i + 1) rest k) σ := rfl
theorem exec_binOp_s {all b i d t p af g rest o t' x yy u} : exec md P n R sp (m + 1) (.gd (some true) all b i { dst := d, op := .binOp o t' x (.const (.string yy)) u, type := t, pos := p, after := af, guard := g } rest k) σ = exec md P n R sp m (.res (stepOp P σ (b + i) (.binOp o t' x (.const (.string yy)) u)) d all b (i + 1) rest k) σ := rfl
theorem exec_binOp_p {all b i d t p af g rest o t' x yy u} : exec md P n R sp (m + 1) (.gd (some true) all b i { dst := d, op := .binOp o t' x (.const (.pointer yy)) u, type := t, pos := p, after := af, guard := g } rest k) σ = exec md P n R sp m (.res (stepOp P σ (b + i) (.binOp o t' x (.const (.pointer yy)) u)) d all b (i + 1) rest k) σ := rfl
theorem exec_binOp_f {all b i d t p af g rest o t' x yy u} : exec md P n R sp (m + 1) (.gd (some true) all b i { dst := d, op := .binOp o t' x (.func yy) u, type := t, pos := p, after := af, guard := g } rest k) σ = exec md P n R sp m (.res (stepOp P σ (b + i) (.binOp o t' x (.func yy) u)) d all b (i + 1) rest k) σ := rfl
theorem exec_binOp_nil {all b i d t p af g rest o t' x u} : exec md P n R sp (m + 1) (.gd (some true) all b i { dst := d, op := .binOp o t' x (.const (.slice none 0 0)) u, type := t, pos := p, after := af, guard := g } rest k) σ = V md P n R (.ops all b i ({ dst := d, op := .binOp o t' x (.const (.slice none 0 0)) u, type := t, pos := p, after := af, guard := g } :: rest) :: k) σ := rfl
theorem exec_unOp {all b i d t p af g rest o t' x} : exec md P n R sp (m + 1) (.gd (some true) all b i { dst := d, op := .unOp o t' x, type := t, pos := p, after := af, guard := g } rest k) σ = exec md P n R sp m (.res (stepOp P σ (b + i) (.unOp o t' x)) d all b (i + 1) rest k) σ := rfl
theorem exec_convert {all b i d t p af g rest s d' x} : exec md P n R sp (m + 1) (.gd (some true) all b i { dst := d, op := .convert s d' x, type := t, pos := p, after := af, guard := g } rest k) σ = exec md P n R sp m (.res (stepOp P σ (b + i) (.convert s d' x)) d all b (i + 1) rest k) σ := rfl
theorem exec_makeFunc {all b i d t p af g rest f a c} : exec md P n R sp (m + 1) (.gd (some true) all b i { dst := d, op := .makeFunc f a c, type := t, pos := p, after := af, guard := g } rest k) σ = exec md P n R sp m (.res (stepOp P σ (b + i) (.makeFunc f a c)) d all b (i + 1) rest k) σ := rfl
theorem exec_makeSlice {all b i d t p af g rest t' l c} : exec md P n R sp (m + 1) (.gd (some true) all b i { dst := d, op := .makeSlice t' l c, type := t, pos := p, after := af, guard := g } rest k) σ = exec md P n R sp m (.res (stepOp P σ (b + i) (.makeSlice t' l c)) d all b (i + 1) rest k) σ := rfl
theorem exec_slice {all b i d t p af g rest t' x l h m'} : exec md P n R sp (m + 1) (.gd (some true) all b i { dst := d, op := .slice t' x l h m', type := t, pos := p, after := af, guard := g } rest k) σ = exec md P n R sp m (.res (stepOp P σ (b + i) (.slice t' x l h m')) d all b (i + 1) rest k) σ := rfl
theorem exec_fieldAddr {all b i d t p af g rest t' x f} : exec md P n R sp (m + 1) (.gd (some true) all b i { dst := d, op := .fieldAddr t' x f, type := t, pos := p, after := af, guard := g } rest k) σ = exec md P n R sp m (.res (stepOp P σ (b + i) (.fieldAddr t' x f)) d all b (i + 1) rest k) σ := rfl
theorem exec_field {all b i d t p af g rest t' x f} : exec md P n R sp (m + 1) (.gd (some true) all b i { dst := d, op := .field t' x f, type := t, pos := p, after := af, guard := g } rest k) σ = exec md P n R sp m (.res (stepOp P σ (b + i) (.field t' x f)) d all b (i + 1) rest k) σ := rfl
theorem exec_indexAddr {all b i d t p af g rest t' x j} : exec md P n R sp (m + 1) (.gd (some true) all b i { dst := d, op := .indexAddr t' x j, type := t, pos := p, after := af, guard := g } rest k) σ = exec md P n R sp m (.res (stepOp P σ (b + i) (.indexAddr t' x j)) d all b (i + 1) rest k) σ := rfl
theorem exec_index {all b i d t p af g rest t' x j} : exec md P n R sp (m + 1) (.gd (some true) all b i { dst := d, op := .index t' x j, type := t, pos := p, after := af, guard := g } rest k) σ = exec md P n R sp m (.res (stepOp P σ (b + i) (.index t' x j)) d all b (i + 1) rest k) σ := rfl
theorem exec_extract {all b i d t p af g rest x j} : exec md P n R sp (m + 1) (.gd (some true) all b i { dst := d, op := .extract x j, type := t, pos := p, after := af, guard := g } rest k) σ = exec md P n R sp m (.res (stepOp P σ (b + i) (.extract x j)) d all b (i + 1) rest k) σ := rfl
theorem exec_makeMap {all b i d t p af g rest t' r} : exec md P n R sp (m + 1) (.gd (some true) all b i { dst := d, op := .makeMap t' r, type := t, pos := p, after := af, guard := g } rest k) σ = exec md P n R sp m (.res (stepOp P σ (b + i) (.makeMap t' r)) d all b (i + 1) rest k) σ := rfl
theorem exec_lookup {all b i d t p af g rest t' x j c} : exec md P n R sp (m + 1) (.gd (some true) all b i { dst := d, op := .lookup t' x j c, type := t, pos := p, after := af, guard := g } rest k) σ = exec md P n R sp m (.res (stepOp P σ (b + i) (.lookup t' x j c)) d all b (i + 1) rest k) σ := rfl
theorem exec_mapUpdate {all b i d t p af g rest t' m' k' v} : exec md P n R sp (m + 1) (.gd (some true) all b i { dst := d, op := .mapUpdate t' m' k' v, type := t, pos := p, after := af, guard := g } rest k) σ = exec md P n R sp m (.res (stepOp P σ (b + i) (.mapUpdate t' m' k' v)) d all b (i + 1) rest k) σ := rfl
theorem exec_range {all b i d t p af g rest t' x} : exec md P n R sp (m + 1) (.gd (some true) all b i { dst := d, op := .range t' x, type := t, pos := p, after := af, guard := g } rest k) σ = exec md P n R sp m (.res (stepOp P σ (b + i) (.range t' x)) d all b (i + 1) rest k) σ := rfl
theorem exec_next {all b i d t p af g rest j s} : exec md P n R sp (m + 1) (.gd (some true) all b i { dst := d, op := .next j s, type := t, pos := p, after := af, guard := g } rest k) σ = exec md P n R sp m (.res (stepOp P σ (b + i) (.next j s)) d all b (i + 1) rest k) σ := rfl
theorem exec_builtin {all b i d t p af g rest b' xs ts} : exec md P n R sp (m + 1) (.gd (some true) all b i { dst := d, op := .call { callee := .builtin b', args := xs, argTypes := ts }, type := t, pos := p, after := af, guard := g } rest k) σ = exec md P n R sp m (.res (stepOp P σ (b + i) (.call { callee := .builtin b', args := xs, argTypes := ts })) d all b (i + 1) rest k) σ := rfl
theorem exec_gdF {all b i o rest} : exec md P n R sp (m + 1) (.gd (some false) all b i o rest k) σ = (dOK n o.dst ∧ exec md P n R sp m (.its (.ops all b (i + 1) rest :: k)) (σ.put o.dst (.tup []))) := rfl
theorem exec_res {σ' v dst all b i rest} : exec md P n R sp (m + 1) (.res (some (σ', v)) dst all b i rest k) σ = (dOK n dst ∧ exec md P n R sp m (.its (.ops all b i rest :: k)) (σ'.put dst v)) := rfl
theorem exec_res_ite {c : Prop} [Decidable c] {e dst all b i rest} : exec md P n R sp (m + 1) (.res (if c then e else none) dst all b i rest k) σ = (c ∧ exec md P n R sp (m + 1) (.res e dst all b i rest k) σ) := by
  by_cases h : c <;> simp [h, exec]
theorem exec_res_choose {c : Prop} [Decidable c] {e1 e2 dst all b i rest} : exec md P n R sp (m + 1) (.res (choose2 c e1 e2) dst all b i rest k) σ = ((c → exec md P n R sp (m + 1) (.res e1 dst all b i rest k) σ) ∧ (¬c → exec md P n R sp (m + 1) (.res e2 dst all b i rest k) σ)) := by
  by_cases h : c <;> simp [h, choose2]
theorem exec_brT {x y} : exec md P n R sp (m + 1) (.br (.val (.bool true)) x y k) σ = exec md P n R sp m (.its (.code x :: k)) σ := by simp [exec]
theorem exec_brF {x y} : exec md P n R sp (m + 1) (.br (.val (.bool false)) x y k) σ = exec md P n R sp m (.its (.code y :: k)) σ := by simp [exec]

theorem exec_gd_dec {c : Prop} [Decidable c] {all b i o rest} : exec md P n R sp (m + 1) (.gd (some (decide c)) all b i o rest k) σ = ((c → exec md P n R sp (m + 1) (.gd (some true) all b i o rest k) σ) ∧ (¬c → exec md P n R sp (m + 1) (.gd (some false) all b i o rest k) σ)) := by
  by_cases h : c <;> simp [h]
theorem exec_br_dec {c : Prop} [Decidable c] {x y} : exec md P n R sp (m + 1) (.br (.val (.bool (decide c))) x y k) σ = ((c → exec md P n R sp (m + 1) (.br (.val (.bool true)) x y k) σ) ∧ (¬c → exec md P n R sp (m + 1) (.br (.val (.bool false)) x y k) σ)) := by
  by_cases h : c <;> simp [h]
theorem not_dec {c : Prop} [Decidable c] : (!decide c) = decide (¬c) := by simp
theorem and_dec {c d : Prop} [Decidable c] [Decidable d] : (decide c && decide d) = decide (c ∧ d) := by simp
theorem or_dec {c d : Prop} [Decidable c] [Decidable d] : (decide c || decide d) = decide (c ∨ d) := by simp
theorem dOK_some {t : Nat} : dOK n (some t) = (t < n) := rfl
theorem dOK_none : dOK n none = True := rfl
theorem put_some {d : Nat} {v : AV} : σ.put (some d) v = σ.set d v := rfl
theorem put_none {v : AV} : σ.put none v = σ := rfl
theorem sl_set {d t : Nat} {v : AV} : (σ.set d v).sl t = if t = d then v else σ.sl t := rfl
theorem sl_setOb {i t : Nat} {o : Ob} : (σ.setOb i o).sl t = σ.sl t := rfl
theorem ob_set {d i : Nat} {v : AV} : (σ.set d v).ob i = σ.ob i := rfl
theorem ob_setOb {i j : Nat} {o : Ob} : (σ.setOb i o).ob j = if j = i then o else σ.ob j := rfl
theorem ck_set {d : Nat} {v : AV} : (σ.set d v).ck = σ.ck := rfl
theorem ck_setOb {i : Nat} {o : Ob} : (σ.setOb i o).ck = σ.ck := rfl
theorem sl_ck {c t : Nat} : (σ.setCk c).sl t = σ.sl t := rfl
theorem ob_ck {c t : Nat} : (σ.setCk c).ob t = σ.ob t := rfl
theorem ck_ck {c : Nat} : (σ.setCk c).ck = c := rfl
theorem sl_lit_nil {os : List Ob} {c t : Nat} : (litSt [] os c).sl t = .any := rfl
theorem sl_lit {t' : Nat} {v : AV} {ls : List (Nat × AV)} {os : List Ob} {c t : Nat} : (litSt ((t', v) :: ls) os c).sl t = if t' = t then v else (litSt ls os c).sl t := by
  simp only [litSt, List.find?_cons]
  by_cases h : t' = t
  · simp [h]
  · have h' : (t' == t) = false := by simpa using h
    simp [h, h']
theorem ob_lit_nil {ls : List (Nat × AV)} {c i : Nat} : (litSt ls [] c).ob i = .free := by simp [litSt]
theorem ob_lit_zero {ls : List (Nat × AV)} {o : Ob} {os : List Ob} {c : Nat} : (litSt ls (o :: os) c).ob 0 = o := by simp [litSt]
theorem ob_lit_succ {ls : List (Nat × AV)} {o : Ob} {os : List Ob} {c i : Nat} : (litSt ls (o :: os) c).ob (i + 1) = (litSt ls os c).ob i := by simp [litSt]
theorem ck_lit {ls : List (Nat × AV)} {os : List Ob} {c : Nat} : (litSt ls os c).ck = c := rfl
theorem runs_none {all : List Oper} {d op t p af} : runs σ all { dst := d, op := op, type := t, pos := p, after := af, guard := none } = some true := rfl
theorem runs_some {all : List Oper} {d op t p af j w} : runs σ all { dst := d, op := op, type := t, pos := p, after := af, guard := some (j, w) } = gres σ all j w := rfl
theorem retSt_def {rs : List ResultVar} {r : Res} : RetSt P rs r σ = RetOK P σ rs r := rfl
theorem initSt_def {args : List Arg} : initSt args = litSt (inits 0 args) (initObs args) args.length := rfl
theorem ops_cons {p : PV} {ps : List PV} : YtjbfcmaiejlnbaaVm.ops (p :: ps) = .p p :: YtjbfcmaiejlnbaaVm.ops ps := rfl
theorem ops_nil : YtjbfcmaiejlnbaaVm.ops [] = [] := rfl
theorem gslot_zero {d op t p af g} {all : List Oper} : gslot ({ dst := d, op := op, type := t, pos := p, after := af, guard := g } :: all) 0 = d := rfl
theorem gslot_succ {o : Oper} {all : List Oper} {j : Nat} : gslot (o :: all) (j + 1) = gslot all j := rfl
end

attribute [go_sem] exec_res_choose
attribute [go_sem ↓] exec_nil exec_stop exec_ret exec_retl exec_seq exec_skip exec_cond exec_block exec_exit_hit exec_exit_blk exec_exit_code exec_exit_again exec_region exec_loop exec_rangeFunc exec_blk exec_again exec_opsnil exec_ops exec_call exec_move exec_assign exec_pick exec_alloc exec_box exec_build exec_buildSlice exec_load exec_store exec_nilCheck exec_binOp_t exec_binOp_i exec_binOp_b exec_binOp_s exec_binOp_p exec_binOp_f exec_binOp_nil exec_unOp exec_convert exec_makeFunc exec_makeSlice exec_slice exec_fieldAddr exec_field exec_indexAddr exec_index exec_extract exec_makeMap exec_lookup exec_mapUpdate exec_range exec_next exec_builtin exec_gdF exec_res exec_res_ite exec_brT exec_brF
attribute [go_sem] exec_gdF exec_brT exec_brF exec_move exec_assign exec_pick exec_alloc exec_box exec_build exec_buildSlice exec_load exec_store exec_nilCheck exec_binOp_t exec_binOp_i exec_binOp_b exec_binOp_s exec_binOp_p exec_binOp_f exec_binOp_nil exec_unOp exec_convert exec_makeFunc exec_makeSlice exec_slice exec_fieldAddr exec_field exec_indexAddr exec_index exec_extract exec_call exec_builtin exec_gd_dec exec_br_dec not_dec and_dec or_dec beq_true beq_false decide_true decide_false
attribute [go_sem] dOK_some dOK_none put_some put_none sl_set sl_setOb ob_set ob_setOb ck_set ck_setOb sl_ck ob_ck ck_ck sl_lit_nil sl_lit ob_lit_nil ob_lit_zero ob_lit_succ ck_lit runs_none runs_some 
attribute [go_sem] retSt_def initSt_def ops_cons ops_nil gslot_zero gslot_succ
attribute [go_sem] List.map_cons List.map_nil List.length_cons List.length_nil List.size_toArray List.cons_append List.nil_append List.append_nil List.take_succ_cons List.take_zero List.take_nil List.drop_succ_cons List.drop_zero List.drop_nil List.getElem?_cons_zero List.getElem?_cons_succ List.getElem?_nil List.zip_cons_cons List.zip_nil_right List.zip_nil_left List.all_cons List.all_nil List.set_cons_zero List.set_cons_succ Bool.and_true Bool.true_and Bool.not_true Bool.not_false

/-! ### Helpers: each step by what it meets -/
section
variable {md : Md} {P : Program} {σ : St}

theorem isAgg_int {k n} : (PV.int k n).isAgg = false := rfl
theorem isAgg_bool {b} : (PV.bool b).isAgg = false := rfl
theorem isAgg_str {l} : (PV.str l).isAgg = false := rfl
theorem isAgg_agg {cs} : (PV.agg cs).isAgg = true := rfl
theorem isAgg_row {xs} : (PV.row xs).isAgg = false := rfl
theorem isAgg_ptr {x} : (PV.ptr x).isAgg = false := rfl
theorem isAgg_raw {v} : (PV.raw v).isAgg = false := rfl
theorem cells_raw {v} : (PV.raw v).cells = [.raw v] := rfl
theorem isAgg_nilp : PV.nilp.isAgg = false := rfl
theorem isAgg_fn {f cs} : (PV.fn f cs).isAgg = false := rfl
theorem cells_int {k n} : (PV.int k n).cells = [.int k n] := rfl
theorem cells_bool {b} : (PV.bool b).cells = [.bool b] := rfl
theorem cells_str {l} : (PV.str l).cells = [.str l] := rfl
theorem cells_agg {cs} : (PV.agg cs).cells = cs := rfl
theorem cells_row {xs} : (PV.row xs).cells = [.row xs] := rfl
theorem cells_ptr {x} : (PV.ptr x).cells = [.ptr x] := rfl
theorem cells_nilp : PV.nilp.cells = [.nilp] := rfl
theorem kd_int {k n} : (PV.int k n).kd = .int k := rfl
theorem kd_bool {b} : (PV.bool b).kd = .bool := rfl
theorem kd_str {l} : (PV.str l).kd = .str := rfl
theorem cell_val {p} : (AV.val p).cell = !p.isAgg := rfl
theorem cell_nils : AV.nils.cell = true := rfl
theorem cell_adr {i o} : (AV.adr i o).cell = true := rfl
theorem cell_ref {i} : (AV.ref i).cell = true := rfl
theorem ev_tmp {t} : σ.ev (.tmp t) = σ.sl t := rfl
theorem ev_const {v} : σ.ev (.const v) = cAV v := rfl
theorem ev_func {f} : σ.ev (.func f) = .val (.fn f []) := rfl
theorem cAV_int {k n} : cAV (.int k n) = .val (.int k n) := rfl
theorem cAV_bool {b} : cAV (.bool b) = .val (.bool b) := rfl
theorem cAV_str {s} : cAV (.string s) = .val (.str s.data.toList) := rfl
theorem cAV_nils : cAV (.slice none 0 0) = .nils := rfl
theorem cAV_nilp : cAV (.pointer none) = .val .nilp := rfl

def pvOb : Ob → Option PV
  | .row _ xs => some (.row xs)
  | .prow xs => some (.row xs)
  | _ => none
def pvAd (o : Nat) : Ob → Option PV
  | .pbox x => if o = 0 then some (.ptr x) else none
  | .box ag cs => if o = 0 then (boxPV ag cs).map .ptr else none
  | _ => none
theorem pv_val {p} : σ.pv (.val p) = some p := rfl
theorem pv_nils : σ.pv .nils = some (.row []) := rfl
theorem pv_ref {i} : σ.pv (.ref i) = pvOb (σ.ob i) := by simp only [St.pv, pvOb]; cases σ.ob i <;> rfl
theorem pv_adr {i o} : σ.pv (.adr i o) = pvAd o (σ.ob i) := by
  simp only [St.pv, pvAd]
  cases σ.ob i <;> try rfl
  simp only
  split
  · cases boxPV _ _ <;> rfl
  · rfl
theorem pvOb_row {e xs} : pvOb (.row e xs) = some (.row xs) := rfl
theorem pvOb_prow {xs} : pvOb (.prow xs) = some (.row xs) := rfl
theorem pvAd_pbox {o x} : pvAd o (.pbox x) = if o = 0 then some (.ptr x) else none := rfl
theorem pvAd_box {o ag cs} : pvAd o (.box ag cs) = if o = 0 then (boxPV ag cs).map .ptr else none := rfl

def pubOb (σ : St) (i : Nat) : Ob → St
  | .row _ xs => σ.setOb i (.prow xs)
  | _ => σ
def pubBx (σ : St) (i : Nat) : Option PV → St
  | some x => σ.setOb i (.pbox x)
  | none => σ
def pubAd (σ : St) (i : Nat) : Ob → St
  | .box ag cs => pubBx σ i (boxPV ag cs)
  | _ => σ
theorem pub_val {p} : σ.pub (.val p) = σ := rfl
theorem pub_nils : σ.pub .nils = σ := rfl
theorem pub_any : σ.pub .any = σ := rfl
theorem pub_ref {i} : σ.pub (.ref i) = pubOb σ i (σ.ob i) := by simp only [St.pub, pubOb]; cases σ.ob i <;> rfl
theorem pub_adr {i o} : σ.pub (.adr i o) = pubAd σ i (σ.ob i) := by
  simp only [St.pub, pubAd]
  cases σ.ob i <;> rfl
theorem pubOb_row {i e xs} : pubOb σ i (.row e xs) = σ.setOb i (.prow xs) := rfl
theorem pubOb_prow {i xs} : pubOb σ i (.prow xs) = σ := rfl
theorem pubAd_box {i ag cs} : pubAd σ i (.box ag cs) = pubBx σ i (boxPV ag cs) := rfl
theorem pubAd_pbox {i x} : pubAd σ i (.pbox x) = σ := rfl
theorem pubBx_some {i x} : pubBx σ i (some x) = σ.setOb i (.pbox x) := rfl

theorem purs_nil : purs [] = some [] := rfl
theorem purs_val {p cs} : purs (.val p :: cs) = (purs cs).map (p :: ·) := by simp only [purs, AV.pure?]; cases purs cs <;> rfl
theorem purs_nils {cs} : purs (.nils :: cs) = (purs cs).map (.row [] :: ·) := by simp only [purs, AV.pure?]; cases purs cs <;> rfl
def boxPV2 (ag : Bool) : Option (List PV) → Option PV
  | some ps => if ag = true then some (.agg ps) else ps[0]?
  | none => none
theorem boxPV_agg {cs} : boxPV true cs = (purs cs).map .agg := by simp only [boxPV]; cases purs cs <;> rfl
theorem boxPV_one {p} : boxPV false [.val p] = some p := rfl
theorem boxPV_nils : boxPV false [.nils] = some (.row []) := rfl
def pvs2 : Option PV → Option (List PV) → Option (List PV)
  | some p, some ps => some (p :: ps)
  | _, _ => none
theorem pvs_nil : σ.pvs [] = some [] := rfl
theorem pvs_cons {c cs} : σ.pvs (c :: cs) = pvs2 (σ.pv c) (σ.pvs cs) := rfl
theorem pvs2_some {p ps} : pvs2 (some p) (some ps) = some (p :: ps) := rfl
theorem pubs_nil : σ.pubs [] = σ := rfl
theorem pubs_cons {c cs} : σ.pubs (c :: cs) = (σ.pub c).pubs cs := rfl
theorem evs_nil : σ.evs [] = [] := rfl
theorem evs_cons {x xs} : σ.evs (x :: xs) = σ.ev x :: σ.evs xs := rfl
theorem idxs_nil : idxs [] = [] := rfl
theorem idxs_cons {i x r} : idxs ((i, x) :: r) = i :: idxs r := rfl
theorem opers_nil : opers [] = [] := rfl
theorem opers_cons {i x r} : opers ((i, x) :: r) = x :: opers r := rfl
theorem isFree_ob {i} : σ.isFree i = match σ.ob i with | .free => true | _ => false := rfl
def freeOb : Ob → Bool
  | .free => true
  | _ => false
theorem isFree_eq {i} : σ.isFree i = freeOb (σ.ob i) := by simp only [St.isFree, freeOb]; cases σ.ob i <;> rfl
theorem freeOb_free : freeOb .free = true := rfl

def okOb : Ob → Bool
  | .row .. => true
  | .prow _ => true
  | _ => false
theorem okCell_val {p} : σ.okCell (.val p) = !p.isAgg := rfl
theorem okCell_nils : σ.okCell .nils = true := rfl
theorem okCell_adr {i o} : σ.okCell (.adr i o) = true := rfl
theorem okCell_ref {i} : σ.okCell (.ref i) = okOb (σ.ob i) := by simp only [St.okCell, okOb]; cases σ.ob i <;> rfl
theorem okOb_row {e xs} : okOb (.row e xs) = true := rfl
theorem okOb_prow {xs} : okOb (.prow xs) = true := rfl

theorem gres_def {all j w} : gres σ all j w = match gslot all j with
    | some t => match σ.sl t with
      | .val (.bool b) => some (b == w)
      | .tup [] => some false
      | _ => none
    | none => none := rfl
def gresA (w : Bool) : AV → Option Bool
  | .val (.bool b) => some (b == w)
  | .tup [] => some false
  | _ => none
def gresS (σ : St) (w : Bool) : Option Nat → Option Bool
  | some t => gresA w (σ.sl t)
  | none => none
theorem gres_eq {all j w} : gres σ all j w = gresS σ w (gslot all j) := by
  simp only [gres, gresS]
  cases gslot all j <;> rfl
theorem gresS_some {w t} : gresS σ w (some t) = gresA w (σ.sl t) := rfl
theorem gresA_bool {w b} : gresA w (.val (.bool b)) = some (b == w) := rfl
theorem gresA_tup {w} : gresA w (.tup []) = some false := rfl

/-! operations -/
theorem step_move {i x} : stepOp P σ i (.move x) = some (σ, σ.ev x) := rfl
theorem step_assign {i x} : stepOp P σ i (.assign x) = some (σ, σ.ev x) := rfl
def pickG (σ : St) (x y : AV) : AV → Option (St × AV)
  | .val (.bool b) => some (σ, if b = true then x else y)
  | _ => none
theorem step_pick {i c x y} : stepOp P σ i (.pick c x y) = pickG σ (σ.ev x) (σ.ev y) (σ.ev c) := rfl
theorem pickG_T {x y} : pickG σ x y (.val (.bool true)) = some (σ, x) := rfl
theorem pickG_F {x y} : pickG σ x y (.val (.bool false)) = some (σ, y) := rfl
theorem pickG_bool {x y b} : pickG σ (.val (.bool x)) (.val (.bool y)) (.val (.bool b)) = some (σ, .val (.bool (bif b then x else y))) := by cases b <;> rfl
theorem bif_same {b : Bool} : (bif b then true else false) = b := by cases b <;> rfl

def allocG (σ : St) (i : Nat) : Option (List AV) → Option Bool → Option (St × AV)
  | some zs, some ag => if zs.all AV.cell = true ∧ σ.isFree i = true then some (σ.setOb i (.box ag zs), .adr i 0) else none
  | _, _ => none
theorem step_alloc {i t} : stepOp P σ i (.alloc t) = allocG σ i (zeroOf P t) (aggOf P t) := rfl
theorem allocG_some {i zs ag} : allocG σ i (some zs) (some ag) = if zs.all AV.cell = true ∧ σ.isFree i = true then some (σ.setOb i (.box ag zs), .adr i 0) else none := rfl

def boxG (σ : St) (i : Nat) (v : AV) : Option Bool → Option (St × AV)
  | some true => match v with
    | .val x => if x.isAgg = true ∧ σ.isFree i = true then some (σ.setOb i (.box true (x.cells.map .val)), .adr i 0) else none
    | .agr ps k id => if (ps.all fun p => !p.isAgg) = true ∧ k < ps.length ∧ σ.isFree i = true then some (σ.setOb i (.box true ((ps.map .val).set k (.ref id))), .adr i 0) else none
    | _ => none
  | some false => if σ.okCell v = true ∧ σ.isFree i = true then some (σ.setOb i (.box false [v]), .adr i 0) else none
  | none => none
theorem step_box {i t x} : stepOp P σ i (.box t x) = boxG σ i (σ.ev x) (aggOf P t) := by
  show stBox P σ i t (σ.ev x) = _
  unfold stBox boxG
  rfl
theorem boxG_T {i x} : boxG σ i (.val x) (some true) = if x.isAgg = true ∧ σ.isFree i = true then some (σ.setOb i (.box true (x.cells.map .val)), .adr i 0) else none := rfl
theorem boxG_A {i ps k id} : boxG σ i (.agr ps k id) (some true) = if (ps.all fun p => !p.isAgg) = true ∧ k < ps.length ∧ σ.isFree i = true then some (σ.setOb i (.box true ((ps.map .val).set k (.ref id))), .adr i 0) else none := rfl
theorem boxG_F {i v} : boxG σ i v (some false) = if σ.okCell v = true ∧ σ.isFree i = true then some (σ.setOb i (.box false [v]), .adr i 0) else none := rfl

def ldG (x : PV) (o : Nat) : Option Bool → Option Nat → Option PV
  | some ag, some n => if o = 0 ∧ x.isAgg = ag ∧ x.cells.length = n then some x else partPV ag n x.cells o
  | _, _ => none
theorem ldAt_eq {t x o} : ldAt P t x o = ldG x o (aggOf P t) (szOf P t) := by
  unfold ldAt ldG
  rfl
theorem ldG_some {x o ag n} : ldG x o (some ag) (some n) = if o = 0 ∧ x.isAgg = ag ∧ x.cells.length = n then some x else partPV ag n x.cells o := rfl
theorem partPV_T {n cs o} : partPV true n cs o = if o + n ≤ cs.length then some (.agg ((cs.drop o).take n)) else none := rfl
theorem partPV_F {n cs o} : partPV false n cs o = cs[o]? := rfl

def okV (σ : St) : Option PV → Option (St × AV)
  | some y => some (σ, .val y)
  | none => none
theorem okV_some {y} : okV σ (some y) = some (σ, .val y) := rfl
theorem okV_ite {c : Prop} [Decidable c] {e : Option PV} : okV σ (if c then e else none) = if c then okV σ e else none := by split <;> rfl
def okA (σ : St) : Option AV → Option (St × AV)
  | some y => some (σ, y)
  | none => none
theorem okA_some {y} : okA σ (some y) = some (σ, y) := rfl
theorem okA_ite {c : Prop} [Decidable c] {e : Option AV} : okA σ (if c then e else none) = if c then okA σ e else none := by split <;> rfl
def loadAgg (σ : St) (cs : List AV) : Option (List PV) → Option (St × AV)
  | some ps => if ∀ p ∈ ps, p.isAgg = false then some (σ.pubs cs, .val (.agg ps)) else none
  | none => none
def loadBox (σ : St) (o : Nat) (cs : List AV) : Option Bool → Option Nat → Option (St × AV)
  | some true, some n => if o + n ≤ cs.length then loadAgg σ ((cs.drop o).take n) (σ.pvs ((cs.drop o).take n)) else none
  | some false, some _ => okA σ (cs[o]?)
  | _, _ => none
def loadOb (P : Program) (σ : St) (t : TypeId) (o : Nat) : Ob → Option (St × AV)
  | .pbox x => okV σ (ldAt P t x o)
  | .box _ cs => loadBox σ o cs (aggOf P t) (szOf P t)
  | _ => none
def loadEl2 (P : Program) (σ : St) (t : TypeId) (sz o : Nat) : Option PV → Option (St × AV)
  | some x => if x.cells.length = sz then okV σ (ldAt P t x o) else none
  | none => none
def loadEl (P : Program) (σ : St) (t : TypeId) (sz k o : Nat) : Ob → Option (St × AV)
  | .row _ xs => loadEl2 P σ t sz o xs[k]?
  | _ => none
theorem step_load {i t x} : stepOp P σ i (.load t x) = stLoad P σ t (σ.ev x) := rfl
theorem load_ptr {t x} : stLoad P σ t (.val (.ptr x)) = okV σ (ldAt P t x 0) := by simp only [stLoad]; cases ldAt P t x 0 <;> rfl
theorem load_adr {t i o} : stLoad P σ t (.adr i o) = loadOb P σ t o (σ.ob i) := by
  simp only [stLoad]
  cases σ.ob i <;> simp only [loadOb]
  · rename_i ag cs
    cases aggOf P t with
    | none => rfl
    | some b =>
      cases b
      · cases szOf P t with
        | none => rfl
        | some n => simp only [loadBox]; cases cs[o]? <;> rfl
      · cases szOf P t with
        | none => rfl
        | some n => simp only [loadBox, loadAgg]; split <;> rfl
  · cases ldAt P t _ o <;> rfl
theorem load_ead {t i sz k o} : stLoad P σ t (.ead i sz k o) = loadEl P σ t sz k o (σ.ob i) := by
  simp only [stLoad]
  cases σ.ob i <;> simp only [loadEl]
  rename_i e xs
  cases xs[k]? with
  | none => rfl
  | some x =>
    simp only [loadEl2]
    split
    · cases ldAt P t x o <;> rfl
    · rfl
theorem loadOb_pbox {t o x} : loadOb P σ t o (.pbox x) = okV σ (ldAt P t x o) := rfl
theorem loadOb_box {t o ag cs} : loadOb P σ t o (.box ag cs) = loadBox σ o cs (aggOf P t) (szOf P t) := rfl
theorem loadBox_T {o cs n} : loadBox σ o cs (some true) (some n) = if o + n ≤ cs.length then loadAgg σ ((cs.drop o).take n) (σ.pvs ((cs.drop o).take n)) else none := rfl
theorem loadBox_F {o cs n} : loadBox σ o cs (some false) (some n) = okA σ (cs[o]?) := rfl
theorem loadAgg_some {cs ps} : loadAgg σ cs (some ps) = if ∀ p ∈ ps, p.isAgg = false then some (σ.pubs cs, .val (.agg ps)) else none := rfl
theorem loadEl_row {t sz k o e xs} : loadEl P σ t sz k o (.row e xs) = loadEl2 P σ t sz o xs[k]? := rfl
theorem loadEl2_some {t sz o x} : loadEl2 P σ t sz o (some x) = if x.cells.length = sz then okV σ (ldAt P t x o) else none := rfl

def okS : Option St → Option (St × AV)
  | some s => some (s, .any)
  | none => none
theorem okS_some {s} : okS (some s) = some (s, .any) := rfl
theorem okS_ite {c : Prop} [Decidable c] {e : Option St} : okS (if c then e else none) = if c then okS e else none := by split <;> rfl
theorem step_store {i t x y} : stepOp P σ i (.store t x y) = okS (stStore P σ t (σ.ev x) (σ.ev y)) := by
  show (match stStore P σ t (σ.ev x) (σ.ev y) with | some σ' => some (σ', AV.any) | none => none) = _
  cases stStore P σ t (σ.ev x) (σ.ev y) <;> rfl
def storeAgg (σ : St) (i o n : Nat) (ag : Bool) (cs : List AV) : AV → Option St
  | .val x => if x.isAgg = true ∧ x.cells.length = n ∧ o + n ≤ cs.length then some (σ.setOb i (.box ag (cs.take o ++ x.cells.map .val ++ cs.drop (o + n)))) else none
  | _ => none
def storeBox (σ : St) (i o : Nat) (ag : Bool) (cs : List AV) (v : AV) : Option Bool → Option Nat → Option St
  | some true, some n => storeAgg σ i o n ag cs v
  | some false, some n => if n = 1 ∧ o < cs.length ∧ σ.okCell v = true then some (σ.setOb i (.box ag (cs.set o v))) else none
  | _, _ => none
def storeOb (P : Program) (σ : St) (t : TypeId) (i o : Nat) (v : AV) : Ob → Option St
  | .box ag cs => storeBox σ i o ag cs v (aggOf P t) (szOf P t)
  | _ => none
def storeFin (σ : St) (i k : Nat) (e : TypeId) (xs : List PV) : Option PV → Option St
  | some y => some (σ.setOb i (.row e (xs.set k y)))
  | none => none
def storeEl2 (σ : St) (i sz k o : Nat) (e : TypeId) (xs : List PV) : Option PV → Option Bool → Option Nat → Option PV → Option St
  | some x, some ag, some n, some q => storeFin σ i k e xs (stElem ag n sz x q o)
  | _, _, _, _ => none
def storeEl (P : Program) (σ : St) (t : TypeId) (i sz k o : Nat) (q : Option PV) : Ob → Option St
  | .row e xs => storeEl2 σ i sz k o e xs xs[k]? (aggOf P t) (szOf P t) q
  | _ => none
theorem store_adr {t i o v} : stStore P σ t (.adr i o) v = storeOb P σ t i o v (σ.ob i) := by
  simp only [stStore]
  cases σ.ob i <;> simp only [storeOb]
  cases aggOf P t with
  | none => rfl
  | some b =>
    cases b <;> cases szOf P t <;> simp only [storeBox]
    cases v <;> rfl
theorem store_ead {t i sz k o v} : stStore P σ t (.ead i sz k o) v = storeEl P (σ.pub v) t i sz k o (σ.pv v) ((σ.pub v).ob i) := by
  simp only [stStore]
  cases (σ.pub v).ob i <;> simp only [storeEl]
  rename_i e xs
  cases xs[k]? <;> cases aggOf P t <;> cases szOf P t <;> cases σ.pv v <;> simp only [storeEl2]
  rename_i x ag n q
  cases stElem ag n sz x q o <;> rfl
theorem storeOb_box {t i o v ag cs} : storeOb P σ t i o v (.box ag cs) = storeBox σ i o ag cs v (aggOf P t) (szOf P t) := rfl
theorem storeBox_T {i o ag cs x n} : storeBox σ i o ag cs (.val x) (some true) (some n) = if x.isAgg = true ∧ x.cells.length = n ∧ o + n ≤ cs.length then some (σ.setOb i (.box ag (cs.take o ++ x.cells.map .val ++ cs.drop (o + n)))) else none := rfl
theorem storeBox_F {i o ag cs v n} : storeBox σ i o ag cs v (some false) (some n) = if n = 1 ∧ o < cs.length ∧ σ.okCell v = true then some (σ.setOb i (.box ag (cs.set o v))) else none := rfl
theorem storeEl_row {t i sz k o q e xs} : storeEl P σ t i sz k o q (.row e xs) = storeEl2 σ i sz k o e xs xs[k]? (aggOf P t) (szOf P t) q := rfl
theorem storeEl2_some {i sz k o e xs x ag n q} : storeEl2 σ i sz k o e xs (some x) (some ag) (some n) (some q) = storeFin σ i k e xs (stElem ag n sz x q o) := rfl
theorem storeFin_some {i k e xs y} : storeFin σ i k e xs (some y) = some (σ.setOb i (.row e (xs.set k y))) := rfl
theorem stElem_def {ag n sz x q o} : stElem ag n sz x q o = if x.cells.length = sz then
    (if o = 0 ∧ n = sz ∧ q.cells.length = sz ∧ q.isAgg = ag then some q
    else if ag = false ∧ q.isAgg = false ∧ n = 1 ∧ x.isAgg = true ∧ o < sz then some (.agg (x.cells.set o q)) else none)
  else none := rfl

def bld3 (σ : St) (evs : List AV) : Option (List PV) → Option (St × AV)
  | some cs => some (σ.pubs evs, .val (.agg cs))
  | none => none
def bld2 (σ : St) (evs : List AV) (ag : Option Bool) (idx : List Nat) (places : List (Nat × Nat)) (ps : List PV) : Option (List PV) → Option (St × AV)
  | some z => if (∀ p ∈ z, p.isAgg = false) ∧ ag = some true then bld3 σ evs (fillP places z (idx.zip ps)) else none
  | none => none
def bld1 (σ : St) (evs : List AV) (ag : Option Bool) (idx : List Nat) : Option (List AV) → Option (List (Nat × Nat)) → Option (List PV) → Option (St × AV)
  | some zs, some places, some ps => bld2 σ evs ag idx places ps (purs zs)
  | _, _, _ => none
theorem step_build {i t parts} : stepOp P σ i (.build t parts) = bld1 σ (σ.evs (opers parts.toList)) (aggOf P t) (idxs parts.toList) (zeroOf P t) (plOf P t) (σ.pvs (σ.evs (opers parts.toList))) := by
  show stBuild P σ t parts.toList = _
  unfold stBuild
  cases zeroOf P t <;> cases plOf P t <;> cases σ.pvs (σ.evs (opers parts.toList)) <;> simp only [bld1]
  rename_i zs places ps
  cases purs zs <;> simp only [bld2]
  rename_i z
  cases fillP places z ((idxs parts.toList).zip ps) <;> simp only [bld3]
  split <;> rfl
theorem bld1_some {evs ag idx zs places ps} : bld1 σ evs ag idx (some zs) (some places) (some ps) = bld2 σ evs ag idx places ps (purs zs) := rfl
theorem bld2_some {evs ag idx places ps z} : bld2 σ evs ag idx places ps (some z) = if (∀ p ∈ z, p.isAgg = false) ∧ ag = some true then bld3 σ evs (fillP places z (idx.zip ps)) else none := rfl
theorem bld3_some {evs cs} : bld3 σ evs (some cs) = some (σ.pubs evs, .val (.agg cs)) := rfl
theorem fillP_nil {places cs} : fillP places cs [] = some cs := rfl
def fill2 (places : List (Nat × Nat)) (cs : List PV) (p : PV) (rest : List (Nat × PV)) : Option (Nat × Nat) → Option (List PV)
  | some (o, n) => if p.cells.length = n ∧ o + n ≤ cs.length then fillP places (cs.take o ++ p.cells ++ cs.drop (o + n)) rest else none
  | none => none
theorem fillP_cons {places cs i p rest} : fillP places cs ((i, p) :: rest) = fill2 places cs p rest places[i]? := by
  simp only [fillP, fill2]
  cases places[i]? <;> rfl
theorem fill2_some {places cs p rest o n} : fill2 places cs p rest (some (o, n)) = if p.cells.length = n ∧ o + n ≤ cs.length then fillP places (cs.take o ++ p.cells ++ cs.drop (o + n)) rest else none := rfl

def bsl2 (σ : St) (i : Nat) (e : TypeId) (evs : List AV) (idx : List Nat) (len : Nat) (z : Option (List AV)) : Option Nat → Option (List PV) → Option (St × AV)
  | some sz, some ps => if 0 < sz ∧ len * sz ≤ 16777216 ∧ idx = List.range len ∧ (∀ p ∈ ps, p.cells.length = sz) ∧ z.isSome = true ∧ σ.isFree i = true then some ((σ.pubs evs).setOb i (.row e ps), .ref i) else none
  | _, _ => none
def bsl1 (P : Program) (σ : St) (i : Nat) (evs : List AV) (idx : List Nat) (len : Nat) : Option TypeId → Option (St × AV)
  | some e => bsl2 σ i e evs idx len (zeroOf P e) (szOf P e) (σ.pvs evs)
  | none => none
theorem step_buildSlice {i t len parts} : stepOp P σ i (.buildSlice t len parts) = bsl1 P σ i (σ.evs (opers parts.toList)) (idxs parts.toList) len (elOf P t) := by
  show stBuildSlice P σ i t len parts.toList = _
  unfold stBuildSlice
  cases elOf P t <;> simp only [bsl1]
  rename_i e
  cases szOf P e <;> cases σ.pvs (σ.evs (opers parts.toList)) <;> simp only [bsl2]
theorem bsl1_some {i evs idx len e} : bsl1 P σ i evs idx len (some e) = bsl2 σ i e evs idx len (zeroOf P e) (szOf P e) (σ.pvs evs) := rfl
theorem bsl2_some {i e evs idx len z sz ps} : bsl2 σ i e evs idx len z (some sz) (some ps) = if 0 < sz ∧ len * sz ≤ 16777216 ∧ idx = List.range len ∧ (∀ p ∈ ps, p.cells.length = sz) ∧ z.isSome = true ∧ σ.isFree i = true then some ((σ.pubs evs).setOb i (.row e ps), .ref i) else none := rfl

def app3 (σ : St) (i j : Nat) (e : TypeId) (ys : List PV) (nb : Nat) : Ob → Option (St × AV)
  | .row e' xs => if e' = e ∧ (xs.length + ys.length) * nb ≤ 140737488355328 ∧ xs.length + ys.length ≤ 4611686018427387904 then some ((σ.setOb j .gone).setOb i (.row e (xs ++ ys)), .ref i) else none
  | _ => none
def app2 (σ : St) (i : Nat) (e : TypeId) (ys : List PV) (nb : Nat) : AV → Option (St × AV)
  | .nils => if ys.length * nb ≤ 140737488355328 ∧ ys.length ≤ 4611686018427387904 then some (σ.setOb i (.row e ys), .ref i) else none
  | .ref j => app3 σ i j e ys nb (σ.ob j)
  | _ => none
def app1 (σ : St) (i : Nat) (t t2 e : TypeId) (s : AV) (z : Option (List AV)) : Option Nat → Option Nat → Option PV → Option (St × AV)
  | some sz, some nb, some (.row ys) => if t2 = t ∧ 0 < sz ∧ (∀ y ∈ ys, y.cells.length = sz) ∧ z.map List.length = some sz ∧ σ.isFree i = true then app2 σ i e ys nb s else none
  | _, _, _ => none
def app0 (P : Program) (σ : St) (i : Nat) (t t2 : TypeId) (s x : AV) : Option TypeId → Option (St × AV)
  | some e => app1 σ i t t2 e s (zeroOf P e) (szOf P e) (byOf P e) (σ.pv x)
  | none => none
theorem append_eq {i t t2 s x} : stAppend P σ i t t2 s x = app0 P σ i t t2 s x (elOf P t) := by
  unfold stAppend
  cases elOf P t <;> simp only [app0]
  rename_i e
  cases szOf P e <;> cases byOf P e <;> cases σ.pv x <;> simp only [app1]
  rename_i sz nb p
  cases p <;> simp only [app1]
  split
  · cases s <;> simp only [app2]
    rename_i j
    cases σ.ob j <;> rfl
  · rfl
theorem app0_some {i t t2 s x e} : app0 P σ i t t2 s x (some e) = app1 σ i t t2 e s (zeroOf P e) (szOf P e) (byOf P e) (σ.pv x) := rfl
theorem app1_some {i t t2 e s z sz nb ys} : app1 σ i t t2 e s z (some sz) (some nb) (some (.row ys)) = if t2 = t ∧ 0 < sz ∧ (∀ y ∈ ys, y.cells.length = sz) ∧ z.map List.length = some sz ∧ σ.isFree i = true then app2 σ i e ys nb s else none := rfl
theorem app2_nils {i e ys nb} : app2 σ i e ys nb .nils = if ys.length * nb ≤ 140737488355328 ∧ ys.length ≤ 4611686018427387904 then some (σ.setOb i (.row e ys), .ref i) else none := rfl
theorem app2_ref {i e ys nb j} : app2 σ i e ys nb (.ref j) = app3 σ i j e ys nb (σ.ob j) := rfl
theorem app3_row {i j e ys nb e' xs} : app3 σ i j e ys nb (.row e' xs) = if e' = e ∧ (xs.length + ys.length) * nb ≤ 140737488355328 ∧ xs.length + ys.length ≤ 4611686018427387904 then some ((σ.setOb j .gone).setOb i (.row e (xs ++ ys)), .ref i) else none := rfl

def fld2 (v : AV) (o : Nat) : Option Nat → Option Bool → Option AV
  | some n, some ag => if 0 < n then match v with
        | .val (.ptr x) => (partPV ag n x.cells o).map (fun y => .val (.ptr y))
        | .adr i k => some (.adr i (k + o))
        | .ead i sz j k => some (.ead i sz j (k + o))
        | _ => none else none
  | _, _ => none
def fld1 (P : Program) (v : AV) : Option (Nat × TypeId) → Option AV
  | some (o, ft) => fld2 v o (szOf P ft) (aggOf P ft)
  | none => none
theorem step_fieldAddr {i t x f} : stepOp P σ i (.fieldAddr t x f) = okA σ (fld1 P (σ.ev x) (fldOf P t f)) := by
  show (match stField P t f (σ.ev x) with | some v => some (σ, v) | none => none) = _
  have e : stField P t f (σ.ev x) = fld1 P (σ.ev x) (fldOf P t f) := by
    unfold stField
    cases fldOf P t f <;> simp only [fld1]
    rename_i y
    obtain ⟨o, ft⟩ := y
    cases szOf P ft <;> cases aggOf P ft <;> simp only [fld2]
    rename_i n ag
    split
    · generalize σ.ev x = v
      cases v <;> try rfl
      rename_i p
      cases p <;> try rfl
      rename_i y
      simp only
      cases partPV ag n y.cells o <;> rfl
    · rfl
  rw [e]
  cases fld1 P (σ.ev x) (fldOf P t f) <;> rfl
theorem fld1_some {v o ft} : fld1 P v (some (o, ft)) = fld2 v o (szOf P ft) (aggOf P ft) := rfl
theorem fld2_ptr {x o n ag} : fld2 (.val (.ptr x)) o (some n) (some ag) = if 0 < n then (partPV ag n x.cells o).map (fun y => .val (.ptr y)) else none := rfl
theorem fld2_adr {i k o n ag} : fld2 (.adr i k) o (some n) (some ag) = if 0 < n then some (.adr i (k + o)) else none := rfl
theorem fld2_ead {i sz j k o n ag} : fld2 (.ead i sz j k) o (some n) (some ag) = if 0 < n then some (.ead i sz j (k + o)) else none := rfl

def idx4 (sz : Nat) : Option PV → Option AV
  | some x => if x.cells.length = sz then some (.val (.ptr x)) else none
  | none => none
def idx5 (j sz k : Nat) : Option PV → Option AV
  | some x => if x.cells.length = sz then some (.ead j sz k 0) else none
  | none => none
def idx3 (j k sz : Nat) : Ob → Option AV
  | .row _ xs => idx5 j sz k xs[k]?
  | .prow xs => idx4 sz xs[k]?
  | _ => none
def idx2 (σ : St) (k : Nat) (v : AV) : Option Nat → Option AV
  | some sz => match v with
    | .ref j => idx3 j k sz (σ.ob j)
    | .val (.row xs) => idx4 sz xs[k]?
    | _ => none
  | none => none
def idx1 (P : Program) (σ : St) (k : Nat) (v : AV) : Option TypeId → Option AV
  | some e => idx2 σ k v (szOf P e)
  | none => none
def idx0 (P : Program) (σ : St) (t : TypeId) (v : AV) : AV → Option AV
  | .val (.int _ n) => if 0 ≤ n then idx1 P σ n.toNat v (elOf P t) else none
  | _ => none
theorem step_indexAddr {i t x y} : stepOp P σ i (.indexAddr t x y) = okA σ (idx0 P σ t (σ.ev x) (σ.ev y)) := by
  show (match stIdx P σ t (σ.ev x) (σ.ev y) with | some v => some (σ, v) | none => none) = _
  have e : stIdx P σ t (σ.ev x) (σ.ev y) = idx0 P σ t (σ.ev x) (σ.ev y) := by
    unfold stIdx
    generalize σ.ev x = v
    generalize σ.ev y = u
    cases u <;> try rfl
    rename_i p
    cases p <;> try rfl
    simp only [idx0]
    split
    · cases elOf P t <;> simp only [idx1]
      rename_i e
      cases szOf P e <;> simp only [idx2]
      cases v <;> try rfl
      · rename_i p
        cases p <;> try rfl
    · rfl
  rw [e]
  cases idx0 P σ t (σ.ev x) (σ.ev y) <;> rfl
theorem idx0_int {t v k n} : idx0 P σ t v (.val (.int k n)) = if 0 ≤ n then idx1 P σ n.toNat v (elOf P t) else none := rfl
theorem idx1_some {k v e} : idx1 P σ k v (some e) = idx2 σ k v (szOf P e) := rfl
theorem idx2_ref {k j sz} : idx2 σ k (.ref j) (some sz) = idx3 j k sz (σ.ob j) := rfl
theorem idx2_row {k xs sz} : idx2 σ k (.val (.row xs)) (some sz) = idx4 sz xs[k]? := rfl
theorem idx3_row {j k sz e xs} : idx3 j k sz (.row e xs) = idx5 j sz k xs[k]? := rfl
theorem idx3_prow {j k sz xs} : idx3 j k sz (.prow xs) = idx4 sz xs[k]? := rfl
theorem idx4_some {sz x} : idx4 sz (some x) = if x.cells.length = sz then some (.val (.ptr x)) else none := rfl
theorem idx5_some {j sz k x} : idx5 j sz k (some x) = if x.cells.length = sz then some (.ead j sz k 0) else none := rfl

noncomputable def bin2 (P : Program) (σ : St) (op : BinOp) (t : TypeId) : AV → AV → Option (St × AV)
  | .val p, .val q => okV σ (binPV P op t p q)
  | _, _ => none
theorem step_binOp {i op t x y u} : stepOp P σ i (.binOp op t x y u) = bin2 P σ op t (σ.ev x) (σ.ev y) := by
  show (match σ.ev x, σ.ev y with | .val p, .val q => (match binPV P op t p q with | some r => some (σ, AV.val r) | none => none) | _, _ => none) = _
  cases σ.ev x <;> cases σ.ev y <;> rfl
theorem bin2_val {op t p q} : bin2 P σ op t (.val p) (.val q) = okV σ (binPV P op t p q) := rfl
theorem bin_add {t k x y} : binPV P .add t (.int k x) (.int k y) = some (.int k (k.wrap (x + y))) := by simp [binPV]
theorem bin_sub {t k x y} : binPV P .sub t (.int k x) (.int k y) = some (.int k (k.wrap (x - y))) := by simp [binPV]
theorem bin_mul {t k x y} : binPV P .mul t (.int k x) (.int k y) = some (.int k (k.wrap (x * y))) := by simp [binPV]
theorem bin_quo {t k x y} : binPV P .quo t (.int k x) (.int k y) = if y ≠ 0 then some (.int k (k.wrap (x.tdiv y))) else none := by simp [binPV]
theorem bin_rem {t k x y} : binPV P .rem t (.int k x) (.int k y) = if y ≠ 0 then some (.int k (x.tmod y)) else none := by simp [binPV]
theorem bin_shr {t k k' x y} : binPV P .shr t (.int k x) (.int k' y) = if 0 ≤ y then some (.int k (x / 2 ^ min y.toNat k.bits)) else none := rfl
theorem bin_shl {t k k' x y} : binPV P .shl t (.int k x) (.int k' y) = if 0 ≤ y then some (.int k (k.wrap (x * 2 ^ min y.toNat k.bits))) else none := rfl
theorem bin_or {t k x y} : binPV P .or t (.int k x) (.int k y) = some (.int k (k.wrap (orI k x y))) := by simp [binPV, orI]
theorem bin_eql {t k x y} : binPV P .eql t (.int k x) (.int k y) = some (.bool (decide (x = y))) := by simp [binPV]
theorem bin_neq {t k x y} : binPV P .neq t (.int k x) (.int k y) = some (.bool (!decide (x = y))) := by simp [binPV]
theorem bin_lss {t k x y} : binPV P .lss t (.int k x) (.int k y) = some (.bool (decide (x < y))) := by simp [binPV]
theorem bin_leq {t k x y} : binPV P .leq t (.int k x) (.int k y) = some (.bool (decide (x ≤ y))) := by simp [binPV]
theorem bin_gtr {t k x y} : binPV P .gtr t (.int k x) (.int k y) = some (.bool (decide (y < x))) := by simp [binPV]
theorem bin_geq {t k x y} : binPV P .geq t (.int k x) (.int k y) = some (.bool (decide (y ≤ x))) := by simp [binPV]
theorem bin_cat {t a b} : binPV P .add t (.str a) (.str b) = if a.length + b.length ≤ 4611686018427387904 then some (.str (a ++ b)) else none := rfl
theorem bin_eqs {t a b} : binPV P .eql t (.str a) (.str b) = some (.bool (decide (a = b))) := rfl
theorem bin_nes {t a b} : binPV P .neq t (.str a) (.str b) = some (.bool (!decide (a = b))) := rfl
theorem bin_lts {t a b} : binPV P .lss t (.str a) (.str b) = some (.bool (decide (slt a b))) := by cases h : strLt a b <;> simp [binPV, slt, h]
theorem bin_les {t a b} : binPV P .leq t (.str a) (.str b) = some (.bool (decide (slt a b ∨ a = b))) := by cases h : strLt a b <;> simp [binPV, slt, h]
theorem bin_gts {t a b} : binPV P .gtr t (.str a) (.str b) = some (.bool (decide (¬ (slt a b ∨ a = b)))) := by by_cases h : a = b <;> simp [binPV, slt, h]
theorem bin_ges {t a b} : binPV P .geq t (.str a) (.str b) = some (.bool (decide (¬ slt a b))) := by simp [binPV, slt]
theorem bin_eqb {t a b} : binPV P .eql t (.bool a) (.bool b) = if P.underlying t = some .bool then some (.bool (a == b)) else none := rfl
theorem bin_neb {t a b} : binPV P .neq t (.bool a) (.bool b) = if P.underlying t = some .bool then some (.bool (!(a == b))) else none := rfl
theorem bin_eqa {t ps qs} : binPV P .eql t (.agg ps) (.agg qs) = if EqT P t (ps.map PV.kd) ∧ qs.map PV.kd = ps.map PV.kd then some (.bool (decide (PV.agg ps = PV.agg qs))) else none := by simp [binPV, PV.isAgg, PV.cells]
theorem bin_nea {t ps qs} : binPV P .neq t (.agg ps) (.agg qs) = if EqT P t (ps.map PV.kd) ∧ qs.map PV.kd = ps.map PV.kd then some (.bool (!decide (PV.agg ps = PV.agg qs))) else none := by simp [binPV, PV.isAgg, PV.cells]

def notG (σ : St) : AV → Option (St × AV)
  | .val (.bool b) => some (σ, .val (.bool (!b)))
  | _ => none
theorem step_not {i t x} : stepOp P σ i (.unOp .not t x) = notG σ (σ.ev x) := by
  show (match UnOp.not, σ.ev x with | .not, .val (.bool b) => some (σ, AV.val (.bool (!b))) | .neg, .val (.int k n) => some (σ, .val (.int k (k.wrap (0 - n)))) | _, _ => none) = _
  cases σ.ev x <;> try rfl
  rename_i p
  cases p <;> rfl
theorem notG_bool {b} : notG σ (.val (.bool b)) = some (σ, .val (.bool (!b))) := rfl

theorem step_builtin {i b xs ts} : stepOp P σ i (.call { callee := .builtin b, args := xs, argTypes := ts }) = stBuiltin2 P σ i b (σ.evs xs.toList) ts.toList := rfl
theorem b2_str {i b l ts} : stBuiltin2 P σ i b [.val (.str l)] ts = stBuiltin P σ i b [.val (.str l)] ts := rfl
theorem b2_row {i b l ts} : stBuiltin2 P σ i b [.val (.row l)] ts = stBuiltin P σ i b [.val (.row l)] ts := rfl
theorem b2_rowp {i b l ts} : stBuiltin2 P σ i b [.val (.rowp l)] ts = stBuiltin P σ i b [.val (.row l)] ts := rfl
theorem b2_nils {i b ts} : stBuiltin2 P σ i b [.nils] ts = stBuiltin P σ i b [.nils] ts := rfl
theorem b2_ref {i b j ts} : stBuiltin2 P σ i b [.ref j] ts = stBuiltin P σ i b [.ref j] ts := rfl
theorem b2_vw {i b id sz l n ts} : stBuiltin2 P σ i b [.vw id sz l n] ts = stB1 P σ b id sz l n ts := rfl
noncomputable def b2y (P : Program) (σ : St) (i : Nat) (b : Builtin) (ts : List TypeId) (x : AV) : AV → Option (St × AV)
  | .val (.rowp zs) => stBuiltin P σ i b [x, .val (.row zs)] ts
  | y => stBuiltin P σ i b [x, y] ts
noncomputable def b2x (P : Program) (σ : St) (i : Nat) (b : Builtin) (ts : List TypeId) (y : AV) : AV → Option (St × AV)
  | .vw id sz l n => stB2 P σ i b id sz l n y ts
  | x => b2y P σ i b ts x y
theorem b2_two {i b x y ts} : stBuiltin2 P σ i b [x, y] ts = b2x P σ i b ts y x := by
  cases x with
  | vw _ _ _ _ => rfl
  | val p => cases y with
    | val q => cases p <;> cases q <;> rfl
    | _ => cases p <;> rfl
  | _ => cases y with
    | val q => cases q <;> rfl
    | _ => rfl
theorem b2x_vw {i b ts y id sz l n} : b2x P σ i b ts y (.vw id sz l n) = stB2 P σ i b id sz l n y ts := rfl
theorem b2x_val {i b ts y p} : b2x P σ i b ts y (.val p) = b2y P σ i b ts (.val p) y := rfl
theorem b2x_nils {i b ts y} : b2x P σ i b ts y .nils = b2y P σ i b ts .nils y := rfl
theorem b2x_ref {i b ts y j} : b2x P σ i b ts y (.ref j) = b2y P σ i b ts (.ref j) y := rfl
theorem b2y_rowp {i b ts x zs} : b2y P σ i b ts x (.val (.rowp zs)) = stBuiltin P σ i b [x, .val (.row zs)] ts := rfl
theorem b2y_row {i b ts x zs} : b2y P σ i b ts x (.val (.row zs)) = stBuiltin P σ i b [x, .val (.row zs)] ts := rfl
theorem b2y_int {i b ts x k n} : b2y P σ i b ts x (.val (.int k n)) = stBuiltin P σ i b [x, .val (.int k n)] ts := rfl
theorem b2y_str {i b ts x l} : b2y P σ i b ts x (.val (.str l)) = stBuiltin P σ i b [x, .val (.str l)] ts := rfl
theorem b2y_nils {i b ts x} : b2y P σ i b ts x .nils = stBuiltin P σ i b [x, .nils] ts := rfl
theorem b2y_ref {i b ts x j} : b2y P σ i b ts x (.ref j) = stBuiltin P σ i b [x, .ref j] ts := rfl
def lenV (σ : St) (n : Nat) : Option TypeId → Option (St × AV)
  | some _ => some (σ, .val (.int .i64 n))
  | none => none
theorem b1_len {id sz l n t} : stB1 P σ .len id sz l n [t] = lenV σ n (elOf P t) := by
  simp only [stB1, lenV]
  cases elOf P t <;> rfl
theorem lenV_some {n e} : lenV σ n (some e) = some (σ, .val (.int .i64 n)) := rfl
def capV (σ : St) (l : Nat) : Ob → Option TypeId → Option (St × AV)
  | .rowk _ xs k, some _ => if l ≤ xs.length + k then some (σ, .val (.int .i64 (xs.length + k - l : Nat))) else none
  | _, _ => none
theorem b1_cap {id sz l n t} : stB1 P σ .cap id sz l n [t] = capV σ l (σ.ob id) (elOf P t) := by
  simp only [stB1, capV]
  cases elOf P t <;> cases σ.ob id <;> rfl
theorem capV_some {l e xs k e'} : capV σ l (.rowk e xs k) (some e') = if l ≤ xs.length + k then some (σ, .val (.int .i64 (xs.length + k - l : Nat))) else none := rfl
theorem b1_clear {id sz l n t} : stB1 P σ .clear id sz l n [t] = stClearV P σ t id sz l n := rfl
theorem b2_copy {i id sz l n y t t2} : stB2 P σ i .copy id sz l n y [t, t2] = stCopyV P σ t id sz l n y := rfl
theorem b2_appz {i id sz l n k q t t2} : stB2 P σ i .append id sz l n (.val (.int k q)) [t, t2] = stAppendZ P σ i t t2 id sz l n q := rfl
theorem b2_appvw {i id sz l n a b c d t t2} : stB2 P σ i .append id sz l n (.vw a b c d) [t, t2] = stAppVG P σ i t t2 id sz l n (.vw a b c d) := rfl
theorem b2_appr {i id sz l n zs t t2} : stB2 P σ i .append id sz l n (.val (.row zs)) [t, t2] = stAppVG P σ i t t2 id sz l n (.val (.row zs)) := rfl
theorem b2_apprp {i id sz l n zs t t2} : stB2 P σ i .append id sz l n (.val (.rowp zs)) [t, t2] = stAppVG P σ i t t2 id sz l n (.val (.rowp zs)) := rfl
theorem b2_appn {i id sz l n t t2} : stB2 P σ i .append id sz l n .nils [t, t2] = stAppVG P σ i t t2 id sz l n .nils := rfl
-- zero values
noncomputable def zpv3 (sz : Nat) (ag : Bool) : Option (List PV) → Option PV
  | some cs => if cs.length = sz ∧ ∀ c ∈ cs, c.isAgg = false then
        if ag = true then some (.agg cs) else match cs with
          | [p] => some p
          | _ => none
        else none
  | none => none
noncomputable def zpv2 (sz : Nat) : Option (List AV) → Option Bool → Option PV
  | some zs, some ag => zpv3 sz ag (purs zs)
  | _, _ => none
theorem zeroPV_eq {e sz} : zeroPV P e sz = zpv2 sz (zeroOf P e) (aggOf P e) := by
  unfold zeroPV
  cases zeroOf P e <;> cases aggOf P e <;> try rfl
theorem zpv2_some {sz zs ag} : zpv2 sz (some zs) (some ag) = zpv3 sz ag (purs zs) := rfl
theorem zpv3_T {sz cs} : zpv3 sz true (some cs) = if cs.length = sz ∧ ∀ c ∈ cs, c.isAgg = false then some (.agg cs) else none := by simp [zpv3]
theorem zpv3_F {sz p} : zpv3 sz false (some [p]) = if 1 = sz ∧ p.isAgg = false then some p else none := by simp [zpv3]
noncomputable def clr2 (σ : St) (id sz l n : Nat) (e e' : TypeId) (xs : List PV) (k : Nat) (so : Option Nat) : Option PV → Option (St × AV)
  | some z => if e' = e ∧ so = some sz ∧ l ≤ xs.length ∧ l + n ≤ xs.length + k then some (σ.setOb id (.rowk e (over xs (List.replicate n z) l) (xs.length + k - (over xs (List.replicate n z) l).length)), .tup []) else none
  | none => none
noncomputable def clr (P : Program) (σ : St) (id sz l n : Nat) : Ob → Option TypeId → Option (St × AV)
  | .rowk e xs k, some e' => clr2 σ id sz l n e e' xs k (szOf P e) (zeroPV P e sz)
  | _, _ => none
theorem clear_eq {t id sz l n} : stClearV P σ t id sz l n = clr P σ id sz l n (σ.ob id) (elOf P t) := by
  unfold stClearV
  cases σ.ob id <;> cases elOf P t <;> try rfl
theorem clr_some {id sz l n e xs k e'} : clr P σ id sz l n (.rowk e xs k) (some e') = clr2 σ id sz l n e e' xs k (szOf P e) (zeroPV P e sz) := rfl
theorem clr2_some {id sz l n e e' xs k so z} : clr2 σ id sz l n e e' xs k so (some z) = if e' = e ∧ so = some sz ∧ l ≤ xs.length ∧ l + n ≤ xs.length + k then some (σ.setOb id (.rowk e (over xs (List.replicate n z) l) (xs.length + k - (over xs (List.replicate n z) l).length)), .tup []) else none := rfl
-- sources
noncomputable def srcW (P : Program) (sz sz2 l n : Nat) : Ob → Option (List PV × Nat)
  | .rowk e xs k => if szOf P e = some sz ∧ sz2 = sz then some ((xs.drop l).take n, n) else none
  | _ => none
theorem src_vw {sz id sz2 l n} : srcOf P σ sz (.vw id sz2 l n) = srcW P sz sz2 l n (σ.ob id) := by
  simp only [srcOf, srcW]
  cases σ.ob id <;> rfl
theorem srcW_some {sz sz2 l n e xs k} : srcW P sz sz2 l n (.rowk e xs k) = if szOf P e = some sz ∧ sz2 = sz then some ((xs.drop l).take n, n) else none := rfl
theorem src_rowp {sz zs} : srcOf P σ sz (.val (.rowp zs)) = if ∀ z ∈ zs, z.cells.length = sz then some (zs, zs.length) else none := rfl
theorem src_row {sz zs} : srcOf P σ sz (.val (.row zs)) = if ∀ z ∈ zs, z.cells.length = sz then some (zs, zs.length) else none := rfl
theorem src_nils {sz} : srcOf P σ sz .nils = some ([], 0) := by simp [srcOf, St.pv]
noncomputable def cpy (σ : St) (id sz l n : Nat) (so : TypeId → Option Nat) : Ob → Option TypeId → Option (List PV × Nat) → Option (St × AV)
  | .rowk e xs k, some e', some (zs, m) => if e' = e ∧ so e = some sz ∧ l ≤ xs.length ∧ l + min m n ≤ xs.length + k ∧ min m n ≤ zs.length then
      some (σ.setOb id (.rowk e (over xs (zs.take (min m n)) l) (xs.length + k - (over xs (zs.take (min m n)) l).length)), .val (.int .i64 (min m n : Nat))) else none
  | _, _, _ => none
theorem copy_eq {t id sz l n y} : stCopyV P σ t id sz l n y = cpy σ id sz l n (szOf P) (σ.ob id) (elOf P t) (srcOf P σ sz y) := by
  unfold stCopyV
  cases σ.ob id <;> cases elOf P t <;> rcases srcOf P σ sz y with _ | ⟨_, _⟩ <;> rfl
theorem cpy_some {id sz l n so e xs k e' zs m} : cpy σ id sz l n so (.rowk e xs k) (some e') (some (zs, m)) = if e' = e ∧ so e = some sz ∧ l ≤ xs.length ∧ l + min m n ≤ xs.length + k ∧ min m n ≤ zs.length then
      some (σ.setOb id (.rowk e (over xs (zs.take (min m n)) l) (xs.length + k - (over xs (zs.take (min m n)) l).length)), .val (.int .i64 (min m n : Nat))) else none := rfl
theorem cpy_ite {id sz l n so ob el} {c : Prop} [Decidable c] {s} : cpy σ id sz l n so ob el (if c then s else none) = if c then cpy σ id sz l n so ob el s else none := by
  by_cases h : c
  · simp [h]
  · simp only [h, if_false]; cases ob <;> cases el <;> rfl
noncomputable def vg (P : Program) (σ : St) (nid : Nat) (t t2 : TypeId) (id sz l n : Nat) (y : AV) : Ob → Option (List PV × Nat) → Option (St × AV)
  | .rowk _ xs k, some (_, m) => choose2 (l + n + m ≤ xs.length + k) (stAppendV P σ t t2 id sz l n y) (stAppendG P σ nid t t2 id sz l n y)
  | _, _ => none
theorem appvg_eq {nid t t2 id sz l n y} : stAppVG P σ nid t t2 id sz l n y = vg P σ nid t t2 id sz l n y (σ.ob id) (srcOf P σ sz y) := by
  unfold stAppVG
  cases σ.ob id <;> rcases srcOf P σ sz y with _ | ⟨_, _⟩ <;> rfl
theorem vg_some {nid t t2 id sz l n y e xs k zs m} : vg P σ nid t t2 id sz l n y (.rowk e xs k) (some (zs, m)) = choose2 (l + n + m ≤ xs.length + k) (stAppendV P σ t t2 id sz l n y) (stAppendG P σ nid t t2 id sz l n y) := rfl
theorem vg_ite {nid t t2 id sz l n y ob s} {c : Prop} [Decidable c] : vg P σ nid t t2 id sz l n y ob (if c then s else none) = if c then vg P σ nid t t2 id sz l n y ob s else none := by
  by_cases h : c
  · simp [h]
  · simp only [h, if_false]; cases ob <;> rfl
noncomputable def apg2 (σ : St) (nid id sz l n : Nat) (t t2 : TypeId) (e e' : TypeId) (xs : List PV) (k : Nat) (zs : List PV) (m : Nat) (so : Option Nat) : Option PV → Option Nat → Option (St × AV)
  | some z, some nb => if e' = e ∧ so = some sz ∧ l = 0 ∧ n ≤ xs.length ∧ m = zs.length ∧ t2 = t ∧ xs.length + k < n + m ∧ (n + m) * nb ≤ 140737488355328 ∧ n + m ≤ 4611686018427387904 ∧ σ.isFree nid = true then
        some (σ.setOb nid (.row e (xs.take n ++ zs)), .ref nid) else none
  | _, _ => none
noncomputable def apg (P : Program) (σ : St) (nid id sz l n : Nat) (t t2 : TypeId) : Ob → Option TypeId → Option (List PV × Nat) → Option (St × AV)
  | .rowk e xs k, some e', some (zs, m) => apg2 σ nid id sz l n t t2 e e' xs k zs m (szOf P e) (zeroPV P e sz) (byOf P e)
  | _, _, _ => none
theorem appg_eq {nid t t2 id sz l n y} : stAppendG P σ nid t t2 id sz l n y = apg P σ nid id sz l n t t2 (σ.ob id) (elOf P t) (srcOf P σ sz y) := by
  unfold stAppendG
  cases σ.ob id <;> cases elOf P t <;> rcases srcOf P σ sz y with _ | ⟨_, _⟩ <;> rfl
theorem apg_some {nid id sz l n t t2 e xs k e' zs m} : apg P σ nid id sz l n t t2 (.rowk e xs k) (some e') (some (zs, m)) = apg2 σ nid id sz l n t t2 e e' xs k zs m (szOf P e) (zeroPV P e sz) (byOf P e) := rfl
theorem apg_ite {nid id sz l n t t2 ob el s} {c : Prop} [Decidable c] : apg P σ nid id sz l n t t2 ob el (if c then s else none) = if c then apg P σ nid id sz l n t t2 ob el s else none := by
  by_cases h : c
  · simp [h]
  · simp only [h, if_false]; cases ob <;> cases el <;> rfl
theorem apg2_some {nid id sz l n t t2 e e' xs k zs m so z nb} : apg2 σ nid id sz l n t t2 e e' xs k zs m so (some z) (some nb) = if e' = e ∧ so = some sz ∧ l = 0 ∧ n ≤ xs.length ∧ m = zs.length ∧ t2 = t ∧ xs.length + k < n + m ∧ (n + m) * nb ≤ 140737488355328 ∧ n + m ≤ 4611686018427387904 ∧ σ.isFree nid = true then
        some (σ.setOb nid (.row e (xs.take n ++ zs)), .ref nid) else none := rfl
noncomputable def apv (σ : St) (id sz l n : Nat) (t t2 : TypeId) (so : TypeId → Option Nat) : Ob → Option TypeId → Option (List PV × Nat) → Option (St × AV)
  | .rowk e xs k, some e', some (zs, m) => if e' = e ∧ so e = some sz ∧ l + n ≤ xs.length ∧ l + n + m ≤ xs.length + k ∧ m = zs.length ∧ t2 = t then
      some (σ.setOb id (.rowk e (over xs zs (l + n)) (xs.length + k - (over xs zs (l + n)).length)), .vw id sz l (n + m)) else none
  | _, _, _ => none
theorem appv_eq {t t2 id sz l n y} : stAppendV P σ t t2 id sz l n y = apv σ id sz l n t t2 (szOf P) (σ.ob id) (elOf P t) (srcOf P σ sz y) := by
  unfold stAppendV
  cases σ.ob id <;> cases elOf P t <;> rcases srcOf P σ sz y with _ | ⟨_, _⟩ <;> rfl
theorem apv_some {id sz l n t t2 so e xs k e' zs m} : apv σ id sz l n t t2 so (.rowk e xs k) (some e') (some (zs, m)) = if e' = e ∧ so e = some sz ∧ l + n ≤ xs.length ∧ l + n + m ≤ xs.length + k ∧ m = zs.length ∧ t2 = t then
      some (σ.setOb id (.rowk e (over xs zs (l + n)) (xs.length + k - (over xs zs (l + n)).length)), .vw id sz l (n + m)) else none := rfl
theorem apv_ite {id sz l n t t2 so ob el} {c : Prop} [Decidable c] {s} : apv σ id sz l n t t2 so ob el (if c then s else none) = if c then apv σ id sz l n t t2 so ob el s else none := by
  by_cases h : c
  · simp [h]
  · simp only [h, if_false]; cases ob <;> cases el <;> rfl
noncomputable def apz2 (σ : St) (nid id sz l n : Nat) (q : Int) (e e' : TypeId) (xs : List PV) (k : Nat) (so : Option Nat) : Option PV → Option Nat → Option (St × AV)
  | some z, some nb => if e' = e ∧ so = some sz ∧ l = 0 ∧ n ≤ xs.length ∧ 0 < q ∧ xs.length + k < n + q.toNat ∧ (n + q.toNat) * nb ≤ 140737488355328 ∧ n + q.toNat ≤ 4611686018427387904 ∧ σ.isFree nid = true then
        some (σ.setOb nid (.row e (xs.take n ++ List.replicate q.toNat z)), .ref nid) else none
  | _, _ => none
noncomputable def apz (P : Program) (σ : St) (nid id sz l n : Nat) (q : Int) : Ob → Option TypeId → Option TypeDesc → Option (St × AV)
  | .rowk e xs k, some e', some (.int _) => apz2 σ nid id sz l n q e e' xs k (szOf P e) (zeroPV P e sz) (byOf P e)
  | _, _, _ => none
theorem appz_eq {nid t t2 id sz l n q} : stAppendZ P σ nid t t2 id sz l n q = apz P σ nid id sz l n q (σ.ob id) (elOf P t) (P.underlying t2) := by
  unfold stAppendZ
  cases σ.ob id <;> cases elOf P t <;> rcases P.underlying t2 with _ | d <;> try rfl
  all_goals cases d <;> try rfl
theorem apz_some {nid id sz l n q e xs k e' kk} : apz P σ nid id sz l n q (.rowk e xs k) (some e') (some (.int kk)) = apz2 σ nid id sz l n q e e' xs k (szOf P e) (zeroPV P e sz) (byOf P e) := rfl
theorem apz2_some {nid id sz l n q e e' xs k so z nb} : apz2 σ nid id sz l n q e e' xs k so (some z) (some nb) = if e' = e ∧ so = some sz ∧ l = 0 ∧ n ≤ xs.length ∧ 0 < q ∧ xs.length + k < n + q.toNat ∧ (n + q.toNat) * nb ≤ 140737488355328 ∧ n + q.toNat ≤ 4611686018427387904 ∧ σ.isFree nid = true then
        some (σ.setOb nid (.row e (xs.take n ++ List.replicate q.toNat z)), .ref nid) else none := rfl
noncomputable def lenG (P : Program) (σ : St) (t : TypeId) (x : AV) : Option PV → Option TypeId → Option (St × AV)
  | some (.row xs), some _ => some (σ, .val (.int .i64 xs.length))
  | _, _ => stMLen P σ t x
theorem len_str {i s t} : stBuiltin P σ i .len [.val (.str s)] [t] = if P.underlying t = some .string then some (σ, .val (.int .i64 s.length)) else none := rfl
theorem len_row {i xs t} : stBuiltin P σ i .len [.val (.row xs)] [t] = lenG P σ t (.val (.row xs)) (some (.row xs)) (elOf P t) := by simp only [stBuiltin, St.pv]; cases elOf P t <;> rfl
theorem len_nils {i t} : stBuiltin P σ i .len [.nils] [t] = lenG P σ t .nils (some (.row [])) (elOf P t) := by simp only [stBuiltin, St.pv]; cases elOf P t <;> rfl
theorem len_ref {i j t} : stBuiltin P σ i .len [.ref j] [t] = lenG P σ t (.ref j) (σ.pv (.ref j)) (elOf P t) := by
  simp only [stBuiltin]
  cases σ.pv (.ref j) with
  | none => rfl
  | some p => cases p <;> cases elOf P t <;> rfl
theorem lenG_some {t x xs e} : lenG P σ t x (some (.row xs)) (some e) = some (σ, .val (.int .i64 xs.length)) := rfl
theorem append_builtin {i s x t t2} : stBuiltin P σ i .append [s, x] [t, t2] = app0 P σ i t t2 s x (elOf P t) := append_eq
theorem min_int {i k x y ts} : stBuiltin P σ i .min [.val (.int k x), .val (.int k y)] ts = some (σ, .val (.int k (if y < x then y else x))) := by simp [stBuiltin, mmPV]
theorem max_int {i k x y ts} : stBuiltin P σ i .max [.val (.int k x), .val (.int k y)] ts = some (σ, .val (.int k (if y > x then y else x))) := by simp [stBuiltin, mmPV]
theorem min_str {i x y ts} : stBuiltin P σ i .min [.val (.str x), .val (.str y)] ts = some (σ, .val (.str (if slt x y ∨ x = y then x else y))) := by by_cases h : strLt x y = true <;> simp [stBuiltin, mmPV, slt, h]
theorem max_str {i x y ts} : stBuiltin P σ i .max [.val (.str x), .val (.str y)] ts = some (σ, .val (.str (if slt x y then y else x))) := by by_cases h : strLt x y = true <;> simp [stBuiltin, mmPV, slt, h]

def extG (σ : St) (k : Nat) : AV → Option (St × AV)
  | .tup ps => okV σ ps[k]?
  | _ => none
theorem step_extract {i x k} : stepOp P σ i (.extract x k) = extG σ k (σ.ev x) := by
  show (match σ.ev x with | .tup ps => (match ps[k]? with | some p => some (σ, AV.val p) | none => none) | _ => none) = _
  cases σ.ev x <;> rfl
theorem extG_tup {k ps} : extG σ k (.tup ps) = okV σ ps[k]? := rfl
def mkf (σ : St) (f : FuncId) (cs : List AV) : Option (List PV) → Option (St × AV)
  | some ps => some (σ.pubs cs, .val (.fn f ps))
  | none => none
theorem step_makeFunc {i f caps} : stepOp P σ i (.makeFunc (.func f) #[] caps) = mkf σ f (σ.evs caps.toList) (σ.pvs (σ.evs caps.toList)) := by
  show (if (#[] : Array Operand) = #[] then (match σ.pvs (σ.evs caps.toList) with | some ps => some (σ.pubs (σ.evs caps.toList), AV.val (.fn f ps)) | none => none) else none) = _
  rw [if_pos rfl]
  cases σ.pvs (σ.evs caps.toList) <;> rfl
theorem mkf_some {f cs ps} : mkf σ f cs (some ps) = some (σ.pubs cs, .val (.fn f ps)) := rfl
noncomputable def slcA (P : Program) (σ : St) (t : TypeId) (lo hi mx : Option AV) : AV → Option (St × AV)
  | .vw id sz l n => stSliceV P σ t id sz l n lo hi mx
  | v => match mx with
    | none => stSlice P σ t v lo hi
    | some m => match lo, hi with
      | none, some hh => stSlice3 P σ t v hh m
      | _, _ => none
theorem step_slice {i t x lo hi mx} : stepOp P σ i (.slice t x lo hi mx) = slcA P σ t (lo.map σ.ev) (hi.map σ.ev) (mx.map σ.ev) (σ.ev x) := by
  show (match σ.ev x with | .vw id sz l n => stSliceV P σ t id sz l n (lo.map σ.ev) (hi.map σ.ev) (mx.map σ.ev) | v => match mx with | none => stSlice P σ t v (lo.map σ.ev) (hi.map σ.ev) | some m => match lo, hi with | none, some hh => stSlice3 P σ t v (σ.ev hh) (σ.ev m) | _, _ => none) = _
  cases σ.ev x <;> cases mx <;> first | rfl | (cases lo <;> cases hi <;> rfl)
noncomputable def slc3 (P : Program) (σ : St) (xs : List PV) (n m : Int) : Option TypeId → Option (St × AV)
  | some e => match szOf P e with
    | some sz => if 0 ≤ n ∧ n = m ∧ n ≤ xs.length then some (σ, .val (.row (xs.take n.toNat))) else none
    | none => none
  | none => none
noncomputable def sl33 (σ : St) (xs : List PV) (n m : Int) : Option Nat → Option (St × AV)
  | some sz => if 0 ≤ n ∧ n = m ∧ n ≤ xs.length then some (σ, .val (.row (xs.take n.toNat))) else none
  | none => none
theorem slcA3_row {t xs k n k' m} : slcA P σ t none (some (.val (.int k n))) (some (.val (.int k' m))) (.val (.row xs)) = slc3 P σ xs n m (elOf P t) := by
  show stSlice3 P σ t _ _ _ = _
  simp only [stSlice3, St.pv, slc3]
  cases elOf P t <;> rfl
theorem slc3_some {xs n m e} : slc3 P σ xs n m (some e) = sl33 σ xs n m (szOf P e) := by simp only [slc3, sl33]
theorem sl33_some {xs n m sz} : sl33 σ xs n m (some sz) = if 0 ≤ n ∧ n = m ∧ n ≤ xs.length then some (σ, .val (.row (xs.take n.toNat))) else none := rfl
theorem slcA_vw {t lo hi mx id sz l n} : slcA P σ t lo hi mx (.vw id sz l n) = stSliceV P σ t id sz l n lo hi mx := rfl
theorem slcA_val {t lo hi p} : slcA P σ t lo hi none (.val p) = stSlice P σ t (.val p) lo hi := rfl
theorem slcA_nils {t lo hi} : slcA P σ t lo hi none .nils = stSlice P σ t .nils lo hi := rfl
theorem slcA_ref {t lo hi j} : slcA P σ t lo hi none (.ref j) = stSlice P σ t (.ref j) lo hi := rfl
def bn (n : Int) : Option Nat := if 0 ≤ n then some n.toNat else none
theorem bnd_none {d} : bnd none d = some d := rfl
theorem bnd_int {k n d} : bnd (some (.val (.int k n))) d = if 0 ≤ n then some n.toNat else none := rfl
noncomputable def sv1 (σ : St) (id sz l : Nat) (e e' : TypeId) (so : Option Nat) (T : Nat) (hiS : Bool) : Option Nat → Option Nat → Option (Option Nat) → Option (St × AV)
  | some x, some y, none => if e' = e ∧ so = some sz ∧ x ≤ y ∧ l + y ≤ T then some (σ, .vw id sz (l + x) (y - x)) else none
  | some x, some y, some (some z) => if e' = e ∧ so = some sz ∧ x ≤ y ∧ y ≤ z ∧ l + z ≤ T ∧ hiS = true then some (σ, .any) else none
  | _, _, _ => none
noncomputable def sv0 (P : Program) (σ : St) (id sz l n : Nat) (lo hi mx : Option AV) : Ob → Option TypeId → Option (St × AV)
  | .rowk e xs k, some e' => sv1 σ id sz l e e' (szOf P e) (xs.length + k) hi.isSome (bnd lo 0) (bnd hi n) (mx.map fun m => bnd (some m) 0)
  | _, _ => none
theorem sliceV_eq {t id sz l n lo hi mx} : stSliceV P σ t id sz l n lo hi mx = sv0 P σ id sz l n lo hi mx (σ.ob id) (elOf P t) := by
  unfold stSliceV
  cases σ.ob id <;> cases elOf P t <;> try rfl
  simp only [sv0]
  rename_i e xs k e'
  cases bnd lo 0 <;> cases bnd hi n <;> cases mx <;> try rfl
  rename_i x y m
  simp only [Option.map_some]
  cases bnd (some m) 0 <;> rfl
theorem sv0_some {id sz l n lo hi mx e xs k e'} : sv0 P σ id sz l n lo hi mx (.rowk e xs k) (some e') = sv1 σ id sz l e e' (szOf P e) (xs.length + k) hi.isSome (bnd lo 0) (bnd hi n) (mx.map fun m => bnd (some m) 0) := rfl
theorem sv1_none {id sz l e e' so T hs x y} : sv1 σ id sz l e e' so T hs (some x) (some y) none = if e' = e ∧ so = some sz ∧ x ≤ y ∧ l + y ≤ T then some (σ, .vw id sz (l + x) (y - x)) else none := rfl
theorem sv1_some {id sz l e e' so T hs x y z} : sv1 σ id sz l e e' so T hs (some x) (some y) (some (some z)) = if e' = e ∧ so = some sz ∧ x ≤ y ∧ y ≤ z ∧ l + z ≤ T ∧ hs = true then some (σ, .any) else none := rfl
theorem sv1_ite1 {id sz l e e' so T hs x y m} {c : Prop} [Decidable c] : sv1 σ id sz l e e' so T hs (if c then some x else none) y m = if c then sv1 σ id sz l e e' so T hs (some x) y m else none := by
  by_cases h : c <;> simp [h, sv1]
theorem sv1_ite2 {id sz l e e' so T hs x y m} {c : Prop} [Decidable c] : sv1 σ id sz l e e' so T hs (some x) (if c then some y else none) m = if c then sv1 σ id sz l e e' so T hs (some x) (some y) m else none := by
  by_cases h : c <;> simp [h, sv1]
theorem sv1_ite3 {id sz l e e' so T hs x y m} {c : Prop} [Decidable c] : sv1 σ id sz l e e' so T hs (some x) (some y) (some (if c then some m else none)) = if c then sv1 σ id sz l e e' so T hs (some x) (some y) (some (some m)) else none := by
  by_cases h : c <;> simp [h, sv1]
noncomputable def slc (P : Program) (σ : St) (x : AV) : Option PV → Option TypeId → Option AV → Option AV → Option (St × AV)
  | some (.row xs), some e, lo, hi => match szOf P e, lo, hi with
      | some sz, none, some (.val (.int _ n)) => if 0 ≤ n ∧ n ≤ xs.length then some (σ.pub x, .val (.row (xs.take n.toNat))) else none
      | some sz, some (.val (.int _ m)), none => if 0 ≤ m ∧ m ≤ xs.length ∧ ∀ x ∈ xs, x.cells.length = sz then some (σ.pub x, .val (.row (xs.drop m.toNat))) else none
      | some sz, some (.val (.int _ m)), some (.val (.int _ n)) => if 0 ≤ m ∧ m ≤ n ∧ n ≤ xs.length ∧ ∀ x ∈ xs, x.cells.length = sz then some (σ.pub x, .val (.row ((xs.take n.toNat).drop m.toNat))) else none
      | _, _, _ => none
  | _, _, _, _ => none
theorem slice_row {t xs lo hi} : stSlice P σ t (.val (.row xs)) lo hi = slc P σ (.val (.row xs)) (some (.row xs)) (elOf P t) lo hi := by simp only [stSlice, St.pv, slc]; cases elOf P t <;> rfl
theorem slice_nils {t lo hi} : stSlice P σ t .nils lo hi = slc P σ .nils (some (.row [])) (elOf P t) lo hi := by simp only [stSlice, St.pv, slc]; cases elOf P t <;> rfl
theorem slice_ref {t i lo hi} : stSlice P σ t (.ref i) lo hi = slc P σ (.ref i) (σ.pv (.ref i)) (elOf P t) lo hi := by
  simp only [stSlice, slc]
  cases σ.pv (.ref i) with
  | none => rfl
  | some p => cases p <;> cases elOf P t <;> rfl
def sl2 (σ : St) (x : AV) (xs : List PV) : Option Nat → Option AV → Option AV → Option (St × AV)
  | some sz, none, some (.val (.int _ n)) => if 0 ≤ n ∧ n ≤ xs.length then some (σ.pub x, .val (.row (xs.take n.toNat))) else none
  | some sz, some (.val (.int _ m)), none => if 0 ≤ m ∧ m ≤ xs.length ∧ ∀ x ∈ xs, x.cells.length = sz then some (σ.pub x, .val (.row (xs.drop m.toNat))) else none
  | some sz, some (.val (.int _ m)), some (.val (.int _ n)) => if 0 ≤ m ∧ m ≤ n ∧ n ≤ xs.length ∧ ∀ x ∈ xs, x.cells.length = sz then some (σ.pub x, .val (.row ((xs.take n.toNat).drop m.toNat))) else none
  | _, _, _ => none
theorem slc_some {x xs e lo hi} : slc P σ x (some (.row xs)) (some e) lo hi = sl2 σ x xs (szOf P e) lo hi := by
  simp only [slc, sl2]
theorem sl2_hi {x xs sz k n} : sl2 σ x xs (some sz) none (some (.val (.int k n))) = if 0 ≤ n ∧ n ≤ xs.length then some (σ.pub x, .val (.row (xs.take n.toNat))) else none := rfl
theorem sl2_lo {x xs sz k m} : sl2 σ x xs (some sz) (some (.val (.int k m))) none = if 0 ≤ m ∧ m ≤ xs.length ∧ ∀ x ∈ xs, x.cells.length = sz then some (σ.pub x, .val (.row (xs.drop m.toNat))) else none := rfl
theorem sl2_both {x xs sz k m k' n} : sl2 σ x xs (some sz) (some (.val (.int k m))) (some (.val (.int k' n))) = if 0 ≤ m ∧ m ≤ n ∧ n ≤ xs.length ∧ ∀ x ∈ xs, x.cells.length = sz then some (σ.pub x, .val (.row ((xs.take n.toNat).drop m.toNat))) else none := rfl
def cvt (P : Program) (σ : St) : Option TypeDesc → Option TypeDesc → AV → Option (St × AV)
  | some _, some (.int k), .val (.int _ n) => some (σ, .val (.int k (k.wrap n)))
  | some .string, some .string, .val (.str l) => some (σ, .val (.str l))
  | some (.slice e), some .string, v => match P.underlying e, σ.pv v with
    | some (.int .u8), some (.row ys) => match bytesOf ys with
      | some l => some (σ, .val (.str l))
      | none => none
    | _, _ => none
  | _, _, _ => none
theorem step_convert {i s d x} : stepOp P σ i (.convert s d x) = cvt P σ (P.underlying s) (P.underlying d) (σ.ev x) := rfl
theorem cvt_int {s k k' n} : cvt P σ (some s) (some (.int k)) (.val (.int k' n)) = some (σ, .val (.int k (k.wrap n))) := by cases s <;> rfl
def cvc (σ : St) : Option (List UInt8) → Option (St × AV)
  | some l => some (σ, .val (.str l))
  | none => none
def cvb (P : Program) (σ : St) : Option TypeDesc → Option PV → Option (St × AV)
  | some (.int .u8), some (.row ys) => cvc σ (bytesOf ys)
  | _, _ => none
theorem cvt_bytes {e v} : cvt P σ (some (.slice e)) (some .string) v = cvb P σ (P.underlying e) (σ.pv v) := by
  unfold cvt cvb cvc
  split <;> simp_all <;> split <;> simp_all
theorem cvb_some {ys} : cvb P σ (some (.int .u8)) (some (.row ys)) = cvc σ (bytesOf ys) := rfl
theorem cvc_some {l} : cvc σ (some l) = some (σ, .val (.str l)) := rfl
theorem step_make {i t l c} : stepOp P σ i (.makeSlice t l c) = stMake P σ i t (σ.ev l) (σ.ev c) := rfl

theorem inits_nil {i} : inits i [] = [] := rfl
theorem inits_p {i x r} : inits i (.p x :: r) = (i, .val x) :: inits (i + 1) r := rfl
theorem inits_o {i e xs r} : inits i (.o e xs :: r) = (i, .ref i) :: inits (i + 1) r := rfl
theorem initObs_nil : initObs [] = [] := rfl
theorem initObs_p {x r} : initObs (.p x :: r) = .gone :: initObs r := rfl
theorem initObs_o {e xs r} : initObs (.o e xs :: r) = .row e xs :: initObs r := rfl
theorem inits_n {i r} : inits i (.n :: r) = (i, .nils) :: inits (i + 1) r := rfl
theorem initObs_n {r} : initObs (.n :: r) = .gone :: initObs r := rfl

theorem retOK_vals {rs ps} : RetOK P σ rs (.vals ps) = (retVals P σ rs = some ps) := rfl
def ret2 : Option PV → Option (List PV) → Option (List PV)
  | some p, some ps => some (p :: ps)
  | _, _ => none
def ret3 (P : Program) (rs : List ResultVar) : Option (St × AV) → Option (List PV)
  | some (σ', .val p) => (retVals P σ' rs).map (p :: ·)
  | _ => none
theorem retVals_nil : retVals P σ [] = some [] := rfl
theorem retVals_tmp {t rs} : retVals P σ (.tmp t :: rs) = ret2 (σ.pv (σ.sl t)) (retVals P (σ.pub (σ.sl t)) rs) := rfl
theorem retVals_cell {a t rs} : retVals P σ (.cell a t :: rs) = ret3 P rs (stLoad P σ t (σ.sl a)) := by
  simp only [retVals]
  cases stLoad P σ t (σ.sl a) with
  | none => rfl
  | some x =>
    obtain ⟨s, v⟩ := x
    cases v <;> try rfl
    simp only [ret3]
    cases retVals P s rs <;> rfl
theorem ret2_some {p ps} : ret2 (some p) (some ps) = some (p :: ps) := rfl
theorem ret3_some {rs σ' p} : ret3 P rs (some (σ', .val p)) = (retVals P σ' rs).map (p :: ·) := rfl
def ownK (e : TypeId) (xs : List PV) (l n : Nat) : Ob → Prop
  | .rowk e' ys q => e' = e ∧ l = 0 ∧ n ≤ ys.length ∧ xs = ys.take n
  | _ => False
def ownOb (P : Program) (σ : St) (e : TypeId) (xs : List PV) : AV → Prop
  | .ref i => σ.ob i = .row e xs
  | .vw i sz l n => ownK e xs l n (σ.ob i)
  | .nils => xs = [] ∧ ∃ sz, szOf P e = some sz ∧ 0 < sz
  | _ => False
theorem retOK_own {t e xs} : RetOK P σ [.tmp t] (.own e xs) = ownOb P σ e xs (σ.sl t) := by
  simp only [RetOK, ownOb]
  cases σ.sl t <;> try rfl
  rename_i i sz l n
  simp only [ownK]
  cases σ.ob i with
  | rowk e' ys q =>
    refine propext ⟨?_, ?_⟩
    · rintro ⟨ys', q', h, h2⟩; cases h; exact ⟨rfl, h2⟩
    · rintro ⟨rfl, h⟩; exact ⟨_, _, rfl, h⟩
  | _ => simp
theorem ownOb_vw {e xs i sz l n} : ownOb P σ e xs (.vw i sz l n) = ownK e xs l n (σ.ob i) := rfl
theorem ownK_some {e xs l n e' ys q} : ownK e xs l n (.rowk e' ys q) = (e' = e ∧ l = 0 ∧ n ≤ ys.length ∧ xs = ys.take n) := rfl
theorem opn_sl {id sz n e xs q t} : (σ.opn id sz n e xs q).sl t = opnA id sz n (σ.sl t) := rfl
theorem opn_ob {id sz n e xs q j} : (σ.opn id sz n e xs q).ob j = if j = id then .rowk e xs q else σ.ob j := rfl
theorem opn_ck {id sz n e xs q} : (σ.opn id sz n e xs q).ck = σ.ck := rfl
theorem opnA_ref {id sz n j} : opnA id sz n (.ref j) = if j = id then .vw id sz 0 n else .ref j := rfl
theorem opnA_val {id sz n p} : opnA id sz n (.val p) = .val p := rfl
theorem opnA_nils {id sz n} : opnA id sz n .nils = .nils := rfl
theorem opnA_any {id sz n} : opnA id sz n .any = .any := rfl
theorem opnA_tup {id sz n ps} : opnA id sz n (.tup ps) = .tup ps := rfl
theorem opnA_adr {id sz n i o} : opnA id sz n (.adr i o) = .adr i o := rfl
theorem opnA_vw {id sz n i s l m} : opnA id sz n (.vw i s l m) = .vw i s l m := rfl
theorem opnA_agr {id sz n ps k i} : opnA id sz n (.agr ps k i) = .agr ps k i := rfl
theorem ids_agr {ps k i} : (AV.agr ps k i).ids = [i] := rfl
theorem mok_agr {S M nid ps k i} : mok σ S M nid (.agr ps k i) = (i = nid ∨ mokL σ i S ∨ mokO σ i M) := rfl
theorem isMent_agr {ps k j i} : ((AV.agr ps k j).isMent i = true) = (j = i) := by simp [AV.isMent]
theorem ids_vw {i s l m} : (AV.vw i s l m).ids = [i] := rfl
theorem mok_vw {S M nid i s l m} : mok σ S M nid (.vw i s l m) = (i = nid ∨ mokL σ i S ∨ mokO σ i M) := rfl
theorem isMent_vw {j s l m i} : ((AV.vw j s l m).isMent i = true) = (j = i) := by simp [AV.isMent]
theorem noMent_rowk {e xs k} : (Ob.rowk e xs k).noMent = true := rfl
theorem cells_rowp {xs} : (PV.rowp xs).cells = [.rowp xs] := rfl
theorem isAgg_rowp {xs} : (PV.rowp xs).isAgg = false := rfl
theorem ownOb_ref {e xs i} : ownOb P σ e xs (.ref i) = (σ.ob i = .row e xs) := rfl
theorem ownOb_nils {e xs} : ownOb P σ e xs .nils = (xs = [] ∧ ∃ sz, szOf P e = some sz ∧ 0 < sz) := rfl

theorem mSl_nil {ρ} : mSl σ ρ [] = True := rfl
theorem mSl_cons {ρ t v ls} : mSl σ ρ ((t, v) :: ls) = (mAV σ ρ (σ.sl t) v ∧ mSl σ ρ ls) := rfl
theorem mAV_any {ρ u} : mAV σ ρ u .any = True := rfl
theorem mAV_val {ρ p q} : mAV σ ρ (.val p) (.val q) = (p = q) := by simp [mAV]
theorem mAV_valnil {ρ q} : mAV σ ρ .nils (.val q) = (q = .row []) := by simp [mAV]
theorem mAV_nils {ρ u} : mAV σ ρ u .nils = (u = .nils) := rfl
theorem mAV_tup {ρ u ps} : mAV σ ρ u (.tup ps) = (u = .tup ps) := rfl
def mRef (u : AV) : Option (Option Nat) → Prop
  | some (some r) => u = .ref r
  | some none => u = .nils
  | none => False
def mAdr (u : AV) (o : Nat) : Option (Option Nat) → Prop
  | some (some r) => u = .adr r o
  | _ => False
theorem mAV_ref {ρ u k} : mAV σ ρ u (.ref k) = mRef u ρ[k]? := by
  simp only [mAV, mRef]
  rcases ρ[k]? with _ | _ | _ <;> rfl
theorem mAV_adr {ρ u k o} : mAV σ ρ u (.adr k o) = mAdr u o ρ[k]? := by
  simp only [mAV, mAdr]
  rcases ρ[k]? with _ | _ | _ <;> rfl
theorem mRef_some {u r} : mRef u (some (some r)) = (u = .ref r) := rfl
theorem mRef_none {u} : mRef u (some none) = (u = .nils) := rfl
theorem mAdr_some {u o r} : mAdr u o (some (some r)) = (u = .adr r o) := rfl
theorem mObs_nil {ρ0} : mObs P σ ρ0 [] [] = True := rfl
theorem mObs_cons {ρ0 r ρ o os} : mObs P σ ρ0 (r :: ρ) (o :: os) = (mOb P σ ρ0 r o ∧ mObs P σ ρ0 ρ os) := rfl
theorem mOb_some {ρ0 r o} : mOb P σ ρ0 (some r) o = (if o.plain = true then σ.ob r = o else mBox σ ρ0 (σ.ob r) o) := rfl
theorem mOb_gone {ρ0} : mOb P σ ρ0 none .gone = True := rfl
theorem mBox_box {ρ0 ag ag' cs ds} : mBox σ ρ0 (.box ag cs) (.box ag' ds) = (ag = ag' ∧ mCs σ ρ0 cs ds) := rfl
theorem mCs_nil {ρ0} : mCs σ ρ0 [] [] = True := rfl
theorem mCs_cons {ρ0 c cs d ds} : mCs σ ρ0 (c :: cs) (d :: ds) = (mAV σ ρ0 c d ∧ d.cell = true ∧ mCs σ ρ0 cs ds) := rfl
theorem mOb_none {ρ0 e} : mOb P σ ρ0 none (.row e []) = ∃ sz, szOf P e = some sz ∧ 0 < sz := rfl
def plA : AV → Bool
  | .val _ => true
  | .nils => true
  | _ => false
theorem plain_box {ag cs} : (Ob.box ag cs).plain = cs.all plA := by
  simp only [Ob.plain]
  congr 1
theorem plA_val {p} : plA (.val p) = true := rfl
theorem plA_nils : plA .nils = true := rfl
theorem plA_ref {i} : plA (.ref i) = false := rfl
theorem plA_adr {i o} : plA (.adr i o) = false := rfl
theorem plain_row {e xs} : (Ob.row e xs).plain = true := rfl
theorem distinct_nil : distinct [] = True := rfl
theorem distinct_none {ρ} : distinct (none :: ρ) = distinct ρ := rfl
theorem distinct_some {r ρ} : distinct (some r :: ρ) = ((∀ x ∈ ρ, x ≠ some r) ∧ distinct ρ) := rfl
theorem match_def {ρ ls os} : Match P σ ρ ls os = (mSl σ ρ ls ∧ mObs P σ ρ ρ os ∧ distinct ρ) := rfl
theorem isFlat_int {k n} : (PV.int k n).isFlat = true := rfl
theorem isFlat_bool {b} : (PV.bool b).isFlat = true := rfl
theorem isFlat_str {l} : (PV.str l).isFlat = true := rfl
theorem resAV_one {p} : resAV [p] = .val p := rfl
theorem resAV_two {p q ps} : resAV (p :: q :: ps) = .tup (p :: q :: ps) := rfl
theorem szex {e n} (h : szOf P e = some n) (h0 : 0 < n) : (∃ sz, szOf P e = some sz ∧ 0 < sz) = True := eq_true ⟨n, h, h0⟩
end

attribute [go_sem] boxG_A opnA_agr ids_agr mok_agr isMent_agr inits_n initObs_n isAgg_raw cells_raw slcA3_row slc3_some sl33_some isAgg_int isAgg_bool isAgg_str isAgg_agg isAgg_row isAgg_ptr isAgg_nilp isAgg_fn cells_int cells_bool cells_str cells_agg cells_row cells_ptr cells_nilp kd_int kd_bool kd_str cell_val cell_nils cell_adr cell_ref ev_tmp ev_const ev_func cAV_int cAV_bool cAV_str cAV_nils cAV_nilp pv_val pv_nils pv_ref pv_adr pvOb_row pvOb_prow pvAd_pbox pvAd_box pub_val pub_nils pub_any pub_ref pub_adr pubOb_row pubOb_prow pubAd_box pubAd_pbox pubBx_some purs_nil purs_val purs_nils boxPV_agg boxPV_one boxPV_nils pvs_nil pvs_cons pvs2_some pubs_nil pubs_cons evs_nil evs_cons idxs_nil idxs_cons opers_nil opers_cons isFree_eq freeOb_free okCell_val okCell_nils okCell_adr okCell_ref okOb_row okOb_prow gres_eq gresS_some gresA_bool gresA_tup step_move step_assign step_pick pickG_T pickG_F pickG_bool bif_same step_alloc allocG_some step_box boxG_T boxG_F ldAt_eq ldG_some partPV_T partPV_F okV_some okV_ite okA_some okA_ite step_load load_ptr load_adr load_ead loadOb_pbox loadOb_box loadBox_T loadBox_F loadAgg_some loadEl_row loadEl2_some okS_some okS_ite step_store store_adr store_ead storeOb_box storeBox_T storeBox_F storeEl_row storeEl2_some storeFin_some stElem_def step_build bld1_some bld2_some bld3_some fillP_nil fillP_cons fill2_some step_buildSlice bsl1_some bsl2_some append_eq app0_some app1_some app2_nils app2_ref app3_row step_fieldAddr fld1_some fld2_ptr fld2_adr fld2_ead step_indexAddr idx0_int idx1_some idx2_ref idx2_row idx3_row idx3_prow idx4_some idx5_some step_binOp bin2_val bin_add bin_sub bin_mul bin_quo bin_rem bin_shr bin_shl bin_or cvt_bytes cvb_some cvc_some bin_eql bin_neq bin_lss bin_leq bin_gtr bin_geq bin_cat bin_eqs bin_nes bin_lts bin_les bin_gts bin_ges bin_eqb bin_neb bin_eqa bin_nea step_not notG_bool step_builtin len_str len_row len_nils len_ref lenG_some append_builtin min_int max_int min_str max_str step_extract extG_tup step_makeFunc mkf_some step_slice slice_row slice_nils slice_ref slc_some sl2_hi sl2_lo sl2_both step_convert cvt_int step_make inits_nil inits_p inits_o initObs_nil initObs_p initObs_o retOK_vals retVals_nil retVals_tmp retVals_cell ret2_some ret3_some retOK_own ownOb_ref ownOb_nils mSl_nil mSl_cons mAV_any mAV_val mAV_valnil mAV_nils mAV_tup mAV_ref mAV_adr mRef_some mRef_none mAdr_some mObs_nil mObs_cons mOb_some mOb_none plain_row plain_box plA_val plA_nils plA_ref plA_adr mOb_gone mBox_box mCs_nil mCs_cons distinct_nil distinct_none distinct_some match_def isFlat_int isFlat_bool isFlat_str resAV_one resAV_two
attribute [go_sem] forall_eq_or_imp forall_eq false_imp_iff implies_true b2_str b2_row b2_rowp b2_nils b2_ref b2_vw b2_two b2x_vw b2x_val b2x_nils b2x_ref b2y_rowp b2y_row b2y_int b2y_str b2y_nils b2y_ref b1_len lenV_some b1_cap capV_some b1_clear b2_copy b2_appz b2_appvw b2_appr b2_apprp b2_appn zeroPV_eq zpv2_some zpv3_T zpv3_F clear_eq clr_some clr2_some src_vw srcW_some src_rowp src_row src_nils copy_eq cpy_some cpy_ite appvg_eq vg_some vg_ite appg_eq apg_some apg_ite apg2_some appv_eq apv_some apv_ite appz_eq apz_some apz2_some slcA_vw slcA_val slcA_nils slcA_ref bnd_none bnd_int sliceV_eq sv0_some sv1_none sv1_some sv1_ite1 sv1_ite2 sv1_ite3 ownOb_vw ownK_some opn_sl opn_ob opn_ck opnA_ref opnA_val opnA_nils opnA_any opnA_tup opnA_adr opnA_vw ids_vw mok_vw isMent_vw noMent_rowk cells_rowp isAgg_rowp
theorem fmn {α : Type} {p : α → Prop} : (∀ x, x ∈ ([] : List α) → p x) ↔ True := by simp
attribute [go_sem] Classical.not_not if_true if_false true_and and_true and_self Option.map_some Option.map_none Option.isSome_some List.forall_mem_cons fmn List.forall_mem_map implies_true beq_self_eq_true List.length_map List.getElem?_map List.toList_toArray ne_eq not_true_eq_false not_false_eq_true Int.toNat_natCast Int.natCast_nonneg

section
variable {md : Md} {P : Program} {n m : Nat} {R : St → Prop} {sp : List Nat} {σ : St} {k : List It}
theorem exec_draw {id os} : exec md P n R sp (m + 1) (.its (.code (.region id os true) :: k)) σ = (if id ∈ sp then V md P n R (.code (.region id os true) :: k) σ else (P.follows .mixedOrders = true ∧ exec md P n R sp m (.dr os.toList σ.ck 0 os.toList [] [] (σ.ck + os.size) k) σ)) := rfl
theorem exec_drnil {all b i aM aW ck} : exec md P n R sp (m + 1) (.dr all b i [] aM aW ck k) σ = (drawB all b aM aW = true ∧ exec md P n R sp m (.its k) (σ.setCk ck)) := rfl
theorem exec_drcons {all b i o rest aM aW ck} : exec md P n R sp (m + 1) (.dr all b i (o :: rest) aM aW ck k) σ = exec md P n R sp m (.dgd (runs σ all o) all b i o rest aM aW ck k) σ := rfl
theorem exec_dgdF {all b i o rest aM aW ck} : exec md P n R sp (m + 1) (.dgd (some false) all b i o rest aM aW ck k) σ = (dOK n o.dst ∧ exec md P n R sp m (.dr all b (i + 1) rest (aM ++ [[]]) (aW ++ [[]]) ck k) (σ.put o.dst (.tup []))) := rfl
theorem exec_dgd_dec {c : Prop} [Decidable c] {all b i o rest aM aW ck} : exec md P n R sp (m + 1) (.dgd (some (decide c)) all b i o rest aM aW ck k) σ = ((c → exec md P n R sp (m + 1) (.dgd (some true) all b i o rest aM aW ck k) σ) ∧ (¬c → exec md P n R sp (m + 1) (.dgd (some false) all b i o rest aM aW ck k) σ)) := by
  by_cases h : c <;> simp [h]
theorem exec_d_call {all b i d t p af g rest aM aW ck fx xs ts} : exec md P n R sp (m + 1) (.dgd (some true) all b i { dst := d, op := .call { callee := .value fx, args := xs, argTypes := ts }, type := t, pos := p, after := af, guard := g } rest aM aW ck k) σ = DV md P n R all b i ({ dst := d, op := .call { callee := .value fx, args := xs, argTypes := ts }, type := t, pos := p, after := af, guard := g } :: rest) aM aW ck k σ := rfl
theorem exec_dres {σ' v M W S dst all b i rest aM aW ck} : exec md P n R sp (m + 1) (.dres (some (σ', v)) M W S dst all b i rest aM aW ck k) σ = (dOK n dst ∧ Chg (σ.restr S M (b + i)) σ' W ∧ mok σ S M (b + i) v ∧ pln σ S M (b + i) σ' W ∧
      exec md P n R sp m (.dr all b (i + 1) rest (aM ++ [M]) (aW ++ [W]) ck k) (σ.patch (σ'.put dst v) W dst)) := rfl
theorem exec_dres_ite {c : Prop} [Decidable c] {e M W S dst all b i rest aM aW ck} : exec md P n R sp (m + 1) (.dres (if c then e else none) M W S dst all b i rest aM aW ck k) σ = (c ∧ exec md P n R sp (m + 1) (.dres e M W S dst all b i rest aM aW ck k) σ) := by
  by_cases h : c <;> simp [h, exec]
theorem exec_d_move {all b i d t p af g rest aM aW ck x} : exec md P n R sp (m + 1) (.dgd (some true) all b i { dst := d, op := .move x, type := t, pos := p, after := af, guard := g } rest aM aW ck k) σ = exec md P n R sp m (.dres (stepOp P (σ.restr (tms [x] ++ gsl all g) ([]) (b + i)) (b + i) (.move x)) ([]) [] (tms [x] ++ gsl all g) d all b i rest aM aW ck k) σ := rfl
theorem exec_d_assign {all b i d t p af g rest aM aW ck x} : exec md P n R sp (m + 1) (.dgd (some true) all b i { dst := d, op := .assign x, type := t, pos := p, after := af, guard := g } rest aM aW ck k) σ = exec md P n R sp m (.dres (stepOp P (σ.restr (tms [x] ++ gsl all g) ([]) (b + i)) (b + i) (.assign x)) ([]) [] (tms [x] ++ gsl all g) d all b i rest aM aW ck k) σ := rfl
theorem exec_d_pick {all b i d t p af g rest aM aW ck x y z} : exec md P n R sp (m + 1) (.dgd (some true) all b i { dst := d, op := .pick x y z, type := t, pos := p, after := af, guard := g } rest aM aW ck k) σ = exec md P n R sp m (.dres (stepOp P (σ.restr (tms [x, y, z] ++ gsl all g) ([]) (b + i)) (b + i) (.pick x y z)) ([]) [] (tms [x, y, z] ++ gsl all g) d all b i rest aM aW ck k) σ := rfl
theorem exec_d_alloc {all b i d t p af g rest aM aW ck t'} : exec md P n R sp (m + 1) (.dgd (some true) all b i { dst := d, op := .alloc t', type := t, pos := p, after := af, guard := g } rest aM aW ck k) σ = exec md P n R sp m (.dres (stepOp P (σ.restr (tms [] ++ gsl all g) (idsL σ []) (b + i)) (b + i) (.alloc t')) (idsL σ []) ((b + i) :: idsL σ []) (tms [] ++ gsl all g) d all b i rest aM aW ck k) σ := rfl
theorem exec_d_box {all b i d t p af g rest aM aW ck t' x} : exec md P n R sp (m + 1) (.dgd (some true) all b i { dst := d, op := .box t' x, type := t, pos := p, after := af, guard := g } rest aM aW ck k) σ = exec md P n R sp m (.dres (stepOp P (σ.restr (tms [x] ++ gsl all g) (idsL σ [x]) (b + i)) (b + i) (.box t' x)) (idsL σ [x]) ((b + i) :: idsL σ [x]) (tms [x] ++ gsl all g) d all b i rest aM aW ck k) σ := rfl
theorem exec_d_load {all b i d t p af g rest aM aW ck t' x} : exec md P n R sp (m + 1) (.dgd (some true) all b i { dst := d, op := .load t' x, type := t, pos := p, after := af, guard := g } rest aM aW ck k) σ = exec md P n R sp m (.dres (stepOp P (σ.restr (tms [x] ++ gsl all g) (idsL σ [x]) (b + i)) (b + i) (.load t' x)) (idsL σ [x]) [] (tms [x] ++ gsl all g) d all b i rest aM aW ck k) σ := rfl
theorem exec_d_store {all b i d t p af g rest aM aW ck t' x y} : exec md P n R sp (m + 1) (.dgd (some true) all b i { dst := d, op := .store t' x y, type := t, pos := p, after := af, guard := g } rest aM aW ck k) σ = exec md P n R sp m (.dres (stepOp P (σ.restr (tms [x, y] ++ gsl all g) (idsL σ [x, y]) (b + i)) (b + i) (.store t' x y)) (idsL σ [x, y]) ((b + i) :: idsL σ [x, y]) (tms [x, y] ++ gsl all g) d all b i rest aM aW ck k) σ := rfl
theorem exec_d_nilCheck {all b i d t p af g rest aM aW ck x} : exec md P n R sp (m + 1) (.dgd (some true) all b i { dst := d, op := .nilCheck x, type := t, pos := p, after := af, guard := g } rest aM aW ck k) σ = exec md P n R sp m (.dres (stepOp P (σ.restr (tms [x] ++ gsl all g) (idsL σ [x]) (b + i)) (b + i) (.nilCheck x)) (idsL σ [x]) [] (tms [x] ++ gsl all g) d all b i rest aM aW ck k) σ := rfl
theorem exec_d_binOp_t {all b i d t p af g rest aM aW ck o t' x yy u} : exec md P n R sp (m + 1) (.dgd (some true) all b i { dst := d, op := .binOp o t' x (.tmp yy) u, type := t, pos := p, after := af, guard := g } rest aM aW ck k) σ = exec md P n R sp m (.dres (stepOp P (σ.restr (tms [x, (.tmp yy)] ++ gsl all g) ([]) (b + i)) (b + i) (.binOp o t' x (.tmp yy) u)) ([]) [] (tms [x, (.tmp yy)] ++ gsl all g) d all b i rest aM aW ck k) σ := rfl
theorem exec_d_binOp_i {all b i d t p af g rest aM aW ck o t' x yk yy u} : exec md P n R sp (m + 1) (.dgd (some true) all b i { dst := d, op := .binOp o t' x (.const (.int yk yy)) u, type := t, pos := p, after := af, guard := g } rest aM aW ck k) σ = exec md P n R sp m (.dres (stepOp P (σ.restr (tms [x, (.const (.int yk yy))] ++ gsl all g) ([]) (b + i)) (b + i) (.binOp o t' x (.const (.int yk yy)) u)) ([]) [] (tms [x, (.const (.int yk yy))] ++ gsl all g) d all b i rest aM aW ck k) σ := rfl
theorem exec_d_binOp_b {all b i d t p af g rest aM aW ck o t' x yy u} : exec md P n R sp (m + 1) (.dgd (some true) all b i { dst := d, op := .binOp o t' x (.const (.bool yy)) u, type := t, pos := p, after := af, guard := g } rest aM aW ck k) σ = exec md P n R sp m (.dres (stepOp P (σ.restr (tms [x, (.const (.bool yy))] ++ gsl all g) ([]) (b + i)) (b + i) (.binOp o t' x (.const (.bool yy)) u)) ([]) [] (tms [x, (.const (.bool yy))] ++ gsl all g) d all b i rest aM aW ck k) σ := rfl
theorem exec_d_binOp_s {all b i d t p af g rest aM aW ck o t' x yy u} : exec md P n R sp (m + 1) (.dgd (some true) all b i { dst := d, op := .binOp o t' x (.const (.string yy)) u, type := t, pos := p, after := af, guard := g } rest aM aW ck k) σ = exec md P n R sp m (.dres (stepOp P (σ.restr (tms [x, (.const (.string yy))] ++ gsl all g) ([]) (b + i)) (b + i) (.binOp o t' x (.const (.string yy)) u)) ([]) [] (tms [x, (.const (.string yy))] ++ gsl all g) d all b i rest aM aW ck k) σ := rfl
theorem exec_d_binOp_p {all b i d t p af g rest aM aW ck o t' x yy u} : exec md P n R sp (m + 1) (.dgd (some true) all b i { dst := d, op := .binOp o t' x (.const (.pointer yy)) u, type := t, pos := p, after := af, guard := g } rest aM aW ck k) σ = exec md P n R sp m (.dres (stepOp P (σ.restr (tms [x, (.const (.pointer yy))] ++ gsl all g) ([]) (b + i)) (b + i) (.binOp o t' x (.const (.pointer yy)) u)) ([]) [] (tms [x, (.const (.pointer yy))] ++ gsl all g) d all b i rest aM aW ck k) σ := rfl
theorem exec_d_binOp_f {all b i d t p af g rest aM aW ck o t' x yy u} : exec md P n R sp (m + 1) (.dgd (some true) all b i { dst := d, op := .binOp o t' x (.func yy) u, type := t, pos := p, after := af, guard := g } rest aM aW ck k) σ = exec md P n R sp m (.dres (stepOp P (σ.restr (tms [x, (.func yy)] ++ gsl all g) ([]) (b + i)) (b + i) (.binOp o t' x (.func yy) u)) ([]) [] (tms [x, (.func yy)] ++ gsl all g) d all b i rest aM aW ck k) σ := rfl
theorem exec_d_unOp {all b i d t p af g rest aM aW ck o t' x} : exec md P n R sp (m + 1) (.dgd (some true) all b i { dst := d, op := .unOp o t' x, type := t, pos := p, after := af, guard := g } rest aM aW ck k) σ = exec md P n R sp m (.dres (stepOp P (σ.restr (tms [x] ++ gsl all g) ([]) (b + i)) (b + i) (.unOp o t' x)) ([]) [] (tms [x] ++ gsl all g) d all b i rest aM aW ck k) σ := rfl
theorem exec_d_convert {all b i d t p af g rest aM aW ck s d' x} : exec md P n R sp (m + 1) (.dgd (some true) all b i { dst := d, op := .convert s d' x, type := t, pos := p, after := af, guard := g } rest aM aW ck k) σ = exec md P n R sp m (.dres (stepOp P (σ.restr (tms [x] ++ gsl all g) (idsL σ [x]) (b + i)) (b + i) (.convert s d' x)) (idsL σ [x]) [] (tms [x] ++ gsl all g) d all b i rest aM aW ck k) σ := rfl
theorem exec_d_makeSlice {all b i d t p af g rest aM aW ck t' l c} : exec md P n R sp (m + 1) (.dgd (some true) all b i { dst := d, op := .makeSlice t' l c, type := t, pos := p, after := af, guard := g } rest aM aW ck k) σ = exec md P n R sp m (.dres (stepOp P (σ.restr (tms [l, c] ++ gsl all g) (idsL σ [l, c]) (b + i)) (b + i) (.makeSlice t' l c)) (idsL σ [l, c]) ((b + i) :: idsL σ [l, c]) (tms [l, c] ++ gsl all g) d all b i rest aM aW ck k) σ := rfl
theorem exec_d_fieldAddr {all b i d t p af g rest aM aW ck t' x f} : exec md P n R sp (m + 1) (.dgd (some true) all b i { dst := d, op := .fieldAddr t' x f, type := t, pos := p, after := af, guard := g } rest aM aW ck k) σ = exec md P n R sp m (.dres (stepOp P (σ.restr (tms [x] ++ gsl all g) ([]) (b + i)) (b + i) (.fieldAddr t' x f)) ([]) [] (tms [x] ++ gsl all g) d all b i rest aM aW ck k) σ := rfl
theorem exec_d_field {all b i d t p af g rest aM aW ck t' x f} : exec md P n R sp (m + 1) (.dgd (some true) all b i { dst := d, op := .field t' x f, type := t, pos := p, after := af, guard := g } rest aM aW ck k) σ = exec md P n R sp m (.dres (stepOp P (σ.restr (tms [x] ++ gsl all g) (idsL σ [x]) (b + i)) (b + i) (.field t' x f)) (idsL σ [x]) [] (tms [x] ++ gsl all g) d all b i rest aM aW ck k) σ := rfl
theorem exec_d_indexAddr {all b i d t p af g rest aM aW ck t' x j} : exec md P n R sp (m + 1) (.dgd (some true) all b i { dst := d, op := .indexAddr t' x j, type := t, pos := p, after := af, guard := g } rest aM aW ck k) σ = exec md P n R sp m (.dres (stepOp P (σ.restr (tms [x, j] ++ gsl all g) (idsL σ [x, j]) (b + i)) (b + i) (.indexAddr t' x j)) (idsL σ [x, j]) [] (tms [x, j] ++ gsl all g) d all b i rest aM aW ck k) σ := rfl
theorem exec_d_index {all b i d t p af g rest aM aW ck t' x j} : exec md P n R sp (m + 1) (.dgd (some true) all b i { dst := d, op := .index t' x j, type := t, pos := p, after := af, guard := g } rest aM aW ck k) σ = exec md P n R sp m (.dres (stepOp P (σ.restr (tms [x, j] ++ gsl all g) (idsL σ [x, j]) (b + i)) (b + i) (.index t' x j)) (idsL σ [x, j]) [] (tms [x, j] ++ gsl all g) d all b i rest aM aW ck k) σ := rfl
theorem exec_d_extract {all b i d t p af g rest aM aW ck x j} : exec md P n R sp (m + 1) (.dgd (some true) all b i { dst := d, op := .extract x j, type := t, pos := p, after := af, guard := g } rest aM aW ck k) σ = exec md P n R sp m (.dres (stepOp P (σ.restr (tms [x] ++ gsl all g) ([]) (b + i)) (b + i) (.extract x j)) ([]) [] (tms [x] ++ gsl all g) d all b i rest aM aW ck k) σ := rfl
theorem exec_d_lookup {all b i d t p af g rest aM aW ck t' x j c} : exec md P n R sp (m + 1) (.dgd (some true) all b i { dst := d, op := .lookup t' x j c, type := t, pos := p, after := af, guard := g } rest aM aW ck k) σ = exec md P n R sp m (.dres (stepOp P (σ.restr (tms [x, j] ++ gsl all g) (idsL σ [x, j]) (b + i)) (b + i) (.lookup t' x j c)) (idsL σ [x, j]) [] (tms [x, j] ++ gsl all g) d all b i rest aM aW ck k) σ := rfl
theorem exec_d_build {all b i d t p af g rest aM aW ck t' ps} : exec md P n R sp (m + 1) (.dgd (some true) all b i { dst := d, op := .build t' ps, type := t, pos := p, after := af, guard := g } rest aM aW ck k) σ = exec md P n R sp m (.dres (stepOp P (σ.restr (tms (opers ps.toList) ++ gsl all g) (idsL σ (opers ps.toList)) (b + i)) (b + i) (.build t' ps)) (idsL σ (opers ps.toList)) ((b + i) :: idsL σ (opers ps.toList)) (tms (opers ps.toList) ++ gsl all g) d all b i rest aM aW ck k) σ := by
  have e : (Op.build t' ps).operands.toList = opers ps.toList := by simp [Op.operands, opers]
  simp [exec, isCall, lk, foot, writes, e]
theorem exec_d_makeFunc {all b i d t p af g rest aM aW ck f cs} : exec md P n R sp (m + 1) (.dgd (some true) all b i { dst := d, op := .makeFunc f #[] cs, type := t, pos := p, after := af, guard := g } rest aM aW ck k) σ = exec md P n R sp m (.dres (stepOp P (σ.restr (tms cs.toList ++ gsl all g) (idsL σ cs.toList) (b + i)) (b + i) (.makeFunc f #[] cs)) (idsL σ cs.toList) ((b + i) :: idsL σ cs.toList) (tms cs.toList ++ gsl all g) d all b i rest aM aW ck k) σ := by
  have e : (Op.makeFunc f #[] cs).operands.toList = cs.toList := by simp [Op.operands]
  simp [exec, isCall, lk, foot, writes, e]
theorem exec_d_buildSlice {all b i d t p af g rest aM aW ck t' l ps} : exec md P n R sp (m + 1) (.dgd (some true) all b i { dst := d, op := .buildSlice t' l ps, type := t, pos := p, after := af, guard := g } rest aM aW ck k) σ = exec md P n R sp m (.dres (stepOp P (σ.restr (tms (opers ps.toList) ++ gsl all g) (idsL σ (opers ps.toList)) (b + i)) (b + i) (.buildSlice t' l ps)) (idsL σ (opers ps.toList)) ((b + i) :: idsL σ (opers ps.toList)) (tms (opers ps.toList) ++ gsl all g) d all b i rest aM aW ck k) σ := by
  have e : (Op.buildSlice t' l ps).operands.toList = opers ps.toList := by simp [Op.operands, opers]
  simp [exec, isCall, lk, foot, writes, e]
theorem exec_d_len {all b i d t p af g rest aM aW ck xs ts} : exec md P n R sp (m + 1) (.dgd (some true) all b i { dst := d, op := .call { callee := .builtin .len, args := xs, argTypes := ts }, type := t, pos := p, after := af, guard := g } rest aM aW ck k) σ = exec md P n R sp m (.dres (stepOp P (σ.restr (tms xs.toList ++ gsl all g) (idsL σ xs.toList) (b + i)) (b + i) (.call { callee := .builtin .len, args := xs, argTypes := ts })) (idsL σ xs.toList) [] (tms xs.toList ++ gsl all g) d all b i rest aM aW ck k) σ := by
  have e : (Op.call { callee := .builtin .len, args := xs, argTypes := ts }).operands.toList = xs.toList := by simp [Op.operands, Call.operands]
  simp [exec, isCall, lk, foot, writes, e]
theorem exec_d_append {all b i d t p af g rest aM aW ck xs ts} : exec md P n R sp (m + 1) (.dgd (some true) all b i { dst := d, op := .call { callee := .builtin .append, args := xs, argTypes := ts }, type := t, pos := p, after := af, guard := g } rest aM aW ck k) σ = exec md P n R sp m (.dres (stepOp P (σ.restr (tms xs.toList ++ gsl all g) (idsL σ xs.toList) (b + i)) (b + i) (.call { callee := .builtin .append, args := xs, argTypes := ts })) (idsL σ xs.toList) ((b + i) :: idsL σ xs.toList) (tms xs.toList ++ gsl all g) d all b i rest aM aW ck k) σ := by
  have e : (Op.call { callee := .builtin .append, args := xs, argTypes := ts }).operands.toList = xs.toList := by simp [Op.operands, Call.operands]
  simp [exec, isCall, lk, foot, writes, e]
theorem exec_d_min {all b i d t p af g rest aM aW ck xs ts} : exec md P n R sp (m + 1) (.dgd (some true) all b i { dst := d, op := .call { callee := .builtin .min, args := xs, argTypes := ts }, type := t, pos := p, after := af, guard := g } rest aM aW ck k) σ = exec md P n R sp m (.dres (stepOp P (σ.restr (tms xs.toList ++ gsl all g) (idsL σ xs.toList) (b + i)) (b + i) (.call { callee := .builtin .min, args := xs, argTypes := ts })) (idsL σ xs.toList) [] (tms xs.toList ++ gsl all g) d all b i rest aM aW ck k) σ := by
  have e : (Op.call { callee := .builtin .min, args := xs, argTypes := ts }).operands.toList = xs.toList := by simp [Op.operands, Call.operands]
  simp [exec, isCall, lk, foot, writes, e]
theorem exec_d_max {all b i d t p af g rest aM aW ck xs ts} : exec md P n R sp (m + 1) (.dgd (some true) all b i { dst := d, op := .call { callee := .builtin .max, args := xs, argTypes := ts }, type := t, pos := p, after := af, guard := g } rest aM aW ck k) σ = exec md P n R sp m (.dres (stepOp P (σ.restr (tms xs.toList ++ gsl all g) (idsL σ xs.toList) (b + i)) (b + i) (.call { callee := .builtin .max, args := xs, argTypes := ts })) (idsL σ xs.toList) [] (tms xs.toList ++ gsl all g) d all b i rest aM aW ck k) σ := by
  have e : (Op.call { callee := .builtin .max, args := xs, argTypes := ts }).operands.toList = xs.toList := by simp [Op.operands, Call.operands]
  simp [exec, isCall, lk, foot, writes, e]
theorem exec_d_cap {all b i d t p af g rest aM aW ck xs ts} : exec md P n R sp (m + 1) (.dgd (some true) all b i { dst := d, op := .call { callee := .builtin .cap, args := xs, argTypes := ts }, type := t, pos := p, after := af, guard := g } rest aM aW ck k) σ = exec md P n R sp m (.dres (stepOp P (σ.restr (tms xs.toList ++ gsl all g) (idsL σ xs.toList) (b + i)) (b + i) (.call { callee := .builtin .cap, args := xs, argTypes := ts })) (idsL σ xs.toList) [] (tms xs.toList ++ gsl all g) d all b i rest aM aW ck k) σ := by
  have e : (Op.call { callee := .builtin .cap, args := xs, argTypes := ts }).operands.toList = xs.toList := by simp [Op.operands, Call.operands]
  simp [exec, isCall, lk, foot, writes, e]
theorem exec_d_copy {all b i d t p af g rest aM aW ck xs ts} : exec md P n R sp (m + 1) (.dgd (some true) all b i { dst := d, op := .call { callee := .builtin .copy, args := xs, argTypes := ts }, type := t, pos := p, after := af, guard := g } rest aM aW ck k) σ = exec md P n R sp m (.dres (stepOp P (σ.restr (tms xs.toList ++ gsl all g) (idsL σ xs.toList) (b + i)) (b + i) (.call { callee := .builtin .copy, args := xs, argTypes := ts })) (idsL σ xs.toList) ((b + i) :: idsL σ xs.toList) (tms xs.toList ++ gsl all g) d all b i rest aM aW ck k) σ := by
  have e : (Op.call { callee := .builtin .copy, args := xs, argTypes := ts }).operands.toList = xs.toList := by simp [Op.operands, Call.operands]
  simp [exec, isCall, lk, foot, writes, e]
theorem exec_d_clear {all b i d t p af g rest aM aW ck xs ts} : exec md P n R sp (m + 1) (.dgd (some true) all b i { dst := d, op := .call { callee := .builtin .clear, args := xs, argTypes := ts }, type := t, pos := p, after := af, guard := g } rest aM aW ck k) σ = exec md P n R sp m (.dres (stepOp P (σ.restr (tms xs.toList ++ gsl all g) (idsL σ xs.toList) (b + i)) (b + i) (.call { callee := .builtin .clear, args := xs, argTypes := ts })) (idsL σ xs.toList) ((b + i) :: idsL σ xs.toList) (tms xs.toList ++ gsl all g) d all b i rest aM aW ck k) σ := by
  have e : (Op.call { callee := .builtin .clear, args := xs, argTypes := ts }).operands.toList = xs.toList := by simp [Op.operands, Call.operands]
  simp [exec, isCall, lk, foot, writes, e]

theorem exec_d_slice_l {all b i d t p af g rest aM aW ck t' x lo } : exec md P n R sp (m + 1) (.dgd (some true) all b i { dst := d, op := .slice t' x (some lo) none none, type := t, pos := p, after := af, guard := g } rest aM aW ck k) σ = exec md P n R sp m (.dres (stepOp P (σ.restr (tms [x, lo] ++ gsl all g) (idsL σ [x, lo]) (b + i)) (b + i) (.slice t' x (some lo) none none)) (idsL σ [x, lo]) (wsl (b + i) (idsL σ [x, lo]) (σ.ev x)) (tms [x, lo] ++ gsl all g) d all b i rest aM aW ck k) σ := rfl
theorem exec_d_slice_h {all b i d t p af g rest aM aW ck t' x hi} : exec md P n R sp (m + 1) (.dgd (some true) all b i { dst := d, op := .slice t' x none (some hi) none, type := t, pos := p, after := af, guard := g } rest aM aW ck k) σ = exec md P n R sp m (.dres (stepOp P (σ.restr (tms [x, hi] ++ gsl all g) (idsL σ [x, hi]) (b + i)) (b + i) (.slice t' x none (some hi) none)) (idsL σ [x, hi]) (wsl (b + i) (idsL σ [x, hi]) (σ.ev x)) (tms [x, hi] ++ gsl all g) d all b i rest aM aW ck k) σ := rfl
theorem exec_d_slice_hm {all b i d t p af g rest aM aW ck t' x hi mx} : exec md P n R sp (m + 1) (.dgd (some true) all b i { dst := d, op := .slice t' x none (some hi) (some mx), type := t, pos := p, after := af, guard := g } rest aM aW ck k) σ = exec md P n R sp m (.dres (stepOp P (σ.restr (tms [x, hi, mx] ++ gsl all g) (idsL σ [x, hi, mx]) (b + i)) (b + i) (.slice t' x none (some hi) (some mx))) (idsL σ [x, hi, mx]) (wsl (b + i) (idsL σ [x, hi, mx]) (σ.ev x)) (tms [x, hi, mx] ++ gsl all g) d all b i rest aM aW ck k) σ := rfl
theorem exec_d_slice_lh {all b i d t p af g rest aM aW ck t' x lo hi} : exec md P n R sp (m + 1) (.dgd (some true) all b i { dst := d, op := .slice t' x (some lo) (some hi) none, type := t, pos := p, after := af, guard := g } rest aM aW ck k) σ = exec md P n R sp m (.dres (stepOp P (σ.restr (tms [x, lo, hi] ++ gsl all g) (idsL σ [x, lo, hi]) (b + i)) (b + i) (.slice t' x (some lo) (some hi) none)) (idsL σ [x, lo, hi]) (wsl (b + i) (idsL σ [x, lo, hi]) (σ.ev x)) (tms [x, lo, hi] ++ gsl all g) d all b i rest aM aW ck k) σ := rfl
theorem wsl_vw {nid M id sz l n} : wsl nid M (.vw id sz l n) = [] := rfl
theorem wsl_ref {nid M j} : wsl nid M (.ref j) = nid :: M := rfl
theorem wsl_val {nid M p} : wsl nid M (.val p) = nid :: M := rfl
theorem wsl_nils {nid M} : wsl nid M .nils = nid :: M := rfl
theorem tms_nil : tms [] = [] := rfl
theorem tms_tmp {t r} : tms (.tmp t :: r) = t :: tms r := rfl
theorem tms_const {v r} : tms (.const v :: r) = tms r := rfl
theorem tms_func {v r} : tms (.func v :: r) = tms r := rfl
theorem gsl_none {all} : gsl all none = [] := rfl
def gs1 : Option Nat → List Nat
  | some t => [t]
  | none => []
theorem gsl_some {all j w} : gsl all (some (j, w)) = gs1 (gslot all j) := by
  simp only [gsl, gs1]
  cases gslot all j <;> rfl
theorem gs1_some {t} : gs1 (some t) = [t] := rfl
theorem idsL_nil : idsL σ [] = [] := rfl
theorem idsL_cons {x r} : idsL σ (x :: r) = (σ.ev x).ids ++ idsL σ r := rfl
theorem ids_val {p} : (AV.val p).ids = [] := rfl
theorem ids_nils : AV.nils.ids = [] := rfl
theorem ids_any : AV.any.ids = [] := rfl
theorem ids_tup {ps} : (AV.tup ps).ids = [] := rfl
theorem ids_ref {i} : (AV.ref i).ids = [i] := rfl
theorem ids_adr {i o} : (AV.adr i o).ids = [i] := rfl
theorem ids_ead {i s j o} : (AV.ead i s j o).ids = [i] := rfl
theorem restr_sl_nil {M : List Nat} {nid t : Nat} : (σ.restr [] M nid).sl t = .any := rfl
theorem restr_sl_cons {s : Nat} {S M : List Nat} {nid t : Nat} : (σ.restr (s :: S) M nid).sl t = if s = t then σ.sl t else (σ.restr S M nid).sl t := by
  simp only [St.restr, List.contains_cons]
  by_cases h : s = t
  · subst h; simp
  · have h' : (t == s) = false := by simpa using fun e => h (Eq.symm e)
    simp [h, h']
theorem restr_ob_nil {S : List Nat} {nid i : Nat} : (σ.restr S [] nid).ob i = if nid = i then σ.ob i else .gone := by
  simp only [St.restr, List.contains_nil, Bool.false_or, beq_iff_eq]
  by_cases h : nid = i
  · subst h; simp
  · rw [if_neg h, if_neg (Ne.symm h)]
theorem restr_ob_cons {S M : List Nat} {nid k' i : Nat} : (σ.restr S (k' :: M) nid).ob i = if k' = i then σ.ob i else (σ.restr S M nid).ob i := by
  simp only [St.restr, List.contains_cons]
  by_cases h : k' = i
  · subst h; simp
  · have h' : (i == k') = false := by simpa using fun e => h (Eq.symm e)
    simp [h, h']
theorem restr_ck {S M : List Nat} {nid : Nat} : (σ.restr S M nid).ck = σ.ck := rfl
theorem patch_sl_some {τ : St} {W : List Nat} {d t : Nat} : (σ.patch τ W (some d)).sl t = if d = t then τ.sl t else σ.sl t := by
  rw [patch_sl]
  by_cases h : d = t <;> simp [h]
theorem patch_sl_none {τ : St} {W : List Nat} {t : Nat} : (σ.patch τ W none).sl t = σ.sl t := by rw [patch_sl]; simp
theorem patch_ob_nil {τ : St} {d i} : (σ.patch τ [] d).ob i = σ.ob i := by rw [patch_ob]; simp
theorem patch_ob_cons {τ : St} {k' : Nat} {W : List Nat} {d i} : (σ.patch τ (k' :: W) d).ob i = if k' = i then τ.ob i else (σ.patch τ W d).ob i := by
  simp only [patch_ob, List.contains_cons]
  by_cases h : k' = i
  · subst h; simp
  · have h' : (i == k') = false := by simpa using fun e => h (Eq.symm e)
    simp [h, h']
theorem patch_ck {τ : St} {W : List Nat} {d} : (σ.patch τ W d).ck = σ.ck := rfl
theorem patch_set {τ : St} {d : Nat} {v : AV} : σ.patch (τ.set d v) [] (some d) = σ.set d v := patch_put trivial (d := some d)
theorem patch_none {τ : St} : σ.patch τ [] none = σ := St.eq_of (fun t => by rw [patch_sl]; simp) (fun k => by rw [patch_ob]; simp) rfl
theorem chg_refl {W : List Nat} : Chg σ σ W = True := eq_true fun _ _ => rfl
theorem chg_setOb {τ : St} {W : List Nat} {i o} (h : i ∈ W) : Chg τ (σ.setOb i o) W = Chg τ σ W := by
  refine propext ⟨fun hc k hk => ?_, fun hc k hk => ?_⟩
  · rw [← hc k hk]; simp only [St.setOb]; rw [if_neg (fun e : k = i => hk (e ▸ h))]
  · rw [← hc k hk]; simp only [St.setOb]; rw [if_neg (fun e : k = i => hk (e ▸ h))]
theorem mok_val {S M nid p} : mok σ S M nid (.val p) = True := rfl
theorem mok_nils {S M nid} : mok σ S M nid .nils = True := rfl
theorem mok_any {S M nid} : mok σ S M nid .any = True := rfl
theorem mok_tup {S M nid ps} : mok σ S M nid (.tup ps) = True := rfl
theorem mok_ref {S M nid i} : mok σ S M nid (.ref i) = (i = nid ∨ mokL σ i S ∨ mokO σ i M) := rfl
theorem mok_adr {S M nid i o} : mok σ S M nid (.adr i o) = (i = nid ∨ mokL σ i S ∨ mokO σ i M) := rfl
theorem mok_ead {S M nid i s j o} : mok σ S M nid (.ead i s j o) = (i = nid ∨ mokL σ i S ∨ mokO σ i M) := rfl
theorem mokL_nil {i} : mokL σ i [] = False := rfl
theorem mokL_cons {i s S} : mokL σ i (s :: S) = ((σ.sl s).isMent i = true ∨ mokL σ i S) := rfl
theorem isMent_val {p i} : ((AV.val p).isMent i = true) = False := by simp [AV.isMent]
theorem isMent_nils {i} : (AV.nils.isMent i = true) = False := by simp [AV.isMent]
theorem isMent_any {i} : (AV.any.isMent i = true) = False := by simp [AV.isMent]
theorem isMent_tup {p i} : ((AV.tup p).isMent i = true) = False := by simp [AV.isMent]
theorem isMent_ref {j i} : ((AV.ref j).isMent i = true) = (j = i) := by simp [AV.isMent]
theorem isMent_adr {j o i} : ((AV.adr j o).isMent i = true) = (j = i) := by simp [AV.isMent]
theorem isMent_ead {j s x o i} : ((AV.ead j s x o).isMent i = true) = (j = i) := by simp [AV.isMent]
theorem mokO_nil {i} : mokO σ i [] = False := rfl
theorem mokO_cons {i k M} : mokO σ i (k :: M) = (obM i (σ.ob k) ∨ mokO σ i M) := rfl
theorem obM_box {i ag cs} : obM i (.box ag cs) = cellsM i cs := rfl
theorem obM_row {i e xs} : obM i (.row e xs) = False := rfl
theorem obM_rowk {i e xs k} : obM i (.rowk e xs k) = False := rfl
theorem obM_prow {i xs} : obM i (.prow xs) = False := rfl
theorem obM_pbox {i x} : obM i (.pbox x) = False := rfl
theorem obM_gone {i} : obM i .gone = False := rfl
theorem obM_free {i} : obM i .free = False := rfl
theorem cellsM_nil {i} : cellsM i [] = False := rfl
theorem cellsM_cons {i c cs} : cellsM i (c :: cs) = (c.isMent i = true ∨ cellsM i cs) := rfl
theorem pln_nil {τ : St} {S M nid} : pln τ S M nid σ [] = True := rfl
theorem pln_cons {τ : St} {S M nid k W} : pln τ S M nid σ (k :: W) = (plO τ S M nid (σ.ob k) ∧ pln τ S M nid σ W) := rfl
theorem plO_box {S M nid ag cs} : plO σ S M nid (.box ag cs) = mokC σ S M nid cs := rfl
theorem plO_row {S M nid e xs} : plO σ S M nid (.row e xs) = True := rfl
theorem plO_rowk {S M nid e xs k} : plO σ S M nid (.rowk e xs k) = True := rfl
theorem plO_prow {S M nid xs} : plO σ S M nid (.prow xs) = True := rfl
theorem plO_pbox {S M nid x} : plO σ S M nid (.pbox x) = True := rfl
theorem plO_gone {S M nid} : plO σ S M nid .gone = True := rfl
theorem plO_free {S M nid} : plO σ S M nid .free = True := rfl
theorem mokC_nil {S M nid} : mokC σ S M nid [] = True := rfl
theorem mokC_cons {S M nid c cs} : mokC σ S M nid (c :: cs) = (mok σ S M nid c ∧ mokC σ S M nid cs) := rfl
theorem noMent_row {e xs} : (Ob.row e xs).noMent = true := rfl
theorem noMent_prow {xs} : (Ob.prow xs).noMent = true := rfl
theorem noMent_pbox {x} : (Ob.pbox x).noMent = true := rfl
theorem noMent_gone : Ob.gone.noMent = true := rfl
theorem noMent_free : Ob.free.noMent = true := rfl
theorem noMent_box {ag cs} : (Ob.box ag cs).noMent = cs.all AV.noMent := rfl
theorem noMentA_val {p} : (AV.val p).noMent = true := rfl
theorem noMentA_nils : AV.nils.noMent = true := rfl
end

attribute [go_sem ↓] exec_draw exec_drnil exec_drcons exec_dgdF exec_d_call exec_dres exec_dres_ite exec_d_slice_l exec_d_slice_h exec_d_slice_hm exec_d_slice_lh exec_d_move exec_d_assign exec_d_pick exec_d_alloc exec_d_box exec_d_load exec_d_store exec_d_nilCheck exec_d_binOp_t exec_d_binOp_i exec_d_binOp_b exec_d_binOp_s exec_d_binOp_p exec_d_binOp_f exec_d_unOp exec_d_convert exec_d_makeSlice exec_d_fieldAddr exec_d_field exec_d_indexAddr exec_d_index exec_d_extract exec_d_lookup exec_d_build exec_d_buildSlice exec_d_makeFunc exec_d_len exec_d_append exec_d_min exec_d_max exec_d_cap exec_d_copy exec_d_clear
attribute [go_sem] wsl_vw wsl_ref wsl_val wsl_nils exec_d_slice_l exec_d_slice_h exec_d_slice_hm exec_d_slice_lh exec_dgdF exec_d_call exec_dgd_dec exec_d_move exec_d_assign exec_d_pick exec_d_alloc exec_d_box exec_d_load exec_d_store exec_d_nilCheck exec_d_binOp_t exec_d_binOp_i exec_d_binOp_b exec_d_binOp_s exec_d_binOp_p exec_d_binOp_f exec_d_unOp exec_d_convert exec_d_makeSlice exec_d_fieldAddr exec_d_field exec_d_indexAddr exec_d_index exec_d_extract exec_d_lookup exec_d_build exec_d_buildSlice exec_d_makeFunc exec_d_len exec_d_append exec_d_min exec_d_max exec_d_cap exec_d_copy exec_d_clear
attribute [go_sem] tms_nil tms_tmp tms_const tms_func gsl_none gsl_some gs1_some idsL_nil idsL_cons ids_val ids_nils ids_any ids_tup ids_ref ids_adr ids_ead restr_sl_nil restr_sl_cons restr_ob_nil restr_ob_cons restr_ck patch_sl_some patch_sl_none patch_ob_nil patch_ob_cons patch_ck patch_set patch_none chg_refl chg_setOb mok_val mok_nils mok_any mok_tup mok_ref mok_adr mok_ead mokL_nil mokL_cons mokO_nil mokO_cons obM_box obM_row obM_rowk obM_prow obM_pbox obM_gone obM_free cellsM_nil cellsM_cons plO_box plO_row plO_rowk plO_prow plO_pbox plO_gone plO_free mokC_nil mokC_cons isMent_val isMent_nils isMent_any isMent_tup isMent_ref isMent_adr isMent_ead pln_nil pln_cons noMent_row noMent_prow noMent_pbox noMent_gone noMent_free noMent_box noMentA_val noMentA_nils List.mem_cons List.not_mem_nil true_or or_true or_false false_or

end Go.Proofs.YtjbfcmaiejlnbaaVm
set_option linter.unusedVariables false
set_option linter.unusedSimpArgs false
namespace Go.Proofs.YtjbfcmaiejlnbaaVm
open Go Classical

def eqFs (P : Program) (K : TypeId → Option (List KD)) : Nat → List Field → Option (List KD)
  | _, [] => some []
  | o, f :: fs => if (f.name == "_") = true ∨ f.offset ≠ o then none else match K f.type with
    | some ks => if szOf P f.type = some ks.length then match eqFs P K (o + ks.length) fs with
      | some r => some (ks ++ r)
      | none => none else none
    | none => none
/-- The kinds of a type's cells, if '==' on it is '==' on them. -/
def eqK (P : Program) : Nat → TypeId → Option (List KD)
  | 0, _ => none
  | d + 1, t => match P.underlying t with
    | some (.int k) => some [.int k]
    | some .bool => some [.bool]
    | some .string => some [.str]
    | some (.struct fs) => if P.stoodInHeld t = true then none else eqFs P (eqK P d) 0 fs.toList
    | _ => none

def wrapV (ag : Bool) (vs : List Value) : Value := if ag = true then .agg ⟨vs⟩ else vs.headD undef

section
variable {P : Program}

def EqOK (P : Program) (t : TypeId) (d : Nat) (ks : List KD) : Prop :=
  ∃ ag, aggOf P t = some ag ∧ (ag = false → ks.length = 1) ∧ ∀ (D : Nat) (w : World) (F : Nat → Prop) (ps qs : List PV) (vs us : List Value), d ≤ D → Reps w F ps vs → Reps w F qs us → ps.map PV.kd = ks → qs.map PV.kd = ks →
    (Op.equalIn D t (wrapV ag vs) (wrapV ag us)).run P w = .ok (decide (ps = qs)) w

theorem one_of_map {ps : List PV} {k : KD} (h : ps.map PV.kd = [k]) : ∃ p, ps = [p] ∧ p.kd = k := by
  match ps, h with
  | [p], h => exact ⟨p, rfl, by simpa using h⟩

theorem reps_one {w : World} {F : Nat → Prop} {p : PV} {vs : List Value} (h : Reps w F [p] vs) : ∃ v, vs = [v] ∧ Rep w F p v := by
  match vs, h with
  | [v], h => exact ⟨v, rfl, h.tail.1⟩
  | [], h => cases h.1
  | _ :: _ :: _, h => cases h.1

theorem run_part_wrap {t : TypeId} {ag : Bool} {n : Nat} {w : World} {vs : List Value} {o : Nat} (hag : aggOf P t = some ag) (hn : szOf P t = some n) (h1 : ag = false → n = 1) (hl : o + n ≤ vs.length) :
    (part t ⟨vs⟩ o).run P w = .ok (wrapV ag ((vs.drop o).take n)) w := by
  cases ag
  · obtain rfl := h1 rfl
    have hv : vs[o]? = some vs[o] := List.getElem?_eq_getElem (by omega)
    have e : (vs.drop o).take 1 = [vs[o]] := by
      rw [List.take_one, List.head?_drop, hv]; rfl
    simp [part, run_isAgg hag, hv, wrapV, e]
  · simp [part, run_isAgg hag, run_sizeOf hn, wrapV]
    

theorem eqFs_ok {K : TypeId → Option (List KD)} {d D : Nat} (hK : ∀ t ks, K t = some ks → EqOK P t d ks) (hD : d ≤ D) {w : World} {F : Nat → Prop} {ps qs : List PV} {vs us : List Value} (hp : Reps w F ps vs) (hq : Reps w F qs us) :
    ∀ (fs : List Field) (o : Nat) (r : List KD), eqFs P K o fs = some r → (ps.drop o).map PV.kd = r → (qs.drop o).map PV.kd = r → o ≤ ps.length → o ≤ qs.length →
    (Op.eqFields D ⟨vs⟩ ⟨us⟩ fs).run P w = .ok (decide (ps.drop o = qs.drop o)) w := by
  intro fs
  induction fs with
  | nil =>
    intro o r h h1 h2 _ _
    simp only [eqFs, Option.some.injEq] at h
    subst h
    have e1 : ps.drop o = [] := by simpa using h1
    have e2 : qs.drop o = [] := by simpa using h2
    simp [Op.eqFields, e1, e2]
  | cons f fs ih =>
    intro o r h h1 h2 l1 l2
    simp only [eqFs] at h
    split at h
    · cases h
    rename_i hno
    have hname : f.name ≠ "_" := fun e => hno (.inl (by simp [e]))
    have hoff : f.offset = o := Classical.byContradiction fun e => hno (.inr e)
    split at h
    · rename_i ks hks
      split at h
      · rename_i hsz
        split at h
        · rename_i r' hr'
          obtain rfl := Option.some.inj h
          obtain ⟨ag, hag, hone, heq⟩ := hK _ _ hks
          have n1 : ks.length ≤ (ps.drop o).length := by have := congrArg List.length h1; simp at this ⊢; omega
          have n2 : ks.length ≤ (qs.drop o).length := by have := congrArg List.length h2; simp at this ⊢; omega
          have m1 : o + ks.length ≤ ps.length := by simp at n1; omega
          have m2 : o + ks.length ≤ qs.length := by simp at n2; omega
          have a1 : ((ps.drop o).take ks.length).map PV.kd = ks := by rw [List.map_take, h1]; simp
          have a2 : ((qs.drop o).take ks.length).map PV.kd = ks := by rw [List.map_take, h2]; simp
          have b1 : (ps.drop (o + ks.length)).map PV.kd = r' := by rw [← List.drop_drop, List.map_drop, h1]; simp
          have b2 : (qs.drop (o + ks.length)).map PV.kd = r' := by rw [← List.drop_drop, List.map_drop, h2]; simp
          have hh := heq D w F _ _ _ _ hD ((hp.drop o).take ks.length) ((hq.drop o).take ks.length) a1 a2
          have ht := ih (o + ks.length) r' hr' b1 b2 m1 m2
          have p1 := run_part_wrap (P := P) (w := w) (vs := vs) (o := o) hag hsz hone (by rw [hp.1]; exact m1)
          have p2 := run_part_wrap (P := P) (w := w) (vs := us) (o := o) hag hsz hone (by rw [hq.1]; exact m2)
          have key : (ps.drop o = qs.drop o) ↔ ((ps.drop o).take ks.length = (qs.drop o).take ks.length ∧ ps.drop (o + ks.length) = qs.drop (o + ks.length)) := by
            rw [← List.drop_drop, ← List.drop_drop]
            constructor
            · intro e; rw [e]; exact ⟨rfl, rfl⟩
            · rintro ⟨e1, e2⟩
              rw [← List.take_append_drop ks.length (ps.drop o), ← List.take_append_drop ks.length (qs.drop o), e1, e2]
          simp only [Op.eqFields, ne_eq, hname, not_false_eq_true, if_true, Sem.run_bind, hoff, p1, p2, Result.andThen_ok, hh]
          by_cases hc : (ps.drop o).take ks.length = (qs.drop o).take ks.length
          · simp only [hc, decide_true, Bool.not_true, Bool.false_eq_true, if_false, ht, key, true_and]
          · simp only [hc, decide_false, Bool.not_false, if_true, key, false_and, Sem.run_pure]
        · cases h
      · cases h
    · cases h

theorem eqK_ok : ∀ (d : Nat) (t : TypeId) (ks : List KD), eqK P d t = some ks → EqOK P t d ks := by
  intro d
  induction d with
  | zero => intro t ks h; cases h
  | succ d ih =>
    intro t ks h
    simp only [eqK] at h
    split at h
    · rename_i k hu
      obtain rfl := Option.some.inj h
      refine ⟨false, by simp [aggOf, hu], fun _ => rfl, fun D w F ps qs vs us hD hp hq e1 e2 => ?_⟩
      obtain ⟨p, rfl, hpk⟩ := one_of_map e1
      obtain ⟨q, rfl, hqk⟩ := one_of_map e2
      obtain ⟨v, rfl, hv⟩ := reps_one hp
      obtain ⟨u, rfl, hu'⟩ := reps_one hq
      obtain ⟨D, rfl⟩ : ∃ D', D = D' + 1 := ⟨D - 1, by omega⟩
      cases hv <;> simp [PV.kd] at hpk
      cases hu' <;> simp [PV.kd] at hqk
      subst hpk; subst hqk
      simp only [wrapV, Bool.false_eq_true, if_false, List.headD_cons]
      rw [run_equalIn_int w D t _ _ _ _ hu]
      simp [beq_decide]
    · rename_i hu
      obtain rfl := Option.some.inj h
      refine ⟨false, by simp [aggOf, hu], fun _ => rfl, fun D w F ps qs vs us hD hp hq e1 e2 => ?_⟩
      obtain ⟨p, rfl, hpk⟩ := one_of_map e1
      obtain ⟨q, rfl, hqk⟩ := one_of_map e2
      obtain ⟨v, rfl, hv⟩ := reps_one hp
      obtain ⟨u, rfl, hu'⟩ := reps_one hq
      obtain ⟨D, rfl⟩ : ∃ D', D = D' + 1 := ⟨D - 1, by omega⟩
      cases hv <;> simp [PV.kd] at hpk
      cases hu' <;> simp [PV.kd] at hqk
      simp only [wrapV, Bool.false_eq_true, if_false, List.headD_cons]
      rw [run_equalIn_bool' w D t _ _ hu]
      simp [beq_decide]
    · rename_i hu
      obtain rfl := Option.some.inj h
      refine ⟨false, by simp [aggOf, hu], fun _ => rfl, fun D w F ps qs vs us hD hp hq e1 e2 => ?_⟩
      obtain ⟨p, rfl, hpk⟩ := one_of_map e1
      obtain ⟨q, rfl, hqk⟩ := one_of_map e2
      obtain ⟨v, rfl, hv⟩ := reps_one hp
      obtain ⟨u, rfl, hu'⟩ := reps_one hq
      obtain ⟨D, rfl⟩ : ∃ D', D = D' + 1 := ⟨D - 1, by omega⟩
      cases hv <;> simp [PV.kd] at hpk
      cases hu' <;> simp [PV.kd] at hqk
      simp only [wrapV, Bool.false_eq_true, if_false, List.headD_cons]
      rw [run_equalIn_string w D t _ _ hu, bytes_toList, bytes_toList]
      simp [beq_decide]
    · rename_i fs hu
      split at h
      · cases h
      rename_i hst
      refine ⟨true, by simp [aggOf, hu], fun e => (by cases e), fun D w F ps qs vs us hD hp hq e1 e2 => ?_⟩
      obtain ⟨D, rfl⟩ : ∃ D', D = D' + 1 := ⟨D - 1, by omega⟩
      have hf : P.fieldsOf t = fs := by simp [Program.fieldsOf, hu]
      simp only [wrapV, if_true]
      rw [run_equalIn_struct w D t _ _ (by rw [hf]; exact hu) (by simpa using hst), hf]
      have := eqFs_ok (P := P) (K := eqK P d) (d := d) (D := D) ih (by omega) hp hq fs.toList 0 ks h (by simpa using e1) (by simpa using e2) (Nat.zero_le _) (Nat.zero_le _)
      simpa using this
    · cases h

theorem EqT.of {t : TypeId} {ks : List KD} (h : eqK P 20 t = some ks) (hag : aggOf P t = some true) (hg : P.eqGuardType P.depth t = false) : EqT P t ks := by
  obtain ⟨ag, h1, _, h2⟩ := eqK_ok 20 t ks h
  rw [hag] at h1
  obtain rfl := Option.some.inj h1
  intro w F x y ps qs vs us hp hq e1 e2
  have := h2 10000 w F ps qs vs us (by omega) hp hq e1 e2
  simp only [wrapV, if_true] at this
  constructor
  · simp only [Sem.run_bind, run_eqGuard_agg w .eql t x y _ _ hg, Result.andThen_ok, run_eql_struct, this]
  · simp only [Sem.run_bind, run_eqGuard_agg w .neq t x y _ _ hg, Result.andThen_ok, run_neq_struct, this]

end
end Go.Proofs.YtjbfcmaiejlnbaaVm
set_option linter.unusedVariables false
set_option linter.unusedSimpArgs false
namespace Go.Proofs.YtjbfcmaiejlnbaaVm
open Go Go.RowKit Classical

def fsOK (P : Program) (K : TypeId → Bool) : Nat → List Field → Option Nat
  | o, [] => some o
  | o, f :: fs => if f.offset = o ∧ K f.type = true then fsOK P K (o + P.cellsOf f.type) fs else none
/-- Types of bools, numbers, texts, structs and slices of such. -/
def tyOK (P : Program) : Nat → TypeId → Bool
  | 0, _ => false
  | d + 1, t => match P.underlying t with
    | some .bool | some (.int _) | some .string => P.cellsOf t == 1 && aggOf P t == some false
    | some (.slice e) => P.cellsOf t == 1 && aggOf P t == some false && tyOK P d e && decide (0 < P.cellsOf e)
    | some (.struct fs) => fsOK P (tyOK P d) 0 fs.toList == some (P.cellsOf t) && aggOf P t == some true
    | _ => false

def PFs (P : Program) (T : TypeId → List PV → Prop) : List Field → List PV → Prop
  | [], ps => ps = []
  | f :: fs, ps => T f.type (ps.take (P.cellsOf f.type)) ∧ PFs P T fs (ps.drop (P.cellsOf f.type))
/-- Cells that read as a value of a type. -/
def PTy (P : Program) : Nat → TypeId → List PV → Prop
  | 0, _, _ => False
  | d + 1, t, ps => match P.underlying t with
    | some .bool => ∃ b, ps = [.bool b]
    | some (.int k) => ∃ n, ps = [.int k n] ∧ (Lit.int k n).wf = true
    | some .string => ∃ l, ps = [.str l] ∧ l.length ≤ maxLen
    | some (.slice e) => ∃ xs, ps = [.row xs] ∧ xs.length ≤ maxLen ∧ ∀ x ∈ xs, PTy P d e x.cells ∧ aggOf P e = some x.isAgg
    | some (.struct fs) => PFs P (PTy P d) fs.toList ps
    | _ => False

section
variable {P : Program} {w : World}

abbrev Fw (w : World) : Nat → Prop := fun b => b < w.heap.size

def Opens (P : Program) (w : World) (d : Nat) (t : TypeId) (cs : List Value) : Prop :=
  ∃ ps, Reps w (Fw w) ps cs ∧ PTy P d t ps ∧ (∀ p ∈ ps, p.isAgg = false) ∧ ps.length = P.cellsOf t

theorem opens_fields {d : Nat} {cs : List Value} {K : TypeId → Bool} : ∀ (fs : List Field) (o T : Nat), fsOK P K o fs = some T → o ≤ cs.length → cs.length = T →
    (∀ f ∈ fs, Opens P w d f.type ((cs.drop f.offset).take (P.cellsOf f.type))) → ∃ ps, Reps w (Fw w) ps (cs.drop o) ∧ PFs P (PTy P d) fs ps ∧ ∀ p ∈ ps, p.isAgg = false := by
  intro fs
  induction fs with
  | nil =>
    intro o T h ho hl _
    simp only [fsOK, Option.some.injEq] at h
    have : cs.drop o = [] := List.drop_eq_nil_of_le (by omega)
    rw [this]
    exact ⟨[], Reps.nil _ _, rfl, by simp⟩
  | cons f fs ih =>
    intro o T h ho hl hf
    simp only [fsOK] at h
    split at h
    · rename_i hc
      obtain ⟨rfl, hK⟩ := hc
      obtain ⟨ps, h1, h2, h3, h4⟩ := hf f (by simp)
      have hlen : ((cs.drop f.offset).take (P.cellsOf f.type)).length = P.cellsOf f.type := by rw [h1.1, h4]
      have ho2 : f.offset + P.cellsOf f.type ≤ cs.length := by
        simp only [List.length_take, List.length_drop] at hlen; omega
      obtain ⟨qs, g1, g2, g3⟩ := ih (f.offset + P.cellsOf f.type) T h ho2 hl (fun f' hf' => hf f' (List.mem_cons_of_mem _ hf'))
      refine ⟨ps ++ qs, ?_, ⟨?_, ?_⟩, fun p hp => ?_⟩
      · have := h1.append g1
        rw [← List.drop_drop, List.take_append_drop] at this
        exact this
      · rw [List.take_append_of_le_length (by omega), List.take_of_length_le (by omega)]; exact h2
      · rw [List.drop_append_of_le_length (by omega), List.drop_eq_nil_of_le (by omega), List.nil_append]; exact g2
      · rcases List.mem_append.1 hp with hp | hp
        · exact h3 p hp
        · exact g3 p hp
    · cases h

theorem fsOK_mem {K : TypeId → Bool} : ∀ (fs : List Field) (o T : Nat), fsOK P K o fs = some T → ∀ f ∈ fs, K f.type = true := by
  intro fs
  induction fs with
  | nil => intro o T _ f hf; simp at hf
  | cons g fs ih =>
    intro o T h f hf
    simp only [fsOK] at h
    split at h
    · rename_i hc
      rcases List.mem_cons.1 hf with rfl | hf
      · exact hc.2
      · exact ih _ _ h f hf
    · cases h

theorem open_trod {H : Type} {enc : TypeId × Value → H} {spare : Nat → Bool} {held : Bool} : ∀ (d fuel : Nat) (t : TypeId) (cs : List Value) (x : DataW H × List MemPlace), tyOK P d t = true →
    DataW.trod enc P w 0 spare held fuel t cs = some x → Opens P w d t cs := by
  intro d
  induction d with
  | zero => intro fuel t cs x h; cases h
  | succ d ih =>
    intro fuel t cs x h hx
    simp only [tyOK] at h
    split at h
    · rename_i hu
      simp only [Bool.and_eq_true, beq_iff_eq] at h
      obtain ⟨b, rfl, _⟩ := DataW.trod_bool hu hx
      exact ⟨[.bool b], Reps.cons (.bool b) (Reps.nil _ _), by simp only [PTy, hu]; exact ⟨b, rfl⟩, by simp [PV.isAgg], h.1.symm⟩
    · rename_i k hu
      simp only [Bool.and_eq_true, beq_iff_eq] at h
      obtain ⟨n, rfl, _, hw⟩ := DataW.trod_int hu hx
      exact ⟨[.int k n], Reps.cons (.int k n) (Reps.nil _ _), by simp only [PTy, hu]; exact ⟨n, rfl, hw⟩, by simp [PV.isAgg], h.1.symm⟩
    · rename_i hu
      simp only [Bool.and_eq_true, beq_iff_eq] at h
      obtain ⟨s, rfl, _, hw⟩ := DataW.trod_string hu hx
      obtain ⟨⟨l⟩⟩ := s
      exact ⟨[.str l], Reps.cons (.str l) (Reps.nil _ _), by simp only [PTy, hu]; exact ⟨l, rfl, hw⟩, by simp [PV.isAgg], h.1.symm⟩
    · rename_i e hu
      simp only [Bool.and_eq_true, beq_iff_eq, decide_eq_true_eq] at h
      obtain ⟨⟨⟨hc1, hag⟩, hte⟩, hpos⟩ := h
      rcases DataW.trod_slice hu hx with ⟨rfl, _⟩ | ⟨a, len, cap, elems, rest, n, _, rfl, _, hb, hlc, hcm, hel, hget, _⟩
      · exact ⟨[.row []], Reps.cons .rowNil (Reps.nil _ _), by simp only [PTy, hu]; exact ⟨[], rfl, by simp, by simp⟩, by simp [PV.isAgg], hc1.symm⟩
      · have hage : ∃ ag, aggOf P e = some ag ∧ (ag = false → P.cellsOf e = 1) := by
          cases d with
          | zero => cases hte
          | succ d =>
            simp only [tyOK] at hte
            split at hte
            · simp only [Bool.and_eq_true, beq_iff_eq] at hte; exact ⟨false, hte.2, fun _ => hte.1⟩
            · simp only [Bool.and_eq_true, beq_iff_eq] at hte; exact ⟨false, hte.2, fun _ => hte.1⟩
            · simp only [Bool.and_eq_true, beq_iff_eq] at hte; exact ⟨false, hte.2, fun _ => hte.1⟩
            · simp only [Bool.and_eq_true, beq_iff_eq] at hte; exact ⟨false, hte.1.1.2, fun _ => hte.1.1.1⟩
            · simp only [Bool.and_eq_true, beq_iff_eq] at hte; exact ⟨true, hte.2, fun e => by cases e⟩
            · cases hte
        obtain ⟨ag, hage, hone⟩ := hage
        have main : ∀ m, m ≤ len → ∃ (xs : List PV) (cv : List Value), xs.length = m ∧ (∀ x ∈ xs, x.cells.length = P.cellsOf e) ∧ (∀ x ∈ xs, PTy P d e x.cells ∧ aggOf P e = some x.isAgg) ∧ Reps w (Fw w) (flat xs) cv ∧ (∀ c ∈ flat xs, c.isAgg = false) ∧
            (∀ (j : Nat) (v : Value), cv[j]? = some v → w.cell? (a.add j) = some v) ∧ cv.length = m * P.cellsOf e ∧ (0 < m → a.block < w.heap.size) := by
          intro m
          induction m with
          | zero => intro _; exact ⟨[], [], rfl, by simp, by simp, by simpa [flat] using Reps.nil _ _, by simp [flat], by simp, by simp, by omega⟩
          | succ m ihm =>
            intro hm
            obtain ⟨xs, cv, q1, q2, q3, q4, q5, q6, q7, _⟩ := ihm (by omega)
            have hg := hget m (by omega)
            have hlt : m < elems.length := by omega
            rw [List.getElem?_eq_getElem hlt, Option.bind_eq_some_iff] at hg
            obtain ⟨cs', hcs, htr⟩ := hg
            obtain ⟨ps, p1, p2, p3, p4⟩ := ih n e cs' _ hte htr
            obtain ⟨_, hcl, hcell⟩ := World.cells?_some hcs
            obtain ⟨y, hy, hyag⟩ : ∃ y : PV, y.cells = ps ∧ y.isAgg = ag := by
              cases ag with
              | true => exact ⟨.agg ps, rfl, rfl⟩
              | false =>
                have := hone rfl
                match ps, p4, p3 with
                | [p], _, p3 =>
                  have hp := p3 p (by simp)
                  refine ⟨p, ?_, hp⟩
                  cases p <;> first | rfl | simp [PV.isAgg] at hp
                | [], h0, _ => simp at h0; omega
                | _ :: _ :: _, h0, _ => simp at h0; omega
            have hfl : flat (xs ++ [y]) = flat xs ++ ps := by rw [flat_append]; simp [flat, hy]
            refine ⟨xs ++ [y], cv ++ cs', by simp [q1], fun x hx => ?_, fun x hx => ?_, by rw [hfl]; exact q4.append p1, fun c hc => ?_, fun j v hj => ?_, ?_, fun _ => ?_⟩
            · rcases List.mem_append.1 hx with hx | hx
              · exact q2 x hx
              · simp at hx; subst hx; rw [hy, p4]
            · rcases List.mem_append.1 hx with hx | hx
              · exact q3 x hx
              · simp at hx; subst hx; rw [hy]; exact ⟨p2, by rw [hage, hyag]⟩
            · rw [hfl] at hc
              rcases List.mem_append.1 hc with hc | hc
              · exact q5 c hc
              · exact p3 c hc
            · rcases Nat.lt_or_ge j cv.length with h | h
              · rw [List.getElem?_append_left h] at hj; exact q6 j v hj
              · rw [List.getElem?_append_right h] at hj
                have hjl : j - cv.length < P.cellsOf e := by rw [← hcl]; exact (List.getElem?_eq_some_iff.1 hj).1
                have := hcell (j - cv.length) hjl
                rw [Addr.add_add, hj] at this
                rw [show m * P.cellsOf e + (j - cv.length) = j by omega] at this
                exact this
            · rw [List.length_append, q7, hcl, Nat.add_mul, Nat.one_mul]
            · have h0 := hcell 0 hpos
              have h1 : cs'[0]? = some cs'[0] := List.getElem?_eq_getElem (by omega)
              rw [h1, Addr.add_add] at h0
              have := block_lt_of_cell h0
              rwa [add_block] at this
        obtain ⟨xs, cv, q1, q2, q3, q4, q5, q6, q7, q8⟩ := main len (Nat.le_refl _)
        refine ⟨[.row xs], Reps.cons ?_ (Reps.nil _ _), by simp only [PTy, hu]; exact ⟨xs, rfl, by omega, q3⟩, by simp [PV.isAgg], hc1.symm⟩
        rw [← q1]
        refine .row xs a cap (P.cellsOf e) cv (by omega) q2 ?_ q4.1 q6 q5 q4.2
        cases xs with
        | nil => exact .inl rfl
        | cons x xs => exact .inr (q8 (by simp at q1; omega))
    · rename_i fs hu
      simp only [Bool.and_eq_true, beq_iff_eq] at h
      obtain ⟨xs, n, _, _, hl, hxl, hget⟩ := DataW.trod_struct hu hx
      have hfs : ∀ f ∈ fs.toList, Opens P w d f.type ((cs.drop f.offset).take (P.cellsOf f.type)) := by
        intro f hf
        obtain ⟨i, hi⟩ := List.getElem?_of_mem hf
        have hi' : fs[i]? = some f := by simpa using hi
        have hg := hget i f hi'
        have hlt : i < xs.length := by rw [hxl]; exact (Array.getElem?_eq_some_iff.1 hi').1
        rw [List.getElem?_eq_getElem hlt] at hg
        exact ih n f.type _ _ (fsOK_mem fs.toList 0 _ h.1 f hf) hg
      obtain ⟨ps, h1, h2, h3⟩ := opens_fields (cs := cs) fs.toList 0 (P.cellsOf t) h.1 (Nat.zero_le _) hl hfs
      rw [List.drop_zero] at h1
      exact ⟨ps, h1, by simp only [PTy, hu]; exact h2, h3, by rw [← h1.1, hl]⟩
    · cases h

/-- Numbers of their kinds, texts that memory bears. -/
def PV.wfv : PV → Prop
  | .int k n => (Lit.int k n).wf = true
  | .str l => l.length ≤ maxLen
  | _ => True

theorem cellsOf_sz {t : TypeId} {n : Nat} (h : szOf P t = some n) : P.cellsOf t = n := by
  unfold szOf at h
  simp [Program.cellsOf, h]

theorem PTy.kinds : ∀ (d : Nat) (t : TypeId) (ps : List PV), PTy P d t ps → ∀ (d' : Nat) (ks : List KD), eqK P d' t = some ks → ps.map PV.kd = ks ∧ ∀ p ∈ ps, p.wfv := by
  intro d
  induction d with
  | zero => intro t ps h; exact h.elim
  | succ d ih =>
    intro t ps h d' ks hk
    cases d' with
    | zero => cases hk
    | succ d' =>
      simp only [PTy] at h
      simp only [eqK] at hk
      split at h
      · rename_i hu
        rw [hu] at hk
        obtain rfl := Option.some.inj hk
        obtain ⟨b, rfl⟩ := h
        exact ⟨rfl, by simp [PV.wfv]⟩
      · rename_i k hu
        rw [hu] at hk
        obtain rfl := Option.some.inj hk
        obtain ⟨n, rfl, hw⟩ := h
        exact ⟨rfl, by simpa [PV.wfv] using hw⟩
      · rename_i hu
        rw [hu] at hk
        obtain rfl := Option.some.inj hk
        obtain ⟨l, rfl, hw⟩ := h
        exact ⟨rfl, by simpa [PV.wfv] using hw⟩
      · rename_i e hu
        rw [hu] at hk
        cases hk
      · rename_i fs hu
        rw [hu] at hk
        simp only at hk
        split at hk
        · cases hk
        · have key : ∀ (fs : List Field) (o : Nat) (ps : List PV) (r : List KD), PFs P (PTy P d) fs ps → eqFs P (eqK P d') o fs = some r → ps.map PV.kd = r ∧ ∀ p ∈ ps, p.wfv := by
            intro fs
            induction fs with
            | nil =>
              intro o ps r h hk
              simp only [eqFs, Option.some.injEq] at hk
              obtain rfl : ps = [] := h
              subst hk
              exact ⟨rfl, by simp⟩
            | cons f fs ihf =>
              intro o ps r h hk
              obtain ⟨h1, h2⟩ := h
              simp only [eqFs] at hk
              split at hk
              · cases hk
              · split at hk
                · rename_i ks' hks
                  split at hk
                  · rename_i hsz
                    split at hk
                    · rename_i r' hr'
                      obtain rfl := Option.some.inj hk
                      obtain ⟨a1, a2⟩ := ih f.type _ h1 d' ks' hks
                      obtain ⟨b1, b2⟩ := ihf _ _ _ h2 hr'
                      refine ⟨?_, fun p hp => ?_⟩
                      · rw [← a1, ← b1, ← List.map_append, List.take_append_drop]
                      · rw [← List.take_append_drop (P.cellsOf f.type) ps] at hp
                        rcases List.mem_append.1 hp with hp | hp
                        · exact a2 p hp
                        · exact b2 p hp
                    · cases hk
                  · cases hk
                · cases hk
          exact key fs.toList 0 ps ks h hk
      · exact h.elim

/-- Opened at the type of a slice. -/
theorem Opens.slice {d : Nat} {t e : TypeId} {cs : List Value} {ks : List KD} {d' : Nat} (h : Opens P w (d + 1) t cs) (hu : P.underlying t = some (.slice e)) (hk : eqK P d' e = some ks) (hag : aggOf P e = some true) :
    ∃ xs : List PV, Reps w (Fw w) [.row xs] cs ∧ xs.length ≤ maxLen ∧ ∀ x ∈ xs, ∃ qs, x = .agg qs ∧ qs.map PV.kd = ks ∧ ∀ q ∈ qs, q.wfv := by
  obtain ⟨ps, h1, h2, h3, h4⟩ := h
  simp only [PTy, hu] at h2
  obtain ⟨xs, rfl, hl, hx⟩ := h2
  refine ⟨xs, h1, hl, fun x hxm => ?_⟩
  obtain ⟨g1, g2⟩ := hx x hxm
  rw [hag] at g2
  obtain ⟨k1, k2⟩ := PTy.kinds d e _ g1 d' ks hk
  cases x with
  | agg qs => exact ⟨qs, rfl, k1, k2⟩
  | _ => cases g2

/-- Opened at the type of a struct. -/
theorem Opens.struct {d : Nat} {t : TypeId} {cs : List Value} {ks : List KD} {d' : Nat} (h : Opens P w d t cs) (hk : eqK P d' t = some ks) : ∃ qs, Reps w (Fw w) qs cs ∧ qs.map PV.kd = ks ∧ (∀ q ∈ qs, q.wfv) ∧ ∀ q ∈ qs, q.isAgg = false := by
  obtain ⟨ps, h1, h2, h3, h4⟩ := h
  obtain ⟨k1, k2⟩ := PTy.kinds d t ps h2 d' ks hk
  exact ⟨ps, h1, k1, k2, h3⟩

/-- A list of values of one form. -/
theorem map_of {α : Type} {f : α → PV} {Q : PV → Prop} (hQ : ∀ x, Q x → ∃ a, x = f a) : ∀ (xs : List PV), (∀ x ∈ xs, Q x) → ∃ l : List α, xs = l.map f := by
  intro xs
  induction xs with
  | nil => intro _; exact ⟨[], rfl⟩
  | cons x xs ih =>
    intro h
    obtain ⟨a, rfl⟩ := hQ x (h x (by simp))
    obtain ⟨l, rfl⟩ := ih (fun y hy => h y (List.mem_cons_of_mem _ hy))
    exact ⟨a :: l, rfl⟩

/-- A law, out of its contract: called, it says true, and what was stays. -/
theorem Ct.law {f : FuncId} {ps : List PV} {vs : List Value} {w : World} (h : Ct P f (ops ps) (.vals [.bool true])) (hr : Reps w (Fw w) ps vs) :
    Calls P f ⟨vs⟩ w fun e w' => e = .returned (.bool true) ∧ Below w.heap.size w w' := by
  refine (h w (Fw w) vs (fun b hb => hb) (argsRep_ops hr)).mono fun e w' hh => ?_
  obtain ⟨v, rfl, ho⟩ := hh
  obtain ⟨us, rfl, hus⟩ := ho.res
  refine ⟨?_, ho.os, ho.tape, ho.output, ho.size, fun k hk => ho.old k hk given_ops⟩
  match us, hus with
  | [u], hus =>
    have := (hus.tail).1
    cases this
    rfl

end
end Go.Proofs.YtjbfcmaiejlnbaaVm
set_option linter.unusedVariables false
namespace Go.Proofs.YtjbfcmaiejlnbaaVm
open Go Go.Proofs
variable {md : Md} {P : Program} {n : Nat} {R : St → Prop} {σ : St} {k : List It}

theorem lk_call {all : List Oper} {d t p af g fx xs ts} : lk all { dst := d, op := .call { callee := .value fx, args := xs, argTypes := ts }, type := t, pos := p, after := af, guard := g } = tms (fx :: xs.toList) ++ gsl all g := by
  unfold lk
  congr 1
  simp [Op.operands, Call.operands]
theorem DV.call {all : List Oper} {b i : Nat} {d t p af g fx xs ts} {rest : List Oper} {aM aW : List (List Nat)} {ck : Nat} (M W : List Nat) {σ' : St} {v : AV}
    (hg : runs σ all { dst := d, op := .call { callee := .value fx, args := xs, argTypes := ts }, type := t, pos := p, after := af, guard := g } = some true) (hd : dOK n d)
    (hc : CallStep P (σ.restr (tms (fx :: xs.toList) ++ gsl all g) M (b + i)) (b + i)
      ((σ.restr (tms (fx :: xs.toList) ++ gsl all g) M (b + i)).ev fx)
      ((σ.restr (tms (fx :: xs.toList) ++ gsl all g) M (b + i)).evs xs.toList) σ' v)
    (h1 : Chg (σ.restr (tms (fx :: xs.toList) ++ gsl all g) M (b + i)) σ' W)
    (h2 : mok σ (tms (fx :: xs.toList) ++ gsl all g) M (b + i) v)
    (h3 : pln σ (tms (fx :: xs.toList) ++ gsl all g) M (b + i) σ' W) (h4 : ∀ k, k ∈ W → k ∈ M ∨ k = b + i)
    (h : DV md P n R all b (i + 1) rest (aM ++ [M]) (aW ++ [W]) ck k (σ.patch (σ'.put d v) W d)) :
    DV md P n R all b i ({ dst := d, op := .call { callee := .value fx, args := xs, argTypes := ts }, type := t, pos := p, after := af, guard := g } :: rest) aM aW ck k σ := by
  rw [← lk_call (all := all) (d := d) (t := t) (p := p) (af := af) (ts := ts)] at *
  refine DV.op M W (.call (by rw [runs_restr]; exact hg) rfl hd hc) (Within.of h1 h2 h3 h4) h
/-- Several ways come to one state. -/
theorem V.join {α : Type} {md : Md} {P : Program} {n n' : Nat} {R R' : St → Prop} {k k' : List It} {σ : St} (S : α → St) (H : α → Prop) (main : (∀ a, H a → V md P n R k (S a)) → V md P n' R' k' σ) (rest : ∀ a, H a → V md P n R k (S a)) : V md P n' R' k' σ := main rest
theorem slt_nil (a : List UInt8) : ¬ slt a [] := by cases a <;> simp [slt, strLt, Op.bytesLess]
theorem nil_slt (a : UInt8) (x : List UInt8) : slt [] (a :: x) := by simp [slt, strLt, Op.bytesLess]
theorem slt_cons (a b : UInt8) (x y : List UInt8) : slt (a :: x) (b :: y) ↔ a < b ∨ (a = b ∧ slt x y) := by simp [slt, strLt, Op.bytesLess]
theorem slt_irrefl : ∀ a : List UInt8, ¬ slt a a
  | [] => slt_nil _
  | a :: x => fun h => by
    rcases (slt_cons a a x x).1 h with h | h
    · exact absurd h (UInt8.lt_irrefl a)
    · exact slt_irrefl x h.2
theorem slt_trans : ∀ {a b c : List UInt8}, slt a b → slt b c → slt a c
  | a, b, [], _, h => absurd h (slt_nil b)
  | [], _, c :: z, _, _ => nil_slt c z
  | a :: x, [], c :: z, h, _ => absurd h (slt_nil _)
  | a :: x, b :: y, c :: z, h, g => by
    rw [slt_cons] at *
    rcases h with h | ⟨rfl, h⟩
    · rcases g with g | ⟨rfl, g⟩
      · exact .inl (UInt8.lt_trans h g)
      · exact .inl h
    · rcases g with g | ⟨rfl, g⟩
      · exact .inl g
      · exact .inr ⟨rfl, slt_trans h g⟩
theorem slt_total : ∀ (a b : List UInt8), slt a b ∨ a = b ∨ slt b a
  | [], [] => .inr (.inl rfl)
  | [], b :: y => .inl (nil_slt b y)
  | a :: x, [] => .inr (.inr (nil_slt a x))
  | a :: x, b :: y => by
    rw [slt_cons, slt_cons]
    rcases UInt8.lt_or_lt_of_ne (a := a) (b := b) |> fun h => (Decidable.em (a = b)).imp_right h with rfl | h | h
    · rcases slt_total x y with h | rfl | h
      · exact .inl (.inr ⟨rfl, h⟩)
      · exact .inr (.inl rfl)
      · exact .inr (.inr (.inr ⟨rfl, h⟩))
    · exact .inl (.inl h)
    · exact .inr (.inr (.inl h))
theorem slt_asymm {a b : List UInt8} (h : slt a b) : ¬ slt b a := fun g => slt_irrefl a (slt_trans h g)
/-- A row of the call's own, handed back as a plain one. -/
theorem Ct.forget {P : Program} {f : FuncId} {args : List Arg} {e : TypeId} {xs : List PV} (h : Ct P f args (.own e xs)) : Ct P f args (.vals [.row xs]) := fun w F vs hF ha =>
  (h w F vs hF ha).mono fun ev w' ⟨v, hv, ho⟩ => ⟨v, hv, ⟨ho.os, ho.tape, ho.output, ho.size, ho.old,
    ⟨[v], rfl, Reps.cons (rep_of_ownRow ho.res.1 (fun b hb => hb.1) (fun b hb => .inr (ho.res.2 b hb))) (Reps.nil _ _)⟩⟩⟩
theorem Opens.str {P : Program} {w : World} {d : Nat} {t : TypeId} {cs : List Value} (h : Opens P w (d + 1) t cs) (hu : P.underlying t = some .string) : ∃ l, Reps w (Fw w) [.str l] cs := by
  obtain ⟨ps, h1, h2, h3, h4⟩ := h
  simp only [PTy, hu] at h2
  obtain ⟨l, rfl, hl⟩ := h2
  exact ⟨l, h1⟩
theorem Reps.toAgg {w : World} {F : Nat → Prop} {qs : List PV} {cs : List Value} (h : Reps w F qs cs) (ha : ∀ q ∈ qs, q.isAgg = false) : Rep w F (.agg qs) (.agg ⟨cs⟩) :=
  .agg qs cs h.1 ha h.2
def ixS (σ : St) : Option TypeDesc → AV → AV → Option (St × AV)
  | some .string, .val (.str l), .val (.int _ n) => if 0 ≤ n then match l[n.toNat]? with
    | some c => some (σ, .val (.int .u8 c.toNat))
    | none => none else none
  | _, _, _ => none
def ixc (σ : St) : Option UInt8 → Option (St × AV)
  | some c => some (σ, .val (.int .u8 c.toNat))
  | none => none
theorem step_index {i t x j} : stepOp P σ i (.index t x j) = ixS σ (P.underlying t) (σ.ev x) (σ.ev j) := rfl
theorem ixS_str {l k n} : ixS σ (some .string) (.val (.str l)) (.val (.int k n)) = if 0 ≤ n then ixc σ l[n.toNat]? else none := rfl
theorem ixc_some {c} : ixc σ (some c) = some (σ, .val (.int .u8 c.toNat)) := rfl
open Classical in
theorem slice_str_hi {t s k n} : stSlice P σ t (.val (.str s)) none (some (.val (.int k n))) = if 0 ≤ n ∧ n ≤ s.length ∧ P.underlying t = some .string then some (σ, .val (.str (s.take n.toNat))) else none := rfl
open Classical in
theorem slice_str_lo {t s k n} : stSlice P σ t (.val (.str s)) (some (.val (.int k n))) none = if 0 ≤ n ∧ n ≤ s.length ∧ P.underlying t = some .string then some (σ, .val (.str (s.drop n.toNat))) else none := rfl
open Classical in
theorem slice_str_both {t s k m k' n} : stSlice P σ t (.val (.str s)) (some (.val (.int k m))) (some (.val (.int k' n))) = if 0 ≤ m ∧ m ≤ n ∧ n ≤ s.length ∧ P.underlying t = some .string then some (σ, .val (.str ((s.take n.toNat).drop m.toNat))) else none := rfl
def mk1 (P : Program) (σ : St) (i : Nat) (n m : Int) : Option TypeId → Option (St × AV)
  | some e => match szOf P e, byOf P e, zeroOf P e with
    | some sz, some nb, some [z] => match z.pure? with
      | some p => if sz = 1 ∧ m = n ∧ 0 ≤ n ∧ nb * n.toNat ≤ 281474976710656 ∧ n ≤ 4611686018427387904 ∧ z.cell = true ∧ σ.isFree i = true then some (σ.setOb i (.row e (List.replicate n.toNat p)), .ref i) else none
      | none => none
    | _, _, _ => none
  | none => none
def mk2 (σ : St) (i : Nat) (e : TypeId) (n m : Int) : Option Nat → Option Nat → Option (List AV) → Option (St × AV)
  | some sz, some nb, some [z] => match z.pure? with
      | some p => if sz = 1 ∧ m = n ∧ 0 ≤ n ∧ nb * n.toNat ≤ 281474976710656 ∧ n ≤ 4611686018427387904 ∧ z.cell = true ∧ σ.isFree i = true then some (σ.setOb i (.row e (List.replicate n.toNat p)), .ref i) else none
      | none => none
  | _, _, _ => none
theorem make_eq {i t k n k' m} : stMake P σ i t (.val (.int k n)) (.val (.int k' m)) = mk1 P σ i n m (elOf P t) := by
  unfold stMake mk1
  cases elOf P t <;> rfl
theorem mk1_some {i n m e} : mk1 P σ i n m (some e) = mk2 σ i e n m (szOf P e) (byOf P e) (zeroOf P e) := rfl
theorem mk2_some {i e n m sz nb p} : mk2 σ i e n m (some sz) (some nb) (some [.val p]) = if sz = 1 ∧ m = n ∧ 0 ≤ n ∧ nb * n.toNat ≤ 281474976710656 ∧ n ≤ 4611686018427387904 ∧ p.isAgg = false ∧ σ.isFree i = true then some (σ.setOb i (.row e (List.replicate n.toNat p)), .ref i) else none := by
  cases h : p.isAgg <;> simp [mk2, AV.pure?, AV.cell, h]
theorem mk2_nils {i e n m sz nb} : mk2 σ i e n m (some sz) (some nb) (some [.nils]) = if sz = 1 ∧ m = n ∧ 0 ≤ n ∧ nb * n.toNat ≤ 281474976710656 ∧ n ≤ 4611686018427387904 ∧ σ.isFree i = true then some (σ.setOb i (.row e (List.replicate n.toNat (PV.row []))), .ref i) else none := by
  simp [mk2, AV.pure?, AV.cell]
attribute [go_sem] make_eq mk1_some mk2_some mk2_nils
theorem bin_shr1 {t k k' x} : binPV P .shr t (.int k x) (.int k' 1) = some (.int k (x / 2)) := by
  have hb : min (1 : Nat) k.bits = 1 := by cases k <;> rfl
  simp [binPV, hb]
attribute [go_sem high] bin_shr1
theorem exec_dres_choose {m : Nat} {sp : List Nat} {c : Prop} [Decidable c] {e1 e2 M W S dst all b i rest aM aW ck} : exec md P n R sp (m + 1) (.dres (choose2 c e1 e2) M W S dst all b i rest aM aW ck k) σ =
    ((c → exec md P n R sp (m + 1) (.dres e1 M W S dst all b i rest aM aW ck k) σ) ∧ (¬c → exec md P n R sp (m + 1) (.dres e2 M W S dst all b i rest aM aW ck k) σ)) := by
  by_cases h : c <;> simp [h, choose2]
attribute [go_sem] exec_dres_choose
attribute [go_sem] step_index ixS_str ixc_some slice_str_hi slice_str_lo slice_str_both
attribute [go_sem] List.range_zero List.nil_append true_implies
end Go.Proofs.YtjbfcmaiejlnbaaVm
set_option linter.unusedVariables false
set_option linter.unusedSimpArgs false
namespace Go.Proofs.YtjbfcmaiejlnbaaVm
open Go Go.Proofs
theorem Opens.strs {P : Program} {w : World} {d : Nat} {t e : TypeId} {cs : List Value} (h : Opens P w (d + 2) t cs) (hu : P.underlying t = some (.slice e)) (hs : P.underlying e = some .string) (hag : aggOf P e = some false) :
    ∃ ls : List (List UInt8), Reps w (Fw w) [.row (ls.map PV.str)] cs ∧ ls.length ≤ maxLen := by
  obtain ⟨ps, h1, h2, h3, h4⟩ := h
  unfold PTy at h2
  simp only [hu] at h2
  obtain ⟨xs, rfl, hl, hx⟩ := h2
  have key : ∀ xs : List PV, (∀ x ∈ xs, ∃ l, x = .str l) → ∃ ls : List (List UInt8), xs = ls.map PV.str := by
    intro xs
    induction xs with
    | nil => intro _; exact ⟨[], rfl⟩
    | cons x r ih =>
      intro h
      obtain ⟨t, rfl⟩ := ih fun y hy => h y (List.mem_cons_of_mem _ hy)
      obtain ⟨l, rfl⟩ := h x List.mem_cons_self
      exact ⟨l :: t, rfl⟩
  obtain ⟨ls, rfl⟩ := key xs fun x hxm => by
    obtain ⟨g1, g2⟩ := hx x hxm
    rw [hag] at g2
    unfold PTy at g1
    simp only [hs] at g1
    obtain ⟨l, hc, hw⟩ := g1
    cases x with
    | agg qs => cases g2
    | _ => first | exact ⟨_, rfl⟩ | (simp [PV.cells] at hc)
  exact ⟨ls, h1, by simpa using hl⟩
end Go.Proofs.YtjbfcmaiejlnbaaVm
set_option linter.unusedVariables false
set_option linter.unusedSimpArgs false
namespace Go.Proofs.YtjbfcmaiejlnbaaVm
open Go Go.Proofs
theorem Opens.rows {P : Program} {w : World} {d : Nat} {t s e : TypeId} {cs : List Value} {ks : List KD} {d' : Nat} (h : Opens P w (d + 2) t cs) (hu : P.underlying t = some (.slice s)) (hs : P.underlying s = some (.slice e)) (has : aggOf P s = some false) (hk : eqK P d' e = some ks) (hag : aggOf P e = some true) :
    ∃ xss : List (List PV), Reps w (Fw w) [.row (xss.map PV.row)] cs ∧ xss.length ≤ maxLen ∧ ∀ xs ∈ xss, xs.length ≤ maxLen ∧ ∀ x ∈ xs, ∃ qs, x = .agg qs ∧ qs.map PV.kd = ks ∧ ∀ q ∈ qs, q.wfv := by
  obtain ⟨ps, h1, h2, h3, h4⟩ := h
  unfold PTy at h2
  simp only [hu] at h2
  obtain ⟨xs, rfl, hl, hx⟩ := h2
  have key : ∀ xs : List PV, (∀ x ∈ xs, ∃ l : List PV, x = .row l ∧ l.length ≤ maxLen ∧ ∀ x ∈ l, ∃ qs, x = .agg qs ∧ qs.map PV.kd = ks ∧ ∀ q ∈ qs, q.wfv) →
      ∃ xss : List (List PV), xs = xss.map PV.row ∧ ∀ xs ∈ xss, xs.length ≤ maxLen ∧ ∀ x ∈ xs, ∃ qs, x = .agg qs ∧ qs.map PV.kd = ks ∧ ∀ q ∈ qs, q.wfv := by
    intro xs
    induction xs with
    | nil => intro _; exact ⟨[], rfl, by simp⟩
    | cons x r ih =>
      intro h
      obtain ⟨t, rfl, ht⟩ := ih fun y hy => h y (List.mem_cons_of_mem _ hy)
      obtain ⟨l, rfl, hl1, hl2⟩ := h x List.mem_cons_self
      refine ⟨l :: t, rfl, fun ys hys => ?_⟩
      rcases List.mem_cons.1 hys with rfl | hys
      · exact ⟨hl1, hl2⟩
      · exact ht ys hys
  obtain ⟨ls, rfl, hls⟩ := key xs fun x hxm => by
    obtain ⟨g1, g2⟩ := hx x hxm
    rw [has] at g2
    unfold PTy at g1
    simp only [hs] at g1
    obtain ⟨ys, hc, hyl, hy⟩ := g1
    have hx' : x = .row ys := by
      cases x with
      | agg qs => cases g2
      | row zs => simpa [PV.cells] using hc
      | _ => simp [PV.cells] at hc
    refine ⟨ys, hx', hyl, fun y hym => ?_⟩
    obtain ⟨k1, k2⟩ := hy y hym
    rw [hag] at k2
    obtain ⟨m1, m2⟩ := PTy.kinds d e _ k1 d' ks hk
    cases y with
    | agg qs => exact ⟨qs, rfl, m1, m2⟩
    | _ => cases k2
  exact ⟨ls, h1, by simpa using hl, hls⟩
end Go.Proofs.YtjbfcmaiejlnbaaVm
