/- A part of a proof: functions of the program, walked. -/
import Derived.Laws.StructEq
import Derived.Test.YtfemlllmglaimaaGreatProg
import Derived.KernelRfl
import Derived.ChangeArms
import Derived.DataElems
import Derived.Below
import Derived.Test.YtfemlllmglaimaaGreatGB
set_option linter.unusedVariables false
set_option linter.unusedSimpArgs false
set_option maxRecDepth 8000
attribute [go_sem_proc] Nat.reduceAdd Nat.reduceLT Nat.reduceEqDiff Nat.reduceLeDiff Nat.reduceSub Nat.reduceMul reduceCtorEq
attribute [go_sem_proc ↓] reduceIte
attribute [go_sem] Bool.false_eq_true Bool.true_eq_false
namespace Go.Proofs.Zv
open Go Classical
def slt (a b : List UInt8) : Prop := strLt a b = true
def orI (k : IntKind) (x y : Int) : Int := (BitVec.ofInt k.bits x ||| BitVec.ofInt k.bits y).toNat
instance (a b : List UInt8) : Decidable (slt a b) := by unfold slt; infer_instance
def St.setCk (σ : St) (c : Nat) : St := { σ with ck := c }
section
variable {md : Md} {P : Program} {n m : Nat} {R : St → Prop} {sp : List Nat} {σ : St} {k : List It}
theorem exec_nil : exec md P n R sp (m + 1) (.its []) σ = R σ := rfl
theorem exec_ret : exec .pln P n R sp (m + 1) (.its (.code .ret :: k)) σ = R σ := by simp [exec,Md.pln]
theorem exec_retl {K b} : exec ⟨K,b,true⟩ P n R sp (m + 1) (.its (.code .ret :: k)) σ = R σ := by simp [exec]
theorem exec_retg : exec md P n R sp (m + 1) (.its (.code .ret :: k)) σ = (md.rt = true ∧ R σ) := rfl
theorem exec_seq {x y} : exec md P n R sp (m + 1) (.its (.code (.seq x y) :: k)) σ = exec md P n R sp m (.its (.code x :: .code y :: k)) σ := rfl
theorem exec_skip : exec md P n R sp (m + 1) (.its (.code .skip :: k)) σ = exec md P n R sp m (.its k) σ := rfl
theorem exec_cond {c x y} : exec md P n R sp (m + 1) (.its (.code (.cond c x y) :: k)) σ = exec md P n R sp m (.br (σ.ev c) x y k) σ := rfl
theorem exec_block {id c} : exec md P n R sp (m + 1) (.its (.code (.block id c) :: k)) σ = exec md P n R sp m (.its (.code c :: .blk id :: k)) σ := rfl
theorem exec_exit_hit {id} : exec md P n R sp (m + 1) (.its (.code (.exit id) :: .blk id :: k)) σ = exec md P n R sp m (.its k) σ := by simp [exec,exitIt]
theorem exec_exit_blk {id j} (h : j ≠ id) : exec md P n R sp (m + 1) (.its (.code (.exit id) :: .blk j :: k)) σ = exec md P n R sp (m + 1) (.its (.code (.exit id) :: k)) σ := by simp [exec,exitIt,h]
theorem exec_exit_code {id c} : exec md P n R sp (m + 1) (.its (.code (.exit id) :: .code c :: k)) σ = exec md P n R sp (m + 1) (.its (.code (.exit id) :: k)) σ := by simp [exec,exitIt]
theorem exec_exit_again {id J} : exec md P n R sp (m + 1) (.its (.code (.exit id) :: .again J :: k)) σ = exec md P n R sp (m + 1) (.its (.code (.exit id) :: k)) σ := by simp [exec,exitIt]
theorem exec_region {id os} : exec md P n R sp (m + 1) (.its (.code (.region id os false) :: k)) σ = (if id ∈ sp then V md P n R (.code (.region id os false) :: k) σ else exec md P n R sp m (.its (.ops os.toList σ.ck 0 os.toList :: k)) (σ.setCk (σ.ck + os.size))) := rfl
theorem exec_loop {c} : exec md P n R sp (m + 1) (.its (.code (.loop c) :: k)) σ = V md P n R (.code (.loop c) :: k) σ := rfl
theorem exec_rangeFunc {f ps x y} : exec md P n R sp (m + 1) (.its (.code (.rangeFunc f ps x y) :: k)) σ = V md P n R (.code (.rangeFunc f ps x y) :: k) σ := rfl
theorem exec_blk {id} : exec md P n R sp (m + 1) (.its (.blk id :: k)) σ = exec md P n R sp m (.its k) σ := rfl
theorem exec_again {J} : exec md P n R sp (m + 1) (.its (.again J :: k)) σ = J σ := rfl
theorem exec_stop {J} : exec md P n R sp (m + 1) (.its (.stop J :: k)) σ = J σ := rfl
theorem exec_opsnil {all b i} : exec md P n R sp (m + 1) (.its (.ops all b i [] :: k)) σ = exec md P n R sp m (.its k) σ := rfl
theorem exec_ops {all b i o rest} : exec md P n R sp (m + 1) (.its (.ops all b i (o :: rest) :: k)) σ = exec md P n R sp m (.gd (runs σ all o) all b i o rest k) σ := rfl
theorem exec_call {all b i d fx xs ts t p af g rest} : exec md P n R sp (m + 1) (.gd (some true) all b i { dst := d,op := .call { callee := .value fx,args := xs,argTypes := ts },type := t,pos := p,after := af,guard := g } rest k) σ =
  V md P n R (.ops all b i ({ dst := d,op := .call { callee := .value fx,args := xs,argTypes := ts },type := t,pos := p,after := af,guard := g } :: rest) :: k) σ := rfl
theorem exec_move {all b i d t p af g rest x} : exec md P n R sp (m + 1) (.gd (some true) all b i { dst := d,op := .move x,type := t,pos := p,after := af,guard := g } rest k) σ = exec md P n R sp m (.res (stepOp P σ (b + i) (.move x)) d all b (i + 1) rest k) σ := rfl
theorem exec_assign {all b i d t p af g rest x} : exec md P n R sp (m + 1) (.gd (some true) all b i { dst := d,op := .assign x,type := t,pos := p,after := af,guard := g } rest k) σ = exec md P n R sp m (.res (stepOp P σ (b + i) (.assign x)) d all b (i + 1) rest k) σ := rfl
theorem exec_pick {all b i d t p af g rest x y z} : exec md P n R sp (m + 1) (.gd (some true) all b i { dst := d,op := .pick x y z,type := t,pos := p,after := af,guard := g } rest k) σ = exec md P n R sp m (.res (stepOp P σ (b + i) (.pick x y z)) d all b (i + 1) rest k) σ := rfl
theorem exec_alloc {all b i d t p af g rest t'} : exec md P n R sp (m + 1) (.gd (some true) all b i { dst := d,op := .alloc t',type := t,pos := p,after := af,guard := g } rest k) σ = exec md P n R sp m (.res (stepOp P σ (b + i) (.alloc t')) d all b (i + 1) rest k) σ := rfl
theorem exec_box {all b i d t p af g rest t' x} : exec md P n R sp (m + 1) (.gd (some true) all b i { dst := d,op := .box t' x,type := t,pos := p,after := af,guard := g } rest k) σ = exec md P n R sp m (.res (stepOp P σ (b + i) (.box t' x)) d all b (i + 1) rest k) σ := rfl
theorem exec_build {all b i d t p af g rest t' ps} : exec md P n R sp (m + 1) (.gd (some true) all b i { dst := d,op := .build t' ps,type := t,pos := p,after := af,guard := g } rest k) σ = exec md P n R sp m (.res (stepOp P σ (b + i) (.build t' ps)) d all b (i + 1) rest k) σ := rfl
theorem exec_buildSlice {all b i d t p af g rest t' l ps} : exec md P n R sp (m + 1) (.gd (some true) all b i { dst := d,op := .buildSlice t' l ps,type := t,pos := p,after := af,guard := g } rest k) σ = exec md P n R sp m (.res (stepOp P σ (b + i) (.buildSlice t' l ps)) d all b (i + 1) rest k) σ := rfl
theorem exec_load {all b i d t p af g rest t' x} : exec md P n R sp (m + 1) (.gd (some true) all b i { dst := d,op := .load t' x,type := t,pos := p,after := af,guard := g } rest k) σ = exec md P n R sp m (.res (stepOp P σ (b + i) (.load t' x)) d all b (i + 1) rest k) σ := rfl
theorem exec_store {all b i d t p af g rest t' x y} : exec md P n R sp (m + 1) (.gd (some true) all b i { dst := d,op := .store t' x y,type := t,pos := p,after := af,guard := g } rest k) σ = exec md P n R sp m (.res (stepOp P σ (b + i) (.store t' x y)) d all b (i + 1) rest k) σ := rfl
theorem exec_nilCheck {all b i d t p af g rest x} : exec md P n R sp (m + 1) (.gd (some true) all b i { dst := d,op := .nilCheck x,type := t,pos := p,after := af,guard := g } rest k) σ = exec md P n R sp m (.res (stepOp P σ (b + i) (.nilCheck x)) d all b (i + 1) rest k) σ := rfl
theorem exec_binOp_t {all b i d t p af g rest o t' x yy u} : exec md P n R sp (m + 1) (.gd (some true) all b i { dst := d,op := .binOp o t' x (.tmp yy) u,type := t,pos := p,after := af,guard := g } rest k) σ = exec md P n R sp m (.res (stepOp P σ (b + i) (.binOp o t' x (.tmp yy) u)) d all b (i + 1) rest k) σ := rfl
theorem exec_binOp_i {all b i d t p af g rest o t' x yk yy u} : exec md P n R sp (m + 1) (.gd (some true) all b i { dst := d,op := .binOp o t' x (.const (.int yk yy)) u,type := t,pos := p,after := af,guard := g } rest k) σ = exec md P n R sp m (.res (stepOp P σ (b + i) (.binOp o t' x (.const (.int yk yy)) u)) d all b (i + 1) rest k) σ := rfl
theorem exec_binOp_b {all b i d t p af g rest o t' x yy u} : exec md P n R sp (m + 1) (.gd (some true) all b i { dst := d,op := .binOp o t' x (.const (.bool yy)) u,type := t,pos := p,after := af,guard := g } rest k) σ = exec md P n R sp m (.res (stepOp P σ (b + i) (.binOp o t' x (.const (.bool yy)) u)) d all b (i + 1) rest k) σ := rfl
theorem exec_binOp_s {all b i d t p af g rest o t' x yy u} : exec md P n R sp (m + 1) (.gd (some true) all b i { dst := d,op := .binOp o t' x (.const (.string yy)) u,type := t,pos := p,after := af,guard := g } rest k) σ = exec md P n R sp m (.res (stepOp P σ (b + i) (.binOp o t' x (.const (.string yy)) u)) d all b (i + 1) rest k) σ := rfl
theorem exec_binOp_p {all b i d t p af g rest o t' x yy u} : exec md P n R sp (m + 1) (.gd (some true) all b i { dst := d,op := .binOp o t' x (.const (.pointer yy)) u,type := t,pos := p,after := af,guard := g } rest k) σ = exec md P n R sp m (.res (stepOp P σ (b + i) (.binOp o t' x (.const (.pointer yy)) u)) d all b (i + 1) rest k) σ := rfl
theorem exec_binOp_f {all b i d t p af g rest o t' x yy u} : exec md P n R sp (m + 1) (.gd (some true) all b i { dst := d,op := .binOp o t' x (.func yy) u,type := t,pos := p,after := af,guard := g } rest k) σ = exec md P n R sp m (.res (stepOp P σ (b + i) (.binOp o t' x (.func yy) u)) d all b (i + 1) rest k) σ := rfl
theorem exec_binOp_nil {all b i d t p af g rest o t' x u} : exec md P n R sp (m + 1) (.gd (some true) all b i { dst := d,op := .binOp o t' x (.const (.slice none 0 0)) u,type := t,pos := p,after := af,guard := g } rest k) σ = V md P n R (.ops all b i ({ dst := d,op := .binOp o t' x (.const (.slice none 0 0)) u,type := t,pos := p,after := af,guard := g } :: rest) :: k) σ := rfl
theorem exec_unOp {all b i d t p af g rest o t' x} : exec md P n R sp (m + 1) (.gd (some true) all b i { dst := d,op := .unOp o t' x,type := t,pos := p,after := af,guard := g } rest k) σ = exec md P n R sp m (.res (stepOp P σ (b + i) (.unOp o t' x)) d all b (i + 1) rest k) σ := rfl
theorem exec_convert {all b i d t p af g rest s d' x} : exec md P n R sp (m + 1) (.gd (some true) all b i { dst := d,op := .convert s d' x,type := t,pos := p,after := af,guard := g } rest k) σ = exec md P n R sp m (.res (stepOp P σ (b + i) (.convert s d' x)) d all b (i + 1) rest k) σ := rfl
theorem exec_makeFunc {all b i d t p af g rest f a c} : exec md P n R sp (m + 1) (.gd (some true) all b i { dst := d,op := .makeFunc f a c,type := t,pos := p,after := af,guard := g } rest k) σ = exec md P n R sp m (.res (stepOp P σ (b + i) (.makeFunc f a c)) d all b (i + 1) rest k) σ := rfl
theorem exec_makeSlice {all b i d t p af g rest t' l c} : exec md P n R sp (m + 1) (.gd (some true) all b i { dst := d,op := .makeSlice t' l c,type := t,pos := p,after := af,guard := g } rest k) σ = exec md P n R sp m (.res (stepOp P σ (b + i) (.makeSlice t' l c)) d all b (i + 1) rest k) σ := rfl
theorem exec_slice {all b i d t p af g rest t' x l h m'} : exec md P n R sp (m + 1) (.gd (some true) all b i { dst := d,op := .slice t' x l h m',type := t,pos := p,after := af,guard := g } rest k) σ = exec md P n R sp m (.res (stepOp P σ (b + i) (.slice t' x l h m')) d all b (i + 1) rest k) σ := rfl
theorem exec_fieldAddr {all b i d t p af g rest t' x f} : exec md P n R sp (m + 1) (.gd (some true) all b i { dst := d,op := .fieldAddr t' x f,type := t,pos := p,after := af,guard := g } rest k) σ = exec md P n R sp m (.res (stepOp P σ (b + i) (.fieldAddr t' x f)) d all b (i + 1) rest k) σ := rfl
theorem exec_field {all b i d t p af g rest t' x f} : exec md P n R sp (m + 1) (.gd (some true) all b i { dst := d,op := .field t' x f,type := t,pos := p,after := af,guard := g } rest k) σ = exec md P n R sp m (.res (stepOp P σ (b + i) (.field t' x f)) d all b (i + 1) rest k) σ := rfl
theorem exec_indexAddr {all b i d t p af g rest t' x j} : exec md P n R sp (m + 1) (.gd (some true) all b i { dst := d,op := .indexAddr t' x j,type := t,pos := p,after := af,guard := g } rest k) σ = exec md P n R sp m (.res (stepOp P σ (b + i) (.indexAddr t' x j)) d all b (i + 1) rest k) σ := rfl
theorem exec_index {all b i d t p af g rest t' x j} : exec md P n R sp (m + 1) (.gd (some true) all b i { dst := d,op := .index t' x j,type := t,pos := p,after := af,guard := g } rest k) σ = exec md P n R sp m (.res (stepOp P σ (b + i) (.index t' x j)) d all b (i + 1) rest k) σ := rfl
theorem exec_extract {all b i d t p af g rest x j} : exec md P n R sp (m + 1) (.gd (some true) all b i { dst := d,op := .extract x j,type := t,pos := p,after := af,guard := g } rest k) σ = exec md P n R sp m (.res (stepOp P σ (b + i) (.extract x j)) d all b (i + 1) rest k) σ := rfl
theorem exec_makeMap {all b i d t p af g rest t' r} : exec md P n R sp (m + 1) (.gd (some true) all b i { dst := d,op := .makeMap t' r,type := t,pos := p,after := af,guard := g } rest k) σ = exec md P n R sp m (.res (stepOp P σ (b + i) (.makeMap t' r)) d all b (i + 1) rest k) σ := rfl
theorem exec_lookup {all b i d t p af g rest t' x j c} : exec md P n R sp (m + 1) (.gd (some true) all b i { dst := d,op := .lookup t' x j c,type := t,pos := p,after := af,guard := g } rest k) σ = exec md P n R sp m (.res (stepOp P σ (b + i) (.lookup t' x j c)) d all b (i + 1) rest k) σ := rfl
theorem exec_mapUpdate {all b i d t p af g rest t' m' k' v} : exec md P n R sp (m + 1) (.gd (some true) all b i { dst := d,op := .mapUpdate t' m' k' v,type := t,pos := p,after := af,guard := g } rest k) σ = exec md P n R sp m (.res (stepOp P σ (b + i) (.mapUpdate t' m' k' v)) d all b (i + 1) rest k) σ := rfl
theorem exec_range {all b i d t p af g rest t' x} : exec md P n R sp (m + 1) (.gd (some true) all b i { dst := d,op := .range t' x,type := t,pos := p,after := af,guard := g } rest k) σ = exec md P n R sp m (.res (stepOp P σ (b + i) (.range t' x)) d all b (i + 1) rest k) σ := rfl
theorem exec_next {all b i d t p af g rest j s} : exec md P n R sp (m + 1) (.gd (some true) all b i { dst := d,op := .next j s,type := t,pos := p,after := af,guard := g } rest k) σ = exec md P n R sp m (.res (stepOp P σ (b + i) (.next j s)) d all b (i + 1) rest k) σ := rfl
theorem exec_builtin {all b i d t p af g rest b' xs ts} : exec md P n R sp (m + 1) (.gd (some true) all b i { dst := d,op := .call { callee := .builtin b',args := xs,argTypes := ts },type := t,pos := p,after := af,guard := g } rest k) σ = exec md P n R sp m (.res (stepOp P σ (b + i) (.call { callee := .builtin b',args := xs,argTypes := ts })) d all b (i + 1) rest k) σ := rfl
theorem exec_gdF {all b i o rest} : exec md P n R sp (m + 1) (.gd (some false) all b i o rest k) σ = (dOK n o.dst ∧ exec md P n R sp m (.its (.ops all b (i + 1) rest :: k)) (σ.put o.dst (.tup []))) := rfl
theorem exec_res {σ' v dst all b i rest} : exec md P n R sp (m + 1) (.res (some (σ',v)) dst all b i rest k) σ = (dOK n dst ∧ exec md P n R sp m (.its (.ops all b i rest :: k)) (σ'.put dst v)) := rfl
theorem exec_res_ite {c : Prop} [Decidable c] {e dst all b i rest} : exec md P n R sp (m + 1) (.res (if c then e else none) dst all b i rest k) σ = (c ∧ exec md P n R sp (m + 1) (.res e dst all b i rest k) σ) := by
 by_cases h : c <;> simp [h,exec]
theorem exec_res_choose {c : Prop} [Decidable c] {e1 e2 dst all b i rest} : exec md P n R sp (m + 1) (.res (choose2 c e1 e2) dst all b i rest k) σ = ((c → exec md P n R sp (m + 1) (.res e1 dst all b i rest k) σ) ∧ (¬c → exec md P n R sp (m + 1) (.res e2 dst all b i rest k) σ)) := by
 by_cases h : c <;> simp [h,choose2]
theorem exec_brT {x y} : exec md P n R sp (m + 1) (.br (.val (.bool true)) x y k) σ = exec md P n R sp m (.its (.code x :: k)) σ := by simp [exec]
theorem exec_brF {x y} : exec md P n R sp (m + 1) (.br (.val (.bool false)) x y k) σ = exec md P n R sp m (.its (.code y :: k)) σ := by simp [exec]
theorem exec_gd_dec {c : Prop} [Decidable c] {all b i o rest} : exec md P n R sp (m + 1) (.gd (some (decide c)) all b i o rest k) σ = ((c → exec md P n R sp (m + 1) (.gd (some true) all b i o rest k) σ) ∧ (¬c → exec md P n R sp (m + 1) (.gd (some false) all b i o rest k) σ)) := by
 by_cases h : c <;> simp [h]
theorem exec_br_dec {c : Prop} [Decidable c] {x y} : exec md P n R sp (m + 1) (.br (.val (.bool (decide c))) x y k) σ = ((c → exec md P n R sp (m + 1) (.br (.val (.bool true)) x y k) σ) ∧ (¬c → exec md P n R sp (m + 1) (.br (.val (.bool false)) x y k) σ)) := by
 by_cases h : c <;> simp [h]
theorem not_dec {c : Prop} [Decidable c] : (!decide c) = decide (¬c) := by simp
theorem and_dec {c d : Prop} [Decidable c] [Decidable d] : (decide c && decide d) = decide (c ∧ d) := by simp
theorem or_dec {c d : Prop} [Decidable c] [Decidable d] : (decide c || decide d) = decide (c ∨ d) := by simp
theorem dOK_some {t : Nat} : dOK n (some t) = (t < n) := rfl
theorem dOK_none : dOK n none = True := rfl
theorem put_some {d : Nat} {v : AV} : σ.put (some d) v = σ.set d v := rfl
theorem put_none {v : AV} : σ.put none v = σ := rfl
theorem sl_set {d t : Nat} {v : AV} : (σ.set d v).sl t = if t = d then v else σ.sl t := rfl
theorem sl_setOb {i t : Nat} {o : Ob} : (σ.setOb i o).sl t = σ.sl t := rfl
theorem ob_set {d i : Nat} {v : AV} : (σ.set d v).ob i = σ.ob i := rfl
theorem ob_setOb {i j : Nat} {o : Ob} : (σ.setOb i o).ob j = if j = i then o else σ.ob j := rfl
theorem ck_set {d : Nat} {v : AV} : (σ.set d v).ck = σ.ck := rfl
theorem ck_setOb {i : Nat} {o : Ob} : (σ.setOb i o).ck = σ.ck := rfl
theorem sl_ck {c t : Nat} : (σ.setCk c).sl t = σ.sl t := rfl
theorem ob_ck {c t : Nat} : (σ.setCk c).ob t = σ.ob t := rfl
theorem ck_ck {c : Nat} : (σ.setCk c).ck = c := rfl
theorem sl_lit_nil {os : List Ob} {c t : Nat} : (litSt [] os c).sl t = .any := rfl
theorem sl_lit {t' : Nat} {v : AV} {ls : List (Nat × AV)} {os : List Ob} {c t : Nat} : (litSt ((t',v) :: ls) os c).sl t = if t' = t then v else (litSt ls os c).sl t := by
 simp only [litSt,List.find?_cons]
 by_cases h : t' = t
 ·simp [h]
 ·have h' : (t' == t) = false := by simpa using h
  simp [h,h']
theorem ob_lit_nil {ls : List (Nat × AV)} {c i : Nat} : (litSt ls [] c).ob i = .free := by simp [litSt]
theorem ob_lit_zero {ls : List (Nat × AV)} {o : Ob} {os : List Ob} {c : Nat} : (litSt ls (o :: os) c).ob 0 = o := by simp [litSt]
theorem ob_lit_succ {ls : List (Nat × AV)} {o : Ob} {os : List Ob} {c i : Nat} : (litSt ls (o :: os) c).ob (i + 1) = (litSt ls os c).ob i := by simp [litSt]
theorem ck_lit {ls : List (Nat × AV)} {os : List Ob} {c : Nat} : (litSt ls os c).ck = c := rfl
theorem runs_none {all : List Oper} {d op t p af} : runs σ all { dst := d,op := op,type := t,pos := p,after := af,guard := none } = some true := rfl
theorem runs_some {all : List Oper} {d op t p af j w} : runs σ all { dst := d,op := op,type := t,pos := p,after := af,guard := some (j,w) } = gres σ all j w := rfl
theorem retSt_def {rs : List ResultVar} {r : Res} : RetSt P rs r σ = RetOK P σ rs r := rfl
theorem initSt_def {args : List Arg} : initSt args = litSt (inits 0 args) (initObs args) args.length := rfl
theorem ops_cons {p : PV} {ps : List PV} : Zv.ops (p :: ps) = .p p :: Zv.ops ps := rfl
theorem ops_nil : Zv.ops [] = [] := rfl
theorem gslot_zero {d op t p af g} {all : List Oper} : gslot ({ dst := d,op := op,type := t,pos := p,after := af,guard := g } :: all) 0 = d := rfl
theorem gslot_succ {o : Oper} {all : List Oper} {j : Nat} : gslot (o :: all) (j + 1) = gslot all j := rfl
end
attribute [go_sem] exec_res_choose
attribute [go_sem ↓] exec_nil exec_stop exec_ret exec_retl exec_seq exec_skip exec_cond exec_block exec_exit_hit exec_exit_blk exec_exit_code exec_exit_again exec_region exec_loop exec_rangeFunc exec_blk exec_again exec_opsnil exec_ops exec_call exec_move exec_assign exec_pick exec_alloc exec_box exec_build exec_buildSlice exec_load exec_store exec_nilCheck exec_binOp_t exec_binOp_i exec_binOp_b exec_binOp_s exec_binOp_p exec_binOp_f exec_binOp_nil exec_unOp exec_convert exec_makeFunc exec_makeSlice exec_slice exec_fieldAddr exec_field exec_indexAddr exec_index exec_extract exec_makeMap exec_lookup exec_mapUpdate exec_range exec_next exec_builtin exec_gdF exec_res exec_res_ite exec_brT exec_brF
attribute [go_sem] exec_gdF exec_brT exec_brF exec_move exec_assign exec_pick exec_alloc exec_box exec_build exec_buildSlice exec_load exec_store exec_nilCheck exec_binOp_t exec_binOp_i exec_binOp_b exec_binOp_s exec_binOp_p exec_binOp_f exec_binOp_nil exec_unOp exec_convert exec_makeFunc exec_makeSlice exec_slice exec_fieldAddr exec_field exec_indexAddr exec_index exec_extract exec_call exec_builtin exec_gd_dec exec_br_dec not_dec and_dec or_dec beq_true beq_false decide_true decide_false
attribute [go_sem] dOK_some dOK_none put_some put_none sl_set sl_setOb ob_set ob_setOb ck_set ck_setOb sl_ck ob_ck ck_ck sl_lit_nil sl_lit ob_lit_nil ob_lit_zero ob_lit_succ ck_lit runs_none runs_some
attribute [go_sem] retSt_def initSt_def ops_cons ops_nil gslot_zero gslot_succ
attribute [go_sem] List.map_cons List.map_nil List.length_cons List.length_nil List.size_toArray List.cons_append List.nil_append List.append_nil List.take_succ_cons List.take_zero List.take_nil List.drop_succ_cons List.drop_zero List.drop_nil List.getElem?_cons_zero List.getElem?_cons_succ List.getElem?_nil List.zip_cons_cons List.zip_nil_right List.zip_nil_left List.all_cons List.all_nil List.set_cons_zero List.set_cons_succ Bool.and_true Bool.true_and Bool.not_true Bool.not_false
section
variable {md : Md} {P : Program} {σ : St}
theorem isAgg_int {k n} : (PV.int k n).isAgg = false := rfl
theorem isAgg_bool {b} : (PV.bool b).isAgg = false := rfl
theorem isAgg_str {l} : (PV.str l).isAgg = false := rfl
theorem isAgg_agg {cs} : (PV.agg cs).isAgg = true := rfl
theorem isAgg_row {xs} : (PV.row xs).isAgg = false := rfl
theorem isAgg_ptr {x} : (PV.ptr x).isAgg = false := rfl
theorem isAgg_raw {v} : (PV.raw v).isAgg = false := rfl
theorem cells_raw {v} : (PV.raw v).cells = [.raw v] := rfl
theorem isAgg_nilp : PV.nilp.isAgg = false := rfl
theorem isAgg_fn {f cs} : (PV.fn f cs).isAgg = false := rfl
theorem cells_int {k n} : (PV.int k n).cells = [.int k n] := rfl
theorem cells_bool {b} : (PV.bool b).cells = [.bool b] := rfl
theorem cells_str {l} : (PV.str l).cells = [.str l] := rfl
theorem cells_agg {cs} : (PV.agg cs).cells = cs := rfl
theorem cells_row {xs} : (PV.row xs).cells = [.row xs] := rfl
theorem cells_ptr {x} : (PV.ptr x).cells = [.ptr x] := rfl
theorem cells_nilp : PV.nilp.cells = [.nilp] := rfl
theorem kd_int {k n} : (PV.int k n).kd = .int k := rfl
theorem kd_bool {b} : (PV.bool b).kd = .bool := rfl
theorem kd_str {l} : (PV.str l).kd = .str := rfl
theorem cell_val {p} : (AV.val p).cell = !p.isAgg := rfl
theorem cell_nils : AV.nils.cell = true := rfl
theorem cell_adr {i o} : (AV.adr i o).cell = true := rfl
theorem cell_ref {i} : (AV.ref i).cell = true := rfl
theorem ev_tmp {t} : σ.ev (.tmp t) = σ.sl t := rfl
theorem ev_const {v} : σ.ev (.const v) = cAV v := rfl
theorem ev_func {f} : σ.ev (.func f) = .val (.fn f []) := rfl
theorem cAV_int {k n} : cAV (.int k n) = .val (.int k n) := rfl
theorem cAV_bool {b} : cAV (.bool b) = .val (.bool b) := rfl
theorem cAV_str {s} : cAV (.string s) = .val (.str s.data.toList) := rfl
theorem cAV_nils : cAV (.slice none 0 0) = .nils := rfl
theorem cAV_nilp : cAV (.pointer none) = .val .nilp := rfl
def pvOb : Ob → Option PV
 | .row _ xs => some (.row xs)
 | .prow xs => some (.row xs)
 | _ => none
def pvAd (o : Nat) : Ob → Option PV
 | .pbox x => if o = 0 then some (.ptr x) else none
 | .box ag cs => if o = 0 then (boxPV ag cs).map .ptr else none
 | _ => none
theorem pv_val {p} : σ.pv (.val p) = some p := rfl
theorem pv_nils : σ.pv .nils = some (.row []) := rfl
theorem pv_ref {i} : σ.pv (.ref i) = pvOb (σ.ob i) := by simp only [St.pv,pvOb]; cases σ.ob i <;> rfl
theorem pv_adr {i o} : σ.pv (.adr i o) = pvAd o (σ.ob i) := by
 simp only [St.pv,pvAd]
 cases σ.ob i <;> try rfl
 simp only
 split
 ·cases boxPV _ _ <;> rfl
 ·rfl
theorem pvOb_row {e xs} : pvOb (.row e xs) = some (.row xs) := rfl
theorem pvOb_prow {xs} : pvOb (.prow xs) = some (.row xs) := rfl
theorem pvAd_pbox {o x} : pvAd o (.pbox x) = if o = 0 then some (.ptr x) else none := rfl
theorem pvAd_box {o ag cs} : pvAd o (.box ag cs) = if o = 0 then (boxPV ag cs).map .ptr else none := rfl
def pubOb (σ : St) (i : Nat) : Ob → St
 | .row _ xs => σ.setOb i (.prow xs)
 | _ => σ
def pubBx (σ : St) (i : Nat) : Option PV → St
 | some x => σ.setOb i (.pbox x)
 | none => σ
def pubAd (σ : St) (i : Nat) : Ob → St
 | .box ag cs => pubBx σ i (boxPV ag cs)
 | _ => σ
theorem pub_val {p} : σ.pub (.val p) = σ := rfl
theorem pub_nils : σ.pub .nils = σ := rfl
theorem pub_any : σ.pub .any = σ := rfl
theorem pub_ref {i} : σ.pub (.ref i) = pubOb σ i (σ.ob i) := by simp only [St.pub,pubOb]; cases σ.ob i <;> rfl
theorem pub_adr {i o} : σ.pub (.adr i o) = pubAd σ i (σ.ob i) := by
 simp only [St.pub,pubAd]
 cases σ.ob i <;> rfl
theorem pubOb_row {i e xs} : pubOb σ i (.row e xs) = σ.setOb i (.prow xs) := rfl
theorem pubOb_prow {i xs} : pubOb σ i (.prow xs) = σ := rfl
theorem pubAd_box {i ag cs} : pubAd σ i (.box ag cs) = pubBx σ i (boxPV ag cs) := rfl
theorem pubAd_pbox {i x} : pubAd σ i (.pbox x) = σ := rfl
theorem pubBx_some {i x} : pubBx σ i (some x) = σ.setOb i (.pbox x) := rfl
theorem purs_nil : purs [] = some [] := rfl
theorem purs_val {p cs} : purs (.val p :: cs) = (purs cs).map (p :: ·) := by simp only [purs,AV.pure?]; cases purs cs <;> rfl
theorem purs_nils {cs} : purs (.nils :: cs) = (purs cs).map (.row [] :: ·) := by simp only [purs,AV.pure?]; cases purs cs <;> rfl
theorem boxPV_agg {cs} : boxPV true cs = (purs cs).map .agg := by simp only [boxPV]; cases purs cs <;> rfl
theorem boxPV_one {p} : boxPV false [.val p] = some p := rfl
theorem boxPV_nils : boxPV false [.nils] = some (.row []) := rfl
def pvs2 : Option PV → Option (List PV) → Option (List PV)
 | some p,some ps => some (p :: ps)
 | _,_ => none
theorem pvs_nil : σ.pvs [] = some [] := rfl
theorem pvs_cons {c cs} : σ.pvs (c :: cs) = pvs2 (σ.pv c) (σ.pvs cs) := rfl
theorem pvs2_some {p ps} : pvs2 (some p) (some ps) = some (p :: ps) := rfl
theorem pubs_nil : σ.pubs [] = σ := rfl
theorem pubs_cons {c cs} : σ.pubs (c :: cs) = (σ.pub c).pubs cs := rfl
theorem evs_nil : σ.evs [] = [] := rfl
theorem evs_cons {x xs} : σ.evs (x :: xs) = σ.ev x :: σ.evs xs := rfl
theorem idxs_nil : idxs [] = [] := rfl
theorem idxs_cons {i x r} : idxs ((i,x) :: r) = i :: idxs r := rfl
theorem opers_nil : opers [] = [] := rfl
theorem opers_cons {i x r} : opers ((i,x) :: r) = x :: opers r := rfl
def freeOb : Ob → Bool
 | .free => true
 | _ => false
theorem isFree_eq {i} : σ.isFree i = freeOb (σ.ob i) := by simp only [St.isFree,freeOb]; cases σ.ob i <;> rfl
theorem freeOb_free : freeOb .free = true := rfl
def okOb : Ob → Bool
 | .row .. => true
 | .prow _ => true
 | _ => false
theorem okCell_val {p} : σ.okCell (.val p) = !p.isAgg := rfl
theorem okCell_nils : σ.okCell .nils = true := rfl
theorem okCell_adr {i o} : σ.okCell (.adr i o) = true := rfl
theorem okCell_ref {i} : σ.okCell (.ref i) = okOb (σ.ob i) := by simp only [St.okCell,okOb]; cases σ.ob i <;> rfl
theorem okOb_row {e xs} : okOb (.row e xs) = true := rfl
theorem okOb_prow {xs} : okOb (.prow xs) = true := rfl
def gresA (w : Bool) : AV → Option Bool
 | .val (.bool b) => some (b == w)
 | .tup [] => some false
 | _ => none
def gresS (σ : St) (w : Bool) : Option Nat → Option Bool
 | some t => gresA w (σ.sl t)
 | none => none
theorem gres_eq {all j w} : gres σ all j w = gresS σ w (gslot all j) := by
 simp only [gres,gresS]
 cases gslot all j <;> rfl
theorem gresS_some {w t} : gresS σ w (some t) = gresA w (σ.sl t) := rfl
theorem gresA_bool {w b} : gresA w (.val (.bool b)) = some (b == w) := rfl
theorem gresA_tup {w} : gresA w (.tup []) = some false := rfl
theorem step_move {i x} : stepOp P σ i (.move x) = some (σ,σ.ev x) := rfl
theorem step_assign {i x} : stepOp P σ i (.assign x) = some (σ,σ.ev x) := rfl
def pickG (σ : St) (x y : AV) : AV → Option (St × AV)
 | .val (.bool b) => some (σ,if b = true then x else y)
 | _ => none
theorem step_pick {i c x y} : stepOp P σ i (.pick c x y) = pickG σ (σ.ev x) (σ.ev y) (σ.ev c) := rfl
theorem pickG_T {x y} : pickG σ x y (.val (.bool true)) = some (σ,x) := rfl
theorem pickG_F {x y} : pickG σ x y (.val (.bool false)) = some (σ,y) := rfl
theorem pickG_bool {x y b} : pickG σ (.val (.bool x)) (.val (.bool y)) (.val (.bool b)) = some (σ,.val (.bool (bif b then x else y))) := by cases b <;> rfl
theorem bif_same {b : Bool} : (bif b then true else false) = b := by cases b <;> rfl
def allocG (σ : St) (i : Nat) : Option (List AV) → Option Bool → Option (St × AV)
 | some zs,some ag => if zs.all AV.cell = true ∧ σ.isFree i = true then some (σ.setOb i (.box ag zs),.adr i 0) else none
 | _,_ => none
theorem step_alloc {i t} : stepOp P σ i (.alloc t) = allocG σ i (zeroOf P t) (aggOf P t) := rfl
theorem allocG_some {i zs ag} : allocG σ i (some zs) (some ag) = if zs.all AV.cell = true ∧ σ.isFree i = true then some (σ.setOb i (.box ag zs),.adr i 0) else none := rfl
def boxG (σ : St) (i : Nat) (v : AV) : Option Bool → Option (St × AV)
 | some true => match v with
  | .val x => if x.isAgg = true ∧ σ.isFree i = true then some (σ.setOb i (.box true (x.cells.map .val)),.adr i 0) else none
  | .agr ps k id => if (ps.all fun p => !p.isAgg) = true ∧ k < ps.length ∧ σ.isFree i = true then some (σ.setOb i (.box true ((ps.map .val).set k (.ref id))),.adr i 0) else none
  | _ => none
 | some false => if σ.okCell v = true ∧ σ.isFree i = true then some (σ.setOb i (.box false [v]),.adr i 0) else none
 | none => none
theorem step_box {i t x} : stepOp P σ i (.box t x) = boxG σ i (σ.ev x) (aggOf P t) := by
 show stBox P σ i t (σ.ev x) = _
 unfold stBox boxG
 rfl
theorem boxG_T {i x} : boxG σ i (.val x) (some true) = if x.isAgg = true ∧ σ.isFree i = true then some (σ.setOb i (.box true (x.cells.map .val)),.adr i 0) else none := rfl
theorem boxG_A {i ps k id} : boxG σ i (.agr ps k id) (some true) = if (ps.all fun p => !p.isAgg) = true ∧ k < ps.length ∧ σ.isFree i = true then some (σ.setOb i (.box true ((ps.map .val).set k (.ref id))),.adr i 0) else none := rfl
theorem boxG_F {i v} : boxG σ i v (some false) = if σ.okCell v = true ∧ σ.isFree i = true then some (σ.setOb i (.box false [v]),.adr i 0) else none := rfl
def ldG (x : PV) (o : Nat) : Option Bool → Option Nat → Option PV
 | some ag,some n => if o = 0 ∧ x.isAgg = ag ∧ x.cells.length = n then some x else partPV ag n x.cells o
 | _,_ => none
theorem ldAt_eq {t x o} : ldAt P t x o = ldG x o (aggOf P t) (szOf P t) := by
 unfold ldAt ldG
 rfl
theorem ldG_some {x o ag n} : ldG x o (some ag) (some n) = if o = 0 ∧ x.isAgg = ag ∧ x.cells.length = n then some x else partPV ag n x.cells o := rfl
theorem partPV_T {n cs o} : partPV true n cs o = if o + n ≤ cs.length then some (.agg ((cs.drop o).take n)) else none := rfl
theorem partPV_F {n cs o} : partPV false n cs o = cs[o]? := rfl
def okV (σ : St) : Option PV → Option (St × AV)
 | some y => some (σ,.val y)
 | none => none
theorem okV_some {y} : okV σ (some y) = some (σ,.val y) := rfl
theorem okV_ite {c : Prop} [Decidable c] {e : Option PV} : okV σ (if c then e else none) = if c then okV σ e else none := by split <;> rfl
def okA (σ : St) : Option AV → Option (St × AV)
 | some y => some (σ,y)
 | none => none
theorem okA_some {y} : okA σ (some y) = some (σ,y) := rfl
theorem okA_ite {c : Prop} [Decidable c] {e : Option AV} : okA σ (if c then e else none) = if c then okA σ e else none := by split <;> rfl
def loadAgg (σ : St) (cs : List AV) : Option (List PV) → Option (St × AV)
 | some ps => if ∀ p ∈ ps,p.isAgg = false then some (σ.pubs cs,.val (.agg ps)) else none
 | none => none
def loadBox (σ : St) (o : Nat) (cs : List AV) : Option Bool → Option Nat → Option (St × AV)
 | some true,some n => if o + n ≤ cs.length then loadAgg σ ((cs.drop o).take n) (σ.pvs ((cs.drop o).take n)) else none
 | some false,some _ => okA σ (cs[o]?)
 | _,_ => none
def loadOb (P : Program) (σ : St) (t : TypeId) (o : Nat) : Ob → Option (St × AV)
 | .pbox x => okV σ (ldAt P t x o)
 | .box _ cs => loadBox σ o cs (aggOf P t) (szOf P t)
 | _ => none
def loadEl2 (P : Program) (σ : St) (t : TypeId) (sz o : Nat) : Option PV → Option (St × AV)
 | some x => if x.cells.length = sz then okV σ (ldAt P t x o) else none
 | none => none
def loadEl (P : Program) (σ : St) (t : TypeId) (sz k o : Nat) : Ob → Option (St × AV)
 | .row _ xs => loadEl2 P σ t sz o xs[k]?
 | _ => none
theorem step_load {i t x} : stepOp P σ i (.load t x) = stLoad P σ t (σ.ev x) := rfl
theorem load_ptr {t x} : stLoad P σ t (.val (.ptr x)) = okV σ (ldAt P t x 0) := by simp only [stLoad]; cases ldAt P t x 0 <;> rfl
theorem load_adr {t i o} : stLoad P σ t (.adr i o) = loadOb P σ t o (σ.ob i) := by
 simp only [stLoad]
 cases σ.ob i <;> simp only [loadOb]
 ·rename_i ag cs
  cases aggOf P t with
  | none => rfl
  | some b =>
   cases b
   ·cases szOf P t with
    | none => rfl
    | some n => simp only [loadBox]; cases cs[o]? <;> rfl
   ·cases szOf P t with
    | none => rfl
    | some n => simp only [loadBox,loadAgg]; split <;> rfl
 ·cases ldAt P t _ o <;> rfl
theorem load_ead {t i sz k o} : stLoad P σ t (.ead i sz k o) = loadEl P σ t sz k o (σ.ob i) := by
 simp only [stLoad]
 cases σ.ob i <;> simp only [loadEl]
 rename_i e xs
 cases xs[k]? with
 | none => rfl
 | some x =>
  simp only [loadEl2]
  split
  ·cases ldAt P t x o <;> rfl
  ·rfl
theorem loadOb_pbox {t o x} : loadOb P σ t o (.pbox x) = okV σ (ldAt P t x o) := rfl
theorem loadOb_box {t o ag cs} : loadOb P σ t o (.box ag cs) = loadBox σ o cs (aggOf P t) (szOf P t) := rfl
theorem loadBox_T {o cs n} : loadBox σ o cs (some true) (some n) = if o + n ≤ cs.length then loadAgg σ ((cs.drop o).take n) (σ.pvs ((cs.drop o).take n)) else none := rfl
theorem loadBox_F {o cs n} : loadBox σ o cs (some false) (some n) = okA σ (cs[o]?) := rfl
theorem loadAgg_some {cs ps} : loadAgg σ cs (some ps) = if ∀ p ∈ ps,p.isAgg = false then some (σ.pubs cs,.val (.agg ps)) else none := rfl
theorem loadEl_row {t sz k o e xs} : loadEl P σ t sz k o (.row e xs) = loadEl2 P σ t sz o xs[k]? := rfl
theorem loadEl2_some {t sz o x} : loadEl2 P σ t sz o (some x) = if x.cells.length = sz then okV σ (ldAt P t x o) else none := rfl
def okS : Option St → Option (St × AV)
 | some s => some (s,.any)
 | none => none
theorem okS_some {s} : okS (some s) = some (s,.any) := rfl
theorem okS_ite {c : Prop} [Decidable c] {e : Option St} : okS (if c then e else none) = if c then okS e else none := by split <;> rfl
theorem step_store {i t x y} : stepOp P σ i (.store t x y) = okS (stStore P σ t (σ.ev x) (σ.ev y)) := by
 show (match stStore P σ t (σ.ev x) (σ.ev y) with | some σ' => some (σ',AV.any) | none => none) = _
 cases stStore P σ t (σ.ev x) (σ.ev y) <;> rfl
def storeAgg (σ : St) (i o n : Nat) (ag : Bool) (cs : List AV) : AV → Option St
 | .val x => if x.isAgg = true ∧ x.cells.length = n ∧ o + n ≤ cs.length then some (σ.setOb i (.box ag (cs.take o ++ x.cells.map .val ++ cs.drop (o + n)))) else none
 | _ => none
def storeBox (σ : St) (i o : Nat) (ag : Bool) (cs : List AV) (v : AV) : Option Bool → Option Nat → Option St
 | some true,some n => storeAgg σ i o n ag cs v
 | some false,some n => if n = 1 ∧ o < cs.length ∧ σ.okCell v = true then some (σ.setOb i (.box ag (cs.set o v))) else none
 | _,_ => none
def storeOb (P : Program) (σ : St) (t : TypeId) (i o : Nat) (v : AV) : Ob → Option St
 | .box ag cs => storeBox σ i o ag cs v (aggOf P t) (szOf P t)
 | _ => none
def storeFin (σ : St) (i k : Nat) (e : TypeId) (xs : List PV) : Option PV → Option St
 | some y => some (σ.setOb i (.row e (xs.set k y)))
 | none => none
def storeEl2 (σ : St) (i sz k o : Nat) (e : TypeId) (xs : List PV) : Option PV → Option Bool → Option Nat → Option PV → Option St
 | some x,some ag,some n,some q => storeFin σ i k e xs (stElem ag n sz x q o)
 | _,_,_,_ => none
def storeEl (P : Program) (σ : St) (t : TypeId) (i sz k o : Nat) (q : Option PV) : Ob → Option St
 | .row e xs => storeEl2 σ i sz k o e xs xs[k]? (aggOf P t) (szOf P t) q
 | _ => none
theorem store_adr {t i o v} : stStore P σ t (.adr i o) v = storeOb P σ t i o v (σ.ob i) := by
 simp only [stStore]
 cases σ.ob i <;> simp only [storeOb]
 cases aggOf P t with
 | none => rfl
 | some b =>
  cases b <;> cases szOf P t <;> simp only [storeBox]
  cases v <;> rfl
theorem store_ead {t i sz k o v} : stStore P σ t (.ead i sz k o) v = storeEl P (σ.pub v) t i sz k o (σ.pv v) ((σ.pub v).ob i) := by
 simp only [stStore]
 cases (σ.pub v).ob i <;> simp only [storeEl]
 rename_i e xs
 cases xs[k]? <;> cases aggOf P t <;> cases szOf P t <;> cases σ.pv v <;> simp only [storeEl2]
 rename_i x ag n q
 cases stElem ag n sz x q o <;> rfl
theorem storeOb_box {t i o v ag cs} : storeOb P σ t i o v (.box ag cs) = storeBox σ i o ag cs v (aggOf P t) (szOf P t) := rfl
theorem storeBox_T {i o ag cs x n} : storeBox σ i o ag cs (.val x) (some true) (some n) = if x.isAgg = true ∧ x.cells.length = n ∧ o + n ≤ cs.length then some (σ.setOb i (.box ag (cs.take o ++ x.cells.map .val ++ cs.drop (o + n)))) else none := rfl
theorem storeBox_F {i o ag cs v n} : storeBox σ i o ag cs v (some false) (some n) = if n = 1 ∧ o < cs.length ∧ σ.okCell v = true then some (σ.setOb i (.box ag (cs.set o v))) else none := rfl
theorem storeEl_row {t i sz k o q e xs} : storeEl P σ t i sz k o q (.row e xs) = storeEl2 σ i sz k o e xs xs[k]? (aggOf P t) (szOf P t) q := rfl
theorem storeEl2_some {i sz k o e xs x ag n q} : storeEl2 σ i sz k o e xs (some x) (some ag) (some n) (some q) = storeFin σ i k e xs (stElem ag n sz x q o) := rfl
theorem storeFin_some {i k e xs y} : storeFin σ i k e xs (some y) = some (σ.setOb i (.row e (xs.set k y))) := rfl
theorem stElem_def {ag n sz x q o} : stElem ag n sz x q o = if x.cells.length = sz then
  (if o = 0 ∧ n = sz ∧ q.cells.length = sz ∧ q.isAgg = ag then some q
  else if ag = false ∧ q.isAgg = false ∧ n = 1 ∧ x.isAgg = true ∧ o < sz then some (.agg (x.cells.set o q)) else none)
 else none := rfl
def bld3 (σ : St) (evs : List AV) : Option (List PV) → Option (St × AV)
 | some cs => some (σ.pubs evs,.val (.agg cs))
 | none => none
def bld2 (σ : St) (evs : List AV) (ag : Option Bool) (idx : List Nat) (places : List (Nat × Nat)) (ps : List PV) : Option (List PV) → Option (St × AV)
 | some z => if (∀ p ∈ z,p.isAgg = false) ∧ ag = some true then bld3 σ evs (fillP places z (idx.zip ps)) else none
 | none => none
def bld1 (σ : St) (evs : List AV) (ag : Option Bool) (idx : List Nat) : Option (List AV) → Option (List (Nat × Nat)) → Option (List PV) → Option (St × AV)
 | some zs,some places,some ps => bld2 σ evs ag idx places ps (purs zs)
 | _,_,_ => none
theorem step_build {i t parts} : stepOp P σ i (.build t parts) = bld1 σ (σ.evs (opers parts.toList)) (aggOf P t) (idxs parts.toList) (zeroOf P t) (plOf P t) (σ.pvs (σ.evs (opers parts.toList))) := by
 show stBuild P σ t parts.toList = _
 unfold stBuild
 cases zeroOf P t <;> cases plOf P t <;> cases σ.pvs (σ.evs (opers parts.toList)) <;> simp only [bld1]
 rename_i zs places ps
 cases purs zs <;> simp only [bld2]
 rename_i z
 cases fillP places z ((idxs parts.toList).zip ps) <;> simp only [bld3]
 split <;> rfl
theorem bld1_some {evs ag idx zs places ps} : bld1 σ evs ag idx (some zs) (some places) (some ps) = bld2 σ evs ag idx places ps (purs zs) := rfl
theorem bld2_some {evs ag idx places ps z} : bld2 σ evs ag idx places ps (some z) = if (∀ p ∈ z,p.isAgg = false) ∧ ag = some true then bld3 σ evs (fillP places z (idx.zip ps)) else none := rfl
theorem bld3_some {evs cs} : bld3 σ evs (some cs) = some (σ.pubs evs,.val (.agg cs)) := rfl
theorem fillP_nil {places cs} : fillP places cs [] = some cs := rfl
def fill2 (places : List (Nat × Nat)) (cs : List PV) (p : PV) (rest : List (Nat × PV)) : Option (Nat × Nat) → Option (List PV)
 | some (o,n) => if p.cells.length = n ∧ o + n ≤ cs.length then fillP places (cs.take o ++ p.cells ++ cs.drop (o + n)) rest else none
 | none => none
theorem fillP_cons {places cs i p rest} : fillP places cs ((i,p) :: rest) = fill2 places cs p rest places[i]? := by
 simp only [fillP,fill2]
 cases places[i]? <;> rfl
theorem fill2_some {places cs p rest o n} : fill2 places cs p rest (some (o,n)) = if p.cells.length = n ∧ o + n ≤ cs.length then fillP places (cs.take o ++ p.cells ++ cs.drop (o + n)) rest else none := rfl
def bsl2 (σ : St) (i : Nat) (e : TypeId) (evs : List AV) (idx : List Nat) (len : Nat) (z : Option (List AV)) : Option Nat → Option (List PV) → Option (St × AV)
 | some sz,some ps => if 0 < sz ∧ len * sz ≤ 16777216 ∧ idx = List.range len ∧ (∀ p ∈ ps,p.cells.length = sz) ∧ z.isSome = true ∧ σ.isFree i = true then some ((σ.pubs evs).setOb i (.row e ps),.ref i) else none
 | _,_ => none
def bsl1 (P : Program) (σ : St) (i : Nat) (evs : List AV) (idx : List Nat) (len : Nat) : Option TypeId → Option (St × AV)
 | some e => bsl2 σ i e evs idx len (zeroOf P e) (szOf P e) (σ.pvs evs)
 | none => none
theorem step_buildSlice {i t len parts} : stepOp P σ i (.buildSlice t len parts) = bsl1 P σ i (σ.evs (opers parts.toList)) (idxs parts.toList) len (elOf P t) := by
 show stBuildSlice P σ i t len parts.toList = _
 unfold stBuildSlice
 cases elOf P t <;> simp only [bsl1]
 rename_i e
 cases szOf P e <;> cases σ.pvs (σ.evs (opers parts.toList)) <;> simp only [bsl2]
theorem bsl1_some {i evs idx len e} : bsl1 P σ i evs idx len (some e) = bsl2 σ i e evs idx len (zeroOf P e) (szOf P e) (σ.pvs evs) := rfl
theorem bsl2_some {i e evs idx len z sz ps} : bsl2 σ i e evs idx len z (some sz) (some ps) = if 0 < sz ∧ len * sz ≤ 16777216 ∧ idx = List.range len ∧ (∀ p ∈ ps,p.cells.length = sz) ∧ z.isSome = true ∧ σ.isFree i = true then some ((σ.pubs evs).setOb i (.row e ps),.ref i) else none := rfl
def app3 (σ : St) (i j : Nat) (e : TypeId) (ys : List PV) (nb : Nat) : Ob → Option (St × AV)
 | .row e' xs => if e' = e ∧ (xs.length + ys.length) * nb ≤ 140737488355328 ∧ xs.length + ys.length ≤ 4611686018427387904 then some ((σ.setOb j .gone).setOb i (.row e (xs ++ ys)),.ref i) else none
 | _ => none
def app2 (σ : St) (i : Nat) (e : TypeId) (ys : List PV) (nb : Nat) : AV → Option (St × AV)
 | .nils => if ys.length * nb ≤ 140737488355328 ∧ ys.length ≤ 4611686018427387904 then some (σ.setOb i (.row e ys),.ref i) else none
 | .ref j => app3 σ i j e ys nb (σ.ob j)
 | _ => none
def app1 (σ : St) (i : Nat) (t t2 e : TypeId) (s : AV) (z : Option (List AV)) : Option Nat → Option Nat → Option PV → Option (St × AV)
 | some sz,some nb,some (.row ys) => if t2 = t ∧ 0 < sz ∧ (∀ y ∈ ys,y.cells.length = sz) ∧ z.map List.length = some sz ∧ σ.isFree i = true then app2 σ i e ys nb s else none
 | _,_,_ => none
def app0 (P : Program) (σ : St) (i : Nat) (t t2 : TypeId) (s x : AV) : Option TypeId → Option (St × AV)
 | some e => app1 σ i t t2 e s (zeroOf P e) (szOf P e) (byOf P e) (σ.pv x)
 | none => none
theorem append_eq {i t t2 s x} : stAppend P σ i t t2 s x = app0 P σ i t t2 s x (elOf P t) := by
 unfold stAppend
 cases elOf P t <;> simp only [app0]
 rename_i e
 cases szOf P e <;> cases byOf P e <;> cases σ.pv x <;> simp only [app1]
 rename_i sz nb p
 cases p <;> simp only [app1]
 split
 ·cases s <;> simp only [app2]
  rename_i j
  cases σ.ob j <;> rfl
 ·rfl
theorem app0_some {i t t2 s x e} : app0 P σ i t t2 s x (some e) = app1 σ i t t2 e s (zeroOf P e) (szOf P e) (byOf P e) (σ.pv x) := rfl
theorem app1_some {i t t2 e s z sz nb ys} : app1 σ i t t2 e s z (some sz) (some nb) (some (.row ys)) = if t2 = t ∧ 0 < sz ∧ (∀ y ∈ ys,y.cells.length = sz) ∧ z.map List.length = some sz ∧ σ.isFree i = true then app2 σ i e ys nb s else none := rfl
theorem app2_nils {i e ys nb} : app2 σ i e ys nb .nils = if ys.length * nb ≤ 140737488355328 ∧ ys.length ≤ 4611686018427387904 then some (σ.setOb i (.row e ys),.ref i) else none := rfl
theorem app2_ref {i e ys nb j} : app2 σ i e ys nb (.ref j) = app3 σ i j e ys nb (σ.ob j) := rfl
theorem app3_row {i j e ys nb e' xs} : app3 σ i j e ys nb (.row e' xs) = if e' = e ∧ (xs.length + ys.length) * nb ≤ 140737488355328 ∧ xs.length + ys.length ≤ 4611686018427387904 then some ((σ.setOb j .gone).setOb i (.row e (xs ++ ys)),.ref i) else none := rfl
def fld2 (v : AV) (o : Nat) : Option Nat → Option Bool → Option AV
 | some n,some ag => if 0 < n then match v with
    | .val (.ptr x) => (partPV ag n x.cells o).map (fun y => .val (.ptr y))
    | .adr i k => some (.adr i (k + o))
    | .ead i sz j k => some (.ead i sz j (k + o))
    | _ => none else none
 | _,_ => none
def fld1 (P : Program) (v : AV) : Option (Nat × TypeId) → Option AV
 | some (o,ft) => fld2 v o (szOf P ft) (aggOf P ft)
 | none => none
theorem step_fieldAddr {i t x f} : stepOp P σ i (.fieldAddr t x f) = okA σ (fld1 P (σ.ev x) (fldOf P t f)) := by
 show (match stField P t f (σ.ev x) with | some v => some (σ,v) | none => none) = _
 have e : stField P t f (σ.ev x) = fld1 P (σ.ev x) (fldOf P t f) := by
  unfold stField
  cases fldOf P t f <;> simp only [fld1]
  rename_i y
  obtain ⟨o,ft⟩ := y
  cases szOf P ft <;> cases aggOf P ft <;> simp only [fld2]
  rename_i n ag
  split
  ·generalize σ.ev x = v
   cases v <;> try rfl
   rename_i p
   cases p <;> try rfl
   rename_i y
   simp only
   cases partPV ag n y.cells o <;> rfl
  ·rfl
 rw [e]
 cases fld1 P (σ.ev x) (fldOf P t f) <;> rfl
theorem fld1_some {v o ft} : fld1 P v (some (o,ft)) = fld2 v o (szOf P ft) (aggOf P ft) := rfl
theorem fld2_ptr {x o n ag} : fld2 (.val (.ptr x)) o (some n) (some ag) = if 0 < n then (partPV ag n x.cells o).map (fun y => .val (.ptr y)) else none := rfl
theorem fld2_adr {i k o n ag} : fld2 (.adr i k) o (some n) (some ag) = if 0 < n then some (.adr i (k + o)) else none := rfl
theorem fld2_ead {i sz j k o n ag} : fld2 (.ead i sz j k) o (some n) (some ag) = if 0 < n then some (.ead i sz j (k + o)) else none := rfl
def idx4 (sz : Nat) : Option PV → Option AV
 | some x => if x.cells.length = sz then some (.val (.ptr x)) else none
 | none => none
def idx5 (j sz k : Nat) : Option PV → Option AV
 | some x => if x.cells.length = sz then some (.ead j sz k 0) else none
 | none => none
def idx3 (j k sz : Nat) : Ob → Option AV
 | .row _ xs => idx5 j sz k xs[k]?
 | .prow xs => idx4 sz xs[k]?
 | _ => none
def idx2 (σ : St) (k : Nat) (v : AV) : Option Nat → Option AV
 | some sz => match v with
  | .ref j => idx3 j k sz (σ.ob j)
  | .val (.row xs) => idx4 sz xs[k]?
  | _ => none
 | none => none
def idx1 (P : Program) (σ : St) (k : Nat) (v : AV) : Option TypeId → Option AV
 | some e => idx2 σ k v (szOf P e)
 | none => none
def idx0 (P : Program) (σ : St) (t : TypeId) (v : AV) : AV → Option AV
 | .val (.int _ n) => if 0 ≤ n then idx1 P σ n.toNat v (elOf P t) else none
 | _ => none
theorem step_indexAddr {i t x y} : stepOp P σ i (.indexAddr t x y) = okA σ (idx0 P σ t (σ.ev x) (σ.ev y)) := by
 show (match stIdx P σ t (σ.ev x) (σ.ev y) with | some v => some (σ,v) | none => none) = _
 have e : stIdx P σ t (σ.ev x) (σ.ev y) = idx0 P σ t (σ.ev x) (σ.ev y) := by
  unfold stIdx
  generalize σ.ev x = v
  generalize σ.ev y = u
  cases u <;> try rfl
  rename_i p
  cases p <;> try rfl
  simp only [idx0]
  split
  ·cases elOf P t <;> simp only [idx1]
   rename_i e
   cases szOf P e <;> simp only [idx2]
   cases v <;> try rfl
   ·rename_i p
    cases p <;> try rfl
  ·rfl
 rw [e]
 cases idx0 P σ t (σ.ev x) (σ.ev y) <;> rfl
theorem idx0_int {t v k n} : idx0 P σ t v (.val (.int k n)) = if 0 ≤ n then idx1 P σ n.toNat v (elOf P t) else none := rfl
theorem idx1_some {k v e} : idx1 P σ k v (some e) = idx2 σ k v (szOf P e) := rfl
theorem idx2_ref {k j sz} : idx2 σ k (.ref j) (some sz) = idx3 j k sz (σ.ob j) := rfl
theorem idx2_row {k xs sz} : idx2 σ k (.val (.row xs)) (some sz) = idx4 sz xs[k]? := rfl
theorem idx3_row {j k sz e xs} : idx3 j k sz (.row e xs) = idx5 j sz k xs[k]? := rfl
theorem idx3_prow {j k sz xs} : idx3 j k sz (.prow xs) = idx4 sz xs[k]? := rfl
theorem idx4_some {sz x} : idx4 sz (some x) = if x.cells.length = sz then some (.val (.ptr x)) else none := rfl
theorem idx5_some {j sz k x} : idx5 j sz k (some x) = if x.cells.length = sz then some (.ead j sz k 0) else none := rfl
noncomputable def bin2 (P : Program) (σ : St) (op : BinOp) (t : TypeId) : AV → AV → Option (St × AV)
 | .val p,.val q => okV σ (binPV P op t p q)
 | _,_ => none
theorem step_binOp {i op t x y u} : stepOp P σ i (.binOp op t x y u) = bin2 P σ op t (σ.ev x) (σ.ev y) := by
 show (match σ.ev x,σ.ev y with | .val p,.val q => (match binPV P op t p q with | some r => some (σ,AV.val r) | none => none) | _,_ => none) = _
 cases σ.ev x <;> cases σ.ev y <;> rfl
theorem bin2_val {op t p q} : bin2 P σ op t (.val p) (.val q) = okV σ (binPV P op t p q) := rfl
theorem bin_add {t k x y} : binPV P .add t (.int k x) (.int k y) = some (.int k (k.wrap (x + y))) := by simp [binPV]
theorem bin_sub {t k x y} : binPV P .sub t (.int k x) (.int k y) = some (.int k (k.wrap (x - y))) := by simp [binPV]
theorem bin_mul {t k x y} : binPV P .mul t (.int k x) (.int k y) = some (.int k (k.wrap (x * y))) := by simp [binPV]
theorem bin_quo {t k x y} : binPV P .quo t (.int k x) (.int k y) = if y ≠ 0 then some (.int k (k.wrap (x.tdiv y))) else none := by simp [binPV]
theorem bin_rem {t k x y} : binPV P .rem t (.int k x) (.int k y) = if y ≠ 0 then some (.int k (x.tmod y)) else none := by simp [binPV]
theorem bin_shr {t k k' x y} : binPV P .shr t (.int k x) (.int k' y) = if 0 ≤ y then some (.int k (x / 2 ^ min y.toNat k.bits)) else none := rfl
theorem bin_shl {t k k' x y} : binPV P .shl t (.int k x) (.int k' y) = if 0 ≤ y then some (.int k (k.wrap (x * 2 ^ min y.toNat k.bits))) else none := rfl
theorem bin_or {t k x y} : binPV P .or t (.int k x) (.int k y) = some (.int k (k.wrap (orI k x y))) := by simp [binPV,orI]
theorem bin_eql {t k x y} : binPV P .eql t (.int k x) (.int k y) = some (.bool (decide (x = y))) := by simp [binPV]
theorem bin_neq {t k x y} : binPV P .neq t (.int k x) (.int k y) = some (.bool (!decide (x = y))) := by simp [binPV]
theorem bin_lss {t k x y} : binPV P .lss t (.int k x) (.int k y) = some (.bool (decide (x < y))) := by simp [binPV]
theorem bin_leq {t k x y} : binPV P .leq t (.int k x) (.int k y) = some (.bool (decide (x ≤ y))) := by simp [binPV]
theorem bin_gtr {t k x y} : binPV P .gtr t (.int k x) (.int k y) = some (.bool (decide (y < x))) := by simp [binPV]
theorem bin_geq {t k x y} : binPV P .geq t (.int k x) (.int k y) = some (.bool (decide (y ≤ x))) := by simp [binPV]
theorem bin_cat {t a b} : binPV P .add t (.str a) (.str b) = if a.length + b.length ≤ 4611686018427387904 then some (.str (a ++ b)) else none := rfl
theorem bin_eqs {t a b} : binPV P .eql t (.str a) (.str b) = some (.bool (decide (a = b))) := rfl
theorem bin_nes {t a b} : binPV P .neq t (.str a) (.str b) = some (.bool (!decide (a = b))) := rfl
theorem bin_lts {t a b} : binPV P .lss t (.str a) (.str b) = some (.bool (decide (slt a b))) := by cases h : strLt a b <;> simp [binPV,slt,h]
theorem bin_les {t a b} : binPV P .leq t (.str a) (.str b) = some (.bool (decide (slt a b ∨ a = b))) := by cases h : strLt a b <;> simp [binPV,slt,h]
theorem bin_gts {t a b} : binPV P .gtr t (.str a) (.str b) = some (.bool (decide (¬ (slt a b ∨ a = b)))) := by by_cases h : a = b <;> simp [binPV,slt,h]
theorem bin_ges {t a b} : binPV P .geq t (.str a) (.str b) = some (.bool (decide (¬ slt a b))) := by simp [binPV,slt]
theorem bin_eqb {t a b} : binPV P .eql t (.bool a) (.bool b) = if P.underlying t = some .bool then some (.bool (a == b)) else none := rfl
theorem bin_neb {t a b} : binPV P .neq t (.bool a) (.bool b) = if P.underlying t = some .bool then some (.bool (!(a == b))) else none := rfl
theorem bin_eqa {t ps qs} : binPV P .eql t (.agg ps) (.agg qs) = if EqT P t (ps.map PV.kd) ∧ qs.map PV.kd = ps.map PV.kd then some (.bool (decide (PV.agg ps = PV.agg qs))) else none := by simp [binPV,PV.isAgg,PV.cells]
theorem bin_nea {t ps qs} : binPV P .neq t (.agg ps) (.agg qs) = if EqT P t (ps.map PV.kd) ∧ qs.map PV.kd = ps.map PV.kd then some (.bool (!decide (PV.agg ps = PV.agg qs))) else none := by simp [binPV,PV.isAgg,PV.cells]
def notG (σ : St) : AV → Option (St × AV)
 | .val (.bool b) => some (σ,.val (.bool (!b)))
 | _ => none
theorem step_not {i t x} : stepOp P σ i (.unOp .not t x) = notG σ (σ.ev x) := by
 show (match UnOp.not,σ.ev x with | .not,.val (.bool b) => some (σ,AV.val (.bool (!b))) | .neg,.val (.int k n) => some (σ,.val (.int k (k.wrap (0 - n)))) | _,_ => none) = _
 cases σ.ev x <;> try rfl
 rename_i p
 cases p <;> rfl
theorem notG_bool {b} : notG σ (.val (.bool b)) = some (σ,.val (.bool (!b))) := rfl
theorem step_builtin {i b xs ts} : stepOp P σ i (.call { callee := .builtin b,args := xs,argTypes := ts }) = stBuiltin2 P σ i b (σ.evs xs.toList) ts.toList := rfl
theorem b2_str {i b l ts} : stBuiltin2 P σ i b [.val (.str l)] ts = stBuiltin P σ i b [.val (.str l)] ts := rfl
theorem b2_row {i b l ts} : stBuiltin2 P σ i b [.val (.row l)] ts = stBuiltin P σ i b [.val (.row l)] ts := rfl
theorem b2_rowp {i b l ts} : stBuiltin2 P σ i b [.val (.rowp l)] ts = stBuiltin P σ i b [.val (.row l)] ts := rfl
theorem b2_nils {i b ts} : stBuiltin2 P σ i b [.nils] ts = stBuiltin P σ i b [.nils] ts := rfl
theorem b2_ref {i b j ts} : stBuiltin2 P σ i b [.ref j] ts = stBuiltin P σ i b [.ref j] ts := rfl
theorem b2_vw {i b id sz l n ts} : stBuiltin2 P σ i b [.vw id sz l n] ts = stB1 P σ b id sz l n ts := rfl
noncomputable def b2y (P : Program) (σ : St) (i : Nat) (b : Builtin) (ts : List TypeId) (x : AV) : AV → Option (St × AV)
 | .val (.rowp zs) => stBuiltin P σ i b [x,.val (.row zs)] ts
 | y => stBuiltin P σ i b [x,y] ts
noncomputable def b2x (P : Program) (σ : St) (i : Nat) (b : Builtin) (ts : List TypeId) (y : AV) : AV → Option (St × AV)
 | .vw id sz l n => stB2 P σ i b id sz l n y ts
 | x => b2y P σ i b ts x y
theorem b2_two {i b x y ts} : stBuiltin2 P σ i b [x,y] ts = b2x P σ i b ts y x := by
 cases x with
 | vw _ _ _ _ => rfl
 | val p => cases y with
  | val q => cases p <;> cases q <;> rfl
  | _ => cases p <;> rfl
 | _ => cases y with
  | val q => cases q <;> rfl
  | _ => rfl
theorem b2x_vw {i b ts y id sz l n} : b2x P σ i b ts y (.vw id sz l n) = stB2 P σ i b id sz l n y ts := rfl
theorem b2x_val {i b ts y p} : b2x P σ i b ts y (.val p) = b2y P σ i b ts (.val p) y := rfl
theorem b2x_nils {i b ts y} : b2x P σ i b ts y .nils = b2y P σ i b ts .nils y := rfl
theorem b2x_ref {i b ts y j} : b2x P σ i b ts y (.ref j) = b2y P σ i b ts (.ref j) y := rfl
theorem b2y_rowp {i b ts x zs} : b2y P σ i b ts x (.val (.rowp zs)) = stBuiltin P σ i b [x,.val (.row zs)] ts := rfl
theorem b2y_row {i b ts x zs} : b2y P σ i b ts x (.val (.row zs)) = stBuiltin P σ i b [x,.val (.row zs)] ts := rfl
theorem b2y_int {i b ts x k n} : b2y P σ i b ts x (.val (.int k n)) = stBuiltin P σ i b [x,.val (.int k n)] ts := rfl
theorem b2y_str {i b ts x l} : b2y P σ i b ts x (.val (.str l)) = stBuiltin P σ i b [x,.val (.str l)] ts := rfl
theorem b2y_nils {i b ts x} : b2y P σ i b ts x .nils = stBuiltin P σ i b [x,.nils] ts := rfl
theorem b2y_ref {i b ts x j} : b2y P σ i b ts x (.ref j) = stBuiltin P σ i b [x,.ref j] ts := rfl
def lenV (σ : St) (n : Nat) : Option TypeId → Option (St × AV)
 | some _ => some (σ,.val (.int .i64 n))
 | none => none
theorem b1_len {id sz l n t} : stB1 P σ .len id sz l n [t] = lenV σ n (elOf P t) := by
 simp only [stB1,lenV]
 cases elOf P t <;> rfl
theorem lenV_some {n e} : lenV σ n (some e) = some (σ,.val (.int .i64 n)) := rfl
def capV (σ : St) (l : Nat) : Ob → Option TypeId → Option (St × AV)
 | .rowk _ xs k,some _ => if l ≤ xs.length + k then some (σ,.val (.int .i64 (xs.length + k - l : Nat))) else none
 | _,_ => none
theorem b1_cap {id sz l n t} : stB1 P σ .cap id sz l n [t] = capV σ l (σ.ob id) (elOf P t) := by
 simp only [stB1,capV]
 cases elOf P t <;> cases σ.ob id <;> rfl
theorem capV_some {l e xs k e'} : capV σ l (.rowk e xs k) (some e') = if l ≤ xs.length + k then some (σ,.val (.int .i64 (xs.length + k - l : Nat))) else none := rfl
theorem b1_clear {id sz l n t} : stB1 P σ .clear id sz l n [t] = stClearV P σ t id sz l n := rfl
theorem b2_copy {i id sz l n y t t2} : stB2 P σ i .copy id sz l n y [t,t2] = stCopyV P σ t id sz l n y := rfl
theorem b2_appz {i id sz l n k q t t2} : stB2 P σ i .append id sz l n (.val (.int k q)) [t,t2] = stAppendZ P σ i t t2 id sz l n q := rfl
theorem b2_appvw {i id sz l n a b c d t t2} : stB2 P σ i .append id sz l n (.vw a b c d) [t,t2] = stAppVG P σ i t t2 id sz l n (.vw a b c d) := rfl
theorem b2_appr {i id sz l n zs t t2} : stB2 P σ i .append id sz l n (.val (.row zs)) [t,t2] = stAppVG P σ i t t2 id sz l n (.val (.row zs)) := rfl
theorem b2_apprp {i id sz l n zs t t2} : stB2 P σ i .append id sz l n (.val (.rowp zs)) [t,t2] = stAppVG P σ i t t2 id sz l n (.val (.rowp zs)) := rfl
theorem b2_appn {i id sz l n t t2} : stB2 P σ i .append id sz l n .nils [t,t2] = stAppVG P σ i t t2 id sz l n .nils := rfl
noncomputable def zpv3 (sz : Nat) (ag : Bool) : Option (List PV) → Option PV
 | some cs => if cs.length = sz ∧ ∀ c ∈ cs,c.isAgg = false then
    if ag = true then some (.agg cs) else match cs with
     | [p] => some p
     | _ => none
    else none
 | none => none
noncomputable def zpv2 (sz : Nat) : Option (List AV) → Option Bool → Option PV
 | some zs,some ag => zpv3 sz ag (purs zs)
 | _,_ => none
theorem zeroPV_eq {e sz} : zeroPV P e sz = zpv2 sz (zeroOf P e) (aggOf P e) := by
 unfold zeroPV
 cases zeroOf P e <;> cases aggOf P e <;> try rfl
theorem zpv2_some {sz zs ag} : zpv2 sz (some zs) (some ag) = zpv3 sz ag (purs zs) := rfl
theorem zpv3_T {sz cs} : zpv3 sz true (some cs) = if cs.length = sz ∧ ∀ c ∈ cs,c.isAgg = false then some (.agg cs) else none := by simp [zpv3]
theorem zpv3_F {sz p} : zpv3 sz false (some [p]) = if 1 = sz ∧ p.isAgg = false then some p else none := by simp [zpv3]
noncomputable def clr2 (σ : St) (id sz l n : Nat) (e e' : TypeId) (xs : List PV) (k : Nat) (so : Option Nat) : Option PV → Option (St × AV)
 | some z => if e' = e ∧ so = some sz ∧ l ≤ xs.length ∧ l + n ≤ xs.length + k then some (σ.setOb id (.rowk e (over xs (List.replicate n z) l) (xs.length + k - (over xs (List.replicate n z) l).length)),.tup []) else none
 | none => none
noncomputable def clr (P : Program) (σ : St) (id sz l n : Nat) : Ob → Option TypeId → Option (St × AV)
 | .rowk e xs k,some e' => clr2 σ id sz l n e e' xs k (szOf P e) (zeroPV P e sz)
 | _,_ => none
theorem clear_eq {t id sz l n} : stClearV P σ t id sz l n = clr P σ id sz l n (σ.ob id) (elOf P t) := by
 unfold stClearV
 cases σ.ob id <;> cases elOf P t <;> try rfl
theorem clr_some {id sz l n e xs k e'} : clr P σ id sz l n (.rowk e xs k) (some e') = clr2 σ id sz l n e e' xs k (szOf P e) (zeroPV P e sz) := rfl
theorem clr2_some {id sz l n e e' xs k so z} : clr2 σ id sz l n e e' xs k so (some z) = if e' = e ∧ so = some sz ∧ l ≤ xs.length ∧ l + n ≤ xs.length + k then some (σ.setOb id (.rowk e (over xs (List.replicate n z) l) (xs.length + k - (over xs (List.replicate n z) l).length)),.tup []) else none := rfl
noncomputable def srcW (P : Program) (sz sz2 l n : Nat) : Ob → Option (List PV × Nat)
 | .rowk e xs k => if szOf P e = some sz ∧ sz2 = sz then some ((xs.drop l).take n,n) else none
 | _ => none
theorem src_vw {sz id sz2 l n} : srcOf P σ sz (.vw id sz2 l n) = srcW P sz sz2 l n (σ.ob id) := by
 simp only [srcOf,srcW]
 cases σ.ob id <;> rfl
theorem srcW_some {sz sz2 l n e xs k} : srcW P sz sz2 l n (.rowk e xs k) = if szOf P e = some sz ∧ sz2 = sz then some ((xs.drop l).take n,n) else none := rfl
theorem src_rowp {sz zs} : srcOf P σ sz (.val (.rowp zs)) = if ∀ z ∈ zs,z.cells.length = sz then some (zs,zs.length) else none := rfl
theorem src_row {sz zs} : srcOf P σ sz (.val (.row zs)) = if ∀ z ∈ zs,z.cells.length = sz then some (zs,zs.length) else none := rfl
theorem src_nils {sz} : srcOf P σ sz .nils = some ([],0) := by simp [srcOf,St.pv]
noncomputable def cpy (σ : St) (id sz l n : Nat) (so : TypeId → Option Nat) : Ob → Option TypeId → Option (List PV × Nat) → Option (St × AV)
 | .rowk e xs k,some e',some (zs,m) => if e' = e ∧ so e = some sz ∧ l ≤ xs.length ∧ l + min m n ≤ xs.length + k ∧ min m n ≤ zs.length then
   some (σ.setOb id (.rowk e (over xs (zs.take (min m n)) l) (xs.length + k - (over xs (zs.take (min m n)) l).length)),.val (.int .i64 (min m n : Nat))) else none
 | _,_,_ => none
theorem copy_eq {t id sz l n y} : stCopyV P σ t id sz l n y = cpy σ id sz l n (szOf P) (σ.ob id) (elOf P t) (srcOf P σ sz y) := by
 unfold stCopyV
 cases σ.ob id <;> cases elOf P t <;> rcases srcOf P σ sz y with _ | ⟨_,_⟩ <;> rfl
theorem cpy_some {id sz l n so e xs k e' zs m} : cpy σ id sz l n so (.rowk e xs k) (some e') (some (zs,m)) = if e' = e ∧ so e = some sz ∧ l ≤ xs.length ∧ l + min m n ≤ xs.length + k ∧ min m n ≤ zs.length then
   some (σ.setOb id (.rowk e (over xs (zs.take (min m n)) l) (xs.length + k - (over xs (zs.take (min m n)) l).length)),.val (.int .i64 (min m n : Nat))) else none := rfl
theorem cpy_ite {id sz l n so ob el} {c : Prop} [Decidable c] {s} : cpy σ id sz l n so ob el (if c then s else none) = if c then cpy σ id sz l n so ob el s else none := by
 by_cases h : c
 ·simp [h]
 ·simp only [h,if_false]; cases ob <;> cases el <;> rfl
noncomputable def vg (P : Program) (σ : St) (nid : Nat) (t t2 : TypeId) (id sz l n : Nat) (y : AV) : Ob → Option (List PV × Nat) → Option (St × AV)
 | .rowk _ xs k,some (_,m) => choose2 (l + n + m ≤ xs.length + k) (stAppendV P σ t t2 id sz l n y) (stAppendG P σ nid t t2 id sz l n y)
 | _,_ => none
theorem appvg_eq {nid t t2 id sz l n y} : stAppVG P σ nid t t2 id sz l n y = vg P σ nid t t2 id sz l n y (σ.ob id) (srcOf P σ sz y) := by
 unfold stAppVG
 cases σ.ob id <;> rcases srcOf P σ sz y with _ | ⟨_,_⟩ <;> rfl
theorem vg_some {nid t t2 id sz l n y e xs k zs m} : vg P σ nid t t2 id sz l n y (.rowk e xs k) (some (zs,m)) = choose2 (l + n + m ≤ xs.length + k) (stAppendV P σ t t2 id sz l n y) (stAppendG P σ nid t t2 id sz l n y) := rfl
theorem vg_ite {nid t t2 id sz l n y ob s} {c : Prop} [Decidable c] : vg P σ nid t t2 id sz l n y ob (if c then s else none) = if c then vg P σ nid t t2 id sz l n y ob s else none := by
 by_cases h : c
 ·simp [h]
 ·simp only [h,if_false]; cases ob <;> rfl
noncomputable def apg2 (σ : St) (nid id sz l n : Nat) (t t2 : TypeId) (e e' : TypeId) (xs : List PV) (k : Nat) (zs : List PV) (m : Nat) (so : Option Nat) : Option PV → Option Nat → Option (St × AV)
 | some z,some nb => if e' = e ∧ so = some sz ∧ l = 0 ∧ n ≤ xs.length ∧ m = zs.length ∧ t2 = t ∧ xs.length + k < n + m ∧ (n + m) * nb ≤ 140737488355328 ∧ n + m ≤ 4611686018427387904 ∧ σ.isFree nid = true then
    some (σ.setOb nid (.row e (xs.take n ++ zs)),.ref nid) else none
 | _,_ => none
noncomputable def apg (P : Program) (σ : St) (nid id sz l n : Nat) (t t2 : TypeId) : Ob → Option TypeId → Option (List PV × Nat) → Option (St × AV)
 | .rowk e xs k,some e',some (zs,m) => apg2 σ nid id sz l n t t2 e e' xs k zs m (szOf P e) (zeroPV P e sz) (byOf P e)
 | _,_,_ => none
theorem appg_eq {nid t t2 id sz l n y} : stAppendG P σ nid t t2 id sz l n y = apg P σ nid id sz l n t t2 (σ.ob id) (elOf P t) (srcOf P σ sz y) := by
 unfold stAppendG
 cases σ.ob id <;> cases elOf P t <;> rcases srcOf P σ sz y with _ | ⟨_,_⟩ <;> rfl
theorem apg_some {nid id sz l n t t2 e xs k e' zs m} : apg P σ nid id sz l n t t2 (.rowk e xs k) (some e') (some (zs,m)) = apg2 σ nid id sz l n t t2 e e' xs k zs m (szOf P e) (zeroPV P e sz) (byOf P e) := rfl
theorem apg_ite {nid id sz l n t t2 ob el s} {c : Prop} [Decidable c] : apg P σ nid id sz l n t t2 ob el (if c then s else none) = if c then apg P σ nid id sz l n t t2 ob el s else none := by
 by_cases h : c
 ·simp [h]
 ·simp only [h,if_false]; cases ob <;> cases el <;> rfl
theorem apg2_some {nid id sz l n t t2 e e' xs k zs m so z nb} : apg2 σ nid id sz l n t t2 e e' xs k zs m so (some z) (some nb) = if e' = e ∧ so = some sz ∧ l = 0 ∧ n ≤ xs.length ∧ m = zs.length ∧ t2 = t ∧ xs.length + k < n + m ∧ (n + m) * nb ≤ 140737488355328 ∧ n + m ≤ 4611686018427387904 ∧ σ.isFree nid = true then
        some (σ.setOb nid (.row e (xs.take n ++ zs)),.ref nid) else none := rfl
noncomputable def apv (σ : St) (id sz l n : Nat) (t t2 : TypeId) (so : TypeId → Option Nat) : Ob → Option TypeId → Option (List PV × Nat) → Option (St × AV)
 | .rowk e xs k,some e',some (zs,m) => if e' = e ∧ so e = some sz ∧ l + n ≤ xs.length ∧ l + n + m ≤ xs.length + k ∧ m = zs.length ∧ t2 = t then
   some (σ.setOb id (.rowk e (over xs zs (l + n)) (xs.length + k - (over xs zs (l + n)).length)),.vw id sz l (n + m)) else none
 | _,_,_ => none
theorem appv_eq {t t2 id sz l n y} : stAppendV P σ t t2 id sz l n y = apv σ id sz l n t t2 (szOf P) (σ.ob id) (elOf P t) (srcOf P σ sz y) := by
 unfold stAppendV
 cases σ.ob id <;> cases elOf P t <;> rcases srcOf P σ sz y with _ | ⟨_,_⟩ <;> rfl
theorem apv_some {id sz l n t t2 so e xs k e' zs m} : apv σ id sz l n t t2 so (.rowk e xs k) (some e') (some (zs,m)) = if e' = e ∧ so e = some sz ∧ l + n ≤ xs.length ∧ l + n + m ≤ xs.length + k ∧ m = zs.length ∧ t2 = t then
   some (σ.setOb id (.rowk e (over xs zs (l + n)) (xs.length + k - (over xs zs (l + n)).length)),.vw id sz l (n + m)) else none := rfl
theorem apv_ite {id sz l n t t2 so ob el} {c : Prop} [Decidable c] {s} : apv σ id sz l n t t2 so ob el (if c then s else none) = if c then apv σ id sz l n t t2 so ob el s else none := by
 by_cases h : c
 ·simp [h]
 ·simp only [h,if_false]; cases ob <;> cases el <;> rfl
noncomputable def apz2 (σ : St) (nid id sz l n : Nat) (q : Int) (e e' : TypeId) (xs : List PV) (k : Nat) (so : Option Nat) : Option PV → Option Nat → Option (St × AV)
 | some z,some nb => if e' = e ∧ so = some sz ∧ l = 0 ∧ n ≤ xs.length ∧ 0 < q ∧ xs.length + k < n + q.toNat ∧ (n + q.toNat) * nb ≤ 140737488355328 ∧ n + q.toNat ≤ 4611686018427387904 ∧ σ.isFree nid = true then
    some (σ.setOb nid (.row e (xs.take n ++ List.replicate q.toNat z)),.ref nid) else none
 | _,_ => none
noncomputable def apz (P : Program) (σ : St) (nid id sz l n : Nat) (q : Int) : Ob → Option TypeId → Option TypeDesc → Option (St × AV)
 | .rowk e xs k,some e',some (.int _) => apz2 σ nid id sz l n q e e' xs k (szOf P e) (zeroPV P e sz) (byOf P e)
 | _,_,_ => none
theorem appz_eq {nid t t2 id sz l n q} : stAppendZ P σ nid t t2 id sz l n q = apz P σ nid id sz l n q (σ.ob id) (elOf P t) (P.underlying t2) := by
 unfold stAppendZ
 cases σ.ob id <;> cases elOf P t <;> rcases P.underlying t2 with _ | d <;> try rfl
 all_goals cases d <;> try rfl
theorem apz_some {nid id sz l n q e xs k e' kk} : apz P σ nid id sz l n q (.rowk e xs k) (some e') (some (.int kk)) = apz2 σ nid id sz l n q e e' xs k (szOf P e) (zeroPV P e sz) (byOf P e) := rfl
theorem apz2_some {nid id sz l n q e e' xs k so z nb} : apz2 σ nid id sz l n q e e' xs k so (some z) (some nb) = if e' = e ∧ so = some sz ∧ l = 0 ∧ n ≤ xs.length ∧ 0 < q ∧ xs.length + k < n + q.toNat ∧ (n + q.toNat) * nb ≤ 140737488355328 ∧ n + q.toNat ≤ 4611686018427387904 ∧ σ.isFree nid = true then
        some (σ.setOb nid (.row e (xs.take n ++ List.replicate q.toNat z)),.ref nid) else none := rfl
def lenG (σ : St) : Option PV → Option TypeId → Option (St × AV)
 | some (.row xs),some _ => some (σ,.val (.int .i64 xs.length))
 | _,_ => none
theorem len_str {i s t} : stBuiltin P σ i .len [.val (.str s)] [t] = if P.underlying t = some .string then some (σ,.val (.int .i64 s.length)) else none := rfl
theorem len_row {i xs t} : stBuiltin P σ i .len [.val (.row xs)] [t] = lenG σ (some (.row xs)) (elOf P t) := by simp only [stBuiltin,St.pv]; cases elOf P t <;> rfl
theorem len_nils {i t} : stBuiltin P σ i .len [.nils] [t] = lenG σ (some (.row [])) (elOf P t) := by simp only [stBuiltin,St.pv]; cases elOf P t <;> rfl
theorem len_ref {i j t} : stBuiltin P σ i .len [.ref j] [t] = lenG σ (σ.pv (.ref j)) (elOf P t) := by
 simp only [stBuiltin]
 cases σ.pv (.ref j) with
 | none => rfl
 | some p => cases p <;> cases elOf P t <;> rfl
theorem lenG_some {xs e} : lenG σ (some (.row xs)) (some e) = some (σ,.val (.int .i64 xs.length)) := rfl
theorem append_builtin {i s x t t2} : stBuiltin P σ i .append [s,x] [t,t2] = app0 P σ i t t2 s x (elOf P t) := append_eq
theorem min_int {i k x y ts} : stBuiltin P σ i .min [.val (.int k x),.val (.int k y)] ts = some (σ,.val (.int k (if y < x then y else x))) := by simp [stBuiltin,mmPV]
theorem max_int {i k x y ts} : stBuiltin P σ i .max [.val (.int k x),.val (.int k y)] ts = some (σ,.val (.int k (if y > x then y else x))) := by simp [stBuiltin,mmPV]
theorem min_str {i x y ts} : stBuiltin P σ i .min [.val (.str x),.val (.str y)] ts = some (σ,.val (.str (if slt x y ∨ x = y then x else y))) := by by_cases h : strLt x y = true <;> simp [stBuiltin,mmPV,slt,h]
theorem max_str {i x y ts} : stBuiltin P σ i .max [.val (.str x),.val (.str y)] ts = some (σ,.val (.str (if slt x y then y else x))) := by by_cases h : strLt x y = true <;> simp [stBuiltin,mmPV,slt,h]
def extG (σ : St) (k : Nat) : AV → Option (St × AV)
 | .tup ps => okV σ ps[k]?
 | _ => none
theorem step_extract {i x k} : stepOp P σ i (.extract x k) = extG σ k (σ.ev x) := by
 show (match σ.ev x with | .tup ps => (match ps[k]? with | some p => some (σ,AV.val p) | none => none) | _ => none) = _
 cases σ.ev x <;> rfl
theorem extG_tup {k ps} : extG σ k (.tup ps) = okV σ ps[k]? := rfl
def mkf (σ : St) (f : FuncId) (cs : List AV) : Option (List PV) → Option (St × AV)
 | some ps => some (σ.pubs cs,.val (.fn f ps))
 | none => none
theorem step_makeFunc {i f caps} : stepOp P σ i (.makeFunc (.func f) #[] caps) = mkf σ f (σ.evs caps.toList) (σ.pvs (σ.evs caps.toList)) := by
 show (if (#[] : Array Operand) = #[] then (match σ.pvs (σ.evs caps.toList) with | some ps => some (σ.pubs (σ.evs caps.toList),AV.val (.fn f ps)) | none => none) else none) = _
 rw [if_pos rfl]
 cases σ.pvs (σ.evs caps.toList) <;> rfl
theorem mkf_some {f cs ps} : mkf σ f cs (some ps) = some (σ.pubs cs,.val (.fn f ps)) := rfl
noncomputable def slcA (P : Program) (σ : St) (t : TypeId) (lo hi mx : Option AV) : AV → Option (St × AV)
 | .vw id sz l n => stSliceV P σ t id sz l n lo hi mx
 | v => match mx with
  | none => stSlice P σ t v lo hi
  | some m => match lo,hi with
   | none,some hh => stSlice3 P σ t v hh m
   | _,_ => none
theorem step_slice {i t x lo hi mx} : stepOp P σ i (.slice t x lo hi mx) = slcA P σ t (lo.map σ.ev) (hi.map σ.ev) (mx.map σ.ev) (σ.ev x) := by
 show (match σ.ev x with | .vw id sz l n => stSliceV P σ t id sz l n (lo.map σ.ev) (hi.map σ.ev) (mx.map σ.ev) | v => match mx with | none => stSlice P σ t v (lo.map σ.ev) (hi.map σ.ev) | some m => match lo,hi with | none,some hh => stSlice3 P σ t v (σ.ev hh) (σ.ev m) | _,_ => none) = _
 cases σ.ev x <;> cases mx <;> first | rfl | (cases lo <;> cases hi <;> rfl)
noncomputable def slc3 (P : Program) (σ : St) (xs : List PV) (n m : Int) : Option TypeId → Option (St × AV)
 | some e => match szOf P e with
  | some sz => if 0 ≤ n ∧ n = m ∧ n ≤ xs.length then some (σ,.val (.row (xs.take n.toNat))) else none
  | none => none
 | none => none
noncomputable def sl33 (σ : St) (xs : List PV) (n m : Int) : Option Nat → Option (St × AV)
 | some sz => if 0 ≤ n ∧ n = m ∧ n ≤ xs.length then some (σ,.val (.row (xs.take n.toNat))) else none
 | none => none
theorem slcA3_row {t xs k n k' m} : slcA P σ t none (some (.val (.int k n))) (some (.val (.int k' m))) (.val (.row xs)) = slc3 P σ xs n m (elOf P t) := by
 show stSlice3 P σ t _ _ _ = _
 simp only [stSlice3,St.pv,slc3]
 cases elOf P t <;> rfl
theorem slc3_some {xs n m e} : slc3 P σ xs n m (some e) = sl33 σ xs n m (szOf P e) := by simp only [slc3,sl33]
theorem sl33_some {xs n m sz} : sl33 σ xs n m (some sz) = if 0 ≤ n ∧ n = m ∧ n ≤ xs.length then some (σ,.val (.row (xs.take n.toNat))) else none := rfl
theorem slcA_vw {t lo hi mx id sz l n} : slcA P σ t lo hi mx (.vw id sz l n) = stSliceV P σ t id sz l n lo hi mx := rfl
theorem slcA_val {t lo hi p} : slcA P σ t lo hi none (.val p) = stSlice P σ t (.val p) lo hi := rfl
theorem slcA_nils {t lo hi} : slcA P σ t lo hi none .nils = stSlice P σ t .nils lo hi := rfl
theorem slcA_ref {t lo hi j} : slcA P σ t lo hi none (.ref j) = stSlice P σ t (.ref j) lo hi := rfl
theorem bnd_none {d} : bnd none d = some d := rfl
theorem bnd_int {k n d} : bnd (some (.val (.int k n))) d = if 0 ≤ n then some n.toNat else none := rfl
noncomputable def sv1 (σ : St) (id sz l : Nat) (e e' : TypeId) (so : Option Nat) (T : Nat) (hiS : Bool) : Option Nat → Option Nat → Option (Option Nat) → Option (St × AV)
 | some x,some y,none => if e' = e ∧ so = some sz ∧ x ≤ y ∧ l + y ≤ T then some (σ,.vw id sz (l + x) (y - x)) else none
 | some x,some y,some (some z) => if e' = e ∧ so = some sz ∧ x ≤ y ∧ y ≤ z ∧ l + z ≤ T ∧ hiS = true then some (σ,.any) else none
 | _,_,_ => none
noncomputable def sv0 (P : Program) (σ : St) (id sz l n : Nat) (lo hi mx : Option AV) : Ob → Option TypeId → Option (St × AV)
 | .rowk e xs k,some e' => sv1 σ id sz l e e' (szOf P e) (xs.length + k) hi.isSome (bnd lo 0) (bnd hi n) (mx.map fun m => bnd (some m) 0)
 | _,_ => none
theorem sliceV_eq {t id sz l n lo hi mx} : stSliceV P σ t id sz l n lo hi mx = sv0 P σ id sz l n lo hi mx (σ.ob id) (elOf P t) := by
 unfold stSliceV
 cases σ.ob id <;> cases elOf P t <;> try rfl
 simp only [sv0]
 rename_i e xs k e'
 cases bnd lo 0 <;> cases bnd hi n <;> cases mx <;> try rfl
 rename_i x y m
 simp only [Option.map_some]
 cases bnd (some m) 0 <;> rfl
theorem sv0_some {id sz l n lo hi mx e xs k e'} : sv0 P σ id sz l n lo hi mx (.rowk e xs k) (some e') = sv1 σ id sz l e e' (szOf P e) (xs.length + k) hi.isSome (bnd lo 0) (bnd hi n) (mx.map fun m => bnd (some m) 0) := rfl
theorem sv1_none {id sz l e e' so T hs x y} : sv1 σ id sz l e e' so T hs (some x) (some y) none = if e' = e ∧ so = some sz ∧ x ≤ y ∧ l + y ≤ T then some (σ,.vw id sz (l + x) (y - x)) else none := rfl
theorem sv1_some {id sz l e e' so T hs x y z} : sv1 σ id sz l e e' so T hs (some x) (some y) (some (some z)) = if e' = e ∧ so = some sz ∧ x ≤ y ∧ y ≤ z ∧ l + z ≤ T ∧ hs = true then some (σ,.any) else none := rfl
theorem sv1_ite1 {id sz l e e' so T hs x y m} {c : Prop} [Decidable c] : sv1 σ id sz l e e' so T hs (if c then some x else none) y m = if c then sv1 σ id sz l e e' so T hs (some x) y m else none := by
 by_cases h : c <;> simp [h,sv1]
theorem sv1_ite2 {id sz l e e' so T hs x y m} {c : Prop} [Decidable c] : sv1 σ id sz l e e' so T hs (some x) (if c then some y else none) m = if c then sv1 σ id sz l e e' so T hs (some x) (some y) m else none := by
 by_cases h : c <;> simp [h,sv1]
theorem sv1_ite3 {id sz l e e' so T hs x y m} {c : Prop} [Decidable c] : sv1 σ id sz l e e' so T hs (some x) (some y) (some (if c then some m else none)) = if c then sv1 σ id sz l e e' so T hs (some x) (some y) (some (some m)) else none := by
 by_cases h : c <;> simp [h,sv1]
noncomputable def slc (P : Program) (σ : St) (x : AV) : Option PV → Option TypeId → Option AV → Option AV → Option (St × AV)
 | some (.row xs),some e,lo,hi => match szOf P e,lo,hi with
   | some sz,none,some (.val (.int _ n)) => if 0 ≤ n ∧ n ≤ xs.length then some (σ.pub x,.val (.row (xs.take n.toNat))) else none
   | some sz,some (.val (.int _ m)),none => if 0 ≤ m ∧ m ≤ xs.length ∧ ∀ x ∈ xs,x.cells.length = sz then some (σ.pub x,.val (.row (xs.drop m.toNat))) else none
   | some sz,some (.val (.int _ m)),some (.val (.int _ n)) => if 0 ≤ m ∧ m ≤ n ∧ n ≤ xs.length ∧ ∀ x ∈ xs,x.cells.length = sz then some (σ.pub x,.val (.row ((xs.take n.toNat).drop m.toNat))) else none
   | _,_,_ => none
 | _,_,_,_ => none
theorem slice_row {t xs lo hi} : stSlice P σ t (.val (.row xs)) lo hi = slc P σ (.val (.row xs)) (some (.row xs)) (elOf P t) lo hi := by simp only [stSlice,St.pv,slc]; cases elOf P t <;> rfl
theorem slice_nils {t lo hi} : stSlice P σ t .nils lo hi = slc P σ .nils (some (.row [])) (elOf P t) lo hi := by simp only [stSlice,St.pv,slc]; cases elOf P t <;> rfl
theorem slice_ref {t i lo hi} : stSlice P σ t (.ref i) lo hi = slc P σ (.ref i) (σ.pv (.ref i)) (elOf P t) lo hi := by
 simp only [stSlice,slc]
 cases σ.pv (.ref i) with
 | none => rfl
 | some p => cases p <;> cases elOf P t <;> rfl
def sl2 (σ : St) (x : AV) (xs : List PV) : Option Nat → Option AV → Option AV → Option (St × AV)
 | some sz,none,some (.val (.int _ n)) => if 0 ≤ n ∧ n ≤ xs.length then some (σ.pub x,.val (.row (xs.take n.toNat))) else none
 | some sz,some (.val (.int _ m)),none => if 0 ≤ m ∧ m ≤ xs.length ∧ ∀ x ∈ xs,x.cells.length = sz then some (σ.pub x,.val (.row (xs.drop m.toNat))) else none
 | some sz,some (.val (.int _ m)),some (.val (.int _ n)) => if 0 ≤ m ∧ m ≤ n ∧ n ≤ xs.length ∧ ∀ x ∈ xs,x.cells.length = sz then some (σ.pub x,.val (.row ((xs.take n.toNat).drop m.toNat))) else none
 | _,_,_ => none
theorem slc_some {x xs e lo hi} : slc P σ x (some (.row xs)) (some e) lo hi = sl2 σ x xs (szOf P e) lo hi := by
 simp only [slc,sl2]
theorem sl2_hi {x xs sz k n} : sl2 σ x xs (some sz) none (some (.val (.int k n))) = if 0 ≤ n ∧ n ≤ xs.length then some (σ.pub x,.val (.row (xs.take n.toNat))) else none := rfl
theorem sl2_lo {x xs sz k m} : sl2 σ x xs (some sz) (some (.val (.int k m))) none = if 0 ≤ m ∧ m ≤ xs.length ∧ ∀ x ∈ xs,x.cells.length = sz then some (σ.pub x,.val (.row (xs.drop m.toNat))) else none := rfl
theorem sl2_both {x xs sz k m k' n} : sl2 σ x xs (some sz) (some (.val (.int k m))) (some (.val (.int k' n))) = if 0 ≤ m ∧ m ≤ n ∧ n ≤ xs.length ∧ ∀ x ∈ xs,x.cells.length = sz then some (σ.pub x,.val (.row ((xs.take n.toNat).drop m.toNat))) else none := rfl
def cvt (P : Program) (σ : St) : Option TypeDesc → Option TypeDesc → AV → Option (St × AV)
 | some _,some (.int k),.val (.int _ n) => some (σ,.val (.int k (k.wrap n)))
 | some .string,some .string,.val (.str l) => some (σ,.val (.str l))
 | some (.slice e),some .string,v => match P.underlying e,σ.pv v with
  | some (.int .u8),some (.row ys) => match bytesOf ys with
   | some l => some (σ,.val (.str l))
   | none => none
  | _,_ => none
 | _,_,_ => none
theorem step_convert {i s d x} : stepOp P σ i (.convert s d x) = cvt P σ (P.underlying s) (P.underlying d) (σ.ev x) := rfl
theorem cvt_int {s k k' n} : cvt P σ (some s) (some (.int k)) (.val (.int k' n)) = some (σ,.val (.int k (k.wrap n))) := by cases s <;> rfl
def cvc (σ : St) : Option (List UInt8) → Option (St × AV)
 | some l => some (σ,.val (.str l))
 | none => none
def cvb (P : Program) (σ : St) : Option TypeDesc → Option PV → Option (St × AV)
 | some (.int .u8),some (.row ys) => cvc σ (bytesOf ys)
 | _,_ => none
theorem cvt_bytes {e v} : cvt P σ (some (.slice e)) (some .string) v = cvb P σ (P.underlying e) (σ.pv v) := by
 unfold cvt cvb cvc
 split <;> simp_all <;> split <;> simp_all
theorem cvb_some {ys} : cvb P σ (some (.int .u8)) (some (.row ys)) = cvc σ (bytesOf ys) := rfl
theorem cvc_some {l} : cvc σ (some l) = some (σ,.val (.str l)) := rfl
theorem step_make {i t l c} : stepOp P σ i (.makeSlice t l c) = stMake P σ i t (σ.ev l) (σ.ev c) := rfl
theorem inits_nil {i} : inits i [] = [] := rfl
theorem inits_p {i x r} : inits i (.p x :: r) = (i,.val x) :: inits (i + 1) r := rfl
theorem inits_o {i e xs r} : inits i (.o e xs :: r) = (i,.ref i) :: inits (i + 1) r := rfl
theorem initObs_nil : initObs [] = [] := rfl
theorem initObs_p {x r} : initObs (.p x :: r) = .gone :: initObs r := rfl
theorem initObs_o {e xs r} : initObs (.o e xs :: r) = .row e xs :: initObs r := rfl
theorem inits_n {i r} : inits i (.n :: r) = (i,.nils) :: inits (i + 1) r := rfl
theorem initObs_n {r} : initObs (.n :: r) = .gone :: initObs r := rfl
theorem retOK_vals {rs ps} : RetOK P σ rs (.vals ps) = (retVals P σ rs = some ps) := rfl
def ret2 : Option PV → Option (List PV) → Option (List PV)
 | some p,some ps => some (p :: ps)
 | _,_ => none
def ret3 (P : Program) (rs : List ResultVar) : Option (St × AV) → Option (List PV)
 | some (σ',.val p) => (retVals P σ' rs).map (p :: ·)
 | _ => none
theorem retVals_nil : retVals P σ [] = some [] := rfl
theorem retVals_tmp {t rs} : retVals P σ (.tmp t :: rs) = ret2 (σ.pv (σ.sl t)) (retVals P (σ.pub (σ.sl t)) rs) := rfl
theorem retVals_cell {a t rs} : retVals P σ (.cell a t :: rs) = ret3 P rs (stLoad P σ t (σ.sl a)) := by
 simp only [retVals]
 cases stLoad P σ t (σ.sl a) with
 | none => rfl
 | some x =>
  obtain ⟨s,v⟩ := x
  cases v <;> try rfl
  simp only [ret3]
  cases retVals P s rs <;> rfl
theorem ret2_some {p ps} : ret2 (some p) (some ps) = some (p :: ps) := rfl
theorem ret3_some {rs σ' p} : ret3 P rs (some (σ',.val p)) = (retVals P σ' rs).map (p :: ·) := rfl
def ownK (e : TypeId) (xs : List PV) (l n : Nat) : Ob → Prop
 | .rowk e' ys q => e' = e ∧ l = 0 ∧ n ≤ ys.length ∧ xs = ys.take n
 | _ => False
def ownOb (P : Program) (σ : St) (e : TypeId) (xs : List PV) : AV → Prop
 | .ref i => σ.ob i = .row e xs
 | .vw i sz l n => ownK e xs l n (σ.ob i)
 | .nils => xs = [] ∧ ∃ sz,szOf P e = some sz ∧ 0 < sz
 | _ => False
theorem retOK_own {t e xs} : RetOK P σ [.tmp t] (.own e xs) = ownOb P σ e xs (σ.sl t) := by
 simp only [RetOK,ownOb]
 cases σ.sl t <;> try rfl
 rename_i i sz l n
 simp only [ownK]
 cases σ.ob i with
 | rowk e' ys q =>
  refine propext ⟨?_,?_⟩
  ·rintro ⟨ys',q',h,h2⟩; cases h; exact ⟨rfl,h2⟩
  ·rintro ⟨rfl,h⟩; exact ⟨_,_,rfl,h⟩
 | _ => simp
theorem ownOb_vw {e xs i sz l n} : ownOb P σ e xs (.vw i sz l n) = ownK e xs l n (σ.ob i) := rfl
theorem ownK_some {e xs l n e' ys q} : ownK e xs l n (.rowk e' ys q) = (e' = e ∧ l = 0 ∧ n ≤ ys.length ∧ xs = ys.take n) := rfl
theorem opn_sl {id sz n e xs q t} : (σ.opn id sz n e xs q).sl t = opnA id sz n (σ.sl t) := rfl
theorem opn_ob {id sz n e xs q j} : (σ.opn id sz n e xs q).ob j = if j = id then .rowk e xs q else σ.ob j := rfl
theorem opn_ck {id sz n e xs q} : (σ.opn id sz n e xs q).ck = σ.ck := rfl
theorem opnA_ref {id sz n j} : opnA id sz n (.ref j) = if j = id then .vw id sz 0 n else .ref j := rfl
theorem opnA_val {id sz n p} : opnA id sz n (.val p) = .val p := rfl
theorem opnA_nils {id sz n} : opnA id sz n .nils = .nils := rfl
theorem opnA_any {id sz n} : opnA id sz n .any = .any := rfl
theorem opnA_tup {id sz n ps} : opnA id sz n (.tup ps) = .tup ps := rfl
theorem opnA_adr {id sz n i o} : opnA id sz n (.adr i o) = .adr i o := rfl
theorem opnA_vw {id sz n i s l m} : opnA id sz n (.vw i s l m) = .vw i s l m := rfl
theorem opnA_agr {id sz n ps k i} : opnA id sz n (.agr ps k i) = .agr ps k i := rfl
theorem ids_agr {ps k i} : (AV.agr ps k i).ids = [i] := rfl
theorem mok_agr {S M nid ps k i} : mok σ S M nid (.agr ps k i) = (i = nid ∨ mokL σ i S ∨ mokO σ i M) := rfl
theorem isMent_agr {ps k j i} : ((AV.agr ps k j).isMent i = true) = (j = i) := by simp [AV.isMent]
theorem ids_vw {i s l m} : (AV.vw i s l m).ids = [i] := rfl
theorem mok_vw {S M nid i s l m} : mok σ S M nid (.vw i s l m) = (i = nid ∨ mokL σ i S ∨ mokO σ i M) := rfl
theorem isMent_vw {j s l m i} : ((AV.vw j s l m).isMent i = true) = (j = i) := by simp [AV.isMent]
theorem noMent_rowk {e xs k} : (Ob.rowk e xs k).noMent = true := rfl
theorem cells_rowp {xs} : (PV.rowp xs).cells = [.rowp xs] := rfl
theorem isAgg_rowp {xs} : (PV.rowp xs).isAgg = false := rfl
theorem ownOb_ref {e xs i} : ownOb P σ e xs (.ref i) = (σ.ob i = .row e xs) := rfl
theorem ownOb_nils {e xs} : ownOb P σ e xs .nils = (xs = [] ∧ ∃ sz,szOf P e = some sz ∧ 0 < sz) := rfl
theorem mSl_nil {ρ} : mSl σ ρ [] = True := rfl
theorem mSl_cons {ρ t v ls} : mSl σ ρ ((t,v) :: ls) = (mAV σ ρ (σ.sl t) v ∧ mSl σ ρ ls) := rfl
theorem mAV_any {ρ u} : mAV σ ρ u .any = True := rfl
theorem mAV_val {ρ p q} : mAV σ ρ (.val p) (.val q) = (p = q) := by simp [mAV]
theorem mAV_valnil {ρ q} : mAV σ ρ .nils (.val q) = (q = .row []) := by simp [mAV]
theorem mAV_nils {ρ u} : mAV σ ρ u .nils = (u = .nils) := rfl
theorem mAV_tup {ρ u ps} : mAV σ ρ u (.tup ps) = (u = .tup ps) := rfl
def mRef (u : AV) : Option (Option Nat) → Prop
 | some (some r) => u = .ref r
 | some none => u = .nils
 | none => False
def mAdr (u : AV) (o : Nat) : Option (Option Nat) → Prop
 | some (some r) => u = .adr r o
 | _ => False
theorem mAV_ref {ρ u k} : mAV σ ρ u (.ref k) = mRef u ρ[k]? := by
 simp only [mAV,mRef]
 rcases ρ[k]? with _ | _ | _ <;> rfl
theorem mAV_adr {ρ u k o} : mAV σ ρ u (.adr k o) = mAdr u o ρ[k]? := by
 simp only [mAV,mAdr]
 rcases ρ[k]? with _ | _ | _ <;> rfl
theorem mRef_some {u r} : mRef u (some (some r)) = (u = .ref r) := rfl
theorem mRef_none {u} : mRef u (some none) = (u = .nils) := rfl
theorem mAdr_some {u o r} : mAdr u o (some (some r)) = (u = .adr r o) := rfl
theorem mObs_nil {ρ0} : mObs P σ ρ0 [] [] = True := rfl
theorem mObs_cons {ρ0 r ρ o os} : mObs P σ ρ0 (r :: ρ) (o :: os) = (mOb P σ ρ0 r o ∧ mObs P σ ρ0 ρ os) := rfl
theorem mOb_some {ρ0 r o} : mOb P σ ρ0 (some r) o = (if o.plain = true then σ.ob r = o else mBox σ ρ0 (σ.ob r) o) := rfl
theorem mOb_gone {ρ0} : mOb P σ ρ0 none .gone = True := rfl
theorem mBox_box {ρ0 ag ag' cs ds} : mBox σ ρ0 (.box ag cs) (.box ag' ds) = (ag = ag' ∧ mCs σ ρ0 cs ds) := rfl
theorem mCs_nil {ρ0} : mCs σ ρ0 [] [] = True := rfl
theorem mCs_cons {ρ0 c cs d ds} : mCs σ ρ0 (c :: cs) (d :: ds) = (mAV σ ρ0 c d ∧ d.cell = true ∧ mCs σ ρ0 cs ds) := rfl
theorem mOb_none {ρ0 e} : mOb P σ ρ0 none (.row e []) = ∃ sz,szOf P e = some sz ∧ 0 < sz := rfl
def plA : AV → Bool
 | .val _ => true
 | .nils => true
 | _ => false
theorem plain_box {ag cs} : (Ob.box ag cs).plain = cs.all plA := by
 simp only [Ob.plain]
 congr 1
theorem plA_val {p} : plA (.val p) = true := rfl
theorem plA_nils : plA .nils = true := rfl
theorem plA_ref {i} : plA (.ref i) = false := rfl
theorem plA_adr {i o} : plA (.adr i o) = false := rfl
theorem plain_row {e xs} : (Ob.row e xs).plain = true := rfl
theorem distinct_nil : distinct [] = True := rfl
theorem distinct_none {ρ} : distinct (none :: ρ) = distinct ρ := rfl
theorem distinct_some {r ρ} : distinct (some r :: ρ) = ((∀ x ∈ ρ,x ≠ some r) ∧ distinct ρ) := rfl
theorem match_def {ρ ls os} : Match P σ ρ ls os = (mSl σ ρ ls ∧ mObs P σ ρ ρ os ∧ distinct ρ) := rfl
theorem isFlat_int {k n} : (PV.int k n).isFlat = true := rfl
theorem isFlat_bool {b} : (PV.bool b).isFlat = true := rfl
theorem isFlat_str {l} : (PV.str l).isFlat = true := rfl
theorem resAV_one {p} : resAV [p] = .val p := rfl
theorem resAV_two {p q ps} : resAV (p :: q :: ps) = .tup (p :: q :: ps) := rfl
end
attribute [go_sem] boxG_A opnA_agr ids_agr mok_agr isMent_agr inits_n initObs_n isAgg_raw cells_raw slcA3_row slc3_some sl33_some isAgg_int isAgg_bool isAgg_str isAgg_agg isAgg_row isAgg_ptr isAgg_nilp isAgg_fn cells_int cells_bool cells_str cells_agg cells_row cells_ptr cells_nilp kd_int kd_bool kd_str cell_val cell_nils cell_adr cell_ref ev_tmp ev_const ev_func cAV_int cAV_bool cAV_str cAV_nils cAV_nilp pv_val pv_nils pv_ref pv_adr pvOb_row pvOb_prow pvAd_pbox pvAd_box pub_val pub_nils pub_any pub_ref pub_adr pubOb_row pubOb_prow pubAd_box pubAd_pbox pubBx_some purs_nil purs_val purs_nils boxPV_agg boxPV_one boxPV_nils pvs_nil pvs_cons pvs2_some pubs_nil pubs_cons evs_nil evs_cons idxs_nil idxs_cons opers_nil opers_cons isFree_eq freeOb_free okCell_val okCell_nils okCell_adr okCell_ref okOb_row okOb_prow gres_eq gresS_some gresA_bool gresA_tup step_move step_assign step_pick pickG_T pickG_F pickG_bool bif_same step_alloc allocG_some step_box boxG_T boxG_F ldAt_eq ldG_some partPV_T partPV_F okV_some okV_ite okA_some okA_ite step_load load_ptr load_adr load_ead loadOb_pbox loadOb_box loadBox_T loadBox_F loadAgg_some loadEl_row loadEl2_some okS_some okS_ite step_store store_adr store_ead storeOb_box storeBox_T storeBox_F storeEl_row storeEl2_some storeFin_some stElem_def step_build bld1_some bld2_some bld3_some fillP_nil fillP_cons fill2_some step_buildSlice bsl1_some bsl2_some append_eq app0_some app1_some app2_nils app2_ref app3_row step_fieldAddr fld1_some fld2_ptr fld2_adr fld2_ead step_indexAddr idx0_int idx1_some idx2_ref idx2_row idx3_row idx3_prow idx4_some idx5_some step_binOp bin2_val bin_add bin_sub bin_mul bin_quo bin_rem bin_shr bin_shl bin_or cvt_bytes cvb_some cvc_some bin_eql bin_neq bin_lss bin_leq bin_gtr bin_geq bin_cat bin_eqs bin_nes bin_lts bin_les bin_gts bin_ges bin_eqb bin_neb bin_eqa bin_nea step_not notG_bool step_builtin len_str len_row len_nils len_ref lenG_some append_builtin min_int max_int min_str max_str step_extract extG_tup step_makeFunc mkf_some step_slice slice_row slice_nils slice_ref slc_some sl2_hi sl2_lo sl2_both step_convert cvt_int step_make inits_nil inits_p inits_o initObs_nil initObs_p initObs_o retOK_vals retVals_nil retVals_tmp retVals_cell ret2_some ret3_some retOK_own ownOb_ref ownOb_nils mSl_nil mSl_cons mAV_any mAV_val mAV_valnil mAV_nils mAV_tup mAV_ref mAV_adr mRef_some mRef_none mAdr_some mObs_nil mObs_cons mOb_some mOb_none plain_row plain_box plA_val plA_nils plA_ref plA_adr mOb_gone mBox_box mCs_nil mCs_cons distinct_nil distinct_none distinct_some match_def isFlat_int isFlat_bool isFlat_str resAV_one resAV_two
attribute [go_sem] forall_eq_or_imp forall_eq false_imp_iff implies_true b2_str b2_row b2_rowp b2_nils b2_ref b2_vw b2_two b2x_vw b2x_val b2x_nils b2x_ref b2y_rowp b2y_row b2y_int b2y_str b2y_nils b2y_ref b1_len lenV_some b1_cap capV_some b1_clear b2_copy b2_appz b2_appvw b2_appr b2_apprp b2_appn zeroPV_eq zpv2_some zpv3_T zpv3_F clear_eq clr_some clr2_some src_vw srcW_some src_rowp src_row src_nils copy_eq cpy_some cpy_ite appvg_eq vg_some vg_ite appg_eq apg_some apg_ite apg2_some appv_eq apv_some apv_ite appz_eq apz_some apz2_some slcA_vw slcA_val slcA_nils slcA_ref bnd_none bnd_int sliceV_eq sv0_some sv1_none sv1_some sv1_ite1 sv1_ite2 sv1_ite3 ownOb_vw ownK_some opn_sl opn_ob opn_ck opnA_ref opnA_val opnA_nils opnA_any opnA_tup opnA_adr opnA_vw ids_vw mok_vw isMent_vw noMent_rowk cells_rowp isAgg_rowp
theorem fmn {α : Type} {p : α → Prop} : (∀ x,x ∈ ([] : List α) → p x) ↔ True := by simp
attribute [go_sem] Classical.not_not if_true if_false true_and and_true and_self Option.map_some Option.map_none Option.isSome_some List.forall_mem_cons fmn List.forall_mem_map implies_true beq_self_eq_true List.length_map List.getElem?_map List.toList_toArray ne_eq not_true_eq_false not_false_eq_true Int.toNat_natCast Int.natCast_nonneg
section
variable {md : Md} {P : Program} {n m : Nat} {R : St → Prop} {sp : List Nat} {σ : St} {k : List It}
theorem exec_draw {id os} : exec md P n R sp (m + 1) (.its (.code (.region id os true) :: k)) σ = (if id ∈ sp then V md P n R (.code (.region id os true) :: k) σ else (P.follows .mixedOrders = true ∧ exec md P n R sp m (.dr os.toList σ.ck 0 os.toList [] [] (σ.ck + os.size) k) σ)) := rfl
theorem exec_drnil {all b i aM aW ck} : exec md P n R sp (m + 1) (.dr all b i [] aM aW ck k) σ = (drawB all b aM aW = true ∧ exec md P n R sp m (.its k) (σ.setCk ck)) := rfl
theorem exec_drcons {all b i o rest aM aW ck} : exec md P n R sp (m + 1) (.dr all b i (o :: rest) aM aW ck k) σ = exec md P n R sp m (.dgd (runs σ all o) all b i o rest aM aW ck k) σ := rfl
theorem exec_dgdF {all b i o rest aM aW ck} : exec md P n R sp (m + 1) (.dgd (some false) all b i o rest aM aW ck k) σ = (dOK n o.dst ∧ exec md P n R sp m (.dr all b (i + 1) rest (aM ++ [[]]) (aW ++ [[]]) ck k) (σ.put o.dst (.tup []))) := rfl
theorem exec_dgd_dec {c : Prop} [Decidable c] {all b i o rest aM aW ck} : exec md P n R sp (m + 1) (.dgd (some (decide c)) all b i o rest aM aW ck k) σ = ((c → exec md P n R sp (m + 1) (.dgd (some true) all b i o rest aM aW ck k) σ) ∧ (¬c → exec md P n R sp (m + 1) (.dgd (some false) all b i o rest aM aW ck k) σ)) := by
 by_cases h : c <;> simp [h]
theorem exec_d_call {all b i d t p af g rest aM aW ck fx xs ts} : exec md P n R sp (m + 1) (.dgd (some true) all b i { dst := d,op := .call { callee := .value fx,args := xs,argTypes := ts },type := t,pos := p,after := af,guard := g } rest aM aW ck k) σ = DV md P n R all b i ({ dst := d,op := .call { callee := .value fx,args := xs,argTypes := ts },type := t,pos := p,after := af,guard := g } :: rest) aM aW ck k σ := rfl
theorem exec_dres {σ' v M W S dst all b i rest aM aW ck} : exec md P n R sp (m + 1) (.dres (some (σ',v)) M W S dst all b i rest aM aW ck k) σ = (dOK n dst ∧ Chg (σ.restr S M (b + i)) σ' W ∧ mok σ S M (b + i) v ∧ pln σ S M (b + i) σ' W ∧
   exec md P n R sp m (.dr all b (i + 1) rest (aM ++ [M]) (aW ++ [W]) ck k) (σ.patch (σ'.put dst v) W dst)) := rfl
theorem exec_dres_ite {c : Prop} [Decidable c] {e M W S dst all b i rest aM aW ck} : exec md P n R sp (m + 1) (.dres (if c then e else none) M W S dst all b i rest aM aW ck k) σ = (c ∧ exec md P n R sp (m + 1) (.dres e M W S dst all b i rest aM aW ck k) σ) := by
 by_cases h : c <;> simp [h,exec]
theorem exec_d_move {all b i d t p af g rest aM aW ck x} : exec md P n R sp (m + 1) (.dgd (some true) all b i { dst := d,op := .move x,type := t,pos := p,after := af,guard := g } rest aM aW ck k) σ = exec md P n R sp m (.dres (stepOp P (σ.restr (tms [x] ++ gsl all g) ([]) (b + i)) (b + i) (.move x)) ([]) [] (tms [x] ++ gsl all g) d all b i rest aM aW ck k) σ := rfl
theorem exec_d_assign {all b i d t p af g rest aM aW ck x} : exec md P n R sp (m + 1) (.dgd (some true) all b i { dst := d,op := .assign x,type := t,pos := p,after := af,guard := g } rest aM aW ck k) σ = exec md P n R sp m (.dres (stepOp P (σ.restr (tms [x] ++ gsl all g) ([]) (b + i)) (b + i) (.assign x)) ([]) [] (tms [x] ++ gsl all g) d all b i rest aM aW ck k) σ := rfl
theorem exec_d_pick {all b i d t p af g rest aM aW ck x y z} : exec md P n R sp (m + 1) (.dgd (some true) all b i { dst := d,op := .pick x y z,type := t,pos := p,after := af,guard := g } rest aM aW ck k) σ = exec md P n R sp m (.dres (stepOp P (σ.restr (tms [x,y,z] ++ gsl all g) ([]) (b + i)) (b + i) (.pick x y z)) ([]) [] (tms [x,y,z] ++ gsl all g) d all b i rest aM aW ck k) σ := rfl
theorem exec_d_alloc {all b i d t p af g rest aM aW ck t'} : exec md P n R sp (m + 1) (.dgd (some true) all b i { dst := d,op := .alloc t',type := t,pos := p,after := af,guard := g } rest aM aW ck k) σ = exec md P n R sp m (.dres (stepOp P (σ.restr (tms [] ++ gsl all g) (idsL σ []) (b + i)) (b + i) (.alloc t')) (idsL σ []) ((b + i) :: idsL σ []) (tms [] ++ gsl all g) d all b i rest aM aW ck k) σ := rfl
theorem exec_d_box {all b i d t p af g rest aM aW ck t' x} : exec md P n R sp (m + 1) (.dgd (some true) all b i { dst := d,op := .box t' x,type := t,pos := p,after := af,guard := g } rest aM aW ck k) σ = exec md P n R sp m (.dres (stepOp P (σ.restr (tms [x] ++ gsl all g) (idsL σ [x]) (b + i)) (b + i) (.box t' x)) (idsL σ [x]) ((b + i) :: idsL σ [x]) (tms [x] ++ gsl all g) d all b i rest aM aW ck k) σ := rfl
theorem exec_d_load {all b i d t p af g rest aM aW ck t' x} : exec md P n R sp (m + 1) (.dgd (some true) all b i { dst := d,op := .load t' x,type := t,pos := p,after := af,guard := g } rest aM aW ck k) σ = exec md P n R sp m (.dres (stepOp P (σ.restr (tms [x] ++ gsl all g) (idsL σ [x]) (b + i)) (b + i) (.load t' x)) (idsL σ [x]) [] (tms [x] ++ gsl all g) d all b i rest aM aW ck k) σ := rfl
theorem exec_d_store {all b i d t p af g rest aM aW ck t' x y} : exec md P n R sp (m + 1) (.dgd (some true) all b i { dst := d,op := .store t' x y,type := t,pos := p,after := af,guard := g } rest aM aW ck k) σ = exec md P n R sp m (.dres (stepOp P (σ.restr (tms [x,y] ++ gsl all g) (idsL σ [x,y]) (b + i)) (b + i) (.store t' x y)) (idsL σ [x,y]) ((b + i) :: idsL σ [x,y]) (tms [x,y] ++ gsl all g) d all b i rest aM aW ck k) σ := rfl
theorem exec_d_nilCheck {all b i d t p af g rest aM aW ck x} : exec md P n R sp (m + 1) (.dgd (some true) all b i { dst := d,op := .nilCheck x,type := t,pos := p,after := af,guard := g } rest aM aW ck k) σ = exec md P n R sp m (.dres (stepOp P (σ.restr (tms [x] ++ gsl all g) (idsL σ [x]) (b + i)) (b + i) (.nilCheck x)) (idsL σ [x]) [] (tms [x] ++ gsl all g) d all b i rest aM aW ck k) σ := rfl
theorem exec_d_binOp_t {all b i d t p af g rest aM aW ck o t' x yy u} : exec md P n R sp (m + 1) (.dgd (some true) all b i { dst := d,op := .binOp o t' x (.tmp yy) u,type := t,pos := p,after := af,guard := g } rest aM aW ck k) σ = exec md P n R sp m (.dres (stepOp P (σ.restr (tms [x,(.tmp yy)] ++ gsl all g) ([]) (b + i)) (b + i) (.binOp o t' x (.tmp yy) u)) ([]) [] (tms [x,(.tmp yy)] ++ gsl all g) d all b i rest aM aW ck k) σ := rfl
theorem exec_d_binOp_i {all b i d t p af g rest aM aW ck o t' x yk yy u} : exec md P n R sp (m + 1) (.dgd (some true) all b i { dst := d,op := .binOp o t' x (.const (.int yk yy)) u,type := t,pos := p,after := af,guard := g } rest aM aW ck k) σ = exec md P n R sp m (.dres (stepOp P (σ.restr (tms [x,(.const (.int yk yy))] ++ gsl all g) ([]) (b + i)) (b + i) (.binOp o t' x (.const (.int yk yy)) u)) ([]) [] (tms [x,(.const (.int yk yy))] ++ gsl all g) d all b i rest aM aW ck k) σ := rfl
theorem exec_d_binOp_b {all b i d t p af g rest aM aW ck o t' x yy u} : exec md P n R sp (m + 1) (.dgd (some true) all b i { dst := d,op := .binOp o t' x (.const (.bool yy)) u,type := t,pos := p,after := af,guard := g } rest aM aW ck k) σ = exec md P n R sp m (.dres (stepOp P (σ.restr (tms [x,(.const (.bool yy))] ++ gsl all g) ([]) (b + i)) (b + i) (.binOp o t' x (.const (.bool yy)) u)) ([]) [] (tms [x,(.const (.bool yy))] ++ gsl all g) d all b i rest aM aW ck k) σ := rfl
theorem exec_d_binOp_s {all b i d t p af g rest aM aW ck o t' x yy u} : exec md P n R sp (m + 1) (.dgd (some true) all b i { dst := d,op := .binOp o t' x (.const (.string yy)) u,type := t,pos := p,after := af,guard := g } rest aM aW ck k) σ = exec md P n R sp m (.dres (stepOp P (σ.restr (tms [x,(.const (.string yy))] ++ gsl all g) ([]) (b + i)) (b + i) (.binOp o t' x (.const (.string yy)) u)) ([]) [] (tms [x,(.const (.string yy))] ++ gsl all g) d all b i rest aM aW ck k) σ := rfl
theorem exec_d_binOp_p {all b i d t p af g rest aM aW ck o t' x yy u} : exec md P n R sp (m + 1) (.dgd (some true) all b i { dst := d,op := .binOp o t' x (.const (.pointer yy)) u,type := t,pos := p,after := af,guard := g } rest aM aW ck k) σ = exec md P n R sp m (.dres (stepOp P (σ.restr (tms [x,(.const (.pointer yy))] ++ gsl all g) ([]) (b + i)) (b + i) (.binOp o t' x (.const (.pointer yy)) u)) ([]) [] (tms [x,(.const (.pointer yy))] ++ gsl all g) d all b i rest aM aW ck k) σ := rfl
theorem exec_d_binOp_f {all b i d t p af g rest aM aW ck o t' x yy u} : exec md P n R sp (m + 1) (.dgd (some true) all b i { dst := d,op := .binOp o t' x (.func yy) u,type := t,pos := p,after := af,guard := g } rest aM aW ck k) σ = exec md P n R sp m (.dres (stepOp P (σ.restr (tms [x,(.func yy)] ++ gsl all g) ([]) (b + i)) (b + i) (.binOp o t' x (.func yy) u)) ([]) [] (tms [x,(.func yy)] ++ gsl all g) d all b i rest aM aW ck k) σ := rfl
theorem exec_d_unOp {all b i d t p af g rest aM aW ck o t' x} : exec md P n R sp (m + 1) (.dgd (some true) all b i { dst := d,op := .unOp o t' x,type := t,pos := p,after := af,guard := g } rest aM aW ck k) σ = exec md P n R sp m (.dres (stepOp P (σ.restr (tms [x] ++ gsl all g) ([]) (b + i)) (b + i) (.unOp o t' x)) ([]) [] (tms [x] ++ gsl all g) d all b i rest aM aW ck k) σ := rfl
theorem exec_d_convert {all b i d t p af g rest aM aW ck s d' x} : exec md P n R sp (m + 1) (.dgd (some true) all b i { dst := d,op := .convert s d' x,type := t,pos := p,after := af,guard := g } rest aM aW ck k) σ = exec md P n R sp m (.dres (stepOp P (σ.restr (tms [x] ++ gsl all g) (idsL σ [x]) (b + i)) (b + i) (.convert s d' x)) (idsL σ [x]) [] (tms [x] ++ gsl all g) d all b i rest aM aW ck k) σ := rfl
theorem exec_d_makeSlice {all b i d t p af g rest aM aW ck t' l c} : exec md P n R sp (m + 1) (.dgd (some true) all b i { dst := d,op := .makeSlice t' l c,type := t,pos := p,after := af,guard := g } rest aM aW ck k) σ = exec md P n R sp m (.dres (stepOp P (σ.restr (tms [l,c] ++ gsl all g) (idsL σ [l,c]) (b + i)) (b + i) (.makeSlice t' l c)) (idsL σ [l,c]) ((b + i) :: idsL σ [l,c]) (tms [l,c] ++ gsl all g) d all b i rest aM aW ck k) σ := rfl
theorem exec_d_fieldAddr {all b i d t p af g rest aM aW ck t' x f} : exec md P n R sp (m + 1) (.dgd (some true) all b i { dst := d,op := .fieldAddr t' x f,type := t,pos := p,after := af,guard := g } rest aM aW ck k) σ = exec md P n R sp m (.dres (stepOp P (σ.restr (tms [x] ++ gsl all g) ([]) (b + i)) (b + i) (.fieldAddr t' x f)) ([]) [] (tms [x] ++ gsl all g) d all b i rest aM aW ck k) σ := rfl
theorem exec_d_field {all b i d t p af g rest aM aW ck t' x f} : exec md P n R sp (m + 1) (.dgd (some true) all b i { dst := d,op := .field t' x f,type := t,pos := p,after := af,guard := g } rest aM aW ck k) σ = exec md P n R sp m (.dres (stepOp P (σ.restr (tms [x] ++ gsl all g) (idsL σ [x]) (b + i)) (b + i) (.field t' x f)) (idsL σ [x]) [] (tms [x] ++ gsl all g) d all b i rest aM aW ck k) σ := rfl
theorem exec_d_indexAddr {all b i d t p af g rest aM aW ck t' x j} : exec md P n R sp (m + 1) (.dgd (some true) all b i { dst := d,op := .indexAddr t' x j,type := t,pos := p,after := af,guard := g } rest aM aW ck k) σ = exec md P n R sp m (.dres (stepOp P (σ.restr (tms [x,j] ++ gsl all g) (idsL σ [x,j]) (b + i)) (b + i) (.indexAddr t' x j)) (idsL σ [x,j]) [] (tms [x,j] ++ gsl all g) d all b i rest aM aW ck k) σ := rfl
theorem exec_d_index {all b i d t p af g rest aM aW ck t' x j} : exec md P n R sp (m + 1) (.dgd (some true) all b i { dst := d,op := .index t' x j,type := t,pos := p,after := af,guard := g } rest aM aW ck k) σ = exec md P n R sp m (.dres (stepOp P (σ.restr (tms [x,j] ++ gsl all g) (idsL σ [x,j]) (b + i)) (b + i) (.index t' x j)) (idsL σ [x,j]) [] (tms [x,j] ++ gsl all g) d all b i rest aM aW ck k) σ := rfl
theorem exec_d_extract {all b i d t p af g rest aM aW ck x j} : exec md P n R sp (m + 1) (.dgd (some true) all b i { dst := d,op := .extract x j,type := t,pos := p,after := af,guard := g } rest aM aW ck k) σ = exec md P n R sp m (.dres (stepOp P (σ.restr (tms [x] ++ gsl all g) ([]) (b + i)) (b + i) (.extract x j)) ([]) [] (tms [x] ++ gsl all g) d all b i rest aM aW ck k) σ := rfl
theorem exec_d_lookup {all b i d t p af g rest aM aW ck t' x j c} : exec md P n R sp (m + 1) (.dgd (some true) all b i { dst := d,op := .lookup t' x j c,type := t,pos := p,after := af,guard := g } rest aM aW ck k) σ = exec md P n R sp m (.dres (stepOp P (σ.restr (tms [x,j] ++ gsl all g) (idsL σ [x,j]) (b + i)) (b + i) (.lookup t' x j c)) (idsL σ [x,j]) [] (tms [x,j] ++ gsl all g) d all b i rest aM aW ck k) σ := rfl
theorem exec_d_build {all b i d t p af g rest aM aW ck t' ps} : exec md P n R sp (m + 1) (.dgd (some true) all b i { dst := d,op := .build t' ps,type := t,pos := p,after := af,guard := g } rest aM aW ck k) σ = exec md P n R sp m (.dres (stepOp P (σ.restr (tms (opers ps.toList) ++ gsl all g) (idsL σ (opers ps.toList)) (b + i)) (b + i) (.build t' ps)) (idsL σ (opers ps.toList)) ((b + i) :: idsL σ (opers ps.toList)) (tms (opers ps.toList) ++ gsl all g) d all b i rest aM aW ck k) σ := by
 have e : (Op.build t' ps).operands.toList = opers ps.toList := by simp [Op.operands,opers]
 simp [exec,isCall,lk,foot,writes,e]
theorem exec_d_makeFunc {all b i d t p af g rest aM aW ck f cs} : exec md P n R sp (m + 1) (.dgd (some true) all b i { dst := d,op := .makeFunc f #[] cs,type := t,pos := p,after := af,guard := g } rest aM aW ck k) σ = exec md P n R sp m (.dres (stepOp P (σ.restr (tms cs.toList ++ gsl all g) (idsL σ cs.toList) (b + i)) (b + i) (.makeFunc f #[] cs)) (idsL σ cs.toList) ((b + i) :: idsL σ cs.toList) (tms cs.toList ++ gsl all g) d all b i rest aM aW ck k) σ := by
 have e : (Op.makeFunc f #[] cs).operands.toList = cs.toList := by simp [Op.operands]
 simp [exec,isCall,lk,foot,writes,e]
theorem exec_d_buildSlice {all b i d t p af g rest aM aW ck t' l ps} : exec md P n R sp (m + 1) (.dgd (some true) all b i { dst := d,op := .buildSlice t' l ps,type := t,pos := p,after := af,guard := g } rest aM aW ck k) σ = exec md P n R sp m (.dres (stepOp P (σ.restr (tms (opers ps.toList) ++ gsl all g) (idsL σ (opers ps.toList)) (b + i)) (b + i) (.buildSlice t' l ps)) (idsL σ (opers ps.toList)) ((b + i) :: idsL σ (opers ps.toList)) (tms (opers ps.toList) ++ gsl all g) d all b i rest aM aW ck k) σ := by
 have e : (Op.buildSlice t' l ps).operands.toList = opers ps.toList := by simp [Op.operands,opers]
 simp [exec,isCall,lk,foot,writes,e]
theorem exec_d_len {all b i d t p af g rest aM aW ck xs ts} : exec md P n R sp (m + 1) (.dgd (some true) all b i { dst := d,op := .call { callee := .builtin .len,args := xs,argTypes := ts },type := t,pos := p,after := af,guard := g } rest aM aW ck k) σ = exec md P n R sp m (.dres (stepOp P (σ.restr (tms xs.toList ++ gsl all g) (idsL σ xs.toList) (b + i)) (b + i) (.call { callee := .builtin .len,args := xs,argTypes := ts })) (idsL σ xs.toList) [] (tms xs.toList ++ gsl all g) d all b i rest aM aW ck k) σ := by
 have e : (Op.call { callee := .builtin .len,args := xs,argTypes := ts }).operands.toList = xs.toList := by simp [Op.operands,Call.operands]
 simp [exec,isCall,lk,foot,writes,e]
theorem exec_d_append {all b i d t p af g rest aM aW ck xs ts} : exec md P n R sp (m + 1) (.dgd (some true) all b i { dst := d,op := .call { callee := .builtin .append,args := xs,argTypes := ts },type := t,pos := p,after := af,guard := g } rest aM aW ck k) σ = exec md P n R sp m (.dres (stepOp P (σ.restr (tms xs.toList ++ gsl all g) (idsL σ xs.toList) (b + i)) (b + i) (.call { callee := .builtin .append,args := xs,argTypes := ts })) (idsL σ xs.toList) ((b + i) :: idsL σ xs.toList) (tms xs.toList ++ gsl all g) d all b i rest aM aW ck k) σ := by
 have e : (Op.call { callee := .builtin .append,args := xs,argTypes := ts }).operands.toList = xs.toList := by simp [Op.operands,Call.operands]
 simp [exec,isCall,lk,foot,writes,e]
theorem exec_d_min {all b i d t p af g rest aM aW ck xs ts} : exec md P n R sp (m + 1) (.dgd (some true) all b i { dst := d,op := .call { callee := .builtin .min,args := xs,argTypes := ts },type := t,pos := p,after := af,guard := g } rest aM aW ck k) σ = exec md P n R sp m (.dres (stepOp P (σ.restr (tms xs.toList ++ gsl all g) (idsL σ xs.toList) (b + i)) (b + i) (.call { callee := .builtin .min,args := xs,argTypes := ts })) (idsL σ xs.toList) [] (tms xs.toList ++ gsl all g) d all b i rest aM aW ck k) σ := by
 have e : (Op.call { callee := .builtin .min,args := xs,argTypes := ts }).operands.toList = xs.toList := by simp [Op.operands,Call.operands]
 simp [exec,isCall,lk,foot,writes,e]
theorem exec_d_max {all b i d t p af g rest aM aW ck xs ts} : exec md P n R sp (m + 1) (.dgd (some true) all b i { dst := d,op := .call { callee := .builtin .max,args := xs,argTypes := ts },type := t,pos := p,after := af,guard := g } rest aM aW ck k) σ = exec md P n R sp m (.dres (stepOp P (σ.restr (tms xs.toList ++ gsl all g) (idsL σ xs.toList) (b + i)) (b + i) (.call { callee := .builtin .max,args := xs,argTypes := ts })) (idsL σ xs.toList) [] (tms xs.toList ++ gsl all g) d all b i rest aM aW ck k) σ := by
 have e : (Op.call { callee := .builtin .max,args := xs,argTypes := ts }).operands.toList = xs.toList := by simp [Op.operands,Call.operands]
 simp [exec,isCall,lk,foot,writes,e]
theorem exec_d_cap {all b i d t p af g rest aM aW ck xs ts} : exec md P n R sp (m + 1) (.dgd (some true) all b i { dst := d,op := .call { callee := .builtin .cap,args := xs,argTypes := ts },type := t,pos := p,after := af,guard := g } rest aM aW ck k) σ = exec md P n R sp m (.dres (stepOp P (σ.restr (tms xs.toList ++ gsl all g) (idsL σ xs.toList) (b + i)) (b + i) (.call { callee := .builtin .cap,args := xs,argTypes := ts })) (idsL σ xs.toList) [] (tms xs.toList ++ gsl all g) d all b i rest aM aW ck k) σ := by
 have e : (Op.call { callee := .builtin .cap,args := xs,argTypes := ts }).operands.toList = xs.toList := by simp [Op.operands,Call.operands]
 simp [exec,isCall,lk,foot,writes,e]
theorem exec_d_copy {all b i d t p af g rest aM aW ck xs ts} : exec md P n R sp (m + 1) (.dgd (some true) all b i { dst := d,op := .call { callee := .builtin .copy,args := xs,argTypes := ts },type := t,pos := p,after := af,guard := g } rest aM aW ck k) σ = exec md P n R sp m (.dres (stepOp P (σ.restr (tms xs.toList ++ gsl all g) (idsL σ xs.toList) (b + i)) (b + i) (.call { callee := .builtin .copy,args := xs,argTypes := ts })) (idsL σ xs.toList) ((b + i) :: idsL σ xs.toList) (tms xs.toList ++ gsl all g) d all b i rest aM aW ck k) σ := by
 have e : (Op.call { callee := .builtin .copy,args := xs,argTypes := ts }).operands.toList = xs.toList := by simp [Op.operands,Call.operands]
 simp [exec,isCall,lk,foot,writes,e]
theorem exec_d_clear {all b i d t p af g rest aM aW ck xs ts} : exec md P n R sp (m + 1) (.dgd (some true) all b i { dst := d,op := .call { callee := .builtin .clear,args := xs,argTypes := ts },type := t,pos := p,after := af,guard := g } rest aM aW ck k) σ = exec md P n R sp m (.dres (stepOp P (σ.restr (tms xs.toList ++ gsl all g) (idsL σ xs.toList) (b + i)) (b + i) (.call { callee := .builtin .clear,args := xs,argTypes := ts })) (idsL σ xs.toList) ((b + i) :: idsL σ xs.toList) (tms xs.toList ++ gsl all g) d all b i rest aM aW ck k) σ := by
 have e : (Op.call { callee := .builtin .clear,args := xs,argTypes := ts }).operands.toList = xs.toList := by simp [Op.operands,Call.operands]
 simp [exec,isCall,lk,foot,writes,e]
theorem exec_d_slice_l {all b i d t p af g rest aM aW ck t' x lo } : exec md P n R sp (m + 1) (.dgd (some true) all b i { dst := d,op := .slice t' x (some lo) none none,type := t,pos := p,after := af,guard := g } rest aM aW ck k) σ = exec md P n R sp m (.dres (stepOp P (σ.restr (tms [x,lo] ++ gsl all g) (idsL σ [x,lo]) (b + i)) (b + i) (.slice t' x (some lo) none none)) (idsL σ [x,lo]) (wsl (b + i) (idsL σ [x,lo]) (σ.ev x)) (tms [x,lo] ++ gsl all g) d all b i rest aM aW ck k) σ := rfl
theorem exec_d_slice_h {all b i d t p af g rest aM aW ck t' x hi} : exec md P n R sp (m + 1) (.dgd (some true) all b i { dst := d,op := .slice t' x none (some hi) none,type := t,pos := p,after := af,guard := g } rest aM aW ck k) σ = exec md P n R sp m (.dres (stepOp P (σ.restr (tms [x,hi] ++ gsl all g) (idsL σ [x,hi]) (b + i)) (b + i) (.slice t' x none (some hi) none)) (idsL σ [x,hi]) (wsl (b + i) (idsL σ [x,hi]) (σ.ev x)) (tms [x,hi] ++ gsl all g) d all b i rest aM aW ck k) σ := rfl
theorem exec_d_slice_hm {all b i d t p af g rest aM aW ck t' x hi mx} : exec md P n R sp (m + 1) (.dgd (some true) all b i { dst := d,op := .slice t' x none (some hi) (some mx),type := t,pos := p,after := af,guard := g } rest aM aW ck k) σ = exec md P n R sp m (.dres (stepOp P (σ.restr (tms [x,hi,mx] ++ gsl all g) (idsL σ [x,hi,mx]) (b + i)) (b + i) (.slice t' x none (some hi) (some mx))) (idsL σ [x,hi,mx]) (wsl (b + i) (idsL σ [x,hi,mx]) (σ.ev x)) (tms [x,hi,mx] ++ gsl all g) d all b i rest aM aW ck k) σ := rfl
theorem exec_d_slice_lh {all b i d t p af g rest aM aW ck t' x lo hi} : exec md P n R sp (m + 1) (.dgd (some true) all b i { dst := d,op := .slice t' x (some lo) (some hi) none,type := t,pos := p,after := af,guard := g } rest aM aW ck k) σ = exec md P n R sp m (.dres (stepOp P (σ.restr (tms [x,lo,hi] ++ gsl all g) (idsL σ [x,lo,hi]) (b + i)) (b + i) (.slice t' x (some lo) (some hi) none)) (idsL σ [x,lo,hi]) (wsl (b + i) (idsL σ [x,lo,hi]) (σ.ev x)) (tms [x,lo,hi] ++ gsl all g) d all b i rest aM aW ck k) σ := rfl
theorem wsl_vw {nid M id sz l n} : wsl nid M (.vw id sz l n) = [] := rfl
theorem wsl_ref {nid M j} : wsl nid M (.ref j) = nid :: M := rfl
theorem wsl_val {nid M p} : wsl nid M (.val p) = nid :: M := rfl
theorem wsl_nils {nid M} : wsl nid M .nils = nid :: M := rfl
theorem tms_nil : tms [] = [] := rfl
theorem tms_tmp {t r} : tms (.tmp t :: r) = t :: tms r := rfl
theorem tms_const {v r} : tms (.const v :: r) = tms r := rfl
theorem tms_func {v r} : tms (.func v :: r) = tms r := rfl
theorem gsl_none {all} : gsl all none = [] := rfl
def gs1 : Option Nat → List Nat
 | some t => [t]
 | none => []
theorem gsl_some {all j w} : gsl all (some (j,w)) = gs1 (gslot all j) := by
 simp only [gsl,gs1]
 cases gslot all j <;> rfl
theorem gs1_some {t} : gs1 (some t) = [t] := rfl
theorem idsL_nil : idsL σ [] = [] := rfl
theorem idsL_cons {x r} : idsL σ (x :: r) = (σ.ev x).ids ++ idsL σ r := rfl
theorem ids_val {p} : (AV.val p).ids = [] := rfl
theorem ids_nils : AV.nils.ids = [] := rfl
theorem ids_any : AV.any.ids = [] := rfl
theorem ids_tup {ps} : (AV.tup ps).ids = [] := rfl
theorem ids_ref {i} : (AV.ref i).ids = [i] := rfl
theorem ids_adr {i o} : (AV.adr i o).ids = [i] := rfl
theorem ids_ead {i s j o} : (AV.ead i s j o).ids = [i] := rfl
theorem restr_sl_nil {M : List Nat} {nid t : Nat} : (σ.restr [] M nid).sl t = .any := rfl
theorem restr_sl_cons {s : Nat} {S M : List Nat} {nid t : Nat} : (σ.restr (s :: S) M nid).sl t = if s = t then σ.sl t else (σ.restr S M nid).sl t := by
 simp only [St.restr,List.contains_cons]
 by_cases h : s = t
 ·subst h; simp
 ·have h' : (t == s) = false := by simpa using fun e => h (Eq.symm e)
  simp [h,h']
theorem restr_ob_nil {S : List Nat} {nid i : Nat} : (σ.restr S [] nid).ob i = if nid = i then σ.ob i else .gone := by
 simp only [St.restr,List.contains_nil,Bool.false_or,beq_iff_eq]
 by_cases h : nid = i
 ·subst h; simp
 ·rw [if_neg h,if_neg (Ne.symm h)]
theorem restr_ob_cons {S M : List Nat} {nid k' i : Nat} : (σ.restr S (k' :: M) nid).ob i = if k' = i then σ.ob i else (σ.restr S M nid).ob i := by
 simp only [St.restr,List.contains_cons]
 by_cases h : k' = i
 ·subst h; simp
 ·have h' : (i == k') = false := by simpa using fun e => h (Eq.symm e)
  simp [h,h']
theorem restr_ck {S M : List Nat} {nid : Nat} : (σ.restr S M nid).ck = σ.ck := rfl
theorem patch_sl_some {τ : St} {W : List Nat} {d t : Nat} : (σ.patch τ W (some d)).sl t = if d = t then τ.sl t else σ.sl t := by
 rw [patch_sl]
 by_cases h : d = t <;> simp [h]
theorem patch_sl_none {τ : St} {W : List Nat} {t : Nat} : (σ.patch τ W none).sl t = σ.sl t := by rw [patch_sl]; simp
theorem patch_ob_nil {τ : St} {d i} : (σ.patch τ [] d).ob i = σ.ob i := by rw [patch_ob]; simp
theorem patch_ob_cons {τ : St} {k' : Nat} {W : List Nat} {d i} : (σ.patch τ (k' :: W) d).ob i = if k' = i then τ.ob i else (σ.patch τ W d).ob i := by
 simp only [patch_ob,List.contains_cons]
 by_cases h : k' = i
 ·subst h; simp
 ·have h' : (i == k') = false := by simpa using fun e => h (Eq.symm e)
  simp [h,h']
theorem patch_ck {τ : St} {W : List Nat} {d} : (σ.patch τ W d).ck = σ.ck := rfl
theorem patch_set {τ : St} {d : Nat} {v : AV} : σ.patch (τ.set d v) [] (some d) = σ.set d v := patch_put trivial (d := some d)
theorem patch_none {τ : St} : σ.patch τ [] none = σ := St.eq_of (fun t => by rw [patch_sl]; simp) (fun k => by rw [patch_ob]; simp) rfl
theorem chg_refl {W : List Nat} : Chg σ σ W = True := eq_true fun _ _ => rfl
theorem chg_setOb {τ : St} {W : List Nat} {i o} (h : i ∈ W) : Chg τ (σ.setOb i o) W = Chg τ σ W := by
 refine propext ⟨fun hc k hk => ?_,fun hc k hk => ?_⟩
 ·rw [← hc k hk]; simp only [St.setOb]; rw [if_neg (fun e : k = i => hk (e ▸ h))]
 ·rw [← hc k hk]; simp only [St.setOb]; rw [if_neg (fun e : k = i => hk (e ▸ h))]
theorem mok_val {S M nid p} : mok σ S M nid (.val p) = True := rfl
theorem mok_nils {S M nid} : mok σ S M nid .nils = True := rfl
theorem mok_any {S M nid} : mok σ S M nid .any = True := rfl
theorem mok_tup {S M nid ps} : mok σ S M nid (.tup ps) = True := rfl
theorem mok_ref {S M nid i} : mok σ S M nid (.ref i) = (i = nid ∨ mokL σ i S ∨ mokO σ i M) := rfl
theorem mok_adr {S M nid i o} : mok σ S M nid (.adr i o) = (i = nid ∨ mokL σ i S ∨ mokO σ i M) := rfl
theorem mok_ead {S M nid i s j o} : mok σ S M nid (.ead i s j o) = (i = nid ∨ mokL σ i S ∨ mokO σ i M) := rfl
theorem mokL_nil {i} : mokL σ i [] = False := rfl
theorem mokL_cons {i s S} : mokL σ i (s :: S) = ((σ.sl s).isMent i = true ∨ mokL σ i S) := rfl
theorem isMent_val {p i} : ((AV.val p).isMent i = true) = False := by simp [AV.isMent]
theorem isMent_nils {i} : (AV.nils.isMent i = true) = False := by simp [AV.isMent]
theorem isMent_any {i} : (AV.any.isMent i = true) = False := by simp [AV.isMent]
theorem isMent_tup {p i} : ((AV.tup p).isMent i = true) = False := by simp [AV.isMent]
theorem isMent_ref {j i} : ((AV.ref j).isMent i = true) = (j = i) := by simp [AV.isMent]
theorem isMent_adr {j o i} : ((AV.adr j o).isMent i = true) = (j = i) := by simp [AV.isMent]
theorem isMent_ead {j s x o i} : ((AV.ead j s x o).isMent i = true) = (j = i) := by simp [AV.isMent]
theorem mokO_nil {i} : mokO σ i [] = False := rfl
theorem mokO_cons {i k M} : mokO σ i (k :: M) = (obM i (σ.ob k) ∨ mokO σ i M) := rfl
theorem obM_box {i ag cs} : obM i (.box ag cs) = cellsM i cs := rfl
theorem obM_row {i e xs} : obM i (.row e xs) = False := rfl
theorem obM_rowk {i e xs k} : obM i (.rowk e xs k) = False := rfl
theorem obM_prow {i xs} : obM i (.prow xs) = False := rfl
theorem obM_pbox {i x} : obM i (.pbox x) = False := rfl
theorem obM_gone {i} : obM i .gone = False := rfl
theorem obM_free {i} : obM i .free = False := rfl
theorem cellsM_nil {i} : cellsM i [] = False := rfl
theorem cellsM_cons {i c cs} : cellsM i (c :: cs) = (c.isMent i = true ∨ cellsM i cs) := rfl
theorem pln_nil {τ : St} {S M nid} : pln τ S M nid σ [] = True := rfl
theorem pln_cons {τ : St} {S M nid k W} : pln τ S M nid σ (k :: W) = (plO τ S M nid (σ.ob k) ∧ pln τ S M nid σ W) := rfl
theorem plO_box {S M nid ag cs} : plO σ S M nid (.box ag cs) = mokC σ S M nid cs := rfl
theorem plO_row {S M nid e xs} : plO σ S M nid (.row e xs) = True := rfl
theorem plO_rowk {S M nid e xs k} : plO σ S M nid (.rowk e xs k) = True := rfl
theorem plO_prow {S M nid xs} : plO σ S M nid (.prow xs) = True := rfl
theorem plO_pbox {S M nid x} : plO σ S M nid (.pbox x) = True := rfl
theorem plO_gone {S M nid} : plO σ S M nid .gone = True := rfl
theorem plO_free {S M nid} : plO σ S M nid .free = True := rfl
theorem mokC_nil {S M nid} : mokC σ S M nid [] = True := rfl
theorem mokC_cons {S M nid c cs} : mokC σ S M nid (c :: cs) = (mok σ S M nid c ∧ mokC σ S M nid cs) := rfl
theorem noMent_row {e xs} : (Ob.row e xs).noMent = true := rfl
theorem noMent_prow {xs} : (Ob.prow xs).noMent = true := rfl
theorem noMent_pbox {x} : (Ob.pbox x).noMent = true := rfl
theorem noMent_gone : Ob.gone.noMent = true := rfl
theorem noMent_free : Ob.free.noMent = true := rfl
theorem noMent_box {ag cs} : (Ob.box ag cs).noMent = cs.all AV.noMent := rfl
theorem noMentA_val {p} : (AV.val p).noMent = true := rfl
theorem noMentA_nils : AV.nils.noMent = true := rfl
end
attribute [go_sem ↓] exec_draw exec_drnil exec_drcons exec_dgdF exec_d_call exec_dres exec_dres_ite exec_d_slice_l exec_d_slice_h exec_d_slice_hm exec_d_slice_lh exec_d_move exec_d_assign exec_d_pick exec_d_alloc exec_d_box exec_d_load exec_d_store exec_d_nilCheck exec_d_binOp_t exec_d_binOp_i exec_d_binOp_b exec_d_binOp_s exec_d_binOp_p exec_d_binOp_f exec_d_unOp exec_d_convert exec_d_makeSlice exec_d_fieldAddr exec_d_field exec_d_indexAddr exec_d_index exec_d_extract exec_d_lookup exec_d_build exec_d_buildSlice exec_d_makeFunc exec_d_len exec_d_append exec_d_min exec_d_max exec_d_cap exec_d_copy exec_d_clear
attribute [go_sem] wsl_vw wsl_ref wsl_val wsl_nils exec_d_slice_l exec_d_slice_h exec_d_slice_hm exec_d_slice_lh exec_dgdF exec_d_call exec_dgd_dec exec_d_move exec_d_assign exec_d_pick exec_d_alloc exec_d_box exec_d_load exec_d_store exec_d_nilCheck exec_d_binOp_t exec_d_binOp_i exec_d_binOp_b exec_d_binOp_s exec_d_binOp_p exec_d_binOp_f exec_d_unOp exec_d_convert exec_d_makeSlice exec_d_fieldAddr exec_d_field exec_d_indexAddr exec_d_index exec_d_extract exec_d_lookup exec_d_build exec_d_buildSlice exec_d_makeFunc exec_d_len exec_d_append exec_d_min exec_d_max exec_d_cap exec_d_copy exec_d_clear
attribute [go_sem] tms_nil tms_tmp tms_const tms_func gsl_none gsl_some gs1_some idsL_nil idsL_cons ids_val ids_nils ids_any ids_tup ids_ref ids_adr ids_ead restr_sl_nil restr_sl_cons restr_ob_nil restr_ob_cons restr_ck patch_sl_some patch_sl_none patch_ob_nil patch_ob_cons patch_ck patch_set patch_none chg_refl chg_setOb mok_val mok_nils mok_any mok_tup mok_ref mok_adr mok_ead mokL_nil mokL_cons mokO_nil mokO_cons obM_box obM_row obM_rowk obM_prow obM_pbox obM_gone obM_free cellsM_nil cellsM_cons plO_box plO_row plO_rowk plO_prow plO_pbox plO_gone plO_free mokC_nil mokC_cons isMent_val isMent_nils isMent_any isMent_tup isMent_ref isMent_adr isMent_ead pln_nil pln_cons noMent_row noMent_prow noMent_pbox noMent_gone noMent_free noMent_box noMentA_val noMentA_nils List.mem_cons List.not_mem_nil true_or or_true or_false false_or
end Go.Proofs.Zv
namespace Go.Proofs.Zv
open Go Classical
def eqFs (P : Program) (K : TypeId → Option (List KD)) : Nat → List Field → Option (List KD)
 | _,[] => some []
 | o,f :: fs => if (f.name == "_") = true ∨ f.offset ≠ o then none else match K f.type with
  | some ks => if szOf P f.type = some ks.length then match eqFs P K (o + ks.length) fs with
   | some r => some (ks ++ r)
   | none => none else none
  | none => none
def eqK (P : Program) : Nat → TypeId → Option (List KD)
 | 0,_ => none
 | d + 1,t => match P.underlying t with
  | some (.int k) => some [.int k]
  | some .bool => some [.bool]
  | some .string => some [.str]
  | some (.struct fs) => if P.stoodInHeld t = true then none else eqFs P (eqK P d) 0 fs.toList
  | _ => none
def wrapV (ag : Bool) (vs : List Value) : Value := if ag = true then .agg ⟨vs⟩ else vs.headD undef
section
variable {P : Program}
def EqOK (P : Program) (t : TypeId) (d : Nat) (ks : List KD) : Prop :=
 ∃ ag,aggOf P t = some ag ∧ (ag = false → ks.length = 1) ∧ ∀ (D : Nat) (w : World) (F : Nat → Prop) (ps qs : List PV) (vs us : List Value),d ≤ D → Reps w F ps vs → Reps w F qs us → ps.map PV.kd = ks → qs.map PV.kd = ks →
  (Op.equalIn D t (wrapV ag vs) (wrapV ag us)).run P w = .ok (decide (ps = qs)) w
theorem one_of_map {ps : List PV} {k : KD} (h : ps.map PV.kd = [k]) : ∃ p,ps = [p] ∧ p.kd = k := by
 match ps,h with
 | [p],h => exact ⟨p,rfl,by simpa using h⟩
theorem reps_one {w : World} {F : Nat → Prop} {p : PV} {vs : List Value} (h : Reps w F [p] vs) : ∃ v,vs = [v] ∧ Rep w F p v := by
 match vs,h with
 | [v],h => exact ⟨v,rfl,h.tail.1⟩
 | [],h => cases h.1
 | _ :: _ :: _,h => cases h.1
theorem run_part_wrap {t : TypeId} {ag : Bool} {n : Nat} {w : World} {vs : List Value} {o : Nat} (hag : aggOf P t = some ag) (hn : szOf P t = some n) (h1 : ag = false → n = 1) (hl : o + n ≤ vs.length) :
  (part t ⟨vs⟩ o).run P w = .ok (wrapV ag ((vs.drop o).take n)) w := by
 cases ag
 ·obtain rfl := h1 rfl
  have hv : vs[o]? = some vs[o] := List.getElem?_eq_getElem (by omega)
  have e : (vs.drop o).take 1 = [vs[o]] := by
   rw [List.take_one,List.head?_drop,hv]; rfl
  simp [part,run_isAgg hag,hv,wrapV,e]
 ·simp [part,run_isAgg hag,run_sizeOf hn,wrapV]
theorem eqFs_ok {K : TypeId → Option (List KD)} {d D : Nat} (hK : ∀ t ks,K t = some ks → EqOK P t d ks) (hD : d ≤ D) {w : World} {F : Nat → Prop} {ps qs : List PV} {vs us : List Value} (hp : Reps w F ps vs) (hq : Reps w F qs us) :
  ∀ (fs : List Field) (o : Nat) (r : List KD),eqFs P K o fs = some r → (ps.drop o).map PV.kd = r → (qs.drop o).map PV.kd = r → o ≤ ps.length → o ≤ qs.length →
  (Op.eqFields D ⟨vs⟩ ⟨us⟩ fs).run P w = .ok (decide (ps.drop o = qs.drop o)) w := by
 intro fs
 induction fs with
 | nil =>
  intro o r h h1 h2 _ _
  simp only [eqFs,Option.some.injEq] at h
  subst h
  have e1 : ps.drop o = [] := by simpa using h1
  have e2 : qs.drop o = [] := by simpa using h2
  simp [Op.eqFields,e1,e2]
 | cons f fs ih =>
  intro o r h h1 h2 l1 l2
  simp only [eqFs] at h
  split at h
  ·cases h
  rename_i hno
  have hname : f.name ≠ "_" := fun e => hno (.inl (by simp [e]))
  have hoff : f.offset = o := Classical.byContradiction fun e => hno (.inr e)
  split at h
  ·rename_i ks hks
   split at h
   ·rename_i hsz
    split at h
    ·rename_i r' hr'
     obtain rfl := Option.some.inj h
     obtain ⟨ag,hag,hone,heq⟩ := hK _ _ hks
     have n1 : ks.length ≤ (ps.drop o).length := by have := congrArg List.length h1; simp at this ⊢; omega
     have n2 : ks.length ≤ (qs.drop o).length := by have := congrArg List.length h2; simp at this ⊢; omega
     have m1 : o + ks.length ≤ ps.length := by simp at n1; omega
     have m2 : o + ks.length ≤ qs.length := by simp at n2; omega
     have a1 : ((ps.drop o).take ks.length).map PV.kd = ks := by rw [List.map_take,h1]; simp
     have a2 : ((qs.drop o).take ks.length).map PV.kd = ks := by rw [List.map_take,h2]; simp
     have b1 : (ps.drop (o + ks.length)).map PV.kd = r' := by rw [← List.drop_drop,List.map_drop,h1]; simp
     have b2 : (qs.drop (o + ks.length)).map PV.kd = r' := by rw [← List.drop_drop,List.map_drop,h2]; simp
     have hh := heq D w F _ _ _ _ hD ((hp.drop o).take ks.length) ((hq.drop o).take ks.length) a1 a2
     have ht := ih (o + ks.length) r' hr' b1 b2 m1 m2
     have p1 := run_part_wrap (P := P) (w := w) (vs := vs) (o := o) hag hsz hone (by rw [hp.1]; exact m1)
     have p2 := run_part_wrap (P := P) (w := w) (vs := us) (o := o) hag hsz hone (by rw [hq.1]; exact m2)
     have key : (ps.drop o = qs.drop o) ↔ ((ps.drop o).take ks.length = (qs.drop o).take ks.length ∧ ps.drop (o + ks.length) = qs.drop (o + ks.length)) := by
      rw [← List.drop_drop,← List.drop_drop]
      constructor
      ·intro e; rw [e]; exact ⟨rfl,rfl⟩
      ·rintro ⟨e1,e2⟩
       rw [← List.take_append_drop ks.length (ps.drop o),← List.take_append_drop ks.length (qs.drop o),e1,e2]
     simp only [Op.eqFields,ne_eq,hname,not_false_eq_true,if_true,Sem.run_bind,hoff,p1,p2,Result.andThen_ok,hh]
     by_cases hc : (ps.drop o).take ks.length = (qs.drop o).take ks.length
     ·simp only [hc,decide_true,Bool.not_true,Bool.false_eq_true,if_false,ht,key,true_and]
     ·simp only [hc,decide_false,Bool.not_false,if_true,key,false_and,Sem.run_pure]
    ·cases h
   ·cases h
  ·cases h
theorem eqK_ok : ∀ (d : Nat) (t : TypeId) (ks : List KD),eqK P d t = some ks → EqOK P t d ks := by
 intro d
 induction d with
 | zero => intro t ks h; cases h
 | succ d ih =>
  intro t ks h
  simp only [eqK] at h
  split at h
  ·rename_i k hu
   obtain rfl := Option.some.inj h
   refine ⟨false,by simp [aggOf,hu],fun _ => rfl,fun D w F ps qs vs us hD hp hq e1 e2 => ?_⟩
   obtain ⟨p,rfl,hpk⟩ := one_of_map e1
   obtain ⟨q,rfl,hqk⟩ := one_of_map e2
   obtain ⟨v,rfl,hv⟩ := reps_one hp
   obtain ⟨u,rfl,hu'⟩ := reps_one hq
   obtain ⟨D,rfl⟩ : ∃ D',D = D' + 1 := ⟨D - 1,by omega⟩
   cases hv <;> simp [PV.kd] at hpk
   cases hu' <;> simp [PV.kd] at hqk
   subst hpk; subst hqk
   simp only [wrapV,Bool.false_eq_true,if_false,List.headD_cons]
   rw [run_equalIn_int w D t _ _ _ _ hu]
   simp [beq_decide]
  ·rename_i hu
   obtain rfl := Option.some.inj h
   refine ⟨false,by simp [aggOf,hu],fun _ => rfl,fun D w F ps qs vs us hD hp hq e1 e2 => ?_⟩
   obtain ⟨p,rfl,hpk⟩ := one_of_map e1
   obtain ⟨q,rfl,hqk⟩ := one_of_map e2
   obtain ⟨v,rfl,hv⟩ := reps_one hp
   obtain ⟨u,rfl,hu'⟩ := reps_one hq
   obtain ⟨D,rfl⟩ : ∃ D',D = D' + 1 := ⟨D - 1,by omega⟩
   cases hv <;> simp [PV.kd] at hpk
   cases hu' <;> simp [PV.kd] at hqk
   simp only [wrapV,Bool.false_eq_true,if_false,List.headD_cons]
   rw [run_equalIn_bool' w D t _ _ hu]
   simp [beq_decide]
  ·rename_i hu
   obtain rfl := Option.some.inj h
   refine ⟨false,by simp [aggOf,hu],fun _ => rfl,fun D w F ps qs vs us hD hp hq e1 e2 => ?_⟩
   obtain ⟨p,rfl,hpk⟩ := one_of_map e1
   obtain ⟨q,rfl,hqk⟩ := one_of_map e2
   obtain ⟨v,rfl,hv⟩ := reps_one hp
   obtain ⟨u,rfl,hu'⟩ := reps_one hq
   obtain ⟨D,rfl⟩ : ∃ D',D = D' + 1 := ⟨D - 1,by omega⟩
   cases hv <;> simp [PV.kd] at hpk
   cases hu' <;> simp [PV.kd] at hqk
   simp only [wrapV,Bool.false_eq_true,if_false,List.headD_cons]
   rw [run_equalIn_string w D t _ _ hu,bytes_toList,bytes_toList]
   simp [beq_decide]
  ·rename_i fs hu
   split at h
   ·cases h
   rename_i hst
   refine ⟨true,by simp [aggOf,hu],fun e => (by cases e),fun D w F ps qs vs us hD hp hq e1 e2 => ?_⟩
   obtain ⟨D,rfl⟩ : ∃ D',D = D' + 1 := ⟨D - 1,by omega⟩
   have hf : P.fieldsOf t = fs := by simp [Program.fieldsOf,hu]
   simp only [wrapV,if_true]
   rw [run_equalIn_struct w D t _ _ (by rw [hf]; exact hu) (by simpa using hst),hf]
   have := eqFs_ok (P := P) (K := eqK P d) (d := d) (D := D) ih (by omega) hp hq fs.toList 0 ks h (by simpa using e1) (by simpa using e2) (Nat.zero_le _) (Nat.zero_le _)
   simpa using this
  ·cases h
theorem EqT.of {t : TypeId} {ks : List KD} (h : eqK P 20 t = some ks) (hag : aggOf P t = some true) (hg : P.eqGuardType P.depth t = false) : EqT P t ks := by
 obtain ⟨ag,h1,_,h2⟩ := eqK_ok 20 t ks h
 rw [hag] at h1
 obtain rfl := Option.some.inj h1
 intro w F x y ps qs vs us hp hq e1 e2
 have := h2 10000 w F ps qs vs us (by omega) hp hq e1 e2
 simp only [wrapV,if_true] at this
 constructor
 ·simp only [Sem.run_bind,run_eqGuard_agg w .eql t x y _ _ hg,Result.andThen_ok,run_eql_struct,this]
 ·simp only [Sem.run_bind,run_eqGuard_agg w .neq t x y _ _ hg,Result.andThen_ok,run_neq_struct,this]
end
end Go.Proofs.Zv
namespace Go.Proofs.YtfemlllmglaimaaGreat.Ty
open Go.Proofs.Tryz renaming prog → pG
open Go Go.Proofs Go.Proofs.Zv
theorem sz2 : szOf pG 2 = some 1 := by kernel_rfl
theorem by2 : byOf pG 2 = some 8 := by kernel_rfl
theorem ag2 : aggOf pG 2 = some false := by kernel_rfl
theorem un2 : pG.underlying 2 = some (.int .i64) := by kernel_rfl
theorem zr2 : zeroOf pG 2 = some [.val (.int .i64 0)] := by kernel_rfl
theorem sz3 : szOf pG 3 = some 1 := by kernel_rfl
theorem by3 : byOf pG 3 = some 8 := by kernel_rfl
theorem ag3 : aggOf pG 3 = some false := by kernel_rfl
theorem un3 : pG.underlying 3 = some (.int .i64) := by kernel_rfl
theorem zr3 : zeroOf pG 3 = some [.val (.int .i64 0)] := by kernel_rfl
theorem sz4 : szOf pG 4 = some 1 := by kernel_rfl
theorem by4 : byOf pG 4 = some 1 := by kernel_rfl
theorem ag4 : aggOf pG 4 = some false := by kernel_rfl
theorem un4 : pG.underlying 4 = some .bool := by kernel_rfl
theorem zr4 : zeroOf pG 4 = some [.val (.bool false)] := by kernel_rfl
theorem sz5 : szOf pG 5 = some 1 := by kernel_rfl
theorem by5 : byOf pG 5 = some 1 := by kernel_rfl
theorem ag5 : aggOf pG 5 = some false := by kernel_rfl
theorem un5 : pG.underlying 5 = some (.int .u8) := by kernel_rfl
theorem zr5 : zeroOf pG 5 = some [.val (.int .u8 0)] := by kernel_rfl
theorem sz6 : szOf pG 6 = some 1 := by kernel_rfl
theorem by6 : byOf pG 6 = some 1 := by kernel_rfl
theorem ag6 : aggOf pG 6 = some false := by kernel_rfl
theorem un6 : pG.underlying 6 = some (.int .u8) := by kernel_rfl
theorem zr6 : zeroOf pG 6 = some [.val (.int .u8 0)] := by kernel_rfl
theorem sz7 : szOf pG 7 = some 4 := by kernel_rfl
theorem by7 : byOf pG 7 = some 24 := by kernel_rfl
theorem ag7 : aggOf pG 7 = some true := by kernel_rfl
theorem fld7_0 : fldOf pG 7 0 = some (0,2) := by kernel_rfl
theorem fld7_1 : fldOf pG 7 1 = some (1,3) := by kernel_rfl
theorem fld7_2 : fldOf pG 7 2 = some (2,4) := by kernel_rfl
theorem fld7_3 : fldOf pG 7 3 = some (3,6) := by kernel_rfl
theorem pl7 : plOf pG 7 = some [(0,1),(1,1),(2,1),(3,1)] := by kernel_rfl
theorem eq7 : EqT pG 7 [.int .i64,.int .i64,.bool,.int .u8] := EqT.of (by kernel_rfl) (by kernel_rfl) (by kernel_rfl)
theorem zr7 : zeroOf pG 7 = some [.val (.int .i64 0),.val (.int .i64 0),.val (.bool false),.val (.int .u8 0)] := by kernel_rfl
theorem sz8 : szOf pG 8 = some 4 := by kernel_rfl
theorem by8 : byOf pG 8 = some 24 := by kernel_rfl
theorem ag8 : aggOf pG 8 = some true := by kernel_rfl
theorem fld8_0 : fldOf pG 8 0 = some (0,2) := by kernel_rfl
theorem fld8_1 : fldOf pG 8 1 = some (1,3) := by kernel_rfl
theorem fld8_2 : fldOf pG 8 2 = some (2,4) := by kernel_rfl
theorem fld8_3 : fldOf pG 8 3 = some (3,6) := by kernel_rfl
theorem pl8 : plOf pG 8 = some [(0,1),(1,1),(2,1),(3,1)] := by kernel_rfl
theorem eq8 : EqT pG 8 [.int .i64,.int .i64,.bool,.int .u8] := EqT.of (by kernel_rfl) (by kernel_rfl) (by kernel_rfl)
theorem zr8 : zeroOf pG 8 = some [.val (.int .i64 0),.val (.int .i64 0),.val (.bool false),.val (.int .u8 0)] := by kernel_rfl
theorem sz9 : szOf pG 9 = some 1 := by kernel_rfl
theorem by9 : byOf pG 9 = some 16 := by kernel_rfl
theorem ag9 : aggOf pG 9 = some false := by kernel_rfl
theorem un9 : pG.underlying 9 = some .string := by kernel_rfl
theorem zr9 : zeroOf pG 9 = some [.val (.str [])] := by kernel_rfl
theorem sz10 : szOf pG 10 = some 1 := by kernel_rfl
theorem by10 : byOf pG 10 = some 16 := by kernel_rfl
theorem ag10 : aggOf pG 10 = some false := by kernel_rfl
theorem un10 : pG.underlying 10 = some .string := by kernel_rfl
theorem zr10 : zeroOf pG 10 = some [.val (.str [])] := by kernel_rfl
theorem sz11 : szOf pG 11 = some 1 := by kernel_rfl
theorem by11 : byOf pG 11 = some 16 := by kernel_rfl
theorem ag11 : aggOf pG 11 = some false := by kernel_rfl
theorem un11 : pG.underlying 11 = some .string := by kernel_rfl
theorem zr11 : zeroOf pG 11 = some [.val (.str [])] := by kernel_rfl
theorem sz12 : szOf pG 12 = some 1 := by kernel_rfl
theorem by12 : byOf pG 12 = some 8 := by kernel_rfl
theorem ag12 : aggOf pG 12 = some false := by kernel_rfl
theorem un12 : pG.underlying 12 = some (.int .u64) := by kernel_rfl
theorem zr12 : zeroOf pG 12 = some [.val (.int .u64 0)] := by kernel_rfl
theorem sz13 : szOf pG 13 = some 2 := by kernel_rfl
theorem by13 : byOf pG 13 = some 24 := by kernel_rfl
theorem ag13 : aggOf pG 13 = some true := by kernel_rfl
theorem fld13_0 : fldOf pG 13 0 = some (0,9) := by kernel_rfl
theorem fld13_1 : fldOf pG 13 1 = some (1,12) := by kernel_rfl
theorem pl13 : plOf pG 13 = some [(0,1),(1,1)] := by kernel_rfl
theorem zr13 : zeroOf pG 13 = some [.val (.str []),.val (.int .u64 0)] := by kernel_rfl
theorem sz14 : szOf pG 14 = some 2 := by kernel_rfl
theorem by14 : byOf pG 14 = some 24 := by kernel_rfl
theorem ag14 : aggOf pG 14 = some true := by kernel_rfl
theorem fld14_0 : fldOf pG 14 0 = some (0,9) := by kernel_rfl
theorem fld14_1 : fldOf pG 14 1 = some (1,12) := by kernel_rfl
theorem pl14 : plOf pG 14 = some [(0,1),(1,1)] := by kernel_rfl
theorem zr14 : zeroOf pG 14 = some [.val (.str []),.val (.int .u64 0)] := by kernel_rfl
theorem sz15 : szOf pG 15 = some 1 := by kernel_rfl
theorem by15 : byOf pG 15 = some 8 := by kernel_rfl
theorem ag15 : aggOf pG 15 = some false := by kernel_rfl
theorem un15 : pG.underlying 15 = some (.pointer 273) := by kernel_rfl
theorem zr15 : zeroOf pG 15 = some [.val .nilp] := by kernel_rfl
theorem sz16 : szOf pG 16 = some 1 := by kernel_rfl
theorem by16 : byOf pG 16 = some 8 := by kernel_rfl
theorem ag16 : aggOf pG 16 = some false := by kernel_rfl
theorem un16 : pG.underlying 16 = some (.pointer 276) := by kernel_rfl
theorem zr16 : zeroOf pG 16 = some [.val .nilp] := by kernel_rfl
theorem sz17 : szOf pG 17 = some 1 := by kernel_rfl
theorem by17 : byOf pG 17 = some 8 := by kernel_rfl
theorem ag17 : aggOf pG 17 = some false := by kernel_rfl
theorem un17 : pG.underlying 17 = some (.pointer 286) := by kernel_rfl
theorem zr17 : zeroOf pG 17 = some [.val .nilp] := by kernel_rfl
theorem sz18 : szOf pG 18 = some 1 := by kernel_rfl
theorem by18 : byOf pG 18 = some 8 := by kernel_rfl
theorem ag18 : aggOf pG 18 = some true := by kernel_rfl
theorem fld18_0 : fldOf pG 18 0 = some (0,17) := by kernel_rfl
theorem pl18 : plOf pG 18 = some [(0,1)] := by kernel_rfl
theorem zr18 : zeroOf pG 18 = some [.val .nilp] := by kernel_rfl
theorem sz19 : szOf pG 19 = some 1 := by kernel_rfl
theorem by19 : byOf pG 19 = some 8 := by kernel_rfl
theorem ag19 : aggOf pG 19 = some true := by kernel_rfl
theorem fld19_0 : fldOf pG 19 0 = some (0,17) := by kernel_rfl
theorem pl19 : plOf pG 19 = some [(0,1)] := by kernel_rfl
theorem zr19 : zeroOf pG 19 = some [.val .nilp] := by kernel_rfl
theorem sz21 : szOf pG 21 = some 1 := by kernel_rfl
theorem by21 : byOf pG 21 = some 4 := by kernel_rfl
theorem ag21 : aggOf pG 21 = some false := by kernel_rfl
theorem un21 : pG.underlying 21 = some (.int .i32) := by kernel_rfl
theorem zr21 : zeroOf pG 21 = some [.val (.int .i32 0)] := by kernel_rfl
theorem sz22 : szOf pG 22 = some 1 := by kernel_rfl
theorem by22 : byOf pG 22 = some 24 := by kernel_rfl
theorem ag22 : aggOf pG 22 = some false := by kernel_rfl
theorem un22 : pG.underlying 22 = some (.slice 40) := by kernel_rfl
theorem el22 : elOf pG 22 = some 40 := by kernel_rfl
theorem zr22 : zeroOf pG 22 = some [.nils] := by kernel_rfl
theorem sz25 : szOf pG 25 = some 1 := by kernel_rfl
theorem by25 : byOf pG 25 = some 8 := by kernel_rfl
theorem ag25 : aggOf pG 25 = some false := by kernel_rfl
theorem un25 : pG.underlying 25 = some (.pointer 176) := by kernel_rfl
theorem zr25 : zeroOf pG 25 = some [.val .nilp] := by kernel_rfl
theorem sz26 : szOf pG 26 = some 1 := by kernel_rfl
theorem by26 : byOf pG 26 = some 8 := by kernel_rfl
theorem ag26 : aggOf pG 26 = some true := by kernel_rfl
theorem fld26_0 : fldOf pG 26 0 = some (0,25) := by kernel_rfl
theorem pl26 : plOf pG 26 = some [(0,1)] := by kernel_rfl
theorem zr26 : zeroOf pG 26 = some [.val .nilp] := by kernel_rfl
theorem sz27 : szOf pG 27 = some 1 := by kernel_rfl
theorem by27 : byOf pG 27 = some 8 := by kernel_rfl
theorem ag27 : aggOf pG 27 = some true := by kernel_rfl
theorem fld27_0 : fldOf pG 27 0 = some (0,25) := by kernel_rfl
theorem pl27 : plOf pG 27 = some [(0,1)] := by kernel_rfl
theorem zr27 : zeroOf pG 27 = some [.val .nilp] := by kernel_rfl
theorem sz28 : szOf pG 28 = some 1 := by kernel_rfl
theorem by28 : byOf pG 28 = some 24 := by kernel_rfl
theorem ag28 : aggOf pG 28 = some false := by kernel_rfl
theorem un28 : pG.underlying 28 = some (.slice 89) := by kernel_rfl
theorem el28 : elOf pG 28 = some 89 := by kernel_rfl
theorem zr28 : zeroOf pG 28 = some [.nils] := by kernel_rfl
theorem sz29 : szOf pG 29 = some 1 := by kernel_rfl
theorem by29 : byOf pG 29 = some 24 := by kernel_rfl
theorem ag29 : aggOf pG 29 = some false := by kernel_rfl
theorem un29 : pG.underlying 29 = some (.slice 67) := by kernel_rfl
theorem el29 : elOf pG 29 = some 67 := by kernel_rfl
theorem zr29 : zeroOf pG 29 = some [.nils] := by kernel_rfl
theorem sz30 : szOf pG 30 = some 5 := by kernel_rfl
theorem by30 : byOf pG 30 = some 72 := by kernel_rfl
theorem ag30 : aggOf pG 30 = some true := by kernel_rfl
theorem fld30_0 : fldOf pG 30 0 = some (0,27) := by kernel_rfl
theorem fld30_1 : fldOf pG 30 1 = some (1,28) := by kernel_rfl
theorem fld30_2 : fldOf pG 30 2 = some (2,29) := by kernel_rfl
theorem fld30_3 : fldOf pG 30 3 = some (3,3) := by kernel_rfl
theorem fld30_4 : fldOf pG 30 4 = some (4,3) := by kernel_rfl
theorem pl30 : plOf pG 30 = some [(0,1),(1,1),(2,1),(3,1),(4,1)] := by kernel_rfl
theorem zr30 : zeroOf pG 30 = some [.val .nilp,.nils,.nils,.val (.int .i64 0),.val (.int .i64 0)] := by kernel_rfl
theorem sz31 : szOf pG 31 = some 5 := by kernel_rfl
theorem by31 : byOf pG 31 = some 72 := by kernel_rfl
theorem ag31 : aggOf pG 31 = some true := by kernel_rfl
theorem fld31_0 : fldOf pG 31 0 = some (0,27) := by kernel_rfl
theorem fld31_1 : fldOf pG 31 1 = some (1,28) := by kernel_rfl
theorem fld31_2 : fldOf pG 31 2 = some (2,29) := by kernel_rfl
theorem fld31_3 : fldOf pG 31 3 = some (3,3) := by kernel_rfl
theorem fld31_4 : fldOf pG 31 4 = some (4,3) := by kernel_rfl
theorem pl31 : plOf pG 31 = some [(0,1),(1,1),(2,1),(3,1),(4,1)] := by kernel_rfl
theorem zr31 : zeroOf pG 31 = some [.val .nilp,.nils,.nils,.val (.int .i64 0),.val (.int .i64 0)] := by kernel_rfl
theorem sz32 : szOf pG 32 = some 1 := by kernel_rfl
theorem by32 : byOf pG 32 = some 24 := by kernel_rfl
theorem ag32 : aggOf pG 32 = some false := by kernel_rfl
theorem un32 : pG.underlying 32 = some (.slice 77) := by kernel_rfl
theorem el32 : elOf pG 32 = some 77 := by kernel_rfl
theorem zr32 : zeroOf pG 32 = some [.nils] := by kernel_rfl
theorem sz33 : szOf pG 33 = some 1 := by kernel_rfl
theorem by33 : byOf pG 33 = some 24 := by kernel_rfl
theorem ag33 : aggOf pG 33 = some false := by kernel_rfl
theorem un33 : pG.underlying 33 = some (.slice 103) := by kernel_rfl
theorem el33 : elOf pG 33 = some 103 := by kernel_rfl
theorem zr33 : zeroOf pG 33 = some [.nils] := by kernel_rfl
theorem sz34 : szOf pG 34 = some 5 := by kernel_rfl
theorem by34 : byOf pG 34 = some 88 := by kernel_rfl
theorem ag34 : aggOf pG 34 = some true := by kernel_rfl
theorem fld34_0 : fldOf pG 34 0 = some (0,32) := by kernel_rfl
theorem fld34_1 : fldOf pG 34 1 = some (1,28) := by kernel_rfl
theorem fld34_2 : fldOf pG 34 2 = some (2,33) := by kernel_rfl
theorem fld34_3 : fldOf pG 34 3 = some (3,3) := by kernel_rfl
theorem fld34_4 : fldOf pG 34 4 = some (4,3) := by kernel_rfl
theorem pl34 : plOf pG 34 = some [(0,1),(1,1),(2,1),(3,1),(4,1)] := by kernel_rfl
theorem zr34 : zeroOf pG 34 = some [.nils,.nils,.nils,.val (.int .i64 0),.val (.int .i64 0)] := by kernel_rfl
theorem sz35 : szOf pG 35 = some 5 := by kernel_rfl
theorem by35 : byOf pG 35 = some 88 := by kernel_rfl
theorem ag35 : aggOf pG 35 = some true := by kernel_rfl
theorem fld35_0 : fldOf pG 35 0 = some (0,32) := by kernel_rfl
theorem fld35_1 : fldOf pG 35 1 = some (1,28) := by kernel_rfl
theorem fld35_2 : fldOf pG 35 2 = some (2,33) := by kernel_rfl
theorem fld35_3 : fldOf pG 35 3 = some (3,3) := by kernel_rfl
theorem fld35_4 : fldOf pG 35 4 = some (4,3) := by kernel_rfl
theorem pl35 : plOf pG 35 = some [(0,1),(1,1),(2,1),(3,1),(4,1)] := by kernel_rfl
theorem zr35 : zeroOf pG 35 = some [.nils,.nils,.nils,.val (.int .i64 0),.val (.int .i64 0)] := by kernel_rfl
theorem sz36 : szOf pG 36 = some 1 := by kernel_rfl
theorem by36 : byOf pG 36 = some 24 := by kernel_rfl
theorem ag36 : aggOf pG 36 = some false := by kernel_rfl
theorem un36 : pG.underlying 36 = some (.slice 72) := by kernel_rfl
theorem el36 : elOf pG 36 = some 72 := by kernel_rfl
theorem zr36 : zeroOf pG 36 = some [.nils] := by kernel_rfl
theorem sz37 : szOf pG 37 = some 3 := by kernel_rfl
theorem by37 : byOf pG 37 = some 40 := by kernel_rfl
theorem ag37 : aggOf pG 37 = some true := by kernel_rfl
theorem fld37_0 : fldOf pG 37 0 = some (0,9) := by kernel_rfl
theorem fld37_1 : fldOf pG 37 1 = some (1,9) := by kernel_rfl
theorem fld37_2 : fldOf pG 37 2 = some (2,4) := by kernel_rfl
theorem pl37 : plOf pG 37 = some [(0,1),(1,1),(2,1)] := by kernel_rfl
theorem eq37 : EqT pG 37 [.str,.str,.bool] := EqT.of (by kernel_rfl) (by kernel_rfl) (by kernel_rfl)
theorem zr37 : zeroOf pG 37 = some [.val (.str []),.val (.str []),.val (.bool false)] := by kernel_rfl
theorem sz38 : szOf pG 38 = some 3 := by kernel_rfl
theorem by38 : byOf pG 38 = some 40 := by kernel_rfl
theorem ag38 : aggOf pG 38 = some true := by kernel_rfl
theorem fld38_0 : fldOf pG 38 0 = some (0,9) := by kernel_rfl
theorem fld38_1 : fldOf pG 38 1 = some (1,9) := by kernel_rfl
theorem fld38_2 : fldOf pG 38 2 = some (2,4) := by kernel_rfl
theorem pl38 : plOf pG 38 = some [(0,1),(1,1),(2,1)] := by kernel_rfl
theorem eq38 : EqT pG 38 [.str,.str,.bool] := EqT.of (by kernel_rfl) (by kernel_rfl) (by kernel_rfl)
theorem zr38 : zeroOf pG 38 = some [.val (.str []),.val (.str []),.val (.bool false)] := by kernel_rfl
theorem sz39 : szOf pG 39 = some 9 := by kernel_rfl
theorem by39 : byOf pG 39 = some 112 := by kernel_rfl
theorem ag39 : aggOf pG 39 = some true := by kernel_rfl
theorem fld39_0 : fldOf pG 39 0 = some (0,3) := by kernel_rfl
theorem fld39_1 : fldOf pG 39 1 = some (1,36) := by kernel_rfl
theorem fld39_2 : fldOf pG 39 2 = some (2,9) := by kernel_rfl
theorem fld39_3 : fldOf pG 39 3 = some (3,38) := by kernel_rfl
theorem fld39_4 : fldOf pG 39 4 = some (6,3) := by kernel_rfl
theorem fld39_5 : fldOf pG 39 5 = some (7,3) := by kernel_rfl
theorem fld39_6 : fldOf pG 39 6 = some (8,3) := by kernel_rfl
theorem pl39 : plOf pG 39 = some [(0,1),(1,1),(2,1),(3,3),(6,1),(7,1),(8,1)] := by kernel_rfl
theorem zr39 : zeroOf pG 39 = some [.val (.int .i64 0),.nils,.val (.str []),.val (.str []),.val (.str []),.val (.bool false),.val (.int .i64 0),.val (.int .i64 0),.val (.int .i64 0)] := by kernel_rfl
theorem sz40 : szOf pG 40 = some 9 := by kernel_rfl
theorem by40 : byOf pG 40 = some 112 := by kernel_rfl
theorem ag40 : aggOf pG 40 = some true := by kernel_rfl
theorem fld40_0 : fldOf pG 40 0 = some (0,3) := by kernel_rfl
theorem fld40_1 : fldOf pG 40 1 = some (1,36) := by kernel_rfl
theorem fld40_2 : fldOf pG 40 2 = some (2,9) := by kernel_rfl
theorem fld40_3 : fldOf pG 40 3 = some (3,38) := by kernel_rfl
theorem fld40_4 : fldOf pG 40 4 = some (6,3) := by kernel_rfl
theorem fld40_5 : fldOf pG 40 5 = some (7,3) := by kernel_rfl
theorem fld40_6 : fldOf pG 40 6 = some (8,3) := by kernel_rfl
theorem pl40 : plOf pG 40 = some [(0,1),(1,1),(2,1),(3,3),(6,1),(7,1),(8,1)] := by kernel_rfl
theorem zr40 : zeroOf pG 40 = some [.val (.int .i64 0),.nils,.val (.str []),.val (.str []),.val (.str []),.val (.bool false),.val (.int .i64 0),.val (.int .i64 0),.val (.int .i64 0)] := by kernel_rfl
theorem sz41 : szOf pG 41 = some 1 := by kernel_rfl
theorem by41 : byOf pG 41 = some 8 := by kernel_rfl
theorem ag41 : aggOf pG 41 = some false := by kernel_rfl
theorem un41 : pG.underlying 41 = some (.int .i64) := by kernel_rfl
theorem zr41 : zeroOf pG 41 = some [.val (.int .i64 0)] := by kernel_rfl
theorem sz42 : szOf pG 42 = some 3 := by kernel_rfl
theorem by42 : byOf pG 42 = some 56 := by kernel_rfl
theorem ag42 : aggOf pG 42 = some true := by kernel_rfl
theorem fld42_0 : fldOf pG 42 0 = some (0,32) := by kernel_rfl
theorem fld42_1 : fldOf pG 42 1 = some (1,28) := by kernel_rfl
theorem fld42_2 : fldOf pG 42 2 = some (2,4) := by kernel_rfl
theorem pl42 : plOf pG 42 = some [(0,1),(1,1),(2,1)] := by kernel_rfl
theorem zr42 : zeroOf pG 42 = some [.nils,.nils,.val (.bool false)] := by kernel_rfl
theorem sz43 : szOf pG 43 = some 3 := by kernel_rfl
theorem by43 : byOf pG 43 = some 56 := by kernel_rfl
theorem ag43 : aggOf pG 43 = some true := by kernel_rfl
theorem fld43_0 : fldOf pG 43 0 = some (0,32) := by kernel_rfl
theorem fld43_1 : fldOf pG 43 1 = some (1,28) := by kernel_rfl
theorem fld43_2 : fldOf pG 43 2 = some (2,4) := by kernel_rfl
theorem pl43 : plOf pG 43 = some [(0,1),(1,1),(2,1)] := by kernel_rfl
theorem zr43 : zeroOf pG 43 = some [.nils,.nils,.val (.bool false)] := by kernel_rfl
theorem sz44 : szOf pG 44 = some 7 := by kernel_rfl
theorem by44 : byOf pG 44 = some 96 := by kernel_rfl
theorem ag44 : aggOf pG 44 = some true := by kernel_rfl
theorem fld44_0 : fldOf pG 44 0 = some (0,41) := by kernel_rfl
theorem fld44_1 : fldOf pG 44 1 = some (1,3) := by kernel_rfl
theorem fld44_2 : fldOf pG 44 2 = some (2,4) := by kernel_rfl
theorem fld44_3 : fldOf pG 44 3 = some (3,9) := by kernel_rfl
theorem fld44_4 : fldOf pG 44 4 = some (4,43) := by kernel_rfl
theorem pl44 : plOf pG 44 = some [(0,1),(1,1),(2,1),(3,1),(4,3)] := by kernel_rfl
theorem zr44 : zeroOf pG 44 = some [.val (.int .i64 0),.val (.int .i64 0),.val (.bool false),.val (.str []),.nils,.nils,.val (.bool false)] := by kernel_rfl
theorem sz45 : szOf pG 45 = some 7 := by kernel_rfl
theorem by45 : byOf pG 45 = some 96 := by kernel_rfl
theorem ag45 : aggOf pG 45 = some true := by kernel_rfl
theorem fld45_0 : fldOf pG 45 0 = some (0,41) := by kernel_rfl
theorem fld45_1 : fldOf pG 45 1 = some (1,3) := by kernel_rfl
theorem fld45_2 : fldOf pG 45 2 = some (2,4) := by kernel_rfl
theorem fld45_3 : fldOf pG 45 3 = some (3,9) := by kernel_rfl
theorem fld45_4 : fldOf pG 45 4 = some (4,43) := by kernel_rfl
theorem pl45 : plOf pG 45 = some [(0,1),(1,1),(2,1),(3,1),(4,3)] := by kernel_rfl
theorem zr45 : zeroOf pG 45 = some [.val (.int .i64 0),.val (.int .i64 0),.val (.bool false),.val (.str []),.nils,.nils,.val (.bool false)] := by kernel_rfl
theorem sz48 : szOf pG 48 = some 3 := by kernel_rfl
theorem by48 : byOf pG 48 = some 56 := by kernel_rfl
theorem ag48 : aggOf pG 48 = some true := by kernel_rfl
theorem fld48_0 : fldOf pG 48 0 = some (0,32) := by kernel_rfl
theorem fld48_1 : fldOf pG 48 1 = some (1,28) := by kernel_rfl
theorem fld48_2 : fldOf pG 48 2 = some (2,4) := by kernel_rfl
theorem pl48 : plOf pG 48 = some [(0,1),(1,1),(2,1)] := by kernel_rfl
theorem zr48 : zeroOf pG 48 = some [.nils,.nils,.val (.bool false)] := by kernel_rfl
theorem sz49 : szOf pG 49 = some 7 := by kernel_rfl
theorem by49 : byOf pG 49 = some 96 := by kernel_rfl
theorem ag49 : aggOf pG 49 = some true := by kernel_rfl
theorem fld49_0 : fldOf pG 49 0 = some (0,3) := by kernel_rfl
theorem fld49_1 : fldOf pG 49 1 = some (1,3) := by kernel_rfl
theorem fld49_2 : fldOf pG 49 2 = some (2,4) := by kernel_rfl
theorem fld49_3 : fldOf pG 49 3 = some (3,9) := by kernel_rfl
theorem fld49_4 : fldOf pG 49 4 = some (4,48) := by kernel_rfl
theorem pl49 : plOf pG 49 = some [(0,1),(1,1),(2,1),(3,1),(4,3)] := by kernel_rfl
theorem zr49 : zeroOf pG 49 = some [.val (.int .i64 0),.val (.int .i64 0),.val (.bool false),.val (.str []),.nils,.nils,.val (.bool false)] := by kernel_rfl
theorem sz50 : szOf pG 50 = some 7 := by kernel_rfl
theorem by50 : byOf pG 50 = some 96 := by kernel_rfl
theorem ag50 : aggOf pG 50 = some true := by kernel_rfl
theorem fld50_0 : fldOf pG 50 0 = some (0,3) := by kernel_rfl
theorem fld50_1 : fldOf pG 50 1 = some (1,3) := by kernel_rfl
theorem fld50_2 : fldOf pG 50 2 = some (2,4) := by kernel_rfl
theorem fld50_3 : fldOf pG 50 3 = some (3,9) := by kernel_rfl
theorem fld50_4 : fldOf pG 50 4 = some (4,48) := by kernel_rfl
theorem pl50 : plOf pG 50 = some [(0,1),(1,1),(2,1),(3,1),(4,3)] := by kernel_rfl
theorem zr50 : zeroOf pG 50 = some [.val (.int .i64 0),.val (.int .i64 0),.val (.bool false),.val (.str []),.nils,.nils,.val (.bool false)] := by kernel_rfl
theorem sz53 : szOf pG 53 = some 9 := by kernel_rfl
theorem by53 : byOf pG 53 = some 112 := by kernel_rfl
theorem ag53 : aggOf pG 53 = some true := by kernel_rfl
theorem fld53_0 : fldOf pG 53 0 = some (0,3) := by kernel_rfl
theorem fld53_1 : fldOf pG 53 1 = some (1,36) := by kernel_rfl
theorem fld53_2 : fldOf pG 53 2 = some (2,9) := by kernel_rfl
theorem fld53_3 : fldOf pG 53 3 = some (3,38) := by kernel_rfl
theorem fld53_4 : fldOf pG 53 4 = some (6,3) := by kernel_rfl
theorem fld53_5 : fldOf pG 53 5 = some (7,3) := by kernel_rfl
theorem fld53_6 : fldOf pG 53 6 = some (8,3) := by kernel_rfl
theorem pl53 : plOf pG 53 = some [(0,1),(1,1),(2,1),(3,3),(6,1),(7,1),(8,1)] := by kernel_rfl
theorem zr53 : zeroOf pG 53 = some [.val (.int .i64 0),.nils,.val (.str []),.val (.str []),.val (.str []),.val (.bool false),.val (.int .i64 0),.val (.int .i64 0),.val (.int .i64 0)] := by kernel_rfl
theorem sz58 : szOf pG 58 = some 5 := by kernel_rfl
theorem by58 : byOf pG 58 = some 88 := by kernel_rfl
theorem ag58 : aggOf pG 58 = some true := by kernel_rfl
theorem fld58_0 : fldOf pG 58 0 = some (0,32) := by kernel_rfl
theorem fld58_1 : fldOf pG 58 1 = some (1,28) := by kernel_rfl
theorem fld58_2 : fldOf pG 58 2 = some (2,29) := by kernel_rfl
theorem fld58_3 : fldOf pG 58 3 = some (3,3) := by kernel_rfl
theorem fld58_4 : fldOf pG 58 4 = some (4,3) := by kernel_rfl
theorem pl58 : plOf pG 58 = some [(0,1),(1,1),(2,1),(3,1),(4,1)] := by kernel_rfl
theorem zr58 : zeroOf pG 58 = some [.nils,.nils,.nils,.val (.int .i64 0),.val (.int .i64 0)] := by kernel_rfl
theorem sz59 : szOf pG 59 = some 5 := by kernel_rfl
theorem by59 : byOf pG 59 = some 88 := by kernel_rfl
theorem ag59 : aggOf pG 59 = some true := by kernel_rfl
theorem fld59_0 : fldOf pG 59 0 = some (0,32) := by kernel_rfl
theorem fld59_1 : fldOf pG 59 1 = some (1,28) := by kernel_rfl
theorem fld59_2 : fldOf pG 59 2 = some (2,29) := by kernel_rfl
theorem fld59_3 : fldOf pG 59 3 = some (3,3) := by kernel_rfl
theorem fld59_4 : fldOf pG 59 4 = some (4,3) := by kernel_rfl
theorem pl59 : plOf pG 59 = some [(0,1),(1,1),(2,1),(3,1),(4,1)] := by kernel_rfl
theorem zr59 : zeroOf pG 59 = some [.nils,.nils,.nils,.val (.int .i64 0),.val (.int .i64 0)] := by kernel_rfl
theorem sz61 : szOf pG 61 = some 1 := by kernel_rfl
theorem by61 : byOf pG 61 = some 24 := by kernel_rfl
theorem ag61 : aggOf pG 61 = some false := by kernel_rfl
theorem un61 : pG.underlying 61 = some (.slice 45) := by kernel_rfl
theorem el61 : elOf pG 61 = some 45 := by kernel_rfl
theorem zr61 : zeroOf pG 61 = some [.nils] := by kernel_rfl
theorem sz66 : szOf pG 66 = some 7 := by kernel_rfl
theorem by66 : byOf pG 66 = some 80 := by kernel_rfl
theorem ag66 : aggOf pG 66 = some true := by kernel_rfl
theorem fld66_0 : fldOf pG 66 0 = some (0,3) := by kernel_rfl
theorem fld66_1 : fldOf pG 66 1 = some (1,38) := by kernel_rfl
theorem fld66_2 : fldOf pG 66 2 = some (4,4) := by kernel_rfl
theorem fld66_3 : fldOf pG 66 3 = some (5,9) := by kernel_rfl
theorem fld66_4 : fldOf pG 66 4 = some (6,3) := by kernel_rfl
theorem pl66 : plOf pG 66 = some [(0,1),(1,3),(4,1),(5,1),(6,1)] := by kernel_rfl
theorem eq66 : EqT pG 66 [.int .i64,.str,.str,.bool,.bool,.str,.int .i64] := EqT.of (by kernel_rfl) (by kernel_rfl) (by kernel_rfl)
theorem zr66 : zeroOf pG 66 = some [.val (.int .i64 0),.val (.str []),.val (.str []),.val (.bool false),.val (.bool false),.val (.str []),.val (.int .i64 0)] := by kernel_rfl
theorem sz67 : szOf pG 67 = some 7 := by kernel_rfl
theorem by67 : byOf pG 67 = some 80 := by kernel_rfl
theorem ag67 : aggOf pG 67 = some true := by kernel_rfl
theorem fld67_0 : fldOf pG 67 0 = some (0,3) := by kernel_rfl
theorem fld67_1 : fldOf pG 67 1 = some (1,38) := by kernel_rfl
theorem fld67_2 : fldOf pG 67 2 = some (4,4) := by kernel_rfl
theorem fld67_3 : fldOf pG 67 3 = some (5,9) := by kernel_rfl
theorem fld67_4 : fldOf pG 67 4 = some (6,3) := by kernel_rfl
theorem pl67 : plOf pG 67 = some [(0,1),(1,3),(4,1),(5,1),(6,1)] := by kernel_rfl
theorem eq67 : EqT pG 67 [.int .i64,.str,.str,.bool,.bool,.str,.int .i64] := EqT.of (by kernel_rfl) (by kernel_rfl) (by kernel_rfl)
theorem zr67 : zeroOf pG 67 = some [.val (.int .i64 0),.val (.str []),.val (.str []),.val (.bool false),.val (.bool false),.val (.str []),.val (.int .i64 0)] := by kernel_rfl
theorem sz70 : szOf pG 70 = some 1 := by kernel_rfl
theorem by70 : byOf pG 70 = some 8 := by kernel_rfl
theorem ag70 : aggOf pG 70 = some false := by kernel_rfl
theorem un70 : pG.underlying 70 = some (.int .u64) := by kernel_rfl
theorem zr70 : zeroOf pG 70 = some [.val (.int .u64 0)] := by kernel_rfl
theorem sz71 : szOf pG 71 = some 4 := by kernel_rfl
theorem by71 : byOf pG 71 = some 48 := by kernel_rfl
theorem ag71 : aggOf pG 71 = some true := by kernel_rfl
theorem fld71_0 : fldOf pG 71 0 = some (0,3) := by kernel_rfl
theorem fld71_1 : fldOf pG 71 1 = some (1,9) := by kernel_rfl
theorem fld71_2 : fldOf pG 71 2 = some (2,9) := by kernel_rfl
theorem fld71_3 : fldOf pG 71 3 = some (3,70) := by kernel_rfl
theorem pl71 : plOf pG 71 = some [(0,1),(1,1),(2,1),(3,1)] := by kernel_rfl
theorem zr71 : zeroOf pG 71 = some [.val (.int .i64 0),.val (.str []),.val (.str []),.val (.int .u64 0)] := by kernel_rfl
theorem sz72 : szOf pG 72 = some 4 := by kernel_rfl
theorem by72 : byOf pG 72 = some 48 := by kernel_rfl
theorem ag72 : aggOf pG 72 = some true := by kernel_rfl
theorem fld72_0 : fldOf pG 72 0 = some (0,3) := by kernel_rfl
theorem fld72_1 : fldOf pG 72 1 = some (1,9) := by kernel_rfl
theorem fld72_2 : fldOf pG 72 2 = some (2,9) := by kernel_rfl
theorem fld72_3 : fldOf pG 72 3 = some (3,70) := by kernel_rfl
theorem pl72 : plOf pG 72 = some [(0,1),(1,1),(2,1),(3,1)] := by kernel_rfl
theorem zr72 : zeroOf pG 72 = some [.val (.int .i64 0),.val (.str []),.val (.str []),.val (.int .u64 0)] := by kernel_rfl
theorem sz76 : szOf pG 76 = some 2 := by kernel_rfl
theorem by76 : byOf pG 76 = some 32 := by kernel_rfl
theorem ag76 : aggOf pG 76 = some true := by kernel_rfl
theorem fld76_0 : fldOf pG 76 0 = some (0,9) := by kernel_rfl
theorem fld76_1 : fldOf pG 76 1 = some (1,9) := by kernel_rfl
theorem pl76 : plOf pG 76 = some [(0,1),(1,1)] := by kernel_rfl
theorem eq76 : EqT pG 76 [.str,.str] := EqT.of (by kernel_rfl) (by kernel_rfl) (by kernel_rfl)
theorem zr76 : zeroOf pG 76 = some [.val (.str []),.val (.str [])] := by kernel_rfl
theorem sz77 : szOf pG 77 = some 2 := by kernel_rfl
theorem by77 : byOf pG 77 = some 32 := by kernel_rfl
theorem ag77 : aggOf pG 77 = some true := by kernel_rfl
theorem fld77_0 : fldOf pG 77 0 = some (0,9) := by kernel_rfl
theorem fld77_1 : fldOf pG 77 1 = some (1,9) := by kernel_rfl
theorem pl77 : plOf pG 77 = some [(0,1),(1,1)] := by kernel_rfl
theorem eq77 : EqT pG 77 [.str,.str] := EqT.of (by kernel_rfl) (by kernel_rfl) (by kernel_rfl)
theorem zr77 : zeroOf pG 77 = some [.val (.str []),.val (.str [])] := by kernel_rfl
theorem sz88 : szOf pG 88 = some 6 := by kernel_rfl
theorem by88 : byOf pG 88 = some 72 := by kernel_rfl
theorem ag88 : aggOf pG 88 = some true := by kernel_rfl
theorem fld88_0 : fldOf pG 88 0 = some (0,3) := by kernel_rfl
theorem fld88_1 : fldOf pG 88 1 = some (1,9) := by kernel_rfl
theorem fld88_2 : fldOf pG 88 2 = some (2,4) := by kernel_rfl
theorem fld88_3 : fldOf pG 88 3 = some (3,9) := by kernel_rfl
theorem fld88_4 : fldOf pG 88 4 = some (4,4) := by kernel_rfl
theorem fld88_5 : fldOf pG 88 5 = some (5,9) := by kernel_rfl
theorem pl88 : plOf pG 88 = some [(0,1),(1,1),(2,1),(3,1),(4,1),(5,1)] := by kernel_rfl
theorem eq88 : EqT pG 88 [.int .i64,.str,.bool,.str,.bool,.str] := EqT.of (by kernel_rfl) (by kernel_rfl) (by kernel_rfl)
theorem zr88 : zeroOf pG 88 = some [.val (.int .i64 0),.val (.str []),.val (.bool false),.val (.str []),.val (.bool false),.val (.str [])] := by kernel_rfl
theorem sz89 : szOf pG 89 = some 6 := by kernel_rfl
theorem by89 : byOf pG 89 = some 72 := by kernel_rfl
theorem ag89 : aggOf pG 89 = some true := by kernel_rfl
theorem fld89_0 : fldOf pG 89 0 = some (0,3) := by kernel_rfl
theorem fld89_1 : fldOf pG 89 1 = some (1,9) := by kernel_rfl
theorem fld89_2 : fldOf pG 89 2 = some (2,4) := by kernel_rfl
theorem fld89_3 : fldOf pG 89 3 = some (3,9) := by kernel_rfl
theorem fld89_4 : fldOf pG 89 4 = some (4,4) := by kernel_rfl
theorem fld89_5 : fldOf pG 89 5 = some (5,9) := by kernel_rfl
theorem pl89 : plOf pG 89 = some [(0,1),(1,1),(2,1),(3,1),(4,1),(5,1)] := by kernel_rfl
theorem eq89 : EqT pG 89 [.int .i64,.str,.bool,.str,.bool,.str] := EqT.of (by kernel_rfl) (by kernel_rfl) (by kernel_rfl)
theorem zr89 : zeroOf pG 89 = some [.val (.int .i64 0),.val (.str []),.val (.bool false),.val (.str []),.val (.bool false),.val (.str [])] := by kernel_rfl
theorem sz103 : szOf pG 103 = some 7 := by kernel_rfl
theorem by103 : byOf pG 103 = some 80 := by kernel_rfl
theorem ag103 : aggOf pG 103 = some true := by kernel_rfl
theorem fld103_0 : fldOf pG 103 0 = some (0,3) := by kernel_rfl
theorem fld103_1 : fldOf pG 103 1 = some (1,38) := by kernel_rfl
theorem fld103_2 : fldOf pG 103 2 = some (4,4) := by kernel_rfl
theorem fld103_3 : fldOf pG 103 3 = some (5,9) := by kernel_rfl
theorem fld103_4 : fldOf pG 103 4 = some (6,3) := by kernel_rfl
theorem pl103 : plOf pG 103 = some [(0,1),(1,3),(4,1),(5,1),(6,1)] := by kernel_rfl
theorem eq103 : EqT pG 103 [.int .i64,.str,.str,.bool,.bool,.str,.int .i64] := EqT.of (by kernel_rfl) (by kernel_rfl) (by kernel_rfl)
theorem zr103 : zeroOf pG 103 = some [.val (.int .i64 0),.val (.str []),.val (.str []),.val (.bool false),.val (.bool false),.val (.str []),.val (.int .i64 0)] := by kernel_rfl
theorem sz128 : szOf pG 128 = some 1 := by kernel_rfl
theorem by128 : byOf pG 128 = some 24 := by kernel_rfl
theorem ag128 : aggOf pG 128 = some false := by kernel_rfl
theorem un128 : pG.underlying 128 = some (.slice 43) := by kernel_rfl
theorem el128 : elOf pG 128 = some 43 := by kernel_rfl
theorem zr128 : zeroOf pG 128 = some [.nils] := by kernel_rfl
theorem sz131 : szOf pG 131 = some 1 := by kernel_rfl
theorem by131 : byOf pG 131 = some 24 := by kernel_rfl
theorem ag131 : aggOf pG 131 = some false := by kernel_rfl
theorem un131 : pG.underlying 131 = some (.slice 38) := by kernel_rfl
theorem el131 : elOf pG 131 = some 38 := by kernel_rfl
theorem zr131 : zeroOf pG 131 = some [.nils] := by kernel_rfl
theorem sz173 : szOf pG 173 = some 1 := by kernel_rfl
theorem by173 : byOf pG 173 = some 24 := by kernel_rfl
theorem ag173 : aggOf pG 173 = some false := by kernel_rfl
theorem un173 : pG.underlying 173 = some (.slice 25) := by kernel_rfl
theorem el173 : elOf pG 173 = some 25 := by kernel_rfl
theorem zr173 : zeroOf pG 173 = some [.nils] := by kernel_rfl
theorem sz175 : szOf pG 175 = some 4 := by kernel_rfl
theorem by175 : byOf pG 175 = some 88 := by kernel_rfl
theorem ag175 : aggOf pG 175 = some true := by kernel_rfl
theorem fld175_0 : fldOf pG 175 0 = some (0,9) := by kernel_rfl
theorem fld175_1 : fldOf pG 175 1 = some (1,173) := by kernel_rfl
theorem fld175_2 : fldOf pG 175 2 = some (2,36) := by kernel_rfl
theorem fld175_3 : fldOf pG 175 3 = some (3,32) := by kernel_rfl
theorem pl175 : plOf pG 175 = some [(0,1),(1,1),(2,1),(3,1)] := by kernel_rfl
theorem zr175 : zeroOf pG 175 = some [.val (.str []),.nils,.nils,.nils] := by kernel_rfl
theorem sz176 : szOf pG 176 = some 4 := by kernel_rfl
theorem by176 : byOf pG 176 = some 88 := by kernel_rfl
theorem ag176 : aggOf pG 176 = some true := by kernel_rfl
theorem fld176_0 : fldOf pG 176 0 = some (0,9) := by kernel_rfl
theorem fld176_1 : fldOf pG 176 1 = some (1,173) := by kernel_rfl
theorem fld176_2 : fldOf pG 176 2 = some (2,36) := by kernel_rfl
theorem fld176_3 : fldOf pG 176 3 = some (3,32) := by kernel_rfl
theorem pl176 : plOf pG 176 = some [(0,1),(1,1),(2,1),(3,1)] := by kernel_rfl
theorem zr176 : zeroOf pG 176 = some [.val (.str []),.nils,.nils,.nils] := by kernel_rfl
theorem sz186 : szOf pG 186 = some 2 := by kernel_rfl
theorem by186 : byOf pG 186 = some 24 := by kernel_rfl
theorem ag186 : aggOf pG 186 = some true := by kernel_rfl
theorem fld186_0 : fldOf pG 186 0 = some (0,4) := by kernel_rfl
theorem fld186_1 : fldOf pG 186 1 = some (1,9) := by kernel_rfl
theorem pl186 : plOf pG 186 = some [(0,1),(1,1)] := by kernel_rfl
theorem eq186 : EqT pG 186 [.bool,.str] := EqT.of (by kernel_rfl) (by kernel_rfl) (by kernel_rfl)
theorem zr186 : zeroOf pG 186 = some [.val (.bool false),.val (.str [])] := by kernel_rfl
theorem sz187 : szOf pG 187 = some 2 := by kernel_rfl
theorem by187 : byOf pG 187 = some 24 := by kernel_rfl
theorem ag187 : aggOf pG 187 = some true := by kernel_rfl
theorem fld187_0 : fldOf pG 187 0 = some (0,4) := by kernel_rfl
theorem fld187_1 : fldOf pG 187 1 = some (1,9) := by kernel_rfl
theorem pl187 : plOf pG 187 = some [(0,1),(1,1)] := by kernel_rfl
theorem eq187 : EqT pG 187 [.bool,.str] := EqT.of (by kernel_rfl) (by kernel_rfl) (by kernel_rfl)
theorem zr187 : zeroOf pG 187 = some [.val (.bool false),.val (.str [])] := by kernel_rfl
theorem sz219 : szOf pG 219 = some 1 := by kernel_rfl
theorem by219 : byOf pG 219 = some 24 := by kernel_rfl
theorem ag219 : aggOf pG 219 = some false := by kernel_rfl
theorem un219 : pG.underlying 219 = some (.slice 36) := by kernel_rfl
theorem el219 : elOf pG 219 = some 36 := by kernel_rfl
theorem zr219 : zeroOf pG 219 = some [.nils] := by kernel_rfl
theorem sz221 : szOf pG 221 = some 1 := by kernel_rfl
theorem by221 : byOf pG 221 = some 24 := by kernel_rfl
theorem ag221 : aggOf pG 221 = some false := by kernel_rfl
theorem un221 : pG.underlying 221 = some (.slice 9) := by kernel_rfl
theorem el221 : elOf pG 221 = some 9 := by kernel_rfl
theorem zr221 : zeroOf pG 221 = some [.nils] := by kernel_rfl
theorem sz240 : szOf pG 240 = some 1 := by kernel_rfl
theorem by240 : byOf pG 240 = some 24 := by kernel_rfl
theorem ag240 : aggOf pG 240 = some false := by kernel_rfl
theorem un240 : pG.underlying 240 = some (.slice 32) := by kernel_rfl
theorem el240 : elOf pG 240 = some 32 := by kernel_rfl
theorem zr240 : zeroOf pG 240 = some [.nils] := by kernel_rfl
theorem sz251 : szOf pG 251 = some 1 := by kernel_rfl
theorem by251 : byOf pG 251 = some 8 := by kernel_rfl
theorem ag251 : aggOf pG 251 = some false := by kernel_rfl
theorem un251 : pG.underlying 251 = some (.int .u64) := by kernel_rfl
theorem zr251 : zeroOf pG 251 = some [.val (.int .u64 0)] := by kernel_rfl
theorem sz254 : szOf pG 254 = some 1 := by kernel_rfl
theorem by254 : byOf pG 254 = some 24 := by kernel_rfl
theorem ag254 : aggOf pG 254 = some false := by kernel_rfl
theorem un254 : pG.underlying 254 = some (.slice 5) := by kernel_rfl
theorem el254 : elOf pG 254 = some 5 := by kernel_rfl
theorem zr254 : zeroOf pG 254 = some [.nils] := by kernel_rfl
theorem sz263 : szOf pG 263 = some 1 := by kernel_rfl
theorem by263 : byOf pG 263 = some 24 := by kernel_rfl
theorem ag263 : aggOf pG 263 = some false := by kernel_rfl
theorem un263 : pG.underlying 263 = some (.slice 173) := by kernel_rfl
theorem el263 : elOf pG 263 = some 173 := by kernel_rfl
theorem zr263 : zeroOf pG 263 = some [.nils] := by kernel_rfl
theorem sz272 : szOf pG 272 = some 4 := by kernel_rfl
theorem by272 : byOf pG 272 = some 40 := by kernel_rfl
theorem ag272 : aggOf pG 272 = some true := by kernel_rfl
theorem fld272_0 : fldOf pG 272 0 = some (0,17) := by kernel_rfl
theorem fld272_1 : fldOf pG 272 1 = some (1,17) := by kernel_rfl
theorem fld272_2 : fldOf pG 272 2 = some (2,17) := by kernel_rfl
theorem fld272_3 : fldOf pG 272 3 = some (3,9) := by kernel_rfl
theorem pl272 : plOf pG 272 = some [(0,1),(1,1),(2,1),(3,1)] := by kernel_rfl
theorem zr272 : zeroOf pG 272 = some [.val .nilp,.val .nilp,.val .nilp,.val (.str [])] := by kernel_rfl
theorem sz273 : szOf pG 273 = some 4 := by kernel_rfl
theorem by273 : byOf pG 273 = some 40 := by kernel_rfl
theorem ag273 : aggOf pG 273 = some true := by kernel_rfl
theorem fld273_0 : fldOf pG 273 0 = some (0,17) := by kernel_rfl
theorem fld273_1 : fldOf pG 273 1 = some (1,17) := by kernel_rfl
theorem fld273_2 : fldOf pG 273 2 = some (2,17) := by kernel_rfl
theorem fld273_3 : fldOf pG 273 3 = some (3,9) := by kernel_rfl
theorem pl273 : plOf pG 273 = some [(0,1),(1,1),(2,1),(3,1)] := by kernel_rfl
theorem zr273 : zeroOf pG 273 = some [.val .nilp,.val .nilp,.val .nilp,.val (.str [])] := by kernel_rfl
theorem sz274 : szOf pG 274 = some 0 := by kernel_rfl
theorem by274 : byOf pG 274 = some 0 := by kernel_rfl
theorem ag274 : aggOf pG 274 = some true := by kernel_rfl
theorem zr274 : zeroOf pG 274 = some [] := by kernel_rfl
theorem sz275 : szOf pG 275 = some 0 := by kernel_rfl
theorem by275 : byOf pG 275 = some 0 := by kernel_rfl
theorem ag275 : aggOf pG 275 = some true := by kernel_rfl
theorem fld275_0 : fldOf pG 275 0 = some (0,274) := by kernel_rfl
theorem pl275 : plOf pG 275 = some [(0,0)] := by kernel_rfl
theorem zr275 : zeroOf pG 275 = some [] := by kernel_rfl
theorem sz276 : szOf pG 276 = some 0 := by kernel_rfl
theorem by276 : byOf pG 276 = some 0 := by kernel_rfl
theorem ag276 : aggOf pG 276 = some true := by kernel_rfl
theorem fld276_0 : fldOf pG 276 0 = some (0,274) := by kernel_rfl
theorem pl276 : plOf pG 276 = some [(0,0)] := by kernel_rfl
theorem zr276 : zeroOf pG 276 = some [] := by kernel_rfl
theorem sz278 : szOf pG 278 = some 1 := by kernel_rfl
theorem by278 : byOf pG 278 = some 4 := by kernel_rfl
theorem ag278 : aggOf pG 278 = some false := by kernel_rfl
theorem un278 : pG.underlying 278 = some (.int .u32) := by kernel_rfl
theorem zr278 : zeroOf pG 278 = some [.val (.int .u32 0)] := by kernel_rfl
theorem sz279 : szOf pG 279 = some 1 := by kernel_rfl
theorem by279 : byOf pG 279 = some 1 := by kernel_rfl
theorem ag279 : aggOf pG 279 = some false := by kernel_rfl
theorem un279 : pG.underlying 279 = some (.int .u8) := by kernel_rfl
theorem zr279 : zeroOf pG 279 = some [.val (.int .u8 0)] := by kernel_rfl
theorem sz280 : szOf pG 280 = some 1 := by kernel_rfl
theorem by280 : byOf pG 280 = some 1 := by kernel_rfl
theorem ag280 : aggOf pG 280 = some false := by kernel_rfl
theorem un280 : pG.underlying 280 = some (.int .u8) := by kernel_rfl
theorem zr280 : zeroOf pG 280 = some [.val (.int .u8 0)] := by kernel_rfl
theorem sz282 : szOf pG 282 = some 1 := by kernel_rfl
theorem by282 : byOf pG 282 = some 8 := by kernel_rfl
theorem ag282 : aggOf pG 282 = some false := by kernel_rfl
theorem un282 : pG.underlying 282 = some (.pointer 5) := by kernel_rfl
theorem zr282 : zeroOf pG 282 = some [.val .nilp] := by kernel_rfl
theorem sz283 : szOf pG 283 = some 1 := by kernel_rfl
theorem by283 : byOf pG 283 = some 4 := by kernel_rfl
theorem ag283 : aggOf pG 283 = some false := by kernel_rfl
theorem un283 : pG.underlying 283 = some (.int .i32) := by kernel_rfl
theorem zr283 : zeroOf pG 283 = some [.val (.int .i32 0)] := by kernel_rfl
theorem sz284 : szOf pG 284 = some 1 := by kernel_rfl
theorem by284 : byOf pG 284 = some 4 := by kernel_rfl
theorem ag284 : aggOf pG 284 = some false := by kernel_rfl
theorem un284 : pG.underlying 284 = some (.int .i32) := by kernel_rfl
theorem zr284 : zeroOf pG 284 = some [.val (.int .i32 0)] := by kernel_rfl
theorem sz285 : szOf pG 285 = some 11 := by kernel_rfl
theorem by285 : byOf pG 285 = some 48 := by kernel_rfl
theorem ag285 : aggOf pG 285 = some true := by kernel_rfl
theorem fld285_0 : fldOf pG 285 0 = some (0,12) := by kernel_rfl
theorem fld285_1 : fldOf pG 285 1 = some (1,12) := by kernel_rfl
theorem fld285_2 : fldOf pG 285 2 = some (2,278) := by kernel_rfl
theorem fld285_3 : fldOf pG 285 3 = some (3,279) := by kernel_rfl
theorem fld285_4 : fldOf pG 285 4 = some (4,5) := by kernel_rfl
theorem fld285_5 : fldOf pG 285 5 = some (5,5) := by kernel_rfl
theorem fld285_6 : fldOf pG 285 6 = some (6,280) := by kernel_rfl
theorem fld285_7 : fldOf pG 285 7 = some (7,281) := by kernel_rfl
theorem fld285_8 : fldOf pG 285 8 = some (8,282) := by kernel_rfl
theorem fld285_9 : fldOf pG 285 9 = some (9,283) := by kernel_rfl
theorem fld285_10 : fldOf pG 285 10 = some (10,284) := by kernel_rfl
theorem pl285 : plOf pG 285 = some [(0,1),(1,1),(2,1),(3,1),(4,1),(5,1),(6,1),(7,1),(8,1),(9,1),(10,1)] := by kernel_rfl
theorem sz286 : szOf pG 286 = some 11 := by kernel_rfl
theorem by286 : byOf pG 286 = some 48 := by kernel_rfl
theorem ag286 : aggOf pG 286 = some true := by kernel_rfl
theorem fld286_0 : fldOf pG 286 0 = some (0,12) := by kernel_rfl
theorem fld286_1 : fldOf pG 286 1 = some (1,12) := by kernel_rfl
theorem fld286_2 : fldOf pG 286 2 = some (2,278) := by kernel_rfl
theorem fld286_3 : fldOf pG 286 3 = some (3,279) := by kernel_rfl
theorem fld286_4 : fldOf pG 286 4 = some (4,5) := by kernel_rfl
theorem fld286_5 : fldOf pG 286 5 = some (5,5) := by kernel_rfl
theorem fld286_6 : fldOf pG 286 6 = some (6,280) := by kernel_rfl
theorem fld286_7 : fldOf pG 286 7 = some (7,281) := by kernel_rfl
theorem fld286_8 : fldOf pG 286 8 = some (8,282) := by kernel_rfl
theorem fld286_9 : fldOf pG 286 9 = some (9,283) := by kernel_rfl
theorem fld286_10 : fldOf pG 286 10 = some (10,284) := by kernel_rfl
theorem pl286 : plOf pG 286 = some [(0,1),(1,1),(2,1),(3,1),(4,1),(5,1),(6,1),(7,1),(8,1),(9,1),(10,1)] := by kernel_rfl
theorem mixed : pG.follows .mixedOrders = true := by kernel_rfl
attribute [go_sem] sz2 by2 ag2 un2 zr2 sz3 by3 ag3 un3 zr3 sz4 by4 ag4 un4 zr4 sz5 by5 ag5 un5 zr5 sz6 by6 ag6 un6 zr6 sz7 by7 ag7 fld7_0 fld7_1 fld7_2 fld7_3 pl7 zr7 sz8 by8 ag8 fld8_0 fld8_1 fld8_2 fld8_3 pl8 zr8 sz9 by9 ag9 un9 zr9 sz10 by10 ag10 un10 zr10 sz11 by11 ag11 un11 zr11 sz12 by12 ag12 un12 zr12 sz13 by13 ag13 fld13_0 fld13_1 pl13 zr13 sz14 by14 ag14 fld14_0 fld14_1 pl14 zr14 sz15 by15 ag15 un15 zr15 sz16 by16 ag16 un16 zr16 sz17 by17 ag17 un17 zr17 sz18 by18 ag18 fld18_0 pl18 zr18 sz19 by19 ag19 fld19_0 pl19 zr19 sz21 by21 ag21 un21 zr21 sz22 by22 ag22 un22 el22 zr22 sz25 by25 ag25 un25 zr25 sz26 by26 ag26 fld26_0 pl26 zr26 sz27 by27 ag27 fld27_0 pl27 zr27 sz28 by28 ag28 un28 el28 zr28 sz29 by29 ag29 un29 el29 zr29 sz30 by30 ag30 fld30_0 fld30_1 fld30_2 fld30_3 fld30_4 pl30 zr30 sz31 by31 ag31 fld31_0 fld31_1 fld31_2 fld31_3 fld31_4 pl31 zr31 sz32 by32 ag32 un32 el32 zr32 sz33 by33 ag33 un33 el33 zr33 sz34 by34 ag34 fld34_0 fld34_1 fld34_2 fld34_3 fld34_4 pl34 zr34 sz35 by35 ag35 fld35_0 fld35_1 fld35_2 fld35_3 fld35_4 pl35 zr35 sz36 by36 ag36 un36 el36 zr36 sz37 by37 ag37 fld37_0 fld37_1 fld37_2 pl37 zr37 sz38 by38 ag38 fld38_0 fld38_1 fld38_2 pl38 zr38 sz39 by39 ag39 fld39_0 fld39_1 fld39_2 fld39_3 fld39_4 fld39_5 fld39_6 pl39 zr39 sz40 by40 ag40 fld40_0 fld40_1 fld40_2 fld40_3 fld40_4 fld40_5 fld40_6 pl40 zr40 sz41 by41 ag41 un41 zr41 sz42 by42 ag42 fld42_0 fld42_1 fld42_2 pl42 zr42 sz43 by43 ag43 fld43_0 fld43_1 fld43_2 pl43 zr43 sz44 by44 ag44 fld44_0 fld44_1 fld44_2 fld44_3 fld44_4 pl44 zr44 sz45 by45 ag45 fld45_0 fld45_1 fld45_2 fld45_3 fld45_4 pl45 zr45 sz48 by48 ag48 fld48_0 fld48_1 fld48_2 pl48 zr48 sz49 by49 ag49 fld49_0 fld49_1 fld49_2 fld49_3 fld49_4 pl49 zr49 sz50 by50 ag50 fld50_0 fld50_1 fld50_2 fld50_3 fld50_4 pl50 zr50 sz53 by53 ag53 fld53_0 fld53_1 fld53_2 fld53_3 fld53_4 fld53_5 fld53_6 pl53 zr53 sz58 by58 ag58 fld58_0 fld58_1 fld58_2 fld58_3 fld58_4 pl58 zr58 sz59 by59 ag59 fld59_0 fld59_1 fld59_2 fld59_3 fld59_4 pl59 zr59 sz61 by61 ag61 un61 el61 zr61 sz66 by66 ag66 fld66_0 fld66_1 fld66_2 fld66_3 fld66_4 pl66 zr66 sz67 by67 ag67 fld67_0 fld67_1 fld67_2 fld67_3 fld67_4 pl67 zr67 sz70 by70 ag70 un70 zr70 sz71 by71 ag71 fld71_0 fld71_1 fld71_2 fld71_3 pl71 zr71 sz72 by72 ag72 fld72_0 fld72_1 fld72_2 fld72_3 pl72 zr72 sz76 by76 ag76 fld76_0 fld76_1 pl76 zr76 sz77 by77 ag77 fld77_0 fld77_1 pl77 zr77 sz88 by88 ag88 fld88_0 fld88_1 fld88_2 fld88_3 fld88_4 fld88_5 pl88 zr88 sz89 by89 ag89 fld89_0 fld89_1 fld89_2 fld89_3 fld89_4 fld89_5 pl89 zr89 sz103 by103 ag103 fld103_0 fld103_1 fld103_2 fld103_3 fld103_4 pl103 zr103 sz128 by128 ag128 un128 el128 zr128 sz131 by131 ag131 un131 el131 zr131 sz173 by173 ag173 un173 el173 zr173 sz175 by175 ag175 fld175_0 fld175_1 fld175_2 fld175_3 pl175 zr175 sz176 by176 ag176 fld176_0 fld176_1 fld176_2 fld176_3 pl176 zr176 sz186 by186 ag186 fld186_0 fld186_1 pl186 zr186 sz187 by187 ag187 fld187_0 fld187_1 pl187 zr187 sz219 by219 ag219 un219 el219 zr219 sz221 by221 ag221 un221 el221 zr221 sz240 by240 ag240 un240 el240 zr240 sz251 by251 ag251 un251 zr251 sz254 by254 ag254 un254 el254 zr254 sz263 by263 ag263 un263 el263 zr263 sz272 by272 ag272 fld272_0 fld272_1 fld272_2 fld272_3 pl272 zr272 sz273 by273 ag273 fld273_0 fld273_1 fld273_2 fld273_3 pl273 zr273 sz274 by274 ag274 zr274 sz275 by275 ag275 fld275_0 pl275 zr275 sz276 by276 ag276 fld276_0 pl276 zr276 sz278 by278 ag278 un278 zr278 sz279 by279 ag279 un279 zr279 sz280 by280 ag280 un280 zr280 sz282 by282 ag282 un282 zr282 sz283 by283 ag283 un283 zr283 sz284 by284 ag284 un284 zr284 sz285 by285 ag285 fld285_0 fld285_1 fld285_2 fld285_3 fld285_4 fld285_5 fld285_6 fld285_7 fld285_8 fld285_9 fld285_10 pl285 sz286 by286 ag286 fld286_0 fld286_1 fld286_2 fld286_3 fld286_4 fld286_5 fld286_6 fld286_7 fld286_8 fld286_9 fld286_10 pl286 mixed eq7 eq8 eq37 eq38 eq66 eq67 eq76 eq77 eq88 eq89 eq103 eq186 eq187
end Go.Proofs.YtfemlllmglaimaaGreat.Ty
namespace Go.Proofs.Zv
open Go Go.RowKit Classical
def fsOK (P : Program) (K : TypeId → Bool) : Nat → List Field → Option Nat
 | o,[] => some o
 | o,f :: fs => if f.offset = o ∧ K f.type = true then fsOK P K (o + P.cellsOf f.type) fs else none
def tyOK (P : Program) : Nat → TypeId → Bool
 | 0,_ => false
 | d + 1,t => match P.underlying t with
  | some .bool | some (.int _) | some .string => P.cellsOf t == 1 && aggOf P t == some false
  | some (.slice e) => P.cellsOf t == 1 && aggOf P t == some false && tyOK P d e && decide (0 < P.cellsOf e)
  | some (.struct fs) => fsOK P (tyOK P d) 0 fs.toList == some (P.cellsOf t) && aggOf P t == some true
  | _ => false
def PFs (P : Program) (T : TypeId → List PV → Prop) : List Field → List PV → Prop
 | [],ps => ps = []
 | f :: fs,ps => T f.type (ps.take (P.cellsOf f.type)) ∧ PFs P T fs (ps.drop (P.cellsOf f.type))
def PTy (P : Program) : Nat → TypeId → List PV → Prop
 | 0,_,_ => False
 | d + 1,t,ps => match P.underlying t with
  | some .bool => ∃ b,ps = [.bool b]
  | some (.int k) => ∃ n,ps = [.int k n] ∧ (Lit.int k n).wf = true
  | some .string => ∃ l,ps = [.str l] ∧ l.length ≤ maxLen
  | some (.slice e) => ∃ xs,ps = [.row xs] ∧ xs.length ≤ maxLen ∧ ∀ x ∈ xs,PTy P d e x.cells ∧ aggOf P e = some x.isAgg
  | some (.struct fs) => PFs P (PTy P d) fs.toList ps
  | _ => False
section
variable {P : Program} {w : World}
abbrev Fw (w : World) : Nat → Prop := fun b => b < w.heap.size
def Opens (P : Program) (w : World) (d : Nat) (t : TypeId) (cs : List Value) : Prop :=
 ∃ ps,Reps w (Fw w) ps cs ∧ PTy P d t ps ∧ (∀ p ∈ ps,p.isAgg = false) ∧ ps.length = P.cellsOf t
theorem opens_fields {d : Nat} {cs : List Value} {K : TypeId → Bool} : ∀ (fs : List Field) (o T : Nat),fsOK P K o fs = some T → o ≤ cs.length → cs.length = T →
  (∀ f ∈ fs,Opens P w d f.type ((cs.drop f.offset).take (P.cellsOf f.type))) → ∃ ps,Reps w (Fw w) ps (cs.drop o) ∧ PFs P (PTy P d) fs ps ∧ ∀ p ∈ ps,p.isAgg = false := by
 intro fs
 induction fs with
 | nil =>
  intro o T h ho hl _
  simp only [fsOK,Option.some.injEq] at h
  have : cs.drop o = [] := List.drop_eq_nil_of_le (by omega)
  rw [this]
  exact ⟨[],Reps.nil _ _,rfl,by simp⟩
 | cons f fs ih =>
  intro o T h ho hl hf
  simp only [fsOK] at h
  split at h
  ·rename_i hc
   obtain ⟨rfl,hK⟩ := hc
   obtain ⟨ps,h1,h2,h3,h4⟩ := hf f (by simp)
   have hlen : ((cs.drop f.offset).take (P.cellsOf f.type)).length = P.cellsOf f.type := by rw [h1.1,h4]
   have ho2 : f.offset + P.cellsOf f.type ≤ cs.length := by
    simp only [List.length_take,List.length_drop] at hlen; omega
   obtain ⟨qs,g1,g2,g3⟩ := ih (f.offset + P.cellsOf f.type) T h ho2 hl (fun f' hf' => hf f' (List.mem_cons_of_mem _ hf'))
   refine ⟨ps ++ qs,?_,⟨?_,?_⟩,fun p hp => ?_⟩
   ·have := h1.append g1
    rw [← List.drop_drop,List.take_append_drop] at this
    exact this
   ·rw [List.take_append_of_le_length (by omega),List.take_of_length_le (by omega)]; exact h2
   ·rw [List.drop_append_of_le_length (by omega),List.drop_eq_nil_of_le (by omega),List.nil_append]; exact g2
   ·rcases List.mem_append.1 hp with hp | hp
    ·exact h3 p hp
    ·exact g3 p hp
  ·cases h
theorem fsOK_mem {K : TypeId → Bool} : ∀ (fs : List Field) (o T : Nat),fsOK P K o fs = some T → ∀ f ∈ fs,K f.type = true := by
 intro fs
 induction fs with
 | nil => intro o T _ f hf; simp at hf
 | cons g fs ih =>
  intro o T h f hf
  simp only [fsOK] at h
  split at h
  ·rename_i hc
   rcases List.mem_cons.1 hf with rfl | hf
   ·exact hc.2
   ·exact ih _ _ h f hf
  ·cases h
theorem open_trod {H : Type} {enc : TypeId × Value → H} {spare : Nat → Bool} {held : Bool} : ∀ (d fuel : Nat) (t : TypeId) (cs : List Value) (x : DataW H × List MemPlace),tyOK P d t = true →
  DataW.trod enc P w 0 spare held fuel t cs = some x → Opens P w d t cs := by
 intro d
 induction d with
 | zero => intro fuel t cs x h; cases h
 | succ d ih =>
  intro fuel t cs x h hx
  simp only [tyOK] at h
  split at h
  ·rename_i hu
   simp only [Bool.and_eq_true,beq_iff_eq] at h
   obtain ⟨b,rfl,_⟩ := DataW.trod_bool hu hx
   exact ⟨[.bool b],Reps.cons (.bool b) (Reps.nil _ _),by simp only [PTy,hu]; exact ⟨b,rfl⟩,by simp [PV.isAgg],h.1.symm⟩
  ·rename_i k hu
   simp only [Bool.and_eq_true,beq_iff_eq] at h
   obtain ⟨n,rfl,_,hw⟩ := DataW.trod_int hu hx
   exact ⟨[.int k n],Reps.cons (.int k n) (Reps.nil _ _),by simp only [PTy,hu]; exact ⟨n,rfl,hw⟩,by simp [PV.isAgg],h.1.symm⟩
  ·rename_i hu
   simp only [Bool.and_eq_true,beq_iff_eq] at h
   obtain ⟨s,rfl,_,hw⟩ := DataW.trod_string hu hx
   obtain ⟨⟨l⟩⟩ := s
   exact ⟨[.str l],Reps.cons (.str l) (Reps.nil _ _),by simp only [PTy,hu]; exact ⟨l,rfl,hw⟩,by simp [PV.isAgg],h.1.symm⟩
  ·rename_i e hu
   simp only [Bool.and_eq_true,beq_iff_eq,decide_eq_true_eq] at h
   obtain ⟨⟨⟨hc1,hag⟩,hte⟩,hpos⟩ := h
   rcases DataW.trod_slice hu hx with ⟨rfl,_⟩ | ⟨a,len,cap,elems,rest,n,_,rfl,_,hb,hlc,hcm,hel,hget,_⟩
   ·exact ⟨[.row []],Reps.cons .rowNil (Reps.nil _ _),by simp only [PTy,hu]; exact ⟨[],rfl,by simp,by simp⟩,by simp [PV.isAgg],hc1.symm⟩
   ·have hage : ∃ ag,aggOf P e = some ag ∧ (ag = false → P.cellsOf e = 1) := by
     cases d with
     | zero => cases hte
     | succ d =>
      simp only [tyOK] at hte
      split at hte
      ·simp only [Bool.and_eq_true,beq_iff_eq] at hte; exact ⟨false,hte.2,fun _ => hte.1⟩
      ·simp only [Bool.and_eq_true,beq_iff_eq] at hte; exact ⟨false,hte.2,fun _ => hte.1⟩
      ·simp only [Bool.and_eq_true,beq_iff_eq] at hte; exact ⟨false,hte.2,fun _ => hte.1⟩
      ·simp only [Bool.and_eq_true,beq_iff_eq] at hte; exact ⟨false,hte.1.1.2,fun _ => hte.1.1.1⟩
      ·simp only [Bool.and_eq_true,beq_iff_eq] at hte; exact ⟨true,hte.2,fun e => by cases e⟩
      ·cases hte
    obtain ⟨ag,hage,hone⟩ := hage
    have main : ∀ m,m ≤ len → ∃ (xs : List PV) (cv : List Value),xs.length = m ∧ (∀ x ∈ xs,x.cells.length = P.cellsOf e) ∧ (∀ x ∈ xs,PTy P d e x.cells ∧ aggOf P e = some x.isAgg) ∧ Reps w (Fw w) (flat xs) cv ∧ (∀ c ∈ flat xs,c.isAgg = false) ∧
      (∀ (j : Nat) (v : Value),cv[j]? = some v → w.cell? (a.add j) = some v) ∧ cv.length = m * P.cellsOf e ∧ (0 < m → a.block < w.heap.size) := by
     intro m
     induction m with
     | zero => intro _; exact ⟨[],[],rfl,by simp,by simp,by simpa [flat] using Reps.nil _ _,by simp [flat],by simp,by simp,by omega⟩
     | succ m ihm =>
      intro hm
      obtain ⟨xs,cv,q1,q2,q3,q4,q5,q6,q7,_⟩ := ihm (by omega)
      have hg := hget m (by omega)
      have hlt : m < elems.length := by omega
      rw [List.getElem?_eq_getElem hlt,Option.bind_eq_some_iff] at hg
      obtain ⟨cs',hcs,htr⟩ := hg
      obtain ⟨ps,p1,p2,p3,p4⟩ := ih n e cs' _ hte htr
      obtain ⟨_,hcl,hcell⟩ := World.cells?_some hcs
      obtain ⟨y,hy,hyag⟩ : ∃ y : PV,y.cells = ps ∧ y.isAgg = ag := by
       cases ag with
       | true => exact ⟨.agg ps,rfl,rfl⟩
       | false =>
        have := hone rfl
        match ps,p4,p3 with
        | [p],_,p3 =>
         have hp := p3 p (by simp)
         refine ⟨p,?_,hp⟩
         cases p <;> first | rfl | simp [PV.isAgg] at hp
        | [],h0,_ => simp at h0; omega
        | _ :: _ :: _,h0,_ => simp at h0; omega
      have hfl : flat (xs ++ [y]) = flat xs ++ ps := by rw [flat_append]; simp [flat,hy]
      refine ⟨xs ++ [y],cv ++ cs',by simp [q1],fun x hx => ?_,fun x hx => ?_,by rw [hfl]; exact q4.append p1,fun c hc => ?_,fun j v hj => ?_,?_,fun _ => ?_⟩
      ·rcases List.mem_append.1 hx with hx | hx
       ·exact q2 x hx
       ·simp at hx; subst hx; rw [hy,p4]
      ·rcases List.mem_append.1 hx with hx | hx
       ·exact q3 x hx
       ·simp at hx; subst hx; rw [hy]; exact ⟨p2,by rw [hage,hyag]⟩
      ·rw [hfl] at hc
       rcases List.mem_append.1 hc with hc | hc
       ·exact q5 c hc
       ·exact p3 c hc
      ·rcases Nat.lt_or_ge j cv.length with h | h
       ·rw [List.getElem?_append_left h] at hj; exact q6 j v hj
       ·rw [List.getElem?_append_right h] at hj
        have hjl : j - cv.length < P.cellsOf e := by rw [← hcl]; exact (List.getElem?_eq_some_iff.1 hj).1
        have := hcell (j - cv.length) hjl
        rw [Addr.add_add,hj] at this
        rw [show m * P.cellsOf e + (j - cv.length) = j by omega] at this
        exact this
      ·rw [List.length_append,q7,hcl,Nat.add_mul,Nat.one_mul]
      ·have h0 := hcell 0 hpos
       have h1 : cs'[0]? = some cs'[0] := List.getElem?_eq_getElem (by omega)
       rw [h1,Addr.add_add] at h0
       have := block_lt_of_cell h0
       rwa [add_block] at this
    obtain ⟨xs,cv,q1,q2,q3,q4,q5,q6,q7,q8⟩ := main len (Nat.le_refl _)
    refine ⟨[.row xs],Reps.cons ?_ (Reps.nil _ _),by simp only [PTy,hu]; exact ⟨xs,rfl,by omega,q3⟩,by simp [PV.isAgg],hc1.symm⟩
    rw [← q1]
    refine .row xs a cap (P.cellsOf e) cv (by omega) q2 ?_ q4.1 q6 q5 q4.2
    cases xs with
    | nil => exact .inl rfl
    | cons x xs => exact .inr (q8 (by simp at q1; omega))
  ·rename_i fs hu
   simp only [Bool.and_eq_true,beq_iff_eq] at h
   obtain ⟨xs,n,_,_,hl,hxl,hget⟩ := DataW.trod_struct hu hx
   have hfs : ∀ f ∈ fs.toList,Opens P w d f.type ((cs.drop f.offset).take (P.cellsOf f.type)) := by
    intro f hf
    obtain ⟨i,hi⟩ := List.getElem?_of_mem hf
    have hi' : fs[i]? = some f := by simpa using hi
    have hg := hget i f hi'
    have hlt : i < xs.length := by rw [hxl]; exact (Array.getElem?_eq_some_iff.1 hi').1
    rw [List.getElem?_eq_getElem hlt] at hg
    exact ih n f.type _ _ (fsOK_mem fs.toList 0 _ h.1 f hf) hg
   obtain ⟨ps,h1,h2,h3⟩ := opens_fields (cs := cs) fs.toList 0 (P.cellsOf t) h.1 (Nat.zero_le _) hl hfs
   rw [List.drop_zero] at h1
   exact ⟨ps,h1,by simp only [PTy,hu]; exact h2,h3,by rw [← h1.1,hl]⟩
  ·cases h
def PV.wfv : PV → Prop
 | .int k n => (Lit.int k n).wf = true
 | .str l => l.length ≤ maxLen
 | _ => True
theorem PTy.kinds : ∀ (d : Nat) (t : TypeId) (ps : List PV),PTy P d t ps → ∀ (d' : Nat) (ks : List KD),eqK P d' t = some ks → ps.map PV.kd = ks ∧ ∀ p ∈ ps,p.wfv := by
 intro d
 induction d with
 | zero => intro t ps h; exact h.elim
 | succ d ih =>
  intro t ps h d' ks hk
  cases d' with
  | zero => cases hk
  | succ d' =>
   simp only [PTy] at h
   simp only [eqK] at hk
   split at h
   ·rename_i hu
    rw [hu] at hk
    obtain rfl := Option.some.inj hk
    obtain ⟨b,rfl⟩ := h
    exact ⟨rfl,by simp [PV.wfv]⟩
   ·rename_i k hu
    rw [hu] at hk
    obtain rfl := Option.some.inj hk
    obtain ⟨n,rfl,hw⟩ := h
    exact ⟨rfl,by simpa [PV.wfv] using hw⟩
   ·rename_i hu
    rw [hu] at hk
    obtain rfl := Option.some.inj hk
    obtain ⟨l,rfl,hw⟩ := h
    exact ⟨rfl,by simpa [PV.wfv] using hw⟩
   ·rename_i e hu
    rw [hu] at hk
    cases hk
   ·rename_i fs hu
    rw [hu] at hk
    simp only at hk
    split at hk
    ·cases hk
    ·have key : ∀ (fs : List Field) (o : Nat) (ps : List PV) (r : List KD),PFs P (PTy P d) fs ps → eqFs P (eqK P d') o fs = some r → ps.map PV.kd = r ∧ ∀ p ∈ ps,p.wfv := by
      intro fs
      induction fs with
      | nil =>
       intro o ps r h hk
       simp only [eqFs,Option.some.injEq] at hk
       obtain rfl : ps = [] := h
       subst hk
       exact ⟨rfl,by simp⟩
      | cons f fs ihf =>
       intro o ps r h hk
       obtain ⟨h1,h2⟩ := h
       simp only [eqFs] at hk
       split at hk
       ·cases hk
       ·split at hk
        ·rename_i ks' hks
         split at hk
         ·rename_i hsz
          split at hk
          ·rename_i r' hr'
           obtain rfl := Option.some.inj hk
           obtain ⟨a1,a2⟩ := ih f.type _ h1 d' ks' hks
           obtain ⟨b1,b2⟩ := ihf _ _ _ h2 hr'
           refine ⟨?_,fun p hp => ?_⟩
           ·rw [← a1,← b1,← List.map_append,List.take_append_drop]
           ·rw [← List.take_append_drop (P.cellsOf f.type) ps] at hp
            rcases List.mem_append.1 hp with hp | hp
            ·exact a2 p hp
            ·exact b2 p hp
          ·cases hk
         ·cases hk
        ·cases hk
     exact key fs.toList 0 ps ks h hk
   ·exact h.elim
theorem Opens.slice {d : Nat} {t e : TypeId} {cs : List Value} {ks : List KD} {d' : Nat} (h : Opens P w (d + 1) t cs) (hu : P.underlying t = some (.slice e)) (hk : eqK P d' e = some ks) (hag : aggOf P e = some true) :
  ∃ xs : List PV,Reps w (Fw w) [.row xs] cs ∧ xs.length ≤ maxLen ∧ ∀ x ∈ xs,∃ qs,x = .agg qs ∧ qs.map PV.kd = ks ∧ ∀ q ∈ qs,q.wfv := by
 obtain ⟨ps,h1,h2,h3,h4⟩ := h
 simp only [PTy,hu] at h2
 obtain ⟨xs,rfl,hl,hx⟩ := h2
 refine ⟨xs,h1,hl,fun x hxm => ?_⟩
 obtain ⟨g1,g2⟩ := hx x hxm
 rw [hag] at g2
 obtain ⟨k1,k2⟩ := PTy.kinds d e _ g1 d' ks hk
 cases x with
 | agg qs => exact ⟨qs,rfl,k1,k2⟩
 | _ => cases g2
theorem Opens.struct {d : Nat} {t : TypeId} {cs : List Value} {ks : List KD} {d' : Nat} (h : Opens P w d t cs) (hk : eqK P d' t = some ks) : ∃ qs,Reps w (Fw w) qs cs ∧ qs.map PV.kd = ks ∧ (∀ q ∈ qs,q.wfv) ∧ ∀ q ∈ qs,q.isAgg = false := by
 obtain ⟨ps,h1,h2,h3,h4⟩ := h
 obtain ⟨k1,k2⟩ := PTy.kinds d t ps h2 d' ks hk
 exact ⟨ps,h1,k1,k2,h3⟩
theorem Ct.law {f : FuncId} {ps : List PV} {vs : List Value} {w : World} (h : Ct P f (ops ps) (.vals [.bool true])) (hr : Reps w (Fw w) ps vs) :
  Calls P f ⟨vs⟩ w fun e w' => e = .returned (.bool true) ∧ Below w.heap.size w w' := by
 refine (h w (Fw w) vs (fun b hb => hb) (argsRep_ops hr)).mono fun e w' hh => ?_
 obtain ⟨v,rfl,ho⟩ := hh
 obtain ⟨us,rfl,hus⟩ := ho.res
 refine ⟨?_,ho.os,ho.tape,ho.output,ho.size,fun k hk => ho.old k hk given_ops⟩
 match us,hus with
 | [u],hus =>
  have := (hus.tail).1
  cases this
  rfl
end
end Go.Proofs.Zv
namespace Go.Proofs.Zv
open Go Go.Proofs
variable {md : Md} {P : Program} {n : Nat} {R : St → Prop} {σ : St} {k : List It}
theorem lk_call {all : List Oper} {d t p af g fx xs ts} : lk all { dst := d,op := .call { callee := .value fx,args := xs,argTypes := ts },type := t,pos := p,after := af,guard := g } = tms (fx :: xs.toList) ++ gsl all g := by
 unfold lk
 congr 1
 simp [Op.operands,Call.operands]
theorem DV.call {all : List Oper} {b i : Nat} {d t p af g fx xs ts} {rest : List Oper} {aM aW : List (List Nat)} {ck : Nat} (M W : List Nat) {σ' : St} {v : AV}
  (hg : runs σ all { dst := d,op := .call { callee := .value fx,args := xs,argTypes := ts },type := t,pos := p,after := af,guard := g } = some true) (hd : dOK n d)
  (hc : CallStep P (σ.restr (tms (fx :: xs.toList) ++ gsl all g) M (b + i)) (b + i)
   ((σ.restr (tms (fx :: xs.toList) ++ gsl all g) M (b + i)).ev fx)
   ((σ.restr (tms (fx :: xs.toList) ++ gsl all g) M (b + i)).evs xs.toList) σ' v)
  (h1 : Chg (σ.restr (tms (fx :: xs.toList) ++ gsl all g) M (b + i)) σ' W)
  (h2 : mok σ (tms (fx :: xs.toList) ++ gsl all g) M (b + i) v)
  (h3 : pln σ (tms (fx :: xs.toList) ++ gsl all g) M (b + i) σ' W) (h4 : ∀ k,k ∈ W → k ∈ M ∨ k = b + i)
  (h : DV md P n R all b (i + 1) rest (aM ++ [M]) (aW ++ [W]) ck k (σ.patch (σ'.put d v) W d)) :
  DV md P n R all b i ({ dst := d,op := .call { callee := .value fx,args := xs,argTypes := ts },type := t,pos := p,after := af,guard := g } :: rest) aM aW ck k σ := by
 rw [← lk_call (all := all) (d := d) (t := t) (p := p) (af := af) (ts := ts)] at *
 refine DV.op M W (.call (by rw [runs_restr]; exact hg) rfl hd hc) (Within.of h1 h2 h3 h4) h
theorem slt_nil (a : List UInt8) : ¬ slt a [] := by cases a <;> simp [slt,strLt,Op.bytesLess]
theorem nil_slt (a : UInt8) (x : List UInt8) : slt [] (a :: x) := by simp [slt,strLt,Op.bytesLess]
theorem slt_cons (a b : UInt8) (x y : List UInt8) : slt (a :: x) (b :: y) ↔ a < b ∨ (a = b ∧ slt x y) := by simp [slt,strLt,Op.bytesLess]
theorem slt_irrefl : ∀ a : List UInt8,¬ slt a a
 | [] => slt_nil _
 | a :: x => fun h => by
  rcases (slt_cons a a x x).1 h with h | h
  ·exact absurd h (UInt8.lt_irrefl a)
  ·exact slt_irrefl x h.2
theorem slt_trans : ∀ {a b c : List UInt8},slt a b → slt b c → slt a c
 | a,b,[],_,h => absurd h (slt_nil b)
 | [],_,c :: z,_,_ => nil_slt c z
 | a :: x,[],c :: z,h,_ => absurd h (slt_nil _)
 | a :: x,b :: y,c :: z,h,g => by
  rw [slt_cons] at *
  rcases h with h | ⟨rfl,h⟩
  ·rcases g with g | ⟨rfl,g⟩
   ·exact .inl (UInt8.lt_trans h g)
   ·exact .inl h
  ·rcases g with g | ⟨rfl,g⟩
   ·exact .inl g
   ·exact .inr ⟨rfl,slt_trans h g⟩
theorem slt_total : ∀ (a b : List UInt8),slt a b ∨ a = b ∨ slt b a
 | [],[] => .inr (.inl rfl)
 | [],b :: y => .inl (nil_slt b y)
 | a :: x,[] => .inr (.inr (nil_slt a x))
 | a :: x,b :: y => by
  rw [slt_cons,slt_cons]
  rcases UInt8.lt_or_lt_of_ne (a := a) (b := b) |> fun h => (Decidable.em (a = b)).imp_right h with rfl | h | h
  ·rcases slt_total x y with h | rfl | h
   ·exact .inl (.inr ⟨rfl,h⟩)
   ·exact .inr (.inl rfl)
   ·exact .inr (.inr (.inr ⟨rfl,h⟩))
  ·exact .inl (.inl h)
  ·exact .inr (.inr (.inl h))
theorem slt_asymm {a b : List UInt8} (h : slt a b) : ¬ slt b a := fun g => slt_irrefl a (slt_trans h g)
theorem Ct.forget {P : Program} {f : FuncId} {args : List Arg} {e : TypeId} {xs : List PV} (h : Ct P f args (.own e xs)) : Ct P f args (.vals [.row xs]) := fun w F vs hF ha =>
 (h w F vs hF ha).mono fun ev w' ⟨v,hv,ho⟩ => ⟨v,hv,⟨ho.os,ho.tape,ho.output,ho.size,ho.old,
  ⟨[v],rfl,Reps.cons (rep_of_ownRow ho.res.1 (fun b hb => hb.1) (fun b hb => .inr (ho.res.2 b hb))) (Reps.nil _ _)⟩⟩⟩
theorem Opens.str {P : Program} {w : World} {d : Nat} {t : TypeId} {cs : List Value} (h : Opens P w (d + 1) t cs) (hu : P.underlying t = some .string) : ∃ l,Reps w (Fw w) [.str l] cs := by
 obtain ⟨ps,h1,h2,h3,h4⟩ := h
 simp only [PTy,hu] at h2
 obtain ⟨l,rfl,hl⟩ := h2
 exact ⟨l,h1⟩
theorem Reps.toAgg {w : World} {F : Nat → Prop} {qs : List PV} {cs : List Value} (h : Reps w F qs cs) (ha : ∀ q ∈ qs,q.isAgg = false) : Rep w F (.agg qs) (.agg ⟨cs⟩) :=
 .agg qs cs h.1 ha h.2
def ixS (σ : St) : Option TypeDesc → AV → AV → Option (St × AV)
 | some .string,.val (.str l),.val (.int _ n) => if 0 ≤ n then match l[n.toNat]? with
  | some c => some (σ,.val (.int .u8 c.toNat))
  | none => none else none
 | _,_,_ => none
def ixc (σ : St) : Option UInt8 → Option (St × AV)
 | some c => some (σ,.val (.int .u8 c.toNat))
 | none => none
theorem step_index {i t x j} : stepOp P σ i (.index t x j) = ixS σ (P.underlying t) (σ.ev x) (σ.ev j) := rfl
theorem ixS_str {l k n} : ixS σ (some .string) (.val (.str l)) (.val (.int k n)) = if 0 ≤ n then ixc σ l[n.toNat]? else none := rfl
theorem ixc_some {c} : ixc σ (some c) = some (σ,.val (.int .u8 c.toNat)) := rfl
open Classical in
theorem slice_str_hi {t s k n} : stSlice P σ t (.val (.str s)) none (some (.val (.int k n))) = if 0 ≤ n ∧ n ≤ s.length ∧ P.underlying t = some .string then some (σ,.val (.str (s.take n.toNat))) else none := rfl
open Classical in
theorem slice_str_lo {t s k n} : stSlice P σ t (.val (.str s)) (some (.val (.int k n))) none = if 0 ≤ n ∧ n ≤ s.length ∧ P.underlying t = some .string then some (σ,.val (.str (s.drop n.toNat))) else none := rfl
open Classical in
theorem slice_str_both {t s k m k' n} : stSlice P σ t (.val (.str s)) (some (.val (.int k m))) (some (.val (.int k' n))) = if 0 ≤ m ∧ m ≤ n ∧ n ≤ s.length ∧ P.underlying t = some .string then some (σ,.val (.str ((s.take n.toNat).drop m.toNat))) else none := rfl
def mk1 (P : Program) (σ : St) (i : Nat) (n m : Int) : Option TypeId → Option (St × AV)
 | some e => match szOf P e,byOf P e,zeroOf P e with
  | some sz,some nb,some [z] => match z.pure? with
   | some p => if sz = 1 ∧ m = n ∧ 0 ≤ n ∧ nb * n.toNat ≤ 281474976710656 ∧ n ≤ 4611686018427387904 ∧ z.cell = true ∧ σ.isFree i = true then some (σ.setOb i (.row e (List.replicate n.toNat p)),.ref i) else none
   | none => none
  | _,_,_ => none
 | none => none
def mk2 (σ : St) (i : Nat) (e : TypeId) (n m : Int) : Option Nat → Option Nat → Option (List AV) → Option (St × AV)
 | some sz,some nb,some [z] => match z.pure? with
   | some p => if sz = 1 ∧ m = n ∧ 0 ≤ n ∧ nb * n.toNat ≤ 281474976710656 ∧ n ≤ 4611686018427387904 ∧ z.cell = true ∧ σ.isFree i = true then some (σ.setOb i (.row e (List.replicate n.toNat p)),.ref i) else none
   | none => none
 | _,_,_ => none
theorem make_eq {i t k n k' m} : stMake P σ i t (.val (.int k n)) (.val (.int k' m)) = mk1 P σ i n m (elOf P t) := by
 unfold stMake mk1
 cases elOf P t <;> rfl
theorem mk1_some {i n m e} : mk1 P σ i n m (some e) = mk2 σ i e n m (szOf P e) (byOf P e) (zeroOf P e) := rfl
theorem mk2_some {i e n m sz nb p} : mk2 σ i e n m (some sz) (some nb) (some [.val p]) = if sz = 1 ∧ m = n ∧ 0 ≤ n ∧ nb * n.toNat ≤ 281474976710656 ∧ n ≤ 4611686018427387904 ∧ p.isAgg = false ∧ σ.isFree i = true then some (σ.setOb i (.row e (List.replicate n.toNat p)),.ref i) else none := by
 cases h : p.isAgg <;> simp [mk2,AV.pure?,AV.cell,h]
theorem mk2_nils {i e n m sz nb} : mk2 σ i e n m (some sz) (some nb) (some [.nils]) = if sz = 1 ∧ m = n ∧ 0 ≤ n ∧ nb * n.toNat ≤ 281474976710656 ∧ n ≤ 4611686018427387904 ∧ σ.isFree i = true then some (σ.setOb i (.row e (List.replicate n.toNat (PV.row []))),.ref i) else none := by
 simp [mk2,AV.pure?,AV.cell]
attribute [go_sem] make_eq mk1_some mk2_some mk2_nils
theorem bin_shr1 {t k k' x} : binPV P .shr t (.int k x) (.int k' 1) = some (.int k (x / 2)) := by
 have hb : min (1 : Nat) k.bits = 1 := by cases k <;> rfl
 simp [binPV,hb]
attribute [go_sem high] bin_shr1
theorem exec_dres_choose {m : Nat} {sp : List Nat} {c : Prop} [Decidable c] {e1 e2 M W S dst all b i rest aM aW ck} : exec md P n R sp (m + 1) (.dres (choose2 c e1 e2) M W S dst all b i rest aM aW ck k) σ =
  ((c → exec md P n R sp (m + 1) (.dres e1 M W S dst all b i rest aM aW ck k) σ) ∧ (¬c → exec md P n R sp (m + 1) (.dres e2 M W S dst all b i rest aM aW ck k) σ)) := by
 by_cases h : c <;> simp [h,choose2]
attribute [go_sem] exec_dres_choose
attribute [go_sem] step_index ixS_str ixc_some slice_str_hi slice_str_lo slice_str_both
attribute [go_sem] List.range_zero List.nil_append true_implies
end Go.Proofs.Zv
namespace Go.Proofs.YtfemlllmglaimaaGreat
open Go Go.Proofs Go.Proofs.Zv Go.Proofs.YtfemlllmglaimaaGreat.Ty
open Go.Proofs.Tryz renaming prog → pG
open List renaming getElem?_eq_getElem → zA, map_nil → zB, map_cons → zC, take_of_length_le → zD, mem_of_getElem? → zE, mem_cons_self → zG, mem_cons_of_mem → zH, mem_cons → zI, length_append → zJ, drop_eq_nil_of_le → zK, take_add_one → zL, map_append → zM, mem_map → zN, mem_append → zO, eq_nil_of_length_eq_zero → zP, getElem?_eq_some_iff → zQ, getElem?_map → zS, length_cons → zT, length_take → zU, filter_append → zV, length_map → zW
open Nat renaming zero_le → zF, le_refl → zR
theorem wrap_small {n : Int} (h : -9223372036854775808 ≤ n) (h' : n < 9223372036854775808) : IntKind.i64.wrap n = n := by rw [IntKind.wrap_i64]; omega
theorem wrap_small' {n : Int} (h : -9223372036854775808 ≤ n) (h' : n < 9223372036854775808) : IntKind.i64.wrap n = n := by rw [IntKind.wrap_i64]; omega
theorem ins_grow (xs ys : List PV) (i : Nat) (Y : List PV) (hy : ys.length = 1) (hi : i < xs.length) (hl : Y.length = xs.length + 1) (ht : Y.take i = xs.take i) :
  over (over Y ys i) (xs.drop i) (i + 1) = xs.take i ++ ys ++ xs.drop i := by
 have e1 : over Y ys i = xs.take i ++ ys ++ Y.drop (i + 1) := by rw [over,ht,hy]
 have hlen : (xs.take i ++ ys).length = i + 1 := by simp [Nat.min_eq_left (Nat.le_of_lt hi),hy]
 have hZl : (over Y ys i).length = xs.length + 1 := by rw [over_length (by omega)]; omega
 rw [over,zK («as» := over Y ys i) (by rw [hZl,List.length_drop]; omega),List.append_nil,e1,List.take_append_of_le_length (by omega),zD (by omega)]
theorem ins_room (xs ys : List PV) (i : Nat) (hy : ys.length = 1) (hi : i < xs.length) : over (over xs (xs.drop i) (i + 1)) ys i = xs.take i ++ ys ++ xs.drop i := by
 have e1 : over xs (xs.drop i) (i + 1) = xs.take (i + 1) ++ xs.drop i := by
  have e0 : xs.drop (i + 1 + (xs.drop i).length) = [] := zK (by rw [List.length_drop]; omega)
  rw [over,e0,List.append_nil]
 rw [over,e1,hy,List.take_append_of_le_length (by simp; omega),List.take_take,Nat.min_eq_left (Nat.le_succ i),List.drop_left' (by simp; omega)]
theorem wrap_small2 {n : Int} (h : -9223372036854775808 ≤ n) (h' : n < 9223372036854775808) : IntKind.i64.wrap n = n := by rw [IntKind.wrap_i64]; omega
theorem wrap_u2 {n : Int} (h : 0 ≤ n) (h' : n < 9223372036854775808) : IntKind.u64.wrap n = n := by
 simp [IntKind.wrap,IntKind.bits,IntKind.signed]; omega
theorem wrap_small3 {n : Int} (h : -9223372036854775808 ≤ n) (h' : n < 9223372036854775808) : IntKind.i64.wrap n = n := by rw [IntKind.wrap_i64]; omega
theorem drop_of_get {α : Type} {l : List α} {i : Nat} {x : α} (h : l[i]? = some x) : l.drop i = x :: l.drop (i + 1) := by
 obtain ⟨hlt,rfl⟩ := zQ.1 h
 exact List.drop_eq_getElem_cons hlt
def bsI (c : Nat → Int) (i j : Nat) : Nat := if h : i < j then (if c ((i + j) / 2) < 0 then bsI c ((i + j) / 2 + 1) j else bsI c i ((i + j) / 2)) else i
termination_by j - i
theorem bsI_eq (c : Nat → Int) (i j r : Nat) (h1 : i ≤ r) (h2 : r ≤ j) (h3 : ∀ m,i ≤ m → m < r → c m < 0) (h4 : ∀ m,r ≤ m → m < j → ¬ c m < 0) : bsI c i j = r := by
 rw [bsI]
 split
 ·split
  ·rename_i hlt hc
   have : (i + j) / 2 < r := by
    rcases Nat.lt_or_ge ((i + j) / 2) r with h | h
    ·exact h
    ·exact absurd hc (h4 _ h (by omega))
   exact bsI_eq c _ j r (by omega) h2 (fun m hm => h3 m (by omega)) h4
  ·rename_i hlt hc
   have : r ≤ (i + j) / 2 := by
    rcases Nat.lt_or_ge ((i + j) / 2) r with h | h
    ·exact absurd (h3 _ (by omega) h) hc
    ·exact h
   exact bsI_eq c i _ r h1 this h3 (fun m hm hm2 => h4 m hm (by omega))
 ·omega
termination_by j - i
def cAt (c : PV → Int) (xs : List PV) (m : Nat) : Int := match xs[m]? with
 | some x => c x
 | none => 0
theorem first_of {α : Type} (p : α → Bool) : ∀ xs : List α,∃ r,r ≤ xs.length ∧ (∀ x ∈ xs.take r,p x = false) ∧ (∀ x,xs[r]? = some x → p x = true) ∧ (r < xs.length ↔ ∃ x ∈ xs,p x = true)
 | [] => ⟨0,by simp,by simp,by simp,by simp⟩
 | x :: xs => by
  by_cases hx : p x = true
  ·exact ⟨0,by simp,by simp,by simp [hx],by simp [hx]⟩
  ·obtain ⟨r,h1,h2,h3,h4⟩ := first_of p xs
   refine ⟨r + 1,by simpa using h1,?_,by simpa using h3,?_⟩
   ·intro y hy
    simp only [List.take_succ_cons,zI] at hy
    rcases hy with rfl | hy
    ·simpa using hx
    ·exact h2 y hy
   ·simp only [zT,Nat.add_lt_add_iff_right,h4,zI]
    constructor
    ·rintro ⟨y,hy,hp⟩
     exact ⟨y,.inr hy,hp⟩
    ·rintro ⟨y,rfl | hy,hp⟩
     ·exact absurd hp hx
     ·exact ⟨y,hy,hp⟩
structure Pair where
 key : List UInt8
 value : List UInt8
 deriving DecidableEq
def Pair.pv (p : Pair) : PV := .agg [.str p.key,.str p.value]
def pairsFrom : Option (List UInt8) → List Pair → Prop
 | _,[] => True
 | last,p :: r => p.key.length ≤ 16 ∧ p.value.length ≤ 32 ∧ (∀ k,last = some k → slt k p.key) ∧ pairsFrom (some p.key) r
def pairsOk (l : List Pair) : Prop := pairsFrom none l
instance instPF : ∀ (last : Option (List UInt8)) (l : List Pair),Decidable (pairsFrom last l)
 | _,[] => isTrue trivial
 | none,s :: r => by
  unfold pairsFrom
  have := instPF (some s.key) r
  have : Decidable (∀ k,none = some k → slt k s.key) := isTrue (fun k h => by cases h)
  infer_instance
 | some k,s :: r => by
  unfold pairsFrom
  have := instPF (some s.key) r
  have : Decidable (∀ k',some k = some k' → slt k' s.key) := decidable_of_iff (slt k s.key) ⟨fun h k' e => by cases e; exact h,fun h => h k rfl⟩
  infer_instance
instance instPairsOk (l : List Pair) : Decidable (pairsOk l) := by unfold pairsOk; infer_instance
def prevKey (l : List Pair) (i : Nat) : Option (List UInt8) := if i = 0 then none else (l[i - 1]?).map Pair.key
set_option maxRecDepth 4000 in
set_option maxHeartbeats 4000000 in
theorem leaf_Right (l : List Pair) (hl : l.length ≤ 1000000) : Ct pG 104 (Zv.ops [.row (l.map Pair.pv)]) (.vals [.bool (decide (pairsOk l))]) := by
 refine Ct.of_V Tryz.func104 rfl (by simp [Zv.ops,Tryz.f104]) ?_
 refine V.exec 400 ?_
 simp +contextual (maxSteps:=9^7) only [go_sem,Tryz.f104]
 refine V.loop (fun m ls os => ∃ (i : Nat),i ≤ l.length ∧ m = l.length - i ∧ (pairsOk l ↔ pairsFrom (prevKey l i) (l.drop i)) ∧
    ls = [(0,.val (.row (l.map Pair.pv))),(5,.val (.row (l.map Pair.pv))),(6,.val (.int .i64 l.length)),(7,.val (.int .i64 i))] ∧ os = []) 0 l.length
   [(0,.val (.row (l.map Pair.pv))),(5,.val (.row (l.map Pair.pv))),(6,.val (.int .i64 l.length)),(7,.val (.int .i64 0))] [] []
   ⟨0,zF _,rfl,Iff.rfl,rfl,rfl⟩ (by simp only [go_sem]) ?_
 rintro m ls os ⟨i,hi,rfl,hiff,rfl,rfl⟩
 refine V.exec 400 ?_
 by_cases hlt : i < l.length
 ·have hlt' : (i : Int) < (l.length : Int) := by omega
  obtain ⟨x,hx⟩ : ∃ x,l[i]? = some x := ⟨_,zA hlt⟩
  have hw : IntKind.i64.wrap ((i : Int) + 1) = ((i + 1 : Nat) : Int) := by rw [wrap_small3] <;> omega
  rw [drop_of_get hx,pairsFrom] at hiff
  have hpk : prevKey l (i + 1) = some x.key := by simp [prevKey,hx]
  have e1 : ((x.key.length : Int) ≤ 16) = (x.key.length ≤ 16) := by apply propext; omega
  have e2 : ((x.value.length : Int) ≤ 32) = (x.value.length ≤ 32) := by apply propext; omega
  have fin : x.key.length ≤ 16 → x.value.length ≤ 32 → (∀ k,prevKey l i = some k → slt k x.key) → (pairsOk l ↔ pairsFrom (prevKey l (i + 1)) (l.drop (i + 1))) := fun a b c => by
   rw [hiff,hpk]; exact ⟨fun h => h.2.2.2,fun h => ⟨a,b,c,h⟩⟩
  have hfalse : ¬ pairsOk l → some [PV.bool false] = some [PV.bool (decide (pairsOk l))] := fun h => by simp [h]
  rcases Nat.eq_zero_or_pos i with rfl | hpos
  ·have hz : ¬ (0 : Int) < ((0 : Nat) : Int) := by omega
   simp +contextual (maxSteps:=9^7) only [go_sem,hlt',hx,Pair.pv,hw,hz,e1,e2]
   (repeat' (first | (intro _) | (refine ⟨by kernel_rfl,?_⟩) | (apply And.intro)))
   ·exact ⟨l.length - (0 + 1),_,[],[],by omega,⟨1,by omega,rfl,fin (by omega) (by omega) (fun k h => by simp [prevKey] at h),rfl,rfl⟩,by simp only [go_sem]⟩
   ·refine hfalse fun h => ?_
    have := (hiff.1 h).2.1
    omega
   ·refine hfalse fun h => ?_
    have := (hiff.1 h).1
    omega
  ·obtain ⟨j,rfl⟩ : ∃ j,i = j + 1 := ⟨i - 1,by omega⟩
   have hw2 : IntKind.i64.wrap (((j + 1 : Nat) : Int) - 1) = (j : Int) := by rw [wrap_small3] <;> omega
   have hjp : (0 : Int) < ((j + 1 : Nat) : Int) := by omega
   obtain ⟨y,hy⟩ : ∃ y,l[j]? = some y := ⟨_,zA (by omega)⟩
   simp +contextual (maxSteps:=9^7) only [go_sem,hlt',hx,Pair.pv,hw,hw2,hjp,hy,e1,e2]
   (repeat' (first | (intro _) | (refine ⟨by kernel_rfl,?_⟩) | (apply And.intro)))
   ·refine hfalse fun h => ?_
    have := (hiff.1 h).2.2.1 y.key (by simp [prevKey,hy])
    contradiction
   ·rename_i a b c
    exact ⟨l.length - (j + 1 + 1),_,[],[],by omega,⟨j + 1 + 1,by omega,rfl,fin (by omega) (by omega) (fun k h => by simp [prevKey,hy] at h; rw [← h]; assumption),rfl,rfl⟩,by simp only [go_sem]⟩
   ·refine hfalse fun h => ?_
    have := (hiff.1 h).2.1
    omega
   ·refine hfalse fun h => ?_
    have := (hiff.1 h).1
    omega
 ·have hlt' : ¬ (i : Int) < (l.length : Int) := by omega
  have hd : l.drop i = [] := zK (by omega)
  rw [hd,pairsFrom] at hiff
  simp +contextual (maxSteps:=9^7) only [go_sem,hlt']
  simp [hiff]
structure Change where
 seq : Int
 key : List UInt8
 had : Bool
 bef : List UInt8
 has : Bool
 aft : List UInt8
 deriving DecidableEq
def Change.pv (c : Change) : PV := .agg [.int .i64 c.seq,.str c.key,.bool (decide (c.had = true)),.str c.bef,.bool (decide (c.has = true)),.str c.aft]
def Change.ok (c : Change) : Prop := c.key.length ≤ 16 ∧ c.bef.length ≤ 32 ∧ c.aft.length ≤ 32 ∧ 1 ≤ c.seq ∧ c.seq ≤ 2147483647 ∧ (c.had = true ∨ c.bef = []) ∧ (c.has = true ∨ c.aft = []) ∧ (c.had = true ∨ c.has = true)
instance Change.instOk (c : Change) : Decidable c.ok := by unfold Change.ok; infer_instance
theorem pairsOk_one (k v : List UInt8) : pairsOk [⟨k,v⟩] ↔ k.length ≤ 16 ∧ v.length ≤ 32 := by simp [pairsOk,pairsFrom]
set_option maxRecDepth 4000 in
set_option maxHeartbeats 4000000 in
theorem flat_May (c : Change) : Ct pG 101 (Zv.ops [c.pv]) (.vals [.bool (decide c.ok)]) := by
 refine Ct.of_V Tryz.func101 rfl (by simp [Zv.ops,Tryz.f101]) ?_
 refine V.exec 400 ?_
 simp +contextual (maxSteps:=9^7) only [go_sem,Tryz.f101,Change.pv]
 refine V.call rfl rfl (by simp [dOK]) ⟨104,[],by simp only [go_sem],⟨_,rfl,rfl,rfl⟩,.inl ⟨[.row ([(⟨c.key,c.bef⟩ : Pair)].map Pair.pv)],_,.inl (by simp only [go_sem,Pair.pv,zC,zB]),leaf_Right [⟨c.key,c.bef⟩] (by simp),.inl ⟨_,rfl,rfl,rfl,rfl⟩⟩⟩ ?_
 refine V.exec 400 ?_
 by_cases h1 : pairsOk [(⟨c.key,c.bef⟩ : Pair)]
 ·simp +contextual (maxSteps:=9^7) only [go_sem,Pair.pv,zC,zB,h1]
  refine V.call rfl rfl (by simp [dOK]) ⟨104,[],by simp only [go_sem],⟨_,rfl,rfl,rfl⟩,.inl ⟨[.row ([(⟨c.key,c.aft⟩ : Pair)].map Pair.pv)],_,.inl (by simp only [go_sem,Pair.pv,zC,zB]),leaf_Right [⟨c.key,c.aft⟩] (by simp),.inl ⟨_,rfl,rfl,rfl,rfl⟩⟩⟩ ?_
  refine V.exec 400 ?_
  rw [pairsOk_one] at h1
  by_cases h2 : pairsOk [(⟨c.key,c.aft⟩ : Pair)]
  ·simp +contextual (maxSteps:=9^7) only [go_sem,Pair.pv,zC,zB,h2]
   rw [pairsOk_one] at h2
   simp only [Option.some.injEq,List.cons.injEq,PV.bool.injEq,and_true]
   grind [Change.ok]
  ·simp +contextual (maxSteps:=9^7) only [go_sem,Pair.pv,zC,zB,h2]
   rw [pairsOk_one] at h2
   have : ¬ c.ok := fun h => h2 ⟨h.1,h.2.2.1⟩
   simp [this]
 ·simp +contextual (maxSteps:=9^7) only [go_sem,Pair.pv,zC,zB,h1]
  rw [pairsOk_one] at h1
  have : ¬ c.ok := fun h => h1 ⟨h.1,h.2.1⟩
  simp [this]
def trailFrom : Option Int → List Change → Prop
 | _,[] => True
 | last,c :: r => c.ok ∧ (∀ s,last = some s → s < c.seq) ∧ trailFrom (some c.seq) r
def trailOk (l : List Change) : Prop := trailFrom none l
instance instTF : ∀ (last : Option Int) (l : List Change),Decidable (trailFrom last l)
 | _,[] => isTrue trivial
 | none,s :: r => by
  unfold trailFrom
  have := instTF (some s.seq) r
  have : Decidable (∀ k,none = some k → k < s.seq) := isTrue (fun k h => by cases h)
  infer_instance
 | some k,s :: r => by
  unfold trailFrom
  have := instTF (some s.seq) r
  have : Decidable (∀ k',some k = some k' → k' < s.seq) := decidable_of_iff (k < s.seq) ⟨fun h k' e => by cases e; exact h,fun h => h k rfl⟩
  infer_instance
instance instTrailOk (l : List Change) : Decidable (trailOk l) := by unfold trailOk; infer_instance
def prevSeq (l : List Change) (i : Nat) : Option Int := if i = 0 then none else (l[i - 1]?).map Change.seq
set_option maxRecDepth 4000 in
set_option maxHeartbeats 8000000 in
theorem trail_Right (l : List Change) (hl : l.length ≤ 1000000) : Ct pG 56 (Zv.ops [.row (l.map Change.pv)]) (.vals [.bool (decide (trailOk l))]) := by
 refine Ct.of_V Tryz.func56 rfl (by simp [Zv.ops,Tryz.f56]) ?_
 refine V.exec 400 ?_
 simp +contextual (maxSteps:=9^7) only [go_sem,Tryz.f56]
 refine V.loop (fun m ls os => ∃ (i : Nat),i ≤ l.length ∧ m = l.length - i ∧ (trailOk l ↔ trailFrom (prevSeq l i) (l.drop i)) ∧
    ls = [(0,.val (.row (l.map Change.pv))),(5,.val (.row (l.map Change.pv))),(6,.val (.int .i64 l.length)),(7,.val (.int .i64 i))] ∧ os = []) 0 l.length
   [(0,.val (.row (l.map Change.pv))),(5,.val (.row (l.map Change.pv))),(6,.val (.int .i64 l.length)),(7,.val (.int .i64 0))] [] []
   ⟨0,zF _,rfl,Iff.rfl,rfl,rfl⟩ (by simp only [go_sem]) ?_
 rintro m ls os ⟨i,hi,rfl,hiff,rfl,rfl⟩
 refine V.exec 400 ?_
 by_cases hlt : i < l.length
 ·have hlt' : (i : Int) < (l.length : Int) := by omega
  obtain ⟨x,hx⟩ : ∃ x,l[i]? = some x := ⟨_,zA hlt⟩
  have hw : IntKind.i64.wrap ((i : Int) + 1) = ((i + 1 : Nat) : Int) := by rw [wrap_small3] <;> omega
  rw [drop_of_get hx,trailFrom] at hiff
  have hpk : prevSeq l (i + 1) = some x.seq := by simp [prevSeq,hx]
  have fin : x.ok → (∀ k,prevSeq l i = some k → k < x.seq) → (trailOk l ↔ trailFrom (prevSeq l (i + 1)) (l.drop (i + 1))) := fun a b => by
   rw [hiff,hpk]; exact ⟨fun h => h.2.2,fun h => ⟨a,b,h⟩⟩
  have hfalse : ¬ trailOk l → some [PV.bool false] = some [PV.bool (decide (trailOk l))] := fun h => by simp [h]
  simp +contextual (maxSteps:=9^7) only [go_sem,hlt',hx,Change.pv]
  refine DV.call [] [] (by simp only [go_sem,Change.pv]) (by simp [dOK]) ⟨101,[],by simp only [go_sem,Change.pv],⟨_,rfl,rfl,rfl⟩,.inl ⟨[x.pv],_,.inl (by simp only [go_sem,Change.pv]),flat_May x,.inl ⟨_,rfl,rfl,rfl,rfl⟩⟩⟩ (by simp only [go_sem,Change.pv]) (by simp only [go_sem,Change.pv]) (by simp only [go_sem,Change.pv]) (by simp) ?_
  refine DV.exec 400 ?_
  by_cases hok : x.ok
  ·rcases Nat.eq_zero_or_pos i with rfl | hpos
   ·have hz : ¬ (0 : Int) < ((0 : Nat) : Int) := by omega
    simp +contextual (maxSteps:=9^7) only [go_sem,hlt',hx,Change.pv,hw,hz,hok]
    (repeat' (first | (intro _) | (refine ⟨by kernel_rfl,?_⟩) | (apply And.intro)))
    exact ⟨l.length - (0 + 1),_,[],[],by omega,⟨1,by omega,rfl,fin hok (fun k h => by simp [prevSeq] at h),rfl,rfl⟩,by simp only [go_sem]⟩
   ·obtain ⟨j,rfl⟩ : ∃ j,i = j + 1 := ⟨i - 1,by omega⟩
    have hw2 : IntKind.i64.wrap (((j + 1 : Nat) : Int) - 1) = (j : Int) := by rw [wrap_small3] <;> omega
    have hjp : (0 : Int) < ((j + 1 : Nat) : Int) := by omega
    obtain ⟨y,hy⟩ : ∃ y,l[j]? = some y := ⟨_,zA (by omega)⟩
    simp +contextual (maxSteps:=9^7) only [go_sem,hlt',hx,Change.pv,hw,hw2,hjp,hy,hok]
    (repeat' (first | (intro _) | (refine ⟨by kernel_rfl,?_⟩) | (apply And.intro)))
    ·refine hfalse fun h => ?_
     have := (hiff.1 h).2.1 y.seq (by simp [prevSeq,hy])
     omega
    ·exact ⟨l.length - (j + 1 + 1),_,[],[],by omega,⟨j + 1 + 1,by omega,rfl,fin hok (fun k h => by simp [prevSeq,hy] at h; omega),rfl,rfl⟩,by simp only [go_sem]⟩
  ·simp +contextual (maxSteps:=9^7) only [go_sem,hlt',hx,Change.pv,hw,hok]
   (repeat' (first | (intro _) | (refine ⟨by kernel_rfl,?_⟩) | (apply And.intro)))
   exact hfalse fun h => hok (hiff.1 h).1
 ·have hlt' : ¬ (i : Int) < (l.length : Int) := by omega
  have hd : l.drop i = [] := zK (by omega)
  rw [hd,trailFrom] at hiff
  simp +contextual (maxSteps:=9^7) only [go_sem,hlt']
  simp [hiff]
set_option maxHeartbeats 2000000 in
theorem CloneChange (xs : List PV) (h1 : ∀ x ∈ xs,x.cells.length = 6) (hl : xs.length ≤ 1000000) : Ct pG 54 (Zv.ops [.row xs]) (.own 89 xs) := by
 refine Ct.of_V Tryz.func54 rfl (by simp [Zv.ops,Tryz.f54]) ?_
 refine V.exec 400 ?_
 simp +contextual (maxSteps:=9^7) only [go_sem,Tryz.f54]
 refine V.nilq (xs := xs) rfl rfl (.inl rfl) (by simp only [go_sem,↓reduceIte,Nat.reduceEqDiff]) (by simp only [go_sem]; rfl) (by simp [dOK]) fun c hc => ?_
 refine V.exec 400 ?_
 simp +contextual (maxSteps:=9^7) only [go_sem]
 exact ⟨fun h => ⟨hc h,6,rfl,by decide⟩,fun _ => ⟨h1,by omega,by omega⟩⟩
set_option maxHeartbeats 2000000 in
theorem IndexFuncChange (xs : List PV) (g : FuncId) (caps : List PV) (p : PV → Bool) (h1 : ∀ x ∈ xs,x.cells.length = 6 ∧ x.isAgg = true) (hl : xs.length ≤ 1000000) (hg : Entered pG g)
  (hp : ∀ x ∈ xs,Ct pG g (Zv.ops ([x] ++ caps)) (.vals [.bool (decide (p x = true))])) (r : Nat) (hr : r ≤ xs.length) (hr1 : ∀ x ∈ xs.take r,p x = false) (hr2 : ∀ x,xs[r]? = some x → p x = true) :
  Ct pG 158 (Zv.ops [.row xs,.fn g caps]) (.vals [.int .i64 (if r < xs.length then (r : Int) else -1)]) := by
 refine Ct.of_V Tryz.func158 rfl (by simp [Zv.ops,Tryz.f158]) ?_
 refine V.exec 400 ?_
 simp +contextual (maxSteps:=9^7) only [go_sem,Tryz.f158]
 refine V.loop (fun m ls os => ∃ i : Nat,i ≤ r ∧ m = xs.length - i ∧
    ls = [(0,.val (.row xs)),(1,.val (.fn g caps)),(7,.val (.int .i64 xs.length)),(8,.val (.int .i64 i))] ∧ os = []) 0 xs.length [(0,.val (.row xs)),(1,.val (.fn g caps)),(7,.val (.int .i64 xs.length)),(8,.val (.int .i64 0))] [] []
   ⟨0,zF _,rfl,rfl,rfl⟩ (by simp only [go_sem]) ?_
 rintro m ls os ⟨i,hi,rfl,rfl,rfl⟩
 refine V.exec 400 ?_
 by_cases hlt : i < xs.length
 ·have hlt' : (i : Int) < (xs.length : Int) := by omega
  obtain ⟨x,hx⟩ : ∃ x,xs[i]? = some x := ⟨_,zA hlt⟩
  have hxm : x ∈ xs := zE hx
  obtain ⟨hxc,hxa⟩ := h1 x hxm
  have hw : IntKind.i64.wrap ((i : Int) + 1) = ((i + 1 : Nat) : Int) := by rw [wrap_small] <;> omega
  simp +contextual (maxSteps:=9^7) only [go_sem,hlt',hx,hxc,hxa]
  refine V.call rfl rfl (by simp [dOK]) ⟨g,caps,by simp only [go_sem],hg,.inl ⟨[x],_,.inl (by simp only [go_sem]),hp x hxm,.inl ⟨_,rfl,rfl,rfl,rfl⟩⟩⟩ ?_
  refine V.exec 400 ?_
  simp +contextual (maxSteps:=9^7) only [go_sem,hw]
  constructor
  ·intro hpx
   have hir : i = r := by
    rcases Nat.lt_or_ge i r with h | h
    ·have := hr1 x (zE (i := i) (by rw [List.getElem?_take_of_lt h]; exact hx))
     rw [this] at hpx; cases hpx
    ·omega
   subst hir
   rw [if_pos hlt]
  ·intro hpx
   have hir : i < r := by
    rcases Nat.lt_or_ge i r with h | h
    ·exact h
    ·have : i = r := by omega
     subst this
     exact absurd (hr2 x hx) hpx
   exact ⟨xs.length - (i + 1),_,[],[],by omega,⟨i + 1,by omega,rfl,rfl,rfl⟩,by simp only [go_sem]⟩
 ·have hlt' : ¬ (i : Int) < (xs.length : Int) := by omega
  simp +contextual (maxSteps:=9^7) only [go_sem,hlt']
  rw [if_neg (by omega)]
set_option maxHeartbeats 4000000 in
theorem DeleteFuncChange (xs : List PV) (g : FuncId) (caps : List PV) (p : PV → Bool) (h1 : ∀ x ∈ xs,x.cells.length = 6 ∧ x.isAgg = true ∧ ∀ c ∈ x.cells,c.isAgg = false) (hl : xs.length ≤ 1000000) (hg : Entered pG g)
  (hp : ∀ x ∈ xs,Ct pG g (Zv.ops ([x] ++ caps)) (.vals [.bool (decide (p x = true))])) (hz : (zeroPV pG 89 6).isSome = true) :
  Ct pG 122 (.o 89 xs :: Zv.ops [.fn g caps]) (.own 89 (xs.filter fun x => !p x)) := by
 obtain ⟨r,hr,hr1,hr2⟩ : ∃ r,r ≤ xs.length ∧ (∀ x ∈ xs.take r,p x = false) ∧ ∀ x,xs[r]? = some x → p x = true := by
  clear h1 hl hp
  induction xs with
  | nil => exact ⟨0,by simp,by simp,by simp⟩
  | cons x xs ih =>
   by_cases hx : p x = true
   ·exact ⟨0,by simp,by simp,by simp [hx]⟩
   ·obtain ⟨r,h1,h2,h3⟩ := ih
    refine ⟨r + 1,by simpa using h1,?_,by simpa using h3⟩
    intro y hy
    simp only [List.take_succ_cons,zI] at hy
    rcases hy with rfl | hy
    ·simpa using hx
    ·exact h2 y hy
 refine Ct.of_V Tryz.func122 rfl (by simp [Zv.ops,Tryz.f122]) ?_
 refine V.exec 400 ?_
 simp +contextual (maxSteps:=9^7) only [go_sem,Tryz.f122]
 refine V.call rfl rfl (by simp [dOK]) ⟨158,[],by simp only [go_sem],⟨_,rfl,rfl,rfl⟩,.inl ⟨[.row xs,.fn g caps],_,.inl (by simp only [go_sem]),IndexFuncChange xs g caps p (fun x hx => ⟨(h1 x hx).1,(h1 x hx).2.1⟩) hl hg hp r hr hr1 hr2,.inl ⟨_,rfl,rfl,rfl,rfl⟩⟩⟩ ?_
 refine V.exec 400 ?_
 simp +contextual (maxSteps:=9^7) only [go_sem]
 constructor
 ·intro h
  have hrl : ¬ r < xs.length := by intro h'; rw [if_pos h'] at h; omega
  have : xs.filter (fun x => !p x) = xs := by
   rw [List.filter_eq_self]
   intro x hx
   have := hr1 x (by rw [zD (by omega)]; exact hx)
   simp [this]
  rw [this]
 ·intro h
  have hrl : r < xs.length := by
   rcases Nat.lt_or_ge r xs.length with h' | h'
   ·exact h'
   ·rw [if_neg (by omega)] at h; exact absurd rfl h
  simp only [if_pos hrl]
  have hw0 : IntKind.i64.wrap ((r : Int) + 1) = ((r + 1 : Nat) : Int) := by rw [wrap_small] <;> omega
  simp only [hw0]
  refine V.loop (fun m ls os => ∃ (i j : Nat) (ys : List PV),i < j ∧ j ≤ xs.length ∧ m = xs.length - j ∧ ys.length = xs.length ∧ ys.take i = (xs.take j).filter (fun x => !p x) ∧ ys.drop j = xs.drop j ∧ (∀ y ∈ ys,y ∈ xs) ∧
    ls = [(0,.ref 0),(1,.val (.fn g caps)),(5,.val (.int .i64 i)),(6,.val (.int .i64 j))] ∧ os = [.row 89 ys]) 1 (xs.length - (r + 1)) [(0,.ref 0),(1,.val (.fn g caps)),(5,.val (.int .i64 r)),(6,.val (.int .i64 (r + 1 : Nat)))] [.row 89 xs] [some 0]
   ⟨r,r + 1,xs,by omega,by omega,rfl,rfl,?_,rfl,fun y hy => hy,rfl,rfl⟩ (by simp only [go_sem]) ?_
  ·obtain ⟨x,hx⟩ : ∃ x,xs[r]? = some x := ⟨_,zA hrl⟩
   rw [zL,hx,zV]
   have e1 : (xs.take r).filter (fun x => !p x) = xs.take r := by
    rw [List.filter_eq_self]; intro y hy; simp [hr1 y hy]
   rw [e1]
   simp [hr2 x hx]
  ·rintro m ls os ⟨i,j,ys,hij,hj,rfl,hyl,hyt,hyd,hym,rfl,rfl⟩
   by_cases hlt : j < xs.length
   ·have hlt' : (j : Int) < (ys.length : Int) := by omega
    refine V.exec 400 ?_
    obtain ⟨x,hx⟩ : ∃ x,ys[j]? = some x := ⟨_,zA (by omega)⟩
    obtain ⟨z,hz'⟩ : ∃ z,ys[i]? = some z := ⟨_,zA (by omega)⟩
    have hxm : x ∈ xs := hym x (zE hx)
    have hzm : z ∈ xs := hym z (zE hz')
    obtain ⟨hzc,hza,_⟩ := h1 z hzm
    obtain ⟨hxc,hxa,hxn⟩ := h1 x hxm
    have hpx := hp x hxm
    obtain ⟨c0,c1,c2,c3,c4,c5,rfl⟩ : ∃ c0 c1 c2 c3 c4 c5,x = .agg [c0,c1,c2,c3,c4,c5] := by
     cases x with
     | agg cs =>
      match cs,hxc with
      | [c0,c1,c2,c3,c4,c5],_ => exact ⟨c0,c1,c2,c3,c4,c5,rfl⟩
     | _ => cases hxa
    have n0 : c0.isAgg = false := hxn c0 (by simp [PV.cells])
    have n1 : c1.isAgg = false := hxn c1 (by simp [PV.cells])
    have n2 : c2.isAgg = false := hxn c2 (by simp [PV.cells])
    have n3 : c3.isAgg = false := hxn c3 (by simp [PV.cells])
    have n4 : c4.isAgg = false := hxn c4 (by simp [PV.cells])
    have n5 : c5.isAgg = false := hxn c5 (by simp [PV.cells])
    have hwi : IntKind.i64.wrap ((i : Int) + 1) = ((i + 1 : Nat) : Int) := by rw [wrap_small] <;> omega
    have hwj : IntKind.i64.wrap ((j : Int) + 1) = ((j + 1 : Nat) : Int) := by rw [wrap_small] <;> omega
    simp +contextual (maxSteps:=9^7) only [go_sem,hlt',hx,n0,n1,n2,n3,n4,n5]
    refine V.call rfl rfl (by simp [dOK]) ⟨g,caps,by simp only [go_sem],hg,.inl ⟨[_],_,.inl (by simp only [go_sem]),hpx,.inl ⟨_,rfl,rfl,rfl,rfl⟩⟩⟩ ?_
    refine V.exec 400 ?_
    simp +contextual (maxSteps:=9^7) only [go_sem,hwi,hwj,hz',hzc,n0,n1,n2,n3,n4,n5]
    have hxj : xs[j]? = some (.agg [c0,c1,c2,c3,c4,c5]) := by
     have e1 : (ys.drop j)[0]? = (xs.drop j)[0]? := by rw [hyd]
     simp only [List.getElem?_drop,Nat.add_zero] at e1
     rw [← e1]; exact hx
    have hdrop : ys.drop (j + 1) = xs.drop (j + 1) := by rw [← List.drop_drop,← List.drop_drop,hyd]
    have htk : xs.take (j + 1) = xs.take j ++ [.agg [c0,c1,c2,c3,c4,c5]] := by rw [zL,hxj]; rfl
    constructor
    ·intro hpx
     refine ⟨xs.length - (j + 1),_,_,[some 0],by omega,⟨i + 1,j + 1,ys.set i (.agg [c0,c1,c2,c3,c4,c5]),by omega,by omega,rfl,by simpa using hyl,?_,?_,?_,rfl,rfl⟩,?_⟩
     ·rw [htk,zV,← hyt,zL,List.getElem?_set_self (by omega),List.take_set_of_le (zR _)]
      simp [hpx]
     ·rw [List.drop_set_of_lt (by omega)]; exact hdrop
     ·intro y hy
      rcases List.mem_or_eq_of_mem_set hy with hy | hy
      ·exact hym y hy
      ·rw [hy]; exact hxm
     ·simp only [go_sem]
    ·intro hpx
     refine ⟨xs.length - (j + 1),_,_,[some 0],by omega,⟨i,j + 1,ys,by omega,by omega,rfl,hyl,?_,hdrop,hym,rfl,rfl⟩,?_⟩
     ·rw [htk,zV,hyt]
      simp [hpx]
     ·simp only [go_sem]
   ·have hlt' : ¬ (j : Int) < (ys.length : Int) := by omega
    refine V.execS [11] 400 ?_
    simp +contextual (maxSteps:=9^7) only [go_sem,hlt']
    refine V.opn 0 6 89 ys (by simp only [go_sem]) (by simp only [go_sem]) fun q => ?_
    refine V.exec 400 ?_
    simp +contextual (maxSteps:=9^7) only [go_sem]
    have hi : i ≤ ys.length := by omega
    have hjx : j = xs.length := by omega
    rw [show 0 + i = i from Nat.zero_add i,over_length hi,List.length_replicate]
    refine ⟨⟨hi,by omega⟩,⟨hi,by omega⟩,⟨by omega,by omega⟩,by omega,?_⟩
    rw [hjx,List.take_length] at hyt
    rw [Nat.sub_zero,over,List.append_assoc,List.take_append_of_le_length (by simp [Nat.min_eq_left hi]),List.take_take,Nat.min_self,hyt]
structure Range where
 lo : List UInt8
 hi : List UInt8
 op : Bool
 deriving DecidableEq
def Range.pv (r : Range) : PV := .agg [.str r.lo,.str r.hi,.bool (decide (r.op = true))]
def Range.ok (r : Range) : Prop := r.lo.length ≤ 16 ∧ r.hi.length ≤ 17 ∧ (r.op = true → r.hi = [])
instance Range.instOk (r : Range) : Decidable r.ok := by unfold Range.ok; infer_instance
structure Sub where
 id : Int
 r : Range
 live : Bool
 next : List UInt8
 cur : Int
 deriving DecidableEq
def Sub.pv (s : Sub) : PV := .agg [.int .i64 s.id,.str s.r.lo,.str s.r.hi,.bool (decide (s.r.op = true)),.bool (decide (s.live = true)),.str s.next,.int .i64 s.cur]
def Sub.ok (s : Sub) : Prop := s.r.ok ∧ s.next.length ≤ 17 ∧ (s.live = true → s.next = []) ∧ 0 ≤ s.cur ∧ s.cur ≤ 2147483647
instance Sub.instOk (s : Sub) : Decidable s.ok := by unfold Sub.ok; infer_instance
theorem stretch_Right (r : Range) : Ct pG 78 (Zv.ops [r.pv]) (.vals [.bool (decide r.ok)]) := by
 refine Ct.of_V Tryz.func78 rfl (by simp [Zv.ops,Tryz.f78]) ?_
 refine V.exec 400 ?_
 simp +contextual (maxSteps:=9^7) only [go_sem,Range.pv,Tryz.f78]
 have e1 : ((r.lo.length : Int) ≤ 16) = (r.lo.length ≤ 16) := by apply propext; omega
 have e2 : ((r.hi.length : Int) ≤ 17) = (r.hi.length ≤ 17) := by apply propext; omega
 simp only [e1,e2,Option.some.injEq,List.cons.injEq,PV.bool.injEq,and_true]
 grind [Range.ok]
set_option maxHeartbeats 2000000 in
theorem feed_Right (s : Sub) : Ct pG 102 (Zv.ops [s.pv]) (.vals [.bool (decide s.ok)]) := by
 refine Ct.of_V Tryz.func102 rfl (by simp [Zv.ops,Tryz.f102]) ?_
 refine V.exec 400 ?_
 simp +contextual (maxSteps:=9^7) only [go_sem,Sub.pv,Tryz.f102]
 refine V.call rfl rfl (by simp [dOK]) ⟨78,[],by simp only [go_sem],⟨_,rfl,rfl,rfl⟩,.inl ⟨[s.r.pv],_,.inl (by simp only [go_sem,Range.pv]),stretch_Right s.r,.inl ⟨_,rfl,rfl,rfl,rfl⟩⟩⟩ ?_
 refine V.exec 400 ?_
 simp +contextual (maxSteps:=9^7) only [go_sem]
 have e1 : ((s.next.length : Int) ≤ 17) = (s.next.length ≤ 17) := by apply propext; omega
 simp only [e1,Option.some.injEq,List.cons.injEq,PV.bool.injEq,and_true]
 grind [Sub.ok]
end Go.Proofs.YtfemlllmglaimaaGreat
