/- Contracts out of walks; the walk's steps, reckoned. -/
import Derived.Test.YtglpemnejngkaaaVmL
set_option linter.unusedVariables false
set_option linter.unusedSimpArgs false
namespace Go.Proofs.YtglpemnejngkaaaVm
open Go Classical

def inits : Nat → List Arg → List (Nat × AV)
  | _, [] => []
  | i, .p x :: r => (i, .val x) :: inits (i + 1) r
  | i, .o _ _ :: r => (i, .ref i) :: inits (i + 1) r
def initObs : List Arg → List Ob
  | [] => []
  | .p _ :: r => .gone :: initObs r
  | .o e xs :: r => .row e xs :: initObs r
def initSt (args : List Arg) : St := litSt (inits 0 args) (initObs args) args.length

def retVals (P : Program) : St → List ResultVar → Option (List PV)
  | _, [] => some []
  | σ, .tmp t :: rs => match σ.pv (σ.sl t), retVals P (σ.pub (σ.sl t)) rs with
    | some p, some ps => some (p :: ps)
    | _, _ => none
  | σ, .cell a t :: rs => match stLoad P σ t (σ.sl a) with
    | some (σ', .val p) => match retVals P σ' rs with
      | some ps => some (p :: ps)
      | none => none
    | _ => none

/-- What is handed back. -/
def RetOK (P : Program) (σ : St) (rs : List ResultVar) : Res → Prop
  | .vals ps => retVals P σ rs = some ps
  | .own e xs => match rs with
    | [.tmp t] => match σ.sl t with
      | .ref i => σ.ob i = .row e xs
      | .vw i sz l n => ∃ ys q, σ.ob i = .rowk e ys q ∧ l = 0 ∧ n ≤ ys.length ∧ xs = ys.take n
      | .nils => xs = [] ∧ ∃ sz, szOf P e = some sz ∧ 0 < sz
      | _ => False
    | _ => False

/-- The state in which a call comes back. -/
def RetSt (P : Program) (rs : List ResultVar) (r : Res) : St → Prop := fun σ => RetOK P σ rs r

section
variable {P : Program} {C : Ctx} {R : St → Prop} {σ : St} {a : Act} {w : World} {cv : Nat → Value}

theorem inits_find (args : List Arg) : ∀ (i t : Nat), (match (inits i args).find? (fun x => x.1 == t) with | some x => x.2 | none => AV.any) =
    if i ≤ t then (match args[t - i]? with | some (.p x) => .val x | some (.o _ _) => .ref t | none => .any) else .any := by
  induction args with
  | nil => intro i t; simp [inits]
  | cons x r ih =>
    intro i t
    by_cases e : i = t
    · subst e
      cases x <;> simp [inits]
    · have e' : (i == t) = false := by simpa using e
      cases x <;> simp only [inits, List.find?_cons, e'] <;> rw [ih (i + 1) t]
      all_goals
        by_cases hle : i + 1 ≤ t
        · rw [if_pos hle, if_pos (by omega)]
          have : t - i = (t - (i + 1)) + 1 := by omega
          rw [this, List.getElem?_cons_succ]
        · rw [if_neg hle, if_neg (by omega)]

theorem initObs_get (args : List Arg) : ∀ (i : Nat), (initObs args)[i]? = (args[i]?).map fun | .p _ => Ob.gone | .o e xs => .row e xs := by
  induction args with
  | nil => intro i; simp [initObs]
  | cons x r ih =>
    intro i
    cases i with
    | zero => cases x <;> simp [initObs]
    | succ i => cases x <;> simp [initObs, ih i]

/-- The state in which a call begins. -/
theorem init_rel {F : Nat → Prop} {args : List Arg} {vs : List Value} {N : Nat} (hF : ∀ b, F b → b < w.heap.size) (ha : ArgsRep P w F args vs) (hN : args.length ≤ N) :
    ∃ cv, Rel P ⟨w, F, Given args vs, N, fun _ => none⟩ (initSt args) { tmps := (⟨vs⟩ : Array Value) ++ Array.replicate (N - vs.length) undef, defers := [] } w cv := by
  let cv : Nat → Value := fun i => vs.getD i undef
  have hcv : ∀ i v, vs[i]? = some v → cv i = v := fun i v hv => by simp [cv, List.getD, hv]
  have hob : ∀ i, (initSt args).ob i = match args[i]? with | some (.p _) => .gone | some (.o e xs) => .row e xs | none => .free := by
    intro i
    show (match (initObs args)[i]? with | some o => o | none => Ob.free) = _
    rw [initObs_get]
    cases h : args[i]? with
    | none => rfl
    | some x => cases x <;> rfl
  have hsl : ∀ t, (initSt args).sl t = match args[t]? with | some (.p x) => .val x | some (.o _ _) => .ref t | none => .any := by
    intro t
    show (match (inits 0 args).find? (fun x => x.1 == t) with | some x => x.2 | none => AV.any) = _
    rw [inits_find]; simp
  have hval : ∀ i x, args[i]? = some x → ∃ v, vs[i]? = some v := fun i x hx => by
    have hi : i < vs.length := by rw [ha.len]; exact (List.getElem?_eq_some_iff.1 hx).1
    exact ⟨vs[i], List.getElem?_eq_getElem hi⟩
  have hlive : ∀ i b, Live (initSt args).ob cv i b → ∃ e xs v, args[i]? = some (.o e xs) ∧ vs[i]? = some v ∧ blkOf v = some b := by
    intro i b ⟨h1, h2⟩
    rw [hob] at h1
    cases hx : args[i]? with
    | none => rw [hx] at h1; cases h1
    | some x =>
      cases x with
      | p x => rw [hx] at h1; cases h1
      | o e xs =>
        obtain ⟨v, hv⟩ := hval i _ hx
        rw [hcv i v hv] at h2
        exact ⟨e, xs, v, rfl, hv, h2⟩
  have hgl : ∀ b, Given args vs b → b < w.heap.size := by
    rintro b ⟨i, e, xs, v, h1, h2, h3⟩
    obtain ⟨sz, cells, _, _, _, h4, _⟩ := ha.reps i _ v h1 h2
    rcases h4.2 with ⟨e1, _⟩ | ⟨g, cap, cur, e1, _, hg, _⟩
    · rw [e1] at h3; cases h3
    · rw [e1] at h3; cases h3; exact (Array.getElem?_eq_some_iff.1 hg).1
  have hFS : ∀ b, F b → FS ⟨w, F, Given args vs, N, fun _ => none⟩ (initSt args).ob cv w b := fun b hb => .inl hb
  refine ⟨cv, { os := rfl, tape := rfl, output := rfl, size := Nat.le_refl _, old := fun _ _ _ => rfl, f0 := fun b hb => ⟨hF b hb, fun hg => ha.off b hg hb⟩, o0 := hgl, live := ?_, inj := ?_, obs := ?_, slots := ?_, ments := ?_, mento := ?_, defers := rfl, ntmps := ?_, pin := fun i v hv => by cases hv }⟩
  · intro i b hl
    obtain ⟨e, xs, v, h1, h2, h3⟩ := hlive i b hl
    have hg : Given args vs b := ⟨i, e, xs, v, h1, h2, h3⟩
    exact ⟨.inr hg, hgl b hg⟩
  · intro i j b hi hj
    obtain ⟨e, xs, v, h1, _, _⟩ := hlive i b hi
    obtain ⟨e', ys, u, h2, _, _⟩ := hlive j b hj
    exact ha.one i j e e' xs ys h1 h2
  · intro i
    rw [hob]
    cases hx : args[i]? with
    | none => trivial
    | some x =>
      cases x with
      | p x => trivial
      | o e xs =>
        obtain ⟨v, hv⟩ := hval i _ hx
        show OwnRow P w _ (cv i) e xs
        rw [hcv i v hv]
        exact (ha.reps i _ v hx hv).mono (fun _ _ => rfl : Same F w w) hFS (fun _ _ => rfl)
  · intro t
    rw [hsl]
    cases hx : args[t]? with
    | none => trivial
    | some x =>
      obtain ⟨v, hv⟩ := hval t _ hx
      have ht : ((⟨vs⟩ : Array Value) ++ Array.replicate (N - vs.length) undef).getD t undef = v := by
        have hlt : t < (⟨vs⟩ : Array Value).size := (List.getElem?_eq_some_iff.1 hv).1
        rw [Array.getD_eq_getD_getElem?, Array.getElem?_append_left hlt]
        have : (⟨vs⟩ : Array Value)[t]? = some v := by simpa using hv
        rw [this]; rfl
      show SRep w _ cv _ (((⟨vs⟩ : Array Value) ++ Array.replicate (N - vs.length) undef).getD t undef)
      rw [ht]
      cases x with
      | p x => exact Rep.mono (ha.reps t _ v hx hv) (fun _ _ => rfl : Same F w w) hFS
      | o e xs => exact (hcv t v hv).symm
  · intro t i hi
    rw [hsl] at hi
    cases hx : args[t]? with
    | none => rw [hx] at hi; exact hi.elim
    | some x =>
      rw [hx] at hi
      cases x with
      | p x => exact hi.elim
      | o e xs =>
        have e1 : t = i := hi
        subst e1
        rw [hob, hx]
        intro e; cases e
  · intro j i hi
    rw [hob] at hi
    cases hx : args[j]? with
    | none => rw [hx] at hi; exact hi.elim
    | some x => rw [hx] at hi; cases x <;> exact hi.elim
  · have hlen := ha.len
    show ((⟨vs⟩ : Array Value) ++ Array.replicate (N - vs.length) undef).size = N
    simp; omega

theorem stLoad_pubs {t : TypeId} {v r : AV} {σ' : St} (h : stLoad P σ t v = some (σ', r)) : ∃ cs, σ' = σ.pubs cs := by
  unfold stLoad at h
  split at h
  · split at h <;> cases h; exact ⟨[], rfl⟩
  · split at h
    · split at h <;> cases h; exact ⟨[], rfl⟩
    · split at h
      · split at h
        · split at h
          · split at h
            · cases h; exact ⟨_, rfl⟩
            · cases h
          · cases h
        · cases h
      · split at h <;> cases h; exact ⟨[], rfl⟩
      · cases h
    · cases h
  · split at h
    · split at h
      · split at h
        · split at h <;> cases h; exact ⟨[], rfl⟩
        · cases h
      · cases h
    · cases h
  · cases h

/-- One result is read. -/
def readR (tmps : Array Value) : ResultVar → Sem Value
  | .tmp t => pure (tmps.getD t undef)
  | .cell b t => do loadVar t (← asAddr (tmps.getD b undef))

theorem results_readR (fn : Func) (tmps : Array Value) {us : List Value} (h : (fn.results.toList.mapM (readR tmps)).run P w = .ok us w) : (results fn tmps).run P w = .ok (tupV us) w := by
  have e : results fn tmps = (do let vs ← fn.results.mapM (readR tmps); pure (if h : vs.size = 1 then vs[0] else .tuple vs)) := by
    unfold results
    rfl
  rw [e, Array.mapM_eq_mapM_toList]
  simp only [Sem.run_bind, Sem.run_map, h, Result.andThen_ok, Sem.run_pure]
  congr 1
  match us with
  | [] => rfl
  | [u] => rfl
  | u :: v :: us => rfl

/-- The results' own reads. -/
theorem retVals_run : ∀ {rs : List ResultVar} {σ : St} (h : Rel P C σ a w cv) {ps : List PV}, retVals P σ rs = some ps →
    ∃ (us : List Value) (σ' : St), (rs.mapM (readR a.tmps)).run P w = .ok us w ∧ Rel P C σ' a w cv ∧ (∀ b, FS C σ.ob cv w b → FS C σ'.ob cv w b) ∧ Reps w (FS C σ'.ob cv w) ps us
  | [], σ, h, ps, hr => by
    simp only [retVals, Option.some.injEq] at hr
    subst hr
    exact ⟨[], σ, by simp, h, fun _ hb => hb, Reps.nil _ _⟩
  | .tmp t :: rs, σ, h, ps, hr => by
    simp only [retVals] at hr
    split at hr
    · rename_i p qs hp hq
      cases hr
      have hpub := h.pub (σ.sl t)
      obtain ⟨us, σ', h1, h2, h3, h4⟩ := retVals_run hpub.1 hq
      refine ⟨a.tmps.getD t undef :: us, σ', ?_, h2, fun b hb => h3 b (hpub.2 b hb), Reps.cons ((h.pv hp (h.slots t)).mono (fun _ _ => rfl : Same _ w w) h3) h4⟩
      rw [List.mapM_cons]
      simp only [Sem.run_bind, h1, readR, Sem.run_pure, Result.andThen_ok]
    · cases hr
  | .cell b t :: rs, σ, h, ps, hr => by
    simp only [retVals] at hr
    split at hr
    · rename_i σ1 p hp
      split at hr
      · rename_i qs hq
        cases hr
        obtain ⟨x, g1, g2, g3, _⟩ := h.load (h.slots b) hp
        obtain ⟨us, σ', h1, h2, h3, h4⟩ := retVals_run g2 hq
        obtain ⟨cs, hcs⟩ := stLoad_pubs hp
        have hF : ∀ b, FS C σ.ob cv w b → FS C σ1.ob cv w b := by rw [hcs]; exact (h.pubs cs).2
        refine ⟨x :: us, σ', ?_, h2, fun b hb => h3 b (hF b hb), Reps.cons (Rep.mono g3 (fun _ _ => rfl : Same _ w w) h3) h4⟩
        have key : ∀ u : Value, (Instr.loadAt t u).run P w = .ok x w → (do loadVar t (← asAddr u) : Sem Value).run P w = .ok x w := by
          intro u g1
          cases u <;> simp [Instr.loadAt, Instr.sureAddr] at g1
          rename_i ad
          cases ad <;> simp [Instr.sureAddr] at g1
          simp [asAddr, g1]
        have g1' : (readR a.tmps (.cell b t)).run P w = .ok x w := key _ g1
        rw [List.mapM_cons]
        simp only [Sem.run_bind, h1, g1', Sem.run_pure, Result.andThen_ok]
      · cases hr
    · cases hr

/-- A CONTRACT OUT OF A WALK. -/
theorem Ct.of_V {f : FuncId} {fn : Func} {c : Code} {args : List Arg} {r : Res} (hf : P.funcs[f]? = some fn) (hb : fn.body = some c) (hN : args.length ≤ fn.ntmps)
    (h : V P fn.ntmps (RetSt P fn.results.toList r) [.code c] (initSt args)) : Ct P f args r := by
  intro w F vs hF ha cs
  obtain ⟨cv, hrel⟩ := init_rel (P := P) (N := fn.ntmps) hF ha hN
  let b : Frame := { (default : Frame) with fn := f, kind := .normal }
  have henter : Frame.enter P f ⟨vs⟩ .normal = b.at { tmps := (⟨vs⟩ : Array Value) ++ Array.replicate (fn.ntmps - vs.length) undef, defers := [] } [.code c] := by
    simp [Frame.enter, Frame.at, hf, hb, b]
  obtain ⟨σ', a', w', cv', todo', hR, hrel', hsteps⟩ := V.sound (C := ⟨w, F, Given args vs, fn.ntmps, fun _ => none⟩) (fun _ => rfl) h [.code c] (.code c .nil) _ w cv hrel b cs
  rw [← henter] at hsteps
  have hfs : ∀ b, FS ⟨w, F, Given args vs, fn.ntmps, fun _ => none⟩ σ'.ob cv' w' b → FN w w' F args vs b := fun b hb => by
    rcases hb with hb | hb
    · exact .inl hb
    · exact .inr ⟨hb.1, hb.2.1⟩
  have fin : ∀ v, (results fn a'.tmps).run P w' = .ok v w' → ResRep P w w' F args vs r v → ∃ (e : Ending) (w' : World) (fr : Frame), (∃ v, e = .returned v ∧ Out P w F args vs w' r v) ∧
      Comes P (lone (Frame.enter P f ⟨vs⟩ .normal) cs w) (lone fr cs w') e ∧ fr.fn = f ∧ fr.leaving P w' e := fun v hv hres =>
    ⟨.returned v, w', { b.at a' todo' with mode := .returning }, ⟨v, rfl, ⟨hrel'.os, hrel'.tape, hrel'.output, hrel'.size, hrel'.old, hres⟩⟩, hsteps, rfl, rfl, hrel'.defers, rfl, fn, hf, hv⟩
  cases r with
  | vals ps =>
    have hR : retVals P σ' fn.results.toList = some ps := hR
    obtain ⟨us, σ2, h1, h2, h3, h4⟩ := retVals_run hrel' hR
    refine fin _ (results_readR fn a'.tmps h1) ⟨us, rfl, h4.mono (fun _ _ => rfl : Same _ w' w') fun b hb => ?_⟩
    rcases hb with hb | hb
    · exact .inl hb
    · exact .inr ⟨hb.1, hb.2.1⟩
  | own e xs =>
    simp only [RetSt, RetOK] at hR
    split at hR
    · rename_i t hrs
      have h1 : (fn.results.toList.mapM (readR a'.tmps)).run P w' = .ok [a'.tmps.getD t undef] w' := by rw [hrs]; simp [List.mapM_cons, readR]
      have hs := hrel'.slots t
      split at hR
      · rename_i i hi
        rw [hi] at hs
        have hs : a'.tmps.getD t undef = cv' i := hs
        have ho := hrel'.obs i
        rw [hR] at ho
        have hlv : (σ'.ob i).live = true := by rw [hR]; rfl
        refine fin _ (results_readR fn a'.tmps h1) ⟨?_, fun b hb => ?_⟩
        · show OwnRow P w' _ (a'.tmps.getD t undef) e xs
          rw [hs]
          refine OwnRow.mono ho (fun _ _ => rfl : Same _ w' w') (fun b hb => ⟨hfs b hb, fun hb' => ?_⟩) (fun _ _ => rfl)
          exact hrel'.fs_live hb ⟨hlv, hb'⟩
        · have hb : blkOf (cv' i) = some b := by rw [← hs]; exact hb
          exact hrel'.live i b ⟨hlv, hb⟩
      · rename_i i sz l n hi
        rw [hi] at hs
        obtain ⟨ys, q, ho1, rfl, hn, rfl⟩ := hR
        have ho := hrel'.obs i
        rw [ho1] at ho
        have hlv : (σ'.ob i).live = true := by rw [ho1]; rfl
        obtain ⟨sz', cells, g1, g2, g3, g4, g5, g6, g7⟩ := ho
        generalize a'.tmps.getD t undef = uu at hs h1
        have hfl := flat_take g3 n
        rcases hs with ⟨c1, _, rfl, rfl⟩ | ⟨b, n', c, o, c1, c2, c3, rfl⟩
        · refine fin _ (results_readR fn a'.tmps h1) ⟨?_, fun b hb => by cases hb⟩
          rw [List.take_zero]
          exact ⟨sz', [], g1, g2, by simp, World.ownsRow_nil w' 0 e sz', Reps.nil _ _, by simp [flat]⟩
        · rcases g7 with ⟨c1', _⟩ | ⟨g', n'', cur, c1', hg, hm, hcs, ht⟩
          · rw [c1] at c1'; cases c1'
          · rw [c1] at c1'; cases c1'
            obtain rfl : o = 0 := by
              rcases c3 with c3 | ⟨c3, c4, c5⟩
              · simpa using c3
              · omega
            refine fin _ (results_readR fn a'.tmps h1) ⟨?_, fun b' hb' => ?_⟩
            · have hlen : (ys.take n).length = n := by rw [List.length_take]; omega
              refine ⟨sz', cells.take (n * sz'), g1, g2, fun x hx => g3 x (List.mem_of_mem_take hx), ⟨?_, .inr ⟨b, ys.length + q, cur, by rw [hlen]; rfl, Nat.zero_le _, hg, by rw [hlen]; omega, hm, hcs, ?_⟩⟩, ?_, fun c hc => ?_⟩
              · rw [hlen, List.length_take, g4]; have := Nat.mul_le_mul_right sz' hn; omega
              · rw [hlen, ← ht, List.take_take]; congr 1; have := Nat.mul_le_mul_right sz' hn; omega
              · rw [hfl]
                refine (g5.mono (fun _ _ => rfl : Same (FS ⟨w, F, Given args vs, fn.ntmps, fun _ => none⟩ σ'.ob cv' w') w' w') (fun b' hb' => ⟨hfs b' hb', fun hb2 => ?_⟩)).take _
                cases hb2
                exact hrel'.fs_live hb' ⟨hlv, by rw [c1]; rfl⟩
              · rw [hfl] at hc; exact g6 c (List.mem_of_mem_take hc)
            · cases hb'
              exact hrel'.live i b ⟨hlv, by rw [c1]; rfl⟩
      · rename_i hi
        rw [hi] at hs
        have hs : a'.tmps.getD t undef = .slice none 0 0 := hs
        obtain ⟨rfl, sz, g1, g2⟩ := hR
        refine fin _ (results_readR fn a'.tmps h1) ⟨?_, fun b hb => ?_⟩
        · show OwnRow P w' _ (a'.tmps.getD t undef) e []
          rw [hs]
          exact ⟨sz, [], g1, g2, by simp, World.ownsRow_nil w' 0 e sz, Reps.nil _ _, by simp [flat]⟩
        · have hb : blkOf (a'.tmps.getD t undef) = some b := hb
          rw [hs] at hb; cases hb
      · exact hR.elim
    · exact hR.elim

/-! ### Drawn regions, in the order of the text -/
def tms : List Operand → List Nat
  | [] => []
  | .tmp t :: r => t :: tms r
  | _ :: r => tms r
def gsl (all : List Oper) : Option (Nat × Bool) → List Nat
  | some (j, _) => match gslot all j with
    | some t => [t]
    | none => []
  | none => []
/-- The slots that an operation looks at. -/
def lk (all : List Oper) (o : Oper) : List Nat := tms o.op.operands.toList ++ gsl all o.guard

theorem tms_eq (l : List Operand) : tms l = l.filterMap (fun | .tmp t => some t | _ => none) := by
  induction l with
  | nil => rfl
  | cons x r ih => cases x <;> simp [tms, ih]

theorem lk_eq (all : List Oper) (o : Oper) : lk all o = o.looksAt all.toArray := by
  unfold lk Oper.looksAt
  rw [tms_eq]
  congr 1
  unfold gsl gslot
  cases o.guard with
  | none => rfl
  | some g =>
    obtain ⟨j, w⟩ := g
    simp only [List.getElem?_toArray]
    cases all[j]? with
    | none => rfl
    | some x => simp only [Option.bind_some]; cases x.dst <;> rfl

def AV.ids : AV → List Nat
  | .ref i => [i]
  | .adr i _ => [i]
  | .ead i _ _ _ => [i]
  | .vw i _ _ _ => [i]
  | _ => []
def idsL (σ : St) : List Operand → List Nat
  | [] => []
  | x :: r => (σ.ev x).ids ++ idsL σ r
/-- The objects that an operation touches. -/
def foot (σ : St) : Op → List Nat
  | .move _ | .assign _ | .pick .. | .fieldAddr .. | .extract .. | .binOp .. | .unOp .. => []
  | op => idsL σ op.operands.toList
def wsl (nid : Nat) (M : List Nat) : AV → List Nat
  | .vw .. => []
  | _ => nid :: M
def writes (σ : St) (nid : Nat) (M : List Nat) : Op → List Nat
  | .slice _ x _ _ _ => wsl nid M (σ.ev x)
  | .alloc _ | .box .. | .build .. | .buildSlice .. | .store .. | .makeSlice .. | .makeFunc .. | .makeMap .. | .mapUpdate .. => nid :: M
  | .call { callee := .builtin .append, .. } | .call { callee := .builtin .copy, .. } | .call { callee := .builtin .clear, .. } => nid :: M
  | _ => []

def Chg (τ σ' : St) (W : List Nat) : Prop := ∀ k, k ∉ W → σ'.ob k = τ.ob k
def mokL (τ : St) (i : Nat) : List Nat → Prop
  | [] => False
  | s :: S => (τ.sl s).isMent i = true ∨ mokL τ i S
def mok (τ : St) (S : List Nat) (nid : Nat) : AV → Prop
  | .ref i | .adr i _ | .ead i _ _ _ | .vw i _ _ _ => i = nid ∨ mokL τ i S
  | _ => True
def pln (σ : St) : List Nat → Prop
  | [] => True
  | k :: W => (σ.ob k).noMent = true ∧ pln σ W

theorem mokL_iff {τ : St} {i : Nat} {S : List Nat} : mokL τ i S ↔ ∃ t, t ∈ S ∧ (τ.sl t).isMent i = true := by
  induction S with
  | nil => simp [mokL]
  | cons s S ih => simp [mokL, ih]
theorem pln_iff {σ : St} {W : List Nat} : pln σ W ↔ ∀ k, k ∈ W → (σ.ob k).noMent = true := by
  induction W with
  | nil => simp [pln]
  | cons s W ih => simp [pln, ih]

theorem put_ob {σ : St} {d : Option Nat} {v : AV} (k : Nat) : (σ.put d v).ob k = σ.ob k := by cases d <;> rfl
theorem put_slS {σ : St} {v : AV} (t : Nat) : (σ.put (some t) v).sl t = v := by simp [St.put, St.set]

theorem Within.of {τ σ' : St} {M W S : List Nat} {nid : Nat} {d : Option Nat} {v : AV} (h1 : Chg (τ.restr S M nid) σ' W) (h2 : mok τ S nid v) (h3 : pln σ' W) (h4 : ∀ k, k ∈ W → k ∈ M ∨ k = nid) :
    Within τ (σ'.put d v) M W S nid d := by
  refine ⟨fun k hk => by rw [put_ob]; exact h1 k hk, fun t ht i hi => ?_, fun k hk => by rw [put_ob]; exact pln_iff.1 h3 k hk, h4⟩
  subst ht
  rw [put_slS] at hi
  cases v <;> simp only [AV.isMent, beq_iff_eq, Bool.false_eq_true] at hi <;> subst hi <;> exact h2.imp id mokL_iff.1

theorem writes_sub (σ : St) (nid : Nat) (M : List Nat) (op : Op) : ∀ k, k ∈ writes σ nid M op → k ∈ M ∨ k = nid := by
  have key : ∀ k, k ∈ nid :: M → k ∈ M ∨ k = nid := fun k hk => by
    rcases List.mem_cons.1 hk with h | h
    · exact .inr h
    · exact .inl h
  intro k hk
  unfold writes at hk
  split at hk
  · unfold wsl at hk
    split at hk
    · cases hk
    · exact key k hk
  all_goals first | exact key k hk | cases hk

/-- What is left of a drawn region, and what comes behind it. -/
def DV (P : Program) (n : Nat) (R : St → Prop) (all : List Oper) (b i : Nat) (rest : List Oper) (aM aW : List (List Nat)) (ck : Nat) (k : List It) (σ : St) : Prop :=
  all.drop i = rest → aM.length = i → aW.length = i → ∃ M2 W2 σ', drawB all b (aM ++ M2) (aW ++ W2) = true ∧ TRun P n all b (aM ++ M2) (aW ++ W2) i rest.length σ σ' ∧ V P n R k { σ' with ck := ck }

section
variable {P : Program} {n : Nat} {R : St → Prop} {σ : St}

theorem V.drawn {id : Nat} {os : Array Oper} {k : List It} (hm : P.follows .mixedOrders = true) (h : DV P n R os.toList σ.ck 0 os.toList [] [] (σ.ck + os.size) k σ) : V P n R (.code (.region id os true) :: k) σ := by
  obtain ⟨M, W, σ', h1, h2, h3⟩ := h rfl rfl rfl
  exact .draw M W hm h1 h2 h3

theorem DV.nil {all : List Oper} {b i : Nat} {aM aW : List (List Nat)} {ck : Nat} {k : List It} (hB : drawB all b aM aW = true) (h : V P n R k { σ with ck := ck }) : DV P n R all b i [] aM aW ck k σ :=
  fun _ _ _ => ⟨[], [], σ, by simpa using hB, rfl, h⟩

theorem DV.op {all : List Oper} {b i : Nat} {o : Oper} {rest : List Oper} {aM aW : List (List Nat)} {ck : Nat} {k : List It} (M W : List Nat) {σ' : St} (he : Ev P n all (b + i) o (σ.restr (lk all o) M (b + i)) σ')
    (hw : Within σ σ' M W (lk all o) (b + i) o.dst) (h : DV P n R all b (i + 1) rest (aM ++ [M]) (aW ++ [W]) ck k (σ.patch σ' W o.dst)) : DV P n R all b i (o :: rest) aM aW ck k σ := by
  intro hd hM hW
  obtain ⟨ho, hd'⟩ := drop_head hd.symm
  obtain ⟨M2, W2, σ2, h1, h2, h3⟩ := h hd'.symm (by simp [hM]) (by simp [hW])
  refine ⟨M :: M2, W :: W2, σ2, by simpa using h1, ⟨_, ⟨o, ho, σ', ?_, ?_, rfl⟩, ?_⟩, h3⟩
  · rw [← lk_eq]
    have : at_ (aM ++ M :: M2) i = M := by simp [at_, ← hM]
    rw [this]; exact he
  · rw [← lk_eq]
    have e1 : at_ (aM ++ M :: M2) i = M := by simp [at_, ← hM]
    have e2 : at_ (aW ++ W :: W2) i = W := by simp [at_, ← hW]
    rw [e1, e2]; exact hw
  · have e2 : at_ (aW ++ W :: W2) i = W := by simp [at_, ← hW]
    rw [e2]
    simpa using h2

theorem runs_restr {all : List Oper} {o : Oper} {M : List Nat} {nid : Nat} : runs (σ.restr (lk all o) M nid) all o = runs σ all o := by
  unfold runs
  cases hg : o.guard with
  | none => rfl
  | some g =>
    obtain ⟨j, w⟩ := g
    simp only
    unfold gres
    cases ht : gslot all j with
    | none => rfl
    | some t =>
      have : (σ.restr (lk all o) M nid).sl t = σ.sl t := by
        show (if (lk all o).contains t = true then σ.sl t else .any) = _
        rw [if_pos]
        simp [lk, gsl, hg, ht]
      simp only [this]

theorem patch_pass {d : Option Nat} {S M : List Nat} {nid : Nat} {v : AV} : σ.patch ((σ.restr S M nid).put d v) [] d = σ.put d v := by
  refine St.eq_of (fun t => ?_) (fun k => ?_) ?_
  · rw [patch_sl]
    cases d with
    | none => rfl
    | some t' =>
      by_cases h : t' = t
      · subst h; simp [St.put, St.set]
      · rw [if_neg (by simpa using h)]; simp [St.put, St.set, Ne.symm h]
  · rw [patch_ob]; cases d <;> simp [St.put, St.set]
  · cases d <;> rfl

theorem patch_put {d : Option Nat} {τ : St} {v : AV} (hτ : True) : σ.patch (τ.put d v) [] d = σ.put d v := by
  refine St.eq_of (fun t => ?_) (fun k => ?_) ?_
  · rw [patch_sl]
    cases d with
    | none => rfl
    | some t' =>
      by_cases h : t' = t
      · subst h; simp [St.put, St.set]
      · rw [if_neg (by simpa using h)]; simp [St.put, St.set, Ne.symm h]
  · rw [patch_ob]; cases d <;> simp [St.put, St.set]
  · cases d <;> rfl
end

/-! ### The steps, reckoned -/
inductive Ctl where
  | its (k : List It)
  | gd (g : Option Bool) (all : List Oper) (b i : Nat) (o : Oper) (rest : List Oper) (k : List It)
  | res (e : Option (St × AV)) (dst : Option Nat) (all : List Oper) (b i : Nat) (rest : List Oper) (k : List It)
  | br (v : AV) (x y : Code) (k : List It)
  | dr (all : List Oper) (b i : Nat) (rest : List Oper) (aM aW : List (List Nat)) (ck : Nat) (k : List It)
  | dgd (g : Option Bool) (all : List Oper) (b i : Nat) (o : Oper) (rest : List Oper) (aM aW : List (List Nat)) (ck : Nat) (k : List It)
  | dres (e : Option (St × AV)) (M W S : List Nat) (dst : Option Nat) (all : List Oper) (b i : Nat) (rest : List Oper) (aM aW : List (List Nat)) (ck : Nat) (k : List It)

def isCall : Op → Bool
  | .call { callee := .value _, .. } => true
  | .binOp _ _ _ (.const (.slice none _ _)) _ => true
  | _ => false

noncomputable def exec (P : Program) (n : Nat) (R : St → Prop) (sp : List Nat) : Nat → Ctl → St → Prop
  | 0, .its k, σ => V P n R k σ
  | 0, _, _ => False
  | m + 1, .its [], σ => R σ
  | m + 1, .its (.code .ret :: k), σ => R σ
  | m + 1, .its (.code (.seq x y) :: k), σ => exec P n R sp m (.its (.code x :: .code y :: k)) σ
  | m + 1, .its (.code .skip :: k), σ => exec P n R sp m (.its k) σ
  | m + 1, .its (.code (.cond c x y) :: k), σ => exec P n R sp m (.br (σ.ev c) x y k) σ
  | m + 1, .its (.code (.block id c) :: k), σ => exec P n R sp m (.its (.code c :: .blk id :: k)) σ
  | m + 1, .its (.code (.exit id) :: k), σ => match exitIt id k with
    | some k' => exec P n R sp m (.its k') σ
    | none => False
  | m + 1, .its (.code (.region id os false) :: k), σ => if id ∈ sp then V P n R (.code (.region id os false) :: k) σ else exec P n R sp m (.its (.ops os.toList σ.ck 0 os.toList :: k)) { σ with ck := σ.ck + os.size }
  | m + 1, .its (.code (.region id os true) :: k), σ => if id ∈ sp then V P n R (.code (.region id os true) :: k) σ else P.follows .mixedOrders = true ∧ exec P n R sp m (.dr os.toList σ.ck 0 os.toList [] [] (σ.ck + os.size) k) σ
  | m + 1, .its (.code c :: k), σ => V P n R (.code c :: k) σ
  | m + 1, .its (.blk id :: k), σ => exec P n R sp m (.its k) σ
  | m + 1, .its (.again J :: k), σ => J σ
  | m + 1, .its (.ops all b i [] :: k), σ => exec P n R sp m (.its k) σ
  | m + 1, .its (.ops all b i (o :: rest) :: k), σ => exec P n R sp m (.gd (runs σ all o) all b i o rest k) σ
  | m + 1, .gd (some true) all b i o rest k, σ => if isCall o.op = true then V P n R (.ops all b i (o :: rest) :: k) σ else exec P n R sp m (.res (stepOp P σ (b + i) o.op) o.dst all b (i + 1) rest k) σ
  | m + 1, .gd (some false) all b i o rest k, σ => dOK n o.dst ∧ exec P n R sp m (.its (.ops all b (i + 1) rest :: k)) (σ.put o.dst (.tup []))
  | m + 1, .gd none .., σ => False
  | m + 1, .res (some (σ', v)) dst all b i rest k, σ => dOK n dst ∧ exec P n R sp m (.its (.ops all b i rest :: k)) (σ'.put dst v)
  | m + 1, .res none .., σ => False
  | m + 1, .br (.val (.bool v)) x y k, σ => (v = true → exec P n R sp m (.its (.code x :: k)) σ) ∧ (v = false → exec P n R sp m (.its (.code y :: k)) σ)
  | m + 1, .br _ .., σ => False
  | m + 1, .dr all b i [] aM aW ck k, σ => drawB all b aM aW = true ∧ exec P n R sp m (.its k) { σ with ck := ck }
  | m + 1, .dr all b i (o :: rest) aM aW ck k, σ => exec P n R sp m (.dgd (runs σ all o) all b i o rest aM aW ck k) σ
  | m + 1, .dgd (some true) all b i o rest aM aW ck k, σ => if isCall o.op = true then DV P n R all b i (o :: rest) aM aW ck k σ else
      exec P n R sp m (.dres (stepOp P (σ.restr (lk all o) (foot σ o.op) (b + i)) (b + i) o.op) (foot σ o.op) (writes σ (b + i) (foot σ o.op) o.op) (lk all o) o.dst all b i rest aM aW ck k) σ
  | m + 1, .dgd (some false) all b i o rest aM aW ck k, σ => dOK n o.dst ∧ exec P n R sp m (.dr all b (i + 1) rest (aM ++ [[]]) (aW ++ [[]]) ck k) (σ.put o.dst (.tup []))
  | m + 1, .dgd none .., σ => False
  | m + 1, .dres (some (σ', v)) M W S dst all b i rest aM aW ck k, σ => dOK n dst ∧ Chg (σ.restr S M (b + i)) σ' W ∧ mok σ S (b + i) v ∧ pln σ' W ∧
      exec P n R sp m (.dr all b (i + 1) rest (aM ++ [M]) (aW ++ [W]) ck k) (σ.patch (σ'.put dst v) W dst)
  | m + 1, .dres none .., σ => False

/-- What a place of the reckoning means. -/
def Mean (P : Program) (n : Nat) (R : St → Prop) : Ctl → St → Prop
  | .its k, σ => V P n R k σ
  | .gd g all b i o rest k, σ => g = runs σ all o → V P n R (.ops all b i (o :: rest) :: k) σ
  | .res e dst all b i rest k, σ => ∀ o i', i = i' + 1 → dst = o.dst → runs σ all o = some true → e = stepOp P σ (b + i') o.op → V P n R (.ops all b i' (o :: rest) :: k) σ
  | .br v x y k, σ => ∀ c, σ.ev c = v → V P n R (.code (.cond c x y) :: k) σ
  | .dr all b i rest aM aW ck k, σ => DV P n R all b i rest aM aW ck k σ
  | .dgd g all b i o rest aM aW ck k, σ => g = runs σ all o → DV P n R all b i (o :: rest) aM aW ck k σ
  | .dres e M W S dst all b i rest aM aW ck k, σ => ∀ o, dst = o.dst → S = lk all o → runs σ all o = some true → W = writes σ (b + i) M o.op → e = stepOp P (σ.restr S M (b + i)) (b + i) o.op → DV P n R all b i (o :: rest) aM aW ck k σ

theorem exec_mean {n : Nat} {sp : List Nat} : ∀ (m : Nat) (c : Ctl) (σ : St), exec P n R sp m c σ → Mean P n R c σ := by
  intro m
  induction m with
  | zero => intro c σ h; cases c <;> first | exact h | exact h.elim
  | succ m ih =>
    intro c σ h
    cases c with
    | its k =>
      cases k with
      | nil => exact .done h
      | cons x k =>
        cases x with
        | code c =>
          cases c with
          | ret => exact .ret h
          | seq x y => exact .seq (ih _ _ h)
          | skip => exact .skip (ih _ _ h)
          | cond c x y => exact ih _ _ h c rfl
          | block id c => exact .block (ih _ _ h)
          | exit id =>
            simp only [exec] at h
            split at h
            · rename_i k' hk; exact .exit hk (ih _ _ h)
            · exact h.elim
          | region id os draw =>
            cases draw
            · simp only [exec] at h
              split at h
              · exact h
              · exact .region (ih _ _ h)
            · simp only [exec] at h
              split at h
              · exact h
              · exact V.drawn h.1 (ih _ _ h.2)
          | _ => exact h
        | ops all b i rest =>
          cases rest with
          | nil => exact .nil (ih _ _ h)
          | cons o rest => exact ih _ _ h rfl
        | blk id => exact .blk (ih _ _ h)
        | again J => exact .again h
    | gd g all b i o rest k =>
      intro hg
      match g, h with
      | some true, h =>
        simp only [exec] at h
        split at h
        · exact h
        · exact ih _ _ h o i rfl rfl hg.symm rfl
      | some false, h => exact .pass hg.symm h.1 (ih _ _ h.2)
      | none, h => exact h.elim
    | res e dst all b i rest k =>
      intro o i' hi hd hr he
      subst hi hd
      match e, h with
      | some (σ', v), h => exact .run hr he.symm h.1 (ih _ _ h.2)
      | none, h => exact h.elim
    | br v x y k =>
      intro c hc
      match v, h with
      | .val (.bool b), h => exact .cond hc (fun e => ih _ _ (h.1 e)) (fun e => ih _ _ (h.2 e))
      | .val (.int ..), h => exact h.elim
      | .val (.str _), h => exact h.elim
      | .val (.agg _), h => exact h.elim
      | .val (.row _), h => exact h.elim
      | .val (.ptr _), h => exact h.elim
      | .val .nilp, h => exact h.elim
      | .val (.fn ..), h => exact h.elim
      | .any, h => exact h.elim
      | .nils, h => exact h.elim
      | .ref _, h => exact h.elim
      | .adr .., h => exact h.elim
      | .ead .., h => exact h.elim
      | .tup _, h => exact h.elim
    | dr all b i rest aM aW ck k =>
      cases rest with
      | nil => exact DV.nil h.1 (ih _ _ h.2)
      | cons o rest => exact ih _ _ h rfl
    | dgd g all b i o rest aM aW ck k =>
      intro hg
      match g, h with
      | some true, h =>
        simp only [exec] at h
        split at h
        · exact h
        · exact ih _ _ h o rfl rfl hg.symm rfl rfl
      | some false, h =>
        refine DV.op [] [] (.pass (by rw [runs_restr]; exact hg.symm) h.1) (Within.of (fun _ _ => rfl) trivial trivial (by simp)) ?_
        rw [patch_pass]
        exact ih _ _ h.2
      | none, h => exact h.elim
    | dres e M W S dst all b i rest aM aW ck k =>
      intro o hd hS hr hW he
      subst hd hS hW
      match e, h with
      | some (σ', v), h =>
        obtain ⟨h1, h2, h3, h4, h5⟩ := h
        exact DV.op M _ (.run (by rw [runs_restr]; exact hr) he.symm h1) (Within.of h2 h3 h4 (writes_sub _ _ _ _)) (ih _ _ h5)
      | none, h => exact h.elim

theorem V.execS {n : Nat} {k : List It} (sp : List Nat) (m : Nat) (h : exec P n R sp m (.its k) σ) : V P n R k σ := exec_mean m _ _ h
theorem V.exec {n : Nat} {k : List It} (m : Nat) (h : exec P n R [] m (.its k) σ) : V P n R k σ := exec_mean m _ _ h
theorem DV.exec {n : Nat} {all : List Oper} {b i : Nat} {rest : List Oper} {aM aW : List (List Nat)} {ck : Nat} {k : List It} (m : Nat) (h : exec P n R [] m (.dr all b i rest aM aW ck k) σ) : DV P n R all b i rest aM aW ck k σ := exec_mean m _ _ h

end
end Go.Proofs.YtglpemnejngkaaaVm
