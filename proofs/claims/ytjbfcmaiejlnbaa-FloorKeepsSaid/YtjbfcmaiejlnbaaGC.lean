/- A part of a proof: functions of the program, walked. -/
import Derived.Test.YtjbfcmaiejlnbaaGB
import Derived.AtR
import Derived.Lib.Overlaps
import Derived.RangeFuncLeaves
import Derived.RangeFuncRecord
set_option linter.unusedVariables false
set_option linter.unusedSimpArgs false
namespace Go.Proofs.YtjbfcmaiejlnbaaVm
open Go Classical

/-- What is still to be done. -/
inductive It where
  | code (c : Code)
  | ops (all : List Oper) (b i : Nat) (rest : List Oper)
  | blk (id : Nat)
  | again (J : St → Prop)
  | stop (J : St → Prop)

def exitIt (id : Nat) : List It → Option (List It)
  | .blk j :: k => if j = id then some k else exitIt id k
  | .stop _ :: _ => none
  | _ :: k => exitIt id k
  | [] => none

def Ob.plain : Ob → Bool
  | .row .. => true
  | .box _ cs => cs.all fun c => match c with | .val _ => true | .nils => true | _ => false
  | .imap .. => true
  | _ => false

/-- A state written out. -/
def litSt (ls : List (Nat × AV)) (os : List Ob) (ck : Nat) : St where
  sl := fun t => match ls.find? (fun x => x.1 == t) with
    | some x => x.2
    | none => .any
  ob := fun i => match os[i]? with
    | some o => o
    | none => .free
  ck := ck

def mAV (σ : St) (ρ : List (Option Nat)) (u : AV) : AV → Prop
  | .any => True
  | .val p => u = .val p ∨ (u = .nils ∧ p = .row []) ∨ ∃ i, u = .ref i ∧ p = .row [] ∧ False
  | .nils => u = .nils
  | .ref k => match ρ[k]? with
    | some (some r) => u = .ref r
    | some none => u = .nils
    | none => False
  | .adr k o => match ρ[k]? with
    | some (some r) => u = .adr r o
    | _ => False
  | .ead .. => False
  | .tup ps => u = .tup ps
  | .vw .. => False
  | .agr .. => False

def mCs (σ : St) (ρ : List (Option Nat)) : List AV → List AV → Prop
  | [], [] => True
  | c :: cs, d :: ds => mAV σ ρ c d ∧ d.cell = true ∧ mCs σ ρ cs ds
  | _, _ => False

/-- A variable whose cells mention other objects. -/
def mBox (σ : St) (ρ : List (Option Nat)) : Ob → Ob → Prop
  | .box ag cs, .box ag' ds => ag = ag' ∧ mCs σ ρ cs ds
  | .iter m s n l, .iter m' s' n' l' => ρ[m']? = some (some m) ∧ s = s' ∧ n = n' ∧ l = l'
  | _, _ => False

def mOb (P : Program) (σ : St) (ρ : List (Option Nat)) : Option Nat → Ob → Prop
  | some r, o => if o.plain = true then σ.ob r = o else mBox σ ρ (σ.ob r) o
  | none, .row e [] => ∃ sz, szOf P e = some sz ∧ 0 < sz
  | none, .gone => True
  | none, _ => False

def mObs (P : Program) (σ : St) (ρ0 : List (Option Nat)) : List (Option Nat) → List Ob → Prop
  | r :: ρ, o :: os => mOb P σ ρ0 r o ∧ mObs P σ ρ0 ρ os
  | [], [] => True
  | _, _ => False

def mSl (σ : St) (ρ : List (Option Nat)) : List (Nat × AV) → Prop
  | [] => True
  | (t, v) :: ls => mAV σ ρ (σ.sl t) v ∧ mSl σ ρ ls

def distinct : List (Option Nat) → Prop
  | [] => True
  | none :: ρ => distinct ρ
  | some r :: ρ => (∀ x ∈ ρ, x ≠ some r) ∧ distinct ρ

/-- A state reads as one that is written out, its objects by other names. -/
def Match (P : Program) (σ : St) (ρ : List (Option Nat)) (ls : List (Nat × AV)) (os : List Ob) : Prop :=
  mSl σ ρ ls ∧ mObs P σ ρ ρ os ∧ distinct ρ

def opnA (id sz n : Nat) : AV → AV
  | .ref j => if j = id then .vw id sz 0 n else .ref j
  | v => v
/-- A row of the call's own, its capacity laid open. -/
def St.opn (σ : St) (id sz n : Nat) (e : TypeId) (xs : List PV) (q : Nat) : St where
  sl := fun t => opnA id sz n (σ.sl t)
  ob := fun j => if j = id then .rowk e xs q else σ.ob j
  ck := σ.ck

/-- How a walk is meant: of which contexts it speaks; and whether objects may be named anew, and no round is under way. -/
structure Md where
  K : Ctx → Prop
  pl : Bool
  rt : Bool
def Md.pln : Md := ⟨fun C => C.lvl = 2, true, true⟩

/-- A code, or an operation, given by what the machine does. -/
def SemCode (P : Program) (md : Md) (n : Nat) (c : Code) (σ : St) (J : St → Prop) : Prop :=
  ∀ (C : Ctx) (a : Act) (w : World) (cv : Nat → Value), md.K C → C.n = n → (∀ i, C.pin i = none) → Rel P C σ a w cv → ∀ (b : Frame) (cs : List Frame) (m : List Item), b.roundOf = none →
    ∃ σ' a' w' cv', J σ' ∧ Rel P C σ' a' w' cv' ∧ Steps P (lone (b.atR a (.code c :: m)) cs w) (lone (b.atR a' m) cs w')
def SemOp (P : Program) (md : Md) (n : Nat) (all : List Oper) (i : Nat) (o : Oper) (σ : St) (J : St → Prop) : Prop :=
  ∀ (C : Ctx) (a : Act) (w : World) (cv : Nat → Value), md.K C → C.n = n → (md.pl = true → ∀ i, C.pin i = none) → Rel P C σ a w cv → all[i]? = some o → ∀ (b : Frame) (cs : List Frame) (m : List Item) (rest : List Nat),
    ∃ σ' a' w' cv', J σ' ∧ Rel P C σ' a' w' cv' ∧ Steps P (lone (b.atR a (.inRegion all.toArray (i :: rest) :: m)) cs w) (lone (b.atR a' (.inRegion all.toArray rest :: m)) cs w')

inductive V (md : Md) (P : Program) (n : Nat) (R : St → Prop) : List It → St → Prop
  | done {σ} (h : R σ) : V md P n R [] σ
  | ret {k σ} (h : R σ) (hr : md.rt = true := by rfl) : V md P n R (.code .ret :: k) σ
  | skip {k σ} (h : V md P n R k σ) : V md P n R (.code .skip :: k) σ
  | seq {k σ a b} (h : V md P n R (.code a :: .code b :: k) σ) : V md P n R (.code (.seq a b) :: k) σ
  | cond {k σ c x y v} (hc : σ.ev c = .val (.bool v)) (ht : v = true → V md P n R (.code x :: k) σ) (hf : v = false → V md P n R (.code y :: k) σ) : V md P n R (.code (.cond c x y) :: k) σ
  | block {k σ id c} (h : V md P n R (.code c :: .blk id :: k) σ) : V md P n R (.code (.block id c) :: k) σ
  | blk {k σ id} (h : V md P n R k σ) : V md P n R (.blk id :: k) σ
  | exit {k k' σ id} (he : exitIt id k = some k') (h : V md P n R k' σ) : V md P n R (.code (.exit id) :: k) σ
  | region {k σ id os} (h : V md P n R (.ops os.toList σ.ck 0 os.toList :: k) { σ with ck := σ.ck + os.size }) : V md P n R (.code (.region id os false) :: k) σ
  | draw {k σ σ' id os} (M W : List (List Nat)) (hm : P.follows .mixedOrders = true) (hB : drawB os.toList σ.ck M W = true) (ht : TRun P n os.toList σ.ck M W 0 os.toList.length σ σ') (h : V md P n R k { σ' with ck := σ.ck + os.size }) : V md P n R (.code (.region id os true) :: k) σ
  | nil {k σ all b i} (h : V md P n R k σ) : V md P n R (.ops all b i [] :: k) σ
  | run {k σ σ' v all b i o rest} (hg : runs σ all o = some true) (hs : stepOp P σ (b + i) o.op = some (σ', v)) (hd : dOK n o.dst) (h : V md P n R (.ops all b (i + 1) rest :: k) (σ'.put o.dst v)) : V md P n R (.ops all b i (o :: rest) :: k) σ
  | pass {k σ all b i o rest} (hg : runs σ all o = some false) (hd : dOK n o.dst) (h : V md P n R (.ops all b (i + 1) rest :: k) (σ.put o.dst (.tup []))) : V md P n R (.ops all b i (o :: rest) :: k) σ
  | call {k σ σ' v all b i o rest fx xs ts} (hg : runs σ all o = some true) (ho : o.op = .call { callee := .value fx, args := xs, argTypes := ts }) (hd : dOK n o.dst)
      (hc : CallStep P σ (b + i) (σ.ev fx) (σ.evs xs.toList) σ' v) (h : V md P n R (.ops all b (i + 1) rest :: k) (σ'.put o.dst v)) : V md P n R (.ops all b i (o :: rest) :: k) σ
  | nilq {k σ all b i o rest op t x u e xs} (hg : runs σ all o = some true) (ho : o.op = .binOp op t x (.const (.slice none 0 0)) u) (hop : op = .eql ∨ op = .neq) (hx : σ.pv (σ.ev x) = some (.row xs))
      (hu : P.underlying t = some (.slice e)) (hd : dOK n o.dst) (h : ∀ c : Prop, (c → xs = []) → V md P n R (.ops all b (i + 1) rest :: k) (σ.put o.dst (.val (.bool (if op = .eql then decide c else !decide c))))) : V md P n R (.ops all b i (o :: rest) :: k) σ
  | ovl {k σ all b i o rest fx x y ts f fn tS tR e zs id sz l len xs q} (hg : runs σ all o = some true) (ho : o.op = .call { callee := .value fx, args := #[x, y], argTypes := ts }) (hd : dOK n o.dst)
      (hfx : σ.ev fx = .val (.fn f [])) (hf : P.funcs[f]? = some fn) (hn : (fn.name == "runtime.NumGoroutine") = false) (hb : fn.body.isNone = true) (hfn : Extern.findNext fn = none)
      (hfe : Extern.find fn = some (Extern.SlicesOverlaps.overlaps #[tS, tS] #[tR])) (hu : P.underlying tS = some (.slice e)) (hsz : szOf P e = some sz) (hx : σ.ev x = .val (.rowp zs)) (hy : σ.ev y = .vw id sz l len) (ho2 : σ.ob id = .rowk e xs q) (hq : 0 < xs.length + q)
      (h : V md P n R (.ops all b (i + 1) rest :: k) (σ.put o.dst (.val (.bool false)))) : V md P n R (.ops all b i (o :: rest) :: k) σ
  | opn {k σ} (id sz : Nat) (e : TypeId) (xs : List PV) (ho : σ.ob id = .row e xs) (hsz : szOf P e = some sz) (h : ∀ q, V md P n R k (σ.opn id sz xs.length e xs q)) : V md P n R k σ
  | opnB {k σ} (id sz : Nat) (e : TypeId) (xs : List PV) (ho : σ.ob id = .row e xs) (hsz : szOf P e = some sz) (h : ∀ q, xs.length + q ≤ maxLen → V md P n R k (σ.opn id sz xs.length e xs q)) : V md P n R k σ
  | nilk {k σ} (t id sz : Nat) (e : TypeId) (ht : σ.sl t = .nils) (hf : σ.ob id = .free) (hsz : szOf P e = some sz) (h0 : 0 < sz) (h : V md P n R k ((σ.setOb id (.rowk e [] 0)).set t (.vw id sz 0 0))) : V md P n R k σ
  | pubc {k σ} (id j m : Nat) (ag : Bool) (cs : List AV) (e : TypeId) (xs : List PV) (hb : σ.ob id = .box ag cs) (hc : cs[m]? = some (.ref j)) (ho : σ.ob j = .row e xs) (h : V md P n R k ((σ.setOb j (.prow xs)).setOb id (.box ag (cs.set m (.val (.row xs)))))) : V md P n R k σ
  | nilb {k σ} (id m : Nat) (ag : Bool) (cs : List AV) (hb : σ.ob id = .box ag cs) (hc : cs[m]? = some .nils) (h : V md P n R k (σ.setOb id (.box ag (cs.set m (.val (.row [])))))) : V md P n R k σ
  | pubt {k σ} (t : Nat) (p : PV) (hp : σ.pv (σ.sl t) = some p) (h : V md P n R k ((σ.pub (σ.sl t)).set t (.val p))) : V md P n R k σ
  | again {k σ J} (h : J σ) : V md P n R (.again J :: k) σ
  | stop {k σ J} (h : J σ) : V md P n R (.stop J :: k) σ
  | loop {k σ c} (I : Nat → List (Nat × AV) → List Ob → Prop) (ck m : Nat) (ls : List (Nat × AV)) (os : List Ob) (ρ : List (Option Nat)) (h0 : I m ls os) (hm : Match P σ ρ ls os)
      (hr : ∀ m ls os, I m ls os → V md P n R (.code c :: .again (fun σ' => ∃ m' ls' os' ρ', m' < m ∧ I m' ls' os' ∧ Match P σ' ρ' ls' os') :: k) (litSt ls os ck)) (hp : md.pl = true := by rfl) : V md P n R (.code (.loop c) :: k) σ
  | sem {k σ c} (J : St → Prop) (hs : SemCode P md n c σ J) (h : ∀ σ', J σ' → V md P n R k σ') (hp : md.pl = true := by rfl) : V md P n R (.code c :: k) σ
  | sop {k σ all b i o rest} (J : St → Prop) (hs : SemOp P md n all i o σ J) (h : ∀ σ', J σ' → V md P n R (.ops all b (i + 1) rest :: k) σ') : V md P n R (.ops all b i (o :: rest) :: k) σ
  | lp {k σ c} (J : Nat → St → Prop) (m : Nat) (h0 : J m σ) (hr : ∀ m σ', J m σ' → V md P n R (.code c :: .again (fun σ'' => ∃ m', m' < m ∧ J m' σ'') :: k) σ') : V md P n R (.code (.loop c) :: k) σ
  | cut {k σ} (ck : Nat) (ls : List (Nat × AV)) (os : List Ob) (ρ : List (Option Nat)) (hm : Match P σ ρ ls os) (h : V md P n R k (litSt ls os ck)) (hp : md.pl = true := by rfl) : V md P n R k σ

section
variable {P : Program} {C : Ctx} {σ : St} {a : Act} {w : World} {cv : Nat → Value}

theorem mObs_get {ρ0 ρ : List (Option Nat)} {os : List Ob} : mObs P σ ρ0 ρ os → ∀ (k : Nat) (o : Ob), os[k]? = some o → ∃ r, ρ[k]? = some r ∧ mOb P σ ρ0 r o := by
  intro h
  induction os generalizing ρ with
  | nil => intro k o hk; simp at hk
  | cons x os ih =>
    cases ρ with
    | nil => exact h.elim
    | cons r ρ =>
      intro k o hk
      cases k with
      | zero => simp at hk; subst hk; exact ⟨r, rfl, h.1⟩
      | succ k => exact ih h.2 k o (by simpa using hk)

theorem mObs_len {ρ0 ρ : List (Option Nat)} {os : List Ob} (h : mObs P σ ρ0 ρ os) : ρ.length = os.length := by
  induction os generalizing ρ with
  | nil => cases ρ with
    | nil => rfl
    | cons r ρ => exact h.elim
  | cons x os ih => cases ρ with
    | nil => exact h.elim
    | cons r ρ => simp [ih h.2]

theorem distinct_inj {ρ : List (Option Nat)} (h : distinct ρ) : ∀ (i j r : Nat), ρ[i]? = some (some r) → ρ[j]? = some (some r) → i = j := by
  induction ρ with
  | nil => intro i j r hi; simp at hi
  | cons x ρ ih =>
    intro i j r hi hj
    cases x with
    | none =>
      cases i with
      | zero => simp at hi
      | succ i => cases j with
        | zero => simp at hj
        | succ j => rw [ih h i j r (by simpa using hi) (by simpa using hj)]
    | some y =>
      obtain ⟨h1, h2⟩ := h
      cases i with
      | zero => cases j with
        | zero => rfl
        | succ j => simp at hi hj; subst hi; exact absurd rfl (h1 _ (List.mem_of_getElem? hj))
      | succ i => cases j with
        | zero => simp at hi hj; subst hj; exact absurd rfl (h1 _ (List.mem_of_getElem? hi))
        | succ j => rw [ih h2 i j r (by simpa using hi) (by simpa using hj)]

theorem mSl_get {ρ : List (Option Nat)} {ls : List (Nat × AV)} (h : mSl σ ρ ls) : ∀ x ∈ ls, mAV σ ρ (σ.sl x.1) x.2 := by
  induction ls with
  | nil => intro x hx; simp at hx
  | cons y ls ih =>
    intro x hx
    obtain ⟨t, v⟩ := y
    rcases List.mem_cons.1 hx with rfl | hx
    · exact h.1
    · exact ih h.2 x hx

theorem plain_ment {o : Ob} (h : o.plain = true) (j : Nat) : ¬ o.ment j := by
  cases o with
  | box ag cs =>
    rintro ⟨c, hc, hj⟩
    have := List.all_eq_true.1 h c hc
    cases c <;> simp_all [AV.ment]
  | iter m s n l => cases h
  | _ => exact fun h => h

theorem mCs_get {ρ : List (Option Nat)} : ∀ {cs ds : List AV}, mCs σ ρ cs ds → cs.length = ds.length ∧ ∀ (j : Nat) (d : AV), ds[j]? = some d → ∃ c, cs[j]? = some c ∧ mAV σ ρ c d ∧ d.cell = true
  | [], [], _ => ⟨rfl, fun j d h => by simp at h⟩
  | c :: cs, d :: ds, h => by
    obtain ⟨h1, h2⟩ := mCs_get h.2.2
    refine ⟨by simp [h1], fun j x hx => ?_⟩
    cases j with
    | zero => simp at hx; subst hx; exact ⟨c, rfl, h.1, h.2.1⟩
    | succ j => exact h2 j x (by simpa using hx)
  | [], _ :: _, h => h.elim
  | _ :: _, [], h => h.elim

theorem mBox_get {ρ : List (Option Nat)} {o o' : Ob} (h : mBox σ ρ o o') : (∃ ag cs ds, o = .box ag cs ∧ o' = .box ag ds ∧ mCs σ ρ cs ds) ∨ ∃ m m' s n l, o = .iter m s n l ∧ o' = .iter m' s n l ∧ ρ[m']? = some (some m) := by
  cases o <;> cases o' <;> first | exact h.elim | skip
  · rename_i ag cs ag' ds
    obtain ⟨rfl, h⟩ := h
    exact .inl ⟨_, _, _, rfl, rfl, h⟩
  · rename_i m s n l m' s' n' l'
    obtain ⟨h, rfl, rfl, rfl⟩ := h
    exact .inr ⟨_, _, _, _, _, rfl, rfl, h⟩

/-- A state that is forgotten in part, its objects named anew. -/
theorem Rel.rename (h : Rel P C σ a w cv) {ρ : List (Option Nat)} {ls : List (Nat × AV)} {os : List Ob} (hm : Match P σ ρ ls os) (ck : Nat) (hpin : ∀ i v, C.pin i = some v → ρ[i]? = some (some i)) : ∃ cv', Rel P C (litSt ls os ck) a w cv' := by
  obtain ⟨hsl, hob, hd⟩ := hm
  have hlen := mObs_len hob
  let cv' : Nat → Value := fun k => match ρ[k]? with
    | some (some r) => cv r
    | _ => .slice none 0 0
  have hcv : ∀ k r, ρ[k]? = some (some r) → cv' k = cv r := fun k r hk => by simp [cv', hk]
  have hcvn : ∀ k, ρ[k]? = some none → cv' k = .slice none 0 0 := fun k hk => by simp [cv', hk]
  have hlitob : ∀ k, (litSt ls os ck).ob k = match os[k]? with | some o => o | none => .free := fun _ => rfl
  have hobk : ∀ k o, os[k]? = some o → (litSt ls os ck).ob k = o := fun k o hk => by rw [hlitob, hk]
  have hsome : ∀ r o, mOb P σ ρ (some r) o → (o.plain = true ∧ σ.ob r = o) ∨ (∃ ag cs ds, σ.ob r = .box ag cs ∧ o = .box ag ds ∧ mCs σ ρ cs ds) ∨ ∃ m m' s n l, σ.ob r = .iter m s n l ∧ o = .iter m' s n l ∧ ρ[m']? = some (some m) := fun r o hmo => by
    have hmo : if o.plain = true then σ.ob r = o else mBox σ ρ (σ.ob r) o := hmo
    split at hmo
    · rename_i hp; exact .inl ⟨hp, hmo⟩
    · exact .inr (mBox_get hmo)
  have hlive : ∀ k b, Live (litSt ls os ck).ob cv' k b → ∃ r, ρ[k]? = some (some r) ∧ Live σ.ob cv r b := by
    intro k b ⟨h1, h2⟩
    rw [hlitob] at h1
    cases ho : os[k]? with
    | none => rw [ho] at h1; cases h1
    | some o =>
      rw [ho] at h1
      obtain ⟨r, hr, hmo⟩ := mObs_get hob k o ho
      cases r with
      | none => rw [hcvn k hr] at h2; cases h2
      | some r =>
        rw [hcv k r hr] at h2
        refine ⟨r, hr, ?_, h2⟩
        rcases hsome r o hmo with ⟨_, e⟩ | ⟨ag, cs, ds, e1, e2, _⟩ | ⟨m, m', s, n, l, e1, e2, _⟩
        · rw [e]; exact h1
        · rw [e1]; rfl
        · rw [e1]; rfl
  have hF : ∀ b, FS C σ.ob cv w b → FS C (litSt ls os ck).ob cv' w b := by
    intro b hb
    rcases hb with hb | hb
    · exact .inl hb
    · refine .inr ⟨hb.1, hb.2.1, fun k hk => ?_⟩
      obtain ⟨r, _, hl⟩ := hlive k b hk
      exact hb.2.2 r hl
  have hS : Same (FS C σ.ob cv w) w w := fun _ _ => rfl
  have hmk : ∀ k, (∃ r, ρ[k]? = some r) → (litSt ls os ck).ob k ≠ .free := by
    intro k ⟨r, hr⟩ hf
    have hk : k < os.length := by rw [← hlen]; exact (List.getElem?_eq_some_iff.1 hr).1
    rw [hobk k os[k] (List.getElem?_eq_getElem hk)] at hf
    obtain ⟨r', hr', hmo⟩ := mObs_get hob k os[k] (List.getElem?_eq_getElem hk)
    cases r' with
    | none => rw [hf] at hmo; exact hmo
    | some r' =>
      rcases hsome r' _ hmo with ⟨e, _⟩ | ⟨ag, cs, ds, _, e2, _⟩ | ⟨m, m', s, n, l, _, e2, _⟩
      · rw [hf] at e; cases e
      · rw [hf] at e2; cases e2
      · rw [hf] at e2; cases e2
  have hav : ∀ (u d : AV) (v : Value), mAV σ ρ u d → SRep w (FS C σ.ob cv w) cv u v → SRep w (FS C (litSt ls os ck).ob cv' w) cv' d v := by
    intro u d v hma hs
    cases d with
    | any => trivial
    | val p =>
      rcases hma with hma | ⟨hma, hp⟩ | ⟨i, _, _, hf⟩
      · rw [hma] at hs; exact Rep.mono hs hS hF
      · rw [hma] at hs
        subst hp
        have e : v = .slice none 0 0 := hs
        rw [e]; exact .rowNil
      · exact hf.elim
    | nils => rw [show u = .nils from hma] at hs; exact hs
    | ref k =>
      simp only [mAV] at hma
      split at hma
      · rename_i r hr
        rw [hma] at hs
        have e : v = cv r := hs
        show _ = cv' k
        rw [hcv k r hr]; exact e
      · rename_i hr
        rw [hma] at hs
        have e : v = .slice none 0 0 := hs
        show _ = cv' k
        rw [hcvn k hr]; exact e
      · exact hma.elim
    | adr k o =>
      simp only [mAV] at hma
      split at hma
      · rename_i r hr
        rw [hma] at hs
        obtain ⟨b, h1, h2⟩ := hs
        exact ⟨b, by rw [hcv k r hr]; exact h1, h2⟩
      · exact hma.elim
    | ead i sz k o => exact hma.elim
    | vw i sz lo len => exact hma.elim
    | agr ps k i => exact hma.elim
    | tup ps =>
      rw [show u = .tup ps from hma] at hs
      obtain ⟨vs, h1, h2⟩ := hs
      exact ⟨vs, h1, h2.mono hS hF⟩
  have hmen : ∀ (u d : AV) (k : Nat), mAV σ ρ u d → d.ment k → (litSt ls os ck).ob k ≠ .free := by
    intro u d k hma hk
    cases d with
    | ref i =>
      have e : i = k := hk
      subst e
      simp only [mAV] at hma
      split at hma
      · rename_i r hr; exact hmk i ⟨_, hr⟩
      · rename_i hr; exact hmk i ⟨_, hr⟩
      · exact hma.elim
    | adr i o =>
      have e : i = k := hk
      subst e
      simp only [mAV] at hma
      split at hma
      · rename_i r hr; exact hmk i ⟨_, hr⟩
      · exact hma.elim
    | ead i sz j o => exact hma.elim
    | vw i sz lo len => exact hma.elim
    | agr ps k i => exact hma.elim
    | _ => exact hk.elim
  refine ⟨cv', { os := h.os, tape := h.tape, output := h.output, size := h.size, old := h.old, f0 := h.f0, o0 := h.o0, live := ?_, inj := ?_, obs := ?_, slots := ?_, ments := ?_, mento := ?_, defers := h.defers.mono hF hS, ntmps := h.ntmps, pin := fun i v hv => ?_ }⟩
  · intro k b hk
    obtain ⟨r, _, hl⟩ := hlive k b hk
    exact h.live r b hl
  · intro k j b hk hj
    obtain ⟨r, hr, hl⟩ := hlive k b hk
    obtain ⟨r', hr', hl'⟩ := hlive j b hj
    have := h.inj r r' b hl hl'
    subst this
    exact distinct_inj hd k j r hr hr'
  · intro k
    rw [hlitob]
    cases ho : os[k]? with
    | none => trivial
    | some o =>
      obtain ⟨r, hr, hmo⟩ := mObs_get hob k o ho
      cases r with
      | none =>
        cases o with
        | row e xs =>
          cases xs with
          | nil =>
            obtain ⟨sz, h1, h2⟩ := hmo
            show OwnRow P w _ (cv' k) e []
            rw [hcvn k hr]
            exact ⟨sz, [], h1, h2, by simp, World.ownsRow_nil w 0 e sz, Reps.nil _ _, by simp [flat]⟩
          | cons x xs => exact hmo.elim
        | gone => trivial
        | _ => exact hmo.elim
      | some r =>
        have ho' := h.obs r
        rcases hsome r o hmo with ⟨hp, ee⟩ | ⟨ag, cs, ds, e1, e2, hcs⟩ | ⟨m, m', s, n, l, e1, e2, hmm⟩
        · rw [ee] at ho'
          have z := ho'.mono (cv' := cv) hS hF rfl (fun _ _ => rfl) (fun _ _ _ => rfl)
          have key : ∀ (F : Nat → Prop) (c1 c2 : Nat → Value) (i1 i2 : Nat) , c1 i1 = c2 i2 → ObRep P w F c1 i1 o → (o.plain = true) → ObRep P w F c2 i2 o := by
            intro F c1 c2 i1 i2 he hr hp
            cases o with
            | row e xs => show OwnRow P w F (c2 i2) e xs; rw [← he]; exact hr
            | box ag cs =>
              obtain ⟨b, ty, arr, g1, g2, g3, g4, g5⟩ := hr
              refine ⟨b, ty, arr, he.symm.trans g1, g2, g3, g4, fun j c v hc hv => ⟨((g5 j c v hc hv).1).mono (fun _ _ => rfl : Same F w w) (fun _ hb => hb) fun i hi => absurd ⟨c, List.mem_of_getElem? hc, hi⟩ (plain_ment hp i), (g5 j c v hc hv).2⟩⟩
            | imap es clock =>
              obtain ⟨b, g1, g2⟩ := hr
              exact ⟨b, he.symm.trans g1, g2⟩
            | _ => simp [Ob.plain] at hp
          exact key _ _ _ r k (hcv k r hr).symm z hp
        · subst e2
          rw [e1] at ho'
          obtain ⟨b, ty, arr, g1, g2, g3, g4, g5⟩ := ho'
          obtain ⟨q1, q2⟩ := mCs_get hcs
          refine ⟨b, ty, arr, (hcv k r hr).trans g1, g2, g3.trans q1, fun d hd => ?_, fun j d v hd hv => ?_⟩
          · obtain ⟨j, hj⟩ := List.getElem?_of_mem hd
            obtain ⟨c, _, _, hc⟩ := q2 j d hj
            exact hc
          · obtain ⟨c, hc, hma, _⟩ := q2 j d hd
            exact ⟨hav c d v hma (g5 j c v hc hv).1, (g5 j c v hc hv).2⟩
        · subst e2
          rw [e1] at ho'
          obtain ⟨b, bm, g1, g2, g3⟩ := ho'
          exact ⟨b, bm, (hcv k r hr).trans g1, (hcv m' m hmm).trans g2, g3⟩
  · intro t
    show SRep w _ cv' (match ls.find? (fun x => x.1 == t) with | some x => x.2 | none => .any) _
    cases hf : ls.find? (fun x => x.1 == t) with
    | none => trivial
    | some x =>
      have hx := List.mem_of_find?_eq_some hf
      have ht : x.1 = t := by have := List.find?_some hf; simpa using this
      have hma := mSl_get hsl x hx
      rw [ht] at hma
      exact hav _ _ _ hma (h.slots t)
  · intro t k hk
    have hk' : (match ls.find? (fun (x : Nat × AV) => x.1 == t) with | some x => x.2 | none => AV.any).ment k := hk
    cases hf : ls.find? (fun x => x.1 == t) with
    | none => rw [hf] at hk'; exact hk'.elim
    | some x =>
      rw [hf] at hk'
      exact hmen _ _ k (mSl_get hsl x (List.mem_of_find?_eq_some hf)) hk'
  · intro j k hk
    rw [hlitob] at hk
    cases ho : os[j]? with
    | none => rw [ho] at hk; exact hk.elim
    | some o =>
      rw [ho] at hk
      obtain ⟨r, hr, hmo⟩ := mObs_get hob j o ho
      have hk : o.ment k := hk
      cases r with
      | none => cases o with
        | row e xs => exact hk.elim
        | gone => exact hk.elim
        | _ => exact hmo.elim
      | some r =>
        rcases hsome r o hmo with ⟨hp, _⟩ | ⟨ag, cs, ds, e1, e2, hcs⟩ | ⟨m, m', s, n, l, e1, e2, hmm⟩
        · exact absurd hk (plain_ment hp k)
        · subst e2
          obtain ⟨d, hd, hdk⟩ := hk
          obtain ⟨i, hi⟩ := List.getElem?_of_mem hd
          obtain ⟨c, _, hma, _⟩ := (mCs_get hcs).2 i d hi
          exact hmen c d k hma hdk
        · subst e2
          have hk : m' = k := hk
          subst hk
          exact hmk _ ⟨_, hmm⟩
  · have hi := hpin i v hv
    exact ⟨hmk i ⟨_, hi⟩, (hcv i i hi).trans (h.pin i v hv).2⟩

end
end Go.Proofs.YtjbfcmaiejlnbaaVm
set_option linter.unusedVariables false
set_option linter.unusedSimpArgs false
namespace Go.Proofs.YtjbfcmaiejlnbaaVm
open Go Classical

/-- What is left ahead of a leaving step. -/
def leaves (rt : Bool) : List Item → Prop
  | [] => True
  | .code .ret :: _ => rt = true
  | _ => False
/-- The machine comes to where the frame is left (a function's return, or a round's end), in a state that reads as R says. -/
def Good (md : Md) (P : Program) (C : Ctx) (Z : St → List Item → Prop) (items : List Item) (a : Act) (w : World) : Prop :=
  ∀ (b : Frame) (cs : List Frame), (md.pl = true → b.roundOf = none) → ∃ σ' a' w' cv' todo', Z σ' todo' ∧ Rel P C σ' a' w' cv' ∧ Steps P (lone (b.atR a items) cs w) (lone (b.atR a' todo') cs w')
theorem not_defer {P : Program} {ρ : Operand → Value} {o : Oper} {w w' : World} {n : Next} (h : (execOp ρ o).run P w = .ok n w') (hn : ∀ d, n ≠ .defer d) : ∀ c, o.op ≠ .defer c := by
  intro c e
  unfold execOp at h
  rw [e] at h
  simp only [Sem.run_bind] at h
  cases hq : (resolve ρ c o.type).run P w with
  | ok d w1 => rw [hq] at h; simp at h; exact hn d h.1.symm
  | halt x w1 => rw [hq] at h; simp at h
theorem semAt_run {P : Program} {ρ : Operand → Value} {o : Oper} {w w' : World} {n : Next} (ro : Option Nat) (h : (execOp ρ o).run P w = .ok n w') (hn : ∀ d, n ≠ .defer d) : (Oper.semAt ro ρ o).run P w = .ok n w' := by
  rw [Oper.semAt_eq ro ρ o (not_defer h hn)]; exact h

section
variable {P : Program} {C : Ctx} {R : St → Prop} {md : Md} {Z : St → List Item → Prop} {σ : St} {a : Act} {w : World} {cv : Nat → Value}

theorem Good.step {items items' : List Item} {a' : Act} {w' : World} (hs : ∀ (b : Frame) (cs : List Frame), Steps P (lone (b.atR a items) cs w) (lone (b.atR a' items') cs w')) (h : Good md P C Z items' a' w') : Good md P C Z items a w := by
  intro b cs hb
  obtain ⟨σ', a2, w2, cv', todo', h1, h2, h3⟩ := h b cs hb
  exact ⟨σ', a2, w2, cv', todo', h1, h2, (hs b cs).trans h3⟩

inductive Conc (md : Md) (P : Program) (C : Ctx) (Z : St → List Item → Prop) : List It → List Item → Prop
  | nil : Conc md P C Z [] []
  | code {k m} (c : Code) (h : Conc md P C Z k m) : Conc md P C Z (.code c :: k) (.code c :: m)
  | ops {k m all b i rest} (hr : rest = all.drop i) (h : Conc md P C Z k m) : Conc md P C Z (.ops all b i rest :: k) (.inRegion all.toArray (List.range' i rest.length) :: m)
  | blk {k m id} (h : Conc md P C Z k m) : Conc md P C Z (.blk id :: k) (.inBlock id :: m)
  | again {k m J c} (h : Conc md P C Z k m) (hJ : ∀ σ a w cv, J σ → Rel P C σ a w cv → Good md P C Z (.inLoop c :: m) a w) : Conc md P C Z (.again J :: k) (.inLoop c :: m)
  | stop {k m J} (hJ : ∀ σ a w cv, J σ → Rel P C σ a w cv → Good md P C Z m a w) : Conc md P C Z (.stop J :: k) m

theorem exit_conc {id : Nat} {k k' : List It} {m : List Item} (hc : Conc md P C Z k m) (he : exitIt id k = some k') : ∃ m', exitTo id m = some m' ∧ Conc md P C Z k' m' := by
  induction hc with
  | nil => simp [exitIt] at he
  | code c h ih => simp only [exitIt] at he; simpa [exitTo] using ih he
  | ops hr h ih => simp only [exitIt] at he; simpa [exitTo] using ih he
  | blk h ih =>
    rename_i k m j
    simp only [exitIt] at he
    split at he
    · rename_i e
      subst e
      cases he
      exact ⟨m, by simp [exitTo], h⟩
    · rename_i e
      simpa [exitTo, e] using ih he
  | again h hJ ih => simp only [exitIt] at he; simpa [exitTo] using ih he
  | stop hJ => simp [exitIt] at he

theorem runs_wanted (h : Rel P C σ a w cv) {all : List Oper} {o : Oper} {g : Bool} (hg : runs σ all o = some g) : Region.wanted o (yielded all.toArray a.tmps) = g := by
  unfold runs at hg
  unfold Region.wanted
  split at hg
  · rename_i e
    rw [e]
    cases hg; rfl
  · rename_i j want e
    rw [e]
    simp only
    unfold gres gslot at hg
    unfold yielded
    cases hj : all[j]? with
    | none => simp [hj] at hg
    | some x =>
      simp only [hj] at hg
      cases hd : x.dst with
      | none => simp [hd] at hg
      | some t =>
        simp only [hd] at hg
        simp only [List.getElem?_toArray, hj, Option.bind_some, hd]
        have hs := h.slots t
        split at hg
        · rename_i b hb
          cases hg
          rw [hb] at hs
          have hs : Rep w (FS C σ.ob cv w) (.bool b) (a.tmps.getD t undef) := hs
          have e2 : a.tmps[t]? = some (.bool b) := by
            cases hq : a.tmps[t]? with
            | none => simp [Array.getD_eq_getD_getElem?, hq, undef] at hs; cases hs
            | some v => simp [Array.getD_eq_getD_getElem?, hq] at hs; cases hs; rfl
          simp [e2]
        · rename_i hb
          cases hg
          rw [hb] at hs
          obtain ⟨vs, h1, h2⟩ := hs
          obtain rfl : vs = [] := List.eq_nil_of_length_eq_zero h2.1
          cases hq : a.tmps[t]? with
          | none => simp
          | some v => simp [Array.getD_eq_getD_getElem?, hq] at h1; subst h1; simp
        · cases hg

theorem put_rel (h : Rel P C σ a w cv) {d : Option Nat} (hd : dOK C.n d) {v : AV} {u : Value} (hv : SRep w (FS C σ.ob cv w) cv v u) (hm : ∀ i, v.ment i → σ.ob i ≠ .free) : Rel P C (σ.put d v) (a.put d u) w cv := by
  have := h.set d (fun t ht => by subst ht; exact hd) hv hm
  cases d <;> exact this

theorem ck_rel (h : Rel P C σ a w cv) (ck : Nat) : Rel P C { σ with ck := ck } a w cv :=
  { os := h.os, tape := h.tape, output := h.output, size := h.size, old := h.old, f0 := h.f0, o0 := h.o0, live := h.live, inj := h.inj, obs := h.obs, slots := h.slots, ments := h.ments, mento := h.mento, defers := h.defers, ntmps := h.ntmps, pin := h.pin }

/-- One operation, that is done. -/
theorem oper_steps {all : List Oper} {i : Nat} {o : Oper} {rest : List Nat} {m : List Item} (ho : all[i]? = some o) (hw : Region.wanted o (yielded all.toArray a.tmps) = true) {u : Value} {w' : World}
    (hr : (execOp a.eval o).run P w = .ok (.value u) w' ∨ ((execOp a.eval o).run P w = .ok .skip w' ∧ u = undef)) (b : Frame) (cs : List Frame) :
    Steps P (lone (b.atR a (.inRegion all.toArray (i :: rest) :: m)) cs w) (lone (b.atR (a.put o.dst u) (.inRegion all.toArray rest :: m)) cs w') := by
  have ho' : all.toArray[i]? = some o := by simpa using ho
  have hg := stepGR_op (P := P) (b := b) (k := m) (cs := cs) (w := w) (rest := rest) ho' hw
  have hfin : ∀ v, (b.atR a (.inRegion all.toArray (i :: rest) :: m)).finish v = b.atR (a.put o.dst v) (.inRegion all.toArray rest :: m) := by
    intro v; rw [Frame.finish_atR, ho']; rfl
  refine .one (step_lone_go ?_)
  rcases hr with hr | ⟨hr, rfl⟩
  · have hr := semAt_run b.roundOf hr (fun d => by simp)
    rw [hg, ← hfin]; simp [stepG.apply, hr]
  · have hr := semAt_run b.roundOf hr (fun d => by simp)
    rw [hg, ← hfin]; simp [stepG.apply, hr]

theorem pass_steps {all : List Oper} {i : Nat} {o : Oper} {rest : List Nat} {m : List Item} (ho : all[i]? = some o) (hw : Region.wanted o (yielded all.toArray a.tmps) = false) (b : Frame) (cs : List Frame) :
    Steps P (lone (b.atR a (.inRegion all.toArray (i :: rest) :: m)) cs w) (lone (b.atR (a.put o.dst undef) (.inRegion all.toArray rest :: m)) cs w) := by
  have ho' : all.toArray[i]? = some o := by simpa using ho
  have hs := stepR_op_skip (P := P) (b := b) (a := a) (k := m) (cs := cs) (w := w) (ops := all.toArray) (i := i) (rest := rest) (by rw [ho']; simpa using hw)
  rw [ho'] at hs
  exact .one hs

theorem call_steps {all : List Oper} {i : Nat} {o : Oper} {rest : List Nat} {m : List Item} (ho : all[i]? = some o) (hw : Region.wanted o (yielded all.toArray a.tmps) = true) {f : FuncId} {args : Array Value}
    (hr : (execOp a.eval o).run P w = .ok (.enter f args) w) {S : Value → World → Prop} (hc : Calls P f args w fun e w' => ∃ u, e = .returned u ∧ S u w') (b : Frame) (cs : List Frame) :
    ∃ u w', S u w' ∧ Steps P (lone (b.atR a (.inRegion all.toArray (i :: rest) :: m)) cs w) (lone (b.atR (a.put o.dst u) (.inRegion all.toArray rest :: m)) cs w') := by
  have ho' : all.toArray[i]? = some o := by simpa using ho
  have hg := stepGR_op (P := P) (b := b) (k := m) (cs := cs) (w := w) (rest := rest) ho' hw
  have hfin : ∀ v, (b.atR a (.inRegion all.toArray (i :: rest) :: m)).finish v = b.atR (a.put o.dst v) (.inRegion all.toArray rest :: m) := by
    intro v; rw [Frame.finish_atR, ho']; rfl
  obtain ⟨e, w', fr, ⟨u, rfl, hS⟩, hsteps, _, hleave⟩ := hc (b.atR a (.inRegion all.toArray (i :: rest) :: m) :: cs)
  have henter : step P (lone (b.atR a (.inRegion all.toArray (i :: rest) :: m)) cs w) =
      .next (lone (Frame.enter P f args .normal) (b.atR a (.inRegion all.toArray (i :: rest) :: m) :: cs) w) :=
    step_lone_go (by
      have hr := semAt_run b.roundOf hr (fun d => by simp)
      rw [hg]; simp [stepG.apply, hr, Frame.atR])
  refine ⟨u, w', hS, .head henter (Steps.trans hsteps (.one ?_))⟩
  rw [← hfin]; exact step_leave_returned hleave

theorem put_getD {d : Option Nat} {u : Value} {t : Nat} (h : d ≠ some t) : (a.put d u).tmps.getD t undef = a.tmps.getD t undef := by
  cases d with
  | none => rfl
  | some t' =>
    have e : t' ≠ t := fun e => h (by rw [e])
    simp only [Act.put, Array.getD_eq_getD_getElem?]
    rw [Array.getElem?_setIfInBounds_ne e]

theorem isMent_iff {v : AV} {i : Nat} : v.isMent i = true ↔ v.ment i := by
  cases v <;> simp [AV.isMent, AV.ment]

theorem noMent_ment {o : Ob} (h : o.noMent = true) (j : Nat) : ¬ o.ment j := by
  cases o with
  | box ag cs =>
    rintro ⟨c, hc, hj⟩
    have := List.all_eq_true.1 h c hc
    cases c <;> simp_all [AV.ment, AV.noMent]
  | iter m s n l => cases h
  | _ => exact fun h => h

/-- The context of one operation that is let see a part of the state. -/
noncomputable def ctxOf (C : Ctx) (σ : St) (w : World) (cv : Nat → Value) (M : List Nat) (nid : Nat) : Ctx where
  w0 := w
  F0 := FS C σ.ob cv w
  O0 := fun b => ∃ k, (M.contains k || k == nid) = true ∧ Live σ.ob cv k b
  n := C.n
  pin := fun k => if σ.ob k = .free then none else some (cv k)
  lvl := 1

theorem restr_keep {σ : St} {S M : List Nat} {nid k : Nat} (h : (M.contains k || k == nid) = true) : (σ.restr S M nid).ob k = σ.ob k := if_pos h
theorem restr_drop {σ : St} {S M : List Nat} {nid k : Nat} (h : ¬ (M.contains k || k == nid) = true) : (σ.restr S M nid).ob k = .gone := if_neg h

theorem restr_live {S M : List Nat} {nid k b : Nat} (h : Live (σ.restr S M nid).ob cv k b) : (M.contains k || k == nid) = true ∧ Live σ.ob cv k b := by
  obtain ⟨h1, h2⟩ := h
  by_cases hk : (M.contains k || k == nid) = true
  · rw [restr_keep hk] at h1; exact ⟨hk, h1, h2⟩
  · rw [restr_drop hk] at h1; cases h1

theorem Rel.restr (h : Rel P C σ a w cv) (S M : List Nat) (nid : Nat) : Rel P (ctxOf C σ w cv M nid) (σ.restr S M nid) a w cv := by
  have hF : ∀ b, FS C σ.ob cv w b → FS (ctxOf C σ w cv M nid) (σ.restr S M nid).ob cv w b := fun b hb => .inl hb
  have hS : Same (FS C σ.ob cv w) w w := fun _ _ => rfl
  have hnf : ∀ i, σ.ob i ≠ .free → (σ.restr S M nid).ob i ≠ .free := by
    intro i hi
    by_cases hk : (M.contains i || i == nid) = true
    · rw [restr_keep hk]; exact hi
    · rw [restr_drop hk]; simp
  exact {
    os := rfl, tape := rfl, output := rfl, size := Nat.le_refl _, old := fun _ _ _ => rfl
    f0 := fun b hb => ⟨h.fs_lt hb, fun ⟨k, _, hl⟩ => h.fs_live hb hl⟩
    o0 := fun b ⟨k, _, hl⟩ => (h.live k b hl).2
    live := fun i b hl => by
      obtain ⟨h1, h2⟩ := restr_live hl
      exact ⟨.inr ⟨i, h1, h2⟩, (h.live i b h2).2⟩
    inj := fun i j b hi hj => h.inj i j b (restr_live hi).2 (restr_live hj).2
    obs := fun i => by
      by_cases hk : (M.contains i || i == nid) = true
      · rw [restr_keep hk]; exact (h.obs i).mono hS hF rfl (fun _ _ => rfl) (fun _ _ _ => rfl)
      · rw [restr_drop hk]; trivial
    slots := fun t => by
      show SRep w _ cv (if S.contains t = true then σ.sl t else .any) _
      split
      · exact (h.slots t).mono hS hF (fun _ _ => rfl)
      · trivial
    ments := fun t i hi => by
      have hi : (if S.contains t = true then σ.sl t else .any).ment i := hi
      split at hi
      · exact hnf i (h.ments t i hi)
      · exact hi.elim
    mento := fun j i hi => by
      by_cases hk : (M.contains j || j == nid) = true
      · rw [restr_keep hk] at hi; exact hnf i (h.mento j i hi)
      · rw [restr_drop hk] at hi; exact hi.elim
    defers := h.defers.low hF hS rfl
    ntmps := h.ntmps
    pin := fun i v hv => by
      simp only [ctxOf] at hv
      split at hv
      · cases hv
      · rename_i hn; cases hv; exact ⟨hnf i hn, rfl⟩ }

/-- What one operation did to its part, done to the whole. -/
theorem Rel.patch (h : Rel P C σ a w cv) {S M W : List Nat} {nid : Nat} {d : Option Nat} {σ' : St} {a' : Act} {w' : World} {cv' : Nat → Value} (h' : Rel P (ctxOf C σ w cv M nid) σ' a' w' cv')
    (ha : ∀ t, d ≠ some t → a'.tmps.getD t undef = a.tmps.getD t undef) (hda : a'.defers = a.defers) (hw : Within σ σ' M W S nid d) : Rel P C (σ.patch σ' W d) a' w' cv' := by
  have hpin : ∀ i, σ.ob i ≠ .free → σ'.ob i ≠ .free ∧ cv' i = cv i := fun i hi => h'.pin i (cv i) (by simp [ctxOf, hi])
  have hkeep : ∀ k, k ∈ W → (M.contains k || k == nid) = true := fun k hk => by
    rcases hw.sub k hk with h1 | h1
    · simp [h1]
    · simp [h1]
  -- the objects of the whole
  have hobK : ∀ k, (M.contains k || k == nid) = true → (σ.patch σ' W d).ob k = σ'.ob k := by
    intro k hk
    rw [patch_ob]
    split
    · rfl
    · rename_i hn
      rw [hw.same k (by simpa using hn), restr_keep hk]
  have hobU : ∀ k, ¬ (M.contains k || k == nid) = true → (σ.patch σ' W d).ob k = σ.ob k := by
    intro k hk
    rw [patch_ob, if_neg]
    intro hc
    exact hk (hkeep k (by simpa using hc))
  have hliveU : ∀ k b, ¬ (M.contains k || k == nid) = true → Live (σ.patch σ' W d).ob cv' k b → Live σ.ob cv k b := by
    intro k b hk ⟨h1, h2⟩
    rw [hobU k hk] at h1
    have hnf : σ.ob k ≠ .free := fun e => by rw [e] at h1; cases h1
    rw [(hpin k hnf).2] at h2
    exact ⟨h1, h2⟩
  have hliveK : ∀ k b, (M.contains k || k == nid) = true → Live (σ.patch σ' W d).ob cv' k b → Live σ'.ob cv' k b := by
    intro k b hk ⟨h1, h2⟩
    rw [hobK k hk] at h1
    exact ⟨h1, h2⟩
  have hbK : ∀ k b, Live σ'.ob cv' k b → w.heap.size ≤ b ∨ ∃ k', (M.contains k' || k' == nid) = true ∧ Live σ.ob cv k' b := fun k b hl => (h'.live k b hl).1
  have hold : ∀ b, b < w.heap.size → (∀ k, (M.contains k || k == nid) = true → ¬ Live σ.ob cv k b) → w'.heap[b]? = w.heap[b]? := fun b hb hn => h'.old b hb (fun ⟨k, h1, h2⟩ => hn k h1 h2)
  have hS : Same (FS C σ.ob cv w) w w' := fun b hb => hold b (h.fs_lt hb) (fun k _ hl => h.fs_live hb hl)
  have hnl : ∀ b, b < w.heap.size → (∀ k, ¬ Live σ.ob cv k b) → ∀ i, ¬ Live (σ.patch σ' W d).ob cv' i b := by
    intro b hb hn i hl
    by_cases hk : (M.contains i || i == nid) = true
    · rcases hbK i b (hliveK i b hk hl) with h1 | ⟨k', _, h2⟩
      · omega
      · exact hn k' h2
    · exact hn i (hliveU i b hk hl)
  have hsz : w.heap.size ≤ w'.heap.size := h'.size
  have hF : ∀ b, FS C σ.ob cv w b → FS C (σ.patch σ' W d).ob cv' w' b := by
    intro b hb
    have hlt := h.fs_lt hb
    have hn := hnl b hlt (fun k => h.fs_live hb)
    rcases hb with hb | hb
    · exact .inl hb
    · exact .inr ⟨hb.1, by omega, hn⟩
  have hF' : ∀ b, FS (ctxOf C σ w cv M nid) σ'.ob cv' w' b → FS C (σ.patch σ' W d).ob cv' w' b := by
    intro b hb
    rcases hb with hb | ⟨hb, hlt, hn⟩
    · exact hF b hb
    · refine .inr ⟨?_, hlt, fun i hl => ?_⟩
      · rcases hb with hb | ⟨k, _, hl⟩
        · exact .inl (Nat.le_trans h.size hb)
        · exact (h.live k b hl).1
      · by_cases hk : (M.contains i || i == nid) = true
        · exact hn i (hliveK i b hk hl)
        · have hl2 := hliveU i b hk hl
          rcases hb with hb | ⟨k, hk', hl'⟩
          · have := (h.live i b hl2).2; have hb : w.heap.size ≤ b := hb; omega
          · have := h.inj i k b hl2 hl'
            subst this; exact hk hk'
  have hS' : Same (FS (ctxOf C σ w cv M nid) σ'.ob cv' w') w' w' := fun _ _ => rfl
  have hnf : ∀ i, σ.ob i ≠ .free → (σ.patch σ' W d).ob i ≠ .free := by
    intro i hi
    by_cases hk : (M.contains i || i == nid) = true
    · rw [hobK i hk]; exact (hpin i hi).1
    · rw [hobU i hk]; exact hi
  exact {
    os := h'.os.trans h.os, tape := h'.tape.trans h.tape, output := h'.output.trans h.output, size := Nat.le_trans h.size hsz
    old := fun k hk hO => by
      rw [← h.old k hk hO]
      refine hold k (Nat.lt_of_lt_of_le hk h.size) (fun i _ hl => ?_)
      rcases (h.live i k hl).1 with h1 | h1
      · omega
      · exact hO h1
    f0 := h.f0, o0 := h.o0
    live := fun i b hl => by
      by_cases hk : (M.contains i || i == nid) = true
      · have hl' := hliveK i b hk hl
        refine ⟨?_, (h'.live i b hl').2⟩
        rcases hbK i b hl' with h1 | ⟨k', _, h2⟩
        · exact .inl (Nat.le_trans h.size h1)
        · exact (h.live k' b h2).1
      · have hl' := h.live i b (hliveU i b hk hl)
        exact ⟨hl'.1, Nat.lt_of_lt_of_le hl'.2 hsz⟩
    inj := fun i j b hi hj => by
      by_cases hki : (M.contains i || i == nid) = true <;> by_cases hkj : (M.contains j || j == nid) = true
      · exact h'.inj i j b (hliveK i b hki hi) (hliveK j b hkj hj)
      · exfalso
        have hlj := hliveU j b hkj hj
        rcases hbK i b (hliveK i b hki hi) with h1 | ⟨k', hk', h2⟩
        · have := (h.live j b hlj).2; omega
        · have := h.inj j k' b hlj h2; subst this; exact hkj hk'
      · exfalso
        have hli := hliveU i b hki hi
        rcases hbK j b (hliveK j b hkj hj) with h1 | ⟨k', hk', h2⟩
        · have := (h.live i b hli).2; omega
        · have := h.inj i k' b hli h2; subst this; exact hki hk'
      · exact h.inj i j b (hliveU i b hki hi) (hliveU j b hkj hj)
    obs := fun i => by
      by_cases hk : (M.contains i || i == nid) = true
      · rw [hobK i hk]; exact (h'.obs i).mono hS' hF' rfl (fun _ _ => rfl) (fun _ _ _ => rfl)
      · rw [hobU i hk]
        by_cases hf : σ.ob i = .free
        · rw [hf]; trivial
        · refine (h.obs i).mono hS hF (hpin i hf).2 (fun j hj => (hpin j (h.mento i j hj)).2) (fun hl b hb => ?_)
          have hli : Live σ.ob cv i b := ⟨hl, hb⟩
          refine hold b (h.live i b hli).2 (fun k hk' hl' => ?_)
          have := h.inj i k b hli hl'
          subst this; exact hk hk'
    slots := fun t => by
      rw [patch_sl]
      by_cases ht : d = some t
      · rw [if_pos ht]; exact (h'.slots t).mono hS' hF' (fun _ _ => rfl)
      · rw [if_neg ht, ha t ht]; exact (h.slots t).mono hS hF (fun i hi => (hpin i (h.ments t i hi)).2)
    ments := fun t i hi => by
      rw [patch_sl] at hi
      by_cases ht : d = some t
      · rw [if_pos ht] at hi
        rcases hw.ment t ht i (isMent_iff.2 hi) with rfl | ⟨t', h1, h2⟩ | ⟨k, h1, h2⟩
        · rw [hobK i (by simp)]; exact h'.ments t i hi
        · exact hnf i (h.ments t' i (isMent_iff.1 h2))
        · exact hnf i (h.mento k i h2)
      · rw [if_neg ht] at hi; exact hnf i (h.ments t i hi)
    mento := fun j i hi => by
      rw [patch_ob] at hi
      split at hi
      · rename_i hc
        rcases hw.plain j (by simpa using hc) i hi with rfl | ⟨t', h1, h2⟩ | ⟨k, h1, h2⟩
        · rw [hobK i (by simp)]; exact h'.mento j i hi
        · exact hnf i (h.ments t' i (isMent_iff.1 h2))
        · exact hnf i (h.mento k i h2)
      · exact hnf i (h.mento j i hi)
    defers := hda ▸ h.defers.mono hF hS, ntmps := h'.ntmps
    pin := fun i v hv => by
      obtain ⟨h1, h2⟩ := h.pin i v hv
      exact ⟨hnf i h1, (hpin i h1).2.trans h2⟩ }

theorem Ev.sound {C : Ctx} {all : List Oper} {nid j : Nat} {o : Oper} {σ' : St} (ho : all[j]? = some o) (he : Ev P C.n all nid o σ σ') (h : Rel P C σ a w cv) (rest : List Nat) (m : List Item) (b : Frame) (cs : List Frame) :
    ∃ u w' cv', Rel P C σ' (a.put o.dst u) w' cv' ∧ Steps P (lone (b.atR a (.inRegion all.toArray (j :: rest) :: m)) cs w) (lone (b.atR (a.put o.dst u) (.inRegion all.toArray rest :: m)) cs w') := by
  cases he with
  | run hg hs hd =>
    obtain ⟨u, w', cv', h1, h2, h3, h4⟩ := step_sound h hs
    exact ⟨u, w', cv', put_rel h2 hd h3 h4, oper_steps ho (runs_wanted h hg) h1 b cs⟩
  | pass hg hd => exact ⟨undef, w, cv, put_rel h hd (v := .tup []) ⟨[], rfl, Reps.nil _ _⟩ (fun i hi => hi.elim), pass_steps ho (runs_wanted h hg) b cs⟩
  | bref hg hop hd hx hy hob hz hpl hp hna hcs hk =>
    rename_i t i0 i1 x y p0 id e ys zs places z cs' k
    obtain ⟨u, h1, h2, h3⟩ := h.buildRef hx hy hob hz hpl hp hna hcs hk
    have hrun : (execOp a.eval o).run P w = .ok (.value u) w := by
      have e : execOp a.eval o = (do pure (.value (← Instr.build t (#[(i0, x), (i1, y)].map fun (i, x) => (i, a.eval x)))) : Sem Next) := by unfold execOp; rw [hop]
      rw [e, Sem.run_bind, h1]; simp
    exact ⟨u, w, cv, put_rel h hd h2 h3, oper_steps ho (runs_wanted h hg) (.inl hrun) b cs⟩
  | call hg hop hd hc =>
    obtain ⟨f, args, h1, h2⟩ := call_sound h hc
    obtain ⟨u, w', ⟨cv', h3, h4, h5⟩, h6⟩ := call_steps ho (runs_wanted h hg) (h1 _ _ hop) (S := fun u w' => ∃ cv', Rel P C _ a w' cv' ∧ SRep w' (FS C _ cv' w') cv' _ u ∧ ∀ i, _ → _) (h2.mono fun e w' ⟨u, cv', he, hh⟩ => ⟨u, he, cv', hh⟩) b cs
    exact ⟨u, w', cv', put_rel h3 hd h4 h5, h6⟩

theorem EvR.sound {C : Ctx} {all : List Oper} {bs j : Nat} {M W : List (List Nat)} {τ τ' : St} (he : EvR P C.n all bs M W j τ τ') (h : Rel P C τ a w cv) (rest : List Nat) (m : List Item) (b : Frame) (cs : List Frame) :
    ∃ a' w' cv', Rel P C τ' a' w' cv' ∧ Steps P (lone (b.atR a (.inRegion all.toArray (j :: rest) :: m)) cs w) (lone (b.atR a' (.inRegion all.toArray rest :: m)) cs w') := by
  obtain ⟨o, ho, σ', e1, hw, rfl⟩ := he
  obtain ⟨u, w', cv', h1, h2⟩ := Ev.sound (C := ctxOf C τ w cv (at_ M j) (bs + j)) ho e1 (h.restr _ _ _) rest m b cs
  exact ⟨_, w', cv', h.patch h1 (fun t ht => put_getD ht) (by cases o.dst <;> rfl) hw, h2⟩

theorem RunS.sound {C : Ctx} {all : List Oper} {bs : Nat} {M W : List (List Nat)} : ∀ (l : List Nat) {τ fin : St} {a : Act} {w : World} {cv : Nat → Value}, RunS P C.n all bs M W l τ fin → Rel P C τ a w cv → ∀ (m : List Item) (b : Frame) (cs : List Frame),
    ∃ a' w' cv', Rel P C fin a' w' cv' ∧ Steps P (lone (b.atR a (.inRegion all.toArray l :: m)) cs w) (lone (b.atR a' m) cs w') := by
  intro l
  induction l with
  | nil => intro τ fin a w cv h hr m b cs; obtain rfl := h; exact ⟨a, w, cv, hr, .one stepR_region_end⟩
  | cons i l ih =>
    intro τ fin a w cv ⟨τ1, h1, h2⟩ hr m b cs
    obtain ⟨a1, w1, cv1, g1, g2⟩ := h1.sound hr l m b cs
    obtain ⟨a2, w2, cv2, k1, k2⟩ := ih h2 g1 m b cs
    exact ⟨a2, w2, cv2, k1, g2.trans k2⟩

theorem drop_head {α : Type} {l : List α} {i : Nat} {x : α} {r : List α} (h : x :: r = l.drop i) : l[i]? = some x ∧ r = l.drop (i + 1) := by
  have h1 : (l.drop i)[0]? = some x := by rw [← h]; rfl
  rw [List.getElem?_drop] at h1
  refine ⟨by simpa using h1, ?_⟩
  rw [← List.tail_drop, ← h]; rfl

theorem Rel.opn (h : Rel P C σ a w cv) {id sz : Nat} {e : TypeId} {xs : List PV} (ho : σ.ob id = .row e xs) (hsz : szOf P e = some sz) : ∃ q, Rel P C (σ.opn id sz xs.length e xs q) a w cv := by
  have ho' := h.obs id
  rw [ho] at ho'
  obtain ⟨sz', cells, h1, h2, h3, h4, h5, h6⟩ := ho'
  obtain rfl : sz' = sz := Option.some.inj (h1.symm.trans hsz)
  -- the capacity
  obtain ⟨q, hq⟩ : ∃ q, ∀ F', (∀ b, FS C σ.ob cv w b → F' b) → OwnRowK P w F' (cv id) e xs q := by
    rcases h4.2 with ⟨e1, hn⟩ | ⟨g, cap, cur, e1, hb0, hg, hnc, hcm, hcs, ht⟩
    · exact ⟨0, fun F' hF => ⟨sz', cells, h1, h2, h3, h4.1, h5.mono (fun _ _ => rfl : Same (FS C σ.ob cv w) w w) hF, h6, .inl ⟨e1, List.eq_nil_of_length_eq_zero hn, rfl⟩⟩⟩
    · have hx : xs.length + (cap - xs.length) = cap := by omega
      exact ⟨cap - xs.length, fun F' hF => ⟨sz', cells, h1, h2, h3, h4.1, h5.mono (fun _ _ => rfl : Same (FS C σ.ob cv w) w w) hF, h6, .inr ⟨g, xs.length, cur, by rw [hx]; exact e1, hg, by rw [hx]; exact hcm, by rw [hx]; exact hcs, ht⟩⟩⟩
  have h2' := h.mod id (by rw [ho]; rfl) (.rowk e xs q) (by simp) (w' := w) (row := none) ⟨rfl, rfl, rfl, Nat.le_refl _, fun _ _ _ => rfl⟩ (by simp) (fun F' hF _ _ => hq F' hF) (fun j hj => hj.elim)
  have hs : (σ.opn id sz' xs.length e xs q).ob = (σ.setOb id (.rowk e xs q)).ob := rfl
  refine ⟨q, { os := h2'.os, tape := h2'.tape, output := h2'.output, size := h2'.size, old := h2'.old, f0 := h2'.f0, o0 := h2'.o0, live := h2'.live, inj := h2'.inj, obs := h2'.obs, slots := fun t => ?_, ments := fun t i hi => ?_, mento := h2'.mento, defers := h2'.defers, ntmps := h2'.ntmps, pin := h2'.pin }⟩
  · have hst := h2'.slots t
    show SRep w (FS C (σ.setOb id (.rowk e xs q)).ob cv w) cv (opnA id sz' xs.length (σ.sl t)) _
    have hst : SRep w (FS C (σ.setOb id (.rowk e xs q)).ob cv w) cv (σ.sl t) (a.tmps.getD t undef) := hst
    unfold opnA
    split
    · rename_i j hj
      split
      · rename_i hji
        subst hji
        rw [hj] at hst
        have hst : a.tmps.getD t undef = cv j := hst
        rw [hst]
        rcases h4.2 with ⟨e1, hn⟩ | ⟨g, cap, cur, e1, hb0, hg, hnc, hcm, hcs, ht⟩
        · exact .inl ⟨e1, rfl, hn, e1⟩
        · exact .inr ⟨g, xs.length, cap, 0, e1, by omega, .inl (by simp), by simpa using e1⟩
      · rw [hj] at hst; exact hst
    · exact hst
  · have hi : (opnA id sz' xs.length (σ.sl t)).ment i := hi
    refine h2'.ments t i ?_
    show (σ.sl t).ment i
    revert hi
    unfold opnA
    split
    · rename_i j hj
      rw [hj]
      split
      · rename_i hji; subst hji; exact fun hh => hh
      · exact fun hh => hh
    · exact fun hh => hh

theorem Rel.nilb (h : Rel P C σ a w cv) {id m : Nat} {ag : Bool} {cs : List AV} (hb : σ.ob id = .box ag cs) (hc : cs[m]? = some .nils) : Rel P C (σ.setOb id (.box ag (cs.set m (.val (.row []))))) a w cv := by
  have hmo := h.mento id
  rw [hb] at hmo
  refine h.mod id (by rw [hb]; rfl) _ (by simp) (w' := w) (row := none) ⟨rfl, rfl, rfl, Nat.le_refl _, fun _ _ _ => rfl⟩ (by simp) (fun F' hF _ hS => ?_) (fun i hi => ?_)
  · have hob := h.obs id
    rw [hb] at hob
    obtain ⟨b, ty, arr, g1, g2, g3, g4, g5⟩ := hob
    refine ⟨b, ty, arr, g1, g2, by rw [List.length_set]; exact g3, fun c hcm => ?_, fun i c v hci hv => ?_⟩
    · rcases List.mem_or_eq_of_mem_set hcm with hcm | hcm
      · exact g4 c hcm
      · rw [hcm]; rfl
    · rw [List.getElem?_set] at hci
      split at hci
      · rename_i e2
        subst e2
        split at hci
        · cases hci
          have hh := g5 m .nils v hc hv
          have hv2 : v = .slice none 0 0 := hh.1
          subst hv2
          exact ⟨Rep.rowNil, hh.2⟩
        · cases hci
      · exact ⟨((g5 i c v hci hv).1).mono hS hF (fun _ _ => rfl), (g5 i c v hci hv).2⟩
  · obtain ⟨c, hcm, hci⟩ := hi
    rcases List.mem_or_eq_of_mem_set hcm with hcm | hcm
    · exact hmo i ⟨c, hcm, hci⟩
    · rw [hcm] at hci; exact hci.elim
theorem Rel.pubt (h : Rel P C σ a w cv) {t : Nat} {p : PV} (hp : σ.pv (σ.sl t) = some p) : Rel P C ((σ.pub (σ.sl t)).set t (.val p)) a w cv := by
  have h1 := (h.pub (σ.sl t)).1
  have hr := h.pvs (cs := [σ.sl t]) (ps := [p]) (vs := [a.tmps.getD t undef]) (by simp [St.pvs, hp]) rfl (fun j c v hc hv => by
    match j with
    | 0 =>
      simp only [List.getElem?_cons_zero, Option.some.injEq] at hc hv
      subst hc; subst hv
      exact h.slots t
    | j + 1 => simp at hc)
  have hr2 : Rep w (FS C (σ.pub (σ.sl t)).ob cv w) p (a.tmps.getD t undef) := hr.tail.1
  exact { os := h1.os, tape := h1.tape, output := h1.output, size := h1.size, old := h1.old, f0 := h1.f0, o0 := h1.o0, live := h1.live, inj := h1.inj, obs := h1.obs,
          slots := fun u => by
            show SRep w _ cv (if u = t then .val p else _) _
            split
            · rename_i e; subst e; exact hr2
            · exact h1.slots u
          ments := fun u i hm => by
            have hm' : (if u = t then AV.val p else (σ.pub (σ.sl t)).sl u).ment i := hm
            split at hm'
            · exact hm'.elim
            · exact h1.ments u i hm'
          mento := h1.mento, defers := h1.defers, ntmps := h1.ntmps, pin := h1.pin }
theorem Rel.pubc (h : Rel P C σ a w cv) {id j m : Nat} {ag : Bool} {cs : List AV} {e : TypeId} {xs : List PV} (hb : σ.ob id = .box ag cs) (hc : cs[m]? = some (.ref j)) (ho : σ.ob j = .row e xs) :
    Rel P C ((σ.setOb j (.prow xs)).setOb id (.box ag (cs.set m (.val (.row xs))))) a w cv := by
  have hne : id ≠ j := fun e => by rw [e, ho] at hb; cases hb
  have h1 := (h.pub (.ref j)).1
  have e1 : σ.pub (.ref j) = σ.setOb j (.prow xs) := by simp [St.pub, ho]
  rw [e1] at h1
  have hb1 : (σ.setOb j (.prow xs)).ob id = .box ag cs := by simp [St.setOb, hne, hb]
  have hj1 : (σ.setOb j (.prow xs)).ob j = .prow xs := by simp [St.setOb]
  have hmo := h1.mento id
  rw [hb1] at hmo
  refine h1.mod id (by rw [hb1]; rfl) _ (by simp) (w' := w) (row := none) ⟨rfl, rfl, rfl, Nat.le_refl _, fun _ _ _ => rfl⟩ (by simp) (fun F' hF _ hS => ?_) (fun i hi => ?_)
  · have hob := h1.obs id
    rw [hb1] at hob
    obtain ⟨b, ty, arr, g1, g2, g3, g4, g5⟩ := hob
    have hrow : Rep w (FS C (σ.setOb j (.prow xs)).ob cv w) (.row xs) (cv j) := by
      have := h1.obs j
      rw [hj1] at this
      exact this
    refine ⟨b, ty, arr, g1, g2, by rw [List.length_set]; exact g3, fun c hcm => ?_, fun i c v hci hv => ?_⟩
    · rcases List.mem_or_eq_of_mem_set hcm with hcm | hcm
      · exact g4 c hcm
      · rw [hcm]; rfl
    · rw [List.getElem?_set] at hci
      split at hci
      · rename_i e2
        subst e2
        split at hci
        · cases hci
          have := g5 m (.ref j) v hc hv
          have hvj : v = cv j := this.1
          rw [hvj]
          exact ⟨Rep.mono hrow hS hF, hrow.oneCell rfl⟩
        · cases hci
      · exact ⟨((g5 i c v hci hv).1).mono hS hF (fun _ _ => rfl), (g5 i c v hci hv).2⟩
  · obtain ⟨c, hcm, hci⟩ := hi
    rcases List.mem_or_eq_of_mem_set hcm with hcm | hcm
    · exact hmo i ⟨c, hcm, hci⟩
    · rw [hcm] at hci; exact hci.elim
theorem Rel.nilk (h : Rel P C σ a w cv) {t id sz : Nat} {e : TypeId} (ht : σ.sl t = .nils) (hf : σ.ob id = .free) (hsz : szOf P e = some sz) (h0 : 0 < sz) : ∃ cv', Rel P C ((σ.setOb id (.rowk e [] 0)).set t (.vw id sz 0 0)) a w cv' := by
  obtain ⟨cv', h2, h3⟩ := h.grow (i := id) hf none (fun j hj => by cases hj) (w' := w) (row := none) ⟨rfl, rfl, rfl, Nat.le_refl _, fun _ _ _ => rfl⟩ (fun b hb => by cases hb) (e := e) (ys := []) (v' := .slice none 0 0)
    (fun F' _ _ _ => ⟨sz, [], hsz, h0, by simp, World.ownsRow_nil w 0 e sz, Reps.nil _ _, by simp [flat]⟩) (fun b hb => by cases hb)
  have h4 := h2.mod id (by simp [St.setOb, Ob.live]) (.rowk e [] 0) (by simp) (w' := w) (row := none) ⟨rfl, rfl, rfl, Nat.le_refl _, fun _ _ _ => rfl⟩ (by simp)
    (fun F' hF _ _ => ⟨sz, [], hsz, h0, by simp, by simp, Reps.nil _ _, by simp [flat], .inl ⟨h3, rfl, rfl⟩⟩) (fun j hj => hj.elim)
  have hob : (((σ.drop none).setOb id (.row e [])).setOb id (.rowk e [] 0)).ob = ((σ.setOb id (.rowk e [] 0)).set t (.vw id sz 0 0)).ob := by
    funext k
    show (if k = id then _ else if k = id then _ else σ.ob k) = (if k = id then _ else σ.ob k)
    split <;> rfl
  have hv : a.tmps.getD t undef = .slice none 0 0 := by have := h.slots t; rw [ht] at this; exact this
  refine ⟨cv', { os := h4.os, tape := h4.tape, output := h4.output, size := h4.size, old := h4.old, f0 := h4.f0, o0 := h4.o0, live := by rw [← hob]; exact h4.live, inj := by rw [← hob]; exact h4.inj, obs := by rw [← hob]; exact h4.obs, slots := fun t' => ?_, ments := fun t' i hi => ?_, mento := by rw [← hob]; exact h4.mento, defers := by rw [← hob]; exact h4.defers, ntmps := h4.ntmps, pin := by rw [← hob]; exact h4.pin }⟩
  · rw [← hob]
    show SRep w _ cv' (if t' = t then .vw id sz 0 0 else σ.sl t') _
    by_cases e1 : t' = t
    · rw [if_pos e1, e1]; exact .inl ⟨h3, rfl, rfl, hv⟩
    · rw [if_neg e1]; exact h4.slots t'
  · rw [← hob]
    have hi : (if t' = t then AV.vw id sz 0 0 else σ.sl t').ment i := hi
    by_cases e1 : t' = t
    · rw [if_pos e1] at hi
      have hi : id = i := hi
      subst hi
      simp [St.setOb]
    · rw [if_neg e1] at hi
      exact h4.ments t' i hi

theorem run_eqIn_snil (d : Nat) {t e : TypeId} (hu : P.underlying t = some (.slice e)) (n c n' c' : Nat) (b : Option Addr) : (Op.equalIn (d + 1) t (.slice none n c) (.slice b n' c')).run P w = .ok b.isNone w := by
  simp [Op.equalIn, run_underlying hu]
theorem run_eqIn_ssome (d : Nat) {t e : TypeId} (hu : P.underlying t = some (.slice e)) (n c n' c' : Nat) (b : Addr) : (Op.equalIn (d + 1) t (.slice (some b) n c) (.slice none n' c')).run P w = .ok false w := by
  simp [Op.equalIn, run_underlying hu]
theorem run_eql_slice {t : TypeId} {p q : Option Addr} {n c n' c' : Nat} {b : Bool} (h : (Op.equalIn (9999 + 1) t (.slice p n c) (.slice q n' c')).run P w = .ok b w) (neg : Bool) :
    (binOp (if neg = true then .neq else .eql) t (.slice p n c) (.slice q n' c')).run P w = .ok (.bool (if neg = true then !b else b)) w := by
  cases neg
  · simp only [Bool.false_eq_true, if_false, binOp]
    simp [Op.equal, Op.maxDepth, h]
  · simp only [if_true, binOp]
    simp [Op.equal, Op.maxDepth, h]

theorem run_nilq {t e : TypeId} {op : BinOp} {x y : Operand} {u : Value} {ys : List PV} {v : AV} (h : Rel P C σ a w cv) (hop : op = .eql ∨ op = .neq) (hu : P.underlying t = some (.slice e)) (hp : σ.pv v = some (.row ys)) (hv : SRep w (FS C σ.ob cv w) cv v u) :
    ∃ c : Prop, (c → ys = []) ∧ (do eqGuard op t x y u (.slice none 0 0); binOp op t u (.slice none 0 0) : Sem Value).run P w = .ok (.bool (if op = .eql then decide c else !decide c)) w := by
  have hg : ∀ (p : Option Addr) (n c : Nat), (eqGuard op t x y (.slice p n c) (.slice none 0 0)).run P w = .ok () w := fun p n c => by
    unfold eqGuard
    rcases hop with rfl | rfl <;> simp
  rcases h.rowRead hp hv with ⟨rfl, rfl⟩ | ⟨ad, c, sz, cells, rfl, _⟩
  · refine ⟨True, fun _ => rfl, ?_⟩
    rw [Sem.run_bind, hg]
    have := run_eql_slice (P := P) (w := w) (run_eqIn_snil 9999 hu 0 0 0 0 none)
    rcases hop with rfl | rfl
    · simpa using this false
    · simpa using this true
  · refine ⟨False, fun hf => hf.elim, ?_⟩
    rw [Sem.run_bind, hg]
    have := run_eql_slice (P := P) (w := w) (run_eqIn_ssome 9999 hu ys.length c 0 0 ad)
    rcases hop with rfl | rfl
    · simpa using this false
    · simpa using this true

theorem run_ovl (h : Rel P C σ a w cv) {f : FuncId} {fn : Func} {tS tR e : TypeId} (hf : P.funcs[f]? = some fn) (hn : (fn.name == "runtime.NumGoroutine") = false) (hb : fn.body.isNone = true) (hfn : Extern.findNext fn = none)
    (hfe : Extern.find fn = some (Extern.SlicesOverlaps.overlaps #[tS, tS] #[tR])) (hu : P.underlying tS = some (.slice e)) {id sz l len q : Nat} {xs zs : List PV} (hsz : szOf P e = some sz) {u v : Value}
    (hx : SRep w (FS C σ.ob cv w) cv (.val (.rowp zs)) u) (hy : SRep w (FS C σ.ob cv w) cv (.vw id sz l len) v) (ho : σ.ob id = .rowk e xs q) (hq : 0 < xs.length + q) : (callFunc f #[u, v]).run P w = .ok (.value (.bool false)) w := by
  rw [run_callFunc_extern hf hn hb hfn hfe]
  have ho' := h.obs id
  rw [ho] at ho'
  obtain ⟨sz', cells, h1, h2, h3, h4, h5, h6, h7⟩ := ho'
  obtain rfl : sz' = sz := Option.some.inj (h1.symm.trans hsz)
  have key : (Extern.SlicesOverlaps.overlaps #[tS, tS] #[tR] #[u, v]).run P w = .ok (.bool false) w := by
    have hx : Rep w (FS C σ.ob cv w) (.rowp zs) u := hx
    cases hx
    rename_i hp hr
    rcases hy with ⟨c1, rfl, rfl, rfl⟩ | ⟨b, n', c, o, c1, c2, c3, rfl⟩
    · rcases h7 with ⟨_, hxs, hk⟩ | ⟨g, n, cur, c1', _⟩
      · subst hxs hk; simp at hq
      · rw [c1] at c1'; cases c1'
    · rcases h7 with ⟨c1', _⟩ | ⟨g, n, cur, c1', hg, hm, hcs, ht⟩
      · rw [c1] at c1'; cases c1'
      · rw [c1] at c1'; cases c1'
        rcases hp with rfl | ⟨ad, m, cc, cur2, ty, rfl, hF, hh⟩
        · change Sem.run P (α := Value) (do
            let some t := (#[tS, tS] : Array TypeId)[0]? | stuck "slices.overlaps: no parameter types"
            let .slice elem ← underlying t | stuck "slices.overlaps: slice type expected"
            let size ← sizeOf elem
            pure (Value.bool false)) w = _
          simp [run_underlying hu, run_sizeOf hsz]
        · have hne : ad.block ≠ b := fun e1 => by
            subst e1
            exact h.fs_live (i := id) hF ⟨by rw [ho]; rfl, by rw [c1]; rfl⟩
          refine Lib.run_overlaps_apart w tS tR e hu sz' (fun w => run_sizeOf hsz) ad ⟨b, o, none⟩ m cc len _ hne ty e cur2.size cur.size ?_ ?_ ?_ ?_ ?_
          · simp [World.shape?, hh]
          · simp [World.shape?, hg]
          · rw [hcs]
            exact Nat.ne_of_gt (Nat.mul_pos hq h2)
          · simp [World.frozen?, hh]
          · simp [World.frozen?, hh]
  rw [key]
  rfl

/-- THE MACHINE FOLLOWS THE WALK. -/
theorem V.sound {k : List It} (hK : md.K C) (hpin : md.pl = true → ∀ i, C.pin i = none) (hZ : ∀ σ todo, R σ → leaves md.rt todo → Z σ todo) (hv : V md P C.n R k σ) : ∀ (m : List Item), Conc md P C Z k m → ∀ (a : Act) (w : World) (cv : Nat → Value), Rel P C σ a w cv → Good md P C Z m a w := by
  generalize hn : C.n = n at hv
  induction hv with
  | done h =>
    intro m hc a w cv hr b cs hb
    cases hc
    exact ⟨_, a, w, cv, [], hZ _ _ h trivial, hr, .refl _ _⟩
  | ret h hrt =>
    intro m hc a w cv hr b cs hb
    cases hc
    rename_i m hc
    exact ⟨_, a, w, cv, .code .ret :: m, hZ _ _ h hrt, hr, .refl _ _⟩
  | skip h ih =>
    intro m hc a w cv hr
    cases hc
    rename_i m hc
    exact Good.step (fun b cs => .one stepR_skip) (ih _ hc a w cv hr)
  | seq h ih =>
    intro m hc a w cv hr
    cases hc
    rename_i m hc
    exact Good.step (fun b cs => .one stepR_seq) (ih _ (.code _ (.code _ hc)) a w cv hr)
  | cond hcv ht hf iht ihf =>
    intro m hc a w cv hr
    cases hc
    rename_i m hc
    rename_i k σ c x y v
    have hx := (hr.ev c).1
    rw [hcv] at hx
    have hx : a.eval c = .bool v := by
      generalize a.eval c = u at hx
      have hx : Rep w (FS C σ.ob cv w) (.bool v) u := hx
      cases hx; rfl
    cases v
    · exact Good.step (fun b cs => .one (stepR_cond hx)) (ihf rfl _ (.code _ hc) a w cv hr)
    · exact Good.step (fun b cs => .one (stepR_cond hx)) (iht rfl _ (.code _ hc) a w cv hr)
  | block h ih =>
    intro m hc a w cv hr
    cases hc
    rename_i m hc
    exact Good.step (fun b cs => .one stepR_block) (ih _ (.code _ (.blk hc)) a w cv hr)
  | blk h ih =>
    intro m hc a w cv hr
    cases hc
    rename_i m hc
    exact Good.step (fun b cs => .one stepR_inBlock) (ih _ hc a w cv hr)
  | exit he h ih =>
    intro m hc a w cv hr
    cases hc
    rename_i m hc
    obtain ⟨m', h1, h2⟩ := exit_conc hc he
    exact Good.step (fun b cs => .one (stepR_exit h1)) (ih _ h2 a w cv hr)
  | region h ih =>
    intro m hc a w cv hr
    cases hc
    rename_i m hc
    rename_i k σ id os
    have := ih _ (.ops (all := os.toList) (b := σ.ck) (i := 0) (by simp) hc) a w cv (ck_rel hr _)
    refine Good.step (fun b cs => .one ?_) this
    rw [stepR_region]
    simp [List.range_eq_range']
  | draw M W hm hB ht h ih =>
    intro m hc a w cv hr b cs hb
    cases hc
    rename_i m hc
    rename_i k σ σ' id os
    have hsch := TRun.sched hB ht hm (w.tape w.drawn (.order b.fn id))
    obtain ⟨a1, w1, cv1, g1, g2⟩ := RunS.sound (C := C) _ (by rw [hn]; exact hsch) hr.drew m b cs
    obtain ⟨σ2, a2, w2, cv2, todo2, k1, k2, k3⟩ := ih _ hc a1 w1 cv1 (ck_rel g1 _) b cs hb
    refine ⟨σ2, a2, w2, cv2, todo2, k1, k2, .head stepR_region_draw (Steps.trans ?_ k3)⟩
    simpa using g2
  | nil h ih =>
    intro m hc a w cv hr
    cases hc
    rename_i m hrest hc
    exact Good.step (fun b cs => .one stepR_region_end) (ih _ hc a w cv hr)
  | run hg hs hd h ih =>
    intro m hc a w cv hr
    cases hc
    rename_i m hrest hc
    obtain ⟨ho, hrest'⟩ := drop_head hrest
    obtain ⟨u, w', cv', h1, h2, h3, h4⟩ := step_sound hr hs
    have hw := runs_wanted hr hg
    have := ih _ (.ops hrest' hc) _ w' cv' (put_rel h2 (by rw [hn]; exact hd) h3 h4)
    exact Good.step (fun b cs => oper_steps ho hw h1 b cs) this
  | pass hg hd h ih =>
    intro m hc a w cv hr
    cases hc
    rename_i m hrest hc
    obtain ⟨ho, hrest'⟩ := drop_head hrest
    have hw := runs_wanted hr hg
    have := ih _ (.ops hrest' hc) _ w cv (put_rel hr (by rw [hn]; exact hd) (v := .tup []) (u := undef) ⟨[], rfl, Reps.nil _ _⟩ (fun i hi => hi.elim))
    exact Good.step (fun b cs => pass_steps ho hw b cs) this
  | call hg hop hd hcs h ih =>
    intro m hc a w cv hr
    cases hc
    rename_i m hrest hc
    obtain ⟨ho, hrest'⟩ := drop_head hrest
    have hw := runs_wanted hr hg
    obtain ⟨f, args, h1, h2⟩ := call_sound hr hcs
    intro b cs hb
    obtain ⟨u, w', ⟨cv', h3, h4, h5⟩, h6⟩ := call_steps ho hw (h1 _ _ hop) (S := fun u w' => ∃ cv', Rel P C _ a w' cv' ∧ SRep w' (FS C _ cv' w') cv' _ u ∧ ∀ i, _ → _) (h2.mono fun e w' ⟨u, cv', he, hh⟩ => ⟨u, he, cv', hh⟩) b cs
    obtain ⟨σ', a2, w2, cv2, todo2, g1, g2, g3⟩ := ih _ (.ops hrest' hc) _ w' cv' (put_rel h3 (by rw [hn]; exact hd) h4 h5) b cs hb
    exact ⟨σ', a2, w2, cv2, todo2, g1, g2, h6.trans g3⟩
  | nilq hg ho hop hx hu hd h ih =>
    intro m hc a w cv hr
    cases hc
    rename_i m hrest hc
    obtain ⟨hoo, hrest'⟩ := drop_head hrest
    rename_i k σ all b i o rest op t x u e xs
    obtain ⟨c, hcx, hrun⟩ := run_nilq (x := x) (y := .const (.slice none 0 0)) hr hop hu hx (hr.ev x).1
    have hrr : (execOp a.eval o).run P w = .ok (.value (.bool (if op = .eql then decide c else !decide c))) w := by
      have e1 : execOp a.eval o = (do pure (.value (← (do eqGuard op t x (.const (.slice none 0 0)) (a.eval x) (a.eval (.const (.slice none 0 0))); binOp op t (a.eval x) (a.eval (.const (.slice none 0 0)))))) : Sem Next) := by
        unfold execOp; rw [ho]
      rw [e1, Sem.run_bind]
      have e2 : a.eval (.const (.slice none 0 0)) = .slice none 0 0 := rfl
      rw [e2, hrun]
      rfl
    have := ih c hcx _ (.ops hrest' hc) _ w cv (put_rel hr (by rw [hn]; exact hd) (v := .val (.bool (if op = .eql then decide c else !decide c))) (u := .bool (if op = .eql then decide c else !decide c)) (Rep.bool _) (fun i hi => hi.elim))
    exact Good.step (fun b cs => oper_steps hoo (runs_wanted hr hg) (.inl hrr) b cs) this
  | ovl hg ho hd hfx hf hnn hb hfn hfe hu hsz hx hy ho2 hq h ih =>
    intro m hc a w cv hr
    cases hc
    rename_i m hrest hc
    obtain ⟨hoo, hrest'⟩ := drop_head hrest
    rename_i k σ all b i o rest fx x y ts f fn tS tR e zs id sz l len xs q
    have hsx := (hr.ev x).1
    have hsy := (hr.ev y).1
    have hsf := (hr.ev fx).1
    rw [hx] at hsx
    rw [hy] at hsy
    rw [hfx] at hsf
    have hfv : a.eval fx = .func (.func f) #[] #[] := by
      have hsf : Rep w (FS C σ.ob cv w) (.fn f []) (a.eval fx) := hsf
      generalize a.eval fx = u at hsf
      cases hsf
      rename_i vs hl _
      obtain rfl := List.eq_nil_of_length_eq_zero hl
      rfl
    have hrun := run_ovl hr hf hnn hb hfn hfe hu hsz hsx hsy ho2 hq
    have hrr : (execOp a.eval o).run P w = .ok (.value (.bool false)) w := by
      simp only [execOp, ho, resolve, Sem.run_bind, Deferred.ofValue, hfv, Sem.run_pure, Result.andThen_ok, invoke]
      simpa using hrun
    have := ih _ (.ops hrest' hc) _ w cv (put_rel hr (by rw [hn]; exact hd) (v := .val (.bool false)) (u := .bool false) (Rep.bool _) (fun i hi => hi.elim))
    exact Good.step (fun b cs => oper_steps hoo (runs_wanted hr hg) (.inl hrr) b cs) this
  | opn id sz e xs ho hsz h ih =>
    intro m hc a w cv hr
    obtain ⟨q, hq⟩ := hr.opn ho hsz
    exact ih q _ hc a w cv hq
  | pubc id j m ag cs e xs hb hc ho h ih =>
    intro m hc' a w cv hr
    exact ih _ hc' a w cv (hr.pubc hb hc ho)
  | nilb id m ag cs hb hc h ih =>
    intro m' hc' a w cv hr
    exact ih _ hc' a w cv (hr.nilb hb hc)
  | pubt t p hp h ih =>
    intro m hc' a w cv hr
    exact ih _ hc' a w cv (hr.pubt hp)
  | nilk t id sz e ht hf hsz h0 h ih =>
    intro m hc a w cv hr
    obtain ⟨cv', hq⟩ := hr.nilk ht hf hsz h0
    exact ih _ hc a w cv' hq
  | opnB id sz e xs ho hsz h ih =>
    intro m hc a w cv hr
    obtain ⟨q, hq⟩ := hr.opn ho hsz
    refine ih q ?_ _ hc a w cv hq
    have hk := hq.obs id
    rw [show (St.opn _ id sz xs.length e xs q).ob id = .rowk e xs q by simp [St.opn]] at hk
    obtain ⟨_, _, _, _, _, _, _, _, h7⟩ := hk
    rcases h7 with ⟨_, hx, hq0⟩ | ⟨_, _, _, _, _, hm, _⟩
    · rw [hx, hq0]; exact Nat.zero_le _
    · exact hm
  | again h =>
    intro m hc a w cv hr
    cases hc with
    | again hc hJ => exact hJ _ a w cv h hr
  | stop h =>
    intro m hc a w cv hr
    cases hc with
    | stop hJ => exact hJ _ a w cv h hr
  | sem J hs h hp ih =>
    intro m hc a w cv hr b cs hb
    cases hc
    rename_i m hc
    obtain ⟨σ1, a1, w1, cv1, hJ, hr1, hst⟩ := hs C a w cv hK hn (hpin hp) hr b cs m (hb hp)
    obtain ⟨σ', a2, w2, cv2, todo2, g1, g2, g3⟩ := ih σ1 hJ _ hc a1 w1 cv1 hr1 b cs hb
    exact ⟨σ', a2, w2, cv2, todo2, g1, g2, hst.trans g3⟩
  | sop J hs h ih =>
    intro m hc a w cv hr b cs hb
    cases hc
    rename_i m hrest hc
    obtain ⟨ho, hrest'⟩ := drop_head hrest
    rename_i k σ all b0 i o rest
    obtain ⟨σ1, a1, w1, cv1, hJ, hr1, hst⟩ := hs C a w cv hK hn hpin hr ho b cs m (List.range' (i + 1) rest.length)
    obtain ⟨σ', a2, w2, cv2, todo2, g1, g2, g3⟩ := ih σ1 hJ _ (.ops hrest' hc) a1 w1 cv1 hr1 b cs hb
    exact ⟨σ', a2, w2, cv2, todo2, g1, g2, Steps.trans hst g3⟩
  | loop I ck m0 ls os ρ h0 hm hrd hp ih =>
    intro m hc a w cv hr
    cases hc
    rename_i m hc
    rename_i k σ c
    have key : ∀ (q : Nat) (ls : List (Nat × AV)) (os : List Ob) (a : Act) (w : World) (cv : Nat → Value), I q ls os → Rel P C (litSt ls os ck) a w cv → Good md P C Z (.code c :: .inLoop c :: m) a w := by
      intro q
      induction q using Nat.strongRecOn with
      | _ q ihq =>
        intro ls os a w cv hI hrel
        refine ih q ls os hI _ (.code _ (.again hc fun σ' a' w' cv' hJ hrel' => ?_)) a w cv hrel
        obtain ⟨q', ls', os', ρ', hlt, hI', hm'⟩ := hJ
        obtain ⟨cv2, hrel2⟩ := hrel'.rename hm' ck (fun i v hv => by rw [hpin hp i] at hv; cases hv)
        exact Good.step (fun b cs => .one stepR_inLoop) (ihq q' hlt ls' os' a' w' cv2 hI' hrel2)
    obtain ⟨cv2, hrel2⟩ := hr.rename hm ck (fun i v hv => by rw [hpin hp i] at hv; cases hv)
    exact Good.step (fun b cs => .one stepR_loop) (key m0 ls os a w cv2 h0 hrel2)
  | lp J m0 h0 hrd ih =>
    intro m hc a w cv hr
    cases hc
    rename_i m hc
    rename_i k σ c
    have key : ∀ (q : Nat) (τ : St) (a : Act) (w : World) (cv : Nat → Value), J q τ → Rel P C τ a w cv → Good md P C Z (.code c :: .inLoop c :: m) a w := by
      intro q
      induction q using Nat.strongRecOn with
      | _ q ihq =>
        intro τ a w cv hI hrel
        refine ih q τ hI _ (.code _ (.again hc fun σ' a' w' cv' hJ hrel' => ?_)) a w cv hrel
        obtain ⟨q', hlt, hI'⟩ := hJ
        exact Good.step (fun b cs => .one stepR_inLoop) (ihq q' hlt σ' a' w' cv' hI' hrel')
    exact Good.step (fun b cs => .one stepR_loop) (key m0 σ a w cv h0 hr)
  | cut ck ls os ρ hm h hp ih =>
    intro m hc a w cv hr
    obtain ⟨cv2, hrel2⟩ := hr.rename hm ck (fun i v hv => by rw [hpin hp i] at hv; cases hv)
    exact ih _ hc a w cv2 hrel2

/-- A part of a walk. -/
theorem V.seg {c : Code} {J : St → Prop} (hK : md.K C) (hpin : md.pl = true → ∀ i, C.pin i = none) (hv : V md P C.n (fun _ => False) [.code c, .stop J] σ) (hr : Rel P C σ a w cv) (b : Frame) (cs : List Frame) (hb : md.pl = true → b.roundOf = none) (m : List Item) :
    ∃ τ a' w' cv', J τ ∧ Rel P C τ a' w' cv' ∧ Steps P (lone (b.atR a (.code c :: m)) cs w) (lone (b.atR a' m) cs w') := by
  have hz : ∀ σ a w cv, J σ → Rel P C σ a w cv → Good md P C (fun σ todo => J σ ∧ todo = m) m a w := fun σ a w cv hJ hr b cs hb => ⟨σ, a, w, cv, m, ⟨hJ, rfl⟩, hr, .refl _ _⟩
  obtain ⟨τ, a', w', cv', todo, ⟨h1, rfl⟩, h2, h3⟩ := V.sound (Z := fun σ todo => J σ ∧ todo = m) hK hpin (fun _ _ hf => hf.elim) hv (.code c :: m) (.code c (.stop hz)) a w cv hr b cs hb
  exact ⟨τ, a', w', cv', h1, h2, h3⟩

end
end Go.Proofs.YtjbfcmaiejlnbaaVm
set_option linter.unusedVariables false
set_option linter.unusedSimpArgs false
namespace Go.Proofs.YtjbfcmaiejlnbaaVm
open Go Classical

def inits : Nat → List Arg → List (Nat × AV)
  | _, [] => []
  | i, .p x :: r => (i, .val x) :: inits (i + 1) r
  | i, .o _ _ :: r => (i, .ref i) :: inits (i + 1) r
  | i, .n :: r => (i, .nils) :: inits (i + 1) r
def initObs : List Arg → List Ob
  | [] => []
  | .p _ :: r => .gone :: initObs r
  | .o e xs :: r => .row e xs :: initObs r
  | .n :: r => .gone :: initObs r
def initSt (args : List Arg) : St := litSt (inits 0 args) (initObs args) args.length

def retVals (P : Program) : St → List ResultVar → Option (List PV)
  | _, [] => some []
  | σ, .tmp t :: rs => match σ.pv (σ.sl t), retVals P (σ.pub (σ.sl t)) rs with
    | some p, some ps => some (p :: ps)
    | _, _ => none
  | σ, .cell a t :: rs => match stLoad P σ t (σ.sl a) with
    | some (σ', .val p) => match retVals P σ' rs with
      | some ps => some (p :: ps)
      | none => none
    | _ => none

/-- What is handed back. -/
def RetOK (P : Program) (σ : St) (rs : List ResultVar) : Res → Prop
  | .vals ps => retVals P σ rs = some ps
  | .own e xs => match rs with
    | [.tmp t] => match σ.sl t with
      | .ref i => σ.ob i = .row e xs
      | .vw i sz l n => ∃ ys q, σ.ob i = .rowk e ys q ∧ l = 0 ∧ n ≤ ys.length ∧ xs = ys.take n
      | .nils => xs = [] ∧ ∃ sz, szOf P e = some sz ∧ 0 < sz
      | _ => False
    | _ => False

/-- The state in which a call comes back. -/
def RetSt (P : Program) (rs : List ResultVar) (r : Res) : St → Prop := fun σ => RetOK P σ rs r

section
variable {P : Program} {C : Ctx} {R : St → Prop} {σ : St} {a : Act} {w : World} {cv : Nat → Value}

theorem inits_find (args : List Arg) : ∀ (i t : Nat), (match (inits i args).find? (fun x => x.1 == t) with | some x => x.2 | none => AV.any) =
    if i ≤ t then (match args[t - i]? with | some (.p x) => .val x | some (.o _ _) => .ref t | some .n => .nils | none => .any) else .any := by
  induction args with
  | nil => intro i t; simp [inits]
  | cons x r ih =>
    intro i t
    by_cases e : i = t
    · subst e
      cases x <;> simp [inits]
    · have e' : (i == t) = false := by simpa using e
      cases x <;> simp only [inits, List.find?_cons, e'] <;> rw [ih (i + 1) t]
      all_goals
        by_cases hle : i + 1 ≤ t
        · rw [if_pos hle, if_pos (by omega)]
          have : t - i = (t - (i + 1)) + 1 := by omega
          rw [this, List.getElem?_cons_succ]
        · rw [if_neg hle, if_neg (by omega)]

theorem initObs_get (args : List Arg) : ∀ (i : Nat), (initObs args)[i]? = (args[i]?).map fun | .p _ => Ob.gone | .o e xs => .row e xs | .n => .gone := by
  induction args with
  | nil => intro i; simp [initObs]
  | cons x r ih =>
    intro i
    cases i with
    | zero => cases x <;> simp [initObs]
    | succ i => cases x <;> simp [initObs, ih i]

/-- The state in which a call begins. -/
theorem init_rel {F : Nat → Prop} {args : List Arg} {vs : List Value} {N : Nat} (hF : ∀ b, F b → b < w.heap.size) (ha : ArgsRep P w F args vs) (hN : args.length ≤ N) :
    ∃ cv, Rel P ⟨w, F, Given args vs, N, fun _ => none, 2⟩ (initSt args) { tmps := (⟨vs⟩ : Array Value) ++ Array.replicate (N - vs.length) undef, defers := [] } w cv := by
  let cv : Nat → Value := fun i => vs.getD i undef
  have hcv : ∀ i v, vs[i]? = some v → cv i = v := fun i v hv => by simp [cv, List.getD, hv]
  have hob : ∀ i, (initSt args).ob i = match args[i]? with | some (.p _) => .gone | some (.o e xs) => .row e xs | some .n => .gone | none => .free := by
    intro i
    show (match (initObs args)[i]? with | some o => o | none => Ob.free) = _
    rw [initObs_get]
    cases h : args[i]? with
    | none => rfl
    | some x => cases x <;> rfl
  have hsl : ∀ t, (initSt args).sl t = match args[t]? with | some (.p x) => .val x | some (.o _ _) => .ref t | some .n => .nils | none => .any := by
    intro t
    show (match (inits 0 args).find? (fun x => x.1 == t) with | some x => x.2 | none => AV.any) = _
    rw [inits_find]; simp
  have hval : ∀ i x, args[i]? = some x → ∃ v, vs[i]? = some v := fun i x hx => by
    have hi : i < vs.length := by rw [ha.len]; exact (List.getElem?_eq_some_iff.1 hx).1
    exact ⟨vs[i], List.getElem?_eq_getElem hi⟩
  have hlive : ∀ i b, Live (initSt args).ob cv i b → ∃ e xs v, args[i]? = some (.o e xs) ∧ vs[i]? = some v ∧ blkOf v = some b := by
    intro i b ⟨h1, h2⟩
    rw [hob] at h1
    cases hx : args[i]? with
    | none => rw [hx] at h1; cases h1
    | some x =>
      cases x with
      | p x => rw [hx] at h1; cases h1
      | o e xs =>
        obtain ⟨v, hv⟩ := hval i _ hx
        rw [hcv i v hv] at h2
        exact ⟨e, xs, v, rfl, hv, h2⟩
      | n => rw [hx] at h1; cases h1
  have hgl : ∀ b, Given args vs b → b < w.heap.size := by
    rintro b ⟨i, e, xs, v, h1, h2, h3⟩
    obtain ⟨sz, cells, _, _, _, h4, _⟩ := ha.reps i _ v h1 h2
    rcases h4.2 with ⟨e1, _⟩ | ⟨g, cap, cur, e1, _, hg, _⟩
    · rw [e1] at h3; cases h3
    · rw [e1] at h3; cases h3; exact (Array.getElem?_eq_some_iff.1 hg).1
  have hFS : ∀ b, F b → FS ⟨w, F, Given args vs, N, fun _ => none, 2⟩ (initSt args).ob cv w b := fun b hb => .inl hb
  refine ⟨cv, { os := rfl, tape := rfl, output := rfl, size := Nat.le_refl _, old := fun _ _ _ => rfl, f0 := fun b hb => ⟨hF b hb, fun hg => ha.off b hg hb⟩, o0 := hgl, live := ?_, inj := ?_, obs := ?_, slots := ?_, ments := ?_, mento := ?_, defers := DefOK.nil, ntmps := ?_, pin := fun i v hv => by cases hv }⟩
  · intro i b hl
    obtain ⟨e, xs, v, h1, h2, h3⟩ := hlive i b hl
    have hg : Given args vs b := ⟨i, e, xs, v, h1, h2, h3⟩
    exact ⟨.inr hg, hgl b hg⟩
  · intro i j b hi hj
    obtain ⟨e, xs, v, h1, _, _⟩ := hlive i b hi
    obtain ⟨e', ys, u, h2, _, _⟩ := hlive j b hj
    exact ha.one i j e e' xs ys h1 h2
  · intro i
    rw [hob]
    cases hx : args[i]? with
    | none => trivial
    | some x =>
      cases x with
      | p x => trivial
      | o e xs =>
        obtain ⟨v, hv⟩ := hval i _ hx
        show OwnRow P w _ (cv i) e xs
        rw [hcv i v hv]
        exact (ha.reps i _ v hx hv).mono (fun _ _ => rfl : Same F w w) hFS (fun _ _ => rfl)
      | n => trivial
  · intro t
    rw [hsl]
    cases hx : args[t]? with
    | none => trivial
    | some x =>
      obtain ⟨v, hv⟩ := hval t _ hx
      have ht : ((⟨vs⟩ : Array Value) ++ Array.replicate (N - vs.length) undef).getD t undef = v := by
        have hlt : t < (⟨vs⟩ : Array Value).size := (List.getElem?_eq_some_iff.1 hv).1
        rw [Array.getD_eq_getD_getElem?, Array.getElem?_append_left hlt]
        have : (⟨vs⟩ : Array Value)[t]? = some v := by simpa using hv
        rw [this]; rfl
      show SRep w _ cv _ (((⟨vs⟩ : Array Value) ++ Array.replicate (N - vs.length) undef).getD t undef)
      rw [ht]
      cases x with
      | p x => exact Rep.mono (ha.reps t _ v hx hv) (fun _ _ => rfl : Same F w w) hFS
      | o e xs => exact (hcv t v hv).symm
      | n => exact ha.reps t _ v hx hv
  · intro t i hi
    rw [hsl] at hi
    cases hx : args[t]? with
    | none => rw [hx] at hi; exact hi.elim
    | some x =>
      rw [hx] at hi
      cases x with
      | p x => exact hi.elim
      | o e xs =>
        have e1 : t = i := hi
        subst e1
        rw [hob, hx]
        intro e; cases e
      | n => exact hi.elim
  · intro j i hi
    rw [hob] at hi
    cases hx : args[j]? with
    | none => rw [hx] at hi; exact hi.elim
    | some x => rw [hx] at hi; cases x <;> exact hi.elim
  · have hlen := ha.len
    show ((⟨vs⟩ : Array Value) ++ Array.replicate (N - vs.length) undef).size = N
    simp; omega

theorem stLoad_pubs {t : TypeId} {v r : AV} {σ' : St} (h : stLoad P σ t v = some (σ', r)) : ∃ cs, σ' = σ.pubs cs := by
  unfold stLoad at h
  split at h
  · split at h <;> cases h; exact ⟨[], rfl⟩
  · split at h
    · split at h <;> cases h; exact ⟨[], rfl⟩
    · split at h
      · split at h
        · split at h
          · split at h
            · cases h; exact ⟨_, rfl⟩
            · cases h
          · cases h
        · cases h
      · split at h <;> cases h; exact ⟨[], rfl⟩
      · cases h
    · cases h
  · split at h
    · split at h
      · split at h
        · split at h <;> cases h; exact ⟨[], rfl⟩
        · cases h
      · cases h
    · cases h
  · cases h

/-- One result is read. -/
def readR (tmps : Array Value) : ResultVar → Sem Value
  | .tmp t => pure (tmps.getD t undef)
  | .cell b t => do loadVar t (← asAddr (tmps.getD b undef))

theorem results_readR (fn : Func) (tmps : Array Value) {us : List Value} (h : (fn.results.toList.mapM (readR tmps)).run P w = .ok us w) : (results fn tmps).run P w = .ok (tupV us) w := by
  have e : results fn tmps = (do let vs ← fn.results.mapM (readR tmps); pure (if h : vs.size = 1 then vs[0] else .tuple vs)) := by
    unfold results
    rfl
  rw [e, Array.mapM_eq_mapM_toList]
  simp only [Sem.run_bind, Sem.run_map, h, Result.andThen_ok, Sem.run_pure]
  congr 1
  match us with
  | [] => rfl
  | [u] => rfl
  | u :: v :: us => rfl

/-- The results' own reads. -/
theorem retVals_run : ∀ {rs : List ResultVar} {σ : St} (h : Rel P C σ a w cv) {ps : List PV}, retVals P σ rs = some ps →
    ∃ (us : List Value) (σ' : St), (rs.mapM (readR a.tmps)).run P w = .ok us w ∧ Rel P C σ' a w cv ∧ (∀ b, FS C σ.ob cv w b → FS C σ'.ob cv w b) ∧ Reps w (FS C σ'.ob cv w) ps us
  | [], σ, h, ps, hr => by
    simp only [retVals, Option.some.injEq] at hr
    subst hr
    exact ⟨[], σ, by simp, h, fun _ hb => hb, Reps.nil _ _⟩
  | .tmp t :: rs, σ, h, ps, hr => by
    simp only [retVals] at hr
    split at hr
    · rename_i p qs hp hq
      cases hr
      have hpub := h.pub (σ.sl t)
      obtain ⟨us, σ', h1, h2, h3, h4⟩ := retVals_run hpub.1 hq
      refine ⟨a.tmps.getD t undef :: us, σ', ?_, h2, fun b hb => h3 b (hpub.2 b hb), Reps.cons ((h.pv hp (h.slots t)).mono (fun _ _ => rfl : Same _ w w) h3) h4⟩
      rw [List.mapM_cons]
      simp only [Sem.run_bind, h1, readR, Sem.run_pure, Result.andThen_ok]
    · cases hr
  | .cell b t :: rs, σ, h, ps, hr => by
    simp only [retVals] at hr
    split at hr
    · rename_i σ1 p hp
      split at hr
      · rename_i qs hq
        cases hr
        obtain ⟨x, g1, g2, g3, _⟩ := h.load (h.slots b) hp
        obtain ⟨us, σ', h1, h2, h3, h4⟩ := retVals_run g2 hq
        obtain ⟨cs, hcs⟩ := stLoad_pubs hp
        have hF : ∀ b, FS C σ.ob cv w b → FS C σ1.ob cv w b := by rw [hcs]; exact (h.pubs cs).2
        refine ⟨x :: us, σ', ?_, h2, fun b hb => h3 b (hF b hb), Reps.cons (Rep.mono g3 (fun _ _ => rfl : Same _ w w) h3) h4⟩
        have key : ∀ u : Value, (Instr.loadAt t u).run P w = .ok x w → (do loadVar t (← asAddr u) : Sem Value).run P w = .ok x w := by
          intro u g1
          cases u <;> simp [Instr.loadAt, Instr.sureAddr] at g1
          rename_i ad
          cases ad <;> simp [Instr.sureAddr] at g1
          simp [asAddr, g1]
        have g1' : (readR a.tmps (.cell b t)).run P w = .ok x w := key _ g1
        rw [List.mapM_cons]
        simp only [Sem.run_bind, h1, g1', Sem.run_pure, Result.andThen_ok]
      · cases hr
    · cases hr

/-! ### Blocks that hold no cells may turn -/
theorem Reps.cellsOnly {w : World} {F : Nat → Prop} {ps : List PV} {vs : List Value} (h : Reps w F ps vs) : Reps w (fun b => F b ∧ isC w b) ps vs := ⟨h.1, fun i p v hp hv => (h.2 i p v hp hv).cellsOnly⟩
theorem SRep.cellsOnly {w : World} {F : Nat → Prop} {cv : Nat → Value} {v : AV} {u : Value} (h : SRep w F cv v u) : SRep w (fun b => F b ∧ isC w b) cv v u := by
  cases v with
  | val p => exact Rep.cellsOnly h
  | tup ps => obtain ⟨vs, h1, h2⟩ := h; exact ⟨vs, h1, h2.cellsOnly⟩
  | agr ps k i => obtain ⟨vs, h1, h2, h3, h4, h5⟩ := h; exact ⟨vs, h1, h2, h3, h4, fun j p u hj hp hu => (h5 j p u hj hp hu).cellsOnly⟩
  | _ => exact h
theorem ObRep.cellsOnly {w : World} {F : Nat → Prop} {cv : Nat → Value} {i : Nat} {o : Ob} (h : ObRep P w F cv i o) : ObRep P w (fun b => F b ∧ isC w b) cv i o := by
  cases o with
  | free => trivial
  | gone => trivial
  | row e xs => obtain ⟨sz, cells, h1, h2, h3, h4, h5, h6⟩ := h; exact ⟨sz, cells, h1, h2, h3, h4, h5.cellsOnly, h6⟩
  | box ag cs =>
    obtain ⟨b, ty, arr, h1, h2, h3, h4, h5⟩ := h
    exact ⟨b, ty, arr, h1, h2, h3, h4, fun j c v hc hv => ⟨((h5 j c v hc hv).1).cellsOnly, (h5 j c v hc hv).2⟩⟩
  | prow xs => exact Rep.cellsOnly h
  | pbox x => exact Rep.cellsOnly h
  | rowk e xs k => obtain ⟨sz, cells, h1, h2, h3, h4, h5, h6, h7⟩ := h; exact ⟨sz, cells, h1, h2, h3, h4, h5.cellsOnly, h6, h7⟩
  | imap es clock => exact h
  | iter m since seen last => exact h

theorem Rel.live_isC (h : Rel P C σ a w cv) {i b : Nat} (hl : Live σ.ob cv i b) : isC w b := by
  obtain ⟨h1, h2⟩ := hl
  have ho := h.obs i
  cases hc : σ.ob i with
  | row e xs =>
    rw [hc] at ho
    obtain ⟨sz, cells, g1, g2, g3, g4, g5, g6⟩ := ho
    rcases g4.2 with ⟨e1, hn⟩ | ⟨g, cap, cur, e1, hb0, hg, _⟩
    · rw [e1] at h2; cases h2
    · rw [e1] at h2; cases h2; exact isC_lit hg
  | box ag cs =>
    rw [hc] at ho
    obtain ⟨b', ty, arr, g1, g2, _⟩ := ho
    rw [g1] at h2; cases h2; exact isC_lit g2
  | rowk e xs k =>
    rw [hc] at ho
    obtain ⟨sz, cells, g1, g2, g3, g4, g5, g6, g7⟩ := ho
    rcases g7 with ⟨e1, _⟩ | ⟨g, n, cur, e1, hg, _⟩
    · rw [e1] at h2; cases h2
    · rw [e1] at h2; cases h2; exact isC_lit hg
  | imap es clock =>
    rw [hc] at ho
    obtain ⟨b', g1, g2⟩ := ho
    rw [g1] at h2; cases h2; exact ⟨_, g2, rfl⟩
  | iter m since seen last =>
    rw [hc] at ho
    obtain ⟨b', bm, g1, g2, g3⟩ := ho
    rw [g1] at h2; cases h2; exact ⟨_, g3, rfl⟩
  | _ => rw [hc] at h1; cases h1

theorem putObj_get {w : World} {l k : Nat} {o' : Obj} (hne : k ≠ l) : (w.putObj l o').heap[k]? = w.heap[k]? := by
  simp only [World.putObj]
  rw [Array.getElem?_setIfInBounds_ne (fun e => hne e.symm)]
theorem putObj_size {w : World} {l : Nat} {o' : Obj} : (w.putObj l o').heap.size = w.heap.size := by simp [World.putObj]

/-- A block that holds no cells turns: all stands as it stood. -/
theorem Rel.turn (h : Rel P C σ a w cv) {l : Nat} {o' : Obj} (hl : C.w0.heap.size ≤ l) (hnc : ¬ isC w l) (hd : ∀ d ∈ a.defers, d.target ≠ .collected l) : Rel P C σ a (w.putObj l o') cv := by
  have hF : ∀ b, FS C σ.ob cv w b → FS C σ.ob cv (w.putObj l o') b := fun b hb => by
    rcases hb with hb | hb
    · exact .inl hb
    · exact .inr ⟨hb.1, by rw [putObj_size]; exact hb.2.1, hb.2.2⟩
  have hS : Same (fun b => FS C σ.ob cv w b ∧ isC w b) w (w.putObj l o') := fun b hb => putObj_get fun e => hnc (e ▸ hb.2)
  have hF' : ∀ b, (FS C σ.ob cv w b ∧ isC w b) → FS C σ.ob cv (w.putObj l o') b := fun b hb => hF b hb.1
  exact {
    os := h.os, tape := h.tape, output := h.output, size := by rw [putObj_size]; exact h.size
    old := fun k hk hO => by rw [putObj_get (by omega)]; exact h.old k hk hO
    f0 := h.f0, o0 := h.o0, live := fun i b hb => by rw [putObj_size]; exact h.live i b hb, inj := h.inj
    obs := fun i => (h.obs i).cellsOnly.mono hS hF' rfl (fun _ _ => rfl) (fun hlv b hb => putObj_get fun e => hnc (e ▸ h.live_isC ⟨hlv, hb⟩))
    slots := fun t => (h.slots t).cellsOnly.mono hS hF' (fun _ _ => rfl)
    ments := h.ments, mento := h.mento
    defers := ⟨h.defers.1, h.defers.2.1, fun d hdm => by
      obtain ⟨D, h1, h2, h3, h4⟩ := h.defers.2.2 d hdm
      exact ⟨D, h1, hF D h2, by rw [putObj_get fun e => hd d hdm (by rw [h1, e])]; exact h3, h4⟩⟩
    ntmps := h.ntmps, pin := h.pin }

theorem Rel.withDefers (h : Rel P C σ a w cv) {ds : List Deferred} (hd : DefOK C (FS C σ.ob cv w) w ds) : Rel P C σ { a with defers := ds } w cv :=
  { os := h.os, tape := h.tape, output := h.output, size := h.size, old := h.old, f0 := h.f0, o0 := h.o0, live := h.live, inj := h.inj, obs := h.obs, slots := h.slots, ments := h.ments, mento := h.mento, defers := hd, ntmps := h.ntmps, pin := h.pin }

/-- On the way out: the blocks of deferred calls are taken over. -/
theorem Rel.undefer (htop : C.lvl = 2) : ∀ (ds : List Deferred) (a : Act) (w : World), Rel P C σ a w cv → a.defers = ds →
    ∃ w', Rel P C σ { a with defers := [] } w' cv ∧ ∀ (fr : Frame) (cs : List Frame), fr.mode ≠ .run → fr.defers = ds → Steps P (lone fr cs w) (lone { fr with defers := [] } cs w') := by
  intro ds
  induction ds with
  | nil => intro a w h hd; exact ⟨w, h.withDefers DefOK.nil, fun fr cs _ hf => by rw [← hf]; exact .refl _ _⟩
  | cons d ds ih =>
    intro a w h hd
    have hdo := h.defers
    rw [hd] at hdo
    obtain ⟨D, h1, h2, h3, h4⟩ := hdo.2.2 d (List.mem_cons_self ..)
    have hrest : DefOK C (FS C σ.ob cv w) w ds := ⟨fun e => (by have := hdo.1 e; cases this), (List.nodup_cons.1 hdo.2.1).2, fun x hx => hdo.2.2 x (List.mem_cons_of_mem _ hx)⟩
    have hnc : ¬ isC w D := not_isC h3 rfl
    have hne : ∀ x ∈ ds, x.target ≠ .collected D := fun x hx e => by
      obtain ⟨D', g1, _⟩ := hdo.2.2 x (List.mem_cons_of_mem _ hx)
      rw [g1] at e
      have e : D' = D := by simpa using e
      exact (List.nodup_cons.1 hdo.2.1).1 (by rw [h1, ← e, ← g1]; exact hx)
    have hr := (h.withDefers hrest).turn (l := D) (o' := .deferred none) (h4 htop) hnc hne
    obtain ⟨w', k1, k2⟩ := ih _ _ hr rfl
    refine ⟨w', k1, fun fr cs hm hf => ?_⟩
    have hs := step_collected (P := P) (cs := cs) (calls := []) hm hf (by rw [h1]) (run_takeDeferred h3)
    exact .head hs (k2 { fr with defers := [] ++ ds } cs hm rfl)

theorem leave_steps {b : Frame} (hb : b.roundOf = none) {a : Act} {todo : List Item} {rt : Bool} (hl : leaves rt todo) (cs : List Frame) (w : World) :
    Steps P (lone (b.atR a todo) cs w) (lone { b.atR a todo with mode := .returning } cs w) := by
  match todo, hl with
  | [], _ => exact .one (stepR_end hb)
  | .code .ret :: k, _ => exact .one (stepR_ret hb)

/-- A CONTRACT OUT OF A WALK. -/
theorem Ct.of_V {f : FuncId} {fn : Func} {c : Code} {args : List Arg} {r : Res} (hf : P.funcs[f]? = some fn) (hb : fn.body = some c) (hN : args.length ≤ fn.ntmps)
    (h : V .pln P fn.ntmps (RetSt P fn.results.toList r) [.code c] (initSt args)) : Ct P f args r := by
  intro w F vs hF ha cs
  obtain ⟨cv, hrel⟩ := init_rel (P := P) (N := fn.ntmps) hF ha hN
  let b : Frame := { (default : Frame) with fn := f, kind := .normal, roundOf := none }
  have henter : Frame.enter P f ⟨vs⟩ .normal = b.atR { tmps := (⟨vs⟩ : Array Value) ++ Array.replicate (fn.ntmps - vs.length) undef, defers := [] } [.code c] := by
    simp [Frame.enter, Frame.atR, hf, hb, b]
  obtain ⟨σ', a1, w1, cv', todo', ⟨hR, hlv⟩, hrel1, hsteps1⟩ := V.sound (Z := fun σ todo => RetSt P fn.results.toList r σ ∧ leaves Md.pln.rt todo) (C := ⟨w, F, Given args vs, fn.ntmps, fun _ => none, 2⟩) rfl (fun _ _ => rfl) (fun _ _ h1 h2 => ⟨h1, h2⟩) h [.code c] (.code c .nil) _ w cv hrel b cs (fun _ => rfl)
  obtain ⟨w', hrel', hud⟩ := Rel.undefer rfl a1.defers a1 w1 hrel1 rfl
  have hsteps2 := (hsteps1.trans (leave_steps (b := b) rfl hlv cs w1)).trans (hud { b.atR a1 todo' with mode := .returning } cs (by simp) rfl)
  obtain ⟨a', ha'⟩ : ∃ a', a' = ({ a1 with defers := [] } : Act) := ⟨_, rfl⟩
  have hdef : a'.defers = [] := by rw [ha']
  have hsteps : Steps P (lone (b.atR { tmps := (⟨vs⟩ : Array Value) ++ Array.replicate (fn.ntmps - vs.length) undef, defers := [] } [.code c]) cs w) (lone { b.atR a' todo' with mode := .returning } cs w') := by rw [ha']; exact hsteps2
  rw [← ha'] at hrel'
  clear hsteps1 hsteps2 hud hrel1 ha'
  rw [← henter] at hsteps
  have hfs : ∀ b, FS ⟨w, F, Given args vs, fn.ntmps, fun _ => none, 2⟩ σ'.ob cv' w' b → FN w w' F args vs b := fun b hb => by
    rcases hb with hb | hb
    · exact .inl hb
    · exact .inr ⟨hb.1, hb.2.1⟩
  have fin : ∀ v, (results fn a'.tmps).run P w' = .ok v w' → ResRep P w w' F args vs r v → ∃ (e : Ending) (w' : World) (fr : Frame), (∃ v, e = .returned v ∧ Out P w F args vs w' r v) ∧
      Comes P (lone (Frame.enter P f ⟨vs⟩ .normal) cs w) (lone fr cs w') e ∧ fr.fn = f ∧ fr.leaving P w' e := fun v hv hres =>
    ⟨.returned v, w', { b.atR a' todo' with mode := .returning }, ⟨v, rfl, ⟨hrel'.os, hrel'.tape, hrel'.output, hrel'.size, hrel'.old, hres⟩⟩, hsteps, rfl, rfl, hdef, rfl, fn, hf, hv⟩
  cases r with
  | vals ps =>
    have hR : retVals P σ' fn.results.toList = some ps := hR
    obtain ⟨us, σ2, h1, h2, h3, h4⟩ := retVals_run hrel' hR
    refine fin _ (results_readR fn a'.tmps h1) ⟨us, rfl, h4.mono (fun _ _ => rfl : Same _ w' w') fun b hb => ?_⟩
    rcases hb with hb | hb
    · exact .inl hb
    · exact .inr ⟨hb.1, hb.2.1⟩
  | own e xs =>
    simp only [RetSt, RetOK] at hR
    split at hR
    · rename_i t hrs
      have h1 : (fn.results.toList.mapM (readR a'.tmps)).run P w' = .ok [a'.tmps.getD t undef] w' := by rw [hrs]; simp [List.mapM_cons, readR]
      have hs := hrel'.slots t
      split at hR
      · rename_i i hi
        rw [hi] at hs
        have hs : a'.tmps.getD t undef = cv' i := hs
        have ho := hrel'.obs i
        rw [hR] at ho
        have hlv : (σ'.ob i).live = true := by rw [hR]; rfl
        refine fin _ (results_readR fn a'.tmps h1) ⟨?_, fun b hb => ?_⟩
        · show OwnRow P w' _ (a'.tmps.getD t undef) e xs
          rw [hs]
          refine OwnRow.mono ho (fun _ _ => rfl : Same _ w' w') (fun b hb => ⟨hfs b hb, fun hb' => ?_⟩) (fun _ _ => rfl)
          exact hrel'.fs_live hb ⟨hlv, hb'⟩
        · have hb : blkOf (cv' i) = some b := by rw [← hs]; exact hb
          exact hrel'.live i b ⟨hlv, hb⟩
      · rename_i i sz l n hi
        rw [hi] at hs
        obtain ⟨ys, q, ho1, rfl, hn, rfl⟩ := hR
        have ho := hrel'.obs i
        rw [ho1] at ho
        have hlv : (σ'.ob i).live = true := by rw [ho1]; rfl
        obtain ⟨sz', cells, g1, g2, g3, g4, g5, g6, g7⟩ := ho
        generalize a'.tmps.getD t undef = uu at hs h1
        have hfl := flat_take g3 n
        rcases hs with ⟨c1, _, rfl, rfl⟩ | ⟨b, n', c, o, c1, c2, c3, rfl⟩
        · refine fin _ (results_readR fn a'.tmps h1) ⟨?_, fun b hb => by cases hb⟩
          rw [List.take_zero]
          exact ⟨sz', [], g1, g2, by simp, World.ownsRow_nil w' 0 e sz', Reps.nil _ _, by simp [flat]⟩
        · rcases g7 with ⟨c1', _⟩ | ⟨g', n'', cur, c1', hg, hm, hcs, ht⟩
          · rw [c1] at c1'; cases c1'
          · rw [c1] at c1'; cases c1'
            obtain rfl : o = 0 := by
              rcases c3 with c3 | ⟨c3, c4, c5⟩
              · simpa using c3
              · omega
            refine fin _ (results_readR fn a'.tmps h1) ⟨?_, fun b' hb' => ?_⟩
            · have hlen : (ys.take n).length = n := by rw [List.length_take]; omega
              refine ⟨sz', cells.take (n * sz'), g1, g2, fun x hx => g3 x (List.mem_of_mem_take hx), ⟨?_, .inr ⟨b, ys.length + q, cur, by rw [hlen]; rfl, Nat.zero_le _, hg, by rw [hlen]; omega, hm, hcs, ?_⟩⟩, ?_, fun c hc => ?_⟩
              · rw [hlen, List.length_take, g4]; have := Nat.mul_le_mul_right sz' hn; omega
              · rw [hlen, ← ht, List.take_take]; congr 1; have := Nat.mul_le_mul_right sz' hn; omega
              · rw [hfl]
                refine (g5.mono (fun _ _ => rfl : Same (FS ⟨w, F, Given args vs, fn.ntmps, fun _ => none, 2⟩ σ'.ob cv' w') w' w') (fun b' hb' => ⟨hfs b' hb', fun hb2 => ?_⟩)).take _
                cases hb2
                exact hrel'.fs_live hb' ⟨hlv, by rw [c1]; rfl⟩
              · rw [hfl] at hc; exact g6 c (List.mem_of_mem_take hc)
            · cases hb'
              exact hrel'.live i b ⟨hlv, by rw [c1]; rfl⟩
      · rename_i hi
        rw [hi] at hs
        have hs : a'.tmps.getD t undef = .slice none 0 0 := hs
        obtain ⟨rfl, sz, g1, g2⟩ := hR
        refine fin _ (results_readR fn a'.tmps h1) ⟨?_, fun b hb => ?_⟩
        · show OwnRow P w' _ (a'.tmps.getD t undef) e []
          rw [hs]
          exact ⟨sz, [], g1, g2, by simp, World.ownsRow_nil w' 0 e sz, Reps.nil _ _, by simp [flat]⟩
        · have hb : blkOf (a'.tmps.getD t undef) = some b := hb
          rw [hs] at hb; cases hb
      · exact hR.elim
    · exact hR.elim

/-! ### Drawn regions, in the order of the text -/
def tms : List Operand → List Nat
  | [] => []
  | .tmp t :: r => t :: tms r
  | _ :: r => tms r
def gsl (all : List Oper) : Option (Nat × Bool) → List Nat
  | some (j, _) => match gslot all j with
    | some t => [t]
    | none => []
  | none => []
/-- The slots that an operation looks at. -/
def lk (all : List Oper) (o : Oper) : List Nat := tms o.op.operands.toList ++ gsl all o.guard

theorem tms_eq (l : List Operand) : tms l = l.filterMap (fun | .tmp t => some t | _ => none) := by
  induction l with
  | nil => rfl
  | cons x r ih => cases x <;> simp [tms, ih]

theorem lk_eq (all : List Oper) (o : Oper) : lk all o = o.looksAt all.toArray := by
  unfold lk Oper.looksAt
  rw [tms_eq]
  congr 1
  unfold gsl gslot
  cases o.guard with
  | none => rfl
  | some g =>
    obtain ⟨j, w⟩ := g
    simp only [List.getElem?_toArray]
    cases all[j]? with
    | none => rfl
    | some x => simp only [Option.bind_some]; cases x.dst <;> rfl

def AV.ids : AV → List Nat
  | .ref i => [i]
  | .adr i _ => [i]
  | .ead i _ _ _ => [i]
  | .vw i _ _ _ => [i]
  | .agr _ _ i => [i]
  | _ => []
def idsL (σ : St) : List Operand → List Nat
  | [] => []
  | x :: r => (σ.ev x).ids ++ idsL σ r
/-- The objects that an operation touches. -/
def foot (σ : St) : Op → List Nat
  | .move _ | .assign _ | .pick .. | .fieldAddr .. | .extract .. | .binOp .. | .unOp .. => []
  | op => idsL σ op.operands.toList
def wsl (nid : Nat) (M : List Nat) : AV → List Nat
  | .vw .. => []
  | _ => nid :: M
def writes (σ : St) (nid : Nat) (M : List Nat) : Op → List Nat
  | .slice _ x _ _ _ => wsl nid M (σ.ev x)
  | .alloc _ | .box .. | .build .. | .buildSlice .. | .store .. | .makeSlice .. | .makeFunc .. | .makeMap .. | .mapUpdate .. => nid :: M
  | .call { callee := .builtin .append, .. } | .call { callee := .builtin .copy, .. } | .call { callee := .builtin .clear, .. } => nid :: M
  | _ => []

def Chg (τ σ' : St) (W : List Nat) : Prop := ∀ k, k ∉ W → σ'.ob k = τ.ob k
def mokL (τ : St) (i : Nat) : List Nat → Prop
  | [] => False
  | s :: S => (τ.sl s).isMent i = true ∨ mokL τ i S
def cellsM (i : Nat) : List AV → Prop
  | [] => False
  | c :: cs => c.isMent i = true ∨ cellsM i cs
def obM (i : Nat) : Ob → Prop
  | .box _ cs => cellsM i cs
  | .iter m _ _ _ => m = i
  | _ => False
def mokO (τ : St) (i : Nat) : List Nat → Prop
  | [] => False
  | k :: M => obM i (τ.ob k) ∨ mokO τ i M
def mok (τ : St) (S M : List Nat) (nid : Nat) : AV → Prop
  | .ref i | .adr i _ | .ead i _ _ _ | .vw i _ _ _ | .agr _ _ i => i = nid ∨ mokL τ i S ∨ mokO τ i M
  | _ => True
def mokC (τ : St) (S M : List Nat) (nid : Nat) : List AV → Prop
  | [] => True
  | c :: cs => mok τ S M nid c ∧ mokC τ S M nid cs
def plO (τ : St) (S M : List Nat) (nid : Nat) : Ob → Prop
  | .box _ cs => mokC τ S M nid cs
  | .iter m _ _ _ => mok τ S M nid (.ref m)
  | _ => True
def pln (τ : St) (S M : List Nat) (nid : Nat) (σ : St) : List Nat → Prop
  | [] => True
  | k :: W => plO τ S M nid (σ.ob k) ∧ pln τ S M nid σ W

theorem mokL_iff {τ : St} {i : Nat} {S : List Nat} : mokL τ i S ↔ ∃ t, t ∈ S ∧ (τ.sl t).isMent i = true := by
  induction S with
  | nil => simp [mokL]
  | cons s S ih => simp [mokL, ih]
theorem cellsM_iff {i : Nat} {cs : List AV} : cellsM i cs ↔ ∃ c ∈ cs, c.isMent i = true := by
  induction cs with
  | nil => simp [cellsM]
  | cons c cs ih => simp [cellsM, ih]
theorem obM_iff {i : Nat} {o : Ob} : obM i o ↔ o.ment i := by
  cases o <;> simp [obM, Ob.ment, cellsM_iff, isMent_iff]
theorem mokO_iff {τ : St} {i : Nat} {M : List Nat} : mokO τ i M ↔ ∃ k, k ∈ M ∧ (τ.ob k).ment i := by
  induction M with
  | nil => simp [mokO]
  | cons s S ih => simp [mokO, ih, obM_iff]
theorem mok_spec {τ : St} {S M : List Nat} {nid : Nat} {v : AV} (h : mok τ S M nid v) {i : Nat} (hi : v.isMent i = true) : i = nid ∨ τ.knows S M i := by
  have key : ∀ j, j = i → (j = nid ∨ mokL τ j S ∨ mokO τ j M) → i = nid ∨ τ.knows S M i := fun j e h => by
    subst e
    exact h.imp id fun h => h.imp mokL_iff.1 mokO_iff.1
  cases v <;> simp only [AV.isMent, beq_iff_eq, Bool.false_eq_true] at hi <;> exact key _ hi h
theorem mokC_spec {τ : St} {S M : List Nat} {nid : Nat} {cs : List AV} (h : mokC τ S M nid cs) {i : Nat} : (∃ c ∈ cs, c.ment i) → i = nid ∨ τ.knows S M i := by
  induction cs with
  | nil => rintro ⟨c, hc, _⟩; cases hc
  | cons c cs ih =>
    rintro ⟨d, hd, hi⟩
    rcases List.mem_cons.1 hd with rfl | hd
    · exact mok_spec h.1 (isMent_iff.2 hi)
    · exact ih h.2 ⟨d, hd, hi⟩
theorem pln_spec {τ σ : St} {S M : List Nat} {nid : Nat} {W : List Nat} (h : pln τ S M nid σ W) : ∀ k, k ∈ W → ∀ i, (σ.ob k).ment i → i = nid ∨ τ.knows S M i := by
  induction W with
  | nil => intro k hk; cases hk
  | cons s W ih =>
    intro k hk i hi
    rcases List.mem_cons.1 hk with rfl | hk
    · have h1 := h.1
      cases ho : σ.ob k with
      | box ag cs => rw [ho] at h1 hi; exact mokC_spec h1 hi
      | iter m s n l => rw [ho] at h1 hi; exact mok_spec (v := .ref m) h1 (isMent_iff.2 hi)
      | _ => rw [ho] at hi; exact hi.elim
    · exact ih h.2 k hk i hi

theorem put_ob {σ : St} {d : Option Nat} {v : AV} (k : Nat) : (σ.put d v).ob k = σ.ob k := by cases d <;> rfl
theorem put_slS {σ : St} {v : AV} (t : Nat) : (σ.put (some t) v).sl t = v := by simp [St.put, St.set]

theorem Within.of {τ σ' : St} {M W S : List Nat} {nid : Nat} {d : Option Nat} {v : AV} (h1 : Chg (τ.restr S M nid) σ' W) (h2 : mok τ S M nid v) (h3 : pln τ S M nid σ' W) (h4 : ∀ k, k ∈ W → k ∈ M ∨ k = nid) :
    Within τ (σ'.put d v) M W S nid d := by
  refine ⟨fun k hk => by rw [put_ob]; exact h1 k hk, fun t ht i hi => ?_, fun k hk i hi => by rw [put_ob] at hi; exact pln_spec h3 k hk i hi, h4⟩
  subst ht
  rw [put_slS] at hi
  exact mok_spec h2 hi

theorem writes_sub (σ : St) (nid : Nat) (M : List Nat) (op : Op) : ∀ k, k ∈ writes σ nid M op → k ∈ M ∨ k = nid := by
  have key : ∀ k, k ∈ nid :: M → k ∈ M ∨ k = nid := fun k hk => by
    rcases List.mem_cons.1 hk with h | h
    · exact .inr h
    · exact .inl h
  intro k hk
  unfold writes at hk
  split at hk
  · unfold wsl at hk
    split at hk
    · cases hk
    · exact key k hk
  all_goals first | exact key k hk | cases hk

/-- What is left of a drawn region, and what comes behind it. -/
def DV (md : Md) (P : Program) (n : Nat) (R : St → Prop) (all : List Oper) (b i : Nat) (rest : List Oper) (aM aW : List (List Nat)) (ck : Nat) (k : List It) (σ : St) : Prop :=
  all.drop i = rest → aM.length = i → aW.length = i → ∃ M2 W2 σ', drawB all b (aM ++ M2) (aW ++ W2) = true ∧ TRun P n all b (aM ++ M2) (aW ++ W2) i rest.length σ σ' ∧ V md P n R k { σ' with ck := ck }

section
variable {md : Md} {P : Program} {n : Nat} {R : St → Prop} {σ : St}

theorem V.drawn {id : Nat} {os : Array Oper} {k : List It} (hm : P.follows .mixedOrders = true) (h : DV md P n R os.toList σ.ck 0 os.toList [] [] (σ.ck + os.size) k σ) : V md P n R (.code (.region id os true) :: k) σ := by
  obtain ⟨M, W, σ', h1, h2, h3⟩ := h rfl rfl rfl
  exact .draw M W hm h1 h2 h3

theorem DV.nil {all : List Oper} {b i : Nat} {aM aW : List (List Nat)} {ck : Nat} {k : List It} (hB : drawB all b aM aW = true) (h : V md P n R k { σ with ck := ck }) : DV md P n R all b i [] aM aW ck k σ :=
  fun _ _ _ => ⟨[], [], σ, by simpa using hB, rfl, h⟩

theorem DV.op {all : List Oper} {b i : Nat} {o : Oper} {rest : List Oper} {aM aW : List (List Nat)} {ck : Nat} {k : List It} (M W : List Nat) {σ' : St} (he : Ev P n all (b + i) o (σ.restr (lk all o) M (b + i)) σ')
    (hw : Within σ σ' M W (lk all o) (b + i) o.dst) (h : DV md P n R all b (i + 1) rest (aM ++ [M]) (aW ++ [W]) ck k (σ.patch σ' W o.dst)) : DV md P n R all b i (o :: rest) aM aW ck k σ := by
  intro hd hM hW
  obtain ⟨ho, hd'⟩ := drop_head hd.symm
  obtain ⟨M2, W2, σ2, h1, h2, h3⟩ := h hd'.symm (by simp [hM]) (by simp [hW])
  refine ⟨M :: M2, W :: W2, σ2, by simpa using h1, ⟨_, ⟨o, ho, σ', ?_, ?_, rfl⟩, ?_⟩, h3⟩
  · rw [← lk_eq]
    have : at_ (aM ++ M :: M2) i = M := by simp [at_, ← hM]
    rw [this]; exact he
  · rw [← lk_eq]
    have e1 : at_ (aM ++ M :: M2) i = M := by simp [at_, ← hM]
    have e2 : at_ (aW ++ W :: W2) i = W := by simp [at_, ← hW]
    rw [e1, e2]; exact hw
  · have e2 : at_ (aW ++ W :: W2) i = W := by simp [at_, ← hW]
    rw [e2]
    simpa using h2

theorem runs_restr {all : List Oper} {o : Oper} {M : List Nat} {nid : Nat} : runs (σ.restr (lk all o) M nid) all o = runs σ all o := by
  unfold runs
  cases hg : o.guard with
  | none => rfl
  | some g =>
    obtain ⟨j, w⟩ := g
    simp only
    unfold gres
    cases ht : gslot all j with
    | none => rfl
    | some t =>
      have : (σ.restr (lk all o) M nid).sl t = σ.sl t := by
        show (if (lk all o).contains t = true then σ.sl t else .any) = _
        rw [if_pos]
        simp [lk, gsl, hg, ht]
      simp only [this]

theorem patch_pass {d : Option Nat} {S M : List Nat} {nid : Nat} {v : AV} : σ.patch ((σ.restr S M nid).put d v) [] d = σ.put d v := by
  refine St.eq_of (fun t => ?_) (fun k => ?_) ?_
  · rw [patch_sl]
    cases d with
    | none => rfl
    | some t' =>
      by_cases h : t' = t
      · subst h; simp [St.put, St.set]
      · rw [if_neg (by simpa using h)]; simp [St.put, St.set, Ne.symm h]
  · rw [patch_ob]; cases d <;> simp [St.put, St.set]
  · cases d <;> rfl

theorem patch_put {d : Option Nat} {τ : St} {v : AV} (hτ : True) : σ.patch (τ.put d v) [] d = σ.put d v := by
  refine St.eq_of (fun t => ?_) (fun k => ?_) ?_
  · rw [patch_sl]
    cases d with
    | none => rfl
    | some t' =>
      by_cases h : t' = t
      · subst h; simp [St.put, St.set]
      · rw [if_neg (by simpa using h)]; simp [St.put, St.set, Ne.symm h]
  · rw [patch_ob]; cases d <;> simp [St.put, St.set]
  · cases d <;> rfl
end

/-! ### The steps, reckoned -/
inductive Ctl where
  | its (k : List It)
  | gd (g : Option Bool) (all : List Oper) (b i : Nat) (o : Oper) (rest : List Oper) (k : List It)
  | res (e : Option (St × AV)) (dst : Option Nat) (all : List Oper) (b i : Nat) (rest : List Oper) (k : List It)
  | br (v : AV) (x y : Code) (k : List It)
  | dr (all : List Oper) (b i : Nat) (rest : List Oper) (aM aW : List (List Nat)) (ck : Nat) (k : List It)
  | dgd (g : Option Bool) (all : List Oper) (b i : Nat) (o : Oper) (rest : List Oper) (aM aW : List (List Nat)) (ck : Nat) (k : List It)
  | dres (e : Option (St × AV)) (M W S : List Nat) (dst : Option Nat) (all : List Oper) (b i : Nat) (rest : List Oper) (aM aW : List (List Nat)) (ck : Nat) (k : List It)

def isCall : Op → Bool
  | .call { callee := .value _, .. } => true
  | .binOp _ _ _ (.const (.slice none _ _)) _ => true
  | _ => false

noncomputable def exec (md : Md) (P : Program) (n : Nat) (R : St → Prop) (sp : List Nat) : Nat → Ctl → St → Prop
  | 0, .its k, σ => V md P n R k σ
  | 0, _, _ => False
  | m + 1, .its [], σ => R σ
  | m + 1, .its (.code .ret :: k), σ => md.rt = true ∧ R σ
  | m + 1, .its (.code (.seq x y) :: k), σ => exec md P n R sp m (.its (.code x :: .code y :: k)) σ
  | m + 1, .its (.code .skip :: k), σ => exec md P n R sp m (.its k) σ
  | m + 1, .its (.code (.cond c x y) :: k), σ => exec md P n R sp m (.br (σ.ev c) x y k) σ
  | m + 1, .its (.code (.block id c) :: k), σ => exec md P n R sp m (.its (.code c :: .blk id :: k)) σ
  | m + 1, .its (.code (.exit id) :: k), σ => match exitIt id k with
    | some k' => exec md P n R sp m (.its k') σ
    | none => False
  | m + 1, .its (.code (.region id os false) :: k), σ => if id ∈ sp then V md P n R (.code (.region id os false) :: k) σ else exec md P n R sp m (.its (.ops os.toList σ.ck 0 os.toList :: k)) { σ with ck := σ.ck + os.size }
  | m + 1, .its (.code (.region id os true) :: k), σ => if id ∈ sp then V md P n R (.code (.region id os true) :: k) σ else P.follows .mixedOrders = true ∧ exec md P n R sp m (.dr os.toList σ.ck 0 os.toList [] [] (σ.ck + os.size) k) σ
  | m + 1, .its (.code c :: k), σ => V md P n R (.code c :: k) σ
  | m + 1, .its (.blk id :: k), σ => exec md P n R sp m (.its k) σ
  | m + 1, .its (.again J :: k), σ => J σ
  | m + 1, .its (.stop J :: k), σ => J σ
  | m + 1, .its (.ops all b i [] :: k), σ => exec md P n R sp m (.its k) σ
  | m + 1, .its (.ops all b i (o :: rest) :: k), σ => exec md P n R sp m (.gd (runs σ all o) all b i o rest k) σ
  | m + 1, .gd (some true) all b i o rest k, σ => if isCall o.op = true then V md P n R (.ops all b i (o :: rest) :: k) σ else exec md P n R sp m (.res (stepOp P σ (b + i) o.op) o.dst all b (i + 1) rest k) σ
  | m + 1, .gd (some false) all b i o rest k, σ => dOK n o.dst ∧ exec md P n R sp m (.its (.ops all b (i + 1) rest :: k)) (σ.put o.dst (.tup []))
  | m + 1, .gd none .., σ => False
  | m + 1, .res (some (σ', v)) dst all b i rest k, σ => dOK n dst ∧ exec md P n R sp m (.its (.ops all b i rest :: k)) (σ'.put dst v)
  | m + 1, .res none .., σ => False
  | m + 1, .br (.val (.bool v)) x y k, σ => (v = true → exec md P n R sp m (.its (.code x :: k)) σ) ∧ (v = false → exec md P n R sp m (.its (.code y :: k)) σ)
  | m + 1, .br _ .., σ => False
  | m + 1, .dr all b i [] aM aW ck k, σ => drawB all b aM aW = true ∧ exec md P n R sp m (.its k) { σ with ck := ck }
  | m + 1, .dr all b i (o :: rest) aM aW ck k, σ => exec md P n R sp m (.dgd (runs σ all o) all b i o rest aM aW ck k) σ
  | m + 1, .dgd (some true) all b i o rest aM aW ck k, σ => if isCall o.op = true then DV md P n R all b i (o :: rest) aM aW ck k σ else
      exec md P n R sp m (.dres (stepOp P (σ.restr (lk all o) (foot σ o.op) (b + i)) (b + i) o.op) (foot σ o.op) (writes σ (b + i) (foot σ o.op) o.op) (lk all o) o.dst all b i rest aM aW ck k) σ
  | m + 1, .dgd (some false) all b i o rest aM aW ck k, σ => dOK n o.dst ∧ exec md P n R sp m (.dr all b (i + 1) rest (aM ++ [[]]) (aW ++ [[]]) ck k) (σ.put o.dst (.tup []))
  | m + 1, .dgd none .., σ => False
  | m + 1, .dres (some (σ', v)) M W S dst all b i rest aM aW ck k, σ => dOK n dst ∧ Chg (σ.restr S M (b + i)) σ' W ∧ mok σ S M (b + i) v ∧ pln σ S M (b + i) σ' W ∧
      exec md P n R sp m (.dr all b (i + 1) rest (aM ++ [M]) (aW ++ [W]) ck k) (σ.patch (σ'.put dst v) W dst)
  | m + 1, .dres none .., σ => False

/-- What a place of the reckoning means. -/
def Mean (md : Md) (P : Program) (n : Nat) (R : St → Prop) : Ctl → St → Prop
  | .its k, σ => V md P n R k σ
  | .gd g all b i o rest k, σ => g = runs σ all o → V md P n R (.ops all b i (o :: rest) :: k) σ
  | .res e dst all b i rest k, σ => ∀ o i', i = i' + 1 → dst = o.dst → runs σ all o = some true → e = stepOp P σ (b + i') o.op → V md P n R (.ops all b i' (o :: rest) :: k) σ
  | .br v x y k, σ => ∀ c, σ.ev c = v → V md P n R (.code (.cond c x y) :: k) σ
  | .dr all b i rest aM aW ck k, σ => DV md P n R all b i rest aM aW ck k σ
  | .dgd g all b i o rest aM aW ck k, σ => g = runs σ all o → DV md P n R all b i (o :: rest) aM aW ck k σ
  | .dres e M W S dst all b i rest aM aW ck k, σ => ∀ o, dst = o.dst → S = lk all o → runs σ all o = some true → W = writes σ (b + i) M o.op → e = stepOp P (σ.restr S M (b + i)) (b + i) o.op → DV md P n R all b i (o :: rest) aM aW ck k σ

theorem exec_mean {md : Md} {n : Nat} {sp : List Nat} : ∀ (m : Nat) (c : Ctl) (σ : St), exec md P n R sp m c σ → Mean md P n R c σ := by
  intro m
  induction m with
  | zero => intro c σ h; cases c <;> first | exact h | exact h.elim
  | succ m ih =>
    intro c σ h
    cases c with
    | its k =>
      cases k with
      | nil => exact .done h
      | cons x k =>
        cases x with
        | code c =>
          cases c with
          | ret => exact .ret h.2 h.1
          | seq x y => exact .seq (ih _ _ h)
          | skip => exact .skip (ih _ _ h)
          | cond c x y => exact ih _ _ h c rfl
          | block id c => exact .block (ih _ _ h)
          | exit id =>
            simp only [exec] at h
            split at h
            · rename_i k' hk; exact .exit hk (ih _ _ h)
            · exact h.elim
          | region id os draw =>
            cases draw
            · simp only [exec] at h
              split at h
              · exact h
              · exact .region (ih _ _ h)
            · simp only [exec] at h
              split at h
              · exact h
              · exact V.drawn h.1 (ih _ _ h.2)
          | _ => exact h
        | ops all b i rest =>
          cases rest with
          | nil => exact .nil (ih _ _ h)
          | cons o rest => exact ih _ _ h rfl
        | blk id => exact .blk (ih _ _ h)
        | again J => exact .again h
        | stop J => exact .stop h
    | gd g all b i o rest k =>
      intro hg
      match g, h with
      | some true, h =>
        simp only [exec] at h
        split at h
        · exact h
        · exact ih _ _ h o i rfl rfl hg.symm rfl
      | some false, h => exact .pass hg.symm h.1 (ih _ _ h.2)
      | none, h => exact h.elim
    | res e dst all b i rest k =>
      intro o i' hi hd hr he
      subst hi hd
      match e, h with
      | some (σ', v), h => exact .run hr he.symm h.1 (ih _ _ h.2)
      | none, h => exact h.elim
    | br v x y k =>
      intro c hc
      match v, h with
      | .val (.bool b), h => exact .cond hc (fun e => ih _ _ (h.1 e)) (fun e => ih _ _ (h.2 e))
      | .val (.int ..), h => exact h.elim
      | .val (.str _), h => exact h.elim
      | .val (.agg _), h => exact h.elim
      | .val (.row _), h => exact h.elim
      | .val (.ptr _), h => exact h.elim
      | .val .nilp, h => exact h.elim
      | .val (.yld _), h => exact h.elim
      | .val (.raw _), h => exact h.elim
      | .val (.fn ..), h => exact h.elim
      | .any, h => exact h.elim
      | .nils, h => exact h.elim
      | .ref _, h => exact h.elim
      | .adr .., h => exact h.elim
      | .ead .., h => exact h.elim
      | .tup _, h => exact h.elim
      | .agr .., h => exact h.elim
    | dr all b i rest aM aW ck k =>
      cases rest with
      | nil => exact DV.nil h.1 (ih _ _ h.2)
      | cons o rest => exact ih _ _ h rfl
    | dgd g all b i o rest aM aW ck k =>
      intro hg
      match g, h with
      | some true, h =>
        simp only [exec] at h
        split at h
        · exact h
        · exact ih _ _ h o rfl rfl hg.symm rfl rfl
      | some false, h =>
        refine DV.op [] [] (.pass (by rw [runs_restr]; exact hg.symm) h.1) (Within.of (fun _ _ => rfl) trivial trivial (by simp)) ?_
        rw [patch_pass]
        exact ih _ _ h.2
      | none, h => exact h.elim
    | dres e M W S dst all b i rest aM aW ck k =>
      intro o hd hS hr hW he
      subst hd hS hW
      match e, h with
      | some (σ', v), h =>
        obtain ⟨h1, h2, h3, h4, h5⟩ := h
        exact DV.op M _ (.run (by rw [runs_restr]; exact hr) he.symm h1) (Within.of h2 h3 h4 (writes_sub _ _ _ _)) (ih _ _ h5)
      | none, h => exact h.elim

theorem V.execS {md : Md} {n : Nat} {k : List It} (sp : List Nat) (m : Nat) (h : exec md P n R sp m (.its k) σ) : V md P n R k σ := exec_mean m _ _ h
theorem V.exec {md : Md} {n : Nat} {k : List It} (m : Nat) (h : exec md P n R [] m (.its k) σ) : V md P n R k σ := exec_mean m _ _ h
theorem DV.exec {md : Md} {n : Nat} {all : List Oper} {b i : Nat} {rest : List Oper} {aM aW : List (List Nat)} {ck : Nat} {k : List It} (m : Nat) (h : exec md P n R [] m (.dr all b i rest aM aW ck k) σ) : DV md P n R all b i rest aM aW ck k σ := exec_mean m _ _ h

end
end Go.Proofs.YtjbfcmaiejlnbaaVm
