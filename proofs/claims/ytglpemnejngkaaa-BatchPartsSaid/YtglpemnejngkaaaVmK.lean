/- The code, walked on symbolic states; and that the machine follows. -/
import Derived.Test.YtglpemnejngkaaaVmQ
set_option linter.unusedVariables false
set_option linter.unusedSimpArgs false
namespace Go.Proofs.YtglpemnejngkaaaVm
open Go Classical

/-- What is still to be done. -/
inductive It where
  | code (c : Code)
  | ops (all : List Oper) (b i : Nat) (rest : List Oper)
  | blk (id : Nat)
  | again (J : St → Prop)

def exitIt (id : Nat) : List It → Option (List It)
  | .blk j :: k => if j = id then some k else exitIt id k
  | _ :: k => exitIt id k
  | [] => none

def Ob.plain : Ob → Bool
  | .row .. => true
  | .box _ cs => cs.all fun c => match c with | .val _ => true | .nils => true | _ => false
  | _ => false

/-- A state written out. -/
def litSt (ls : List (Nat × AV)) (os : List Ob) (ck : Nat) : St where
  sl := fun t => match ls.find? (fun x => x.1 == t) with
    | some x => x.2
    | none => .any
  ob := fun i => match os[i]? with
    | some o => o
    | none => .free
  ck := ck

def mOb (P : Program) (σ : St) : Option Nat → Ob → Prop
  | some r, o => σ.ob r = o ∧ o.plain = true
  | none, .row e [] => ∃ sz, szOf P e = some sz ∧ 0 < sz
  | none, _ => False

def mObs (P : Program) (σ : St) : List (Option Nat) → List Ob → Prop
  | r :: ρ, o :: os => mOb P σ r o ∧ mObs P σ ρ os
  | [], [] => True
  | _, _ => False

def mAV (σ : St) (ρ : List (Option Nat)) (u : AV) : AV → Prop
  | .any => True
  | .val p => u = .val p ∨ (u = .nils ∧ p = .row []) ∨ ∃ i, u = .ref i ∧ p = .row [] ∧ False
  | .nils => u = .nils
  | .ref k => match ρ[k]? with
    | some (some r) => u = .ref r
    | some none => u = .nils
    | none => False
  | .adr k o => match ρ[k]? with
    | some (some r) => u = .adr r o
    | _ => False
  | .ead .. => False
  | .tup ps => u = .tup ps
  | .vw .. => False

def mSl (σ : St) (ρ : List (Option Nat)) : List (Nat × AV) → Prop
  | [] => True
  | (t, v) :: ls => mAV σ ρ (σ.sl t) v ∧ mSl σ ρ ls

def distinct : List (Option Nat) → Prop
  | [] => True
  | none :: ρ => distinct ρ
  | some r :: ρ => (∀ x ∈ ρ, x ≠ some r) ∧ distinct ρ

/-- A state reads as one that is written out, its objects by other names. -/
def Match (P : Program) (σ : St) (ρ : List (Option Nat)) (ls : List (Nat × AV)) (os : List Ob) : Prop :=
  mSl σ ρ ls ∧ mObs P σ ρ os ∧ distinct ρ

def opnA (id sz n : Nat) : AV → AV
  | .ref j => if j = id then .vw id sz 0 n else .ref j
  | v => v
/-- A row of the call's own, its capacity laid open. -/
def St.opn (σ : St) (id sz n : Nat) (e : TypeId) (xs : List PV) (q : Nat) : St where
  sl := fun t => opnA id sz n (σ.sl t)
  ob := fun j => if j = id then .rowk e xs q else σ.ob j
  ck := σ.ck

inductive V (P : Program) (n : Nat) (R : St → Prop) : List It → St → Prop
  | done {σ} (h : R σ) : V P n R [] σ
  | ret {k σ} (h : R σ) : V P n R (.code .ret :: k) σ
  | skip {k σ} (h : V P n R k σ) : V P n R (.code .skip :: k) σ
  | seq {k σ a b} (h : V P n R (.code a :: .code b :: k) σ) : V P n R (.code (.seq a b) :: k) σ
  | cond {k σ c x y v} (hc : σ.ev c = .val (.bool v)) (ht : v = true → V P n R (.code x :: k) σ) (hf : v = false → V P n R (.code y :: k) σ) : V P n R (.code (.cond c x y) :: k) σ
  | block {k σ id c} (h : V P n R (.code c :: .blk id :: k) σ) : V P n R (.code (.block id c) :: k) σ
  | blk {k σ id} (h : V P n R k σ) : V P n R (.blk id :: k) σ
  | exit {k k' σ id} (he : exitIt id k = some k') (h : V P n R k' σ) : V P n R (.code (.exit id) :: k) σ
  | region {k σ id os} (h : V P n R (.ops os.toList σ.ck 0 os.toList :: k) { σ with ck := σ.ck + os.size }) : V P n R (.code (.region id os false) :: k) σ
  | draw {k σ σ' id os} (M W : List (List Nat)) (hm : P.follows .mixedOrders = true) (hB : drawB os.toList σ.ck M W = true) (ht : TRun P n os.toList σ.ck M W 0 os.toList.length σ σ') (h : V P n R k { σ' with ck := σ.ck + os.size }) : V P n R (.code (.region id os true) :: k) σ
  | nil {k σ all b i} (h : V P n R k σ) : V P n R (.ops all b i [] :: k) σ
  | run {k σ σ' v all b i o rest} (hg : runs σ all o = some true) (hs : stepOp P σ (b + i) o.op = some (σ', v)) (hd : dOK n o.dst) (h : V P n R (.ops all b (i + 1) rest :: k) (σ'.put o.dst v)) : V P n R (.ops all b i (o :: rest) :: k) σ
  | pass {k σ all b i o rest} (hg : runs σ all o = some false) (hd : dOK n o.dst) (h : V P n R (.ops all b (i + 1) rest :: k) (σ.put o.dst (.tup []))) : V P n R (.ops all b i (o :: rest) :: k) σ
  | call {k σ σ' v all b i o rest fx xs ts} (hg : runs σ all o = some true) (ho : o.op = .call { callee := .value fx, args := xs, argTypes := ts }) (hd : dOK n o.dst)
      (hc : CallStep P σ (b + i) (σ.ev fx) (σ.evs xs.toList) σ' v) (h : V P n R (.ops all b (i + 1) rest :: k) (σ'.put o.dst v)) : V P n R (.ops all b i (o :: rest) :: k) σ
  | nilq {k σ all b i o rest op t x u e xs} (hg : runs σ all o = some true) (ho : o.op = .binOp op t x (.const (.slice none 0 0)) u) (hop : op = .eql ∨ op = .neq) (hx : σ.pv (σ.ev x) = some (.row xs))
      (hu : P.underlying t = some (.slice e)) (hd : dOK n o.dst) (h : ∀ c : Prop, (c → xs = []) → V P n R (.ops all b (i + 1) rest :: k) (σ.put o.dst (.val (.bool (if op = .eql then decide c else !decide c))))) : V P n R (.ops all b i (o :: rest) :: k) σ
  | ovl {k σ all b i o rest fx x y ts f fn tS tR e zs id sz l len xs q} (hg : runs σ all o = some true) (ho : o.op = .call { callee := .value fx, args := #[x, y], argTypes := ts }) (hd : dOK n o.dst)
      (hfx : σ.ev fx = .val (.fn f [])) (hf : P.funcs[f]? = some fn) (hn : (fn.name == "runtime.NumGoroutine") = false) (hb : fn.body.isNone = true) (hfn : Extern.findNext fn = none)
      (hfe : Extern.find fn = some (Extern.SlicesOverlaps.overlaps #[tS, tS] #[tR])) (hu : P.underlying tS = some (.slice e)) (hsz : szOf P e = some sz) (hx : σ.ev x = .val (.rowp zs)) (hy : σ.ev y = .vw id sz l len) (ho2 : σ.ob id = .rowk e xs q) (hq : 0 < xs.length + q)
      (h : V P n R (.ops all b (i + 1) rest :: k) (σ.put o.dst (.val (.bool false)))) : V P n R (.ops all b i (o :: rest) :: k) σ
  | opn {k σ} (id sz : Nat) (e : TypeId) (xs : List PV) (ho : σ.ob id = .row e xs) (hsz : szOf P e = some sz) (h : ∀ q, V P n R k (σ.opn id sz xs.length e xs q)) : V P n R k σ
  | again {k σ J} (h : J σ) : V P n R (.again J :: k) σ
  | loop {k σ c} (I : Nat → List (Nat × AV) → List Ob → Prop) (ck m : Nat) (ls : List (Nat × AV)) (os : List Ob) (ρ : List (Option Nat)) (h0 : I m ls os) (hm : Match P σ ρ ls os)
      (hr : ∀ m ls os, I m ls os → V P n R (.code c :: .again (fun σ' => ∃ m' ls' os' ρ', m' < m ∧ I m' ls' os' ∧ Match P σ' ρ' ls' os') :: k) (litSt ls os ck)) : V P n R (.code (.loop c) :: k) σ
  | cut {k σ} (ck : Nat) (ls : List (Nat × AV)) (os : List Ob) (ρ : List (Option Nat)) (hm : Match P σ ρ ls os) (h : V P n R k (litSt ls os ck)) : V P n R k σ

section
variable {P : Program} {C : Ctx} {σ : St} {a : Act} {w : World} {cv : Nat → Value}

theorem mObs_get {ρ : List (Option Nat)} {os : List Ob} : mObs P σ ρ os → ∀ (k : Nat) (o : Ob), os[k]? = some o → ∃ r, ρ[k]? = some r ∧ mOb P σ r o := by
  intro h
  induction os generalizing ρ with
  | nil => intro k o hk; simp at hk
  | cons x os ih =>
    cases ρ with
    | nil => exact h.elim
    | cons r ρ =>
      intro k o hk
      cases k with
      | zero => simp at hk; subst hk; exact ⟨r, rfl, h.1⟩
      | succ k => exact ih h.2 k o (by simpa using hk)

theorem mObs_len {ρ : List (Option Nat)} {os : List Ob} (h : mObs P σ ρ os) : ρ.length = os.length := by
  induction os generalizing ρ with
  | nil => cases ρ with
    | nil => rfl
    | cons r ρ => exact h.elim
  | cons x os ih => cases ρ with
    | nil => exact h.elim
    | cons r ρ => simp [ih h.2]

theorem distinct_inj {ρ : List (Option Nat)} (h : distinct ρ) : ∀ (i j r : Nat), ρ[i]? = some (some r) → ρ[j]? = some (some r) → i = j := by
  induction ρ with
  | nil => intro i j r hi; simp at hi
  | cons x ρ ih =>
    intro i j r hi hj
    cases x with
    | none =>
      cases i with
      | zero => simp at hi
      | succ i => cases j with
        | zero => simp at hj
        | succ j => rw [ih h i j r (by simpa using hi) (by simpa using hj)]
    | some y =>
      obtain ⟨h1, h2⟩ := h
      cases i with
      | zero => cases j with
        | zero => rfl
        | succ j => simp at hi hj; subst hi; exact absurd rfl (h1 _ (List.mem_of_getElem? hj))
      | succ i => cases j with
        | zero => simp at hi hj; subst hj; exact absurd rfl (h1 _ (List.mem_of_getElem? hi))
        | succ j => rw [ih h2 i j r (by simpa using hi) (by simpa using hj)]

theorem mSl_get {ρ : List (Option Nat)} {ls : List (Nat × AV)} (h : mSl σ ρ ls) : ∀ x ∈ ls, mAV σ ρ (σ.sl x.1) x.2 := by
  induction ls with
  | nil => intro x hx; simp at hx
  | cons y ls ih =>
    intro x hx
    obtain ⟨t, v⟩ := y
    rcases List.mem_cons.1 hx with rfl | hx
    · exact h.1
    · exact ih h.2 x hx

theorem plain_ment {o : Ob} (h : o.plain = true) (j : Nat) : ¬ o.ment j := by
  cases o with
  | box ag cs =>
    rintro ⟨c, hc, hj⟩
    have := List.all_eq_true.1 h c hc
    cases c <;> simp_all [AV.ment]
  | _ => exact fun h => h

/-- A state that is forgotten in part, its objects named anew. -/
theorem Rel.rename (h : Rel P C σ a w cv) {ρ : List (Option Nat)} {ls : List (Nat × AV)} {os : List Ob} (hm : Match P σ ρ ls os) (ck : Nat) (hpin : ∀ i, C.pin i = none) : ∃ cv', Rel P C (litSt ls os ck) a w cv' := by
  obtain ⟨hsl, hob, hd⟩ := hm
  have hlen := mObs_len hob
  let cv' : Nat → Value := fun k => match ρ[k]? with
    | some (some r) => cv r
    | _ => .slice none 0 0
  have hcv : ∀ k r, ρ[k]? = some (some r) → cv' k = cv r := fun k r hk => by simp [cv', hk]
  have hcvn : ∀ k, ρ[k]? = some none → cv' k = .slice none 0 0 := fun k hk => by simp [cv', hk]
  have hlitob : ∀ k, (litSt ls os ck).ob k = match os[k]? with | some o => o | none => .free := fun _ => rfl
  have hobk : ∀ k o, os[k]? = some o → (litSt ls os ck).ob k = o := fun k o hk => by rw [hlitob, hk]
  have hlive : ∀ k b, Live (litSt ls os ck).ob cv' k b → ∃ r, ρ[k]? = some (some r) ∧ Live σ.ob cv r b := by
    intro k b ⟨h1, h2⟩
    rw [hlitob] at h1
    cases ho : os[k]? with
    | none => rw [ho] at h1; cases h1
    | some o =>
      rw [ho] at h1
      obtain ⟨r, hr, hmo⟩ := mObs_get hob k o ho
      cases r with
      | none => rw [hcvn k hr] at h2; cases h2
      | some r => rw [hcv k r hr] at h2; exact ⟨r, hr, by rw [hmo.1]; exact h1, h2⟩
  have hF : ∀ b, FS C σ.ob cv w b → FS C (litSt ls os ck).ob cv' w b := by
    intro b hb
    rcases hb with hb | hb
    · exact .inl hb
    · refine .inr ⟨hb.1, hb.2.1, fun k hk => ?_⟩
      obtain ⟨r, _, hl⟩ := hlive k b hk
      exact hb.2.2 r hl
  have hS : Same (FS C σ.ob cv w) w w := fun _ _ => rfl
  have hmk : ∀ k, (∃ r, ρ[k]? = some r) → (litSt ls os ck).ob k ≠ .free := by
    intro k ⟨r, hr⟩ hf
    have hk : k < os.length := by rw [← hlen]; exact (List.getElem?_eq_some_iff.1 hr).1
    rw [hobk k os[k] (List.getElem?_eq_getElem hk)] at hf
    obtain ⟨r', hr', hmo⟩ := mObs_get hob k os[k] (List.getElem?_eq_getElem hk)
    cases r' with
    | none => rw [hf] at hmo; exact hmo
    | some r' => rw [hf] at hmo; exact absurd hmo.2 (by simp [Ob.plain])
  refine ⟨cv', { os := h.os, tape := h.tape, output := h.output, size := h.size, old := h.old, f0 := h.f0, o0 := h.o0, live := ?_, inj := ?_, obs := ?_, slots := ?_, ments := ?_, mento := ?_, defers := h.defers, ntmps := h.ntmps, pin := fun i v hv => by rw [hpin i] at hv; cases hv }⟩
  · intro k b hk
    obtain ⟨r, _, hl⟩ := hlive k b hk
    exact h.live r b hl
  · intro k j b hk hj
    obtain ⟨r, hr, hl⟩ := hlive k b hk
    obtain ⟨r', hr', hl'⟩ := hlive j b hj
    have := h.inj r r' b hl hl'
    subst this
    exact distinct_inj hd k j r hr hr'
  · intro k
    rw [hlitob]
    cases ho : os[k]? with
    | none => trivial
    | some o =>
      obtain ⟨r, hr, hmo⟩ := mObs_get hob k o ho
      cases r with
      | none =>
        cases o with
        | row e xs =>
          cases xs with
          | nil =>
            obtain ⟨sz, h1, h2⟩ := hmo
            show OwnRow P w _ (cv' k) e []
            rw [hcvn k hr]
            exact ⟨sz, [], h1, h2, by simp, World.ownsRow_nil w 0 e sz, Reps.nil _ _, by simp [flat]⟩
          | cons x xs => exact hmo.elim
        | _ => exact hmo.elim
      | some r =>
        have ho' := h.obs r
        rw [hmo.1] at ho'
        have z := ho'.mono (cv' := cv) hS hF rfl (fun _ _ => rfl) (fun _ _ _ => rfl)
        have key : ∀ (F : Nat → Prop) (c1 c2 : Nat → Value) (i1 i2 : Nat) , c1 i1 = c2 i2 → ObRep P w F c1 i1 o → (o.plain = true) → ObRep P w F c2 i2 o := by
          intro F c1 c2 i1 i2 he hr hp
          cases o with
          | row e xs => show OwnRow P w F (c2 i2) e xs; rw [← he]; exact hr
          | box ag cs =>
            obtain ⟨b, ty, arr, g1, g2, g3, g4, g5⟩ := hr
            refine ⟨b, ty, arr, he.symm.trans g1, g2, g3, g4, fun j c v hc hv => ⟨((g5 j c v hc hv).1).mono (fun _ _ => rfl : Same F w w) (fun _ hb => hb) fun i hi => absurd ⟨c, List.mem_of_getElem? hc, hi⟩ (plain_ment hp i), (g5 j c v hc hv).2⟩⟩
          | _ => simp [Ob.plain] at hp
        exact key _ _ _ r k (hcv k r hr).symm z hmo.2
  · intro t
    show SRep w _ cv' (match ls.find? (fun x => x.1 == t) with | some x => x.2 | none => .any) _
    cases hf : ls.find? (fun x => x.1 == t) with
    | none => trivial
    | some x =>
      have hx := List.mem_of_find?_eq_some hf
      have ht : x.1 = t := by have := List.find?_some hf; simpa using this
      have hma := mSl_get hsl x hx
      rw [ht] at hma
      have hs := h.slots t
      show SRep w _ cv' x.2 _
      cases hv : x.2 with
      | any => trivial
      | val p =>
        rw [hv] at hma
        rcases hma with hma | ⟨hma, hp⟩ | ⟨i, _, _, hf⟩
        · rw [hma] at hs; exact Rep.mono hs hS hF
        · rw [hma] at hs
          subst hp
          have e : a.tmps.getD t undef = .slice none 0 0 := hs
          rw [e]; exact .rowNil
        · exact hf.elim
      | nils => rw [hv] at hma; rw [show σ.sl t = .nils from hma] at hs; exact hs
      | ref k =>
        rw [hv] at hma
        simp only [mAV] at hma
        split at hma
        · rename_i r hr
          rw [hma] at hs
          have e : a.tmps.getD t undef = cv r := hs
          show _ = cv' k
          rw [hcv k r hr]; exact e
        · rename_i hr
          rw [hma] at hs
          have e : a.tmps.getD t undef = .slice none 0 0 := hs
          show _ = cv' k
          rw [hcvn k hr]; exact e
        · exact hma.elim
      | adr k o =>
        rw [hv] at hma
        simp only [mAV] at hma
        split at hma
        · rename_i r hr
          rw [hma] at hs
          obtain ⟨b, h1, h2⟩ := hs
          exact ⟨b, by rw [hcv k r hr]; exact h1, h2⟩
        · exact hma.elim
      | ead i sz k o => rw [hv] at hma; exact hma.elim
      | vw i sz lo len => rw [hv] at hma; exact hma.elim
      | tup ps =>
        rw [hv] at hma
        rw [show σ.sl t = .tup ps from hma] at hs
        obtain ⟨vs, h1, h2⟩ := hs
        exact ⟨vs, h1, h2.mono hS hF⟩
  · intro t k hk
    have hk' : (match ls.find? (fun (x : Nat × AV) => x.1 == t) with | some x => x.2 | none => AV.any).ment k := hk
    cases hf : ls.find? (fun x => x.1 == t) with
    | none => rw [hf] at hk'; exact hk'.elim
    | some x =>
      rw [hf] at hk'
      have hx := List.mem_of_find?_eq_some hf
      have hma := mSl_get hsl x hx
      have hk'' : x.2.ment k := hk'
      cases hv : x.2 with
      | ref i =>
        rw [hv] at hma hk''
        have e : i = k := hk''
        subst e
        simp only [mAV] at hma
        split at hma
        · rename_i r hr; exact hmk i ⟨_, hr⟩
        · rename_i hr; exact hmk i ⟨_, hr⟩
        · exact hma.elim
      | adr i o =>
        rw [hv] at hma hk''
        have e : i = k := hk''
        subst e
        simp only [mAV] at hma
        split at hma
        · rename_i r hr; exact hmk i ⟨_, hr⟩
        · exact hma.elim
      | ead i sz j o => rw [hv] at hma; exact hma.elim
      | vw i sz lo len => rw [hv] at hma; exact hma.elim
      | _ => rw [hv] at hk''; exact hk''.elim
  · intro j k hk
    rw [hlitob] at hk
    cases ho : os[j]? with
    | none => rw [ho] at hk; exact hk.elim
    | some o =>
      rw [ho] at hk
      obtain ⟨r, hr, hmo⟩ := mObs_get hob j o ho
      have hk : o.ment k := hk
      cases r with
      | none => cases o with
        | row e xs => exact hk.elim
        | _ => exact hmo.elim
      | some r => exact absurd hk (plain_ment hmo.2 k)

end
end Go.Proofs.YtglpemnejngkaaaVm
