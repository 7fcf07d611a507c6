/- Regions whose order is drawn: what one operation does to a part of the state; that the order does not matter. -/
import Derived.Test.YtglpemnejngkaaaVmJ
import Derived.Orders
set_option linter.unusedVariables false
set_option linter.unusedSimpArgs false
namespace Go.Proofs.YtglpemnejngkaaaVm
open Go Classical

def St.put (σ : St) (d : Option Nat) (v : AV) : St :=
  match d with
  | some t => σ.set t v
  | none => σ

def dOK (n : Nat) : Option Nat → Prop
  | some t => t < n
  | none => True

def gslot (all : List Oper) (j : Nat) : Option Nat :=
  match all[j]? with
  | some o => o.dst
  | none => none

/-- Is a guarded operation done? -/
def gres (σ : St) (all : List Oper) (j : Nat) (want : Bool) : Option Bool :=
  match gslot all j with
  | some t => match σ.sl t with
    | .val (.bool b) => some (b == want)
    | .tup [] => some false
    | _ => none
  | none => none

def runs (σ : St) (all : List Oper) (o : Oper) : Option Bool :=
  match o.guard with
  | none => some true
  | some (j, want) => gres σ all j want


def AV.isMent (v : AV) (i : Nat) : Bool :=
  match v with
  | .ref j => j == i
  | .adr j _ => j == i
  | .ead j _ _ _ => j == i
  | .vw j _ _ _ => j == i
  | _ => false
def AV.noMent : AV → Bool
  | .ref _ | .adr .. | .ead .. | .vw .. => false
  | _ => true
def Ob.noMent : Ob → Bool
  | .box _ cs => cs.all AV.noMent
  | _ => true

/-- A part of a state: some slots, some objects. -/
def St.restr (σ : St) (S M : List Nat) (nid : Nat) : St where
  sl := fun t => if S.contains t = true then σ.sl t else .any
  ob := fun k => if (M.contains k || k == nid) = true then σ.ob k else .gone
  ck := σ.ck

def St.patch (σ σ' : St) (W : List Nat) (d : Option Nat) : St where
  sl := fun t => if d = some t then σ'.sl t else σ.sl t
  ob := fun k => if W.contains k = true then σ'.ob k else σ.ob k
  ck := σ.ck

/-- One operation. -/
inductive Ev (P : Program) (n : Nat) (all : List Oper) (nid : Nat) (o : Oper) (σ : St) : St → Prop
  | run {σ' v} (hg : runs σ all o = some true) (hs : stepOp P σ nid o.op = some (σ', v)) (hd : dOK n o.dst) : Ev P n all nid o σ (σ'.put o.dst v)
  | pass (hg : runs σ all o = some false) (hd : dOK n o.dst) : Ev P n all nid o σ (σ.put o.dst (.tup []))
  | call {σ' v fx xs ts} (hg : runs σ all o = some true) (ho : o.op = .call { callee := .value fx, args := xs, argTypes := ts }) (hd : dOK n o.dst)
      (hc : CallStep P σ nid (σ.ev fx) (σ.evs xs.toList) σ' v) : Ev P n all nid o σ (σ'.put o.dst v)

/-- What is drawn on and written stays within its bounds. -/
structure Within (τ σ' : St) (M W : List Nat) (S : List Nat) (nid : Nat) (d : Option Nat) : Prop where
  same : ∀ k, k ∉ W → σ'.ob k = (τ.restr S M nid).ob k
  ment : ∀ t, d = some t → ∀ i, (σ'.sl t).isMent i = true → i = nid ∨ ∃ t', t' ∈ S ∧ (τ.sl t').isMent i = true
  plain : ∀ k, k ∈ W → (σ'.ob k).noMent = true
  sub : ∀ k, k ∈ W → k ∈ M ∨ k = nid

def at_ (M : List (List Nat)) (j : Nat) : List Nat := M.getD j []

def EvR (P : Program) (n : Nat) (all : List Oper) (b : Nat) (M W : List (List Nat)) (j : Nat) (τ τ' : St) : Prop :=
  ∃ o, all[j]? = some o ∧ ∃ σ', Ev P n all (b + j) o (τ.restr (o.looksAt all.toArray) (at_ M j) (b + j)) σ' ∧
    Within τ σ' (at_ M j) (at_ W j) (o.looksAt all.toArray) (b + j) o.dst ∧ τ' = τ.patch σ' (at_ W j) o.dst

/-- Two operations that do not meddle with each other's objects. -/
def aloof (b : Nat) (M W : List (List Nat)) (i j : Nat) : Bool :=
  (at_ W i).all (fun k => !(at_ M j).contains k && k != b + j && !(at_ W j).contains k) && (at_ W j).all (fun k => !(at_ M i).contains k && k != b + i)

theorem aloof_spec {b : Nat} {M W : List (List Nat)} {i j : Nat} (h : aloof b M W i j = true) :
    (∀ k, k ∈ at_ W i → k ∉ at_ M j ∧ k ≠ b + j ∧ k ∉ at_ W j) ∧ (∀ k, k ∈ at_ W j → k ∉ at_ M i ∧ k ≠ b + i) := by
  simp only [aloof, Bool.and_eq_true, List.all_eq_true] at h
  refine ⟨fun k hk => ?_, fun k hk => ?_⟩
  · have := h.1 k hk
    simpa [and_assoc] using this
  · have := h.2 k hk
    simpa using this

theorem St.eq_of {σ τ : St} (h1 : ∀ t, σ.sl t = τ.sl t) (h2 : ∀ k, σ.ob k = τ.ob k) (h3 : σ.ck = τ.ck) : σ = τ := by
  cases σ; cases τ
  simp only at h1 h2 h3
  obtain rfl := funext h1
  obtain rfl := funext h2
  rw [h3]

section
variable {P : Program} {n : Nat} {all : List Oper} {b : Nat} {M W : List (List Nat)}

theorem patch_sl {σ σ' : St} {W : List Nat} {d : Option Nat} (t : Nat) : (σ.patch σ' W d).sl t = if d = some t then σ'.sl t else σ.sl t := rfl
theorem patch_ob {σ σ' : St} {W : List Nat} {d : Option Nat} (k : Nat) : (σ.patch σ' W d).ob k = if W.contains k = true then σ'.ob k else σ.ob k := rfl

theorem restr_patch {τ σ' : St} {W : List Nat} {d : Option Nat} {S M : List Nat} {nid : Nat} (hS : ∀ t, d = some t → t ∉ S) (hW : ∀ k, k ∈ W → k ∉ M ∧ k ≠ nid) :
    (τ.patch σ' W d).restr S M nid = τ.restr S M nid := by
  refine St.eq_of (fun t => ?_) (fun k => ?_) rfl
  · simp only [St.restr, St.patch]
    by_cases h : S.contains t = true
    · rw [if_pos h, if_pos h, if_neg (fun e => hS t e (by simpa using h))]
    · rw [if_neg h, if_neg h]
  · simp only [St.restr, St.patch]
    by_cases h : (M.contains k || k == nid) = true
    · rw [if_pos h, if_pos h, if_neg]
      intro hk
      have := hW k (by simpa using hk)
      simp at h
      rcases h with h | h
      · exact this.1 h
      · exact this.2 h
    · rw [if_neg h, if_neg h]

theorem within_patch {τ σ' σ'' : St} {W W' : List Nat} {d d' : Option Nat} {S M : List Nat} {nid : Nat} (hS : ∀ t, d = some t → t ∉ S) (hW : ∀ k, k ∈ W → k ∉ M ∧ k ≠ nid)
    (h : Within (τ.patch σ' W d) σ'' M W' S nid d') : Within τ σ'' M W' S nid d' := by
  refine ⟨fun k hk => ?_, fun t ht i hi => ?_, h.plain, h.sub⟩
  · rw [← restr_patch hS hW]; exact h.same k hk
  · rcases h.ment t ht i hi with h1 | ⟨t', h1, h2⟩
    · exact .inl h1
    · rw [patch_sl, if_neg (fun e => hS t' e h1)] at h2
      exact .inr ⟨t', h1, h2⟩

theorem patch_within {τ σ' σ'' : St} {W W' : List Nat} {d d' : Option Nat} {S M : List Nat} {nid : Nat} (hS : ∀ t, d = some t → t ∉ S) (hW : ∀ k, k ∈ W → k ∉ M ∧ k ≠ nid)
    (h : Within τ σ'' M W' S nid d') : Within (τ.patch σ' W d) σ'' M W' S nid d' := by
  refine ⟨fun k hk => ?_, fun t ht i hi => ?_, h.plain, h.sub⟩
  · rw [restr_patch hS hW]; exact h.same k hk
  · rcases h.ment t ht i hi with h1 | ⟨t', h1, h2⟩
    · exact .inl h1
    · refine .inr ⟨t', h1, ?_⟩
      rw [patch_sl, if_neg (fun e => hS t' e h1)]
      exact h2

theorem EvR.comm {i j : Nat} {oi oj : Oper} (hi : all[i]? = some oi) (hj : all[j]? = some oj) (hap : oi.apart all.toArray oj = true) (hal : aloof b M W i j = true) {τ τi τij : St}
    (h1 : EvR P n all b M W i τ τi) (h2 : EvR P n all b M W j τi τij) : ∃ τj, EvR P n all b M W j τ τj ∧ EvR P n all b M W i τj τij := by
  obtain ⟨a1, a2, a3⟩ := Oper.apart_spec hap
  obtain ⟨l1, l2⟩ := aloof_spec hal
  obtain ⟨o, ho, σi, e1, w1, rfl⟩ := h1
  rw [hi] at ho; cases ho
  obtain ⟨o, ho, σj, e2, w2, rfl⟩ := h2
  rw [hj] at ho; cases ho
  rw [restr_patch a1 (fun k hk => ⟨(l1 k hk).1, (l1 k hk).2.1⟩)] at e2
  have w2' := within_patch a1 (fun k hk => ⟨(l1 k hk).1, (l1 k hk).2.1⟩) w2
  refine ⟨τ.patch σj (at_ W j) oj.dst, ⟨oj, hj, σj, e2, w2', rfl⟩, oi, hi, σi, ?_, patch_within a3 l2 w1, ?_⟩
  · rw [restr_patch a3 l2]; exact e1
  · refine St.eq_of (fun t => ?_) (fun k => ?_) rfl
    · simp only [patch_sl]
      by_cases h : oi.dst = some t
      · rw [if_pos h, if_neg (a2 t h), if_pos h]
      · rw [if_neg h, if_neg h]
    · simp only [patch_ob]
      by_cases h : (at_ W i).contains k = true
      · have hk : k ∈ at_ W i := by simpa using h
        have hk' : (at_ W j).contains k = false := by simpa using (l1 k hk).2.2
        rw [if_pos h, if_neg (by rw [hk']; simp), if_pos h]
      · rw [if_neg h, if_neg h]

/-- An operation waits for another one, by edges. -/
inductive Dep (all : List Oper) : Nat → Nat → Prop
  | one {j i o e} (ho : all[j]? = some o) (he : e ∈ o.after) (hb : Region.binds .any e = true) (hi : e.on = i) : Dep all j i
  | step {j i o e} (ho : all[j]? = some o) (he : e ∈ o.after) (hb : Region.binds .any e = true) (h : Dep all e.on i) : Dep all j i

def Closed (all : List Oper) (listed : Array Bool) : Prop :=
  ∀ j o, all[j]? = some o → listed.getD j false = true → ∀ e ∈ o.after, Region.binds .any e = true → listed.getD e.on false = true

theorem Dep.listed {listed : Array Bool} (hc : Closed all listed) {j i : Nat} (h : Dep all j i) : listed.getD j false = true → listed.getD i false = true := by
  induction h with
  | one ho he hb hi => intro hl; rw [← hi]; exact hc _ _ ho hl _ he hb
  | step ho he hb h ih => intro hl; exact ih (hc _ _ ho hl _ he hb)

theorem Dep.ready {listed : Array Bool} (hc : Closed all listed) {j i : Nat} (hj : j ∈ Region.ready .any all.toArray listed) (h : Dep all j i) : listed.getD i false = true := by
  obtain ⟨_, o, ho, hall⟩ := mem_ready.1 hj
  have ho : all[j]? = some o := by simpa using ho
  cases h with
  | one ho' he hb hi => rw [ho] at ho'; cases ho'; rw [← hi]; exact hall _ he hb
  | step ho' he hb h => rw [ho] at ho'; cases ho'; exact h.listed hc (hall _ he hb)

theorem Closed.set {listed : Array Bool} (hc : Closed all listed) {j : Nat} (hj : j ∈ Region.ready .any all.toArray listed) : Closed all (listed.setIfInBounds j true) := by
  intro k o ho hl e he hb
  by_cases hk : j = k
  · subst hk
    obtain ⟨_, o', ho', hall⟩ := mem_ready.1 hj
    have ho' : all[j]? = some o' := by simpa using ho'
    rw [ho] at ho'; cases ho'
    exact getD_set_true (hall e he hb)
  · rw [getD_set_ne false hk] at hl
    exact getD_set_true (hc k o ho hl e he hb)

/-- From here on every order comes to 'fin'. -/
def DA (P : Program) (n : Nat) (all : List Oper) (b : Nat) (M W : List (List Nat)) (fin : St) : Nat → Array Bool → St → Prop
  | 0, listed, τ => Region.ready .any all.toArray listed = [] ∧ τ = fin
  | f + 1, listed, τ => (Region.ready .any all.toArray listed = [] → τ = fin) ∧ ∀ i ∈ Region.ready .any all.toArray listed, ∃ τ', EvR P n all b M W i τ τ' ∧ DA P n all b M W fin f (listed.setIfInBounds i true) τ'

theorem DA.first {fin : St} {i : Nat} {oi : Oper} (hi : all[i]? = some oi) : ∀ (f : Nat) (listed : Array Bool) (τ τ' : St), i ∈ Region.ready .any all.toArray listed → Closed all listed →
    (∀ j oj, all[j]? = some oj → j ≠ i → listed.getD j true = false → Dep all j i ∨ (oi.apart all.toArray oj = true ∧ aloof b M W i j = true)) →
    EvR P n all b M W i τ τ' → DA P n all b M W fin f (listed.setIfInBounds i true) τ' → DA P n all b M W fin (f + 1) listed τ := by
  intro f
  induction f with
  | zero =>
    intro listed τ τ' hr hc hfree he H
    refine ⟨fun h => (by rw [h] at hr; cases hr), fun j hj => ?_⟩
    by_cases hji : j = i
    · subst hji; exact ⟨τ', he, H⟩
    · have := ready_mono hj hji
      rw [H.1] at this
      cases this
  | succ f ih =>
    intro listed τ τ' hr hc hfree he H
    refine ⟨fun h => (by rw [h] at hr; cases hr), fun j hj => ?_⟩
    by_cases hji : j = i
    · subst hji; exact ⟨τ', he, H⟩
    · obtain ⟨τ2, h1, h2⟩ := H.2 j (ready_mono hj hji)
      obtain ⟨hjun, oj, hoj, hall⟩ := mem_ready.1 hj
      have hoj' : all[j]? = some oj := by simpa using hoj
      have hiun := (mem_ready.1 hr).1
      have hok : oi.apart all.toArray oj = true ∧ aloof b M W i j = true := by
        rcases hfree j oj hoj' hji hjun with h | h
        · have := h.ready hc hj
          rcases Nat.lt_or_ge i listed.size with h' | h'
          · simp [h'] at hiun this; rw [hiun] at this; cases this
          · simp [Array.getElem?_eq_none h'] at this
        · exact h
      obtain ⟨τj, g1, g2⟩ := EvR.comm hi hoj' hok.1 hok.2 he h1
      refine ⟨τj, g1, ih (listed.setIfInBounds j true) τj τ2 (ready_mono hr (Ne.symm hji)) (hc.set hj) (fun k ok hk hki hun => ?_) g2 ?_⟩
      · refine hfree k ok hk hki ?_
        by_cases hjk : j = k
        · subst hjk; exact hjun
        · rw [getD_set_ne true hjk] at hun; exact hun
      · rw [Array.setIfInBounds_comm _ _ hji]
        exact h2

/-- In the order of the text. -/
def TRun (P : Program) (n : Nat) (all : List Oper) (b : Nat) (M W : List (List Nat)) : Nat → Nat → St → St → Prop
  | _, 0, σ, σ' => σ' = σ
  | i, r + 1, σ, σ' => ∃ τ, EvR P n all b M W i σ τ ∧ TRun P n all b M W (i + 1) r τ σ'

/-- Which operations wait for the i-th one. -/
def deps (i : Nat) : List Oper → List Bool → List Bool
  | [], acc => acc
  | o :: r, acc => deps i r (acc ++ [o.after.any fun e => Region.binds .any e && (e.on == i || acc.getD e.on false)])

theorem deps_sound (i : Nat) : ∀ (r : List Oper) (acc : List Bool), (∀ k, acc.length ≤ k → all[k]? = r[k - acc.length]?) → (∀ j, acc.getD j false = true → Dep all j i) → ∀ j, (deps i r acc).getD j false = true → Dep all j i := by
  intro r
  induction r with
  | nil => intro acc _ h j hj; exact h j hj
  | cons o r ih =>
    intro acc hal h j hj
    have ho : all[acc.length]? = some o := by rw [hal _ (Nat.le_refl _)]; simp
    refine ih _ (fun k hk => ?_) (fun k hk => ?_) j hj
    · simp only [List.length_append, List.length_singleton] at hk ⊢
      rw [hal k (by omega)]
      have : k - acc.length = (k - (acc.length + 1)) + 1 := by omega
      rw [this, List.getElem?_cons_succ]
    · rcases Nat.lt_trichotomy k acc.length with hlt | rfl | hgt
      · refine h k ?_
        rw [List.getD_eq_getElem?_getD, List.getElem?_append_left hlt] at hk
        rw [List.getD_eq_getElem?_getD]; exact hk
      · rw [List.getD_eq_getElem?_getD, List.getElem?_append_right (Nat.le_refl _)] at hk
        simp only [Nat.sub_self, List.getElem?_cons_zero, Option.getD_some, Array.any_eq_true'] at hk
        obtain ⟨e, he, hk⟩ := hk
        simp only [Bool.and_eq_true, Bool.or_eq_true, beq_iff_eq] at hk
        rcases hk.2 with hk2 | hk2
        · exact .one ho he hk.1 hk2
        · exact .step ho he hk.1 (h _ hk2)
      · rw [List.getD_eq_getElem?_getD, List.getElem?_append_right (by omega), List.getElem?_eq_none (by simp; omega)] at hk
        cases hk

def pairs (all : List Oper) (b : Nat) (M W : List (List Nat)) (k : Nat) (listed : Array Bool) : Bool :=
  match all[k]? with
  | none => false
  | some ok =>
    let ds := deps k all []
    (List.range all.length).all fun j => j == k || listed.getD j true || ds.getD j false || match all[j]? with
      | some oj => ok.apart all.toArray oj && aloof b M W k j
      | none => true

def lexD (all : List Oper) (b : Nat) (M W : List (List Nat)) : Nat → Nat → Array Bool → Bool
  | 0, _, listed => (Region.ready .any all.toArray listed).isEmpty
  | f + 1, k, listed => (Region.ready .any all.toArray listed).contains k && pairs all b M W k listed && lexD all b M W f (k + 1) (listed.setIfInBounds k true)

def drawB (all : List Oper) (b : Nat) (M W : List (List Nat)) : Bool := lexD all b M W all.length 0 (Array.replicate all.length false)

theorem pairs_spec {k : Nat} {ok : Oper} {listed : Array Bool} (hk : all[k]? = some ok) (h : pairs all b M W k listed = true) (j : Nat) (oj : Oper) (hj : all[j]? = some oj) (hne : j ≠ k) (hun : listed.getD j true = false) :
    Dep all j k ∨ (ok.apart all.toArray oj = true ∧ aloof b M W k j = true) := by
  simp only [pairs, hk, List.all_eq_true, List.mem_range] at h
  have h1 := h j (List.getElem?_eq_some_iff.1 hj).1
  simp only [hj, Bool.or_eq_true, beq_iff_eq, hne, false_or, hun, Bool.false_eq_true, Bool.and_eq_true] at h1
  rcases h1 with h1 | h1
  · exact .inl (deps_sound k all [] (by simp) (by simp) j h1)
  · exact .inr h1

theorem DA.lex {fin : St} : ∀ (f k : Nat) (listed : Array Bool) (τ : St), k + f = all.length → Closed all listed → lexD all b M W f k listed = true → TRun P n all b M W k f τ fin → DA P n all b M W fin f listed τ := by
  intro f
  induction f with
  | zero => intro k listed τ hl hc hB h; exact ⟨by simpa [lexD] using hB, h.symm⟩
  | succ f ih =>
    intro k listed τ hl hc hB h
    simp only [lexD, Bool.and_eq_true] at hB
    obtain ⟨⟨hr, hp⟩, hB'⟩ := hB
    obtain ⟨τ', he, h'⟩ := h
    have hk : all[k]? = some all[k] := List.getElem?_eq_getElem (by omega)
    have hr : k ∈ Region.ready .any all.toArray listed := by simpa using hr
    exact DA.first hk f listed τ τ' hr hc (pairs_spec hk hp) he (ih (k + 1) _ τ' (by omega) (hc.set hr) hB' h')

def RunS (P : Program) (n : Nat) (all : List Oper) (b : Nat) (M W : List (List Nat)) : List Nat → St → St → Prop
  | [], τ, τ' => τ' = τ
  | i :: r, τ, τ' => ∃ τ1, EvR P n all b M W i τ τ1 ∧ RunS P n all b M W r τ1 τ'

theorem DA.run {fin : St} : ∀ (f t : Nat) (listed : Array Bool) (τ : St), DA P n all b M W fin f listed τ → RunS P n all b M W (Region.linearise.go .any all.toArray f t listed []) τ fin := by
  intro f
  induction f with
  | zero => intro t listed τ h; simpa [Region.linearise.go, RunS] using h.2.symm
  | succ f ih =>
    intro t listed τ h
    obtain ⟨h0, h1⟩ := h
    simp only [Region.linearise.go]
    change RunS P n all b M W (match (Region.ready .any all.toArray listed)[t % (Region.ready .any all.toArray listed).length]? with
      | some i => Region.linearise.go .any all.toArray f (t / (Region.ready .any all.toArray listed).length) (listed.setIfInBounds i true) [i]
      | none => [].reverse) τ fin
    cases hi : (Region.ready .any all.toArray listed)[t % (Region.ready .any all.toArray listed).length]? with
    | none =>
      have hnil : Region.ready .any all.toArray listed = [] := by
        cases hr : Region.ready .any all.toArray listed with
        | nil => rfl
        | cons x xs =>
          rw [hr] at hi
          have hlt : t % (x :: xs).length < (x :: xs).length := Nat.mod_lt _ (by simp)
          simp at hi
          simp at hlt
          omega
      simpa [RunS] using (h0 hnil).symm
    | some i =>
      simp only []
      rw [linearise_go_acc, List.reverse_singleton, List.singleton_append]
      obtain ⟨τ1, g1, g2⟩ := h1 i (List.mem_of_getElem? hi)
      exact ⟨τ1, g1, ih _ _ _ g2⟩

theorem TRun.sched {σ fin : St} (hB : drawB all b M W = true) (h : TRun P n all b M W 0 all.length σ fin) (hm : P.follows .mixedOrders = true) (t : Nat) : RunS P n all b M W (Region.schedule (P.follows .mixedOrders) all.toArray t) σ fin := by
  have hs : Region.schedule (P.follows .mixedOrders) all.toArray t = Region.linearise .any all.toArray t := by simp [Region.schedule, hm]
  rw [hs]
  have hc : Closed all (Array.replicate all.length false) := by
    intro j o ho hl
    simp [Array.getD] at hl
  have := (DA.lex (fin := fin) all.length 0 (Array.replicate all.length false) σ (by simp) hc hB h).run all.length t
  simpa [Region.linearise] using this

end
end Go.Proofs.YtglpemnejngkaaaVm
