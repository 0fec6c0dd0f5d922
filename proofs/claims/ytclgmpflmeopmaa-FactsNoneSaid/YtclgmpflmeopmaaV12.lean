/- The logical machine: part V12. -/
import Derived.Test.YtclgmpflmeopmaaV11
import Derived.LoopN
set_option linter.unusedVariables false
set_option linter.unusedSimpArgs false
namespace Dv
open Go

/-! ## States -/
structure St where
  env : List (Nat × LV)
  objs : List (Option LObj)

def getE : List (Nat × LV) → Nat → LV
  | [], _ => .top
  | (k, v) :: r, t => if k = t then v else getE r t

def putE (dst : Option Nat) (r : LV) (env : List (Nat × LV)) : List (Nat × LV) := match dst with
  | some d => (d, r) :: env
  | none => env

def St.get (s : St) (t : Nat) : LV := getE s.env t
def St.obj (s : St) (o : Nat) : OSt := objL s.objs o

def updL : List (Nat × LObj) → List (Option LObj) → List (Option LObj)
  | [], l => l
  | (k, ob) :: r, l => (updL r l).set k (some ob)

def St.app (s : St) (dst : Option Nat) (e : Eff) : St := { env := putE dst e.r s.env, objs := updL e.wr s.objs ++ e.nw.map some }
def St.put (s : St) (dst : Option Nat) (r : LV) : St := { s with env := putE dst r s.env }

def callee : LV → Option (Nat × List LV × List LV)
  | .d (.fn (.func k) fs cs) => some (k, fs.map .d, cs.map .d)
  | .fn (.func k) fs cs => some (k, fs, cs)
  | _ => none

def EffR (P : Program) (G : Nat → Option (List DV)) (get : Nat → LV) (obj : Nat → OSt) (base : Nat) (i : I) (e : Eff) : Prop :=
  match i with
  | .call f args => match callee (f.ev G get) with
    | some (k, fs, cs) => CallEff P G k (fs ++ args.map (·.ev G get) ++ cs) obj base e
    | none => False
  | i => effF G get obj base i = some e

section
variable {P : Program} {G : Nat → Option (List DV)} {J : Nat → Prop} {w w' : World} {ι : Nat → Nat → Option Nat} {obj : Nat → OSt} {a : Act} {get : Nat → LV} {base : Nat}

theorem RepL.append : ∀ {xs ys : List LV} {vs us : List Value}, RepL J w ι xs vs → RepL J w ι ys us → RepL J w ι (xs ++ ys) (vs ++ us)
  | [], ys, [], us, _, h => h
  | x :: xs, ys, v :: vs, us, h, k => ⟨h.1, RepL.append h.2 k⟩
  | [], _, _ :: _, _, h, _ => h.elim
  | _ :: _, _, [], _, h, _ => h.elim

/-- A CALL DOES WHAT ITS CONTRACT SAYS. -/
theorem call_sound (S : Store G J w ι obj) (he : ∀ t, Rep J w ι (get t) (a.tmps.getD t Go.undef)) {f : Opd} {args : List Opd} {e : Eff} (hE : EffR P G get obj base (.call f args) e) (hfree : ∀ j, j < e.nw.length → obj (base + j) = .free) {o : Oper} (hc : convI P o.op = some (.call f args)) :
    Goes P o a w (After G obj (applyO obj base e) J ι w e.r) := by
  obtain ⟨dst, op, type, pos, after, guard⟩ := o
  dsimp only at hc
  obtain ⟨F, as, ts, rfl, hF, hargs⟩ : ∃ F as ts, op = .call ⟨.value F, as, ts⟩ ∧ convOpd F = some f ∧ convOpds as.toList = some args := by
    cases op with
    | call c =>
      obtain ⟨callee, as, ts⟩ := c
      cases callee with
      | value F =>
        simp only [convI] at hc
        split at hc
        · rename_i f' args' h1 h2; cases hc; exact ⟨F, as, ts, rfl, h1, h2⟩
        · cases hc
      | invoke r m => simp [convI] at hc
      | builtin b =>
        exfalso
        cases b <;> simp only [convI] at hc <;> (repeat' split at hc) <;> cases hc
    | unOp u T x => exfalso; cases u <;> simp only [convI] at hc <;> (try (cases hc; done)) <;> (repeat' split at hc) <;> cases hc
    | _ =>
      exfalso
      simp only [convI] at hc <;> (repeat' split at hc) <;> cases hc
  simp only [EffR] at hE
  split at hE
  · rename_i k fs cs hcal
    have hrF := rep_ev S he hF
    have hrA := rep_evs S he hargs
    obtain ⟨fs', cs', hval, hfs, hcs⟩ : ∃ fs' cs', a.eval F = .func (.func k) fs' cs' ∧ RepL J w ι fs fs'.toList ∧ RepL J w ι cs cs'.toList := by
      generalize f.ev G get = x at hcal hrF
      unfold callee at hcal
      split at hcal
      · cases hcal
        obtain ⟨fs', cs', h1, h2, h3⟩ := hrF
        exact ⟨fs', cs', h1, h2.toL, h3.toL⟩
      · cases hcal
        obtain ⟨fs', cs', h1, h2, h3⟩ := hrF
        exact ⟨fs', cs', h1, h2, h3⟩
      · cases hcal
    obtain ⟨ρ, Z, tmp, fargs, fobjs, r, fobjs', hn, hz, hZd, hl, hob, hid, hargR, htmp, hle, hTri, rfl⟩ := hE.ex
    obtain ⟨hent, hcalls⟩ := hTri
    obtain ⟨SF, _⟩ := S.sub (base := base) hn hz hl hob hid
    have hrargs : RepL J w ι (fs ++ args.map (·.ev G get) ++ cs) (fs' ++ as.map a.eval ++ cs').toList := by
      simp only [Array.toList_append, Array.toList_map]
      exact (hfs.append hrA).append hcs
    have hcall := hcalls _ _ w (fs' ++ as.map a.eval ++ cs') SF (argRs_sound S _ _ _ hargR hrargs)
    have hrun : (execOp a.eval ⟨dst, .call ⟨.value F, as, ts⟩, type, pos, after, guard⟩).run P w = .ok (.enter k (fs' ++ as.map a.eval ++ cs')) w := by
      simp only [execOp, resolve, Sem.run_bind, hval, Deferred.ofValue, Sem.run_pure, Result.andThen_ok, invoke]
      exact enter_run hent _ w
    intro next Q hnext
    unfold Oper.wp
    rw [hrun, Oper.upon_enter]
    refine Calls.mono hcall (fun e w'' ⟨v, hev, hA⟩ => ?_)
    subst hev
    refine hnext v w'' ?_
    simp only [List.length_map, List.length_drop] at hfree
    exact After.call S hn hz hl hob hid hZd htmp hle hfree hA
  · exact hE.elim

theorem EffR_sound (S : Store G J w ι obj) (he : ∀ t, Rep J w ι (get t) (a.tmps.getD t Go.undef)) {i : I} {e : Eff} (hE : EffR P G get obj base i e) (hfree : ∀ j, j < e.nw.length → obj (base + j) = .free) {o : Oper} (hc : convI P o.op = some i) :
    Goes P o a w (After G obj (applyO obj base e) J ι w e.r) := by
  by_cases h : ∃ f args, i = .call f args
  · obtain ⟨f, args, rfl⟩ := h
    exact call_sound S he hE hfree hc
  · have : EffR P G get obj base i e = (effF G get obj base i = some e) := by
      cases i <;> first | rfl | (exfalso; exact h ⟨_, _, rfl⟩)
    rw [this] at hE
    exact eff_sound S he hE hfree hc
end

/-! ## The store as a list -/
theorem objL_lt {l : List (Option LObj)} {o : Nat} {ob : LObj} (h : objL l o = .live ob) : o < l.length := by
  unfold objL at h
  split at h
  · cases h
  · cases h
  · rename_i hh; exact (List.getElem?_eq_some_iff.1 hh).1

theorem objL_free {l : List (Option LObj)} {o : Nat} (h : l.length ≤ o) : objL l o = .free := by
  unfold objL; rw [List.getElem?_eq_none h]

theorem updL_length : ∀ (wr : List (Nat × LObj)) (l : List (Option LObj)), (updL wr l).length = l.length
  | [], _ => rfl
  | (k, ob) :: r, l => by simp only [updL, List.length_set, updL_length r l]

theorem updL_obj : ∀ (wr : List (Nat × LObj)) (l : List (Option LObj)), (∀ p ∈ wr, p.1 < l.length) → ∀ o, objL (updL wr l) o = updO wr (objL l) o
  | [], _, _, _ => rfl
  | (k, ob) :: r, l, h, o => by
    have hk : k < (updL r l).length := by rw [updL_length]; exact h (k, ob) (by simp)
    simp only [updL, updO]
    unfold objL
    by_cases ho : o = k
    · subst ho
      rw [List.getElem?_set_self hk]; simp
    · rw [List.getElem?_set_ne (fun e => ho e.symm), if_neg ho]
      exact updL_obj r l (fun p hp => h p (by simp [hp])) o

theorem app_obj (l : List (Option LObj)) (e : Eff) (h : ∀ p ∈ e.wr, p.1 < l.length) : objL (updL e.wr l ++ e.nw.map some) = applyO (objL l) l.length e := by
  funext o
  simp only [applyO, newO_get]
  have hl := updL_length e.wr l
  by_cases ho : l.length ≤ o
  · rw [if_pos ho]
    have : objL (updL e.wr l ++ e.nw.map some) o = (match e.nw[o - l.length]? with | some ob => .live ob | none => .free) := by
      unfold objL
      rw [List.getElem?_append_right (by omega), hl, List.getElem?_map]
      cases e.nw[o - l.length]? <;> rfl
    rw [this]
    cases e.nw[o - l.length]? with
    | some ob => rfl
    | none =>
      show OSt.free = updO e.wr (objL l) o
      rw [← updL_obj e.wr l h o, objL_free (by omega)]
  · rw [if_neg ho, ← updL_obj e.wr l h o]
    unfold objL
    rw [List.getElem?_append_left (by omega)]

theorem wr_live {G : Nat → Option (List DV)} {get : Nat → LV} {obj : Nat → OSt} {base : Nat} {i : I} {e : Eff} (h : effF G get obj base i = some e) : ∀ p ∈ e.wr, ∃ ob, obj p.1 = .live ob := by
  intro p hp
  cases i <;> simp only [effF] at h <;> (repeat' split at h) <;> (try (cases h; done)) <;> cases h <;> first
    | (cases hp; done)
    | (simp only [List.mem_singleton] at hp; subst hp; exact ⟨_, by assumption⟩)

theorem frzs_live (obj : Nat → OSt) : ∀ (Z : List Nat), ∀ p ∈ frzs obj Z, ∃ ob, obj p.1 = .live ob
  | [], p, h => by cases h
  | z :: Z, p, h => by
    simp only [frzs] at h
    split at h
    · rename_i et e rows hz
      rcases List.mem_cons.1 h with rfl | h
      · exact ⟨_, hz⟩
      · exact frzs_live obj Z p h
    · exact frzs_live obj Z p h

theorem EffR.wr_live {P : Program} {G : Nat → Option (List DV)} {get : Nat → LV} {obj : Nat → OSt} {base : Nat} {i : I} {e : Eff} (h : EffR P G get obj base i e) : ∀ p ∈ e.wr, ∃ ob, obj p.1 = .live ob := by
  by_cases hi : ∃ f args, i = .call f args
  · obtain ⟨f, args, rfl⟩ := hi
    simp only [EffR] at h
    split at h
    · obtain ⟨ρ, Z, tmp, fargs, fobjs, r, fobjs', hn, hz, hZd, hl, hob, hid, hargR, htmp, hle, hTri, rfl⟩ := h.ex
      intro p hp
      simp only [List.mem_append] at hp
      rcases hp with hp | hp
      · have : p.1 ∈ ρ := (List.of_mem_zip hp).1
        obtain ⟨i, hi⟩ := List.mem_iff_getElem?.1 this
        obtain ⟨ob, _, k⟩ := hob i _ hi
        exact ⟨_, k⟩
      · split at hp
        · cases hp
        · exact frzs_live obj Z p hp
    · exact h.elim
  · have : EffR P G get obj base i e = (effF G get obj base i = some e) := by
      cases i <;> first | rfl | (exfalso; exact hi ⟨_, _, rfl⟩)
    rw [this] at h
    exact Dv.wr_live h

/-! ## A frame's state stands for an activation -/
structure Sim (G : Nat → Option (List DV)) (N : Nat) (J : Nat → Prop) (w : World) (ι : Nat → Nat → Option Nat) (a : Act) (get : Nat → LV) (obj : Nat → OSt) : Prop where
  store : Store G J w ι obj
  env : ∀ t, Rep J w ι (get t) (a.tmps.getD t Go.undef)
  size : a.tmps.size = N
  defers : a.defers = []

def getP (dst : Option Nat) (r : LV) (get : Nat → LV) (t : Nat) : LV := if dst = some t then r else get t

theorem getE_put (dst : Option Nat) (r : LV) (env : List (Nat × LV)) : getE (putE dst r env) = getP dst r (getE env) := by
  funext t
  cases dst with
  | none => simp [putE, getP]
  | some d => simp [putE, getE, getP]

theorem Sim.step {G : Nat → Option (List DV)} {N : Nat} {J : Nat → Prop} {w w' : World} {ι : Nat → Nat → Option Nat} {a : Act} {get : Nat → LV} {obj obj' : Nat → OSt} (S : Sim G N J w ι a get obj) {dst : Option Nat} (hd : ∀ d, dst = some d → d < N) {r : LV} {v : Value}
    (h : After G obj obj' J ι w r v w') : ∃ J' ι', Sim G N J' w' ι' (a.put dst v) (getP dst r get) obj' ∧ Ext obj obj' J J' ι ι' w w' := by
  obtain ⟨J', ι', S', hr, E⟩ := h
  refine ⟨J', ι', ⟨S', fun t => ?_, ?_, ?_⟩, E⟩
  · cases dst with
    | none => simpa [getP, Act.put] using (S.env t).ev S.store E.ev
    | some d =>
      have hdN := hd d rfl
      simp only [getP, Act.put, Option.some.injEq]
      by_cases ht : d = t
      · subst ht
        rw [if_pos rfl]
        have : (a.tmps.setIfInBounds d v).getD d Go.undef = v := by simp [Array.getD_eq_getD_getElem?, S.size, hdN]
        rw [this]; exact hr
      · rw [if_neg ht]
        have : (a.tmps.setIfInBounds d v).getD t Go.undef = a.tmps.getD t Go.undef := by
          simp [Array.getD_eq_getD_getElem?, Array.getElem?_setIfInBounds_ne ht]
        rw [this]; exact (S.env t).ev S.store E.ev
  · cases dst <;> simp [Act.put, S.size]
  · cases dst <;> simp [Act.put, S.defers]
end Dv
