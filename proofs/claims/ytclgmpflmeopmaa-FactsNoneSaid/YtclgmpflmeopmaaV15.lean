/- The logical machine: part V15. -/
import Derived.Test.YtclgmpflmeopmaaV14
set_option linter.unusedVariables false
set_option linter.unusedSimpArgs false
namespace Dv
open Go

/-! ## Regions -/
structure LogE where
  pre : List Nat
  rd : List Nat
  wr : List Nat

def IOp.tr (o : IOp) : List Nat := o.op.tmps ++ (match o.guard with | some (g, _) => [g] | none => [])

def nwp : Nat → List LObj → List (Nat × LObj)
  | _, [] => []
  | k, ob :: r => (k, ob) :: nwp (k + 1) r

theorem nwp_newO : ∀ (l : List LObj) (k : Nat) (obj : Nat → OSt), newO k l obj = updO (nwp k l) obj
  | [], _, _ => rfl
  | ob :: r, k, obj => by simp only [newO, nwp, updO, nwp_newO r]

theorem nwp_ids : ∀ (l : List LObj) (k j : Nat), j < l.length → k + j ∈ (nwp k l).map (·.1)
  | [], _, _, h => by simp at h
  | ob :: r, k, 0, _ => by simp [nwp]
  | ob :: r, k, j + 1, h => by
    have := nwp_ids r (k + 1) j (by simpa using h)
    simp only [nwp, List.map_cons, List.mem_cons]
    right
    rw [show k + (j + 1) = k + 1 + j by omega]; exact this

def Eff.owned (base : Nat) (e : Eff) : List (Nat × LObj) := nwp base e.nw ++ e.wr

section
variable (P : Program) (G : Nat → Option (List DV))

/-- One operation. -/
def vcE (o : IOp) (s : St) (K : St → Eff → Prop) : Prop :=
  match o.op with
  | .call f args => match callee (f.ev G s.get) with
    | some (k, fs, cs) => ∃ e, CallEff P G k (fs ++ args.map (·.ev G s.get) ++ cs) s.obj s.objs.length e ∧ K (s.app o.dst e) e
    | none => False
  | i => match effF G s.get s.obj s.objs.length i with
    | some e => K (s.app o.dst e) e
    | none => False

def vcG (o : IOp) (s : St) (K : St → Eff → Prop) (K0 : St → Prop) : Prop :=
  match o.guard with
  | none => vcE P G o s K
  | some (g, want) => match s.get g with
    | .d (.val (.bool b)) => if b = want then vcE P G o s K else K0 (s.put o.dst .undef)
    | .d (.val (.tuple _)) => K0 (s.put o.dst .undef)
    | _ => False

/-- A region, in the text's order. -/
def vcOps : List IOp → St → (St → Prop) → Prop
  | [], s, K => K s
  | o :: os, s, K => vcG P G o s (fun s' _ => vcOps os s' K) (fun s' => vcOps os s' K)

/-- A region whose order is open. -/
def vcOpsD : List IOp → St → List LogE → (St → List LogE → Prop) → Prop
  | [], s, log, K => K s log
  | o :: os, s, log, K => vcG P G o s (fun s' e => vcOpsD os s' (log ++ [⟨o.pre, e.rd, (e.owned s.objs.length).map (·.1)⟩]) K) (fun s' => vcOpsD os s' (log ++ [⟨o.pre, [], []⟩]) K)
end

def clashO (x y : LogE) : Bool := x.wr.any (fun o => y.rd.contains o || y.wr.contains o) || y.wr.any (fun o => x.rd.contains o)

/-- No two whose order is open touch one another's objects. -/
def indep (log : List LogE) : Bool :=
  (log.all fun e => e.wr.isEmpty) || (List.range log.length).all fun j => match log[j]? with
    | none => true
    | some y => (List.range j).all fun i => match log[i]? with
      | none => true
      | some x => y.pre.contains i || !clashO x y

theorem indep_spec {log : List LogE} (h : indep log = true) {i j : Nat} {x y : LogE} (hi : log[i]? = some x) (hj : log[j]? = some y) (hij : i < j) (hc : clashO x y = true) : i ∈ y.pre := by
  unfold indep at h
  rw [Bool.or_eq_true] at h
  rcases h with h | h
  · rw [List.all_eq_true] at h
    have h1 := h x (List.mem_of_getElem? hi)
    have h2 := h y (List.mem_of_getElem? hj)
    simp only [List.isEmpty_iff] at h1 h2
    simp [clashO, h1, h2] at hc
  · rw [List.all_eq_true] at h
    have hjl := (List.getElem?_eq_some_iff.1 hj).1
    have h1 := h j (by simpa using hjl)
    rw [hj] at h1
    dsimp only at h1
    rw [List.all_eq_true] at h1
    have h2 := h1 i (by simpa using hij)
    rw [hi] at h2
    simp only [hc, Bool.not_true, Bool.or_false, List.contains_iff_mem] at h2
    exact h2

/-! ### How the model's regions become these -/
def dstOk (N : Nat) : Option Nat → Bool
  | none => true
  | some d => decide (d < N)

def convG (N : Nat) (ops : Array Oper) : Option (Nat × Bool) → Option (Option (Nat × Bool))
  | none => some none
  | some (j, want) => match ops[j]? with
    | some oj => match oj.dst with
      | some t => if t < N then some (some (t, want)) else none
      | none => none
    | none => none

def convOne (P : Program) (N : Nat) (ops : Array Oper) (o : Oper) (pre : List Nat) : Option IOp :=
  if dstOk N o.dst then (match convI P o.op, convG N ops o.guard with
    | some i, some g => some ⟨o.dst, i, g, pre⟩
    | _, _ => none) else none

def convOps (P : Program) (N : Nat) (ops : Array Oper) : List Oper → List (List Nat) → Option (List IOp)
  | [], _ => some []
  | o :: os, ps => match convOne P N ops o (ps.headD []), convOps P N ops os ps.tail with
    | some x, some xs => some (x :: xs)
    | _, _ => none

theorem convOps_get {P : Program} {N : Nat} {ops : Array Oper} : ∀ {os : List Oper} {ps : List (List Nat)} {ios : List IOp}, convOps P N ops os ps = some ios → ios.length = os.length ∧ ∀ (i : Nat) (o : Oper), os[i]? = some o → ∃ io, ios[i]? = some io ∧ convOne P N ops o io.pre = some io
  | [], ps, ios, h => by simp only [convOps] at h; cases h; exact ⟨rfl, fun i o h => by simp at h⟩
  | o :: os, ps, ios, h => by
    simp only [convOps] at h
    split at h
    · rename_i x xs h1 h2
      cases h
      obtain ⟨k1, k2⟩ := convOps_get h2
      refine ⟨by simp [k1], fun i o' hi => ?_⟩
      cases i with
      | zero =>
        simp at hi; subst hi
        refine ⟨x, by simp, ?_⟩
        have : x.pre = ps.headD [] := by
          unfold convOne at h1
          split at h1
          · split at h1
            · cases h1; rfl
            · cases h1
          · cases h1
        rw [this]; exact h1
      | succ i => simpa using k2 i o' (by simpa using hi)
    · cases h

/-- The ones ahead. -/
def direct (o : Oper) : List Nat := (o.after.toList.filter (Region.binds .any ·)).map (·.on)
def addAll (xs ys : List Nat) : List Nat := xs.foldl (fun acc x => if acc.contains x then acc else acc ++ [x]) ys
def presOf (ops : List Oper) : List (List Nat) :=
  ops.foldl (fun acc o => acc ++ [(direct o).foldl (fun s k => addAll (k :: acc.getD k []) s) []]) []

def clashT (x y : IOp) : Bool := match x.dst with
  | some t => y.tr.contains t || y.dst == some t
  | none => false
def clashT' (x y : IOp) : Bool := match y.dst with
  | some t => x.tr.contains t
  | none => false

def okDraw (ops : List Oper) (ios : List IOp) : Bool :=
  (List.range ops.length).all fun j => match ops[j]?, ios[j]? with
    | some o, some io => ((direct o).all fun k => decide (k < j)) &&
      (io.pre.all fun i => decide (i < ops.length) && (direct o).any fun k => k == i || (match ios[k]? with | some z => z.pre.contains i | none => false)) &&
      ((List.range j).all fun i => match ios[i]? with | some x => io.pre.contains i || !(clashT x io || clashT' x io) | none => false)
    | _, _ => false

def convReg (P : Program) (N : Nat) (ops : Array Oper) (draw : Bool) : Option (List IOp) :=
  if draw then (match convOps P N ops ops.toList (presOf ops.toList) with
    | some ios => if P.follows .mixedOrders && okDraw ops.toList ios then some ios else none
    | none => none)
  else convOps P N ops ops.toList []

/-! ### The regions are sound -/
/-- One step of a region. -/
def wantedC (o : IOp) (s : St) : Option Bool := match o.guard with
  | none => some true
  | some (g, want) => match s.get g with
    | .d (.val (.bool b)) => some (b == want)
    | .d (.val (.tuple _)) => some false
    | _ => none

def evnOf (o : IOp) (base : Nat) (e : Eff) : Evn := { tr := o.tr, td := o.dst, r := e.r, rd := e.rd, ow := e.owned base }
def evnSkip (o : IOp) : Evn := { tr := o.tr, td := o.dst, r := .undef, rd := [], ow := [] }

def StepR (P : Program) (G : Nat → Option (List DV)) (o : IOp) (s : St) (ev : Evn) (s' : St) : Prop :=
  (wantedC o s = some true ∧ ∃ e, EffR P G s.get s.obj s.objs.length o.op e ∧ ev = evnOf o s.objs.length e ∧ s' = s.app o.dst e) ∨
  (wantedC o s = some false ∧ ev = evnSkip o ∧ s' = s.put o.dst .undef)

section
variable {P : Program} {G : Nat → Option (List DV)}

theorem vcE_eff {o : IOp} {s : St} {K : St → Eff → Prop} (h : vcE P G o s K) : ∃ e, EffR P G s.get s.obj s.objs.length o.op e ∧ K (s.app o.dst e) e := by
  unfold vcE at h
  split at h
  · rename_i f args hop
    split at h
    · rename_i k fs cs hc
      obtain ⟨e, h1, h2⟩ := h
      refine ⟨e, ?_, h2⟩
      rw [hop]
      simp only [EffR, hc]; exact h1
    · exact h.elim
  · rename_i i hni
    split at h
    · rename_i e he
      refine ⟨e, ?_, h⟩
      revert hni he
      cases o.op <;> intro hni he <;> first | exact he | (exfalso; exact hni _ _ rfl)
    · exact h.elim

theorem vcG_step {o : IOp} {s : St} {K : St → Eff → Prop} {K0 : St → Prop} (h : vcG P G o s K K0) :
    (wantedC o s = some true ∧ ∃ e, EffR P G s.get s.obj s.objs.length o.op e ∧ K (s.app o.dst e) e) ∨ (wantedC o s = some false ∧ K0 (s.put o.dst .undef)) := by
  unfold vcG at h
  unfold wantedC
  split at h
  · exact .inl ⟨rfl, vcE_eff h⟩
  · rename_i g want hg
    split at h
    · rename_i b hb
      by_cases hbw : b = want
      · rw [if_pos hbw] at h
        exact .inl ⟨by simp [hb, hbw], vcE_eff h⟩
      · rw [if_neg hbw] at h
        exact .inr ⟨by simp [hb, hbw], h⟩
    · rename_i v hb
      exact .inr ⟨by simp [hb], h⟩
    · exact h.elim

theorem St.get_app (s : St) (dst : Option Nat) (e : Eff) : (s.app dst e).get = getP dst e.r s.get := getE_put dst e.r s.env
theorem St.get_put (s : St) (dst : Option Nat) (r : LV) : (s.put dst r).get = getP dst r s.get := getE_put dst r s.env
theorem St.obj_app {s : St} {o : IOp} {e : Eff} (h : EffR P G s.get s.obj s.objs.length o.op e) : (s.app o.dst e).obj = updO (e.owned s.objs.length) s.obj := by
  have hl : ∀ p ∈ e.wr, p.1 < s.objs.length := fun p hp => by
    obtain ⟨ob, hob⟩ := h.wr_live p hp
    exact objL_lt hob
  funext q
  show objL (updL e.wr s.objs ++ e.nw.map some) q = _
  rw [app_obj s.objs e hl]
  simp only [applyO, Eff.owned, updO_append, nwp_newO]
  rfl

theorem StepR.next {o : IOp} {s s' : St} {ev : Evn} (h : StepR P G o s ev s') : s'.get = getP ev.td ev.r s.get ∧ s'.obj = updO ev.ow s.obj := by
  rcases h with ⟨_, e, he, rfl, rfl⟩ | ⟨_, rfl, rfl⟩
  · exact ⟨St.get_app .., St.obj_app he⟩
  · exact ⟨St.get_put .., rfl⟩

/-- the run of a region, by places. -/
theorem vcOpsD_run {K : St → List LogE → Prop} : ∀ (os : List IOp) (s : St) (log : List LogE), vcOpsD P G os s log K →
    ∃ (ss : Nat → St) (es : Nat → Evn) (log' : List LogE), ss 0 = s ∧ (∀ (i : Nat) (o : IOp), os[i]? = some o → StepR P G o (ss i) (es i) (ss (i + 1))) ∧ K (ss os.length) log' ∧
      log'.length = log.length + os.length ∧ (∀ (i : Nat) (o : IOp), os[i]? = some o → log'[log.length + i]? = some ⟨o.pre, (es i).rd, (es i).wr⟩) ∧ (∀ i, i < log.length → log'[i]? = log[i]?)
  | [], s, log, h => ⟨fun _ => s, fun _ => evnSkip ⟨none, .mv (.t 0), none, []⟩, log, rfl, fun i o hi => by simp at hi, h, by simp, fun i o hi => by simp at hi, fun _ _ => rfl⟩
  | o :: os, s, log, h => by
    simp only [vcOpsD] at h
    rcases vcG_step h with ⟨hw, e, he, hk⟩ | ⟨hw, hk⟩
    · obtain ⟨ss, es, log', h0, hst, hK, hlen, hlog, hold⟩ := vcOpsD_run os _ _ hk
      refine ⟨fun i => match i with | 0 => s | i + 1 => ss i, fun i => match i with | 0 => evnOf o s.objs.length e | i + 1 => es i, log', rfl, fun i o' hi => ?_, hK, ?_, fun i o' hi => ?_, fun i hi => ?_⟩
      · cases i with
        | zero =>
          simp at hi; subst hi
          exact .inl ⟨hw, e, he, rfl, h0⟩
        | succ i => exact hst i o' (by simpa using hi)
      · simp at hlen ⊢; omega
      · cases i with
        | zero =>
          simp at hi; subst hi
          rw [Nat.add_zero, hold _ (by simp)]
          simp [evnOf, Evn.wr]
        | succ i =>
          have := hlog i o' (by simpa using hi)
          rw [← this]; congr 1; simp; omega
      · rw [hold i (by simp; omega), List.getElem?_append_left hi]
    · obtain ⟨ss, es, log', h0, hst, hK, hlen, hlog, hold⟩ := vcOpsD_run os _ _ hk
      refine ⟨fun i => match i with | 0 => s | i + 1 => ss i, fun i => match i with | 0 => evnSkip o | i + 1 => es i, log', rfl, fun i o' hi => ?_, hK, ?_, fun i o' hi => ?_, fun i hi => ?_⟩
      · cases i with
        | zero =>
          simp at hi; subst hi
          exact .inr ⟨hw, rfl, h0⟩
        | succ i => exact hst i o' (by simpa using hi)
      · simp at hlen ⊢; omega
      · cases i with
        | zero =>
          simp at hi; subst hi
          rw [Nat.add_zero, hold _ (by simp)]
          simp [evnSkip, Evn.wr]
        | succ i =>
          have := hlog i o' (by simpa using hi)
          rw [← this]; congr 1; simp; omega
      · rw [hold i (by simp; omega), List.getElem?_append_left hi]
end

/-! ### One operation of the model -/
/-- What a frame's state is held against: how it was at the call. -/
structure At (G : Nat → Option (List DV)) (N : Nat) (obj0 : Nat → OSt) (J0 : Nat → Prop) (ι0 : Nat → Nat → Option Nat) (w0 : World) (get : Nat → LV) (obj : Nat → OSt) (a : Act) (w : World) : Prop where
  mk ::
  ex : ∃ J ι, Sim G N J w ι a get obj ∧ Ext obj0 obj J0 J ι0 ι w0 w

section
variable {P : Program} {G : Nat → Option (List DV)} {N : Nat} {obj0 : Nat → OSt} {J0 : Nat → Prop} {ι0 : Nat → Nat → Option Nat} {w0 : World} {ops : Array Oper} {Q : Exit → Act → World → Prop}

theorem At.drew {get : Nat → LV} {obj : Nat → OSt} {a : Act} {w : World} {n : Nat} (h : At G N obj0 J0 ι0 w0 get obj a w) : At G N obj0 J0 ι0 w0 get obj a { w with drawn := n } := by
  obtain ⟨J, ι, S, E⟩ := h.ex
  have E1 : Ext obj obj J J ι ι w { w with drawn := n } := ⟨⟨rfl, rfl, rfl, Nat.le_refl _, fun _ _ _ => rfl, fun _ _ => rfl, fun _ h => h, fun _ h => .inl h, fun _ _ _ h => h⟩, fun _ h => .inl h⟩
  refine ⟨J, ι, ⟨⟨fun o => OStRep.keep S.store E1.ev (fun _ => rfl) (fun _ _ => rfl), S.store.inj, S.store.disj, S.store.jcell, fun g row hg => ?_⟩, fun t => (S.env t).ev S.store E1.ev, S.size, S.defers⟩, E.trans E1⟩
  obtain ⟨h1, h2⟩ := S.store.glob g row hg
  exact ⟨h1, h2.ev S.store E1.ev h1⟩

/-- A step of the machine over an operation. -/
theorem op_step {o : Oper} {io : IOp} (hc : convOne P N ops o io.pre = some io) {s : St} {ev : Evn} {s' : St} (hst : StepR P G io s ev s') {get : Nat → LV} {obj : Nat → OSt}
    (hg : ∀ t, t ∈ ev.tr ∨ ev.td = some t → get t = s.get t) (ho : ∀ q, q ∈ ev.rd ∨ q ∈ ev.wr → obj q = s.obj q) {a : Act} {w : World} (hA : At G N obj0 J0 ι0 w0 get obj a w) {K : Act → World → Prop}
    (hK : ∀ a' w', At G N obj0 J0 ι0 w0 (getP ev.td ev.r get) (updO ev.ow obj) a' w' → K a' w') :
    if Region.wanted o (yielded ops a.tmps) then o.wp P a w K Q else K (a.put o.dst Go.undef) w := by
  obtain ⟨J, ι, S, E⟩ := hA.ex
  obtain ⟨hdst, i, g, hi, hgd, hio⟩ : dstOk N o.dst = true ∧ ∃ i g, convI P o.op = some i ∧ convG N ops o.guard = some g ∧ io = ⟨o.dst, i, g, io.pre⟩ := by
    unfold convOne at hc
    split at hc
    · rename_i hd
      split at hc
      · rename_i i g h1 h2
        exact ⟨hd, i, g, h1, h2, (Option.some.inj hc).symm⟩
      · cases hc
    · cases hc
  have hdN : ∀ d, o.dst = some d → d < N := fun d hd => by rw [hd] at hdst; simpa [dstOk] using hdst
  have hiod : io.dst = o.dst := by rw [hio]
  have hiop : io.op = i := by rw [hio]
  have hiog : io.guard = g := by rw [hio]
  have htr : ev.tr = io.tr := by rcases hst with ⟨_, e, _, rfl, _⟩ | ⟨_, rfl, _⟩ <;> rfl
  have htd : ev.td = o.dst := by rcases hst with ⟨_, e, _, rfl, _⟩ | ⟨_, rfl, _⟩ <;> exact hiod
  -- whether it is wanted
  have hwant : ∀ b, wantedC io s = some b → Region.wanted o (yielded ops a.tmps) = b := by
    intro b hb
    unfold wantedC at hb
    rw [hiog] at hb
    cases hog : o.guard with
    | none =>
      rw [hog] at hgd
      simp only [convG] at hgd; cases hgd
      simp only [Region.wanted, hog]
      exact Option.some.inj hb
    | some p =>
      obtain ⟨j, want⟩ := p
      rw [hog] at hgd
      simp only [convG] at hgd
      split at hgd
      · rename_i oj hoj
        split at hgd
        · rename_i t ht
          split at hgd
          · rename_i htN
            cases hgd
            dsimp only at hb
            have hgt : get t = s.get t := hg t (.inl (by rw [htr]; simp [IOp.tr, hiog]))
            have henv := S.env t
            rw [hgt] at henv
            have hval : a.tmps[t]? = some (a.tmps.getD t Go.undef) := by
              have : t < a.tmps.size := by rw [S.size]; exact htN
              simp [this]
            simp only [Region.wanted, hog, yielded, hoj, Option.bind_some, ht, hval]
            split at hb
            · rename_i b' hb'
              rw [hb'] at henv
              have : a.tmps.getD t Go.undef = .bool b' := henv
              rw [this]
              have := Option.some.inj hb
              rw [← this]
              cases b' <;> cases want <;> rfl
            · rename_i v hv
              rw [hv] at henv
              have : a.tmps.getD t Go.undef = .tuple v := henv
              rw [this]
              have := Option.some.inj hb
              rw [← this]; rfl
            · cases hb
          · cases hgd
        · cases hgd
      · cases hgd
  rcases hst with ⟨hw, e, he, rfl, rfl⟩ | ⟨hw, rfl, rfl⟩
  · rw [hwant true hw, if_pos rfl]
    have he' : EffR P G get obj s.objs.length io.op e := he.local (fun t ht => hg t (.inl (by simp [evnOf, IOp.tr, ht]))) (fun q hq => ho q (.inl hq))
    have hfree : ∀ j, j < e.nw.length → obj (s.objs.length + j) = .free := fun j hj => by
      rw [ho _ (.inr (by
        simp only [evnOf, Evn.wr, Eff.owned, List.map_append, List.mem_append]
        exact .inl (nwp_ids _ _ _ hj)))]
      exact objL_free (by omega)
    rw [hiop] at he'
    refine EffR_sound S.store S.env he' hfree hi K Q (fun v w' hAf => hK _ _ ?_)
    obtain ⟨J', ι', S', E'⟩ := S.step (dst := o.dst) hdN hAf
    refine ⟨J', ι', ?_, ?_⟩
    · have e1 : (evnOf io s.objs.length e).td = o.dst := hiod
      rw [e1]
      have e2 : updO (evnOf io s.objs.length e).ow obj = applyO obj s.objs.length e := by
        simp only [evnOf, Eff.owned, updO_append, applyO, nwp_newO]
      rw [e2]; exact S'
    · have e2 : updO (evnOf io s.objs.length e).ow obj = applyO obj s.objs.length e := by
        simp only [evnOf, Eff.owned, updO_append, applyO, nwp_newO]
      rw [e2]; exact E.trans E'
  · rw [hwant false hw]
    simp only [Bool.false_eq_true, if_false]
    refine hK _ _ ?_
    obtain ⟨J', ι', S', E'⟩ := S.step (dst := o.dst) hdN (After.stay S.store (r := .undef) (v := Go.undef) rfl)
    exact ⟨J', ι', by rw [htd]; exact S', E.trans E'⟩

/-- A region in the text's order. -/
theorem seq_sound {K : St → Prop} (hQ : ∀ s a w, At G N obj0 J0 ι0 w0 s.get s.obj a w → K s → Q .normal a w) :
    ∀ (os : List Oper) (ios : List IOp) (s : St) (a : Act) (w : World), ios.length = os.length → (∀ (i : Nat) (o : Oper), os[i]? = some o → ∃ io, ios[i]? = some io ∧ convOne P N ops o io.pre = some io) → vcOps P G ios s K →
      At G N obj0 J0 ι0 w0 s.get s.obj a w → wpList P ops Q os a w
  | [], ios, s, a, w, hl, hc, hv, hA => by
    cases ios with
    | nil => exact hQ s a w hA hv
    | cons _ _ => simp at hl
  | o :: os, [], s, a, w, hl, hc, hv, hA => by simp at hl
  | o :: os, io :: ios, s, a, w, hl, hc, hv, hA => by
    obtain ⟨io', h1, h2⟩ := hc 0 o (by simp)
    simp at h1; subst h1
    refine wpList_step (fun K' hK' => ?_)
    simp only [vcOps] at hv
    have hrest : ∀ s' ev, StepR P G io s ev s' → vcOps P G ios s' K → if Region.wanted o (yielded ops a.tmps) then o.wp P a w K' Q else K' (a.put o.dst Go.undef) w := by
      intro s' ev hst hv'
      obtain ⟨hn1, hn2⟩ := hst.next
      refine op_step h2 hst (fun _ _ => rfl) (fun _ _ => rfl) hA (fun a' w' hA' => hK' _ _ ?_)
      rw [← hn1, ← hn2] at hA'
      exact seq_sound hQ os ios s' a' w' (by simpa using hl) (fun i o' hi => by simpa using hc (i + 1) o' (by simpa using hi)) hv' hA'
    rcases vcG_step hv with ⟨hw, e, he, hk⟩ | ⟨hw, hk⟩
    · exact hrest _ _ (.inl ⟨hw, e, he, rfl, rfl⟩) hk
    · exact hrest _ _ (.inr ⟨hw, rfl, rfl⟩) hk

/-- A region whose order is open. -/
theorem draw_sound {K : St → Prop} (hQ : ∀ s a w, At G N obj0 J0 ι0 w0 s.get s.obj a w → K s → Q .normal a w) {ios : List IOp} (hc : convReg P N ops true = some ios) {s : St} (hv : vcOpsD P G ios s [] (fun s log => indep log = true ∧ K s)) {a : Act} {w : World}
    (hA : At G N obj0 J0 ι0 w0 s.get s.obj a w) {rid : Nat} : (Code.region rid ops true).wp P Q a w := by
  simp only [convReg, if_true] at hc
  split at hc
  · rename_i ios' hcs
    split at hc
    · rename_i hok
      cases hc
      rw [Bool.and_eq_true] at hok
      obtain ⟨hmix, hdraw⟩ := hok
      obtain ⟨hlen, hget⟩ := convOps_get hcs
      obtain ⟨ss, es, log', h0, hst, ⟨hind, hK⟩, hll, hlog, _⟩ := vcOpsD_run ios s [] hv
      simp only [Array.length_toList] at hlen
      have hiosat : ∀ i, i < ops.size → ∃ o io, ops[i]? = some o ∧ ios[i]? = some io ∧ convOne P N ops o io.pre = some io := by
        intro i hi
        obtain ⟨io, k1, k2⟩ := hget i ops[i] (by simp)
        exact ⟨ops[i], io, Array.getElem?_eq_getElem hi, k1, k2⟩
      unfold okDraw at hdraw
      rw [List.all_eq_true] at hdraw
      have hdr : ∀ j o io, ops[j]? = some o → ios[j]? = some io → (∀ k ∈ direct o, k < j) ∧ (∀ i ∈ io.pre, i < ops.size ∧ ∃ k ∈ direct o, k = i ∨ ∃ z, ios[k]? = some z ∧ i ∈ z.pre) ∧
          (∀ i x, i < j → ios[i]? = some x → i ∈ io.pre ∨ (clashT x io = false ∧ clashT' x io = false)) := by
        intro j o io hoj hij
        have hjlt := (Array.getElem?_eq_some_iff.1 hoj).1
        have h1 := hdraw j (by simpa using hjlt)
        have hoj' : ops.toList[j]? = some o := by simpa using hoj
        rw [hoj', hij] at h1
        simp only [Bool.and_eq_true, List.all_eq_true, decide_eq_true_eq, List.any_eq_true, Bool.or_eq_true, beq_iff_eq] at h1
        obtain ⟨⟨h2, h3⟩, h4⟩ := h1
        refine ⟨h2, fun i hi => ?_, fun i x hilt hx => ?_⟩
        · obtain ⟨h5, k, hk, h6⟩ := h3 i hi
          refine ⟨by simpa using h5, k, hk, h6.imp id (fun h => ?_)⟩
          split at h
          · rename_i z hz; exact ⟨z, hz, by simpa using h⟩
          · cases h
        · have := h4 i (by simpa using hilt)
          rw [hx] at this
          simp only [Bool.or_eq_true, Bool.not_eq_true', List.contains_iff_mem, Bool.or_eq_false_iff] at this
          exact this
      let R : Nat → Nat → Prop := fun i j => ∃ io, ios[j]? = some io ∧ i ∈ io.pre
      have hmemd : ∀ (o : Oper) (k : Nat), k ∈ direct o → ∃ e ∈ o.after, Region.binds .any e = true ∧ e.on = k := by
        intro o k hk
        simp only [direct, List.mem_map, List.mem_filter, Array.mem_toList_iff] at hk
        obtain ⟨e, ⟨h1, h2⟩, h3⟩ := hk
        exact ⟨e, h1, h2, h3⟩
      have htrio : ∀ i o, ios[i]? = some o → (es i).tr = o.tr ∧ (es i).td = o.dst := by
        intro i o hi
        rcases hst i o hi with ⟨_, e, _, h1, _⟩ | ⟨_, h1, _⟩ <;> rw [h1] <;> exact ⟨rfl, rfl⟩
      have hcanon : ∀ k, k ≤ ops.size → stD es s.get s.obj (fun _ => true) k = ((ss k).get, (ss k).obj) := by
        intro k
        induction k with
        | zero => intro _; simp only [stD, h0]
        | succ k ih =>
          intro hk
          obtain ⟨o, io, _, hio, _⟩ := hiosat k (by omega)
          obtain ⟨n1, n2⟩ := (hst k io hio).next
          simp only [stD, if_true, ih (by omega), n1, n2]
      have hbefore : ∀ i, i ≤ ops.size → stD es s.get s.obj (fun j => decide (j < i)) ops.size = ((ss i).get, (ss i).obj) := by
        intro i hi
        rw [← hcanon i hi]
        have h1 : ∀ k, i ≤ k → stD es s.get s.obj (fun j => decide (j < i)) k = stD es s.get s.obj (fun j => decide (j < i)) i := by
          intro k
          induction k with
          | zero => intro h; have : i = 0 := by omega
                    subst this; rfl
          | succ k ih =>
            intro h
            by_cases hki : i = k + 1
            · subst hki; rfl
            · rw [← ih (by omega)]
              simp only [stD]
              rw [if_neg (by simp; omega)]
        have h2 : ∀ k, k ≤ i → stD es s.get s.obj (fun j => decide (j < i)) k = stD es s.get s.obj (fun _ => true) k := by
          intro k
          induction k with
          | zero => intro _; rfl
          | succ k ih =>
            intro h
            simp only [stD, ih (by omega), if_true]
            rw [if_pos (by simp; omega)]
        rw [h1 _ hi, h2 _ (Nat.le_refl _)]
      refine wp_region_any hmix (wpAny_events (E := es) (g0 := s.get) (o0 := s.obj) (R := R) (fun g obj a w => At G N obj0 J0 ι0 w0 g obj a w) ?_ ?_ ?_ ?_ ?_ ?_ ops.size (Array.replicate ops.size false) a _ (by simp) (by simp) ?_ ?_)
      · -- what clashes is ordered
        intro i j hij hj hcl
        obtain ⟨oi, x, _, hx, _⟩ := hiosat i (by omega)
        obtain ⟨oj, y, hoj, hy, _⟩ := hiosat j hj
        refine ⟨y, hy, ?_⟩
        obtain ⟨_, _, h3⟩ := hdr j oj y hoj hy
        rcases h3 i x hij hx with h | ⟨hT, hT'⟩
        · exact h
        · obtain ⟨tx, dx⟩ := htrio i x hx
          obtain ⟨ty, dy⟩ := htrio j y hy
          have hlx := hlog i x hx
          have hly := hlog j y hy
          simp only [List.length_nil, Nat.zero_add] at hlx hly
          rcases hcl with ⟨t, h1, h2⟩ | ⟨t, h1, h2⟩ | ⟨q, h1, h2⟩ | ⟨q, h1, h2⟩
          · exfalso
            rw [dx] at h1; rw [ty, dy] at h2
            simp only [clashT, h1, Bool.or_eq_false_iff] at hT
            rcases h2 with h2 | h2
            · have := hT.1; simp [h2] at this
            · have := hT.2; simp [h2] at this
          · exfalso
            rw [dy] at h1; rw [tx] at h2
            simp [clashT', h1, h2] at hT'
          · refine indep_spec hind hlx hly hij ?_
            simp only [clashO, Bool.or_eq_true, List.any_eq_true, List.contains_iff_mem]
            exact .inl ⟨q, h1, h2⟩
          · refine indep_spec hind hlx hly hij ?_
            simp only [clashO, Bool.or_eq_true, List.any_eq_true, List.contains_iff_mem]
            exact .inr ⟨q, h1, h2⟩
      · intro j o ho i ⟨io, hio, hmem⟩
        obtain ⟨_, h2, _⟩ := hdr j o io ho hio
        obtain ⟨_, k, hk, h3⟩ := h2 i hmem
        obtain ⟨e, he, hb, hek⟩ := hmemd o k hk
        refine ⟨e, he, hb, ?_⟩
        rw [hek]
        exact h3.imp id (fun ⟨z, hz, hiz⟩ => ⟨z, hz, hiz⟩)
      · intro j o ho e he hb
        obtain ⟨_, io, _, hio, _⟩ := hiosat j (Array.getElem?_eq_some_iff.1 ho).1
        obtain ⟨h1, _, _⟩ := hdr j o io ho hio
        refine h1 e.on ?_
        simp only [direct, List.mem_map, List.mem_filter, Array.mem_toList_iff]
        exact ⟨e, ⟨he, hb⟩, rfl⟩
      · rintro i j ⟨io, hio, hmem⟩
        have hj : j < ops.size := by rw [← hlen]; exact (List.getElem?_eq_some_iff.1 hio).1
        obtain ⟨o, io', ho, hio', _⟩ := hiosat j hj
        rw [hio] at hio'; cases hio'
        obtain ⟨_, h2, _⟩ := hdr j o io ho hio
        exact (h2 i hmem).1
      · intro i g obj hi hg ho a w K' hA' hK'
        obtain ⟨o, io, hoi, hio, hcv⟩ := hiosat i hi
        rw [hbefore i (by omega)] at hg ho
        have := op_step (ops := ops) (Q := Q) hcv (hst i io hio) hg ho hA' hK'
        unfold wpOp
        simp only [hoi]
        by_cases hw : Region.wanted o (yielded ops a.tmps) = true
        · rw [if_pos hw] at this ⊢; exact .inl this
        · rw [if_neg hw] at this ⊢; exact this
      · intro a w hI
        rw [hcanon _ (Nat.le_refl _)] at hI
        rw [hlen] at hK
        exact hQ _ a w hI hK
      · intro j o ho hj
        simp at hj
        have := (Array.getElem?_eq_some_iff.1 ho).1
        simp [this] at hj
      · have e1 : ∀ n, stD es s.get s.obj (fun j => (Array.replicate ops.size false).getD j false) n = (s.get, s.obj) := by
          intro n
          induction n with
          | zero => rfl
          | succ n ih =>
            simp only [stD, ih]
            rw [if_neg]
            by_cases hn : n < ops.size <;> simp [hn]
        rw [e1]
        exact hA.drew
    · cases hc
  · cases hc
end
end Dv
