/- The logical machine: part V16. -/
import Derived.Test.YtclgmpflmeopmaaV15
import Derived.Scope
set_option linter.unusedVariables false
set_option linter.unusedSimpArgs false
namespace Dv
open Go

/-! ## Code -/
inductive C where
  | skip
  | reg (ops : List IOp)
  | regD (ops : List IOp)
  | seq (a b : C)
  | cond (c : Opd) (a b : C)
  | block (i : Nat) (b : C)
  | loop (b : C)
  | exit (i : Nat)
  | ret
  | scope (b : C)

inductive RV where
  | t (n : Nat)
  | c1 (n : Nat)
  | cn (n size : Nat)

structure Kont where
  n : St → Prop
  x : Nat → St → Prop
  r : St → Prop

/-- What is kept at a loop's head: some slots, the first m objects. -/
def St.keep (s : St) (ts : List Nat) (m : Nat) : St := { env := ts.map fun t => (t, s.get t), objs := s.objs.take m }
def okObj (m : Nat) : Option LObj → Bool
  | some ob => idlO m ob
  | none => true
def St.okKeep (s : St) (ts : List Nat) (m : Nat) : Prop := (ts.all fun t => idl m (s.get t)) = true ∧ ((s.objs.take m).all (okObj m)) = true ∧ m ≤ s.objs.length

/-- A nil slice as a slice of an object that has no rows yet: in a slot, in a box. -/
inductive Ad where
  | t (q : Nat) (et : TypeId) (esz : Nat)
  | b (o col : Nat) (et : TypeId) (esz : Nat)
def isNil : LV → Bool
  | .d (.val (.slice none 0 0)) => true
  | _ => false
def Ad.ap (s : St) : Ad → St
  | .t q et esz => if isNil (s.get q) = true then ⟨(q, .sl s.objs.length 0 esz 0 0) :: s.env, s.objs ++ [some (.dat et esz [])]⟩ else s
  | .b o col et esz => match s.obj o with
    | .live (.box bt cells) => match cells[col]? with
      | some v => if isNil v = true then ⟨s.env, s.objs.set o (some (.box bt (cells.set col (.sl s.objs.length 0 esz 0 0)))) ++ [some (.dat et esz [])]⟩ else s
      | none => s
    | _ => s
def adopt : List Ad → St → St
  | [], s => s
  | x :: xs, s => adopt xs (x.ap s)

section
variable (P : Program) (G : Nat → Option (List DV))
def vc : C → St → Kont → Prop
  | .skip, s, K => K.n s
  | .reg ops, s, K => vcOps P G ops s K.n
  | .regD ops, s, K => vcOpsD P G ops s [] (fun s log => indep log = true ∧ K.n s)
  | .seq a b, s, K => vc a s { K with n := fun s' => vc b s' K }
  | .cond c a b, s, K => match c.ev G s.get with
    | .d (.val (.bool t)) => if t = true then vc a s K else vc b s K
    | .anyb => vc a s K ∧ vc b s K
    | _ => False
  | .block i b, s, K => vc b s { K with x := fun j s' => if j = i then K.n s' else K.x j s' }
  | .loop b, s, K => ∃ (ts : List Nat) (I : Nat → St → Prop) (N : Nat) (ad : List Ad), I N { (adopt ad s) with env := ts.map fun t => (t, (adopt ad s).get t) } ∧
      ∀ k s', I k s' → vc b s' { K with n := fun s'' => s''.okKeep ts (adopt ad s).objs.length ∧ ∃ j, j < k ∧ I j (s''.keep ts (adopt ad s).objs.length) }
  | .exit i, s, K => K.x i s
  | .ret, s, K => K.r s
  | .scope b, s, K => vc b s K
end

def convC (P : Program) (N : Nat) : Code → Option C
  | .skip => some .skip
  | .region _ ops draw => match convReg P N ops draw with
    | some ios => some (if draw then .regD ios else .reg ios)
    | none => none
  | .seq a b => match convC P N a, convC P N b with | some a, some b => some (.seq a b) | _, _ => none
  | .cond c a b => match convOpd c, convC P N a, convC P N b with | some c, some a, some b => some (.cond c a b) | _, _, _ => none
  | .block i b => match convC P N b with | some b => some (.block i b) | none => none
  | .loop b => match convC P N b with | some b => some (.loop b) | none => none
  | .exit i => some (.exit i)
  | .scope b => match convC P N b with | some b => some (.scope b) | none => none
  | .ret => some .ret
  | .label _ => some .skip
  | _ => none

theorem getE_map (f : Nat → LV) : ∀ (ts : List Nat) (t : Nat), getE (ts.map fun t => (t, f t)) t = if t ∈ ts then f t else .top
  | [], t => by simp [getE]
  | x :: ts, t => by
    simp only [List.map_cons, getE, List.mem_cons, getE_map f ts t]
    by_cases h : x = t
    · subst h; simp
    · have : ¬ t = x := fun e => h e.symm
      simp [h, this]

theorem rn_id : (∀ x : LV, rn (fun i => i) x = x) ∧ (∀ xs : List LV, rnL (fun i => i) xs = xs) := by
  have one : ∀ n, (∀ x : LV, sizeOf x < n → rn (fun i => i) x = x) ∧ (∀ xs : List LV, sizeOf xs < n → rnL (fun i => i) xs = xs) := by
    intro n
    induction n with
    | zero => exact ⟨fun _ h => absurd h (by omega), fun _ h => absurd h (by omega)⟩
    | succ n ih =>
      refine ⟨fun x hs => ?_, fun xs hs => ?_⟩
      · cases x <;> simp only [rn] <;> simp at hs
        · rw [ih.2 _ (by omega), ih.2 _ (by omega)]
        · rw [ih.2 _ (by omega)]
        · rw [ih.2 _ (by omega)]
        · rw [ih.1 _ (by omega)]
      · cases xs with
        | nil => rfl
        | cons x xs =>
          simp at hs
          simp only [rnL]
          rw [ih.1 _ (by omega), ih.2 _ (by omega)]
  exact ⟨fun x => (one (sizeOf x + 1)).1 x (by omega), fun xs => (one (sizeOf xs + 1)).2 xs (by omega)⟩

section
variable {P : Program} {G : Nat → Option (List DV)} {N : Nat} {obj0 : Nat → OSt} {J0 : Nat → Prop} {ι0 : Nat → Nat → Option Nat} {w0 : World}

def AtS (G : Nat → Option (List DV)) (N : Nat) (obj0 : Nat → OSt) (J0 : Nat → Prop) (ι0 : Nat → Nat → Option Nat) (w0 : World) (s : St) (a : Act) (w : World) : Prop := At G N obj0 J0 ι0 w0 s.get s.obj a w

def KQ (G : Nat → Option (List DV)) (N : Nat) (obj0 : Nat → OSt) (J0 : Nat → Prop) (ι0 : Nat → Nat → Option Nat) (w0 : World) (K : Kont) : Exit → Act → World → Prop
  | .normal, a, w => ∃ s, AtS G N obj0 J0 ι0 w0 s a w ∧ K.n s
  | .exit i, a, w => ∃ s, AtS G N obj0 J0 ι0 w0 s a w ∧ K.x i s
  | .ret, a, w => ∃ s, AtS G N obj0 J0 ι0 w0 s a w ∧ K.r s
  | _, _, _ => False

theorem AtS.bound {s : St} {a : Act} {w : World} (h : AtS G N obj0 J0 ι0 w0 s a w) {o n b : Nat} (hb : ι0 o n = some b) : o < s.objs.length := by
  obtain ⟨J, ι, S, E⟩ := h.ex
  have h1 := E.ev.imono o n b hb
  rcases Nat.lt_or_ge o s.objs.length with h2 | h2
  · exact h2
  · have := S.store.rep o
    have hf : s.obj o = .free := objL_free h2
    rw [hf] at this
    rw [this n] at h1; cases h1

theorem AtS.keepE {s : St} {a : Act} {w : World} (h : AtS G N obj0 J0 ι0 w0 s a w) (ts : List Nat) : AtS G N obj0 J0 ι0 w0 { s with env := ts.map fun t => (t, s.get t) } a w := by
  obtain ⟨J, ι, S, E⟩ := h.ex
  refine ⟨J, ι, ⟨S.store, fun t => ?_, S.size, S.defers⟩, E⟩
  show Rep J w ι (getE (ts.map fun t => (t, s.get t)) t) _
  rw [getE_map]
  split
  · exact S.env t
  · trivial

theorem AtS.keep {s : St} {a : Act} {w : World} (h : AtS G N obj0 J0 ι0 w0 s a w) {ts : List Nat} {m : Nat} (hk : s.okKeep ts m) (hm : ∀ o n b, ι0 o n = some b → o < m) : AtS G N obj0 J0 ι0 w0 (s.keep ts m) a w := by
  obtain ⟨J, ι, S, E⟩ := h.ex
  obtain ⟨h1, h2, h3⟩ := hk
  let ι' : Nat → Nat → Option Nat := fun o n => if o < m then ι o n else none
  have hrep : ∀ o n b, o < m → ι ((fun i => i) o) n = some b → ι' o n = some b := fun o n b ho hb => by simp only [ι', if_pos ho]; exact hb
  have hobj : ∀ o, (s.keep ts m).obj o = if o < m then s.obj o else .free := by
    intro o
    show objL (s.objs.take m) o = _
    by_cases ho : o < m
    · rw [if_pos ho]
      simp only [St.obj, objL, List.getElem?_take_of_lt ho]
    · rw [if_neg ho, objL_free (by simp; omega)]
  have hown : ∀ o b, ((s.keep ts m).obj o).own ι' o b → (s.obj o).own ι o b := by
    intro o b hb
    rw [hobj] at hb
    by_cases ho : o < m
    · rw [if_pos ho] at hb
      exact (OSt.own_keep (fun n => by simp only [ι', if_pos ho])).1 hb
    · rw [if_neg ho] at hb; exact hb.elim
  refine ⟨J, ι', ⟨⟨fun o => ?_, fun o o' b k k' => S.store.inj o o' b (hown o b k) (hown o' b k'), fun o b k => S.store.disj o b (hown o b k), S.store.jcell, S.store.glob⟩, fun t => ?_, S.size, S.defers⟩, ?_, ?_⟩
  · rw [hobj]
    by_cases ho : o < m
    · rw [if_pos ho]
      have hr := S.store.rep o
      have hid : ∀ ob, s.obj o = .live ob → idlO m ob = true := fun ob hob => by
        rw [List.all_eq_true] at h2
        have : some ob ∈ s.objs.take m := by
          simp only [St.obj, objL] at hob
          split at hob
          · cases hob
          · cases hob
          · rename_i ob' hh
            cases hob
            exact List.mem_of_getElem? (i := o) (by rw [List.getElem?_take_of_lt ho]; exact hh)
        exact h2 _ this
      have hk : ∀ n, ι' o n = ι o n := fun n => by simp only [ι', if_pos ho]
      cases hs : s.obj o with
      | free => rw [hs] at hr; intro n; rw [hk]; exact hr n
      | dead => trivial
      | live ob =>
        rw [hs] at hr
        have hi := hid ob hs
        cases ob with
        | box et cells =>
          obtain ⟨⟨b, C, k1, k2, k3⟩, _⟩ := hr
          refine ⟨⟨b, C, by rw [hk]; exact k1, k2, RepC.rn (k0 := m) (π := fun i => i) hrep cells _ (by simpa [idlO] using hi) (by rw [rn_id.2]; exact k3)⟩, trivial⟩
        | dat et e rows =>
          obtain ⟨⟨k1, k2⟩, k3⟩ := hr
          exact ⟨⟨by rw [hk]; exact k1, fun b hb => k2 b (by rw [← hk]; exact hb)⟩, fun n hn => by rw [hk]; exact k3 n hn⟩
        | frz et e rows =>
          obtain ⟨⟨k1, k2⟩, k3⟩ := hr
          exact ⟨⟨by rw [hk]; exact k1, fun b hb => k2 b (by rw [← hk]; exact hb)⟩, trivial⟩
    · rw [if_neg ho]; intro n; simp only [ι', if_neg ho]
  · show Rep J w ι' (getE (ts.map fun t => (t, s.get t)) t) _
    rw [getE_map]
    split
    · rename_i ht
      rw [List.all_eq_true] at h1
      exact Rep.rn (k0 := m) (π := fun i => i) hrep _ _ (h1 t ht) (by rw [rn_id.1]; exact S.env t)
    · trivial
  · have hE := E.ev
    exact ⟨hE.os, hE.tape, hE.output, hE.size, hE.same, hE.shape, hE.jmono, hE.jnew, fun o n b hb => by simp only [ι', if_pos (hm o n b hb)]; exact hE.imono o n b hb⟩
  · rintro b ⟨o, hb⟩
    exact E.own b ⟨o, hown o b hb⟩

theorem isNil_eq {x : LV} (h : isNil x = true) : x = .d (.val (.slice none 0 0)) := by
  unfold isNil at h
  split at h
  · rfl
  · cases h

theorem Store.adopt1 {J : Nat → Prop} {w : World} {ι : Nat → Nat → Option Nat} {obj : Nat → OSt} (S : Store G J w ι obj) {base : Nat} (hb : obj base = .free) (et : TypeId) (esz : Nat) :
    Store G J w ι (fun o => if o = base then .live (.dat et esz []) else obj o) ∧ Ext obj (fun o => if o = base then .live (.dat et esz []) else obj o) J J ι ι w w := by
  have hfree : ∀ n, ι base n = none := by have := S.rep base; rw [hb] at this; exact this
  exact Store.turn S base (.live (.dat et esz [])) (Ev.refl (Own ι obj) J ι w) (fun _ _ _ => rfl) (fun _ _ _ => rfl)
    ⟨⟨.inl rfl, fun b hb => by rw [hfree] at hb; cases hb⟩, fun n _ => hfree n⟩ (fun b hb => by
      have : ι base 0 = some b := hb
      rw [hfree] at this; cases this)

theorem objL_snoc (l : List (Option LObj)) (ob : LObj) : objL (l ++ [some ob]) = fun o => if o = l.length then .live ob else objL l o := by
  funext o
  unfold objL
  rcases Nat.lt_trichotomy o l.length with h | h | h
  · rw [List.getElem?_append_left h, if_neg (by omega)]
  · subst h; simp
  · rw [List.getElem?_eq_none (by simp; omega), if_neg (by omega), List.getElem?_eq_none (by omega)]

theorem RepC.set {J : Nat → Prop} {w : World} {ι : Nat → Nat → Option Nat} : ∀ {xs : List LV} {vs : List Value} {i : Nat} {x y : LV}, RepC J w ι xs vs → xs[i]? = some x → (∀ v, Rep J w ι x v → Rep J w ι y v) → RepC J w ι (xs.set i y) vs
  | [], [], i, x, y, _, h, _ => by simp at h
  | z :: xs, v :: vs, 0, x, y, h, hx, hy => by simp at hx; subst hx; exact ⟨h.1, hy v h.2.1, h.2.2⟩
  | z :: xs, v :: vs, i + 1, x, y, h, hx, hy => ⟨h.1, h.2.1, RepC.set h.2.2 (by simpa using hx) hy⟩
  | [], _ :: _, _, _, _, h, _, _ => h.elim
  | _ :: _, [], _, _, _, h, _, _ => h.elim

theorem AtS.ap {s : St} {a : Act} {w : World} (h : AtS G N obj0 J0 ι0 w0 s a w) (x : Ad) : AtS G N obj0 J0 ι0 w0 (x.ap s) a w := by
  cases x with
  | t t et esz =>
    simp only [Ad.ap]
    split
    · rename_i hnil
      obtain ⟨J, ι, S, E⟩ := h.ex
      obtain ⟨S1, E1⟩ := Store.adopt1 S.store (base := s.objs.length) (objL_free (Nat.le_refl _)) et esz
      refine ⟨J, ι, ⟨?_, fun t' => ?_, S.size, S.defers⟩, ?_⟩
      · show Store G J w ι (objL (s.objs ++ [some (.dat et esz [])]))
        rw [objL_snoc]; exact S1
      · show Rep J w ι (if t = t' then _ else getE s.env t') _
        split
        · rename_i ht; subst ht
          have := S.env t
          rw [isNil_eq hnil] at this
          exact .inl ⟨rfl, none, this⟩
        · exact S.env t'
      · show Ext obj0 (objL (s.objs ++ [some (.dat et esz [])])) J0 J ι0 ι w0 w
        rw [objL_snoc]; exact E.trans E1
    · exact h
  | b o col et esz =>
    simp only [Ad.ap]
    split
    · rename_i bt cells ho
      split
      · rename_i v hv
        split
        · rename_i hnil
          obtain ⟨J, ι, S, E⟩ := h.ex
          obtain ⟨S1, E1⟩ := Store.adopt1 S.store (base := s.objs.length) (objL_free (Nat.le_refl _)) et esz
          have holt := objL_lt ho
          have hob1 : (if o = s.objs.length then OSt.live (.dat et esz []) else s.obj o) = .live (.box bt cells) := by rw [if_neg (by omega)]; exact ho
          have h0 := S1.rep o
          simp only [hob1] at h0
          obtain ⟨⟨b, C, h1, h2, h3⟩, _⟩ := h0
          have h4 : RepC J w ι (cells.set col (.sl s.objs.length 0 esz 0 0)) C.toList := h3.set hv (fun u hu => by
            rw [isNil_eq hnil] at hu
            exact .inl ⟨rfl, none, hu⟩)
          obtain ⟨S2, E2⟩ := Store.turn S1 o (.live (.box bt (cells.set col (.sl s.objs.length 0 esz 0 0)))) (Ev.refl _ J ι w) (fun _ _ _ => rfl) (fun _ _ _ => rfl)
            ⟨⟨b, C, h1, h2, h4⟩, trivial⟩ (fun k hk => .inl (by simp only [hob1]; exact hk))
          have hobj : objL (s.objs.set o (some (.box bt (cells.set col (.sl s.objs.length 0 esz 0 0)))) ++ [some (.dat et esz [])]) = fun q => if q = o then .live (.box bt (cells.set col (.sl s.objs.length 0 esz 0 0))) else if q = s.objs.length then .live (.dat et esz []) else s.obj q := by
            rw [objL_snoc, List.length_set]
            funext q
            by_cases hq : q = o
            · subst hq
              rw [if_pos rfl, if_neg (by omega)]
              unfold objL
              rw [List.getElem?_set_self holt]
            · rw [if_neg hq]
              by_cases hq2 : q = s.objs.length
              · rw [if_pos hq2, if_pos hq2]
              · rw [if_neg hq2, if_neg hq2]
                simp only [objL, St.obj, List.getElem?_set_ne (fun e => hq e.symm)]
          refine ⟨J, ι, ⟨?_, S.env, S.size, S.defers⟩, ?_⟩
          · show Store G J w ι (objL (_ ++ _))
            rw [hobj]; exact S2
          · show Ext obj0 (objL (_ ++ _)) J0 J ι0 ι w0 w
            rw [hobj]; exact (E.trans E1).trans E2
        · exact h
      · exact h
    · exact h

theorem AtS.adopt {a : Act} {w : World} : ∀ (ad : List Ad) {s : St}, AtS G N obj0 J0 ι0 w0 s a w → AtS G N obj0 J0 ι0 w0 (Dv.adopt ad s) a w
  | [], _, h => h
  | x :: xs, _, h => AtS.adopt xs (h.ap x)

/-- THE CODE DOES WHAT vc SAYS. -/
theorem vc_sound : ∀ (code : Code) (c : C), convC P N code = some c → ∀ (s : St) (K : Kont), vc P G c s K → ∀ a w, AtS G N obj0 J0 ι0 w0 s a w → code.wp P (KQ G N obj0 J0 ι0 w0 K) a w
  | .skip, c, hc, s, K, h, a, w, hA => by
    simp only [convC] at hc; cases hc
    exact wp_skip ⟨s, hA, h⟩
  | .region rid ops draw, c, hc, s, K, h, a, w, hA => by
    simp only [convC] at hc
    split at hc
    · rename_i ios hios
      cases hc
      cases draw with
      | false =>
        simp only [Bool.false_eq_true, if_false, vc] at h
        simp only [convReg, Bool.false_eq_true, if_false] at hios
        obtain ⟨h1, h2⟩ := convOps_get hios
        exact wp_region_list (seq_sound (K := K.n) (fun s a w hA hK => ⟨s, hA, hK⟩) _ _ _ _ _ h1 h2 h hA)
      | true =>
        simp only [if_true, vc] at h
        exact draw_sound (K := K.n) (fun s a w hA hK => ⟨s, hA, hK⟩) hios h hA
    · cases hc
  | .seq x y, c, hc, s, K, h, a, w, hA => by
    simp only [convC] at hc
    split at hc
    · rename_i cx cy h1 h2
      cases hc
      refine wp_seq (wp_mono (vc_sound x cx h1 s _ h a w hA) (fun e a' w' hq => ?_))
      cases e with
      | normal => obtain ⟨s', hA', hk⟩ := hq; exact vc_sound y cy h2 s' K hk a' w' hA'
      | exit i => exact hq
      | ret => exact hq
      | goto l => exact hq.elim
      | panic ch => exact hq.elim
      | outgrown => exact hq.elim
    · cases hc
  | .cond x y z, c, hc, s, K, h, a, w, hA => by
    simp only [convC] at hc
    split at hc
    · rename_i cx cy cz h1 h2 h3
      cases hc
      simp only [vc] at h
      split at h
      · rename_i t ht
        have hv : a.eval x = .bool t := by
          obtain ⟨J, ι, S, E⟩ := hA.ex
          have hr := rep_ev S.store S.env h1
          rw [ht] at hr
          exact hr
        exact wp_cond_split hv (fun hh => vc_sound y cy h2 s K (by rw [if_pos hh] at h; exact h) a w hA) (fun hh => vc_sound z cz h3 s K (by rw [if_neg (by simp [hh])] at h; exact h) a w hA)
      · rename_i ht
        obtain ⟨t, hv⟩ : ∃ t, a.eval x = .bool t := by
          obtain ⟨J, ι, S, E⟩ := hA.ex
          have hr := rep_ev S.store S.env h1
          rw [ht] at hr
          exact hr
        exact wp_cond_split hv (fun hh => vc_sound y cy h2 s K h.1 a w hA) (fun hh => vc_sound z cz h3 s K h.2 a w hA)
      · exact h.elim
    · cases hc
  | .block i x, c, hc, s, K, h, a, w, hA => by
    simp only [convC] at hc
    split at hc
    · rename_i cx h1
      cases hc
      refine wp_block (wp_mono (vc_sound x cx h1 s _ h a w hA) (fun e a' w' hq => ?_))
      cases e with
      | normal => exact hq
      | exit j =>
        obtain ⟨s', hA', hk⟩ := hq
        simp only [Exit.inBlock]
        dsimp only at hk
        by_cases hj : j = i
        · rw [if_pos hj] at hk ⊢; exact ⟨s', hA', hk⟩
        · rw [if_neg hj] at hk ⊢; exact ⟨s', hA', hk⟩
      | ret => exact hq
      | goto l => exact hq.elim
      | panic ch => exact hq.elim
      | outgrown => exact hq.elim
    · cases hc
  | .loop x, c, hc, s, K, h, a, w, hA => by
    simp only [convC] at hc
    split at hc
    · rename_i cx h1
      cases hc
      simp only [vc] at h
      obtain ⟨ts, I, M, ad, hI, hstep⟩ := h
      replace hA := hA.adopt ad
      have hm : ∀ o n b, ι0 o n = some b → o < (adopt ad s).objs.length := fun o n b hb => hA.bound hb
      have key : ∀ n k s' a w, k < n → I k s' → AtS G N obj0 J0 ι0 w0 s' a w → Code.rounds P x (KQ G N obj0 J0 ι0 w0 K) n a w := by
        intro n
        induction n with
        | zero => intro k _ _ _ hk; omega
        | succ n ih =>
          intro k s' a w hk hIk hA'
          rw [rounds_succ]
          refine wp_mono (vc_sound x cx h1 s' _ (hstep k s' hIk) a w hA') (fun e a' w' hq => ?_)
          cases e with
          | normal =>
            obtain ⟨s'', hA'', hok, j, hj, hIj⟩ := hq
            exact ih j _ a' w' (by omega) hIj (hA''.keep hok hm)
          | exit i => exact hq
          | ret => exact hq
          | goto l => exact hq.elim
          | panic ch => exact hq.elim
          | outgrown => exact hq.elim
      exact wp_loop_rounds (M + 1) (key (M + 1) M _ a w (by omega) hI (hA.keepE ts))
    · cases hc
  | .exit i, c, hc, s, K, h, a, w, hA => by
    simp only [convC] at hc; cases hc
    exact wp_exit ⟨s, hA, h⟩
  | .scope x, c, hc, s, K, h, a, w, hA => by
    simp only [convC] at hc
    split at hc
    · rename_i cx h1
      cases hc
      refine wp_scope_straight (wp_mono (vc_sound x cx h1 s K h a w hA) (fun e a' w' hq => ?_))
      cases e with
      | normal => exact hq
      | exit i => exact hq
      | ret => exact hq
      | goto l => exact hq.elim
      | panic ch => exact hq.elim
      | outgrown => exact hq.elim
    · cases hc
  | .ret, c, hc, s, K, h, a, w, hA => by
    simp only [convC] at hc; cases hc
    exact wp_ret ⟨s, hA, h⟩
  | .rangeFunc .., c, hc, _, _, _, _, _, _ => by simp [convC] at hc
  | .label _, c, hc, s, K, h, a, w, hA => by
    simp only [convC] at hc; cases hc
    exact wp_label ⟨s, hA, h⟩
  | .goto _, c, hc, _, _, _, _, _, _ => by simp [convC] at hc
  | .refuse _, c, hc, _, _, _, _, _, _ => by simp [convC] at hc

end
/-! ## Functions -/
def RV.of (s : St) : RV → Option LV
  | .t n => some (s.get n)
  | .c1 n => match s.get n with
    | .ptr o col => match s.obj o with
      | .live (.box _ cells) => cells[col]?
      | _ => none
    | _ => none
  | .cn n size => match s.get n with
    | .ptr o col => match s.obj o with
      | .live (.box _ cells) => if ((cells.drop col).take size).length = size then some (.agg ((cells.drop col).take size)) else none
      | _ => none
    | _ => none

def RVs.of (s : St) : List RV → Option (List LV)
  | [] => some []
  | x :: xs => match x.of s, RVs.of s xs with
    | some v, some vs => some (v :: vs)
    | _, _ => none

def oneOr : List LV → LV
  | [x] => x
  | xs => .tup xs

def convRV (P : Program) : ResultVar → Option RV
  | .tmp t => some (.t t)
  | .cell a T => match aggT P T, sizeT P T with
    | some true, some n => some (.cn a n)
    | some false, some _ => some (.c1 a)
    | _, _ => none

def convRVs (P : Program) : List ResultVar → Option (List RV)
  | [] => some []
  | x :: xs => match convRV P x, convRVs P xs with
    | some y, some ys => some (y :: ys)
    | _, _ => none

def convFn (P : Program) (fn : Func) : Option (Nat × C × List RV) := match fn.body with
  | some code => match convC P fn.ntmps code, convRVs P fn.results.toList with
    | some c, some rv => some (fn.ntmps, c, rv)
    | _, _ => none
  | none => none

def argEnv : Nat → List LV → List (Nat × LV)
  | _, [] => []
  | k, x :: xs => (k, x) :: argEnv (k + 1) xs

/-- What a frame hands back. ρ: the objects that go on living, Z: those that are read from now on. -/
def Back1 (rv : List RV) (k : Nat) (r : LV) (fobjs' : List LObj) (s : St) : Prop :=
  ∃ vs ρ Z, RVs.of s rv = some vs ∧ ρ.take k = List.range k ∧ ρ.Nodup ∧ (∀ z ∈ Z, z ∉ ρ) ∧ (∀ z ∈ Z, ∃ et e rows, s.obj z = .live (.dat et e rows) ∨ s.obj z = .live (.frz et e rows)) ∧ fobjs'.length = ρ.length ∧
    (∀ (i o : Nat), ρ[i]? = some o → ∃ ob, fobjs'[i]? = some ob ∧ s.obj o = .live (rnO (piOf ρ 0) ob)) ∧ fobjs'.all (idlO ρ.length) = true ∧ argR s.obj ρ Z (oneOr vs) r

/-- the same, where nil slices may be taken for slices of rows that aren't there yet. -/
def Back (rv : List RV) (k : Nat) (r : LV) (fobjs' : List LObj) (s : St) : Prop := ∃ ad, Back1 rv k r fobjs' (adopt ad s)

def resF (tmps : Array Value) : ResultVar → Sem Value
  | .tmp q => pure (tmps.getD q Go.undef)
  | .cell p T => do loadVar T (← asAddr (tmps.getD p Go.undef))

theorem results_eq (fn : Func) (tmps : Array Value) : results fn tmps = (do let vs ← fn.results.mapM (resF tmps); pure (if h : vs.size = 1 then vs[0] else .tuple vs)) := rfl

section
variable {P : Program} {G : Nat → Option (List DV)} {N : Nat} {J : Nat → Prop} {w : World} {ι : Nat → Nat → Option Nat}

theorem RV.sound {s : St} {a : Act} (S : Store G J w ι s.obj) (he : ∀ t, Rep J w ι (s.get t) (a.tmps.getD t Go.undef)) {x : ResultVar} {y : RV} (hc : convRV P x = some y) {r : LV} (hr : y.of s = some r) :
    ∃ v, (resF a.tmps x).run P w = .ok v w ∧ Rep J w ι r v := by
  cases x with
  | tmp q =>
    simp only [convRV] at hc; cases hc
    simp only [RV.of] at hr; cases hr
    exact ⟨_, rfl, he q⟩
  | cell p T =>
    simp only [convRV] at hc
    split at hc
    · rename_i n ha hs
      cases hc
      simp only [RV.of] at hr
      split at hr
      · rename_i o col hg
        split at hr
        · rename_i et cells ho
          split at hr
          · rename_i hl
            cases hr
            have hp := he p
            rw [hg] at hp
            obtain ⟨b, hb, hv⟩ := hp
            have h0 := S.rep o
            rw [ho] at h0
            obtain ⟨⟨b', Cc, h1, h2, h3⟩, _⟩ := h0
            rw [hb] at h1; cases h1
            have h4 := (h3.drop col).take n
            have hrun := run_ldn (P := P) ha hs (rangeAt_of_row h2 col n) (by rw [← h4.length, hl])
            refine ⟨_, ?_, ⟨_, rfl, by simpa using h4⟩⟩
            simp only [resF]
            rw [hv]
            simpa [Instr.loadAt, Instr.sureAddr, asAddr] using hrun
          · cases hr
        · cases hr
      · cases hr
    · rename_i n ha hs
      cases hc
      simp only [RV.of] at hr
      split at hr
      · rename_i o col hg
        split at hr
        · rename_i et cells ho
          have hp := he p
          rw [hg] at hp
          obtain ⟨b, hb, hv⟩ := hp
          have h0 := S.rep o
          rw [ho] at h0
          obtain ⟨⟨b', Cc, h1, h2, h3⟩, _⟩ := h0
          rw [hb] at h1; cases h1
          obtain ⟨u, hu, _, hru⟩ := h3.get hr
          have hrun := run_ld1 (P := P) (w := w) ha (b := b) (o := col) (v := u) (by rw [cell_of_row w b col Cc et _ h2]; simpa using hu)
          refine ⟨u, ?_, hru⟩
          simp only [resF]
          rw [hv]
          simpa [Instr.loadAt, Instr.sureAddr, asAddr] using hrun
        · cases hr
      · cases hr
    · cases hc

theorem RVs.sound {s : St} {a : Act} (S : Store G J w ι s.obj) (he : ∀ t, Rep J w ι (s.get t) (a.tmps.getD t Go.undef)) : ∀ {xs : List ResultVar} {ys : List RV}, convRVs P xs = some ys → ∀ {rs : List LV}, RVs.of s ys = some rs →
    ∃ vs, (xs.mapM (resF a.tmps)).run P w = .ok vs w ∧ RepL J w ι rs vs
  | [], ys, hc, rs, hr => by
    simp only [convRVs] at hc; cases hc
    simp only [RVs.of] at hr; cases hr
    exact ⟨[], rfl, trivial⟩
  | x :: xs, ys, hc, rs, hr => by
    simp only [convRVs] at hc
    split at hc
    · rename_i y ys' h1 h2
      cases hc
      simp only [RVs.of] at hr
      split at hr
      · rename_i v vs h3 h4
        cases hr
        obtain ⟨u, hu, hru⟩ := RV.sound S he h1 h3
        obtain ⟨us, hus, hrus⟩ := RVs.sound S he h2 h4
        refine ⟨u :: us, ?_, hru, hrus⟩
        rw [List.mapM_cons, Sem.run_bind, hu]
        simp only [Result.andThen_ok, Sem.run_bind, hus, Sem.run_pure]
      · cases hr
    · cases hc

theorem argEnv_rep : ∀ (xs : List LV) (vs : List Value) (k t : Nat), RepL J w ι xs vs → Rep J w ι (getE (argEnv k xs) t) (if k ≤ t then (vs[t - k]?).getD Go.undef else Go.undef)
  | [], [], k, t, _ => trivial
  | x :: xs, v :: vs, k, t, h => by
    simp only [argEnv, getE]
    by_cases hk : k = t
    · subst hk; simpa using h.1
    · rw [if_neg hk]
      have := argEnv_rep xs vs (k + 1) t h.2
      by_cases hlt : k ≤ t
      · rw [if_pos (by omega)] at this
        rw [if_pos hlt]
        have e : t - k = (t - (k + 1)) + 1 := by omega
        rw [e]; simpa using this
      · rw [if_neg (by omega)] at this
        rw [if_neg hlt]; exact this
  | [], _ :: _, _, _, h => h.elim
  | _ :: _, [], _, _, h => h.elim

/-- A FUNCTION KEEPS ITS CONTRACT, if its text's vc holds. -/
theorem tri_of {f : Nat} {fn : Func} {c : C} {rv : List RV} {args : List LV} {fobjs fobjs' : List LObj} {r : LV} (hf : P.funcs[f]? = some fn) (hn : fn.name ≠ "runtime.NumGoroutine") (hcv : convFn P fn = some (N, c, rv)) (hl : args.length ≤ N)
    (h : vc P G c ⟨argEnv 0 args, fobjs.map some⟩ ⟨Back rv fobjs.length r fobjs', fun _ _ => False, Back rv fobjs.length r fobjs'⟩) : Tri P G f args fobjs r fobjs' := by
  unfold convFn at hcv
  split at hcv
  · rename_i code hbody
    split at hcv
    · rename_i c' rv' hc hrv
      cases hcv
      refine ⟨by simp [entersT, hf, hn, hbody], fun J0 ι0 w0 vs S0 hargs => ?_⟩
      have hvl : vs.size = args.length := by have := hargs.length; simpa using this.symm
      refine calls_of_wp hf hbody (wp_mono (vc_sound (N := fn.ntmps) (obj0 := objL (fobjs.map some)) (J0 := J0) (ι0 := ι0) (w0 := w0) code c hc _ _ h _ w0 ⟨J0, ι0, ⟨S0, fun t => ?_, ?_, rfl⟩, Ext.refl ..⟩) (fun e a w hq => ?_))
      · have h1 := argEnv_rep args vs.toList 0 t hargs
        simp only [Nat.zero_le, if_true, Nat.sub_zero] at h1
        have h2 : (vs ++ Array.replicate (fn.ntmps - vs.size) Go.undef).getD t Go.undef = (vs.toList[t]?).getD Go.undef := by
          simp only [Array.getD_eq_getD_getElem?, Array.getElem?_append, Array.getElem?_toList]
          by_cases ht : t < vs.size
          · rw [if_pos ht]
          · rw [if_neg ht, Array.getElem?_eq_none (Nat.le_of_not_lt ht), Array.getElem?_replicate]
            split <;> rfl
        rw [h2]; exact h1
      · simp; omega
      · have fin : ∀ s, AtS G fn.ntmps (objL (fobjs.map some)) J0 ι0 w0 s a w → Back rv fobjs.length r fobjs' s →
            a.defers = [] ∧ ∃ v, (results fn a.tmps).run P w = .ok v w ∧ ∃ v', Ending.returned v = .returned v' ∧ After G (objL (fobjs.map some)) (objL (fobjs'.map some)) J0 ι0 w0 r v' w := by
          intro s hA hB
          obtain ⟨ad, hB⟩ := hB
          replace hA := hA.adopt ad
          generalize adopt ad s = s at hA hB
          obtain ⟨J, ι, S, E⟩ := hA.ex
          obtain ⟨rs, ρ, Z, hrs, hk, hnd, hz, hZd, hlen, hob, hid, hR⟩ := hB
          refine ⟨S.defers, ?_⟩
          obtain ⟨us, hus, hrus⟩ := RVs.sound S.store S.env hrv hrs
          have hm : (fn.results.mapM (resF a.tmps)).run P w = .ok us.toArray w := by
            rw [Array.mapM_eq_mapM_toList, Sem.run_map, hus]; rfl
          have hv : ∃ v, (results fn a.tmps).run P w = .ok v w ∧ Rep J w ι (oneOr rs) v := by
            refine ⟨if h : us.toArray.size = 1 then us.toArray[0] else .tuple us.toArray, ?_, ?_⟩
            · rw [results_eq, Sem.run_bind, hm]
              rfl
            · have hul := hrus.length
              cases rs with
              | nil =>
                cases us with
                | nil => exact ⟨#[], rfl, trivial⟩
                | cons _ _ => simp at hul
              | cons x xs =>
                cases us with
                | nil => simp at hul
                | cons u us =>
                  cases xs with
                  | nil =>
                    cases us with
                    | nil => exact hrus.1
                    | cons _ _ => simp at hul
                  | cons y ys =>
                    cases us with
                    | nil => simp at hul
                    | cons u2 us => exact ⟨_, by simp, hrus⟩
          obtain ⟨v, hv1, hv2⟩ := hv
          refine ⟨v, hv1, v, rfl, ?_⟩
          obtain ⟨S', hown⟩ := S.store.sub (base := 0) hnd hz hlen hob hid
          refine ⟨_, _, S', argR_sound S.store _ _ v hR hv2, ⟨E.ev.os, E.ev.tape, E.ev.output, E.ev.size, E.ev.same, E.ev.shape, fun b hb => .inl (E.ev.jmono b hb), fun b hb => ?_, fun o n b hb => ?_⟩, ?_⟩
          · rcases hb with hb | ⟨z, hz1, hz2⟩
            · exact E.ev.jnew b hb
            · rcases E.own b ⟨z, hz2⟩ with h1 | h1
              · exact .inr (.inr h1)
              · exact .inr (.inl h1)
          · have ho : o < fobjs.length := by
              rcases Nat.lt_or_ge o fobjs.length with h1 | h1
              · exact h1
              · have := S0.rep o
                rw [objL_free (by simpa using h1)] at this
                rw [this n] at hb; cases hb
            have hρo : ρ[o]? = some o := by
              have h1 : (ρ.take fobjs.length)[o]? = some o := by rw [hk]; simp [ho]
              rwa [List.getElem?_take_of_lt ho] at h1
            exact sub_some hρo (E.ev.imono o n b hb)
          · rintro b ⟨i, hb⟩
            obtain ⟨o, _, h2⟩ := hown i b hb
            exact E.own b ⟨o, h2⟩
        cases e with
        | normal => obtain ⟨s, hA, hB⟩ := hq; exact fin s hA hB
        | ret => obtain ⟨s, hA, hB⟩ := hq; exact fin s hA hB
        | exit i => obtain ⟨s, hA, hB⟩ := hq; exact hB.elim
        | goto l => exact hq.elim
        | panic ch => exact hq.elim
        | outgrown => exact hq.elim
    · cases hcv
  · cases hcv
end
end Dv
