/- image.Get: its contract. -/
import Derived.Test.YtbhdfmgphcelhaaDoorI6
import Derived.Test.YtbhdfmgphcelhaaDoorVD
set_option linter.unusedVariables false
set_option linter.unusedSimpArgs false
namespace Dv
open Go Go.Proofs
open Go.RowKit
variable {G : Nat → Option (List DV)}

def getOf (q : Option StateD) : LV := .tup [stateV (q.getD zeroS), .bool q.isSome]
def midOf : Option Code → Code
  | some (.seq _ (.seq b _)) => b
  | _ => .skip
theorem get_body : Tryd.f11.body = some (.seq (headOf Tryd.f11.body) (.seq (midOf Tryd.f11.body) (restOf Tryd.f11.body))) := by kernel_rfl
theorem get_rv : convRVs Tryd.prog Tryd.f11.results.toList = some [.cn 4 6, .c1 5] := by kernel_rfl

theorem get_mid {Q : Exit → Act → World → Prop} {a : Act} {w : World} (hs : a.tmps.size = 33) {bs bk : Nat} (h4 : a.tmps.getD 4 Go.undef = .pointer (some ⟨bs, 0, none⟩)) (h5 : a.tmps.getD 5 Go.undef = .pointer (some ⟨bk, 0, none⟩))
    (hQ : ∀ a' : Act, a'.defers = { target := .fn (.func 22) #[.pointer (some ⟨bs, 0, none⟩), .pointer (some ⟨bk, 0, none⟩)], args := #[] } :: a.defers → a'.tmps.size = 33 → (∀ t, t ≠ 9 → a'.tmps.getD t Go.undef = a.tmps.getD t Go.undef) → Q .normal a' w) : (midOf Tryd.f11.body).wp Tryd.prog Q a w := by
  refine wp_region_list ?_
  refine wpList_plain rfl (fun K hK => ?_)
  have e4 : a.eval (.tmp 4) = .pointer (some ⟨bs, 0, none⟩) := by
    rw [← h4]; simp [Act.eval, Array.getD_eq_getD_getElem?]
  have e5 : a.eval (.tmp 5) = .pointer (some ⟨bk, 0, none⟩) := by
    rw [← h5]; simp [Act.eval, Array.getD_eq_getD_getElem?]
  refine Goes.of_run (v := .func (.func 22) #[] #[.pointer (some ⟨bs, 0, none⟩), .pointer (some ⟨bk, 0, none⟩)]) (w' := w) (post := fun v' w' => v' = .func (.func 22) #[] #[.pointer (some ⟨bs, 0, none⟩), .pointer (some ⟨bk, 0, none⟩)] ∧ w' = w) ?_ ⟨rfl, rfl⟩ K _ (fun v' w' h => ?_)
  · simp [execOp, go_sem, e4, e5]
    exact ⟨by simpa [Array.getD_eq_getD_getElem?] using h4, by simpa [Array.getD_eq_getD_getElem?] using h5⟩
  obtain ⟨rfl, rfl⟩ := h
  refine hK _ _ ?_
  clear hK
  refine wpList_plain rfl (fun K hK => ?_)
  have e9 : (a.put (some 9) (.func (.func 22) #[] #[.pointer (some ⟨bs, 0, none⟩), .pointer (some ⟨bk, 0, none⟩)])).eval (.tmp 9) = .func (.func 22) #[] #[.pointer (some ⟨bs, 0, none⟩), .pointer (some ⟨bk, 0, none⟩)] := by
    simp [Act.eval, Act.put, hs]
  unfold Oper.wp
  have hrun : (execOp (a.put (some 9) (.func (.func 22) #[] #[.pointer (some ⟨bs, 0, none⟩), .pointer (some ⟨bk, 0, none⟩)])).eval
      { dst := none, op := Op.defer { callee := Callee.value (Operand.tmp 9), args := #[], argTypes := #[] }, type := 0, pos := "image.go:88", after := #[{ on := 0, ground := Ground.data }], guard := none }).run Tryd.prog w' = .ok (.defer { target := .fn (.func 22) #[.pointer (some ⟨bs, 0, none⟩), .pointer (some ⟨bk, 0, none⟩)], args := #[] }) w' := by
    simp [execOp, resolve, Deferred.ofValue, e9, hs, go_sem]
  rw [hrun, Oper.upon_defer]
  refine hK _ _ (wpList_nil (hQ _ rfl ?_ ?_))
  · simp [Act.put, hs]
  · intro t ht
    simp [Act.put, Array.getD_eq_getD_getElem?, Array.getElem?_setIfInBounds_ne (fun e => ht e.symm)]

/-- the deferred call leaves the frame with what its walk says. -/
def dG (bs bk : Nat) : Deferred := { target := .fn (.func 22) #[.pointer (some ⟨bs, 0, none⟩), .pointer (some ⟨bk, 0, none⟩)], args := #[] }
theorem dG_invoke (bs bk : Nat) (w : World) : (invoke (.fn (.func 22) #[.pointer (some ⟨bs, 0, none⟩), .pointer (some ⟨bk, 0, none⟩)]) #[]).run Tryd.prog w = .ok (.enter 22 #[.pointer (some ⟨bs, 0, none⟩), .pointer (some ⟨bk, 0, none⟩)]) w := by
  simp only [invoke]
  exact enter_run (by decide) _ w
theorem get_tri (c : ConfD) (b : List Int) (hb : ∀ x ∈ b, 0 ≤ x ∧ x ≤ 255) (hl : b.length ≤ 1000000) : Tri Tryd.prog G 11 [confV c, bytesV b] [] (getOf (getI c b)) [] := by
  refine ⟨by decide, fun J0 ι0 w0 vs S0 hargs => ?_⟩
  refine calls_of_wp_defers Tryd.func11 get_body ?_
  refine wp_seq_vc getA_ok (s1 := getS c b) ?_ (at_args (n := 33) (fobjs := []) S0 hargs (show 2 ≤ 33 by decide)) (fun a w hA => ?_)
  · simp [getA, vc, vcOps, vcG, vcE, effF, getS, confV, argEnv, Opd.ev, St.get, getE, St.app, putE, updL, LV.cells, nilV, LV.int, LV.bool]
  obtain ⟨J1, ι1, S1, E1⟩ := hA.ex
  obtain ⟨bs, hbs, h4⟩ := S1.env 4
  obtain ⟨bk, hbk, h5⟩ := S1.env 5
  refine wp_seq (get_mid S1.size h4 h5 (fun a1 hd hs ht => ?_))
  show (restOf Tryd.f11.body).wp Tryd.prog _ a1 w
  have hAt1 : AtS G [dG bs bk] 33 (getS c b).obj J1 ι1 w (getS c b) a1 w := by
    refine ⟨J1, ι1, ⟨S1.store, fun t => ?_, hs, by rw [hd, S1.defers]; rfl⟩, Ext.refl ..⟩
    by_cases h9 : t = 9
    · subst h9; trivial
    · rw [ht t h9]; exact S1.env t
  have hw := get_walk (G := G) c b hb hl
  generalize getI c b = q at *
  refine wp_end_vc (fin := gFin c b q) (pan := fun s => q = none ∧ gPan s) getB_ok ?_ hAt1 ?_ ?_
  · simp only [W] at hw
    refine vc_mono _ _ ⟨W Tryd.prog G (gFin c b q) (gTail q), fun i s' => Wx Tryd.prog G (gFin c b q) i (gTail q) s', gFin c b q⟩ ⟨gFin c b q, fun i s => i = PAN ∧ (q = none ∧ gPan s), gFin c b q⟩ (fun s h => ?_) (fun i s h => ?_) (fun s h => h) hw
    · cases q with
      | none => simpa only [gTail, W] using h
      | some s0 => simpa only [gTail, W] using h
    · cases q with
      | none =>
        simp only [gTail, Wx] at h
        split at h
        · rename_i hi; exact ⟨hi, rfl, h⟩
        · exact h.elim
      | some s0 => simp only [gTail, Wx] at h
  · intro s a2 w2 hA2 hfin
    obtain ⟨J2, ι2, S2, E2⟩ := hA2.ex
    cases q with
    | none => exact hfin.elim
    | some s0 =>
    obtain ⟨g4, g5, ho2, cells, Z, ho1, hl6, hZ, hR⟩ := hfin
    have hL : Leaves Tryd.prog Tryd.f11 a2.tmps (fun e w' => ∃ v, e = Ending.returned v ∧ After G (objL (List.map some [])) (objL (List.map some [])) J0 ι0 w0 (getOf (some s0)) v w') a2.defers .returning w2 := by
      rw [S2.defers]
      refine leaves_cons (by simp) (dG_invoke bs bk w2) ((catch_idle _ _ w2).mono ?_)
      rintro e u' w' ⟨rfl, rfl, rfl⟩
      obtain ⟨v, hv1, hv2⟩ := ends_of (r := getOf (some s0)) Z S2.store S2.env S0 (E1.trans E2) get_rv (rs := [.agg cells, .bool true]) (by
        have : List.take 6 cells = cells := List.take_of_length_le (by omega)
        simp [RVs.of, RV.of, g4, g5, ho1, ho2, hl6, this, LV.bool]) hZ (by
        simp [oneOr, getOf, argR, argRs, LV.bool]
        exact hR)
      exact ⟨v, hv1, v, rfl, hv2⟩
    exact ⟨hL, hL⟩
  · rintro v s a2 w2 hd2 ⟨J2, ι2, S2, E2, env2⟩ ⟨rfl, hv, g4, g5, cells, x, ho1, hl6, ho2⟩
    have hv : v = noneV := by simpa [panicSt, St.get, getE] using hv
    subst hv
    have g4 : s.get 4 = .ptr 1 0 := by simpa [panicSt, St.get, getE, PAN] using g4
    have g5 : s.get 5 = .ptr 2 0 := by simpa [panicSt, St.get, getE, PAN] using g5
    have ho1 : s.obj 1 = .live (.box 27 cells) := ho1
    have ho2 : s.obj 2 = .live (.box 4 [x]) := ho2
    have hb1 : ι2 1 0 = some bs := E2.ev.imono 1 0 bs hbs
    have hb2 : ι2 2 0 = some bk := E2.ev.imono 2 0 bk hbk
    have r1 := S2.rep 1
    rw [ho1] at r1
    obtain ⟨⟨b1, C, k1, k2, k3⟩, _⟩ := r1
    rw [hb1] at k1; cases k1
    have r2 := S2.rep 2
    rw [ho2] at r2
    obtain ⟨⟨b2, C2, m1, m2, m3⟩, _⟩ := r2
    rw [hb2] at m1; cases m1
    have hC : C.size = 6 := by have := k3.length; simp at this; omega
    obtain ⟨C2⟩ := C2
    match C2, m3 with
    | [x2], _ =>
    have hne : bs ≠ bk := fun e => by
      have := S2.inj 1 2 bs (by rw [ho1]; exact hb1) (by rw [ho2, e]; exact hb2)
      cases this
    have hlen : 2 < s.objs.length := objL_lt ho2
    obtain ⟨J3, ι3, S3, _, E3⟩ := After.box S2 (base := s.objs.length) (objL_free (Nat.le_refl _)) 69 [] #[] trivial
    obtain ⟨b1', j1, _, J4, ι4, S4, _, E4⟩ := After.setBox S3 (o := 1) (et := 27) (cells := cells) (cs := [nilV, nilV, .int 0, .int 0, .int 0, .int 0]) (vs := zeroSV.cells.toList) (col := 0) (by rw [if_neg (by omega)]; exact ho1)
      (by simp [RepC, Rep, RepD, zeroSV, nilV, LV.int, Value.cells, Value.oneCell']) (by simp [hl6])
    have e1 : b1' = bs := by have := E3.ev.imono 1 0 bs hb1; rw [this] at j1; exact (Option.some.inj j1).symm
    subst e1
    obtain ⟨b2', j2, _, J5, ι5, S5, _, E5⟩ := After.setBox S4 (o := 2) (et := 4) (cells := [x]) (cs := [.bool false]) (vs := [.bool false]) (col := 0) (by rw [if_neg (by omega), if_neg (by omega)]; exact ho2)
      (by simp [RepC, Rep, RepD, LV.bool, Value.oneCell']) (by simp)
    have e2 : b2' = bk := by have := E4.ev.imono 2 0 bk (E3.ev.imono 2 0 bk hb2); rw [this] at j2; exact (Option.some.inj j2).symm
    subst e2
    obtain ⟨s3, hs3⟩ : ∃ s3 : St, s3 = ⟨s.env, ((s.objs ++ [some (LObj.box 69 [])]).set 1 (some (LObj.box 27 (splice cells 0 [nilV, nilV, .int 0, .int 0, .int 0, .int 0])))).set 2 (some (LObj.box 4 (splice [x] 0 [.bool false])))⟩ := ⟨_, rfl⟩
    have hobj : s3.obj = fun o => if o = 2 then .live (.box 4 (splice [x] 0 [.bool false])) else if o = 1 then .live (.box 27 (splice cells 0 [nilV, nilV, .int 0, .int 0, .int 0, .int 0])) else if o = s.objs.length then .live (.box 69 []) else s.obj o := by
      subst hs3
      exact (objL_set (by simp; omega) _).trans (by rw [objL_set (by simp; omega), objL_snoc]; rfl)
    have S5' : Store G J5 (((w2.alloc (.cells #[] 69)).setCells b1' 0 zeroSV.cells.toList).setCells b2' 0 [.bool false]) ι5 s3.obj := by rw [hobj]; exact S5
    have E5' := E5
    rw [← hobj] at E5'
    have h6 : splice cells 0 [nilV, nilV, .int 0, .int 0, .int 0, .int 0] = [nilV, nilV, .int 0, .int 0, .int 0, .int 0] := by
      simp only [splice, List.take_zero, List.nil_append, List.length_cons, List.length_nil]
      rw [List.drop_eq_nil_of_le (by omega), List.append_nil]
    have q1 : s3.obj 1 = .live (.box 27 [nilV, nilV, .int 0, .int 0, .int 0, .int 0]) := by rw [hobj, h6]; rfl
    have q2 : s3.obj 2 = .live (.box 4 [.bool false]) := by rw [hobj]; rfl
    have p4 : s3.get 4 = .ptr 1 0 := by subst hs3; exact g4
    have p5 : s3.get 5 = .ptr 2 0 := by subst hs3; exact g5
    have env5 : ∀ t, Rep J5 (((w2.alloc (.cells #[] 69)).setCells b1' 0 zeroSV.cells.toList).setCells b2' 0 [.bool false]) ι5 (s3.get t) (a2.tmps.getD t Go.undef) := fun t => by
      have : s3.get t = s.get t := by subst hs3; rfl
      rw [this]
      exact (((env2 t).ev S2 E3.ev).ev S3 E4.ev).ev S4 E5.ev
    have hL : Leaves Tryd.prog Tryd.f11 a2.tmps (fun e w' => ∃ v, e = Ending.returned v ∧ After G (objL (List.map some [])) (objL (List.map some [])) J0 ι0 w0 (getOf none) v w') a2.defers (.panicking [{ v := noneV, recovered := false }]) w2 := by
      rw [hd2]
      refine leaves_cons (by simp) (dG_invoke _ _ w2) ((catch_pan _ _ C x2 w2 k2 hC m2 hne).mono ?_)
      rintro e u' w' ⟨rfl, rfl, rfl⟩
      obtain ⟨v, hv1, hv2⟩ := ends_of (r := getOf none) [] S5' env5 S0 ((((E1.trans E2).trans E3).trans E4).trans E5') get_rv (rs := [.agg [nilV, nilV, .int 0, .int 0, .int 0, .int 0], .bool false]) (by
        simp [RVs.of, RV.of, p4, p5, q1, q2, LV.bool]) (fun z hz => by cases hz) (by
        simp [oneOr, getOf, argR, argRs, LV.bool, LV.int, zeroS, stateV, nilV, nodesV, jobsV])
      exact ⟨v, hv1, v, rfl, hv2⟩
    exact hL
end Dv
