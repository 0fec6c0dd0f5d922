/- The logical machine: part V9. -/
import Derived.Test.YtclgmpflmeopmaaV8
set_option linter.unusedVariables false
set_option linter.unusedSimpArgs false
namespace Dv
open Go

/-! ## Names of objects, turned -/
mutual
def rn (π : Nat → Nat) : LV → LV
  | .top => .top
  | .anyb => .anyb
  | .d x => .d x
  | .ptr o c => .ptr (π o) c
  | .rp o n e r c => .rp (π o) n e r c
  | .ip r c => .ip r c
  | .sl o n e l k => .sl (π o) n e l k
  | .fn f a b => .fn f (rnL π a) (rnL π b)
  | .agg cs => .agg (rnL π cs)
  | .tup vs => .tup (rnL π vs)
  | .ifc t v => .ifc t (rn π v)
def rnL (π : Nat → Nat) : List LV → List LV
  | [] => []
  | x :: xs => rn π x :: rnL π xs
end

def rnO (π : Nat → Nat) : LObj → LObj
  | .box et cells => .box et (rnL π cells)
  | .dat et e rows => .dat et e rows
  | .frz et e rows => .frz et e rows

mutual
/-- All names are below k. -/
def idl (k : Nat) : LV → Bool
  | .top => true
  | .anyb => true
  | .d _ => true
  | .ptr o _ => decide (o < k)
  | .rp o _ _ _ _ => decide (o < k)
  | .ip _ _ => true
  | .sl o _ _ _ _ => decide (o < k)
  | .fn _ a b => idlL k a && idlL k b
  | .agg cs => idlL k cs
  | .tup vs => idlL k vs
  | .ifc _ v => idl k v
def idlL (k : Nat) : List LV → Bool
  | [] => true
  | x :: xs => idl k x && idlL k xs
end
def idlO (k : Nat) : LObj → Bool
  | .box _ cells => idlL k cells
  | .dat .. => true
  | .frz .. => true

section
variable {J J' : Nat → Prop} {w : World} {ι ι' : Nat → Nat → Option Nat} {π : Nat → Nat} {k0 : Nat}
mutual
theorem Rep.rn (h : ∀ o n b, o < k0 → ι (π o) n = some b → ι' o n = some b) : ∀ (x : LV) (v : Value), idl k0 x = true → Rep J w ι (rn π x) v → Rep J w ι' x v
  | .top, _, _, _ => trivial
  | .anyb, _, _, k => k
  | .d x, v, _, k => k
  | .ptr o col, v, q, k => by simp only [idl, decide_eq_true_eq] at q; obtain ⟨b, hb, rfl⟩ := k; exact ⟨b, h _ _ _ q hb, rfl⟩
  | .rp o n e r c, v, q, k => by simp only [idl, decide_eq_true_eq] at q; obtain ⟨b, hb, rfl⟩ := k; exact ⟨b, h _ _ _ q hb, rfl⟩
  | .ip r c, v, _, k => k
  | .sl o n e l m, v, q, k => by
    simp only [idl, decide_eq_true_eq] at q
    rcases k with k | ⟨b, cap, et, C, hb, k⟩
    · exact .inl k
    · exact .inr ⟨b, cap, et, C, h _ _ _ q hb, k⟩
  | .fn f a b, v, q, k => by simp only [idl, Bool.and_eq_true] at q; obtain ⟨fs, cs, rfl, k1, k2⟩ := k; exact ⟨fs, cs, rfl, RepL.rn h a _ q.1 k1, RepL.rn h b _ q.2 k2⟩
  | .agg cs, v, q, k => by simp only [idl] at q; obtain ⟨xs, rfl, k1⟩ := k; exact ⟨xs, rfl, RepC.rn h cs _ q k1⟩
  | .tup vs, v, q, k => by simp only [idl] at q; obtain ⟨xs, rfl, k1⟩ := k; exact ⟨xs, rfl, RepL.rn h vs _ q k1⟩
  | .ifc t x, v, q, k => by simp only [idl] at q; obtain ⟨y, rfl, k1⟩ := k; exact ⟨y, rfl, Rep.rn h x y q k1⟩
theorem RepL.rn (h : ∀ o n b, o < k0 → ι (π o) n = some b → ι' o n = some b) : ∀ (xs : List LV) (vs : List Value), idlL k0 xs = true → RepL J w ι (rnL π xs) vs → RepL J w ι' xs vs
  | [], [], _, _ => trivial
  | x :: xs, v :: vs, q, k => by
    simp only [idlL, Bool.and_eq_true] at q
    exact ⟨Rep.rn h x v q.1 k.1, RepL.rn h xs vs q.2 k.2⟩
  | [], _ :: _, _, k => k.elim
  | _ :: _, [], _, k => k.elim
theorem RepC.rn (h : ∀ o n b, o < k0 → ι (π o) n = some b → ι' o n = some b) : ∀ (xs : List LV) (vs : List Value), idlL k0 xs = true → RepC J w ι (rnL π xs) vs → RepC J w ι' xs vs
  | [], [], _, _ => trivial
  | x :: xs, v :: vs, q, k => by
    simp only [idlL, Bool.and_eq_true] at q
    exact ⟨k.1, Rep.rn h x v q.1 k.2.1, RepC.rn h xs vs q.2 k.2.2⟩
  | [], _ :: _, _, k => k.elim
  | _ :: _, [], _, k => k.elim
end
mutual
theorem Rep.unrn (h : ∀ o n b, ι o n = some b → ι' (π o) n = some b) : ∀ (x : LV) (v : Value), Rep J w ι x v → Rep J w ι' (Dv.rn π x) v
  | .top, _, _ => trivial
  | .anyb, _, k => k
  | .d x, v, k => k
  | .ptr o col, v, k => by obtain ⟨b, hb, rfl⟩ := k; exact ⟨b, h _ _ _ hb, rfl⟩
  | .rp o n e r c, v, k => by obtain ⟨b, hb, rfl⟩ := k; exact ⟨b, h _ _ _ hb, rfl⟩
  | .ip r c, v, k => k
  | .sl o n e l q, v, k => by
    rcases k with k | ⟨b, cap, et, C, hb, k⟩
    · exact .inl k
    · exact .inr ⟨b, cap, et, C, h _ _ _ hb, k⟩
  | .fn f a b, v, k => by obtain ⟨fs, cs, rfl, k1, k2⟩ := k; exact ⟨fs, cs, rfl, RepL.unrn h a _ k1, RepL.unrn h b _ k2⟩
  | .agg cs, v, k => by obtain ⟨xs, rfl, k1⟩ := k; exact ⟨xs, rfl, RepC.unrn h cs _ k1⟩
  | .tup vs, v, k => by obtain ⟨xs, rfl, k1⟩ := k; exact ⟨xs, rfl, RepL.unrn h vs _ k1⟩
  | .ifc t x, v, k => by obtain ⟨y, rfl, k1⟩ := k; exact ⟨y, rfl, Rep.unrn h x y k1⟩
theorem RepL.unrn (h : ∀ o n b, ι o n = some b → ι' (π o) n = some b) : ∀ (xs : List LV) (vs : List Value), RepL J w ι xs vs → RepL J w ι' (rnL π xs) vs
  | [], [], _ => trivial
  | x :: xs, v :: vs, k => ⟨Rep.unrn h x v k.1, RepL.unrn h xs vs k.2⟩
  | [], _ :: _, k => k.elim
  | _ :: _, [], k => k.elim
theorem RepC.unrn (h : ∀ o n b, ι o n = some b → ι' (π o) n = some b) : ∀ (xs : List LV) (vs : List Value), RepC J w ι xs vs → RepC J w ι' (rnL π xs) vs
  | [], [], _ => trivial
  | x :: xs, v :: vs, k => ⟨k.1, Rep.unrn h x v k.2.1, RepC.unrn h xs vs k.2.2⟩
  | [], _ :: _, k => k.elim
  | _ :: _, [], k => k.elim
end
end

/-! ## Contracts -/
def objL (objs : List (Option LObj)) (o : Nat) : OSt :=
  match objs[o]? with
  | none => .free
  | some none => .dead
  | some (some ob) => .live ob

def entersT (P : Program) (f : Nat) : Bool := match P.funcs[f]? with
  | some fn => fn.name != "runtime.NumGoroutine" && fn.body.isSome
  | none => false

/-- CALLED WITH args, the function returns r; the objects are objs' then. -/
def Tri (P : Program) (G : Nat → Option (List DV)) (f : Nat) (args : List LV) (objs : List LObj) (r : LV) (objs' : List LObj) : Prop :=
  entersT P f = true ∧ ∀ J ι w (vs : Array Value), Store G J w ι (objL (objs.map some)) → RepL J w ι args vs.toList →
    Calls P f vs w (fun e w' => ∃ v, e = .returned v ∧ After G (objL (objs.map some)) (objL (objs'.map some)) J ι w r v w')

/-- What a caller's value may be handed on as. ρ: the objects that are handed on; Z: those that are read meanwhile. -/
def rowsAt (obj : Nat → OSt) (Z : List Nat) (o n esz lo len : Nat) (rs : List (List DV)) : Prop :=
  match obj o with
  | .live (.frz _ e rows) => o ∈ Z ∧ e = esz ∧ n = rows.length ∧ lo + len ≤ rows.length ∧ rs = (rows.drop lo).take len
  | .live (.dat _ e rows) => o ∈ Z ∧ e = esz ∧ n = rows.length ∧ lo + len ≤ rows.length ∧ rs = (rows.drop lo).take len
  | _ => False

mutual
def argR (obj : Nat → OSt) (ρ Z : List Nat) : LV → LV → Prop
  | _, .top => True
  | .anyb, .anyb => True
  | .d x, .d y => x = y ∨ (x = .val (.slice none 0 0) ∧ ∃ esz, y = .lst esz [])
  | .ptr o c, .ptr i c' => ρ[i]? = some o ∧ c = c'
  | .rp o n e r c, .rp i n' e' r' c' => ρ[i]? = some o ∧ n = n' ∧ e = e' ∧ r = r' ∧ c = c'
  | .ip r c, .ip r' c' => r = r' ∧ c = c'
  | .sl o n e l k, .sl i n' e' l' k' => ρ[i]? = some o ∧ n = n' ∧ e = e' ∧ l = l' ∧ k = k'
  | .sl o n e l k, .d (.lst e' rs) => e = e' ∧ rowsAt obj Z o n e l k rs
  | .agg xs, .agg ys => argRs obj ρ Z xs ys
  | .tup xs, .tup ys => argRs obj ρ Z xs ys
  | .fn f a b, .fn f' a' b' => f = f' ∧ argRs obj ρ Z a a' ∧ argRs obj ρ Z b b'
  | .d (.fn f a b), .fn f' a' b' => f = f' ∧ a' = a.map .d ∧ b' = b.map .d
  | .ifc t x, .ifc t' y => t = t' ∧ argR obj ρ Z x y
  | _, _ => False
def argRs (obj : Nat → OSt) (ρ Z : List Nat) : List LV → List LV → Prop
  | [], [] => True
  | x :: xs, y :: ys => argR obj ρ Z x y ∧ argRs obj ρ Z xs ys
  | _, _ => False
end

mutual
/-- No list of what was there. -/
def noJ : LV → Bool
  | .top => true
  | .anyb => true
  | .d (.val _) => true
  | .d (.lst _ rows) => rows.isEmpty
  | .d _ => false
  | .ptr _ _ => true
  | .rp _ _ _ _ _ => true
  | .ip _ _ => false
  | .sl _ _ _ _ _ => true
  | .fn _ a b => noJs a && noJs b
  | .agg cs => noJs cs
  | .tup vs => noJs vs
  | .ifc _ v => noJ v
def noJs : List LV → Bool
  | [] => true
  | x :: xs => noJ x && noJs xs
end

section
variable {J J' : Nat → Prop} {w : World} {ι : Nat → Nat → Option Nat}
mutual
theorem Rep.noJ (hh : True) : ∀ (x : LV) (v : Value), noJ x = true → Rep J w ι x v → Rep J' w ι x v
  | .top, _, _, _ => trivial
  | .anyb, _, _, k => k
  | .d (.val u), v, _, k => k
  | .d (.lst e rows), v, h, k => by
    simp only [Dv.noJ, List.isEmpty_iff] at h
    subst h
    obtain ⟨a, n, cap, rfl, hn, hc, _⟩ := k
    exact ⟨a, n, cap, rfl, hn, hc, .inl rfl⟩
  | .d (.fn _ _ _), v, h, k => by simp [Dv.noJ] at h
  | .d (.ifc _ _), v, h, k => by simp [Dv.noJ] at h
  | .d (.agg _), v, h, k => by simp [Dv.noJ] at h
  | .ptr o col, v, _, k => k
  | .rp o n e r c, v, _, k => k
  | .ip r c, v, h, k => by simp [Dv.noJ] at h
  | .sl o n e l q, v, _, k => k
  | .fn f a b, v, h, k => by
    simp only [Dv.noJ, Bool.and_eq_true] at h
    obtain ⟨fs, cs, rfl, k1, k2⟩ := k; exact ⟨fs, cs, rfl, RepL.noJ hh a _ h.1 k1, RepL.noJ hh b _ h.2 k2⟩
  | .agg cs, v, h, k => by
    simp only [Dv.noJ] at h
    obtain ⟨xs, rfl, k1⟩ := k; exact ⟨xs, rfl, RepC.noJ hh cs _ h k1⟩
  | .tup vs, v, h, k => by
    simp only [Dv.noJ] at h
    obtain ⟨xs, rfl, k1⟩ := k; exact ⟨xs, rfl, RepL.noJ hh vs _ h k1⟩
  | .ifc t x, v, h, k => by
    simp only [Dv.noJ] at h
    obtain ⟨y, rfl, k1⟩ := k; exact ⟨y, rfl, Rep.noJ hh x y h k1⟩
theorem RepL.noJ (hh : True) : ∀ (xs : List LV) (vs : List Value), noJs xs = true → RepL J w ι xs vs → RepL J' w ι xs vs
  | [], [], _, _ => trivial
  | x :: xs, v :: vs, h, k => by
    simp only [Dv.noJs, Bool.and_eq_true] at h
    exact ⟨Rep.noJ hh x v h.1 k.1, RepL.noJ hh xs vs h.2 k.2⟩
  | [], _ :: _, _, k => k.elim
  | _ :: _, [], _, k => k.elim
theorem RepC.noJ (hh : True) : ∀ (xs : List LV) (vs : List Value), noJs xs = true → RepC J w ι xs vs → RepC J' w ι xs vs
  | [], [], _, _ => trivial
  | x :: xs, v :: vs, h, k => by
    simp only [Dv.noJs, Bool.and_eq_true] at h
    exact ⟨k.1, Rep.noJ hh x v h.1 k.2.1, RepC.noJ hh xs vs h.2 k.2.2⟩
  | [], _ :: _, _, k => k.elim
  | _ :: _, [], _, k => k.elim
end
end
end Dv
