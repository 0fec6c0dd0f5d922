/- The logical machine: part V10. -/
import Derived.Test.YtclgmpflmeopmaaV9
set_option linter.unusedVariables false
set_option linter.unusedSimpArgs false
namespace Dv
open Go

section
variable {P : Program} {G : Nat → Option (List DV)} {J J' : Nat → Prop} {w w' : World} {ι ι' : Nat → Nat → Option Nat} {obj : Nat → OSt}

/-- The blocks of some objects. -/
def OwnZ (ι : Nat → Nat → Option Nat) (obj : Nat → OSt) (Z : List Nat) (b : Nat) : Prop := ∃ z ∈ Z, (obj z).own ι z b

def subι (ι : Nat → Nat → Option Nat) (ρ : List Nat) (i n : Nat) : Option Nat := match ρ[i]? with
  | some o => ι o n
  | none => none

theorem RepDL.dmap : ∀ {xs : List DV} {vs : List Value}, RepDL J w xs vs → RepL J w ι (xs.map .d) vs := RepDL.toL

theorem rowsAt_sound (S : Store G J w ι obj) {Z : List Nat} {o n esz lo len : Nat} {rs : List (List DV)} (h : rowsAt obj Z o n esz lo len rs) {v : Value} (hv : Rep J w ι (.sl o n esz lo len) v) (ι'' : Nat → Nat → Option Nat) :
    Rep (fun b => J b ∨ OwnZ ι obj Z b) w ι'' (.d (.lst esz rs)) v := by
  unfold rowsAt at h
  have hrep := S.rep o
  split at h
  · rename_i et e rows ho
    obtain ⟨_, rfl, rfl, hle, rfl⟩ := h
    rw [ho] at hrep
    obtain ⟨⟨_, hd⟩, _⟩ := hrep
    have hll : ((rows.drop lo).take len).length = len := by simp; omega
    rcases hv with ⟨rfl, a, rfl⟩ | ⟨b, cap, et', C, hb, rfl, hcap, _⟩
    · exact ⟨a, 0, 0, rfl, by simp, Nat.le_refl _, .inl (by simp)⟩
    · obtain ⟨hJ, hrows⟩ := hd b hb
      have := RowsD.mono (J' := fun b => J b ∨ OwnZ ι obj Z b) (w' := w) (fun b h => .inl h) (fun _ _ => rfl) e _ _ _ rfl ((hrows.drop lo).take len)
      exact ⟨_, len, cap, rfl, hll.symm, hcap, .inr ⟨b, lo * e, rfl, .inl hJ, by simpa using this⟩⟩
  · rename_i et e rows ho
    obtain ⟨hz, rfl, rfl, hle, rfl⟩ := h
    rw [ho] at hrep
    obtain ⟨⟨_, hd⟩, _⟩ := hrep
    have hll : ((rows.drop lo).take len).length = len := by simp; omega
    rcases hv with ⟨rfl, a, rfl⟩ | ⟨b, cap, et', C, hb, rfl, hcap, _⟩
    · exact ⟨a, 0, 0, rfl, by simp, Nat.le_refl _, .inl (by simp)⟩
    · obtain ⟨_, hrows⟩ := hd b hb
      have := RowsD.mono (J' := fun b => J b ∨ OwnZ ι obj Z b) (w' := w) (fun b h => .inl h) (fun _ _ => rfl) e _ _ _ rfl ((hrows.drop lo).take len)
      exact ⟨_, len, cap, rfl, hll.symm, hcap, .inr ⟨b, lo * e, rfl, .inr ⟨o, hz, by rw [ho]; exact hb⟩, by simpa using this⟩⟩
  · exact h.elim

theorem sub_some {ρ : List Nat} {i o n b : Nat} (h : ρ[i]? = some o) (hb : ι o n = some b) : subι ι ρ i n = some b := by simp only [subι, h, hb]

mutual
theorem argR_sound (S : Store G J w ι obj) {ρ Z : List Nat} : ∀ (x y : LV) (v : Value), argR obj ρ Z x y → Rep J w ι x v → Rep (fun b => J b ∨ OwnZ ι obj Z b) w (subι ι ρ) y v
  | x, .top, _, _, _ => trivial
  | .anyb, .anyb, _, _, k => k
  | .d x, .d y, v, h, k => by
    have h' : x = y ∨ (x = .val (.slice none 0 0) ∧ ∃ esz, y = .lst esz []) := by simpa only [argR] using h
    rcases h' with rfl | ⟨rfl, esz, rfl⟩
    · exact RepD.mono (fun b h => .inl h) (fun _ _ => rfl) _ _ k
    · have hv : v = .slice none 0 0 := k
      subst hv
      exact ⟨none, 0, 0, rfl, by simp, Nat.le_refl _, .inl rfl⟩
  | .ptr o c, .ptr i c', v, h, k => by
    obtain ⟨h1, rfl⟩ : ρ[i]? = some o ∧ c = c' := by simpa only [argR] using h
    obtain ⟨b, hb, rfl⟩ := k
    exact ⟨b, sub_some h1 hb, rfl⟩
  | .rp o n e r c, .rp i n' e' r' c', v, h, k => by
    obtain ⟨h1, rfl, rfl, rfl, rfl⟩ : ρ[i]? = some o ∧ n = n' ∧ e = e' ∧ r = r' ∧ c = c' := by simpa only [argR] using h
    obtain ⟨b, hb, rfl⟩ := k
    exact ⟨b, sub_some h1 hb, rfl⟩
  | .ip r c, .ip r' c', v, h, k => by
    obtain ⟨rfl, rfl⟩ : r = r' ∧ c = c' := by simpa only [argR] using h
    obtain ⟨b, off, hb, rfl, hr⟩ := k
    exact ⟨b, off, .inl hb, rfl, RowD.mono (fun b h => .inl h) (fun _ _ => rfl) _ _ _ rfl hr⟩
  | .sl o n e l m, .sl i n' e' l' m', v, h, k => by
    obtain ⟨h1, rfl, rfl, rfl, rfl⟩ : ρ[i]? = some o ∧ n = n' ∧ e = e' ∧ l = l' ∧ m = m' := by simpa only [argR] using h
    rcases k with k | ⟨b, cap, et, C, hb, k⟩
    · exact .inl k
    · exact .inr ⟨b, cap, et, C, sub_some h1 hb, k⟩
  | .sl o n e l m, .d (.lst e' rs), v, h, k => by
    obtain ⟨rfl, h1⟩ : e = e' ∧ rowsAt obj Z o n e l m rs := by simpa only [argR] using h
    exact rowsAt_sound S h1 k _
  | .agg xs, .agg ys, v, h, k => by
    have h' : argRs obj ρ Z xs ys := by simpa only [argR] using h
    obtain ⟨us, rfl, k1⟩ := k
    exact ⟨us, rfl, RepC.ofL (argRs_sound S xs ys _ h' k1.toL) k1.one⟩
  | .tup xs, .tup ys, v, h, k => by
    have h' : argRs obj ρ Z xs ys := by simpa only [argR] using h
    obtain ⟨us, rfl, k1⟩ := k
    exact ⟨us, rfl, argRs_sound S xs ys _ h' k1⟩
  | .fn f a b, .fn f' a' b', v, h, k => by
    obtain ⟨rfl, h1, h2⟩ : f = f' ∧ argRs obj ρ Z a a' ∧ argRs obj ρ Z b b' := by simpa only [argR] using h
    obtain ⟨fs, cs, rfl, k1, k2⟩ := k
    exact ⟨fs, cs, rfl, argRs_sound S a a' _ h1 k1, argRs_sound S b b' _ h2 k2⟩
  | .d (.fn f a b), .fn f' a' b', v, h, k => by
    obtain ⟨rfl, rfl, rfl⟩ : f = f' ∧ a' = a.map .d ∧ b' = b.map .d := by simpa only [argR] using h
    obtain ⟨fs, cs, rfl, k1, k2⟩ := k
    exact ⟨fs, cs, rfl, (RepDL.mono (fun b h => .inl h) (fun _ _ => rfl) _ _ k1).toL, (RepDL.mono (fun b h => .inl h) (fun _ _ => rfl) _ _ k2).toL⟩
  | .ifc t x, .ifc t' y, v, h, k => by
    obtain ⟨rfl, h1⟩ : t = t' ∧ argR obj ρ Z x y := by simpa only [argR] using h
    obtain ⟨z, rfl, k1⟩ := k
    exact ⟨z, rfl, argR_sound S x y z h1 k1⟩
  | .top, .d _, _, h, _ | .top, .ptr .., _, h, _ | .top, .rp .., _, h, _ | .top, .ip .., _, h, _ | .top, .sl .., _, h, _ | .top, .fn .., _, h, _ | .top, .agg _, _, h, _ | .top, .tup _, _, h, _ | .top, .ifc .., _, h, _ => by simp [argR] at h
  | .ptr .., .d _, _, h, _ | .ptr .., .rp .., _, h, _ | .ptr .., .ip .., _, h, _ | .ptr .., .sl .., _, h, _ | .ptr .., .fn .., _, h, _ | .ptr .., .agg _, _, h, _ | .ptr .., .tup _, _, h, _ | .ptr .., .ifc .., _, h, _ => by simp [argR] at h
  | .rp .., .d _, _, h, _ | .rp .., .ptr .., _, h, _ | .rp .., .ip .., _, h, _ | .rp .., .sl .., _, h, _ | .rp .., .fn .., _, h, _ | .rp .., .agg _, _, h, _ | .rp .., .tup _, _, h, _ | .rp .., .ifc .., _, h, _ => by simp [argR] at h
  | .ip .., .d _, _, h, _ | .ip .., .ptr .., _, h, _ | .ip .., .rp .., _, h, _ | .ip .., .sl .., _, h, _ | .ip .., .fn .., _, h, _ | .ip .., .agg _, _, h, _ | .ip .., .tup _, _, h, _ | .ip .., .ifc .., _, h, _ => by simp [argR] at h
  | .sl .., .d (.val _), _, h, _ | .sl .., .d (.fn ..), _, h, _ | .sl .., .d (.ifc ..), _, h, _ | .sl .., .d (.agg _), _, h, _ | .sl .., .ptr .., _, h, _ | .sl .., .rp .., _, h, _ | .sl .., .ip .., _, h, _ | .sl .., .fn .., _, h, _ | .sl .., .agg _, _, h, _ | .sl .., .tup _, _, h, _ | .sl .., .ifc .., _, h, _ => by simp [argR] at h
  | .agg _, .d _, _, h, _ | .agg _, .ptr .., _, h, _ | .agg _, .rp .., _, h, _ | .agg _, .ip .., _, h, _ | .agg _, .sl .., _, h, _ | .agg _, .fn .., _, h, _ | .agg _, .tup _, _, h, _ | .agg _, .ifc .., _, h, _ => by simp [argR] at h
  | .tup _, .d _, _, h, _ | .tup _, .ptr .., _, h, _ | .tup _, .rp .., _, h, _ | .tup _, .ip .., _, h, _ | .tup _, .sl .., _, h, _ | .tup _, .fn .., _, h, _ | .tup _, .agg _, _, h, _ | .tup _, .ifc .., _, h, _ => by simp [argR] at h
  | .fn .., .d _, _, h, _ | .fn .., .ptr .., _, h, _ | .fn .., .rp .., _, h, _ | .fn .., .ip .., _, h, _ | .fn .., .sl .., _, h, _ | .fn .., .agg _, _, h, _ | .fn .., .tup _, _, h, _ | .fn .., .ifc .., _, h, _ => by simp [argR] at h
  | .ifc .., .d _, _, h, _ | .ifc .., .ptr .., _, h, _ | .ifc .., .rp .., _, h, _ | .ifc .., .ip .., _, h, _ | .ifc .., .sl .., _, h, _ | .ifc .., .fn .., _, h, _ | .ifc .., .agg _, _, h, _ | .ifc .., .tup _, _, h, _ => by simp [argR] at h
  | .d (.val _), .ptr .., _, h, _ | .d (.val _), .rp .., _, h, _ | .d (.val _), .ip .., _, h, _ | .d (.val _), .sl .., _, h, _ | .d (.val _), .fn .., _, h, _ | .d (.val _), .agg _, _, h, _ | .d (.val _), .tup _, _, h, _ | .d (.val _), .ifc .., _, h, _ => by simp [argR] at h
  | .d (.lst ..), .ptr .., _, h, _ | .d (.lst ..), .rp .., _, h, _ | .d (.lst ..), .ip .., _, h, _ | .d (.lst ..), .sl .., _, h, _ | .d (.lst ..), .fn .., _, h, _ | .d (.lst ..), .agg _, _, h, _ | .d (.lst ..), .tup _, _, h, _ | .d (.lst ..), .ifc .., _, h, _ => by simp [argR] at h
  | .d (.fn ..), .ptr .., _, h, _ | .d (.fn ..), .rp .., _, h, _ | .d (.fn ..), .ip .., _, h, _ | .d (.fn ..), .sl .., _, h, _ | .d (.fn ..), .agg _, _, h, _ | .d (.fn ..), .tup _, _, h, _ | .d (.fn ..), .ifc .., _, h, _ => by simp [argR] at h
  | .d (.ifc ..), .ptr .., _, h, _ | .d (.ifc ..), .rp .., _, h, _ | .d (.ifc ..), .ip .., _, h, _ | .d (.ifc ..), .sl .., _, h, _ | .d (.ifc ..), .fn .., _, h, _ | .d (.ifc ..), .agg _, _, h, _ | .d (.ifc ..), .tup _, _, h, _ | .d (.ifc ..), .ifc .., _, h, _ => by simp [argR] at h
  | .d (.agg _), .ptr .., _, h, _ | .d (.agg _), .rp .., _, h, _ | .d (.agg _), .ip .., _, h, _ | .d (.agg _), .sl .., _, h, _ | .d (.agg _), .fn .., _, h, _ | .d (.agg _), .agg _, _, h, _ | .d (.agg _), .tup _, _, h, _ | .d (.agg _), .ifc .., _, h, _ => by simp [argR] at h
  | .anyb, .d _, _, h, _ | .anyb, .ptr .., _, h, _ | .anyb, .rp .., _, h, _ | .anyb, .ip .., _, h, _ | .anyb, .sl .., _, h, _ | .anyb, .fn .., _, h, _ | .anyb, .agg _, _, h, _ | .anyb, .tup _, _, h, _ | .anyb, .ifc .., _, h, _ => by simp [argR] at h
  | .top, .anyb, _, h, _ | .d (.val _), .anyb, _, h, _ | .d (.lst ..), .anyb, _, h, _ | .d (.fn ..), .anyb, _, h, _ | .d (.ifc ..), .anyb, _, h, _ | .d (.agg _), .anyb, _, h, _ | .ptr .., .anyb, _, h, _ | .rp .., .anyb, _, h, _ | .ip .., .anyb, _, h, _ | .sl .., .anyb, _, h, _ | .fn .., .anyb, _, h, _ | .agg _, .anyb, _, h, _ | .tup _, .anyb, _, h, _ | .ifc .., .anyb, _, h, _ => by simp [argR] at h
theorem argRs_sound (S : Store G J w ι obj) {ρ Z : List Nat} : ∀ (xs ys : List LV) (vs : List Value), argRs obj ρ Z xs ys → RepL J w ι xs vs → RepL (fun b => J b ∨ OwnZ ι obj Z b) w (subι ι ρ) ys vs
  | [], [], [], _, _ => trivial
  | x :: xs, y :: ys, v :: vs, h, k => by
    have h' : argR obj ρ Z x y ∧ argRs obj ρ Z xs ys := by simpa only [argRs] using h
    exact ⟨argR_sound S x y v h'.1 k.1, argRs_sound S xs ys vs h'.2 k.2⟩
  | [], _ :: _, _, h, _ => by simp [argRs] at h
  | _ :: _, [], _, h, _ => by simp [argRs] at h
  | [], [], _ :: _, _, k => k.elim
  | _ :: _, _ :: _, [], _, k => k.elim
end
end
end Dv
