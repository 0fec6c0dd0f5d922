/- The logical machine: part V18. -/
import Derived.Test.YtclgmpflmeopmaaV17
set_option linter.unusedVariables false
set_option linter.unusedSimpArgs false
namespace Dv
open Go

/-! ## Functions over objects that name one another -/
section
variable {π : Nat → Nat} {k : Nat}
mutual
theorem rn_fix (h : ∀ o, o < k → π o = o) : ∀ (x : LV), idl k x = true → rn π x = x
  | .top, _ => rfl
  | .d x, _ => rfl
  | .anyb, _ => rfl
  | .ptr o c, hx => by simp only [idl, decide_eq_true_eq] at hx; simp only [rn, h o hx]
  | .rp o n e r c, hx => by simp only [idl, decide_eq_true_eq] at hx; simp only [rn, h o hx]
  | .ip .., _ => rfl
  | .sl o n e l m, hx => by simp only [idl, decide_eq_true_eq] at hx; simp only [rn, h o hx]
  | .fn f a b, hx => by
    simp only [idl, Bool.and_eq_true] at hx
    simp only [rn, rnL_fix h a hx.1, rnL_fix h b hx.2]
  | .agg cs, hx => by simp only [idl] at hx; simp only [rn, rnL_fix h cs hx]
  | .tup cs, hx => by simp only [idl] at hx; simp only [rn, rnL_fix h cs hx]
  | .ifc t x, hx => by simp only [idl] at hx; simp only [rn, rn_fix h x hx]
theorem rnL_fix (h : ∀ o, o < k → π o = o) : ∀ (xs : List LV), idlL k xs = true → rnL π xs = xs
  | [], _ => rfl
  | x :: xs, hx => by
    simp only [idlL, Bool.and_eq_true] at hx
    simp only [rnL, rn_fix h x hx.1, rnL_fix h xs hx.2]
end
theorem rnO_fix (h : ∀ o, o < k → π o = o) : ∀ (ob : LObj), idlO k ob = true → rnO π ob = ob
  | .box et cells, hx => by simp only [rnO]; rw [rnL_fix h cells hx]
  | .dat .., _ => rfl
  | .frz .., _ => rfl
end
section
variable {ρ : List Nat} {k : Nat}
mutual
theorem argR_fix (h : ∀ o, o < k → ρ[o]? = some o) (obj : Nat → OSt) : ∀ (x : LV), idl k x = true → argR obj ρ [] x x
  | .top, _ => by simp [argR]
  | .d x, _ => by simp [argR]
  | .anyb, _ => by simp [argR]
  | .ptr o c, hx => by simp only [idl, decide_eq_true_eq] at hx; simp only [argR, h o hx, and_self]
  | .rp o n e r c, hx => by simp only [idl, decide_eq_true_eq] at hx; simp only [argR, h o hx, and_self]
  | .ip .., _ => by simp [argR]
  | .sl o n e l m, hx => by simp only [idl, decide_eq_true_eq] at hx; simp only [argR, h o hx, and_self]
  | .fn f a b, hx => by
    simp only [idl, Bool.and_eq_true] at hx
    simp only [argR]; exact ⟨trivial, argRs_fix h obj a hx.1, argRs_fix h obj b hx.2⟩
  | .agg cs, hx => by simp only [idl] at hx; simp only [argR]; exact argRs_fix h obj cs hx
  | .tup cs, hx => by simp only [idl] at hx; simp only [argR]; exact argRs_fix h obj cs hx
  | .ifc t x, hx => by simp only [idl] at hx; simp only [argR]; exact ⟨trivial, argR_fix h obj x hx⟩
theorem argRs_fix (h : ∀ o, o < k → ρ[o]? = some o) (obj : Nat → OSt) : ∀ (xs : List LV), idlL k xs = true → argRs obj ρ [] xs xs
  | [], _ => by simp [argRs]
  | x :: xs, hx => by
    simp only [idlL, Bool.and_eq_true] at hx
    simp only [argRs]; exact ⟨argR_fix h obj x hx.1, argRs_fix h obj xs hx.2⟩
end
end
theorem range_at {k o : Nat} (h : o < k) : (List.range k)[o]? = some o := List.getElem?_range h
theorem piOf_range {k o : Nat} (h : o < k) : piOf (List.range k) 0 o = o := by unfold piOf; rw [range_at h]

theorem BackP {rv : List RV} {r : LV} {objs' : List LObj} {s : St} (hs : EndsO rv r objs' s) (hid : idl objs'.length r = true) (ho : objs'.all (idlO objs'.length) = true) : Back rv objs'.length r objs' s := by
  obtain ⟨h1, h2⟩ := hs
  unfold Ends0 at h1
  split at h1
  · rename_i vs hvs
    simp only [Option.some.injEq] at h1
    subst h1
    have ho' := ho
    rw [List.all_eq_true] at ho
    refine ⟨[], vs, List.range objs'.length, [], hvs, by simp, List.nodup_range, (fun _ h => by cases h), (fun _ h => by cases h), by simp, fun i o hi => ?_, ?_, ?_⟩
    · have hlt : i < objs'.length := by
        have := (List.getElem?_eq_some_iff.1 hi).1
        simpa using this
      have hio : o = i := by rw [List.getElem?_range hlt] at hi; cases hi; rfl
      subst hio
      refine ⟨objs'[o], List.getElem?_eq_getElem hlt, ?_⟩
      have h3 : (s.objs.take objs'.length)[o]? = some (some objs'[o]) := by rw [h2]; simp [hlt]
      rw [List.getElem?_take_of_lt hlt] at h3
      rw [rnO_fix (fun o h => piOf_range h) _ (ho _ (List.getElem_mem hlt))]
      simp only [adopt, St.obj, objL, h3]
    · rw [List.length_range]; exact ho'
    · exact argR_fix (fun o h => range_at h) _ _ hid
  · cases h1
/-- a function over objects that may name one another, all of which it hands back in the same places. -/
theorem tri_WP {P : Program} {G : Nat → Option (List DV)} {f : Nat} {fn : Func} {ir : Nat × C × List RV} {args : List LV} {objs objs' : List LObj} {r : LV} (hf : P.funcs[f]? = some fn) (hn : (fn.name != "runtime.NumGoroutine") = true) (hcv : convFn P fn = some ir) (hl : args.length ≤ ir.1) (hid : idl objs'.length r = true) (ho : objs'.all (idlO objs'.length) = true) (hlen : objs.length = objs'.length)
    (h : W P G (EndsO ir.2.2 r objs') [.c ir.2.1] ⟨argEnv 0 args, objs.map some⟩) : Tri P G f args objs r objs' := by
  refine tri_of hf (by simpa using hn) (N := ir.1) (c := ir.2.1) (rv := ir.2.2) hcv hl ?_
  simp only [W, Wx] at h
  refine vc_mono _ _ ⟨EndsO ir.2.2 r objs', fun _ _ => False, EndsO ir.2.2 r objs'⟩ _ (fun s hs => ?_) (fun _ _ h => h) (fun s hs => ?_) h
  all_goals
    rw [hlen]; exact BackP hs hid ho
end Dv
