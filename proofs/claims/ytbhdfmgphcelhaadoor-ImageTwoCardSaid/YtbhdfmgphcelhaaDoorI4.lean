/- image.Get's deferred closure: as a deferred call of a frame that panics, of one that returns. -/
import Derived.Test.YtbhdfmgphcelhaaDoorI1
import Derived.Defers
import Derived.Recover
import Derived.Laws.Pointers
set_option linter.unusedVariables false
set_option linter.unusedSimpArgs false
namespace Dv
open Go Go.Proofs
open Go.RowKit

/-- a state of nothing. -/
def zeroSV : Value := .agg #[.slice none 0 0, .slice none 0 0, .int .i64 0, .int .i64 0, .int .i64 0, .int .i64 0]
/-- a store, by its law. -/
theorem wp_store1 {P : Program} {T type : TypeId} {n : Nat} {x y : Operand} {pos : String} {after : Array Edge} {g : Option (Nat × Bool)} {a : Act} {w : World} {K : Act → World → Prop} {Q : Exit → Act → World → Prop} {b off : Nat} {v : Value} (hx : a.eval x = .pointer (some ⟨b, off, none⟩)) (hy : a.eval y = v) (hs : sizeT P T = some n) (ht : w.there b off v.cells.size) (hl : v.cells.size = n) (h1 : ∀ u ∈ v.cells.toList, u.oneCell' = true)
    (hK : K a (w.setCells b off v.cells.toList)) : Oper.wp P ⟨none, .store T x y, type, pos, after, g⟩ a w K Q := by
  have hr := run_st (P := P) (w := w) hs ht hl h1
  refine (Goes.of_skip (post := fun _ w' => w' = w.setCells b off v.cells.toList) ?_ rfl) K Q (fun v' w' h => by subst h; exact hK)
  show (execOp a.eval _).run P w = _
  simp only [execOp, hx, hy, Sem.run_bind, hr, Result.andThen_ok, Sem.run_pure]
theorem catch_idle (ps pk : Value) (w : World) :
    CallsD Tryd.prog 22 #[ps, pk] .returning w fun e u' w' => e = .returned (.tuple #[]) ∧ u' = .returning ∧ w' = w := by
  refine callsD_of_wpS Tryd.func22 rfl fun c₀ cs hu => ?_
  apply wpS_seq
  apply wpS_region
  simp [wpOpsS, go_sem, recoverD, hu, Tryd.ntmps22, Exit.thenS]
  apply wpS_seq
  apply wpS_region
  simp [wpOpsS, go_sem, recoverD, hu, Tryd.ntmps22, Exit.thenS]
  refine wpS_cond (t := false) (by simp [Act.eval, Array.replicate]) ?_
  simp only [Bool.false_eq_true, if_false]
  refine wpS_of_wp (wp_skip ?_)
  cases c₀
  simp_all [bodyPostS, results, Tryd.results22]

set_option maxHeartbeats 4000000 in
set_option maxRecDepth 100000 in
theorem catch_pan (bs bk : Nat) (C : Array Value) (b : Value) (w : World) (hs : w.heap[bs]? = some (.cells C 27 (0, 0))) (hC : C.size = 6) (hk : w.heap[bk]? = some (.cells #[b] 4 (0, 0))) (hne : bs ≠ bk) :
    CallsD Tryd.prog 22 #[.pointer (some ⟨bs, 0, none⟩), .pointer (some ⟨bk, 0, none⟩)] (.panicking [{ v := noneV, recovered := false }]) w fun e u' w' =>
      e = .returned (.tuple #[]) ∧ u' = .panicking [{ v := noneV, recovered := true }] ∧ w' = ((w.alloc (.cells #[] 69)).setCells bs 0 zeroSV.cells.toList).setCells bk 0 [.bool false] := by
  refine callsD_of_wpS Tryd.func22 rfl fun c₀ cs hu => ?_
  apply wpS_seq
  apply wpS_region
  simp [wpOpsS, go_sem, recoverD, hu, noneV, Tryd.ntmps22, Exit.thenS]
  apply wpS_seq
  apply wpS_region
  simp [wpOpsS, go_sem, recoverD, hu, noneV, Tryd.ntmps22, Exit.thenS]
  refine wpS_cond (t := true) (by simp [Act.eval, Array.replicate]) ?_
  simp only [if_true]
  refine wpS_of_wp ?_
  simp only [Array.replicate_succ, Array.replicate_zero, List.push_toArray, List.append_toArray, List.nil_append, List.cons_append, List.size_toArray]
  have hta : ∀ w, (Instr.typeAssert (Value.iface 69 (.agg #[])) 20 69 true).run Tryd.prog w = .ok (.tuple #[.agg #[], .bool true]) w := fun _ => by rfl
  apply wp_seq
  refine wp_mono (Q := fun e a' w' => e = .normal ∧ w' = w.alloc (.cells #[] 69) ∧ a'.tmps[0]? = some (.pointer (some ⟨bs, 0, none⟩)) ∧ a'.tmps[1]? = some (.pointer (some ⟨bk, 0, none⟩)) ∧ a'.tmps.size = 17 ∧ a'.defers = []) ?_ ?_
  · go_wp2
  rintro e ⟨tmps, ds⟩ w' ⟨rfl, rfl, e0, e1, e2, e3⟩
  dsimp only at e0 e1 e2 e3
  subst e3
  simp only [Exit.then]
  refine wp_region_list ?_
  have hsl : bs < w.heap.size := (Array.getElem?_eq_some_iff.1 hs).1
  have hkl : bk < w.heap.size := (Array.getElem?_eq_some_iff.1 hk).1
  have as1 : (w.alloc (.cells #[] 69)).heap[bs]? = some (.cells C 27 (0, 0)) := (Below.heap_alloc _ _ _ hsl).trans hs
  have ak1 : (w.alloc (.cells #[] 69)).heap[bk]? = some (.cells #[b] 4 (0, 0)) := (Below.heap_alloc _ _ _ hkl).trans hk
  generalize hw1 : w.alloc (.cells #[] 69) = w1 at *
  refine wpList_plain rfl (fun K hK => ?_)
  refine Goes.of_run (v := zeroSV) (w' := w1) (post := fun v' w' => v' = zeroSV ∧ w' = w1) (by simp [execOp, zeroSV, go_sem]) ⟨rfl, rfl⟩ K _ (fun v' w' h => ?_)
  obtain ⟨rfl, rfl⟩ := h
  refine hK _ _ ?_
  refine wpList_plain rfl (fun K hK => ?_)
  refine wp_store1 (n := 6) (b := bs) (off := 0) (v := zeroSV) ?_ ?_ (by kernel_rfl) ?_ rfl ?_ (hK _ _ ?_)
  · simp [Act.eval, Act.put, e0]
  · simp [Act.eval, Act.put, e2]
  · intro j hj
    have hj : j < 6 := hj
    simp [World.cell?, World.frozen?, as1, hC, hj]
  · intro u hu
    simp [zeroSV, Value.cells] at hu
    rcases hu with rfl | rfl <;> rfl
  clear hK
  refine wpList_plain rfl (fun K hK => ?_)
  refine wp_store1 (n := 1) (b := bk) (off := 0) (v := .bool false) ?_ rfl (by kernel_rfl) ?_ rfl ?_ (hK _ _ ?_)
  · simp [Act.eval, Act.put, e1]
  · intro j hj
    have hj : j < 1 := hj
    obtain rfl : j = 0 := by omega
    have h3 : (w'.setCells bs 0 zeroSV.cells.toList).heap[bk]? = some (.cells #[b] 4 (0, 0)) := (heap_setCells_other (fun e => hne e.symm) _ _ _).trans ak1
    simp [World.cell?, World.frozen?, h3]
  · intro u hu
    simp [Value.cells] at hu
    subst hu; rfl
  refine wpList_nil ?_
  refine ⟨rfl, _, rfl, .tuple #[], results_none rfl _ _ _, rfl, rfl, rfl⟩
end Dv
