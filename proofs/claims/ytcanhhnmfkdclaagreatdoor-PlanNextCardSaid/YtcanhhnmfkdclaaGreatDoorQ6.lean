/- Plain: the plan. -/
import Derived.Test.YtcanhhnmfkdclaaGreatDoorQA
import Derived.Test.YtcanhhnmfkdclaaGreatDoorPA
set_option linter.unusedVariables false
set_option linter.unusedVariables false
set_option linter.unusedSimpArgs false
namespace Dv
open Go

def lateB (s : StateD) (now : Int) (i : Nat) : Bool := decide ((s.jobs.getD i zeroJob).phase = 3) && decide ((s.jobs.getD i zeroJob).til ≤ now)
def lateN (s : StateD) (now : Int) : List Nat := (List.range s.jobs.length).filter (lateB s now)
def evictO (s : StateD) (now : Int) : Option OpD := match lateN s now with
  | [] => none
  | k :: _ => some ⟨14, ((k + 1 : Nat) : Int), 0, 0, 0, 0, 0⟩
def holdO (s : StateD) (now : Int) : Option OpD := if (anextS s now).2.2 = true then some ⟨9, (anextS s now).1, (anextS s now).2.1, 0, 0, 0, 0⟩ else none
def planO (c : ConfD) (s : StateD) (now : Int) : Option OpD := match evictO s now with
  | some o => some o
  | none => match nextW c s now with
    | some o => some o
    | none => holdO s now
def lateTo (s : StateD) (now : Int) (k : Nat) : List Nat := (List.range k).filter (lateB s now)
theorem lateTo_succ (s : StateD) (now : Int) (k : Nat) : lateTo s now (k + 1) = lateTo s now k ++ (if lateB s now k = true then [k] else []) := by
  unfold lateTo
  rw [List.range_succ, List.filter_append]
  simp only [List.filter_cons,List.filter_nil]
theorem lateTo_len (s : StateD) (now : Int) (k : Nat) : (lateTo s now k).length ≤ k := by
  have := List.length_filter_le (lateB s now) (List.range k)
  simpa [lateTo] using this
def runTo (c : ConfD) (now : Int) : Nat → StateD → List OpD → StateD × List OpD
  | 0, s, l => (s, l)
  | n + 1, s, l => match planO c s now with
    | none => (s, l)
    | some o => if (applyD c s o).2 = 0 then runTo c now n (applyD c s o).1 (l ++ [o]) else (s, l)
def runD (c : ConfD) (s : StateD) (now most : Int) : StateD × List OpD := runTo c now most.toNat s []
end Dv
