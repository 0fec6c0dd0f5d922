/- How ops change a state, on plain data: as the book does it. -/
import Derived.Test.YtclgmpflmeopmaaP3
set_option linter.unusedVariables false
set_option linter.unusedSimpArgs false
namespace Dv

/-! lists, turned from the left on -/
def updTo {α : Type} (g : Nat → α → α) (l : List α) (k : Nat) : List α := l.mapIdx fun i x => if i < k then g i x else x
section
variable {α : Type} (g : Nat → α → α) (l : List α)
@[simp] theorem updTo_length (k : Nat) : (updTo g l k).length = l.length := by simp [updTo]
theorem updTo_zero : updTo g l 0 = l := by
  apply List.ext_getElem
  · simp
  · intro i h1 h2; simp [updTo]
theorem updTo_full : updTo g l l.length = l.mapIdx g := by
  apply List.ext_getElem
  · simp
  · intro i h1 h2
    simp at h1
    simp [updTo, h1]
theorem updTo_at {k : Nat} (h : k < l.length) : (updTo g l k)[k]? = some l[k] := by
  simp [updTo, h]
theorem updTo_getD {k : Nat} (z : α) (h : k < l.length) : (updTo g l k).getD k z = l.getD k z := by
  simp [updTo, h]
theorem updTo_set {k : Nat} {x : α} (h : k < l.length) (hx : g k l[k] = x) : (updTo g l k).set k x = updTo g l (k + 1) := by
  apply List.ext_getElem
  · simp
  · intro i h1 h2
    simp only [updTo, List.getElem_set, List.getElem_mapIdx]
    by_cases hi : k = i
    · subst hi; simp [hx]
    · rw [if_neg hi]
      by_cases h3 : i < k
      · rw [if_pos h3, if_pos (by omega)]
      · rw [if_neg h3, if_neg (by omega)]
theorem updTo_same {k : Nat} (h : k < l.length) (hx : g k l[k] = l[k]) : updTo g l k = updTo g l (k + 1) := by
  rw [← updTo_set g l h hx]
  apply List.ext_getElem
  · simp
  · intro i h1 h2
    rw [List.getElem_set]
    split
    · rename_i h; subst h; simp [updTo]
    · rfl
end

/-! the ops -/
def nodeA (s : StateD) (i : Int) : NodeD := s.nodes.getD i.toNat zeroNode
def jobA (s : StateD) (a : Int) : JobD := s.jobs.getD (a - 1).toNat zeroJob
def freeB (n : NodeD) : Bool := n.up && !n.cordon && !n.moving && decide (n.job = 0)
def setN (s : StateD) (i : Int) (n : NodeD) : StateD := { s with nodes := s.nodes.set i.toNat n }
def setJ (s : StateD) (a : Int) (j : JobD) : StateD := { s with jobs := s.jobs.set (a - 1).toNat j }
def lets (number : Int) (_ : Nat) (n : NodeD) : NodeD := if n.job = number then { n with job := 0 } else n
def takesA (bits number : Int) (i : Nat) (n : NodeD) : NodeD := if hasB bits i then { n with job := number } else n
def releaseD (s : StateD) (number phase : Int) : StateD :=
  { s with nodes := s.nodes.mapIdx (lets number), jobs := s.jobs.set (number - 1).toNat { jobA s number with phase := phase, nodes := 0, since := 0, til := 0 } }
def newJob (o : OpD) : JobD := ⟨o.a, o.b, o.c, o.d, o.e, o.f, 0, 0, 0, 0, 0, 0⟩
def submitD (c : ConfD) (s : StateD) (o : OpD) : StateD × Int := if askedB c (newJob o) = false then (s, 1) else if 24 ≤ s.jobs.length then (s, 3) else ({ s with jobs := s.jobs ++ [newJob o] }, 0)
def cancelD (s : StateD) (o : OpD) : StateD × Int := if (jobA s o.a).phase = 4 then (s, 5) else (releaseD s o.a 4, 0)
def targetD (s : StateD) (o : OpD) : StateD × Int := if withinB o.a 1 9 = false then (s, 1) else ({ s with prior := meant s, goal := o.a, mode := 0 }, 0)
def turnD (s : StateD) (ok : Bool) (to : Int) : StateD × Int := if ok = true then ({ s with mode := to }, 0) else (s, 5)
def downD (s : StateD) (o : OpD) : StateD × Int := if (nodeA s o.a).up = false then (s, 5) else
  let t := if (nodeA s o.a).job ≠ 0 then releaseD s (nodeA s o.a).job 0 else s
  (setN t o.a { nodeA t o.a with up := false, moving := false }, 0)
def upD (s : StateD) (o : OpD) : StateD × Int := if withinB o.b 1 9 = false then (s, 1) else if (nodeA s o.a).up = true then (s, 5) else (setN s o.a { nodeA s o.a with up := true, version := o.b }, 0)
def holdD (s : StateD) (o : OpD) : StateD × Int := if (jobA s o.a).phase ≠ 0 then (s, 5) else if fitsB s.nodes (jobA s o.a) o.b freeB = false ∨ 1000000 ≤ (jobA s o.a).inc then (s, 8) else
  ({ setJ s o.a { jobA s o.a with phase := 1, inc := (jobA s o.a).inc + 1, nodes := o.b } with nodes := s.nodes.mapIdx (takesA o.b o.a) }, 0)
def startD (s : StateD) (o : OpD) : StateD × Int := if (jobA s o.a).phase ≠ 1 then (s, 5) else (setJ s o.a { jobA s o.a with phase := 2, since := o.b }, 0)
def unholdD (s : StateD) (o : OpD) : StateD × Int := if (jobA s o.a).phase ≠ 1 then (s, 5) else (releaseD s o.a 0, 0)
def drainD (c : ConfD) (s : StateD) (o : OpD) : StateD × Int := if (jobA s o.a).phase ≠ 2 then (s, 5) else if c.quota ≤ drainsL s.jobs (jobA s o.a).queue then (s, 7) else (setJ s o.a { jobA s o.a with phase := 3, til := o.b }, 0)
def runsB (j : JobD) : Bool := decide (j.phase = 2) || decide (j.phase = 3)
def savedD (s : StateD) (o : OpD) : StateD × Int := if runsB (jobA s o.a) = false then (s, 5) else if o.b ≠ (jobA s o.a).inc ∨ o.b ≤ (jobA s o.a).epoch then (s, 6) else (setJ s o.a { jobA s o.a with epoch := o.b }, 0)
def evictD (s : StateD) (o : OpD) : StateD × Int := if (jobA s o.a).phase ≠ 3 then (s, 5) else (releaseD s o.a 0, 0)
def doneD (s : StateD) (o : OpD) : StateD × Int := if runsB (jobA s o.a) = false then (s, 5) else (releaseD s o.a 4, 0)
def cordonD (s : StateD) (o : OpD) : StateD × Int := if (nodeA s o.a).up = false ∨ (nodeA s o.a).cordon = true then (s, 5) else (setN s o.a { nodeA s o.a with cordon := true }, 0)
def uncordonD (s : StateD) (o : OpD) : StateD × Int := if (nodeA s o.a).cordon = false ∨ (nodeA s o.a).moving = true then (s, 5) else (setN s o.a { nodeA s o.a with cordon := false }, 0)
def moveD (s : StateD) (o : OpD) : StateD × Int := if (nodeA s o.a).up = false ∨ (nodeA s o.a).cordon = false ∨ (nodeA s o.a).moving = true ∨ (nodeA s o.a).job ≠ 0 then (s, 5) else (setN s o.a { nodeA s o.a with moving := true }, 0)
def movedD (s : StateD) (o : OpD) : StateD × Int := if withinB o.b 1 9 = false then (s, 1) else if (nodeA s o.a).moving = false then (s, 5) else (setN s o.a { nodeA s o.a with version := o.b, moving := false, cordon := false }, 0)
/-- a set of nodes without one -/
def lessD (n b : Int) : Int := if hasB n b.toNat then n - 2 ^ b.toNat else n
def shrinkD (s : StateD) (o : OpD) : StateD × Int := if (s.nodes.length : Int) ≤ o.b then (s, 4) else if (jobA s o.a).phase ≠ 2 then (s, 5) else if (nodeA s o.b).job ≠ o.a ∨ many (jobA s o.a).nodes ≤ (jobA s o.a).min then (s, 8) else
  (setN (setJ s o.a { jobA s o.a with nodes := lessD (jobA s o.a).nodes o.b }) o.b { nodeA s o.b with job := 0 }, 0)
def newtermD (s : StateD) : StateD × Int := if 1000000 ≤ s.term then (s, 3) else ({ s with term := s.term + 1 }, 0)

/-- an op's numbers, by its kind -/
def manyK (k : Int) : Nat := if k = 1 then 6 else if k = 4 ∨ k = 5 ∨ k = 6 ∨ k = 21 then 0 else if k = 8 ∨ k = 9 ∨ k = 10 ∨ k = 12 ∨ k = 13 ∨ k = 19 ∨ k = 20 then 2 else 1
def numOk (n : Int) (given : Bool) : Bool := decide (0 ≤ n ∧ n ≤ 1000000) && (given || decide (n = 0))
def opOkB (o : OpD) : Bool := decide (1 ≤ o.kind ∧ o.kind ≤ 21) && numOk o.a (decide (0 < manyK o.kind)) && numOk o.b (decide (1 < manyK o.kind)) && numOk o.c (decide (2 < manyK o.kind)) && numOk o.d (decide (3 < manyK o.kind)) && numOk o.e (decide (4 < manyK o.kind)) && numOk o.f (decide (5 < manyK o.kind))
def jobK (k : Int) : Bool := decide (k = 2 ∨ k = 9 ∨ k = 10 ∨ k = 11 ∨ k = 12 ∨ k = 13 ∨ k = 14 ∨ k = 15 ∨ k = 20)
def nodeK (k : Int) : Bool := decide (k = 7 ∨ k = 8 ∨ k = 16 ∨ k = 17 ∨ k = 18 ∨ k = 19)
def deedD (c : ConfD) (s : StateD) (o : OpD) : StateD × Int :=
  if o.kind = 1 then submitD c s o else if o.kind = 2 then cancelD s o else if o.kind = 3 then targetD s o
  else if o.kind = 4 then turnD s (s.mode == 0) 1 else if o.kind = 5 then turnD s (s.mode == 1) 0 else if o.kind = 6 then turnD s (s.mode != 2) 2
  else if o.kind = 7 then downD s o else if o.kind = 8 then upD s o else if o.kind = 9 then holdD s o else if o.kind = 10 then startD s o
  else if o.kind = 11 then unholdD s o else if o.kind = 12 then drainD c s o else if o.kind = 13 then savedD s o else if o.kind = 14 then evictD s o
  else if o.kind = 15 then doneD s o else if o.kind = 16 then cordonD s o else if o.kind = 17 then uncordonD s o else if o.kind = 18 then moveD s o
  else if o.kind = 19 then movedD s o else if o.kind = 20 then shrinkD s o else newtermD s
def zeroState : StateD := ⟨[], [], 0, 0, 0, 0⟩
/-- the state behind an op, and its error, of a state that may be -/
def appD (c : ConfD) (s : StateD) (o : OpD) : StateD × Int :=
  if opOkB o = false then (s, 1)
  else if jobK o.kind = true ∧ (o.a < 1 ∨ (s.jobs.length : Int) < o.a) then (s, 4)
  else if nodeK o.kind = true ∧ (s.nodes.length : Int) ≤ o.a then (s, 4)
  else deedD c s o
def applyD (c : ConfD) (s : StateD) (o : OpD) : StateD × Int := if rightB c s = false then (zeroState, 1) else appD c s o
end Dv
