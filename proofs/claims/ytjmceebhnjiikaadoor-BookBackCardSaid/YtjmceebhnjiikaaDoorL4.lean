/- What steps keep: jobs keep what they were asked for; a job's op turns no other job. -/
import Derived.Test.YtjmceebhnjiikaaDoorL3
set_option linter.unusedVariables false
set_option linter.unusedSimpArgs false
namespace Dv

structure KeepsP (a b : JobD) : Prop where
  fixed : a.queue = b.queue ∧ a.prio = b.prio ∧ a.min = b.min ∧ a.max = b.max ∧ a.work = b.work ∧ a.pin = b.pin
  inc : a.inc ≤ b.inc
  epoch : a.epoch ≤ b.epoch
  ended : a.phase = 4 → b = a
theorem KeepsP.refl (a : JobD) : KeepsP a a := ⟨⟨rfl, rfl, rfl, rfl, rfl, rfl⟩, Int.le_refl _, Int.le_refl _, fun _ => rfl⟩
theorem KeepsP.of_job {c : ConfD} {s : StateD} {k0 : Nat} {j' : JobD} {ns' : List NodeD} (q : JobStep c s k0 j' ns') : KeepsP (joA s k0) j' :=
  ⟨⟨q.fixed.1.symm, q.fixed.2.1.symm, q.fixed.2.2.1.symm, q.fixed.2.2.2.1.symm, q.fixed.2.2.2.2.1.symm, q.fixed.2.2.2.2.2.symm⟩, q.grow.1, q.grow.2, fun e => absurd e q.ended⟩
theorem step_keeps {c : ConfD} {s t : StateD} (q : Step c s t) : s.jobs.length ≤ t.jobs.length ∧ s.term ≤ t.term ∧ ∀ k, k < s.jobs.length → KeepsP (joA s k) (joA t k) := by
  have keep : ∀ {k0 : Nat} {j' : JobD} {ns' : List NodeD}, JobStep c s k0 j' ns' → ∀ k, k < s.jobs.length → KeepsP (joA s k) ((s.jobs.set k0 j').getD k zeroJob) := fun {k0 j' ns'} q k hk => by
    rw [getD_set _ _ _ _ _ q.hk]
    split
    · rename_i e; subst e; exact .of_job q
    · exact .refl _
  cases q with
  | num q => exact ⟨Nat.le_refl _, q.term.1, fun k _ => .refl _⟩
  | job q => exact ⟨by simp, Int.le_refl _, keep q⟩
  | node q => exact ⟨Nat.le_refl _, Int.le_refl _, fun k _ => .refl _⟩
  | both q q2 => exact ⟨by simp, Int.le_refl _, keep q⟩
  | more q =>
    refine ⟨by simp, Int.le_refl _, fun k hk => ?_⟩
    unfold joA
    dsimp only
    rw [getD_snoc, if_pos hk]
    exact .refl _
theorem apply_keeps {c : ConfD} {s : StateD} (h : RightP c s) (o : OpD) : s.jobs.length ≤ (applyD c s o).1.jobs.length ∧ s.term ≤ (applyD c s o).1.term ∧ ∀ k, k < s.jobs.length → KeepsP (joA s k) (joA (applyD c s o).1 k) := by
  have := apply_step h o
  by_cases e : (applyD c s o).2 = 0
  · exact step_keeps (this.1 e)
  · rw [this.2 e]; exact ⟨Nat.le_refl _, Int.le_refl _, fun k _ => .refl _⟩

/-! how many differ -/
def diffTo {α : Type} [DecidableEq α] (f g : Nat → α) : Nat → Int
  | 0 => 0
  | k + 1 => diffTo f g k + if f k = g k then 0 else 1
theorem diffTo_le {α : Type} [DecidableEq α] (f g : Nat → α) : ∀ k : Nat, 0 ≤ diffTo f g k ∧ diffTo f g k ≤ k
  | 0 => by simp [diffTo]
  | k + 1 => by
    have := diffTo_le f g k
    unfold diffTo
    split <;> omega
theorem diffTo_zero {α : Type} [DecidableEq α] (f g : Nat → α) : ∀ k : Nat, (∀ i, i < k → f i = g i) → diffTo f g k = 0
  | 0, _ => rfl
  | k + 1, h => by
    unfold diffTo
    rw [diffTo_zero f g k (fun i hi => h i (by omega)), if_pos (h k (by omega))]; rfl
theorem diffTo_same {α : Type} [DecidableEq α] (f g : Nat → α) (k : Nat) (h : ∀ i, i < k → f i = g i) : diffTo f g k ≤ 1 := by
  rw [diffTo_zero f g k h]; decide
theorem diffTo_one {α : Type} [DecidableEq α] (f g : Nat → α) (k0 : Nat) : ∀ k : Nat, (∀ i, i < k → i ≠ k0 → f i = g i) → diffTo f g k ≤ 1
  | 0, _ => by simp [diffTo]
  | k + 1, h => by
    unfold diffTo
    by_cases e : k = k0
    · subst e
      rw [diffTo_zero f g k (fun i hi => h i (by omega) (by omega))]
      split <;> simp
    · rw [if_pos (h k (by omega) e)]
      have := diffTo_one f g k0 k (fun i hi => h i (by omega))
      omega
/-- what a node is beside its job -/
def flagsN (n : NodeD) : Bool × Bool × Bool × Int := (n.up, n.cordon, n.moving, n.version)
theorem step_alone {c : ConfD} {s t : StateD} (q : Step c s t) : diffTo (joA s) (joA t) s.jobs.length ≤ 1 ∧ diffTo (fun i => flagsN (noA s i)) (fun i => flagsN (noA t i)) s.nodes.length ≤ 1 ∧ t.jobs.length ≤ s.jobs.length + 1 ∧ t.nodes.length = s.nodes.length := by
  have jobs : ∀ {k0 : Nat} {j' : JobD} {ns' : List NodeD}, JobStep c s k0 j' ns' → diffTo (joA s) (fun k => (s.jobs.set k0 j').getD k zeroJob) s.jobs.length ≤ 1 := fun {k0 j' ns'} q =>
    diffTo_one _ _ k0 _ (fun i hi hne => by rw [getD_set _ _ _ _ _ q.hk, if_neg hne]; rfl)
  have flags : ∀ {k0 : Nat} {j' : JobD} {ns' : List NodeD}, JobStep c s k0 j' ns' → ∀ i, i < s.nodes.length → flagsN (noA s i) = flagsN (ns'.getD i zeroNode) := fun {k0 j' ns'} q i hi => by
    obtain ⟨a, b, d, e⟩ := q.same i hi
    unfold flagsN
    rw [a, b, d, e]
  cases q with
  | num q => exact ⟨diffTo_same _ _ _ (fun i _ => rfl), diffTo_same _ _ _ (fun i _ => rfl), by simp, rfl⟩
  | job q => exact ⟨jobs q, diffTo_same _ _ _ (flags q), by simp, q.len⟩
  | @node i0 n' q =>
    refine ⟨diffTo_same _ _ _ (fun i _ => rfl), diffTo_one _ _ i0 _ (fun i hi hne => ?_), by simp, by simp⟩
    unfold noA
    dsimp only
    rw [getD_set _ _ _ _ _ q.hi, if_neg hne]
  | @both k0 j' ns' i0 n' q q2 =>
    refine ⟨jobs q, diffTo_one _ _ i0 _ (fun i hi hne => ?_), by simp, by simp [q.len]⟩
    have := flags q i hi
    rw [this]
    unfold noA
    dsimp only
    rw [getD_set _ _ _ _ _ q2.hi, if_neg hne]
  | more q =>
    refine ⟨diffTo_same _ _ _ (fun i hi => ?_), diffTo_same _ _ _ (fun i _ => rfl), by simp, rfl⟩
    unfold joA
    dsimp only
    rw [getD_snoc, if_pos hi]

/-! as many nodes have a job as the jobs have nodes -/
def busyOf (a : Int) : List NodeD → Int
  | [] => 0
  | n :: l => (if n.job = a then 1 else 0) + busyOf a l
def busy : List NodeD → Int
  | [] => 0
  | n :: l => (if 0 < n.job then 1 else 0) + busy l
def sumTo (f : Nat → Int) : Nat → Int
  | 0 => 0
  | k + 1 => sumTo f k + f k
theorem busyOf_snoc (a : Int) (n : NodeD) : ∀ l : List NodeD, busyOf a (l ++ [n]) = busyOf a l + if n.job = a then 1 else 0
  | [] => by simp [busyOf]
  | m :: l => by simp only [List.cons_append, busyOf, busyOf_snoc a n l]; omega
theorem busy_snoc (n : NodeD) : ∀ l : List NodeD, busy (l ++ [n]) = busy l + if 0 < n.job then 1 else 0
  | [] => by simp [busy]
  | m :: l => by simp only [List.cons_append, busy, busy_snoc n l]; omega
theorem busy_le : ∀ l : List NodeD, 0 ≤ busy l ∧ busy l ≤ l.length
  | [] => by simp [busy]
  | m :: l => by
    have := busy_le l
    simp only [busy, List.length_cons]
    split <;> omega
theorem sumTo_add (f g : Nat → Int) : ∀ k, sumTo (fun i => f i + g i) k = sumTo f k + sumTo g k
  | 0 => rfl
  | k + 1 => by simp only [sumTo, sumTo_add f g k]; omega
theorem sumTo_zero : ∀ k, sumTo (fun _ => 0) k = 0
  | 0 => rfl
  | k + 1 => by simp only [sumTo, sumTo_zero k]; rfl
theorem sumTo_one (j : Int) (h0 : 0 ≤ j) : ∀ k : Nat, sumTo (fun i => if j = (i : Int) + 1 then 1 else 0) k = if 0 < j ∧ j ≤ k then 1 else 0
  | 0 => by
    rw [if_neg (by omega)]; rfl
  | k + 1 => by
    simp only [sumTo]
    rw [sumTo_one j h0 k]
    by_cases h1 : j = (k : Int) + 1
    · rw [if_pos h1, if_neg (by omega), if_pos (by omega)]; rfl
    · rw [if_neg h1]
      by_cases h2 : 0 < j ∧ j ≤ (k : Int)
      · rw [if_pos h2, if_pos (by omega)]; rfl
      · rw [if_neg h2, if_neg (by omega)]; rfl
theorem sum_busy (m : Nat) : ∀ ns : List NodeD, (∀ n ∈ ns, 0 ≤ n.job ∧ n.job ≤ m) → sumTo (fun k => busyOf ((k : Int) + 1) ns) m = busy ns
  | [], _ => sumTo_zero m
  | n :: l, h => by
    have h1 := h n (by simp)
    have ih := sum_busy m l (fun x hx => h x (by simp [hx]))
    simp only [busyOf, busy]
    rw [sumTo_add, ih, sumTo_one n.job h1.1]
    by_cases e : 0 < n.job
    · rw [if_pos e, if_pos ⟨e, h1.2⟩]
    · rw [if_neg e, if_neg (fun h => e h.1)]
theorem has_big (m : Int) (n : Nat) (h0 : 0 ≤ m) (h1 : m < 2 ^ n) (hn : n ≤ 6) (i : Nat) (hi : n ≤ i) (h6 : i < 6) : hasB m i = false := by
  obtain ⟨m, rfl⟩ := Int.eq_ofNat_of_zero_le h0
  have hc : m < 2 ^ n := by rw [← Int.ofNat_lt, Int.natCast_pow]; exact h1
  have h64 : (2 : Int) ^ n ≤ 64 := pow_le64 n hn
  have := (has_of_lt m n (by omega) hn).1 hc i h6
  cases hb : hasB (m : Int) i with
  | false => rfl
  | true => have := this hb; omega
theorem manyTo_big (m : Int) (n : Nat) (h : ∀ i, n ≤ i → i < 6 → hasB m i = false) : ∀ d : Nat, n + d ≤ 6 → manyTo m (n + d) = manyTo m n
  | 0, _ => rfl
  | d + 1, hd => by
    rw [← Nat.add_assoc, manyTo, manyTo_big m n h d (by omega)]
    unfold has01
    rw [h (n + d) (by omega) (by omega)]
    simp
theorem many_busy {c : ConfD} {s : StateD} (h : RightP c s) {k : Nat} (hk : k < s.jobs.length) : many (joA s k).nodes = busyOf ((k : Int) + 1) s.nodes := by
  have hln := h.len
  have hbig : ∀ i, s.nodes.length ≤ i → i < 6 → hasB (joA s k).nodes i = false := fun i h1 h2 => by
    cases hp : placedB (joA s k).phase with
    | true =>
      obtain ⟨a, b, _⟩ := h.placed k hk hp
      exact has_big _ _ a b hln.2 i h1 h2
    | false => rw [h.idle k hk hp]; exact has_zero i
  have h1 := manyTo_big (joA s k).nodes s.nodes.length hbig (6 - s.nodes.length) (by omega)
  rw [show s.nodes.length + (6 - s.nodes.length) = 6 by omega] at h1
  have h2 : ∀ q, q ≤ s.nodes.length → manyTo (joA s k).nodes q = busyOf ((k : Int) + 1) (s.nodes.take q) := by
    intro q
    induction q with
    | zero => intro _; rfl
    | succ q ih =>
      intro hq
      rw [manyTo, ih (by omega), take_snoc s.nodes q zeroNode (by omega), busyOf_snoc]
      have hl := h.link q k (by omega) hk
      unfold has01
      unfold noA at hl
      by_cases e : (s.nodes.getD q zeroNode).job = (k : Int) + 1
      · rw [if_pos e, if_pos (hl.2 e)]
      · rw [if_neg e, if_neg (fun hb => e (hl.1 hb))]
  unfold many
  rw [h1, h2 _ (Nat.le_refl _), List.take_length]
/-- as many nodes have a job as the jobs have nodes. -/
theorem frees {c : ConfD} {s : StateD} (h : RightP c s) : sumTo (fun k => many (joA s k).nodes) s.jobs.length = busy s.nodes := by
  have e : ∀ k, k ≤ s.jobs.length → sumTo (fun k => many (joA s k).nodes) k = sumTo (fun k => busyOf ((k : Int) + 1) s.nodes) k := by
    intro k
    induction k with
    | zero => intro _; rfl
    | succ k ih => intro hk; simp only [sumTo]; rw [ih (by omega), many_busy h (by omega)]
  rw [e _ (Nat.le_refl _)]
  refine sum_busy _ _ (fun n hn => ?_)
  obtain ⟨i, hi, rfl⟩ := List.mem_iff_getElem.1 hn
  have := h.job i hi
  unfold noA at this
  simpa [List.getD, hi] using this
end Dv
