/- The logical machine and its plain laws: parts P10, P11, P12, proved sound. -/
import Derived.Test.YtkalnfkokkjliaaGreatDoorPA
set_option linter.unusedVariables false
set_option linter.unusedSimpArgs false
namespace Dv

end Dv

namespace Dv

def most53 : Int := 9007199254740991
def digs : Nat → Int → List Int
  | 0, n => [n]
  | f + 1, n => if 128 ≤ n then (n % 128 + 128) :: digs f (n / 128) else [n]
def isNum (n : Int) : Bool := decide (0 ≤ n ∧ n ≤ most53)
def numB (n : Int) : List Int := if isNum n = true then digs 8 n else []
def listB (l : List Int) : List Int := if l.all isNum = true then numB l.length ++ l.flatMap numB else []
def scanN : List Int → Nat → Int → Option (Int × Nat)
  | [], _, _ => none
  | c :: r, i, n => if 8 ≤ i then none
    else if 128 ≤ c then scanN r (i + 1) (n + c % 128 * 128 ^ i)
    else if (c = 0 ∧ 0 < i) ∨ most53 < n + c % 128 * 128 ^ i then none
    else some (n + c % 128 * 128 ^ i, i + 1)
def getN (b : List Int) (at0 : Nat) : Option (Int × Nat) := (scanN (b.drop at0) 0 0).map fun p => (p.1, at0 + p.2)
theorem scanN_take : ∀ (l : List Int) (i : Nat) (n : Int), scanN (l.take (8 - i)) i n = scanN l i n
  | [], i, n => by simp
  | c :: r, i, n => by
    by_cases h : 8 ≤ i
    · rw [show 8 - i = 0 by omega, List.take_zero]
      unfold scanN
      rw [if_pos h]
    · rw [show 8 - i = (8 - (i + 1)) + 1 by omega, List.take_succ_cons]
      simp only [scanN,if_neg h,scanN_take r (i + 1)]
theorem scanN_rng : ∀ (l : List Int) (i : Nat) (n x : Int) (k : Nat), (∀ c ∈ l, 0 ≤ c) → 0 ≤ n → scanN l i n = some (x, k) → 0 ≤ x ∧ x ≤ most53 ∧ i < k ∧ k ≤ i + l.length
  | [], _, _, _, _, _, _, h => by cases h
  | c :: r, i, n, x, k, hc, hn, h => by
    have h0 : 0 ≤ c := hc c (by simp)
    have hp : (0 : Int) ≤ 128 ^ i := Int.le_of_lt (Int.pow_pos (by decide))
    have h1 : 0 ≤ c % 128 * 128 ^ i := Int.mul_nonneg (Int.emod_nonneg _ (by decide)) hp
    unfold scanN at h
    split at h
    · cases h
    split at h
    · have := scanN_rng r (i + 1) _ x k (fun d hd => hc d (by simp [hd])) (by omega) h
      simp only [List.length_cons]
      omega
    split at h
    · cases h
    · rename_i hne
      cases h
      refine ⟨by omega, ?_, by omega, by simp⟩
      simp only [not_or,Int.not_lt] at hne
      exact hne.2
theorem getN_rng {b : List Int} {p p' : Nat} {x : Int} (hb : ∀ c ∈ b, 0 ≤ c) (h : getN b p = some (x, p')) : 0 ≤ x ∧ x ≤ most53 ∧ p < p' ∧ p' ≤ b.length := by
  unfold getN at h
  rw [Option.map_eq_some_iff] at h
  obtain ⟨⟨y, k⟩, h1, h2⟩ := h
  cases h2
  have hr := scanN_rng _ _ _ _ _ (fun c hc => hb c (List.mem_of_mem_drop hc)) (Int.le_refl 0) h1
  rw [List.length_drop] at hr
  dsimp only
  omega
end Dv

namespace Dv

def bitI (b : Bool) (n : Int) : Int := if b = true then n else 0
def flagI (n : NodeD) : Int := bitI n.up 1 + bitI n.cordon 2 + bitI n.moving 4
def nodeNs (n : NodeD) : List Int := [flagI n, n.version, n.job]
def jobNs (j : JobD) : List Int := [j.queue, j.prio, j.min, j.max, j.work, j.pin, j.phase, j.inc, j.nodes, j.since, j.til, j.epoch]
def numsN (s : StateD) (i : Nat) : List Int := (s.nodes.length : Int) :: (s.nodes.take i).flatMap nodeNs
def numsJ (s : StateD) (i : Nat) : List Int := numsN s s.nodes.length ++ (s.jobs.length : Int) :: (s.jobs.take i).flatMap jobNs
def numsI (s : StateD) : List Int := numsJ s s.jobs.length ++ [s.goal, s.prior, s.mode, s.term]
def putI (s : StateD) : List Int := if s.nodes.length ≤ 6 ∧ s.jobs.length ≤ 24 then listB (numsI s) else []
theorem nodeNs_len (l : List NodeD) : (l.flatMap nodeNs).length = 3 * l.length := by
  induction l with
  | nil => rfl
  | cons n l ih => rw [List.flatMap_cons, List.length_append, List.length_cons, ih]; simp [nodeNs]; omega
theorem jobNs_len (l : List JobD) : (l.flatMap jobNs).length = 12 * l.length := by
  induction l with
  | nil => rfl
  | cons n l ih => rw [List.flatMap_cons, List.length_append, List.length_cons, ih]; simp [jobNs]; omega
theorem take_snocD {α : Type} {l : List α} {i : Nat} (z : α) (h : i < l.length) : l.take (i + 1) = l.take i ++ [l.getD i z] := by
  rw [List.take_add_one]; simp [List.getD,h]
theorem numsN_succ (s : StateD) {i : Nat} (h : i < s.nodes.length) : numsN s (i + 1) = numsN s i ++ nodeNs (s.nodes.getD i zeroNode) := by
  unfold numsN; rw [take_snocD zeroNode h, List.flatMap_append]; simp
theorem numsJ_succ (s : StateD) {i : Nat} (h : i < s.jobs.length) : numsJ s (i + 1) = numsJ s i ++ jobNs (s.jobs.getD i zeroJob) := by
  unfold numsJ; rw [take_snocD zeroJob h, List.flatMap_append]; simp
theorem numsN_len (s : StateD) {i : Nat} (h : i ≤ s.nodes.length) : (numsN s i).length = 1 + 3 * i := by
  unfold numsN; rw [List.length_cons, nodeNs_len, List.length_take]; omega
theorem numsJ_len (s : StateD) {i : Nat} (h : i ≤ s.jobs.length) : (numsJ s i).length = 2 + 3 * s.nodes.length + 12 * i := by
  unfold numsJ; rw [List.length_append, List.length_cons, jobNs_len, List.length_take, numsN_len s (Nat.le_refl _)]; omega
end Dv
