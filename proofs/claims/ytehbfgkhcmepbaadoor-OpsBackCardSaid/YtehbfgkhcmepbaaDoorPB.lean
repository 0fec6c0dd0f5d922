/- The logical machine and its plain laws: parts P10, P11, P12, P13, P14, P15, P16, proved sound. -/
import Derived.Test.YtehbfgkhcmepbaaDoorPA
set_option linter.unusedVariables false
set_option linter.unusedSimpArgs false
namespace Dv

def nodeF (f v j : Int) : NodeD := ⟨hasB f 0, hasB f 1, hasB f 2, v, j⟩
def pTail (ns : List NodeD) (js : List JobD) (p : Nat) : List Int → Except Nat StateD
  | [] => .error p
  | [_] => .error (p + 1)
  | [_, _] => .error (p + 2)
  | [_, _, _] => .error (p + 3)
  | [g, a, m, t] => .ok ⟨ns, js, g, a, m, t⟩
  | _ :: _ :: _ :: _ :: _ :: _ => .error (p + 4)
def pJobs (ns : List NodeD) : Nat → List JobD → Nat → List Int → Except Nat StateD
  | 0, js, p, l => pTail ns js p l
  | n + 1, js, p, x0 :: x1 :: x2 :: x3 :: x4 :: x5 :: x6 :: x7 :: x8 :: x9 :: x10 :: x11 :: r => pJobs ns n (js ++ [⟨x0, x1, x2, x3, x4, x5, x6, x7, x8, x9, x10, x11⟩]) (p + 12) r
  | _ + 1, _, p, l => .error (p + l.length)
def pJobs0 (ns : List NodeD) (p : Nat) : List Int → Except Nat StateD
  | [] => .error p
  | m :: r => if m ≤ 24 then pJobs ns m.toNat [] (p + 1) r else .error (p + 1)
def pNodes : Nat → List NodeD → Nat → List Int → Except Nat StateD
  | 0, ns, p, l => pJobs0 ns p l
  | n + 1, ns, p, l => match l with
    | [] => .error p
    | f :: r => if f ≤ 7 then (match r with
      | [] => .error (p + 1)
      | [_] => .error (p + 2)
      | v :: j :: r => pNodes n (ns ++ [nodeF f v j]) (p + 3) r) else .error (p + 1)
def pState (l : List Int) : Except Nat StateD := match l with
  | [] => .error 0
  | n :: r => if n ≤ 6 then pNodes n.toNat [] 1 r else .error 1

theorem pNodes_zero (ns : List NodeD) (p : Nat) (l : List Int) : pNodes 0 ns p l = pJobs0 ns p l := by cases l <;> rfl
theorem pNodes_nil (n : Nat) (ns : List NodeD) (p : Nat) : pNodes (n + 1) ns p [] = .error p := rfl
theorem pNodes_one (n : Nat) (ns : List NodeD) (p : Nat) (f : Int) (r : List Int) (h : ¬ f ≤ 7) : pNodes (n + 1) ns p (f :: r) = .error (p + 1) := by
  simp [pNodes, h]
theorem pNodes_f (n : Nat) (ns : List NodeD) (p : Nat) (f : Int) (h : f ≤ 7) : pNodes (n + 1) ns p [f] = .error (p + 1) := by
  simp [pNodes, h]
theorem pNodes_fv (n : Nat) (ns : List NodeD) (p : Nat) (f v : Int) (h : f ≤ 7) : pNodes (n + 1) ns p [f, v] = .error (p + 2) := by
  simp [pNodes, h]
theorem pNodes_fvj (n : Nat) (ns : List NodeD) (p : Nat) (f v j : Int) (r : List Int) (h : f ≤ 7) : pNodes (n + 1) ns p (f :: v :: j :: r) = pNodes n (ns ++ [nodeF f v j]) (p + 3) r := by
  simp [pNodes, h]
theorem pJobs0_one (ns : List NodeD) (p : Nat) (m : Int) (r : List Int) (h : ¬ m ≤ 24) : pJobs0 ns p (m :: r) = .error (p + 1) := by simp [pJobs0, h]
theorem pJobs0_ok (ns : List NodeD) (p : Nat) (m : Int) (r : List Int) (h : m ≤ 24) : pJobs0 ns p (m :: r) = pJobs ns m.toNat [] (p + 1) r := by simp [pJobs0, h]
theorem pJobs_zero (ns : List NodeD) (js : List JobD) (p : Nat) (l : List Int) : pJobs ns 0 js p l = pTail ns js p l := by simp [pJobs]
theorem pJobs_more (ns : List NodeD) (n : Nat) (js : List JobD) (p : Nat) (x0 x1 x2 x3 x4 x5 x6 x7 x8 x9 x10 x11 : Int) (r : List Int) : pJobs ns (n + 1) js p (x0 :: x1 :: x2 :: x3 :: x4 :: x5 :: x6 :: x7 :: x8 :: x9 :: x10 :: x11 :: r) = pJobs ns n (js ++ [⟨x0, x1, x2, x3, x4, x5, x6, x7, x8, x9, x10, x11⟩]) (p + 12) r := by simp [pJobs]
theorem dropI_nil {xs : List Int} {k : Nat} (h : xs.drop k = []) (hk : k ≤ xs.length) : k = xs.length := by
  have := List.drop_eq_nil_iff.1 h
  omega
theorem dropI_cons {xs : List Int} {k : Nat} {x : Int} {r : List Int} (h : xs.drop k = x :: r) : k < xs.length ∧ xs.getD k 0 = x ∧ xs.drop (k + 1) = r := by
  have hk : k < xs.length := by
    rcases Nat.lt_or_ge k xs.length with h1 | h1
    · exact h1
    · rw [List.drop_eq_nil_of_le h1] at h; cases h
  rw [List.drop_eq_getElem_cons hk] at h
  cases h
  exact ⟨hk, by simp [List.getD, hk], rfl⟩
end Dv

namespace Dv

def most53 : Int := 9007199254740991
/-- a number's bytes, the low ones first -/
def digs : Nat → Int → List Int
  | 0, n => [n]
  | f + 1, n => if 128 ≤ n then (n % 128 + 128) :: digs f (n / 128) else [n]
def isNum (n : Int) : Bool := decide (0 ≤ n ∧ n ≤ most53)
def numB (n : Int) : List Int := if isNum n = true then digs 8 n else []
def listB (l : List Int) : List Int := if l.all isNum = true then numB l.length ++ l.flatMap numB else []
/-- bytes from a place on, behind i of them that come to n: the number, how many bytes it has. -/
def scanN : List Int → Nat → Int → Option (Int × Nat)
  | [], _, _ => none
  | c :: r, i, n => if 8 ≤ i then none
    else if 128 ≤ c then scanN r (i + 1) (n + c % 128 * 128 ^ i)
    else if (c = 0 ∧ 0 < i) ∨ most53 < n + c % 128 * 128 ^ i then none
    else some (n + c % 128 * 128 ^ i, i + 1)
def getN (b : List Int) (at0 : Nat) : Option (Int × Nat) := (scanN (b.drop at0) 0 0).map fun p => (p.1, at0 + p.2)
/-- so many numbers from a place on -/
def getLs (b : List Int) : Nat → Nat → Option (List Int × Nat)
  | 0, p => some ([], p)
  | k + 1, p => match getN b p with
    | none => none
    | some (x, p') => (getLs b k p').map fun q => (x :: q.1, q.2)
def getL (b : List Int) (p many : Nat) : Option (List Int × Nat) := match getN b p with
  | none => none
  | some (n, p') => if (many : Int) < n then none else getLs b n.toNat p'
/-- the state of bytes -/
def getI (c : ConfD) (b : List Int) : Option StateD := match getL b 0 400 with
  | none => none
  | some (xs, e) => if e = b.length then (match pState xs with
    | .error _ => none
    | .ok s => if rightB c s = true then some s else none) else none
def zeroS : StateD := ⟨[], [], 0, 0, 0, 0⟩

theorem scanN_take : ∀ (l : List Int) (i : Nat) (n : Int), scanN (l.take (8 - i)) i n = scanN l i n
  | [], i, n => by simp
  | c :: r, i, n => by
    by_cases h : 8 ≤ i
    · rw [show 8 - i = 0 by omega, List.take_zero]
      unfold scanN
      rw [if_pos h]
    · rw [show 8 - i = (8 - (i + 1)) + 1 by omega, List.take_succ_cons]
      simp only [scanN, if_neg h, scanN_take r (i + 1)]
theorem scanN_rng : ∀ (l : List Int) (i : Nat) (n x : Int) (k : Nat), (∀ c ∈ l, 0 ≤ c) → 0 ≤ n → scanN l i n = some (x, k) → 0 ≤ x ∧ x ≤ most53 ∧ i < k ∧ k ≤ i + l.length
  | [], _, _, _, _, _, _, h => by cases h
  | c :: r, i, n, x, k, hc, hn, h => by
    have h0 : 0 ≤ c := hc c (by simp)
    have hp : (0 : Int) ≤ 128 ^ i := Int.le_of_lt (Int.pow_pos (by decide))
    have h1 : 0 ≤ c % 128 * 128 ^ i := Int.mul_nonneg (Int.emod_nonneg _ (by decide)) hp
    unfold scanN at h
    split at h
    · cases h
    split at h
    · have := scanN_rng r (i + 1) _ x k (fun d hd => hc d (by simp [hd])) (by omega) h
      simp only [List.length_cons]
      omega
    split at h
    · cases h
    · rename_i hne
      cases h
      refine ⟨by omega, ?_, by omega, by simp⟩
      simp only [not_or, Int.not_lt] at hne
      exact hne.2
theorem getN_rng {b : List Int} {p p' : Nat} {x : Int} (hb : ∀ c ∈ b, 0 ≤ c) (h : getN b p = some (x, p')) : 0 ≤ x ∧ x ≤ most53 ∧ p < p' ∧ p' ≤ b.length := by
  unfold getN at h
  rw [Option.map_eq_some_iff] at h
  obtain ⟨⟨y, k⟩, h1, h2⟩ := h
  cases h2
  have hr := scanN_rng _ _ _ _ _ (fun c hc => hb c (List.mem_of_mem_drop hc)) (Int.le_refl 0) h1
  rw [List.length_drop] at hr
  dsimp only
  omega
theorem getLs_rng {b : List Int} (hb : ∀ c ∈ b, 0 ≤ c) : ∀ (k p : Nat) (xs : List Int) (e : Nat), getLs b k p = some (xs, e) → p ≤ b.length → xs.length = k ∧ (∀ x ∈ xs, 0 ≤ x ∧ x ≤ most53) ∧ p ≤ e ∧ e ≤ b.length
  | 0, p, xs, e, h, hp => by cases h; exact ⟨rfl, (fun _ h => absurd h (by simp)), Nat.le_refl _, hp⟩
  | k + 1, p, xs, e, h, hp => by
    unfold getLs at h
    split at h
    · cases h
    · rename_i x p' hx
      rw [Option.map_eq_some_iff] at h
      obtain ⟨⟨ys, e'⟩, h1, h2⟩ := h
      cases h2
      have hr := getN_rng hb hx
      obtain ⟨k1, k2, k3, k4⟩ := getLs_rng hb k p' ys e' h1 hr.2.2.2
      refine ⟨by simp [k1], fun y hy => ?_, by dsimp only; omega, k4⟩
      rcases List.mem_cons.1 hy with rfl | hy
      · exact ⟨hr.1, hr.2.1⟩
      · exact k2 y hy
theorem getL_rng {b : List Int} (hb : ∀ c ∈ b, 0 ≤ c) {p many : Nat} {xs : List Int} {e : Nat} (h : getL b p many = some (xs, e)) : xs.length ≤ many ∧ (∀ x ∈ xs, 0 ≤ x ∧ x ≤ most53) ∧ e ≤ b.length := by
  unfold getL at h
  split at h
  · cases h
  · rename_i n p' hn
    have hr := getN_rng hb hn
    split at h
    · cases h
    · obtain ⟨k1, k2, _, k4⟩ := getLs_rng hb _ _ _ _ h hr.2.2.2
      exact ⟨by omega, k2, k4⟩
end Dv

namespace Dv

def bitI (b : Bool) (n : Int) : Int := if b = true then n else 0
def flagI (n : NodeD) : Int := bitI n.up 1 + bitI n.cordon 2 + bitI n.moving 4
def nodeNs (n : NodeD) : List Int := [flagI n, n.version, n.job]
def jobNs (j : JobD) : List Int := [j.queue, j.prio, j.min, j.max, j.work, j.pin, j.phase, j.inc, j.nodes, j.since, j.til, j.epoch]
def numsN (s : StateD) (i : Nat) : List Int := (s.nodes.length : Int) :: (s.nodes.take i).flatMap nodeNs
def numsJ (s : StateD) (i : Nat) : List Int := numsN s s.nodes.length ++ (s.jobs.length : Int) :: (s.jobs.take i).flatMap jobNs
def numsI (s : StateD) : List Int := numsJ s s.jobs.length ++ [s.goal, s.prior, s.mode, s.term]
def putI (s : StateD) : List Int := if s.nodes.length ≤ 6 ∧ s.jobs.length ≤ 24 then listB (numsI s) else []
theorem nodeNs_len (l : List NodeD) : (l.flatMap nodeNs).length = 3 * l.length := by
  induction l with
  | nil => rfl
  | cons n l ih => rw [List.flatMap_cons, List.length_append, List.length_cons, ih]; simp [nodeNs]; omega
theorem jobNs_len (l : List JobD) : (l.flatMap jobNs).length = 12 * l.length := by
  induction l with
  | nil => rfl
  | cons n l ih => rw [List.flatMap_cons, List.length_append, List.length_cons, ih]; simp [jobNs]; omega
theorem take_snocD {α : Type} {l : List α} {i : Nat} (z : α) (h : i < l.length) : l.take (i + 1) = l.take i ++ [l.getD i z] := by
  rw [List.take_add_one]; simp [List.getD, h]
theorem numsN_succ (s : StateD) {i : Nat} (h : i < s.nodes.length) : numsN s (i + 1) = numsN s i ++ nodeNs (s.nodes.getD i zeroNode) := by
  unfold numsN; rw [take_snocD zeroNode h, List.flatMap_append]; simp
theorem numsJ_succ (s : StateD) {i : Nat} (h : i < s.jobs.length) : numsJ s (i + 1) = numsJ s i ++ jobNs (s.jobs.getD i zeroJob) := by
  unfold numsJ; rw [take_snocD zeroJob h, List.flatMap_append]; simp
theorem numsN_len (s : StateD) {i : Nat} (h : i ≤ s.nodes.length) : (numsN s i).length = 1 + 3 * i := by
  unfold numsN; rw [List.length_cons, nodeNs_len, List.length_take]; omega
theorem numsJ_len (s : StateD) {i : Nat} (h : i ≤ s.jobs.length) : (numsJ s i).length = 2 + 3 * s.nodes.length + 12 * i := by
  unfold numsJ; rw [List.length_append, List.length_cons, jobNs_len, List.length_take, numsN_len s (Nat.le_refl _)]; omega
end Dv

namespace Dv

def nodeX (xs : List Int) (i : Nat) : NodeD := nodeF (xs.getD (1 + 3 * i) 0) (xs.getD (1 + 3 * i + 1) 0) (xs.getD (1 + 3 * i + 2) 0)
def jobX (xs : List Int) (p : Nat) : JobD := ⟨xs.getD p 0, xs.getD (p + 1) 0, xs.getD (p + 2) 0, xs.getD (p + 3) 0, xs.getD (p + 4) 0, xs.getD (p + 5) 0, xs.getD (p + 6) 0, xs.getD (p + 7) 0, xs.getD (p + 8) 0, xs.getD (p + 9) 0, xs.getD (p + 10) 0, xs.getD (p + 11) 0⟩
/-- how many nodes; where the number of jobs stands; how many jobs. -/
def cntX (xs : List Int) : Nat := (xs.getD 0 0).toNat
def jobsX (xs : List Int) : Nat := (xs.getD (1 + 3 * cntX xs) 0).toNat
def nodesL (xs : List Int) (k : Nat) : List NodeD := (List.range k).map (nodeX xs)
def jobsL (xs : List Int) (k : Nat) : List JobD := (List.range k).map fun i => jobX xs (2 + 3 * cntX xs + 12 * i)
def stX (xs : List Int) : StateD := ⟨nodesL xs (cntX xs), jobsL xs (jobsX xs), xs.getD (2 + 3 * cntX xs + 12 * jobsX xs) 0, xs.getD (2 + 3 * cntX xs + 12 * jobsX xs + 1) 0, xs.getD (2 + 3 * cntX xs + 12 * jobsX xs + 2) 0, xs.getD (2 + 3 * cntX xs + 12 * jobsX xs + 3) 0⟩
def okA (xs : List Int) : Bool := decide (6 ≤ xs.length ∧ xs.getD 0 0 ≤ 6 ∧ 6 + 3 * xs.getD 0 0 ≤ xs.length)
def okB (xs : List Int) : Bool := decide (xs.getD (1 + 3 * cntX xs) 0 ≤ 24 ∧ (xs.length : Int) = 2 + 3 * cntX xs + 12 * xs.getD (1 + 3 * cntX xs) 0 + 4)
/-- the document's. -/
def getR (c : ConfD) (b : List Int) : Option StateD := match getL b 0 400 with
  | none => none
  | some (xs, _) => if okA xs = true ∧ okB xs = true ∧ putI (stX xs) = b ∧ rightRB c (stX xs) = true then some (stX xs) else none
theorem nodesL_succ (xs : List Int) (k : Nat) : nodesL xs (k + 1) = nodesL xs k ++ [nodeX xs k] := by
  unfold nodesL; rw [List.range_succ, List.map_append]; rfl
theorem jobsL_succ (xs : List Int) (k : Nat) : jobsL xs (k + 1) = jobsL xs k ++ [jobX xs (2 + 3 * cntX xs + 12 * k)] := by
  unfold jobsL; rw [List.range_succ, List.map_append]; rfl
theorem nodesL_len (xs : List Int) (k : Nat) : (nodesL xs k).length = k := by simp [nodesL]
theorem jobsL_len (xs : List Int) (k : Nat) : (jobsL xs k).length = k := by simp [jobsL]
end Dv

namespace Dv

theorem digs_one (f : Nat) {m : Int} (h : m < 128) : digs f m = [m] := by
  cases f with
  | zero => rfl
  | succ f => rw [digs, if_neg (by omega)]
theorem digs_ge (f : Nat) (m : Int) : 1 ≤ (digs f m).length := by
  cases f with
  | zero => simp [digs]
  | succ f => unfold digs; split <;> simp
theorem numB_of {n : Int} (h : isNum n = true) : numB n = digs 8 n := by unfold numB; rw [if_pos h]
theorem numB_one {n : Int} (h : isNum n = true) : 1 ≤ (numB n).length := by rw [numB_of h]; exact digs_ge 8 n

theorem scanN_digs : ∀ (f : Nat) (m : Int) (i : Nat) (acc : Int) (t : List Int), 0 ≤ m → m < 128 ^ (f + 1) → (0 < i → 0 < m) → 0 ≤ acc → acc + m * 128 ^ i ≤ most53 → scanN (digs f m ++ t) i acc = some (acc + m * 128 ^ i, i + (digs f m).length)
  | f, m, i, acc, t, h0, hf, hi, ha, hs => by
    have hp : (1 : Int) ≤ 128 ^ i := Int.pow_pos (by decide)
    have hi8 : i < 8 := by
      rcases Nat.lt_or_ge i 8 with h | h
      · exact h
      · exfalso
        have hm := hi (by omega)
        have h1 : (128 : Int) ^ 8 ≤ 128 ^ i := by exact_mod_cast Nat.pow_le_pow_right (by decide) h
        have h2 : 1 * 128 ^ i ≤ m * 128 ^ i := Int.mul_le_mul_of_nonneg_right hm (by omega)
        unfold most53 at hs
        omega
    by_cases hm : 128 ≤ m
    case neg =>
      rw [digs_one f (by omega)]
      have e : m % 128 = m := by omega
      simp only [List.cons_append, List.nil_append, scanN, if_neg (show ¬ 8 ≤ i by omega), if_neg hm, e]
      rw [if_neg (by omega)]
      rfl
    case pos =>
      cases f with
      | zero => exfalso; omega
      | succ f =>
        rw [digs, if_pos hm]
        have e : (m % 128 + 128) % 128 = m % 128 := by omega
        have e2 : acc + m % 128 * 128 ^ i + m / 128 * 128 ^ (i + 1) = acc + m * 128 ^ i := by
          rw [Int.pow_succ, Int.mul_comm (128 ^ i) 128, ← Int.mul_assoc, Int.add_assoc, ← Int.add_mul]
          congr 2; omega
        have h1 : m / 128 < 128 ^ (f + 1) := by
          rw [Int.pow_succ] at hf
          exact Int.ediv_lt_of_lt_mul (by decide) hf
        have hmn : 0 ≤ m % 128 * 128 ^ i := Int.mul_nonneg (by omega) (by omega)
        have ih := scanN_digs f (m / 128) (i + 1) (acc + m % 128 * 128 ^ i) t (by omega) h1 (fun _ => by omega) (by omega) (by rw [e2]; exact hs)
        simp only [List.cons_append, scanN, if_neg (show ¬ 8 ≤ i by omega), if_pos (show 128 ≤ m % 128 + 128 by omega), e]
        rw [ih, e2]
        simp; omega
theorem getN_put (pre t : List Int) (n : Int) (hn : isNum n = true) : getN (pre ++ (numB n ++ t)) pre.length = some (n, pre.length + (numB n).length) := by
  have h := of_decide_eq_true hn
  unfold getN
  rw [List.drop_left, numB_of hn, scanN_digs 8 n 0 0 t h.1 (by unfold most53 at h; omega) (fun h => absurd h (by decide)) (Int.le_refl 0) (by simpa using h.2)]
  simp
theorem getLs_put : ∀ (l pre t : List Int), l.all isNum = true → getLs (pre ++ (l.flatMap numB ++ t)) l.length pre.length = some (l, pre.length + (l.flatMap numB).length)
  | [], pre, t, _ => by simp [getLs]
  | x :: l, pre, t, h => by
    simp only [List.all_cons, Bool.and_eq_true] at h
    rw [List.length_cons, getLs, List.flatMap_cons, List.append_assoc, getN_put pre _ x h.1]
    have ih := getLs_put l (pre ++ numB x) t h.2
    rw [List.length_append, List.append_assoc] at ih
    simp only [ih, Option.map_some, List.length_append, Nat.add_assoc]
/-- what is put is read again. -/
theorem getL_put (l t : List Int) (many : Nat) (h : l.all isNum = true) (hm : l.length ≤ many) (hl : l.length ≤ 1000000) : getL (listB l ++ t) 0 many = some (l, (listB l).length) := by
  have hn : isNum (l.length : Int) = true := by unfold isNum most53; simp; omega
  unfold listB
  rw [if_pos h]
  unfold getL
  have h1 := getN_put [] (l.flatMap numB ++ t) (l.length : Int) hn
  simp only [List.nil_append, List.length_nil, Nat.zero_add] at h1
  rw [List.append_assoc, h1]
  have h2 := getLs_put l (numB (l.length : Int)) t h
  simp only [Int.toNat_natCast, h2]
  rw [if_neg (by omega), List.length_append]

theorem scanN_back : ∀ (l : List Int) (i : Nat) (acc x : Int) (k : Nat), (∀ c ∈ l, 0 ≤ c ∧ c ≤ 255) → scanN l i acc = some (x, k) → ∃ m, 0 ≤ m ∧ x = acc + m * 128 ^ i ∧ (0 < i → 0 < m) ∧ i < k ∧ k ≤ 8 ∧ k - i ≤ l.length ∧ ∀ f, k - i ≤ f + 1 → digs f m = l.take (k - i)
  | [], _, _, _, _, _, h => by cases h
  | c :: r, i, acc, x, k, hc, h => by
    have h0 := hc c (by simp)
    unfold scanN at h
    split at h
    · cases h
    rename_i hi8
    split at h
    · rename_i h128
      obtain ⟨m, hm0, hx, hm1, hk1, hk8, hkl, hd⟩ := scanN_back r (i + 1) _ x k (fun d hd => hc d (by simp [hd])) h
      have hm1 := hm1 (by omega)
      refine ⟨c % 128 + 128 * m, by omega, ?_, fun _ => by omega, by omega, hk8, by simp; omega, fun f hf => ?_⟩
      · rw [hx, Int.pow_succ, Int.mul_comm (128 ^ i) 128, ← Int.mul_assoc, Int.add_assoc, ← Int.add_mul, Int.mul_comm m 128]
      · cases f with
        | zero => exfalso; omega
        | succ f =>
          rw [digs, if_pos (by omega), show (c % 128 + 128 * m) / 128 = m by omega, hd f (by omega), show k - i = (k - (i + 1)) + 1 by omega, List.take_succ_cons, show (c % 128 + 128 * m) % 128 + 128 = c by omega]
    split at h
    · cases h
    · rename_i hne
      cases h
      refine ⟨c, h0.1, by rw [show c % 128 = c by omega], fun hi => by omega, by omega, by omega, by simp, fun f _ => ?_⟩
      rw [digs_one f (by omega), show i + 1 - i = 1 by omega]
      simp
theorem getN_back {b : List Int} (hb : ∀ c ∈ b, 0 ≤ c ∧ c ≤ 255) {p p' : Nat} {x : Int} (h : getN b p = some (x, p')) : isNum x = true ∧ numB x = (b.drop p).take (p' - p) ∧ p ≤ p' ∧ p' ≤ b.length := by
  have hr := getN_rng (fun c hc => (hb c hc).1) h
  unfold getN at h
  rw [Option.map_eq_some_iff] at h
  obtain ⟨⟨y, k⟩, h1, h2⟩ := h
  cases h2
  obtain ⟨m, hm0, hx, _, hk1, hk8, hkl, hd⟩ := scanN_back _ _ _ _ _ (fun c hc => hb c (List.mem_of_mem_drop hc)) h1
  have e : y = m := by rw [hx]; simp
  subst e
  have hn : isNum y = true := decide_eq_true ⟨hr.1, hr.2.1⟩
  refine ⟨hn, ?_, by omega, by dsimp only; omega⟩
  rw [numB_of hn, hd 8 (by omega)]
  congr 1; omega
theorem getLs_back {b : List Int} (hb : ∀ c ∈ b, 0 ≤ c ∧ c ≤ 255) : ∀ (k p : Nat) (xs : List Int) (e : Nat), p ≤ b.length → getLs b k p = some (xs, e) → xs.length = k ∧ xs.all isNum = true ∧ xs.flatMap numB = (b.drop p).take (e - p) ∧ p ≤ e ∧ e ≤ b.length
  | 0, p, xs, e, hp, h => by cases h; simp [hp]
  | k + 1, p, xs, e, hp, h => by
    unfold getLs at h
    split at h
    · cases h
    · rename_i x p' hx
      rw [Option.map_eq_some_iff] at h
      obtain ⟨⟨ys, e'⟩, h1, h2⟩ := h
      cases h2
      obtain ⟨hn, hB, hp1, hp2⟩ := getN_back hb hx
      obtain ⟨k1, k2, k3, k4, k5⟩ := getLs_back hb k p' ys e' hp2 h1
      refine ⟨by simp [k1], by simp [hn, k2], ?_, by dsimp only; omega, k5⟩
      dsimp only
      rw [List.flatMap_cons, hB, k3, show e' - p = (p' - p) + (e' - p') by omega, List.take_add, List.drop_drop, show p + (p' - p) = p' by omega]
/-- what is read is what would be put. -/
theorem getL_back {b : List Int} (hb : ∀ c ∈ b, 0 ≤ c ∧ c ≤ 255) {many : Nat} {xs : List Int} {e : Nat} (h : getL b 0 many = some (xs, e)) : xs.all isNum = true ∧ listB xs = b.take e ∧ xs.length ≤ many ∧ e ≤ b.length := by
  unfold getL at h
  split at h
  · cases h
  · rename_i n p' hn
    split at h
    · cases h
    · obtain ⟨h1, h2, h3, h4⟩ := getN_back hb hn
      obtain ⟨k1, k2, k3, k4, k5⟩ := getLs_back hb _ _ _ _ h4 h
      have h0 := of_decide_eq_true h1
      refine ⟨k2, ?_, by omega, k5⟩
      unfold listB
      rw [if_pos k2, k3, k1, Int.toNat_of_nonneg h0.1, h2]
      simp only [List.drop_zero, Nat.sub_zero]
      rw [← List.take_add]
      congr 1; omega
end Dv

namespace Dv

/-! numbers and states -/
theorem flag_bits (u c m : Bool) (v j : Int) : nodeF (bitI u 1 + bitI c 2 + bitI m 4) v j = ⟨u, c, m, v, j⟩ := by
  cases u <;> cases c <;> cases m <;> rfl
theorem bits_flag (f v j : Int) (h0 : 0 ≤ f) (h7 : f ≤ 7) : flagI (nodeF f v j) = f := by
  have : f = 0 ∨ f = 1 ∨ f = 2 ∨ f = 3 ∨ f = 4 ∨ f = 5 ∨ f = 6 ∨ f = 7 := by omega
  rcases this with h | h | h | h | h | h | h | h <;> subst h <;> rfl
theorem pTail_ok {ns : List NodeD} {js : List JobD} {p : Nat} {l : List Int} {s : StateD} : pTail ns js p l = .ok s ↔ (s.nodes = ns ∧ s.jobs = js ∧ l = [s.goal, s.prior, s.mode, s.term]) := by
  match l with
  | [] => simp [pTail]
  | [_] => simp [pTail]
  | [_, _] => simp [pTail]
  | [_, _, _] => simp [pTail]
  | [g, a, m, t] =>
    simp only [pTail, Except.ok.injEq, List.cons.injEq, and_true]
    obtain ⟨n1, j1, g1, a1, m1, t1⟩ := s
    simp only [StateD.mk.injEq]
    constructor
    · rintro ⟨rfl, rfl, rfl, rfl, rfl, rfl⟩; exact ⟨rfl, rfl, rfl, rfl, rfl, rfl⟩
    · rintro ⟨rfl, rfl, rfl, rfl, rfl, rfl⟩; exact ⟨rfl, rfl, rfl, rfl, rfl, rfl⟩
  | _ :: _ :: _ :: _ :: _ :: _ => simp [pTail]
theorem pJobs_put (ns : List NodeD) : ∀ (js' : List JobD) (js : List JobD) (p : Nat) (g a m t : Int), pJobs ns js'.length js p (js'.flatMap jobNs ++ [g, a, m, t]) = .ok ⟨ns, js ++ js', g, a, m, t⟩
  | [], js, p, g, a, m, t => by rw [List.length_nil, pJobs_zero]; exact pTail_ok.2 ⟨rfl, by simp, rfl⟩
  | j :: js', js, p, g, a, m, t => by
    rw [List.length_cons, List.flatMap_cons]
    show pJobs ns (js'.length + 1) js p (j.queue :: j.prio :: j.min :: j.max :: j.work :: j.pin :: j.phase :: j.inc :: j.nodes :: j.since :: j.til :: j.epoch :: (js'.flatMap jobNs ++ [g, a, m, t])) = _
    rw [pJobs_more, pJobs_put ns js' _ _ g a m t]
    simp
theorem pNodes_put : ∀ (ns' : List NodeD) (ns : List NodeD) (p : Nat) (r : List Int), pNodes ns'.length ns p (ns'.flatMap nodeNs ++ r) = pJobs0 (ns ++ ns') (p + 3 * ns'.length) r
  | [], ns, p, r => by rw [List.length_nil, pNodes_zero]; simp
  | n :: ns', ns, p, r => by
    rw [List.length_cons, List.flatMap_cons]
    have h7 : flagI n ≤ 7 := by unfold flagI bitI; split <;> split <;> split <;> decide
    show pNodes (ns'.length + 1) ns p (flagI n :: n.version :: n.job :: (ns'.flatMap nodeNs ++ r)) = _
    rw [pNodes_fvj _ _ _ _ _ _ _ h7, pNodes_put ns' _ _ r]
    have : nodeF (flagI n) n.version n.job = n := by obtain ⟨u, c, m, v, j⟩ := n; exact flag_bits u c m v j
    rw [this]
    simp only [List.append_assoc, List.singleton_append]
    congr 1; omega
/-- the state of a state's numbers -/
theorem pState_put (s : StateD) (hn : s.nodes.length ≤ 6) (hj : s.jobs.length ≤ 24) : pState (numsI s) = .ok s := by
  have h : numsI s = (s.nodes.length : Int) :: (s.nodes.flatMap nodeNs ++ ((s.jobs.length : Int) :: (s.jobs.flatMap jobNs ++ [s.goal, s.prior, s.mode, s.term]))) := by
    simp [numsI, numsJ, numsN]
  rw [h]
  unfold pState
  dsimp only
  rw [if_pos (by omega), Int.toNat_natCast, pNodes_put, pJobs0_ok _ _ _ _ (by omega), Int.toNat_natCast, pJobs_put]
  simp
theorem pJobs_back (ns : List NodeD) : ∀ (n : Nat) (js : List JobD) (p : Nat) (l : List Int) (s : StateD), pJobs ns n js p l = .ok s → s.nodes = ns ∧ ∃ js', s.jobs = js ++ js' ∧ js'.length = n ∧ l = js'.flatMap jobNs ++ [s.goal, s.prior, s.mode, s.term]
  | 0, js, p, l, s, h => by
    rw [pJobs_zero] at h
    obtain ⟨h1, h2, h3⟩ := pTail_ok.1 h
    exact ⟨h1, [], by simp [h2], rfl, by simp [h3]⟩
  | n + 1, js, p, l, s, h => by
    match l with
    | x0 :: x1 :: x2 :: x3 :: x4 :: x5 :: x6 :: x7 :: x8 :: x9 :: x10 :: x11 :: r =>
      rw [pJobs_more] at h
      obtain ⟨h1, js', h2, h3, h4⟩ := pJobs_back ns n _ _ r s h
      exact ⟨h1, _ :: js', by rw [h2, List.append_assoc]; rfl, by simp [h3], by rw [List.flatMap_cons, List.append_assoc, ← h4]; rfl⟩
    | [] | [_] | [_, _] | [_, _, _] | [_, _, _, _] | [_, _, _, _, _] | [_, _, _, _, _, _] | [_, _, _, _, _, _, _] | [_, _, _, _, _, _, _, _] | [_, _, _, _, _, _, _, _, _] | [_, _, _, _, _, _, _, _, _, _] | [_, _, _, _, _, _, _, _, _, _, _] => simp [pJobs] at h
theorem pNodes_back : ∀ (n : Nat) (ns : List NodeD) (p : Nat) (l : List Int) (s : StateD), (∀ x ∈ l, 0 ≤ x) → pNodes n ns p l = .ok s → ∃ ns' r p', l = ns'.flatMap nodeNs ++ r ∧ ns'.length = n ∧ pJobs0 (ns ++ ns') p' r = .ok s
  | 0, ns, p, l, s, _, h => by rw [pNodes_zero] at h; exact ⟨[], l, p, rfl, rfl, by simpa using h⟩
  | n + 1, ns, p, l, s, h0, h => by
    match l with
    | [] => rw [pNodes_nil] at h; cases h
    | f :: r =>
      by_cases h7 : f ≤ 7
      case neg => rw [pNodes_one _ _ _ _ _ h7] at h; cases h
      match r with
      | [] => rw [pNodes_f _ _ _ _ h7] at h; cases h
      | [v] => rw [pNodes_fv _ _ _ _ _ h7] at h; cases h
      | v :: j :: r =>
        rw [pNodes_fvj _ _ _ _ _ _ _ h7] at h
        obtain ⟨ns', r', p', h1, h2, h3⟩ := pNodes_back n _ _ r s (fun x hx => h0 x (by simp [hx])) h
        refine ⟨nodeF f v j :: ns', r', p', ?_, by simp [h2], by rw [List.append_assoc] at h3; exact h3⟩
        rw [List.flatMap_cons, List.append_assoc, ← h1]
        show _ = flagI (nodeF f v j) :: v :: j :: r
        rw [bits_flag f v j (h0 f (by simp)) h7]
/-- the numbers of the state of numbers -/
theorem pState_back {xs : List Int} {s : StateD} (h0 : ∀ x ∈ xs, 0 ≤ x) (h : pState xs = .ok s) : numsI s = xs ∧ s.nodes.length ≤ 6 ∧ s.jobs.length ≤ 24 := by
  unfold pState at h
  split at h
  · cases h
  · rename_i n r
    split at h
    · rename_i hn
      obtain ⟨ns', r', p', h1, h2, h3⟩ := pNodes_back _ _ _ r s (fun x hx => h0 x (by simp [hx])) h
      match r' with
      | [] => cases h3
      | m :: r' =>
        by_cases hm : m ≤ 24
        case neg => rw [pJobs0_one _ _ _ _ hm] at h3; cases h3
        rw [pJobs0_ok _ _ _ _ hm] at h3
        obtain ⟨k1, js', k2, k3, k4⟩ := pJobs_back _ _ _ _ _ s h3
        have hn0 := h0 n (by simp)
        have hm0 := h0 m (by rw [h1]; simp)
        simp only [List.nil_append] at k1 k2
        refine ⟨?_, by rw [k1, h2]; omega, by rw [k2, k3]; omega⟩
        have e : numsI s = (s.nodes.length : Int) :: (s.nodes.flatMap nodeNs ++ ((s.jobs.length : Int) :: (s.jobs.flatMap jobNs ++ [s.goal, s.prior, s.mode, s.term]))) := by
          simp [numsI, numsJ, numsN]
        rw [e, k1, k2, h2, k3, Int.toNat_of_nonneg hn0, Int.toNat_of_nonneg hm0, h1, k4]
    · cases h
end Dv

namespace Dv

/-! numbers by their places -/
theorem chunk {α : Type} (z : α) (f : α → List Int) (n : Nat) (hf : ∀ x, (f x).length = n) (t : List Int) : ∀ (l : List α) (i r : Nat), r < n → i < l.length → (l.flatMap f ++ t).getD (n * i + r) 0 = (f (l.getD i z)).getD r 0
  | [], i, r, _, hi => by simp at hi
  | x :: l, 0, r, hr, _ => by
    rw [List.flatMap_cons, Nat.mul_zero, Nat.zero_add, List.append_assoc]
    simp [List.getD, List.getElem?_append_left (show r < (f x).length by rw [hf]; exact hr)]
  | x :: l, i + 1, r, hr, hi => by
    have ih := chunk z f n hf t l i r hr (by simpa using hi)
    rw [List.flatMap_cons, List.append_assoc]
    have e : n * (i + 1) + r = (f x).length + (n * i + r) := by rw [hf, Nat.mul_add]; omega
    simp only [List.getD] at ih ⊢
    rw [e, List.getElem?_append_right (by omega), Nat.add_sub_cancel_left, ih]
    rfl
theorem numsI_eq (s : StateD) : numsI s = (s.nodes.length : Int) :: (s.nodes.flatMap nodeNs ++ ((s.jobs.length : Int) :: (s.jobs.flatMap jobNs ++ [s.goal, s.prior, s.mode, s.term]))) := by
  simp [numsI, numsJ, numsN]
theorem numsI_len (s : StateD) : (numsI s).length = 2 + 3 * s.nodes.length + 12 * s.jobs.length + 4 := by
  unfold numsI; rw [List.length_append, numsJ_len s (Nat.le_refl _)]; rfl
theorem getD_cons {x : Int} {l : List Int} {k : Nat} : (x :: l).getD (k + 1) 0 = l.getD k 0 := by simp [List.getD]
theorem nums_node (s : StateD) (i r : Nat) (hr : r < 3) (hi : i < s.nodes.length) : (numsI s).getD (1 + 3 * i + r) 0 = (nodeNs (s.nodes.getD i zeroNode)).getD r 0 := by
  rw [numsI_eq, show 1 + 3 * i + r = 3 * i + r + 1 by omega, getD_cons, chunk zeroNode nodeNs 3 (fun _ => rfl) _ _ i r hr hi]
theorem nums_behind (s : StateD) (k : Nat) : (numsI s).getD (1 + 3 * s.nodes.length + k) 0 = ((s.jobs.length : Int) :: (s.jobs.flatMap jobNs ++ [s.goal, s.prior, s.mode, s.term])).getD k 0 := by
  rw [numsI_eq, show 1 + 3 * s.nodes.length + k = (s.nodes.flatMap nodeNs).length + k + 1 by rw [nodeNs_len]; omega, getD_cons]
  simp only [List.getD]
  rw [List.getElem?_append_right (by omega), Nat.add_sub_cancel_left]
theorem nums_job (s : StateD) (i r : Nat) (hr : r < 12) (hi : i < s.jobs.length) : (numsI s).getD (2 + 3 * s.nodes.length + 12 * i + r) 0 = (jobNs (s.jobs.getD i zeroJob)).getD r 0 := by
  rw [show 2 + 3 * s.nodes.length + 12 * i + r = 1 + 3 * s.nodes.length + (12 * i + r + 1) by omega, nums_behind, getD_cons, chunk zeroJob jobNs 12 (fun _ => rfl) _ _ i r hr hi]
theorem nums_tail (s : StateD) (r : Nat) : (numsI s).getD (2 + 3 * s.nodes.length + 12 * s.jobs.length + r) 0 = [s.goal, s.prior, s.mode, s.term].getD r 0 := by
  rw [show 2 + 3 * s.nodes.length + 12 * s.jobs.length + r = 1 + 3 * s.nodes.length + ((s.jobs.flatMap jobNs).length + r + 1) by rw [jobNs_len]; omega, nums_behind, getD_cons]
  simp only [List.getD]
  rw [List.getElem?_append_right (by omega), Nat.add_sub_cancel_left]
theorem cntX_put (s : StateD) : cntX (numsI s) = s.nodes.length := by
  unfold cntX; rw [numsI_eq]; simp
theorem jobsX_at (s : StateD) : (numsI s).getD (1 + 3 * s.nodes.length) 0 = s.jobs.length := by
  have := nums_behind s 0
  rw [Nat.add_zero] at this
  rw [this]; simp
theorem jobsX_put (s : StateD) : jobsX (numsI s) = s.jobs.length := by
  unfold jobsX; rw [cntX_put, jobsX_at]; simp
theorem range_map {α : Type} (z : α) (l : List α) (f : Nat → α) (h : ∀ i, i < l.length → f i = l.getD i z) : (List.range l.length).map f = l := by
  refine List.ext_getElem (by simp) (fun i h1 h2 => ?_)
  rw [List.getElem_map, List.getElem_range, h i h2]
  simp [List.getD, h2]
theorem stX_put (s : StateD) : stX (numsI s) = s := by
  have hN : nodesL (numsI s) s.nodes.length = s.nodes := range_map zeroNode _ _ (fun i hi => by
    unfold nodeX
    have h0 := nums_node s i 0 (by omega) hi
    rw [Nat.add_zero] at h0
    rw [h0, nums_node s i 1 (by omega) hi, nums_node s i 2 (by omega) hi]
    generalize s.nodes.getD i zeroNode = n
    obtain ⟨u, c, m, v, j⟩ := n
    exact flag_bits u c m v j)
  have hJ : jobsL (numsI s) s.jobs.length = s.jobs := range_map zeroJob _ _ (fun i hi => by
    rw [cntX_put]
    unfold jobX
    have h0 := nums_job s i 0 (by omega) hi
    rw [Nat.add_zero] at h0
    rw [h0, nums_job s i 1 (by omega) hi, nums_job s i 2 (by omega) hi, nums_job s i 3 (by omega) hi, nums_job s i 4 (by omega) hi, nums_job s i 5 (by omega) hi, nums_job s i 6 (by omega) hi, nums_job s i 7 (by omega) hi, nums_job s i 8 (by omega) hi, nums_job s i 9 (by omega) hi, nums_job s i 10 (by omega) hi, nums_job s i 11 (by omega) hi]
    generalize s.jobs.getD i zeroJob = j
    obtain ⟨a0, a1, a2, a3, a4, a5, a6, a7, a8, a9, a10, a11⟩ := j
    rfl)
  have h0 := nums_tail s 0
  rw [Nat.add_zero] at h0
  unfold stX
  rw [cntX_put, jobsX_put, hN, hJ, h0, nums_tail s 1, nums_tail s 2, nums_tail s 3]
  rfl
theorem ok_put (s : StateD) (hn : s.nodes.length ≤ 6) (hj : s.jobs.length ≤ 24) : okA (numsI s) = true ∧ okB (numsI s) = true := by
  have hl := numsI_len s
  have h0 : (numsI s).getD 0 0 = s.nodes.length := by rw [numsI_eq]; simp
  have h1 := jobsX_at s
  constructor
  · exact decide_eq_true (by rw [h0]; omega)
  · exact decide_eq_true (by rw [cntX_put, h1]; omega)

/-! what is put is read again -/
theorem listB_nil {l : List Int} (h : listB l ≠ []) : l.all isNum = true := by
  unfold listB at h
  split at h
  · assumption
  · exact absurd rfl h
theorem getI_put (c : ConfD) (s : StateD) (t : List Int) (hn : s.nodes.length ≤ 6) (hj : s.jobs.length ≤ 24) (ha : (numsI s).all isNum = true) : getL (putI s ++ t) 0 400 = some (numsI s, (putI s).length) := by
  unfold putI
  rw [if_pos ⟨hn, hj⟩]
  exact getL_put _ _ _ ha (by rw [numsI_len]; omega) (by rw [numsI_len]; omega)
theorem getI_back {c : ConfD} {b : List Int} (hb : ∀ x ∈ b, 0 ≤ x ∧ x ≤ 255) {s : StateD} (h : getI c b = some s) : rightB c s = true ∧ putI s = b ∧ s.nodes.length ≤ 6 ∧ s.jobs.length ≤ 24 ∧ getL b 0 400 = some (numsI s, b.length) := by
  unfold getI at h
  split at h
  · cases h
  · rename_i xs e hL
    obtain ⟨h1, h2, h3, h4⟩ := getL_back hb hL
    split at h
    · rename_i he
      split at h
      · cases h
      · rename_i s' hp
        split at h
        · rename_i hr
          cases h
          have hx0 : ∀ x ∈ xs, 0 ≤ x := fun x hx => by
            rw [List.all_eq_true] at h1
            exact (of_decide_eq_true (h1 x hx)).1
          obtain ⟨k1, k2, k3⟩ := pState_back hx0 hp
          refine ⟨hr, ?_, k2, k3, by rw [k1, hL, he]⟩
          unfold putI
          rw [if_pos ⟨k2, k3⟩, k1, h2, he, List.take_length]
        · cases h
    · cases h
theorem getI_of {c : ConfD} {s : StateD} (hn : s.nodes.length ≤ 6) (hj : s.jobs.length ≤ 24) (ha : (numsI s).all isNum = true) (hr : rightB c s = true) : getI c (putI s) = some s := by
  have h := getI_put c s [] hn hj ha
  rw [List.append_nil] at h
  unfold getI
  rw [h]
  dsimp only
  rw [if_pos rfl, pState_put s hn hj]
  dsimp only
  rw [if_pos hr]
/-- both read the same. -/
theorem get_ref (c : ConfD) (b : List Int) (hb : ∀ x ∈ b, 0 ≤ x ∧ x ≤ 255) : getR c b = getI c b := by
  cases hI : getI c b with
  | some s =>
    obtain ⟨h1, h2, h3, h4, h5⟩ := getI_back hb hI
    unfold getR
    rw [h5]
    dsimp only
    have hok := ok_put s h3 h4
    rw [stX_put, if_pos ⟨hok.1, hok.2, h2, by rw [← right_ref]; exact h1⟩]
  | none =>
    unfold getR
    split
    · rfl
    · rename_i xs e hL
      split
      · rename_i hc
        exfalso
        obtain ⟨_, _, h3, h4⟩ := hc
        generalize stX xs = s at *
        have hne : putI s ≠ [] := by
          rw [h3]; intro he
          rw [he] at hL
          simp [getL, getN, scanN] at hL
        have hlen : s.nodes.length ≤ 6 ∧ s.jobs.length ≤ 24 := by
          refine Classical.byContradiction fun hh => hne ?_
          unfold putI; rw [if_neg hh]
        have ha : (numsI s).all isNum = true := listB_nil (by unfold putI at hne; rw [if_pos hlen] at hne; exact hne)
        have := getI_of (c := c) hlen.1 hlen.2 ha (by rw [right_ref]; exact h4)
        rw [h3, hI] at this
        cases this
      · rfl
/-- a beginning is none's. -/
theorem getI_head (c : ConfD) (s : StateD) (hn : s.nodes.length ≤ 6) (hj : s.jobs.length ≤ 24) (ha : (numsI s).all isNum = true) (hb : ∀ x ∈ putI s, 0 ≤ x ∧ x ≤ 255) (n : Nat) (h : n < (putI s).length) : getI c ((putI s).take n) = none := by
  cases hI : getI c ((putI s).take n) with
  | none => rfl
  | some t =>
    exfalso
    obtain ⟨_, h2, h3, h4, h5⟩ := getI_back (fun x hx => hb x (List.mem_of_mem_take hx)) hI
    have ha2 : (numsI t).all isNum = true := (getL_back (fun x hx => hb x (List.mem_of_mem_take hx)) h5).1
    have k1 := getI_put c t ((putI s).drop n) h3 h4 ha2
    rw [h2, List.take_append_drop] at k1
    have k2 := getI_put c s [] hn hj ha
    rw [List.append_nil, k1] at k2
    have := (Prod.mk.inj (Option.some.inj k2)).2
    rw [List.length_take] at this
    omega

/-! bytes -/
theorem digs_rng : ∀ (f : Nat) (m : Int), 0 ≤ m → m < 128 ^ (f + 1) → ∀ x ∈ digs f m, 0 ≤ x ∧ x ≤ 255
  | f, m, h0, hf => by
    intro x hx
    by_cases hm : 128 ≤ m
    case neg => rw [digs_one f (by omega)] at hx; simp at hx; omega
    cases f with
    | zero => exfalso; omega
    | succ f =>
      rw [digs, if_pos hm] at hx
      rcases List.mem_cons.1 hx with rfl | hx
      · omega
      · refine digs_rng f (m / 128) (by omega) ?_ x hx
        rw [Int.pow_succ] at hf
        exact Int.ediv_lt_of_lt_mul (by decide) hf
theorem numB_rng (n : Int) : ∀ x ∈ numB n, 0 ≤ x ∧ x ≤ 255 := by
  unfold numB
  split
  · rename_i h
    have h := of_decide_eq_true h
    unfold most53 at h
    exact digs_rng 8 n h.1 (by omega)
  · simp
theorem listB_rng (l : List Int) : ∀ x ∈ listB l, 0 ≤ x ∧ x ≤ 255 := by
  unfold listB
  split
  · intro x hx
    rcases List.mem_append.1 hx with hx | hx
    · exact numB_rng _ x hx
    · obtain ⟨y, _, hy⟩ := List.mem_flatMap.1 hx
      exact numB_rng y x hy
  · simp
theorem putI_rng (s : StateD) : ∀ x ∈ putI s, 0 ≤ x ∧ x ≤ 255 := by
  unfold putI
  split
  · exact listB_rng _
  · simp

/-! a right state's bytes -/
theorem digs_hi : ∀ (i f : Nat) (m : Int), m < 128 ^ (i + 1) → (digs f m).length ≤ i + 1
  | 0, f, m, h => by rw [digs_one f (by simpa using h)]; simp
  | i + 1, 0, m, h => by simp [digs]
  | i + 1, f + 1, m, h => by
    unfold digs
    split
    · have h2 : m / 128 < 128 ^ (i + 1) := by
        rw [Int.pow_succ] at h
        exact Int.ediv_lt_of_lt_mul (by decide) h
      have := digs_hi i f (m / 128) h2
      simp; omega
    · simp
theorem size_le {n : Int} (i : Nat) (h : n < 128 ^ (i + 1)) : (numB n).length ≤ i + 1 := by
  unfold numB
  split
  · exact digs_hi i 8 n h
  · simp
theorem isNum_of {n : Int} (h0 : 0 ≤ n) (h1 : n ≤ 9007199254740991) : isNum n = true := decide_eq_true ⟨h0, h1⟩
structure SmallJ (j : JobD) : Prop where
  queue : 0 ≤ j.queue ∧ j.queue < 128
  prio : 0 ≤ j.prio ∧ j.prio < 128
  min : 0 ≤ j.min ∧ j.min < 128
  max : 0 ≤ j.max ∧ j.max < 128
  work : 0 ≤ j.work ∧ j.work < 16384
  pin : 0 ≤ j.pin ∧ j.pin < 128
  phase : 0 ≤ j.phase ∧ j.phase < 128
  inc : 0 ≤ j.inc ∧ j.inc < 2097152
  nodes : 0 ≤ j.nodes ∧ j.nodes < 128
  since : 0 ≤ j.since ∧ j.since < 2097152
  til : 0 ≤ j.til ∧ j.til < 2097152
  epoch : 0 ≤ j.epoch ∧ j.epoch < 2097152
theorem SmallJ.all {j : JobD} (h : SmallJ j) : (jobNs j).all isNum = true := by
  obtain ⟨h1, h2, h3, h4, h5, h6, h7, h8, h9, h10, h11, h12⟩ := h
  simp only [jobNs, List.all_cons, List.all_nil, Bool.and_true, Bool.and_eq_true]
  exact ⟨isNum_of (by omega) (by omega), isNum_of (by omega) (by omega), isNum_of (by omega) (by omega), isNum_of (by omega) (by omega), isNum_of (by omega) (by omega), isNum_of (by omega) (by omega), isNum_of (by omega) (by omega), isNum_of (by omega) (by omega), isNum_of (by omega) (by omega), isNum_of (by omega) (by omega), isNum_of (by omega) (by omega), isNum_of (by omega) (by omega)⟩
theorem SmallJ.size {j : JobD} (h : SmallJ j) : ((jobNs j).flatMap numB).length ≤ 21 := by
  obtain ⟨h1, h2, h3, h4, h5, h6, h7, h8, h9, h10, h11, h12⟩ := h
  have a1 := size_le 0 (n := j.queue) (by omega)
  have a2 := size_le 0 (n := j.prio) (by omega)
  have a3 := size_le 0 (n := j.min) (by omega)
  have a4 := size_le 0 (n := j.max) (by omega)
  have a5 := size_le 1 (n := j.work) (by omega)
  have a6 := size_le 0 (n := j.pin) (by omega)
  have a7 := size_le 0 (n := j.phase) (by omega)
  have a8 := size_le 2 (n := j.inc) (by omega)
  have a9 := size_le 0 (n := j.nodes) (by omega)
  have a10 := size_le 2 (n := j.since) (by omega)
  have a11 := size_le 2 (n := j.til) (by omega)
  have a12 := size_le 2 (n := j.epoch) (by omega)
  simp only [jobNs, List.flatMap_cons, List.flatMap_nil, List.length_append, List.length_nil]
  omega
theorem jobs_all : ∀ (l : List JobD), (∀ j ∈ l, SmallJ j) → (l.flatMap jobNs).all isNum = true ∧ ((l.flatMap jobNs).flatMap numB).length ≤ 21 * l.length
  | [], _ => by simp
  | j :: l, h => by
    obtain ⟨h1, h2⟩ := jobs_all l (fun x hx => h x (by simp [hx]))
    have hj := h j (by simp)
    rw [List.flatMap_cons, List.all_append, h1, hj.all, List.flatMap_append, List.length_append, List.length_cons]
    have := hj.size
    exact ⟨rfl, by omega⟩
theorem node_all {n : NodeD} (h1 : 0 ≤ n.version ∧ n.version < 128) (h2 : 0 ≤ n.job ∧ n.job < 128) : (nodeNs n).all isNum = true ∧ ((nodeNs n).flatMap numB).length ≤ 3 := by
  have h7 : 0 ≤ flagI n ∧ flagI n ≤ 7 := by unfold flagI bitI; split <;> split <;> split <;> decide
  have a1 := size_le 0 (n := flagI n) (by omega)
  have a2 := size_le 0 (n := n.version) (by omega)
  have a3 := size_le 0 (n := n.job) (by omega)
  simp only [nodeNs, List.all_cons, List.all_nil, Bool.and_true, Bool.and_eq_true, List.flatMap_cons, List.flatMap_nil, List.length_append, List.length_nil]
  exact ⟨⟨isNum_of (by omega) (by omega), isNum_of (by omega) (by omega), isNum_of (by omega) (by omega)⟩, by omega⟩
theorem nodes_all : ∀ (l : List NodeD), (∀ n ∈ l, (0 ≤ n.version ∧ n.version < 128) ∧ (0 ≤ n.job ∧ n.job < 128)) → (l.flatMap nodeNs).all isNum = true ∧ ((l.flatMap nodeNs).flatMap numB).length ≤ 3 * l.length
  | [], _ => by simp
  | n :: l, h => by
    obtain ⟨h1, h2⟩ := nodes_all l (fun x hx => h x (by simp [hx]))
    have hn := node_all (h n (by simp)).1 (h n (by simp)).2
    rw [List.flatMap_cons, List.all_append, h1, hn.1, List.flatMap_append, List.length_append, List.length_cons]
    have := hn.2
    exact ⟨rfl, by omega⟩
theorem getD_mem {α : Type} {l : List α} {x : α} (z : α) (h : x ∈ l) : ∃ k, k < l.length ∧ l.getD k z = x := by
  obtain ⟨k, hk, rfl⟩ := List.mem_iff_getElem.1 h
  exact ⟨k, hk, by simp [List.getD, hk]⟩
theorem flat_ge (l : List Int) (h : l.all isNum = true) : l.length ≤ (l.flatMap numB).length := by
  induction l with
  | nil => simp
  | cons x l ih =>
    simp only [List.all_cons, Bool.and_eq_true] at h
    rw [List.flatMap_cons, List.length_append, List.length_cons]
    have := numB_one h.1
    have := ih h.2
    omega
/-- of a right state: its numbers are numbers; how many bytes. -/
theorem right_bytes {c : ConfD} {s : StateD} (h : rightB c s = true) : (s.nodes.length ≤ 6 ∧ s.jobs.length ≤ 24) ∧ (numsI s).all isNum = true ∧ 10 ≤ (putI s).length ∧ (putI s).length ≤ 900 := by
  have hO := right_ok h
  have hc := hO.conf
  have hn := hO.nodes
  have hj := hO.jobs
  have hs := hO.nums
  have hN : s.nodes.length ≤ 6 := by omega
  obtain ⟨n1, n2⟩ := nodes_all s.nodes (fun n hm => by
    obtain ⟨k, hk, rfl⟩ := getD_mem zeroNode hm
    have := hO.node hk
    omega)
  obtain ⟨j1, j2⟩ := jobs_all s.jobs (fun j hm => by
    obtain ⟨k, hk, rfl⟩ := getD_mem zeroJob hm
    have h1 := hO.job hk
    have h2 := hO.bits hk
    dsimp only at h1
    exact ⟨by omega, by omega, by omega, by omega, by omega, by omega, by omega, by omega, by omega, by omega, by omega, by omega⟩)
  have ha : (numsI s).all isNum = true := by
    rw [numsI_eq]
    simp only [List.all_cons, List.all_append, n1, j1, List.all_nil, Bool.and_true, Bool.true_and, Bool.and_eq_true]
    exact ⟨isNum_of (by omega) (by omega), isNum_of (by omega) (by omega), isNum_of (by omega) (by omega), isNum_of (by omega) (by omega), isNum_of (by omega) (by omega), isNum_of (by omega) (by omega)⟩
  have hB : putI s = numB (numsI s).length ++ (numsI s).flatMap numB := by
    unfold putI; rw [if_pos ⟨hN, hj⟩]; unfold listB; rw [if_pos ha]
  have hl := numsI_len s
  have hge := flat_ge (numsI s) ha
  have hh := numB_one (n := ((numsI s).length : Int)) (isNum_of (by omega) (by omega))
  have hh2 := size_le 1 (n := ((numsI s).length : Int)) (by omega)
  refine ⟨⟨hN, hj⟩, ha, ?_, ?_⟩
  · rw [hB, List.length_append]; omega
  · have a1 := size_le 0 (n := (s.nodes.length : Int)) (by omega)
    have a2 := size_le 0 (n := (s.jobs.length : Int)) (by omega)
    have a3 := size_le 0 (n := s.goal) (by omega)
    have a4 := size_le 0 (n := s.prior) (by omega)
    have a5 := size_le 0 (n := s.mode) (by omega)
    have a6 := size_le 2 (n := s.term) (by omega)
    have e : ((numsI s).flatMap numB).length = (numB (s.nodes.length : Int)).length + (((s.nodes.flatMap nodeNs).flatMap numB).length + ((numB (s.jobs.length : Int)).length + (((s.jobs.flatMap jobNs).flatMap numB).length + ((numB s.goal).length + ((numB s.prior).length + ((numB s.mode).length + (numB s.term).length)))))) := by
      rw [numsI_eq]
      simp only [List.flatMap_cons, List.flatMap_append, List.flatMap_nil, List.length_append, List.length_nil]
      omega
    rw [hB, List.length_append, e]
    omega
end Dv
