/- The logical machine and its plain laws: parts P10, P11, P12, P13, P14, proved sound. -/
import Derived.Test.YtcfcigjkijkhdaaDoorPA
set_option linter.unusedVariables false
set_option linter.unusedSimpArgs false
namespace Dv

def nodeF (f v j : Int) : NodeD := ⟨hasB f 0, hasB f 1, hasB f 2, v, j⟩
def pTail (ns : List NodeD) (js : List JobD) (p : Nat) : List Int → Except Nat StateD
  | [] => .error p
  | [_] => .error (p + 1)
  | [_, _] => .error (p + 2)
  | [_, _, _] => .error (p + 3)
  | [g, a, m, t] => .ok ⟨ns, js, g, a, m, t⟩
  | _ :: _ :: _ :: _ :: _ :: _ => .error (p + 4)
def pJobs (ns : List NodeD) : Nat → List JobD → Nat → List Int → Except Nat StateD
  | 0, js, p, l => pTail ns js p l
  | n + 1, js, p, x0 :: x1 :: x2 :: x3 :: x4 :: x5 :: x6 :: x7 :: x8 :: x9 :: x10 :: x11 :: r => pJobs ns n (js ++ [⟨x0, x1, x2, x3, x4, x5, x6, x7, x8, x9, x10, x11⟩]) (p + 12) r
  | _ + 1, _, p, l => .error (p + l.length)
def pJobs0 (ns : List NodeD) (p : Nat) : List Int → Except Nat StateD
  | [] => .error p
  | m :: r => if m ≤ 24 then pJobs ns m.toNat [] (p + 1) r else .error (p + 1)
def pNodes : Nat → List NodeD → Nat → List Int → Except Nat StateD
  | 0, ns, p, l => pJobs0 ns p l
  | n + 1, ns, p, l => match l with
    | [] => .error p
    | f :: r => if f ≤ 7 then (match r with
      | [] => .error (p + 1)
      | [_] => .error (p + 2)
      | v :: j :: r => pNodes n (ns ++ [nodeF f v j]) (p + 3) r) else .error (p + 1)
def pState (l : List Int) : Except Nat StateD := match l with
  | [] => .error 0
  | n :: r => if n ≤ 6 then pNodes n.toNat [] 1 r else .error 1

theorem pNodes_zero (ns : List NodeD) (p : Nat) (l : List Int) : pNodes 0 ns p l = pJobs0 ns p l := by cases l <;> rfl
theorem pNodes_nil (n : Nat) (ns : List NodeD) (p : Nat) : pNodes (n + 1) ns p [] = .error p := rfl
theorem pNodes_one (n : Nat) (ns : List NodeD) (p : Nat) (f : Int) (r : List Int) (h : ¬ f ≤ 7) : pNodes (n + 1) ns p (f :: r) = .error (p + 1) := by
  simp [pNodes, h]
theorem pNodes_f (n : Nat) (ns : List NodeD) (p : Nat) (f : Int) (h : f ≤ 7) : pNodes (n + 1) ns p [f] = .error (p + 1) := by
  simp [pNodes, h]
theorem pNodes_fv (n : Nat) (ns : List NodeD) (p : Nat) (f v : Int) (h : f ≤ 7) : pNodes (n + 1) ns p [f, v] = .error (p + 2) := by
  simp [pNodes, h]
theorem pNodes_fvj (n : Nat) (ns : List NodeD) (p : Nat) (f v j : Int) (r : List Int) (h : f ≤ 7) : pNodes (n + 1) ns p (f :: v :: j :: r) = pNodes n (ns ++ [nodeF f v j]) (p + 3) r := by
  simp [pNodes, h]
theorem pJobs0_one (ns : List NodeD) (p : Nat) (m : Int) (r : List Int) (h : ¬ m ≤ 24) : pJobs0 ns p (m :: r) = .error (p + 1) := by simp [pJobs0, h]
theorem pJobs0_ok (ns : List NodeD) (p : Nat) (m : Int) (r : List Int) (h : m ≤ 24) : pJobs0 ns p (m :: r) = pJobs ns m.toNat [] (p + 1) r := by simp [pJobs0, h]
theorem pJobs_zero (ns : List NodeD) (js : List JobD) (p : Nat) (l : List Int) : pJobs ns 0 js p l = pTail ns js p l := by simp [pJobs]
theorem pJobs_more (ns : List NodeD) (n : Nat) (js : List JobD) (p : Nat) (x0 x1 x2 x3 x4 x5 x6 x7 x8 x9 x10 x11 : Int) (r : List Int) : pJobs ns (n + 1) js p (x0 :: x1 :: x2 :: x3 :: x4 :: x5 :: x6 :: x7 :: x8 :: x9 :: x10 :: x11 :: r) = pJobs ns n (js ++ [⟨x0, x1, x2, x3, x4, x5, x6, x7, x8, x9, x10, x11⟩]) (p + 12) r := by simp [pJobs]
theorem dropI_nil {xs : List Int} {k : Nat} (h : xs.drop k = []) (hk : k ≤ xs.length) : k = xs.length := by
  have := List.drop_eq_nil_iff.1 h
  omega
theorem dropI_cons {xs : List Int} {k : Nat} {x : Int} {r : List Int} (h : xs.drop k = x :: r) : k < xs.length ∧ xs.getD k 0 = x ∧ xs.drop (k + 1) = r := by
  have hk : k < xs.length := by
    rcases Nat.lt_or_ge k xs.length with h1 | h1
    · exact h1
    · rw [List.drop_eq_nil_of_le h1] at h; cases h
  rw [List.drop_eq_getElem_cons hk] at h
  cases h
  exact ⟨hk, by simp [List.getD, hk], rfl⟩
end Dv

namespace Dv

def most53 : Int := 9007199254740991
/-- a number's bytes, the low ones first -/
def digs : Nat → Int → List Int
  | 0, n => [n]
  | f + 1, n => if 128 ≤ n then (n % 128 + 128) :: digs f (n / 128) else [n]
def isNum (n : Int) : Bool := decide (0 ≤ n ∧ n ≤ most53)
def numB (n : Int) : List Int := if isNum n = true then digs 8 n else []
def listB (l : List Int) : List Int := if l.all isNum = true then numB l.length ++ l.flatMap numB else []
/-- bytes from a place on, behind i of them that come to n: the number, how many bytes it has. -/
def scanN : List Int → Nat → Int → Option (Int × Nat)
  | [], _, _ => none
  | c :: r, i, n => if 8 ≤ i then none
    else if 128 ≤ c then scanN r (i + 1) (n + c % 128 * 128 ^ i)
    else if (c = 0 ∧ 0 < i) ∨ most53 < n + c % 128 * 128 ^ i then none
    else some (n + c % 128 * 128 ^ i, i + 1)
def getN (b : List Int) (at0 : Nat) : Option (Int × Nat) := (scanN (b.drop at0) 0 0).map fun p => (p.1, at0 + p.2)
/-- so many numbers from a place on -/
def getLs (b : List Int) : Nat → Nat → Option (List Int × Nat)
  | 0, p => some ([], p)
  | k + 1, p => match getN b p with
    | none => none
    | some (x, p') => (getLs b k p').map fun q => (x :: q.1, q.2)
def getL (b : List Int) (p many : Nat) : Option (List Int × Nat) := match getN b p with
  | none => none
  | some (n, p') => if (many : Int) < n then none else getLs b n.toNat p'
/-- the state of bytes -/
def getI (c : ConfD) (b : List Int) : Option StateD := match getL b 0 400 with
  | none => none
  | some (xs, e) => if e = b.length then (match pState xs with
    | .error _ => none
    | .ok s => if rightB c s = true then some s else none) else none
def zeroS : StateD := ⟨[], [], 0, 0, 0, 0⟩

theorem scanN_take : ∀ (l : List Int) (i : Nat) (n : Int), scanN (l.take (8 - i)) i n = scanN l i n
  | [], i, n => by simp
  | c :: r, i, n => by
    by_cases h : 8 ≤ i
    · rw [show 8 - i = 0 by omega, List.take_zero]
      unfold scanN
      rw [if_pos h]
    · rw [show 8 - i = (8 - (i + 1)) + 1 by omega, List.take_succ_cons]
      simp only [scanN, if_neg h, scanN_take r (i + 1)]
theorem scanN_rng : ∀ (l : List Int) (i : Nat) (n x : Int) (k : Nat), (∀ c ∈ l, 0 ≤ c) → 0 ≤ n → scanN l i n = some (x, k) → 0 ≤ x ∧ x ≤ most53 ∧ i < k ∧ k ≤ i + l.length
  | [], _, _, _, _, _, _, h => by cases h
  | c :: r, i, n, x, k, hc, hn, h => by
    have h0 : 0 ≤ c := hc c (by simp)
    have hp : (0 : Int) ≤ 128 ^ i := Int.le_of_lt (Int.pow_pos (by decide))
    have h1 : 0 ≤ c % 128 * 128 ^ i := Int.mul_nonneg (Int.emod_nonneg _ (by decide)) hp
    unfold scanN at h
    split at h
    · cases h
    split at h
    · have := scanN_rng r (i + 1) _ x k (fun d hd => hc d (by simp [hd])) (by omega) h
      simp only [List.length_cons]
      omega
    split at h
    · cases h
    · rename_i hne
      cases h
      refine ⟨by omega, ?_, by omega, by simp⟩
      simp only [not_or, Int.not_lt] at hne
      exact hne.2
theorem getN_rng {b : List Int} {p p' : Nat} {x : Int} (hb : ∀ c ∈ b, 0 ≤ c) (h : getN b p = some (x, p')) : 0 ≤ x ∧ x ≤ most53 ∧ p < p' ∧ p' ≤ b.length := by
  unfold getN at h
  rw [Option.map_eq_some_iff] at h
  obtain ⟨⟨y, k⟩, h1, h2⟩ := h
  cases h2
  have hr := scanN_rng _ _ _ _ _ (fun c hc => hb c (List.mem_of_mem_drop hc)) (Int.le_refl 0) h1
  rw [List.length_drop] at hr
  dsimp only
  omega
theorem getLs_rng {b : List Int} (hb : ∀ c ∈ b, 0 ≤ c) : ∀ (k p : Nat) (xs : List Int) (e : Nat), getLs b k p = some (xs, e) → p ≤ b.length → xs.length = k ∧ (∀ x ∈ xs, 0 ≤ x ∧ x ≤ most53) ∧ p ≤ e ∧ e ≤ b.length
  | 0, p, xs, e, h, hp => by cases h; exact ⟨rfl, (fun _ h => absurd h (by simp)), Nat.le_refl _, hp⟩
  | k + 1, p, xs, e, h, hp => by
    unfold getLs at h
    split at h
    · cases h
    · rename_i x p' hx
      rw [Option.map_eq_some_iff] at h
      obtain ⟨⟨ys, e'⟩, h1, h2⟩ := h
      cases h2
      have hr := getN_rng hb hx
      obtain ⟨k1, k2, k3, k4⟩ := getLs_rng hb k p' ys e' h1 hr.2.2.2
      refine ⟨by simp [k1], fun y hy => ?_, by dsimp only; omega, k4⟩
      rcases List.mem_cons.1 hy with rfl | hy
      · exact ⟨hr.1, hr.2.1⟩
      · exact k2 y hy
theorem getL_rng {b : List Int} (hb : ∀ c ∈ b, 0 ≤ c) {p many : Nat} {xs : List Int} {e : Nat} (h : getL b p many = some (xs, e)) : xs.length ≤ many ∧ (∀ x ∈ xs, 0 ≤ x ∧ x ≤ most53) ∧ e ≤ b.length := by
  unfold getL at h
  split at h
  · cases h
  · rename_i n p' hn
    have hr := getN_rng hb hn
    split at h
    · cases h
    · obtain ⟨k1, k2, _, k4⟩ := getLs_rng hb _ _ _ _ h hr.2.2.2
      exact ⟨by omega, k2, k4⟩
end Dv

namespace Dv

def bitI (b : Bool) (n : Int) : Int := if b = true then n else 0
def flagI (n : NodeD) : Int := bitI n.up 1 + bitI n.cordon 2 + bitI n.moving 4
def nodeNs (n : NodeD) : List Int := [flagI n, n.version, n.job]
def jobNs (j : JobD) : List Int := [j.queue, j.prio, j.min, j.max, j.work, j.pin, j.phase, j.inc, j.nodes, j.since, j.til, j.epoch]
def numsN (s : StateD) (i : Nat) : List Int := (s.nodes.length : Int) :: (s.nodes.take i).flatMap nodeNs
def numsJ (s : StateD) (i : Nat) : List Int := numsN s s.nodes.length ++ (s.jobs.length : Int) :: (s.jobs.take i).flatMap jobNs
def numsI (s : StateD) : List Int := numsJ s s.jobs.length ++ [s.goal, s.prior, s.mode, s.term]
def putI (s : StateD) : List Int := if s.nodes.length ≤ 6 ∧ s.jobs.length ≤ 24 then listB (numsI s) else []
theorem nodeNs_len (l : List NodeD) : (l.flatMap nodeNs).length = 3 * l.length := by
  induction l with
  | nil => rfl
  | cons n l ih => rw [List.flatMap_cons, List.length_append, List.length_cons, ih]; simp [nodeNs]; omega
theorem jobNs_len (l : List JobD) : (l.flatMap jobNs).length = 12 * l.length := by
  induction l with
  | nil => rfl
  | cons n l ih => rw [List.flatMap_cons, List.length_append, List.length_cons, ih]; simp [jobNs]; omega
theorem take_snocD {α : Type} {l : List α} {i : Nat} (z : α) (h : i < l.length) : l.take (i + 1) = l.take i ++ [l.getD i z] := by
  rw [List.take_add_one]; simp [List.getD, h]
theorem numsN_succ (s : StateD) {i : Nat} (h : i < s.nodes.length) : numsN s (i + 1) = numsN s i ++ nodeNs (s.nodes.getD i zeroNode) := by
  unfold numsN; rw [take_snocD zeroNode h, List.flatMap_append]; simp
theorem numsJ_succ (s : StateD) {i : Nat} (h : i < s.jobs.length) : numsJ s (i + 1) = numsJ s i ++ jobNs (s.jobs.getD i zeroJob) := by
  unfold numsJ; rw [take_snocD zeroJob h, List.flatMap_append]; simp
theorem numsN_len (s : StateD) {i : Nat} (h : i ≤ s.nodes.length) : (numsN s i).length = 1 + 3 * i := by
  unfold numsN; rw [List.length_cons, nodeNs_len, List.length_take]; omega
theorem numsJ_len (s : StateD) {i : Nat} (h : i ≤ s.jobs.length) : (numsJ s i).length = 2 + 3 * s.nodes.length + 12 * i := by
  unfold numsJ; rw [List.length_append, List.length_cons, jobNs_len, List.length_take, numsN_len s (Nat.le_refl _)]; omega
end Dv

namespace Dv

def nodeX (xs : List Int) (i : Nat) : NodeD := nodeF (xs.getD (1 + 3 * i) 0) (xs.getD (1 + 3 * i + 1) 0) (xs.getD (1 + 3 * i + 2) 0)
def jobX (xs : List Int) (p : Nat) : JobD := ⟨xs.getD p 0, xs.getD (p + 1) 0, xs.getD (p + 2) 0, xs.getD (p + 3) 0, xs.getD (p + 4) 0, xs.getD (p + 5) 0, xs.getD (p + 6) 0, xs.getD (p + 7) 0, xs.getD (p + 8) 0, xs.getD (p + 9) 0, xs.getD (p + 10) 0, xs.getD (p + 11) 0⟩
/-- how many nodes; where the number of jobs stands; how many jobs. -/
def cntX (xs : List Int) : Nat := (xs.getD 0 0).toNat
def jobsX (xs : List Int) : Nat := (xs.getD (1 + 3 * cntX xs) 0).toNat
def nodesL (xs : List Int) (k : Nat) : List NodeD := (List.range k).map (nodeX xs)
def jobsL (xs : List Int) (k : Nat) : List JobD := (List.range k).map fun i => jobX xs (2 + 3 * cntX xs + 12 * i)
def stX (xs : List Int) : StateD := ⟨nodesL xs (cntX xs), jobsL xs (jobsX xs), xs.getD (2 + 3 * cntX xs + 12 * jobsX xs) 0, xs.getD (2 + 3 * cntX xs + 12 * jobsX xs + 1) 0, xs.getD (2 + 3 * cntX xs + 12 * jobsX xs + 2) 0, xs.getD (2 + 3 * cntX xs + 12 * jobsX xs + 3) 0⟩
def okA (xs : List Int) : Bool := decide (6 ≤ xs.length ∧ xs.getD 0 0 ≤ 6 ∧ 6 + 3 * xs.getD 0 0 ≤ xs.length)
def okB (xs : List Int) : Bool := decide (xs.getD (1 + 3 * cntX xs) 0 ≤ 24 ∧ (xs.length : Int) = 2 + 3 * cntX xs + 12 * xs.getD (1 + 3 * cntX xs) 0 + 4)
/-- the document's. -/
def getR (c : ConfD) (b : List Int) : Option StateD := match getL b 0 400 with
  | none => none
  | some (xs, _) => if okA xs = true ∧ okB xs = true ∧ putI (stX xs) = b ∧ rightRB c (stX xs) = true then some (stX xs) else none
theorem nodesL_succ (xs : List Int) (k : Nat) : nodesL xs (k + 1) = nodesL xs k ++ [nodeX xs k] := by
  unfold nodesL; rw [List.range_succ, List.map_append]; rfl
theorem jobsL_succ (xs : List Int) (k : Nat) : jobsL xs (k + 1) = jobsL xs k ++ [jobX xs (2 + 3 * cntX xs + 12 * k)] := by
  unfold jobsL; rw [List.range_succ, List.map_append]; rfl
theorem nodesL_len (xs : List Int) (k : Nat) : (nodesL xs k).length = k := by simp [nodesL]
theorem jobsL_len (xs : List Int) (k : Nat) : (jobsL xs k).length = k := by simp [jobsL]
end Dv

namespace Dv

theorem digs_one (f : Nat) {m : Int} (h : m < 128) : digs f m = [m] := by
  cases f with
  | zero => rfl
  | succ f => rw [digs, if_neg (by omega)]
theorem digs_ge (f : Nat) (m : Int) : 1 ≤ (digs f m).length := by
  cases f with
  | zero => simp [digs]
  | succ f => unfold digs; split <;> simp
theorem numB_of {n : Int} (h : isNum n = true) : numB n = digs 8 n := by unfold numB; rw [if_pos h]
theorem numB_one {n : Int} (h : isNum n = true) : 1 ≤ (numB n).length := by rw [numB_of h]; exact digs_ge 8 n

theorem scanN_digs : ∀ (f : Nat) (m : Int) (i : Nat) (acc : Int) (t : List Int), 0 ≤ m → m < 128 ^ (f + 1) → (0 < i → 0 < m) → 0 ≤ acc → acc + m * 128 ^ i ≤ most53 → scanN (digs f m ++ t) i acc = some (acc + m * 128 ^ i, i + (digs f m).length)
  | f, m, i, acc, t, h0, hf, hi, ha, hs => by
    have hp : (1 : Int) ≤ 128 ^ i := Int.pow_pos (by decide)
    have hi8 : i < 8 := by
      rcases Nat.lt_or_ge i 8 with h | h
      · exact h
      · exfalso
        have hm := hi (by omega)
        have h1 : (128 : Int) ^ 8 ≤ 128 ^ i := by exact_mod_cast Nat.pow_le_pow_right (by decide) h
        have h2 : 1 * 128 ^ i ≤ m * 128 ^ i := Int.mul_le_mul_of_nonneg_right hm (by omega)
        unfold most53 at hs
        omega
    by_cases hm : 128 ≤ m
    case neg =>
      rw [digs_one f (by omega)]
      have e : m % 128 = m := by omega
      simp only [List.cons_append, List.nil_append, scanN, if_neg (show ¬ 8 ≤ i by omega), if_neg hm, e]
      rw [if_neg (by omega)]
      rfl
    case pos =>
      cases f with
      | zero => exfalso; omega
      | succ f =>
        rw [digs, if_pos hm]
        have e : (m % 128 + 128) % 128 = m % 128 := by omega
        have e2 : acc + m % 128 * 128 ^ i + m / 128 * 128 ^ (i + 1) = acc + m * 128 ^ i := by
          rw [Int.pow_succ, Int.mul_comm (128 ^ i) 128, ← Int.mul_assoc, Int.add_assoc, ← Int.add_mul]
          congr 2; omega
        have h1 : m / 128 < 128 ^ (f + 1) := by
          rw [Int.pow_succ] at hf
          exact Int.ediv_lt_of_lt_mul (by decide) hf
        have hmn : 0 ≤ m % 128 * 128 ^ i := Int.mul_nonneg (by omega) (by omega)
        have ih := scanN_digs f (m / 128) (i + 1) (acc + m % 128 * 128 ^ i) t (by omega) h1 (fun _ => by omega) (by omega) (by rw [e2]; exact hs)
        simp only [List.cons_append, scanN, if_neg (show ¬ 8 ≤ i by omega), if_pos (show 128 ≤ m % 128 + 128 by omega), e]
        rw [ih, e2]
        simp; omega
theorem getN_put (pre t : List Int) (n : Int) (hn : isNum n = true) : getN (pre ++ (numB n ++ t)) pre.length = some (n, pre.length + (numB n).length) := by
  have h := of_decide_eq_true hn
  unfold getN
  rw [List.drop_left, numB_of hn, scanN_digs 8 n 0 0 t h.1 (by unfold most53 at h; omega) (fun h => absurd h (by decide)) (Int.le_refl 0) (by simpa using h.2)]
  simp
theorem getLs_put : ∀ (l pre t : List Int), l.all isNum = true → getLs (pre ++ (l.flatMap numB ++ t)) l.length pre.length = some (l, pre.length + (l.flatMap numB).length)
  | [], pre, t, _ => by simp [getLs]
  | x :: l, pre, t, h => by
    simp only [List.all_cons, Bool.and_eq_true] at h
    rw [List.length_cons, getLs, List.flatMap_cons, List.append_assoc, getN_put pre _ x h.1]
    have ih := getLs_put l (pre ++ numB x) t h.2
    rw [List.length_append, List.append_assoc] at ih
    simp only [ih, Option.map_some, List.length_append, Nat.add_assoc]
/-- what is put is read again. -/
theorem getL_put (l t : List Int) (many : Nat) (h : l.all isNum = true) (hm : l.length ≤ many) (hl : l.length ≤ 1000000) : getL (listB l ++ t) 0 many = some (l, (listB l).length) := by
  have hn : isNum (l.length : Int) = true := by unfold isNum most53; simp; omega
  unfold listB
  rw [if_pos h]
  unfold getL
  have h1 := getN_put [] (l.flatMap numB ++ t) (l.length : Int) hn
  simp only [List.nil_append, List.length_nil, Nat.zero_add] at h1
  rw [List.append_assoc, h1]
  have h2 := getLs_put l (numB (l.length : Int)) t h
  simp only [Int.toNat_natCast, h2]
  rw [if_neg (by omega), List.length_append]

theorem scanN_back : ∀ (l : List Int) (i : Nat) (acc x : Int) (k : Nat), (∀ c ∈ l, 0 ≤ c ∧ c ≤ 255) → scanN l i acc = some (x, k) → ∃ m, 0 ≤ m ∧ x = acc + m * 128 ^ i ∧ (0 < i → 0 < m) ∧ i < k ∧ k ≤ 8 ∧ k - i ≤ l.length ∧ ∀ f, k - i ≤ f + 1 → digs f m = l.take (k - i)
  | [], _, _, _, _, _, h => by cases h
  | c :: r, i, acc, x, k, hc, h => by
    have h0 := hc c (by simp)
    unfold scanN at h
    split at h
    · cases h
    rename_i hi8
    split at h
    · rename_i h128
      obtain ⟨m, hm0, hx, hm1, hk1, hk8, hkl, hd⟩ := scanN_back r (i + 1) _ x k (fun d hd => hc d (by simp [hd])) h
      have hm1 := hm1 (by omega)
      refine ⟨c % 128 + 128 * m, by omega, ?_, fun _ => by omega, by omega, hk8, by simp; omega, fun f hf => ?_⟩
      · rw [hx, Int.pow_succ, Int.mul_comm (128 ^ i) 128, ← Int.mul_assoc, Int.add_assoc, ← Int.add_mul, Int.mul_comm m 128]
      · cases f with
        | zero => exfalso; omega
        | succ f =>
          rw [digs, if_pos (by omega), show (c % 128 + 128 * m) / 128 = m by omega, hd f (by omega), show k - i = (k - (i + 1)) + 1 by omega, List.take_succ_cons, show (c % 128 + 128 * m) % 128 + 128 = c by omega]
    split at h
    · cases h
    · rename_i hne
      cases h
      refine ⟨c, h0.1, by rw [show c % 128 = c by omega], fun hi => by omega, by omega, by omega, by simp, fun f _ => ?_⟩
      rw [digs_one f (by omega), show i + 1 - i = 1 by omega]
      simp
theorem getN_back {b : List Int} (hb : ∀ c ∈ b, 0 ≤ c ∧ c ≤ 255) {p p' : Nat} {x : Int} (h : getN b p = some (x, p')) : isNum x = true ∧ numB x = (b.drop p).take (p' - p) ∧ p ≤ p' ∧ p' ≤ b.length := by
  have hr := getN_rng (fun c hc => (hb c hc).1) h
  unfold getN at h
  rw [Option.map_eq_some_iff] at h
  obtain ⟨⟨y, k⟩, h1, h2⟩ := h
  cases h2
  obtain ⟨m, hm0, hx, _, hk1, hk8, hkl, hd⟩ := scanN_back _ _ _ _ _ (fun c hc => hb c (List.mem_of_mem_drop hc)) h1
  have e : y = m := by rw [hx]; simp
  subst e
  have hn : isNum y = true := decide_eq_true ⟨hr.1, hr.2.1⟩
  refine ⟨hn, ?_, by omega, by dsimp only; omega⟩
  rw [numB_of hn, hd 8 (by omega)]
  congr 1; omega
theorem getLs_back {b : List Int} (hb : ∀ c ∈ b, 0 ≤ c ∧ c ≤ 255) : ∀ (k p : Nat) (xs : List Int) (e : Nat), p ≤ b.length → getLs b k p = some (xs, e) → xs.length = k ∧ xs.all isNum = true ∧ xs.flatMap numB = (b.drop p).take (e - p) ∧ p ≤ e ∧ e ≤ b.length
  | 0, p, xs, e, hp, h => by cases h; simp [hp]
  | k + 1, p, xs, e, hp, h => by
    unfold getLs at h
    split at h
    · cases h
    · rename_i x p' hx
      rw [Option.map_eq_some_iff] at h
      obtain ⟨⟨ys, e'⟩, h1, h2⟩ := h
      cases h2
      obtain ⟨hn, hB, hp1, hp2⟩ := getN_back hb hx
      obtain ⟨k1, k2, k3, k4, k5⟩ := getLs_back hb k p' ys e' hp2 h1
      refine ⟨by simp [k1], by simp [hn, k2], ?_, by dsimp only; omega, k5⟩
      dsimp only
      rw [List.flatMap_cons, hB, k3, show e' - p = (p' - p) + (e' - p') by omega, List.take_add, List.drop_drop, show p + (p' - p) = p' by omega]
/-- what is read is what would be put. -/
theorem getL_back {b : List Int} (hb : ∀ c ∈ b, 0 ≤ c ∧ c ≤ 255) {many : Nat} {xs : List Int} {e : Nat} (h : getL b 0 many = some (xs, e)) : xs.all isNum = true ∧ listB xs = b.take e ∧ xs.length ≤ many ∧ e ≤ b.length := by
  unfold getL at h
  split at h
  · cases h
  · rename_i n p' hn
    split at h
    · cases h
    · obtain ⟨h1, h2, h3, h4⟩ := getN_back hb hn
      obtain ⟨k1, k2, k3, k4, k5⟩ := getLs_back hb _ _ _ _ h4 h
      have h0 := of_decide_eq_true h1
      refine ⟨k2, ?_, by omega, k5⟩
      unfold listB
      rw [if_pos k2, k3, k1, Int.toNat_of_nonneg h0.1, h2]
      simp only [List.drop_zero, Nat.sub_zero]
      rw [← List.take_add]
      congr 1; omega
end Dv
