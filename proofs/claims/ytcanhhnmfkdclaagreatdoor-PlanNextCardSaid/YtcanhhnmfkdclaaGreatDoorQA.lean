/- The logical machine and its plain laws: parts Q1, Q2, Q3, Q4, Q5, proved sound. -/
import Derived.Test.YtcanhhnmfkdclaaGreatDoorPA
import Derived.Test.YtcanhhnmfkdclaaGreatDoorDB
set_option linter.unusedVariables false
set_option linter.unusedSimpArgs false
namespace Dv
open Go

theorem hasB_nat (n i : Nat) : hasB (n : Int) i = n.testBit i := by
  unfold hasB
  rw [Nat.testBit_eq_decide_div_mod_eq]
  rw [Bool.eq_iff_iff, decide_eq_true_eq, decide_eq_true_eq]
  rw [show ((2 : Int) ^ i) = ((2 ^ i : Nat) : Int) by simp, ← Int.natCast_ediv, show ((2 : Int)) = ((2 : Nat) : Int) from rfl, ← Int.natCast_emod]
  omega
def Set6 (n : Int) : Prop := 0 ≤ n ∧ n < 64
theorem Set6.nat {n : Int} (h : Set6 n) : ∃ m : Nat, n = m ∧ m < 64 := by
  obtain ⟨m, rfl⟩ := Int.eq_ofNat_of_zero_le h.1
  exact ⟨m, rfl, by have := h.2; omega⟩
theorem ext6 {a b : Int} (ha : Set6 a) (hb : Set6 b) (h : ∀ i, i < 6 → hasB a i = hasB b i) : a = b := by
  obtain ⟨m, rfl, hm⟩ := ha.nat
  obtain ⟨n, rfl, hn⟩ := hb.nat
  congr 1
  apply Nat.eq_of_testBit_eq
  intro i
  by_cases hi : i < 6
  · have := h i hi
    rwa [hasB_nat, hasB_nat] at this
  · have hp : 64 ≤ 2 ^ i := Nat.pow_le_pow_right (n := 2) (by decide) (show 6 ≤ i by omega)
    rw [Nat.testBit_lt_two_pow (by omega), Nat.testBit_lt_two_pow (by omega)]
theorem orI_nat (a b : Nat) (ha : a < 64) (hb : b < 64) : orI .i64 (a : Int) (b : Int) = ((a ||| b : Nat) : Int) := by
  have h : a ||| b < 2 ^ 6 := Nat.or_lt_two_pow (n := 6) ha hb
  unfold orI
  rw [show IntKind.i64.bits = 64 from rfl, BitVec.toNat_or, BitVec.ofInt_natCast, BitVec.ofInt_natCast, BitVec.toNat_ofNat, BitVec.toNat_ofNat, Nat.mod_eq_of_lt (by omega), Nat.mod_eq_of_lt (by omega), wrap_nat _ (by omega)]
theorem orI_6 {a b : Int} (ha : Set6 a) (hb : Set6 b) : Set6 (orI .i64 a b) ∧ ∀ i, hasB (orI .i64 a b) i = (hasB a i || hasB b i) := by
  obtain ⟨m, rfl, hm⟩ := ha.nat
  obtain ⟨n, rfl, hn⟩ := hb.nat
  have h : m ||| n < 2 ^ 6 := Nat.or_lt_two_pow (n := 6) hm hn
  rw [orI_nat m n hm hn]
  refine ⟨⟨by omega, by omega⟩, fun i => ?_⟩
  rw [hasB_nat, hasB_nat, hasB_nat, Nat.testBit_or]
theorem andNot_6 : ∀ a b : Fin 64, andNotI .i64 (a.val : Int) (b.val : Int) = ((a.val &&& (63 - b.val) : Nat) : Int) := by decide +kernel
theorem sub63 : ∀ b : Fin 64, ∀ i : Fin 6, (63 - b.val).testBit i.val = !b.val.testBit i.val := by decide +kernel
theorem andNotI_6 {a b : Int} (ha : Set6 a) (hb : Set6 b) : Set6 (andNotI .i64 a b) ∧ ∀ i, i < 6 → hasB (andNotI .i64 a b) i = (hasB a i && !hasB b i) := by
  obtain ⟨m, rfl, hm⟩ := ha.nat
  obtain ⟨n, rfl, hn⟩ := hb.nat
  have e := andNot_6 ⟨m, hm⟩ ⟨n, hn⟩
  dsimp only at e
  rw [e]
  have h : m &&& (63 - n) ≤ m := Nat.and_le_left
  refine ⟨⟨by omega, by omega⟩, fun i hi => ?_⟩
  have e2 := sub63 ⟨n, hn⟩ ⟨i, hi⟩
  dsimp only at e2
  rw [hasB_nat, hasB_nat, hasB_nat, Nat.testBit_and, e2]

def maskTo (f : Nat → Bool) : Nat → Int
  | 0 => 0
  | k + 1 => if f k = true then maskTo f k + 2 ^ k else maskTo f k
theorem pow6 (k : Nat) (h : k ≤ 6) : (2 : Int) ^ k ≤ 64 ∧ 1 ≤ (2 : Int) ^ k := by
  have : k = 0 ∨ k = 1 ∨ k = 2 ∨ k = 3 ∨ k = 4 ∨ k = 5 ∨ k = 6 := by omega
  rcases this with h | h | h | h | h | h | h <;> rw [h] <;> decide
theorem maskTo_rng (f : Nat → Bool) : ∀ k : Nat, 0 ≤ maskTo f k ∧ maskTo f k < 2 ^ k
  | 0 => by simp [maskTo]
  | k + 1 => by
    have := maskTo_rng f k
    have hp : (2 : Int) ^ (k + 1) = 2 ^ k * 2 := Int.pow_succ 2 k
    rw [maskTo]
    split <;> omega
theorem maskTo_6 (f : Nat → Bool) (k : Nat) (h : k ≤ 6) : Set6 (maskTo f k) := by
  have := maskTo_rng f k
  have := pow6 k h
  exact ⟨by omega, by omega⟩
theorem pow_6 (k : Nat) (h : k < 6) : Set6 (2 ^ k) ∧ ∀ i, hasB (2 ^ k) i = decide (k = i) := by
  have := pow6 k (by omega)
  have hp : (2 : Int) ^ k < 64 := by
    have : k = 0 ∨ k = 1 ∨ k = 2 ∨ k = 3 ∨ k = 4 ∨ k = 5 := by omega
    rcases this with h | h | h | h | h | h <;> rw [h] <;> decide
  refine ⟨⟨by omega, hp⟩, fun i => ?_⟩
  rw [show ((2 : Int) ^ k) = ((2 ^ k : Nat) : Int) by simp, hasB_nat, Nat.testBit_two_pow]
theorem add_or : ∀ k : Fin 6, ∀ a : Fin 64, a.val < 2 ^ k.val → orI .i64 (a.val : Int) (2 ^ k.val) = (a.val : Int) + 2 ^ k.val := by decide +kernel
theorem mask_or (f : Nat → Bool) (k : Nat) (h : k < 6) : orI .i64 (maskTo f k) (2 ^ k) = maskTo f k + 2 ^ k := by
  obtain ⟨m, hm, hl⟩ := (maskTo_6 f k (by omega)).nat
  have h2 := (maskTo_rng f k).2
  rw [hm] at h2 ⊢
  refine add_or ⟨k, h⟩ ⟨m, hl⟩ ?_
  show m < 2 ^ k
  have : (m : Int) < ((2 ^ k : Nat) : Int) := by simpa using h2
  omega
theorem hasB_mask (f : Nat → Bool) : ∀ (k : Nat), k ≤ 6 → ∀ i, hasB (maskTo f k) i = (decide (i < k) && f i)
  | 0, _, i => by simp [maskTo,hasB]
  | k + 1, h, i => by
    have ih := hasB_mask f k (by omega) i
    rw [maskTo]
    by_cases hf : f k = true
    · rw [if_pos hf, ← mask_or f k (by omega), (orI_6 (maskTo_6 f k (by omega)) (pow_6 k (by omega)).1).2, ih, (pow_6 k (by omega)).2]
      by_cases h1 : k = i
      · subst h1; simp [hf]
      · by_cases h2 : i < k
        · simp [h1,h2,show i < k + 1 by omega]
        · simp [h1,h2,show ¬ i < k + 1 by omega]
    · rw [if_neg hf, ih]
      by_cases h1 : k = i
      · subst h1; simp [hf]
      · by_cases h2 : i < k
        · simp [h2,show i < k + 1 by omega]
        · simp [h2,show ¬ i < k + 1 by omega]
theorem many_6 (n : Int) (h : Set6 n) : many (n % 64) = many n := by rw [Int.emod_eq_of_lt h.1 h.2]
theorem many_rng (n : Int) : 0 ≤ many n ∧ many n ≤ 6 := manyTo_le n 6


def lowStep (p : Int × Int × Int) : Int × Int × Int := (andNotI .i64 p.1 (andI .i64 p.1 (-p.1)), p.2.1 - 1, orI .i64 p.2.2 (andI .i64 p.1 (-p.1)))
def lowF : Nat → Int × Int × Int → Int
  | 0, p => p.2.2
  | f + 1, p => if p.1 ≠ 0 ∧ 0 < p.2.1 then lowF f (lowStep p) else p.2.2
def lowR (of mx : Int) : Nat → Int
  | 0 => 0
  | k + 1 => if hasB of k = true ∧ many (lowR of mx k) < mx then lowR of mx k + 2 ^ k else lowR of mx k
theorem low_eq : ∀ s : Fin 64, ∀ m : Fin 7, lowF 6 ((s.val : Int), (m.val : Int), 0) = lowR (s.val : Int) (m.val : Int) 6 := by decide +kernel
end Dv

namespace Dv
open Go

def freeS (s : StateD) : Int := maskTo (fun i => freeB (s.nodes.getD i zeroNode)) s.nodes.length
def readyB (set v : Int) (i : Nat) (n : NodeD) : Bool := hasB set i && n.up && !n.cordon && !n.moving && decide (n.version = v)
def readyS (s : StateD) (set v : Int) : Int := maskTo (fun i => readyB set v i (s.nodes.getD i zeroNode)) s.nodes.length
def vers : List Int := [1, 2, 3, 4, 5, 6, 7, 8, 9]
def verL (m : Int) : List Int := m :: vers.filter (fun v => decide (v ≠ m))
def okV (s : StateD) (j : JobD) (set v : Int) : Bool := !(decide (j.pin ≠ 0) && decide (j.pin ≠ v)) && decide (j.min ≤ many (readyS s set v))
def chs (s : StateD) (j : JobD) (set : Int) : List Int := ((verL (meant s)).filter (okV s j set)).map (readyS s set)
def capK (mx n : Int) : Int := if mx < many n then mx else many n
def stepP (mx : Int) (p : Int × Int) (n : Int) : Int × Int := if p.2 < capK mx n then (n, capK mx n) else p
def bestP (s : StateD) (j : JobD) (set : Int) : Int × Int := (chs s j set).foldl (stepP j.max) (0, 0)
def pickS (s : StateD) (j : JobD) (set : Int) : Int × Bool := (lowF 6 ((bestP s j set).1, j.max, 0), decide (0 < (bestP s j set).2))
def refStep (s : StateD) (j : JobD) (set : Int) (p : Int × Int) (v : Int) : Int × Int :=
  if many (readyS s set v) < j.min ∨ (0 < j.pin ∧ j.pin ≠ v) then p
  else if p.1 < capK j.max (readyS s set v) ∨ (capK j.max (readyS s set v) = p.1 ∧ v = meant s) then (capK j.max (readyS s set v), v) else p
def refBest (s : StateD) (j : JobD) (set : Int) : Int × Int := vers.foldl (refStep s j set) (-1, 0)
def pickR (s : StateD) (j : JobD) (set : Int) : Int × Bool := if (refBest s j set).1 < 0 then (0, false) else (lowR (readyS s set (refBest s j set).2) j.max 6, true)

section
variable (K : Int → Int) (m : Int)
def fO (o : Option Int) (v : Int) : Option Int := match o with
  | none => if 0 < K v then some v else none
  | some u => if K u < K v then some v else some u
def rO (o : Option Int) (v : Int) : Option Int := match o with
  | none => if 0 < K v then some v else none
  | some u => if K u < K v ∨ (K v = K u ∧ v = m) then some v else some u
def InvF (pre : List Int) : Option Int → Prop
  | none => ∀ x ∈ pre, K x ≤ 0
  | some u => 0 < K u ∧ (∀ x ∈ pre, K x ≤ K u) ∧ ∃ a b, pre = a ++ u :: b ∧ ∀ x ∈ a, K x < K u
def InvR (pre : List Int) : Option Int → Prop
  | none => ∀ x ∈ pre, K x ≤ 0
  | some u => u ∈ pre ∧ 0 < K u ∧ (∀ x ∈ pre, K x ≤ K u) ∧ (u ≠ m → (m ∈ pre → K m < K u) ∧ ∀ x ∈ pre, x < u → K x < K u)
theorem invF_step {pre : List Int} {o : Option Int} (h : InvF K pre o) (v : Int) : InvF K (pre ++ [v]) (fO K o v) := by
  cases o with
  | none =>
    have h : ∀ x ∈ pre, K x ≤ 0 := h
    unfold fO
    dsimp only
    by_cases hv : 0 < K v
    · rw [if_pos hv]
      refine ⟨hv, fun x hx => ?_, pre, [], rfl, fun x hx => by have := h x hx; omega⟩
      rcases List.mem_append.1 hx with hx | hx
      · have := h x hx; omega
      · rw [List.mem_singleton.1 hx]; omega
    · rw [if_neg hv]
      intro x hx
      rcases List.mem_append.1 hx with hx | hx
      · exact h x hx
      · rw [List.mem_singleton.1 hx]; omega
  | some u =>
    obtain ⟨h1, h2, a, b, rfl, h3⟩ := h
    unfold fO
    dsimp only
    by_cases hv : K u < K v
    · rw [if_pos hv]
      refine ⟨by omega, fun x hx => ?_, _, [], rfl, fun x hx => by have := h2 x hx; omega⟩
      rcases List.mem_append.1 hx with hx | hx
      · have := h2 x hx; omega
      · rw [List.mem_singleton.1 hx]; omega
    · rw [if_neg hv]
      refine ⟨h1, fun x hx => ?_, a, b ++ [v], by simp, h3⟩
      rcases List.mem_append.1 hx with hx | hx
      · exact h2 x hx
      · rw [List.mem_singleton.1 hx]; omega
theorem invR_step {pre : List Int} {o : Option Int} (h : InvR K m pre o) (v : Int) (hv : ∀ x ∈ pre, x < v) : InvR K m (pre ++ [v]) (rO K m o v) := by
  cases o with
  | none =>
    have h : ∀ x ∈ pre, K x ≤ 0 := h
    unfold rO
    dsimp only
    by_cases hk : 0 < K v
    · rw [if_pos hk]
      refine ⟨by simp, hk, fun x hx => ?_, fun hm => ⟨fun hx => ?_, fun x hx hl => ?_⟩⟩
      · rcases List.mem_append.1 hx with hx | hx
        · have := h x hx; omega
        · rw [List.mem_singleton.1 hx]; omega
      · rcases List.mem_append.1 hx with hx | hx
        · have := h m hx; omega
        · exact absurd (List.mem_singleton.1 hx).symm hm
      · rcases List.mem_append.1 hx with hx | hx
        · have := h x hx; omega
        · have := List.mem_singleton.1 hx; omega
    · rw [if_neg hk]
      intro x hx
      rcases List.mem_append.1 hx with hx | hx
      · exact h x hx
      · rw [List.mem_singleton.1 hx]; omega
  | some u =>
    obtain ⟨h0, h1, h2, h3⟩ := h
    unfold rO
    dsimp only
    by_cases hk : K u < K v ∨ (K v = K u ∧ v = m)
    · rw [if_pos hk]
      refine ⟨by simp, by omega, fun x hx => ?_, fun hm => ?_⟩
      · rcases List.mem_append.1 hx with hx | hx
        · have := h2 x hx; omega
        · rw [List.mem_singleton.1 hx]; omega
      · have hk : K u < K v := by rcases hk with hk | ⟨_, hk⟩; exact hk; exact absurd hk hm
        refine ⟨fun hx => ?_, fun x hx hl => ?_⟩
        · rcases List.mem_append.1 hx with hx | hx
          · have := h2 m hx; omega
          · exact absurd (List.mem_singleton.1 hx).symm hm
        · rcases List.mem_append.1 hx with hx | hx
          · have := h2 x hx; omega
          · have := List.mem_singleton.1 hx; omega
    · rw [if_neg hk]
      have hk1 : ¬ K u < K v := fun h => hk (.inl h)
      refine ⟨List.mem_append_left _ h0, h1, fun x hx => ?_, fun hm => ⟨fun hx => ?_, fun x hx hl => ?_⟩⟩
      · rcases List.mem_append.1 hx with hx | hx
        · exact h2 x hx
        · rw [List.mem_singleton.1 hx]; omega
      · rcases List.mem_append.1 hx with hx | hx
        · exact (h3 hm).1 hx
        · have e := List.mem_singleton.1 hx
          have : K v ≠ K u := fun h => hk (.inr ⟨h, e.symm⟩)
          rw [e]; omega
      · rcases List.mem_append.1 hx with hx | hx
        · exact (h3 hm).2 x hx hl
        · have := List.mem_singleton.1 hx
          have := hv u h0
          omega
theorem invF_all : ∀ (l pre : List Int) (o : Option Int), InvF K pre o → InvF K (pre ++ l) (l.foldl (fO K) o)
  | [], pre, o, h => by simpa using h
  | v :: l, pre, o, h => by
    have := invF_all l (pre ++ [v]) (fO K o v) (invF_step K h v)
    simpa using this
theorem invR_all : ∀ (l pre : List Int) (o : Option Int), (pre ++ l).Pairwise (· < ·) → InvR K m pre o → InvR K m (pre ++ l) (l.foldl (rO K m) o)
  | [], pre, o, _, h => by simpa using h
  | v :: l, pre, o, hp, h => by
    have hv : ∀ x ∈ pre, x < v := fun x hx => (List.pairwise_append.1 hp).2.2 x hx v (List.mem_cons.2 (Or.inl rfl))
    have := invR_all l (pre ++ [v]) (rO K m o v) (by simpa using hp) (invR_step K m h v hv)
    simpa using this
theorem best_eq (hm : m ∈ vers) : (verL m).foldl (fO K) none = vers.foldl (rO K m) none := by
  have hF := invF_all K (verL m) [] none (fun x hx => by cases hx)
  have hR := invR_all K m vers [] none (by decide) (fun x hx => by cases hx)
  rw [List.nil_append] at hF hR
  have hmem : ∀ x, x ∈ vers → x ∈ verL m := fun x hx => by
    unfold verL
    by_cases h : x = m
    · subst h; exact List.mem_cons.2 (Or.inl rfl)
    · exact List.mem_cons.2 (Or.inr (List.mem_filter.2 ⟨hx, by simpa using h⟩))
  have hmem2 : ∀ x, x ∈ verL m → x ∈ vers := fun x hx => by
    unfold verL at hx
    rcases List.mem_cons.1 hx with h | h
    · subst h; exact hm
    · exact (List.mem_filter.1 h).1
  cases h1 : (verL m).foldl (fO K) none with
  | none =>
    cases h2 : vers.foldl (rO K m) none with
    | none => rfl
    | some u =>
      rw [h1] at hF; rw [h2] at hR
      have := hF u (hmem u hR.1)
      have := hR.2.1
      omega
  | some u =>
    cases h2 : vers.foldl (rO K m) none with
    | none =>
      rw [h1] at hF; rw [h2] at hR
      obtain ⟨f1, f2, a, b, f3, f4⟩ := hF
      have hu : u ∈ verL m := by rw [f3]; simp
      have := hR u (hmem2 u hu)
      omega
    | some u' =>
      rw [h1] at hF; rw [h2] at hR
      obtain ⟨f1, f2, a, b, f3, f4⟩ := hF
      obtain ⟨r0, r1, r2, r3⟩ := hR
      have hu : u ∈ vers := hmem2 u (by rw [f3]; simp)
      have e1 := f2 u' (hmem u' r0)
      have e2 := r2 u hu
      have e : K u = K u' := by omega
      congr 1
      by_cases hum : u = m
      · by_cases hum' : u' = m
        · rw [hum, hum']
        · have := (r3 hum').1 hm
          rw [hum] at e; omega
      · cases a with
        | nil =>
          unfold verL at f3
          exact absurd (List.cons.inj f3).1.symm hum
        | cons x a =>
          unfold verL at f3
          rw [List.cons_append] at f3
          obtain ⟨rfl, f5⟩ := List.cons.inj f3
          have km := f4 m (List.mem_cons.2 (Or.inl rfl))
          have hum' : u' ≠ m := fun h => by rw [h] at e; omega
          rcases Int.lt_trichotomy u u' with h | h | h
          · have := (r3 hum').2 u hu h; omega
          · exact h
          · have hs : (vers.filter (fun v => decide (v ≠ m))).Pairwise (· < ·) := List.Pairwise.filter _ (by decide)
            have hi : u' ∈ vers.filter (fun v => decide (v ≠ m)) := List.mem_filter.2 ⟨r0, by simpa using hum'⟩
            rw [f5] at hs hi
            rcases List.mem_append.1 hi with hi | hi
            · have := f4 u' (List.mem_cons.2 (Or.inr hi)); omega
            · rcases List.mem_cons.1 hi with hi | hi
              · exact hi.symm
              · have := (List.pairwise_cons.1 (List.pairwise_append.1 hs).2.1).1 u' hi
                omega
end

def okK (s : StateD) (j : JobD) (set v : Int) : Int := if okV s j set v = true then capK j.max (readyS s set v) else 0
theorem okK_pos {s : StateD} {j : JobD} {set v : Int} (h1 : 1 ≤ j.min) (h2 : 1 ≤ j.max) (h : okV s j set v = true) : 1 ≤ capK j.max (readyS s set v) := by
  unfold okV at h
  simp only [Bool.and_eq_true,decide_eq_true_eq] at h
  have := h.2
  unfold capK
  split <;> omega
def relF (s : StateD) (j : JobD) (set : Int) (p : Int × Int) : Option Int → Prop
  | none => p = (0, 0)
  | some u => p = (readyS s set u, okK s j set u) ∧ okV s j set u = true
theorem foldF (s : StateD) (j : JobD) (set : Int) (h1 : 1 ≤ j.min) (h2 : 1 ≤ j.max) : ∀ (l : List Int) (p : Int × Int) (o : Option Int), relF s j set p o → relF s j set (((l.filter (okV s j set)).map (readyS s set)).foldl (stepP j.max) p) (l.foldl (fO (okK s j set)) o)
  | [], p, o, h => h
  | v :: l, p, o, h => by
    rw [List.foldl_cons]
    by_cases hk : okV s j set v = true
    · rw [List.filter_cons_of_pos hk, List.map_cons, List.foldl_cons]
      refine foldF s j set h1 h2 l _ _ ?_
      have hp := okK_pos h1 h2 hk
      have e : okK s j set v = capK j.max (readyS s set v) := by unfold okK; rw [if_pos hk]
      cases o with
      | none =>
        have h : p = (0, 0) := h
        subst h
        unfold fO stepP
        dsimp only
        rw [if_pos (by omega), if_pos (by omega)]
        exact ⟨by rw [e], hk⟩
      | some u =>
        obtain ⟨rfl, hu⟩ := h
        unfold fO stepP
        dsimp only
        rw [← e]
        by_cases hc : okK s j set u < okK s j set v
        · rw [if_pos hc, if_pos hc]; exact ⟨rfl, hk⟩
        · rw [if_neg hc, if_neg hc]; exact ⟨rfl, hu⟩
    · rw [List.filter_cons_of_neg hk]
      refine foldF s j set h1 h2 l _ _ ?_
      have e : okK s j set v = 0 := by unfold okK; rw [if_neg hk]
      cases o with
      | none =>
        unfold fO
        dsimp only
        rw [if_neg (by omega)]
        exact h
      | some u =>
        have hu := h.2
        have hp := okK_pos h1 h2 hu
        have e2 : okK s j set u = capK j.max (readyS s set u) := by unfold okK; rw [if_pos hu]
        unfold fO
        dsimp only
        rw [if_neg (by omega)]
        exact h
def relR (s : StateD) (j : JobD) (set : Int) (p : Int × Int) : Option Int → Prop
  | none => p = (-1, 0)
  | some u => p = (okK s j set u, u) ∧ okV s j set u = true
theorem okV_neg {s : StateD} {j : JobD} {set v : Int} (h0 : 0 ≤ j.pin) : (many (readyS s set v) < j.min ∨ (0 < j.pin ∧ j.pin ≠ v)) ↔ ¬ okV s j set v = true := by
  unfold okV
  simp only [Bool.and_eq_true,Bool.not_eq_true',decide_eq_true_eq,Bool.and_eq_false_iff,decide_eq_false_iff_not,not_and,Decidable.not_not]
  constructor
  · rintro (h | ⟨h1, h2⟩) hp
    · omega
    · rcases hp with hp | hp
      · omega
      · exact absurd hp h2
  · intro h
    by_cases h2 : many (readyS s set v) < j.min
    · exact .inl h2
    · refine .inr ?_
      by_cases h3 : j.pin = 0
      · exact absurd (h (.inl h3)) (by omega)
      · by_cases h4 : j.pin = v
        · exact absurd (h (.inr h4)) (by omega)
        · exact ⟨by omega, h4⟩
theorem foldR (s : StateD) (j : JobD) (set : Int) (h1 : 1 ≤ j.min) (h2 : 1 ≤ j.max) (h0 : 0 ≤ j.pin) : ∀ (l : List Int) (p : Int × Int) (o : Option Int), relR s j set p o → relR s j set (l.foldl (refStep s j set) p) (l.foldl (rO (okK s j set) (meant s)) o)
  | [], p, o, h => h
  | v :: l, p, o, h => by
    rw [List.foldl_cons, List.foldl_cons]
    refine foldR s j set h1 h2 h0 l _ _ ?_
    by_cases hk : okV s j set v = true
    · have hp := okK_pos h1 h2 hk
      have e : okK s j set v = capK j.max (readyS s set v) := by unfold okK; rw [if_pos hk]
      unfold refStep
      rw [if_neg (fun h => (okV_neg h0).1 h hk), ← e]
      cases o with
      | none =>
        have h : p = (-1, 0) := h
        subst h
        unfold rO
        dsimp only
        rw [if_pos (by left; omega), if_pos (by omega)]
        exact ⟨rfl, hk⟩
      | some u =>
        obtain ⟨rfl, hu⟩ := h
        unfold rO
        dsimp only
        by_cases hc : okK s j set u < okK s j set v ∨ (okK s j set v = okK s j set u ∧ v = meant s)
        · rw [if_pos hc, if_pos hc]; exact ⟨rfl, hk⟩
        · rw [if_neg hc, if_neg hc]; exact ⟨rfl, hu⟩
    · have e : okK s j set v = 0 := by unfold okK; rw [if_neg hk]
      unfold refStep
      rw [if_pos ((okV_neg h0).2 hk)]
      cases o with
      | none =>
        unfold rO
        dsimp only
        rw [if_neg (by omega)]
        exact h
      | some u =>
        have hu := h.2
        have hp := okK_pos h1 h2 hu
        have e2 : okK s j set u = capK j.max (readyS s set u) := by unfold okK; rw [if_pos hu]
        unfold rO
        dsimp only
        rw [if_neg (by omega)]
        exact h
theorem ready_6 (s : StateD) (set v : Int) (h : s.nodes.length ≤ 6) : Set6 (readyS s set v) := maskTo_6 _ _ h
theorem low_eq' {a m : Int} (ha : Set6 a) (hm : 0 ≤ m ∧ m ≤ 6) : lowF 6 (a, m, 0) = lowR a m 6 := by
  obtain ⟨n, rfl, hn⟩ := ha.nat
  obtain ⟨k, rfl⟩ := Int.eq_ofNat_of_zero_le hm.1
  exact low_eq ⟨n, hn⟩ ⟨k, by omega⟩
theorem pick_eq (s : StateD) (j : JobD) (set : Int) (hn : s.nodes.length ≤ 6) (h1 : 1 ≤ j.min) (h2 : 1 ≤ j.max ∧ j.max ≤ 6) (h0 : 0 ≤ j.pin) (hm : 1 ≤ meant s ∧ meant s ≤ 9) : pickS s j set = pickR s j set := by
  have hv : meant s ∈ vers := by
    have : meant s = 1 ∨ meant s = 2 ∨ meant s = 3 ∨ meant s = 4 ∨ meant s = 5 ∨ meant s = 6 ∨ meant s = 7 ∨ meant s = 8 ∨ meant s = 9 := by omega
    unfold vers; simpa using this
  have hF := foldF s j set h1 h2.1 (verL (meant s)) (0, 0) none rfl
  have hR := foldR s j set h1 h2.1 h0 vers (-1, 0) none rfl
  rw [best_eq _ _ hv] at hF
  have eF : (((verL (meant s)).filter (okV s j set)).map (readyS s set)).foldl (stepP j.max) (0, 0) = bestP s j set := rfl
  have eR : vers.foldl (refStep s j set) (-1, 0) = refBest s j set := rfl
  rw [eF] at hF
  rw [eR] at hR
  unfold pickS pickR
  cases ho : vers.foldl (rO (okK s j set) (meant s)) none with
  | none =>
    rw [ho] at hF hR
    have hF : bestP s j set = (0, 0) := hF
    have hR : refBest s j set = (-1, 0) := hR
    rw [hF, hR, if_pos (by decide)]
    refine Prod.ext ?_ rfl
    dsimp only
    rw [low_eq' ⟨by decide, by decide⟩ ⟨by omega, h2.2⟩]
    have hm : ∀ m : Fin 7, lowR 0 (m.val : Int) 6 = 0 := by decide +kernel
    obtain ⟨k, hk⟩ := Int.eq_ofNat_of_zero_le (show 0 ≤ j.max by omega)
    rw [hk]
    exact hm ⟨k, by omega⟩
  | some u =>
    rw [ho] at hF hR
    obtain ⟨hF, hu⟩ := hF
    obtain ⟨hR, _⟩ := hR
    have hp := okK_pos h1 h2.1 hu
    have e2 : okK s j set u = capK j.max (readyS s set u) := by unfold okK; rw [if_pos hu]
    rw [hF, hR, if_neg (by dsimp only; omega)]
    refine Prod.ext ?_ ?_
    · exact low_eq' (ready_6 s set u hn) ⟨by omega, h2.2⟩
    · exact decide_eq_true (by dsimp only; omega)
end Dv

namespace Dv
open Go

def prioAt (s : StateD) (i : Nat) : Int := (s.jobs.getD i zeroJob).prio
def qB (s : StateD) (i : Nat) : Bool := decide ((s.jobs.getD i zeroJob).phase = 0)
def ahB (s : StateD) (i j : Nat) : Bool := decide (prioAt s j < prioAt s i ∨ (prioAt s i = prioAt s j ∧ i < j))
def queued (s : StateD) : List Nat := (List.range s.jobs.length).filter (qB s)
def lineN (s : StateD) : List Nat := (queued s).mergeSort (fun i j => !ahB s j i)
theorem ah_iff {s : StateD} {i j : Nat} : ahB s i j = true ↔ (prioAt s j < prioAt s i ∨ (prioAt s i = prioAt s j ∧ i < j)) := by unfold ahB; rw [decide_eq_true_eq]
theorem ah_irr (s : StateD) (i : Nat) : ahB s i i = false := by
  cases h : ahB s i i with
  | false => rfl
  | true => have := ah_iff.1 h; omega
theorem ah_asymm {s : StateD} {i j : Nat} (h : ahB s i j = true) : ahB s j i = false := by
  cases h2 : ahB s j i with
  | false => rfl
  | true => have := ah_iff.1 h; have := ah_iff.1 h2; omega
theorem ah_trans {s : StateD} {i j k : Nat} (h1 : ahB s i j = true) (h2 : ahB s j k = true) : ahB s i k = true := by
  have := ah_iff.1 h1; have := ah_iff.1 h2
  exact ah_iff.2 (by omega)
theorem ah_total {s : StateD} {i j : Nat} (h : i ≠ j) : ahB s i j = true ∨ ahB s j i = true := by
  by_cases h1 : ahB s i j = true
  · exact .inl h1
  · refine .inr (ah_iff.2 ?_)
    have h2 : ¬ (prioAt s j < prioAt s i ∨ (prioAt s i = prioAt s j ∧ i < j)) := fun h => h1 (ah_iff.2 h)
    omega
theorem queued_nodup (s : StateD) : (queued s).Nodup := List.Pairwise.filter _ List.nodup_range
theorem mem_queued {s : StateD} {i : Nat} : i ∈ queued s ↔ i < s.jobs.length ∧ qB s i = true := by
  unfold queued; rw [List.mem_filter, List.mem_range]
theorem lineN_perm (s : StateD) : (lineN s).Perm (queued s) := List.mergeSort_perm _ _
theorem lineN_sorted0 (s : StateD) : (lineN s).Pairwise (fun i j => !ahB s j i) := by
  refine List.pairwise_mergeSort (fun a b c h1 h2 => ?_) (fun a b => ?_) _
  · by_cases hab : a = b
    · subst hab; exact h2
    by_cases hbc : b = c
    · subst hbc; exact h1
    simp only [Bool.not_eq_true'] at h1 h2 ⊢
    have k1 := (ah_total (s := s) hab).resolve_right (by rw [h1]; decide)
    have k2 := (ah_total (s := s) hbc).resolve_right (by rw [h2]; decide)
    exact ah_asymm (ah_trans k1 k2)
  · by_cases h : ahB s b a = true
    · simp [h,ah_asymm h]
    · simp [h]
theorem sorted_of {s : StateD} {l : List Nat} (hn : l.Nodup) (h : l.Pairwise (fun i j => ahB s j i = false)) : l.Pairwise (fun i j => ahB s i j = true) := by
  refine (h.and hn).imp (fun {a b} h => ?_)
  exact (ah_total (s := s) h.2).resolve_right (by rw [h.1]; decide)
theorem lineN_nodup (s : StateD) : (lineN s).Nodup := (lineN_perm s).nodup_iff.2 (queued_nodup s)
theorem lineN_sorted (s : StateD) : (lineN s).Pairwise (fun i j => ahB s i j = true) :=
  sorted_of (lineN_nodup s) ((lineN_sorted0 s).imp (fun {a b} h => by simpa using h))
theorem line_unique {s : StateD} {l : List Nat} (hp : l.Perm (queued s)) (h : l.Pairwise (fun i j => ahB s i j = true)) : l = lineN s :=
  List.Perm.eq_of_pairwise (le := fun i j => ahB s i j = true) (fun a b _ _ h1 h2 => by rw [ah_asymm h1] at h2; cases h2) h (lineN_sorted s) (hp.trans (lineN_perm s).symm)
theorem mem_line {s : StateD} {i : Nat} : i ∈ lineN s ↔ i < s.jobs.length ∧ qB s i = true := by rw [(lineN_perm s).mem_iff, mem_queued]


def placeN (s : StateD) (i : Nat) : Nat := (queued s).countP (fun k => ahB s k i)
def placeI (s : StateD) (job : Int) : Int := if job < 1 ∨ (s.jobs.length : Int) < job ∨ (s.jobs.getD (job - 1).toNat zeroJob).phase ≠ 0 then -1 else (placeN s (job - 1).toNat : Int)
theorem countP_lt_of {α : Type} {p q : α → Bool} : ∀ {l : List α}, (∀ x ∈ l, p x = true → q x = true) → (∃ x ∈ l, q x = true ∧ p x = false) → l.countP p < l.countP q
  | [], _, ⟨_, h, _⟩ => by cases h
  | x :: l, h, ⟨y, hy, hq, hp⟩ => by
    have hle : l.countP p ≤ l.countP q := List.countP_mono_left (fun z hz => h z (List.mem_cons_of_mem _ hz))
    rcases List.mem_cons.1 hy with e | hy
    · subst e
      rw [List.countP_cons_of_neg (by rw [hp]; decide), List.countP_cons_of_pos hq]
      omega
    · have := countP_lt_of (fun z hz => h z (List.mem_cons_of_mem _ hz)) ⟨y, hy, hq, hp⟩
      rw [List.countP_cons, List.countP_cons]
      have hx := h x (List.mem_cons.2 (Or.inl rfl))
      by_cases hpx : p x = true
      · rw [if_pos hpx, if_pos (hx hpx)]; omega
      · rw [if_neg hpx]; split <;> omega
theorem place_lt {s : StateD} {i j : Nat} (hi : i ∈ queued s) (h : ahB s i j = true) : placeN s i < placeN s j :=
  countP_lt_of (fun x _ hx => ah_trans hx h) ⟨i, hi, h, ah_irr s i⟩
theorem place_inj {s : StateD} {i j : Nat} (hi : i ∈ queued s) (hj : j ∈ queued s) (h : placeN s i = placeN s j) : i = j := by
  by_cases e : i = j
  · exact e
  · rcases ah_total (s := s) e with k | k
    · have := place_lt hi k; omega
    · have := place_lt hj k; omega
theorem place_small {s : StateD} {i : Nat} (hi : i ∈ queued s) : placeN s i < s.jobs.length := by
  have h1 : placeN s i < (queued s).countP (fun _ => true) := countP_lt_of (fun _ _ _ => rfl) ⟨i, hi, rfl, ah_irr s i⟩
  have h2 : (queued s).countP (fun _ => true) ≤ (queued s).length := List.countP_le_length
  have h3 : (queued s).length ≤ s.jobs.length := by
    unfold queued
    exact Nat.le_trans (List.length_filter_le _ _) (by simp)
  omega
def atPlace (s : StateD) (p : Nat) : List Nat := (List.range s.jobs.length).filter (fun k => qB s k && decide (placeN s k = p))
def lineR (s : StateD) : List Nat := (List.range s.jobs.length).flatMap (atPlace s)
theorem mem_atPlace {s : StateD} {p i : Nat} : i ∈ atPlace s p ↔ i ∈ queued s ∧ placeN s i = p := by
  unfold atPlace
  rw [List.mem_filter, List.mem_range, Bool.and_eq_true, decide_eq_true_eq, mem_queued]
  exact and_assoc.symm
theorem atPlace_one (s : StateD) (p : Nat) : (atPlace s p).Pairwise (fun i j => ahB s i j = true) := by
  have hn : (atPlace s p).Nodup := List.Pairwise.filter _ List.nodup_range
  refine hn.imp_of_mem (fun {a b} ha hb hab => ?_)
  have h1 := mem_atPlace.1 ha
  have h2 := mem_atPlace.1 hb
  exact absurd (place_inj h1.1 h2.1 (h1.2.trans h2.2.symm)) hab
theorem lineR_sorted (s : StateD) : (lineR s).Pairwise (fun i j => ahB s i j = true) := by
  unfold lineR
  rw [List.pairwise_flatMap]
  refine ⟨fun p _ => atPlace_one s p, ?_⟩
  refine List.Pairwise.imp ?_ List.pairwise_lt_range
  intro p q hpq a ha b hb
  have h1 := mem_atPlace.1 ha
  have h2 := mem_atPlace.1 hb
  by_cases e : a = b
  · subst e; omega
  rcases ah_total (s := s) e with k | k
  · exact k
  · have := place_lt h2.1 k; omega
theorem lineR_perm (s : StateD) : (lineR s).Perm (queued s) := by
  refine (List.perm_ext_iff_of_nodup ?_ (queued_nodup s)).2 (fun i => ?_)
  · refine (lineR_sorted s).imp (fun {a b} h => ?_)
    rintro rfl
    rw [ah_irr] at h; cases h
  · unfold lineR
    rw [List.mem_flatMap]
    constructor
    · rintro ⟨p, _, h⟩; exact (mem_atPlace.1 h).1
    · intro h; exact ⟨placeN s i, List.mem_range.2 (place_small h), mem_atPlace.2 ⟨h, rfl⟩⟩
theorem lineR_eq (s : StateD) : lineR s = lineN s := line_unique (lineR_perm s) (lineR_sorted s)
theorem line_head {s : StateD} {i : Nat} (hi : i ∈ queued s) : placeN s i = 0 ↔ (lineN s)[0]? = some i := by
  have hs := lineN_sorted s
  have hp := lineN_perm s
  have hm : i ∈ lineN s := hp.mem_iff.2 hi
  cases hl : lineN s with
  | nil => rw [hl] at hm; cases hm
  | cons a l =>
    rw [hl] at hs hm
    have ha : a ∈ queued s := hp.mem_iff.1 (by rw [hl]; exact List.mem_cons.2 (Or.inl rfl))
    have h0 : placeN s a = 0 := by
      unfold placeN
      rw [List.countP_eq_zero]
      intro k hk hka
      have hk2 : k ∈ lineN s := hp.mem_iff.2 hk
      rw [hl] at hk2
      rcases List.mem_cons.1 hk2 with e | e
      · subst e; rw [ah_irr] at hka; cases hka
      · have := (List.pairwise_cons.1 hs).1 k e
        rw [ah_asymm this] at hka; cases hka
    simp only [List.getElem?_cons_zero,Option.some.injEq]
    constructor
    · intro h; exact place_inj ha hi (h0.trans h.symm)
    · rintro rfl; exact h0
end Dv

namespace Dv
open Go

def maxI (a b : Int) : Int := if b > a then b else a
def endJ (j : JobD) (now : Int) : Int := if j.phase = 1 then now + j.work else if j.phase = 2 then maxI now (j.since + j.work) else if j.phase = 3 then maxI now j.til else -1
def endS (s : StateD) (job now : Int) : Int := if job < 1 ∨ (s.jobs.length : Int) < job then -1 else endJ (s.jobs.getD (job - 1).toNat zeroJob) now
def okE (e t : Int) : Bool := decide (0 ≤ e) && decide (e ≤ t)
def thereB (s : StateD) (now t : Int) (i : Nat) : Bool := freeB (s.nodes.getD i zeroNode) || okE (endS s (s.nodes.getD i zeroNode).job now) t
def queuedI (s : StateD) (job : Int) : Bool := decide (1 ≤ job ∧ job ≤ (s.jobs.length : Int) ∧ (s.jobs.getD (job - 1).toNat zeroJob).phase = 0)
def atS (s : StateD) (now t : Int) : Int := maskTo (thereB s now t) s.nodes.length
def atN (s : StateD) (now t : Int) : Nat → Int
  | 0 => freeS s
  | k + 1 => if okE (endJ (joA s k) now) t = true then orI .i64 (atN s now t k) (joA s k).nodes else atN s now t k
structure EndR (j : JobD) : Prop where
  work : 0 ≤ j.work ∧ j.work ≤ 1000000
  since : 0 ≤ j.since ∧ j.since ≤ 1000000
  til : 0 ≤ j.til ∧ j.til ≤ 1000000
structure FitS (s : StateD) : Prop where
  nodes : s.nodes.length ≤ 6
  jobs : s.jobs.length ≤ 1000
  ends : ∀ k, k < s.jobs.length → EndR (joA s k)
  sets : ∀ k, k < s.jobs.length → Set6 (joA s k).nodes
  most : ∀ k, k < s.jobs.length → 0 ≤ (joA s k).max ∧ (joA s k).max ≤ 6
  prio : ∀ k, k < s.jobs.length → 0 ≤ prioAt s k ∧ prioAt s k ≤ 1000000
theorem RightP.set6 {c : ConfD} {s : StateD} (h : RightP c s) (k : Nat) (hk : k < s.jobs.length) : Set6 (joA s k).nodes := by
  cases hp : placedB (joA s k).phase with
  | false => rw [h.idle k hk hp]; exact ⟨by decide, by decide⟩
  | true =>
    have hpl := h.placed k hk hp
    have hl := h.len
    have := pow6 s.nodes.length hl.2
    have h1 := hpl.lo
    have h2 := hpl.hi
    exact ⟨h1, by omega⟩
theorem endS_at {s : StateD} {k : Nat} (hk : k < s.jobs.length) (now : Int) : endS s ((k + 1 : Nat) : Int) now = endJ (joA s k) now := by
  unfold endS joA
  rw [if_neg (by omega), show (((k + 1 : Nat) : Int) - 1).toNat = k by omega]
theorem atN_6 {c : ConfD} {s : StateD} (h : RightP c s) (now t : Int) : ∀ k, k ≤ s.jobs.length → Set6 (atN s now t k) ∧ ∀ i, i < s.nodes.length → (hasB (atN s now t k) i = true ↔ (freeB (s.nodes.getD i zeroNode) = true ∨ ∃ m, m < k ∧ (noA s i).job = ((m + 1 : Nat) : Int) ∧ okE (endJ (joA s m) now) t = true))
  | 0, _ => ⟨maskTo_6 _ _ h.len.2, fun i hi => by
      unfold atN freeS
      rw [hasB_mask _ _ h.len.2, decide_eq_true hi, Bool.true_and]
      constructor
      · exact .inl
      · rintro (h | ⟨m, hm, _⟩)
        · exact h
        · omega⟩
  | k + 1, hk => by
    obtain ⟨h6, hh⟩ := atN_6 h now t k (by omega)
    have hn6 := h.set6 k (by omega)
    unfold atN
    by_cases ho : okE (endJ (joA s k) now) t = true
    · rw [if_pos ho]
      obtain ⟨g6, gh⟩ := orI_6 h6 hn6
      refine ⟨g6, fun i hi => ?_⟩
      rw [gh, Bool.or_eq_true, hh i hi, h.link i k hi (by omega)]
      constructor
      · rintro ((h1 | ⟨m, h1, h2⟩) | h1)
        · exact .inl h1
        · exact .inr ⟨m, by omega, h2⟩
        · exact .inr ⟨k, by omega, by rw [h1]; simp, ho⟩
      · rintro (h1 | ⟨m, h1, h2, h3⟩)
        · exact .inl (.inl h1)
        · by_cases e : m = k
          · subst e; exact .inr (by rw [h2]; simp)
          · exact .inl (.inr ⟨m, by omega, h2, h3⟩)
    · rw [if_neg ho]
      refine ⟨h6, fun i hi => ?_⟩
      rw [hh i hi]
      constructor
      · rintro (h1 | ⟨m, h1, h2⟩)
        · exact .inl h1
        · exact .inr ⟨m, by omega, h2⟩
      · rintro (h1 | ⟨m, h1, h2, h3⟩)
        · exact .inl h1
        · by_cases e : m = k
          · subst e; exact absurd h3 ho
          · exact .inr ⟨m, by omega, h2, h3⟩
theorem atN_high {c : ConfD} {s : StateD} (h : RightP c s) (now t : Int) : ∀ k, k ≤ s.jobs.length → ∀ i, s.nodes.length ≤ i → hasB (atN s now t k) i = false
  | 0, _, i, hi => by
    unfold atN freeS
    rw [hasB_mask _ _ h.len.2, decide_eq_false (by omega), Bool.false_and]
  | k + 1, hk, i, hi => by
    have ih := atN_high h now t k (by omega) i hi
    unfold atN
    split
    · rw [(orI_6 (atN_6 h now t k (by omega)).1 (h.set6 k (by omega))).2, ih, Bool.false_or]
      have hlt : (joA s k).nodes < 2 ^ s.nodes.length := by
        cases hp : placedB (joA s k).phase with
        | false => rw [h.idle k (by omega) hp]; exact Int.pow_pos (by decide)
        | true => exact (h.placed k (by omega) hp).hi
      obtain ⟨m, hm, _⟩ := (h.set6 k (by omega)).nat
      rw [hm] at hlt ⊢
      rw [hasB_nat]
      have : m < 2 ^ s.nodes.length := by
        have : (m : Int) < ((2 ^ s.nodes.length : Nat) : Int) := by simpa using hlt
        omega
      exact Nat.testBit_lt_two_pow (Nat.lt_of_lt_of_le this (Nat.pow_le_pow_right (by decide) hi))
    · exact ih
theorem at_eq {c : ConfD} {s : StateD} (h : RightP c s) (now t : Int) : atN s now t s.jobs.length = atS s now t := by
  obtain ⟨h6, hh⟩ := atN_6 h now t s.jobs.length (Nat.le_refl _)
  refine ext6 h6 (maskTo_6 _ _ h.len.2) (fun i _ => ?_)
  unfold atS
  rw [hasB_mask _ _ h.len.2]
  by_cases hi : i < s.nodes.length
  · rw [decide_eq_true hi, Bool.true_and, Bool.eq_iff_iff, hh i hi]
    unfold thereB
    rw [Bool.or_eq_true]
    have hj := h.job i hi
    constructor
    · rintro (h1 | ⟨m, h1, h2, h3⟩)
      · exact .inl h1
      · refine .inr ?_
        show okE (endS s (noA s i).job now) t = true
        rw [h2, endS_at h1]; exact h3
    · rintro (h1 | h1)
      · exact .inl h1
      · have h1 : okE (endS s (noA s i).job now) t = true := h1
        by_cases h0 : (noA s i).job = 0
        · rw [h0] at h1
          unfold endS at h1
          rw [if_pos (by omega)] at h1
          exact absurd h1 (by simp [okE])
        · obtain ⟨m, hm⟩ : ∃ m : Nat, (noA s i).job = ((m + 1 : Nat) : Int) := ⟨((noA s i).job - 1).toNat, by omega⟩
          have hml : m < s.jobs.length := by omega
          rw [hm, endS_at hml] at h1
          exact .inr ⟨m, hml, hm, h1⟩
  · rw [decide_eq_false hi, Bool.false_and]
    exact atN_high h now t _ (Nat.le_refl _) i (by omega)

def e16 (j : JobD) (now : Int) : Int := if j.phase = 3 then j.til else if j.phase = 2 then j.since + j.work else if j.phase = 1 then now + j.work else -1
def end16 (j : JobD) (now : Int) : Int := if 0 ≤ e16 j now ∧ e16 j now < now then now else e16 j now
theorem end_eq {j : JobD} (h : EndR j) {now : Int} (h0 : 0 ≤ now) : end16 j now = endJ j now := by
  have h1 := h.work
  have h2 := h.since
  have h3 := h.til
  unfold end16 e16 endJ maxI
  by_cases e1 : j.phase = 1
  · simp only [e1]; simp; omega
  · by_cases e2 : j.phase = 2
    · simp only [e2]; simp; split <;> split <;> omega
    · by_cases e3 : j.phase = 3
      · simp only [e3]; simp; split <;> split <;> omega
      · simp only [e1,e2,e3,if_false]; simp
theorem endJ_rng {j : JobD} (h : EndR j) {now : Int} (h0 : 0 ≤ now ∧ now ≤ 1000000) : -1 ≤ endJ j now ∧ endJ j now ≤ 2000000 := by
  have h1 := h.work
  have h2 := h.since
  have h3 := h.til
  unfold endJ maxI
  repeat' split
  all_goals omega
theorem asked_work {c : ConfD} {j : JobD} (h : askedB c j = true) : 0 ≤ j.work ∧ j.work ≤ 1000000 := by
  unfold askedB at h
  simp only [Bool.and_eq_true] at h
  have := within_t h.1.2
  omega
theorem asked_max {c : ConfD} {j : JobD} (h : askedB c j = true) : (1 ≤ j.min ∧ j.min ≤ j.max) ∧ (1 ≤ j.max ∧ j.max ≤ c.nodes) ∧ (0 ≤ j.prio ∧ j.prio ≤ 9) ∧ (0 ≤ j.pin ∧ j.pin ≤ 9) := by
  unfold askedB at h
  simp only [Bool.and_eq_true] at h
  exact ⟨within_t h.1.1.1.2, within_t h.1.1.2, within_t h.1.1.1.1.2, within_t h.2⟩
theorem RightP.endR {c : ConfD} {s : StateD} (h : RightP c s) (k : Nat) (hk : k < s.jobs.length) : EndR (joA s k) :=
  ⟨asked_work (h.num k hk).asked, (h.num k hk).since, (h.num k hk).til⟩
theorem RightP.fits {c : ConfD} {s : StateD} (h : RightP c s) : FitS s :=
  ⟨h.len.2, by have := h.jobs; omega, h.endR, h.set6, fun k hk => by
    have := (asked_max (h.num k hk).asked).2.1
    have := mayB_nodes h.conf
    omega, fun k hk => by
    have := (asked_max (h.num k hk).asked).2.2.1
    show 0 ≤ (joA s k).prio ∧ (joA s k).prio ≤ 1000000
    omega⟩


def addT (l : List Int) (e : Int) : List Int := if e ∈ l then l else l ++ [e]
def tsTo (s : StateD) (now : Int) : Nat → List Int
  | 0 => [now]
  | k + 1 => if 0 ≤ endJ (joA s k) now then addT (tsTo s now k) (endJ (joA s k) now) else tsTo s now k
def timesL (s : StateD) (now : Int) : List Int := (tsTo s now s.jobs.length).mergeSort (fun x y => decide (x ≤ y))
theorem mem_addT {l : List Int} {e x : Int} : x ∈ addT l e ↔ x ∈ l ∨ x = e := by
  unfold addT
  split
  · rename_i h
    exact ⟨.inl, by rintro (h1 | rfl); exact h1; exact h⟩
  · simp
theorem addT_nodup {l : List Int} (h : l.Nodup) (e : Int) : (addT l e).Nodup := by
  unfold addT
  split
  · exact h
  · rename_i hn
    rw [List.nodup_append]
    exact ⟨h, by simp, fun a ha b hb => by rw [List.mem_singleton.1 hb]; rintro rfl; exact hn ha⟩
theorem tsTo_nodup (s : StateD) (now : Int) : ∀ k, (tsTo s now k).Nodup
  | 0 => by simp [tsTo]
  | k + 1 => by
    unfold tsTo
    split
    · exact addT_nodup (tsTo_nodup s now k) _
    · exact tsTo_nodup s now k
theorem mem_tsTo {s : StateD} {now x : Int} : ∀ k, x ∈ tsTo s now k ↔ x = now ∨ ∃ m, m < k ∧ 0 ≤ x ∧ endJ (joA s m) now = x
  | 0 => by simp [tsTo]
  | k + 1 => by
    unfold tsTo
    have ih := mem_tsTo (s := s) (now := now) (x := x) k
    split
    · rename_i h0
      rw [mem_addT, ih]
      constructor
      · rintro ((h | ⟨m, h1, h2⟩) | h)
        · exact .inl h
        · exact .inr ⟨m, by omega, h2⟩
        · exact .inr ⟨k, by omega, by omega, h.symm⟩
      · rintro (h | ⟨m, h1, h2, h3⟩)
        · exact .inl (.inl h)
        · by_cases e : m = k
          · subst e; exact .inr h3.symm
          · exact .inl (.inr ⟨m, by omega, h2, h3⟩)
    · rename_i h0
      rw [ih]
      constructor
      · rintro (h | ⟨m, h1, h2⟩)
        · exact .inl h
        · exact .inr ⟨m, by omega, h2⟩
      · rintro (h | ⟨m, h1, h2, h3⟩)
        · exact .inl h
        · by_cases e : m = k
          · subst e; omega
          · exact .inr ⟨m, by omega, h2, h3⟩
theorem mem_timesL {s : StateD} {now x : Int} : x ∈ timesL s now ↔ x = now ∨ ∃ m, m < s.jobs.length ∧ 0 ≤ x ∧ endJ (joA s m) now = x := by
  unfold timesL
  rw [(List.mergeSort_perm _ _).mem_iff, mem_tsTo]
theorem timesL_sorted (s : StateD) (now : Int) : (timesL s now).Pairwise (· ≤ ·) := by
  have := List.pairwise_mergeSort (le := fun x y : Int => decide (x ≤ y)) (fun a b c h1 h2 => by simp only [decide_eq_true_eq] at *; omega) (fun a b => by simp only [Bool.or_eq_true,decide_eq_true_eq]; omega) (tsTo s now s.jobs.length)
  exact this.imp (fun h => by simpa using h)
theorem tsTo_len (s : StateD) (now : Int) : ∀ k, (tsTo s now k).length ≤ k + 1
  | 0 => by simp [tsTo]
  | k + 1 => by
    have := tsTo_len s now k
    unfold tsTo addT
    split
    · split <;> simp <;> omega
    · omega
theorem timesL_len (s : StateD) (now : Int) : (timesL s now).length ≤ s.jobs.length + 1 := by
  unfold timesL
  rw [List.length_mergeSort]
  exact tsTo_len s now _
end Dv

namespace Dv
open Go

def jobQ (s : StateD) (job : Int) : JobD := s.jobs.getD (job - 1).toNat zeroJob
def nowS (s : StateD) (job : Int) : Int × Bool := if queuedI s job = true then pickS s (jobQ s job) (freeS s) else (0, false)
def nowR (s : StateD) (job : Int) : Int × Bool := if queuedI s job = true then pickR s (jobQ s job) (freeS s) else (0, false)
def firstS (s : StateD) (j : JobD) (now : Int) : List Int → Int × Int × Bool
  | [] => (0, 0, false)
  | t :: l => if (pickS s j (atN s now t s.jobs.length)).2 = true then (t, (pickS s j (atN s now t s.jobs.length)).1, true) else firstS s j now l
def resS (s : StateD) (job now : Int) : Int × Int × Bool := if queuedI s job = true then firstS s (jobQ s job) now (timesL s now) else (0, 0, false)
def timeK (s : StateD) (now : Int) (k : Nat) : Int := if 0 < k then endS s k now else now
def resStep (s : StateD) (j : JobD) (now : Int) (p : Int × Int × Bool) (k : Nat) : Int × Int × Bool :=
  if timeK s now k < 0 ∨ (p.2.2 = true ∧ p.1 ≤ timeK s now k) then p
  else if (pickR s j (atS s now (timeK s now k))).2 = true then (timeK s now k, (pickR s j (atS s now (timeK s now k))).1, true) else p
def resTo (s : StateD) (j : JobD) (now : Int) (k : Nat) : Int × Int × Bool := (List.range k).foldl (resStep s j now) (0, 0, false)
def resR (s : StateD) (job now : Int) : Int × Int × Bool := if queuedI s job = true then resTo s (jobQ s job) now (s.jobs.length + 1) else (0, 0, false)
theorem resTo_succ (s : StateD) (j : JobD) (now : Int) (k : Nat) : resTo s j now (k + 1) = resStep s j now (resTo s j now k) k := by
  unfold resTo
  rw [List.range_succ, List.foldl_append]
  rfl
def headI (s : StateD) : Int := (((lineN s).getD 0 0 + 1 : Nat) : Int)
def fillS (s : StateD) (job now : Int) : Int × Bool :=
  if queuedI s job = false ∨ headI s = job then (0, false)
  else if (pickS s (jobQ s job) (andNotI .i64 (freeS s) (resS s (headI s) now).2.1)).2 = true then ((pickS s (jobQ s job) (andNotI .i64 (freeS s) (resS s (headI s) now).2.1)).1, true)
  else if (resS s (headI s) now).2.2 = false ∨ (nowS s job).2 = false ∨ (resS s (headI s) now).1 < now + (jobQ s job).work then (0, false) else ((nowS s job).1, true)
def keptB (s : StateD) (r : Int × Int × Bool) (i : Nat) : Bool := freeB (s.nodes.getD i zeroNode) && !(r.2.2 && hasB r.2.1 i)
def restR (s : StateD) (r : Int × Int × Bool) : Int := maskTo (keptB s r) s.nodes.length
def fillR (s : StateD) (job now : Int) : Int × Bool :=
  if placeI s job < 1 then (0, false)
  else if (pickR s (jobQ s job) (restR s (resR s (headI s) now))).2 = true then ((pickR s (jobQ s job) (restR s (resR s (headI s) now))).1, true)
  else if ((resR s (headI s) now).2.2 = true ∧ (nowR s job).2 = true) ∧ now + (jobQ s job).work ≤ (resR s (headI s) now).1 then ((nowR s job).1, true) else (0, false)
def nextGo (now0 fill : Int → Int × Bool) : List Nat → Nat → Int × Int × Bool
  | [], _ => (0, 0, false)
  | k :: l, 0 => if (now0 ((k + 1 : Nat) : Int)).2 = true then (((k + 1 : Nat) : Int), (now0 ((k + 1 : Nat) : Int)).1, true) else nextGo now0 fill l 1
  | k :: l, i + 1 => if (fill ((k + 1 : Nat) : Int)).2 = true then (((k + 1 : Nat) : Int), (fill ((k + 1 : Nat) : Int)).1, true) else nextGo now0 fill l (i + 2)
def anextS (s : StateD) (now : Int) : Int × Int × Bool := nextGo (nowS s) (fun k => fillS s k now) (lineN s) 0
def nextR (s : StateD) (now : Int) : Int × Int × Bool := nextGo (nowR s) (fun k => fillR s k now) (lineN s) 0


theorem queuedI_iff {s : StateD} {job : Int} : queuedI s job = true ↔ ∃ i : Nat, job = ((i + 1 : Nat) : Int) ∧ i ∈ queued s := by
  unfold queuedI
  rw [decide_eq_true_eq]
  constructor
  · rintro ⟨h1, h2, h3⟩
    refine ⟨(job - 1).toNat, by omega, mem_queued.2 ⟨by omega, ?_⟩⟩
    unfold qB; rw [decide_eq_true_eq]; exact h3
  · rintro ⟨i, rfl, hi⟩
    obtain ⟨h1, h2⟩ := mem_queued.1 hi
    refine ⟨by omega, by omega, ?_⟩
    rw [show (((i + 1 : Nat) : Int) - 1).toNat = i by omega]
    unfold qB at h2; exact of_decide_eq_true h2
theorem jobQ_at (s : StateD) (i : Nat) : jobQ s ((i + 1 : Nat) : Int) = joA s i := by
  unfold jobQ joA
  rw [show (((i + 1 : Nat) : Int) - 1).toNat = i by omega]
theorem pick_same {c : ConfD} {s : StateD} (h : RightP c s) {job : Int} (hq : queuedI s job = true) (set : Int) : pickS s (jobQ s job) set = pickR s (jobQ s job) set := by
  obtain ⟨i, rfl, hi⟩ := queuedI_iff.1 hq
  have hlt := (mem_queued.1 hi).1
  rw [jobQ_at]
  obtain ⟨h1, h2, h3, h4⟩ := asked_max (h.num i hlt).asked
  have := mayB_nodes h.conf
  have hg := h.goal
  have hp := h.prior
  refine pick_eq s _ set h.len.2 h1.1 ⟨h2.1, by omega⟩ h4.1 ?_
  unfold meant
  split
  · exact hp
  · exact hg
def Least (T : Int → Prop) (g : Int → Int × Bool) (r : Int × Int × Bool) : Prop :=
  (∃ t, T t ∧ (g t).2 = true ∧ r = (t, (g t).1, true) ∧ ∀ u, T u → (g u).2 = true → t ≤ u) ∨ (r = (0, 0, false) ∧ ∀ u, T u → (g u).2 = false)
theorem least_unique {T : Int → Prop} {g : Int → Int × Bool} {a b : Int × Int × Bool} (ha : Least T g a) (hb : Least T g b) : a = b := by
  rcases ha with ⟨t, h1, h2, rfl, h3⟩ | ⟨rfl, h3⟩
  · rcases hb with ⟨u, k1, k2, rfl, k3⟩ | ⟨rfl, k3⟩
    · have := h3 u k1 k2
      have := k3 t h1 h2
      obtain rfl : t = u := by omega
      rfl
    · rw [k3 t h1] at h2; cases h2
  · rcases hb with ⟨u, k1, k2, rfl, k3⟩ | ⟨rfl, k3⟩
    · rw [h3 u k1] at k2; cases k2
    · rfl
theorem first_least (s : StateD) (j : JobD) (now : Int) : ∀ l : List Int, l.Pairwise (· ≤ ·) → Least (· ∈ l) (fun t => pickS s j (atN s now t s.jobs.length)) (firstS s j now l)
  | [], _ => .inr ⟨rfl, fun u hu => by cases hu⟩
  | t :: l, hp => by
    have ih := first_least s j now l (List.pairwise_cons.1 hp).2
    have ht := (List.pairwise_cons.1 hp).1
    unfold firstS
    by_cases h : (pickS s j (atN s now t s.jobs.length)).2 = true
    · rw [if_pos h]
      refine .inl ⟨t, List.mem_cons_self, h, rfl, fun u hu _ => ?_⟩
      rcases List.mem_cons.1 hu with rfl | hu
      · omega
      · exact ht u hu
    · rw [if_neg h]
      have h := (Bool.not_eq_true _).mp h
      rcases ih with ⟨u, h1, h2, h3, h4⟩ | ⟨h1, h2⟩
      · refine .inl ⟨u, List.mem_cons_of_mem _ h1, h2, h3, fun v hv hg => ?_⟩
        rcases List.mem_cons.1 hv with rfl | hv
        · dsimp only at hg; rw [h] at hg; cases hg
        · exact h4 v hv hg
      · refine .inr ⟨h1, fun v hv => ?_⟩
        rcases List.mem_cons.1 hv with rfl | hv
        · exact h
        · exact h2 v hv
theorem least_iff {T U : Int → Prop} {g f : Int → Int × Bool} {r : Int × Int × Bool} (h : ∀ t, T t ↔ U t) (he : ∀ t, g t = f t) (hr : Least T g r) : Least U f r := by
  have e : g = f := funext he
  subst e
  rcases hr with ⟨t, h1, h2, h3, h4⟩ | ⟨h1, h2⟩
  · exact .inl ⟨t, (h t).1 h1, h2, h3, fun u hu hg => h4 u ((h u).2 hu) hg⟩
  · exact .inr ⟨h1, fun u hu => h2 u ((h u).2 hu)⟩
theorem res_least (s : StateD) (j : JobD) (now : Int) : ∀ k, Least (fun t => ∃ m, m < k ∧ 0 ≤ t ∧ timeK s now m = t) (fun t => pickR s j (atS s now t)) (resTo s j now k)
  | 0 => .inr ⟨rfl, fun u ⟨m, hm, _⟩ => by omega⟩
  | k + 1 => by
    have ih := res_least s j now k
    rw [resTo_succ]
    generalize resTo s j now k = p at ih
    unfold resStep
    generalize ht : timeK s now k = t
    by_cases h0 : t < 0
    · rw [if_pos (.inl h0)]
      refine least_iff (fun u => ⟨fun ⟨m, h1, h2⟩ => ⟨m, by omega, h2⟩, fun ⟨m, h1, h2, h3⟩ => ?_⟩) (fun _ => rfl) ih
      by_cases e : m = k
      · subst e; omega
      · exact ⟨m, by omega, h2, h3⟩
    have hmem : ∀ u, (∃ m, m < k + 1 ∧ 0 ≤ u ∧ timeK s now m = u) ↔ (∃ m, m < k ∧ 0 ≤ u ∧ timeK s now m = u) ∨ u = t := fun u => by
      constructor
      · rintro ⟨m, h1, h2, h3⟩
        by_cases e : m = k
        · subst e; exact .inr (by omega)
        · exact .inl ⟨m, by omega, h2, h3⟩
      · rintro (⟨m, h1, h2⟩ | rfl)
        · exact ⟨m, by omega, h2⟩
        · exact ⟨k, by omega, by omega, ht⟩
    refine least_iff (fun u => (hmem u).symm) (fun _ => rfl) ?_
    rcases ih with ⟨b, h1, h2, rfl, h4⟩ | ⟨rfl, h2⟩
    · by_cases hb : b ≤ t
      · rw [if_pos (.inr ⟨rfl, hb⟩)]
        refine .inl ⟨b, .inl h1, h2, rfl, fun u hu hg => ?_⟩
        rcases hu with hu | rfl
        · exact h4 u hu hg
        · exact hb
      · rw [if_neg (by rintro (h | ⟨_, h⟩); exact h0 h; exact hb h)]
        by_cases hg : (pickR s j (atS s now t)).2 = true
        · rw [if_pos hg]
          refine .inl ⟨t, .inr rfl, hg, rfl, fun u hu hg2 => ?_⟩
          rcases hu with hu | rfl
          · have := h4 u hu hg2; omega
          · omega
        · rw [if_neg hg]
          refine .inl ⟨b, .inl h1, h2, rfl, fun u hu hg2 => ?_⟩
          rcases hu with hu | rfl
          · exact h4 u hu hg2
          · exact absurd hg2 hg
    · rw [if_neg (by rintro (h | ⟨h, _⟩); exact h0 h; cases h)]
      by_cases hg : (pickR s j (atS s now t)).2 = true
      · rw [if_pos hg]
        refine .inl ⟨t, .inr rfl, hg, rfl, fun u hu hg2 => ?_⟩
        rcases hu with hu | rfl
        · have := h2 u hu; dsimp only at this hg2; rw [this] at hg2; cases hg2
        · omega
      · rw [if_neg hg]
        refine .inr ⟨rfl, fun u hu => ?_⟩
        rcases hu with hu | rfl
        · exact h2 u hu
        · exact (Bool.not_eq_true _).mp hg
theorem times_iff {s : StateD} {now : Int} (h0 : 0 ≤ now) (t : Int) : (∃ m, m < s.jobs.length + 1 ∧ 0 ≤ t ∧ timeK s now m = t) ↔ t ∈ timesL s now := by
  rw [mem_timesL]
  constructor
  · rintro ⟨m, h1, h2, h3⟩
    cases m with
    | zero => exact .inl h3.symm
    | succ m =>
      refine .inr ⟨m, by omega, h2, ?_⟩
      unfold timeK at h3
      rw [if_pos (by omega), endS_at (by omega)] at h3
      exact h3
  · rintro (rfl | ⟨m, h1, h2, h3⟩)
    · exact ⟨0, by omega, h0, rfl⟩
    · refine ⟨m + 1, by omega, h2, ?_⟩
      unfold timeK
      rw [if_pos (by omega), endS_at h1]
      exact h3
theorem res_same {c : ConfD} {s : StateD} (h : RightP c s) (job : Int) {now : Int} (h0 : 0 ≤ now) : resS s job now = resR s job now := by
  unfold resS resR
  by_cases hq : queuedI s job = true
  · rw [if_pos hq, if_pos hq]
    have h1 := first_least s (jobQ s job) now (timesL s now) (timesL_sorted s now)
    have h2 := res_least s (jobQ s job) now (s.jobs.length + 1)
    refine least_unique h1 (least_iff (times_iff h0) (fun t => ?_) h2)
    rw [at_eq h, pick_same h hq]
  · rw [if_neg hq, if_neg hq]
theorem now_same {c : ConfD} {s : StateD} (h : RightP c s) (job : Int) : nowS s job = nowR s job := by
  unfold nowS nowR
  by_cases hq : queuedI s job = true
  · rw [if_pos hq, if_pos hq, pick_same h hq]
  · rw [if_neg hq, if_neg hq]
theorem place_head {s : StateD} {i : Nat} (hi : i ∈ queued s) : headI s = ((i + 1 : Nat) : Int) ↔ placeN s i = 0 := by
  rw [line_head hi]
  unfold headI
  have hne : lineN s ≠ [] := fun h => by
    have := mem_line.2 (mem_queued.1 hi)
    rw [h] at this; cases this
  cases hl : lineN s with
  | nil => exact absurd hl hne
  | cons k l =>
    simp only [List.getD_cons_zero,List.getElem?_cons_zero,Option.some.injEq]
    omega
theorem place_iff (s : StateD) (job : Int) : placeI s job < 1 ↔ (queuedI s job = false ∨ headI s = job) := by
  cases hq : queuedI s job with
  | false =>
    have : placeI s job = -1 := by
      unfold placeI
      rw [if_pos]
      unfold queuedI at hq
      have := of_decide_eq_false hq
      by_cases h1 : job < 1
      · exact .inl h1
      · by_cases h2 : (s.jobs.length : Int) < job
        · exact .inr (.inl h2)
        · exact .inr (.inr fun h => this ⟨by omega, by omega, h⟩)
    rw [this]; simp
  | true =>
    obtain ⟨i, rfl, hi⟩ := queuedI_iff.1 hq
    rw [place_head hi]
    unfold placeI
    have h2 := mem_queued.1 hi
    rw [show (((i + 1 : Nat) : Int) - 1).toNat = i by omega, if_neg (by
      rintro (h | h | h)
      · omega
      · omega
      · unfold qB at h2; exact h (of_decide_eq_true h2.2))]
    constructor
    · intro h; exact .inr (by omega)
    · rintro (h | h)
      · cases h
      · omega
theorem pick_6 {s : StateD} {j : JobD} (set : Int) (hn : s.nodes.length ≤ 6) (hm : 0 ≤ j.max ∧ j.max ≤ 6) (hb : Set6 (bestP s j set).1) : pickS s j set = (lowR (bestP s j set).1 j.max 6, (pickS s j set).2) := by
  unfold pickS
  rw [low_eq' hb hm]
theorem free_6 {s : StateD} (h : s.nodes.length ≤ 6) : Set6 (freeS s) := maskTo_6 _ _ h
theorem rest_same {s : StateD} (h : s.nodes.length ≤ 6) {r : Int × Int × Bool} (h6 : Set6 r.2.1) (h0 : r.2.2 = false → r.2.1 = 0) : andNotI .i64 (freeS s) r.2.1 = restR s r := by
  obtain ⟨g6, gh⟩ := andNotI_6 (free_6 h) h6
  refine ext6 g6 (maskTo_6 _ _ h) (fun i hi => ?_)
  rw [gh i hi]
  unfold restR freeS
  rw [hasB_mask _ _ h, hasB_mask _ _ h]
  unfold keptB
  cases hr : r.2.2 with
  | true => rw [Bool.true_and, Bool.and_assoc]
  | false => rw [h0 hr, has_zero, Bool.false_and, Bool.not_false, Bool.and_true, Bool.and_true]
theorem first_zero (s : StateD) (j : JobD) (now : Int) : ∀ l : List Int, (firstS s j now l).2.2 = false → (firstS s j now l).2.1 = 0
  | [], _ => rfl
  | t :: l, h => by
    unfold firstS at h ⊢
    split at h
    · cases h
    · rename_i hb
      rw [if_neg hb]
      exact first_zero s j now l h
theorem first_6 (s : StateD) (j : JobD) (now : Int) (hp : ∀ set, Set6 (pickS s j set).1) : ∀ l : List Int, Set6 (firstS s j now l).2.1
  | [] => (⟨by decide, by decide⟩ : Set6 0)
  | t :: l => by
    unfold firstS
    split
    · exact hp _
    · exact first_6 s j now hp l
theorem res_zero (s : StateD) (job now : Int) : (resS s job now).2.2 = false → (resS s job now).2.1 = 0 := by
  unfold resS
  split
  · exact first_zero _ _ _ _
  · exact fun _ => rfl
theorem res_6 (s : StateD) (job now : Int) (hp : ∀ j, j ∈ s.jobs → ∀ set, Set6 (pickS s j set).1) : Set6 (resS s job now).2.1 := by
  unfold resS
  split
  · rename_i hq
    obtain ⟨i, rfl, hi⟩ := queuedI_iff.1 hq
    have hlt := (mem_queued.1 hi).1
    refine first_6 _ _ _ (hp _ ?_) _
    rw [jobQ_at]
    unfold joA
    have e : s.jobs.getD i zeroJob = s.jobs[i] := by simp [List.getD,hlt]
    rw [e]
    exact List.getElem_mem hlt
  · exact ⟨by decide, by decide⟩
theorem stepP_s (mx : Int) : ∀ (l : List Int) (p : Int × Int), Set6 p.1 → (∀ n ∈ l, Set6 n) → Set6 (l.foldl (stepP mx) p).1
  | [], p, h, _ => h
  | n :: l, p, h, hl => stepP_s mx l _ (by
      unfold stepP
      split
      · exact hl n List.mem_cons_self
      · exact h) (fun m hm => hl m (List.mem_cons_of_mem _ hm))
theorem lowR_s (of mx : Int) : ∀ k : Nat, k ≤ 6 → 0 ≤ lowR of mx k ∧ lowR of mx k < 2 ^ k
  | 0, _ => (by decide : (0 : Int) ≤ 0 ∧ (0 : Int) < 2 ^ 0)
  | k + 1, hk => by
    have ih := lowR_s of mx k (by omega)
    have h2 : (2 : Int) ^ (k + 1) = 2 ^ k * 2 := Int.pow_succ 2 k
    have : (0 : Int) < 2 ^ k := Int.pow_pos (by decide)
    unfold lowR
    split <;> omega
theorem pickS_6 {s : StateD} (h : FitS s) {j : JobD} (hj : 0 ≤ j.max ∧ j.max ≤ 6) (set : Int) : Set6 (pickS s j set).1 := by
  have hb : Set6 (bestP s j set).1 := stepP_s _ _ _ ⟨by decide, by decide⟩ (fun n hn => by
    unfold chs at hn
    obtain ⟨v, _, rfl⟩ := List.mem_map.1 hn
    exact ready_6 s set v h.nodes)
  rw [pick_6 set h.nodes hj hb]
  have := lowR_s (bestP s j set).1 j.max 6 (Nat.le_refl _)
  exact ⟨this.1, this.2⟩
theorem FitS.mem {s : StateD} (h : FitS s) {j : JobD} (hj : j ∈ s.jobs) : 0 ≤ j.max ∧ j.max ≤ 6 := by
  obtain ⟨k, hk, rfl⟩ := List.getElem_of_mem hj
  have := h.most k hk
  unfold joA at this
  rw [show s.jobs.getD k zeroJob = s.jobs[k] by simp [List.getD,hk]] at this
  exact this
theorem FitS.res_6 {s : StateD} (h : FitS s) (job now : Int) : Set6 (resS s job now).2.1 := Dv.res_6 s job now (fun j hj set => pickS_6 h (h.mem hj) set)
theorem atN_s {s : StateD} (h : FitS s) (now t : Int) : ∀ k, k ≤ s.jobs.length → Set6 (atN s now t k)
  | 0, _ => free_6 h.nodes
  | k + 1, hk => by
    have ih := atN_s h now t k (by omega)
    unfold atN
    split
    · exact (orI_6 ih (h.sets k (by omega))).1
    · exact ih
theorem fill_same {c : ConfD} {s : StateD} (h : RightP c s) (job : Int) {now : Int} (h0 : 0 ≤ now) : fillS s job now = fillR s job now := by
  unfold fillS fillR
  rw [rest_same h.len.2 (h.fits.res_6 _ _) (res_zero _ _ _), res_same h _ h0, now_same h]
  by_cases hp : placeI s job < 1
  · rw [if_pos hp, if_pos ((place_iff s job).1 hp)]
  · rw [if_neg hp, if_neg (fun h => hp ((place_iff s job).2 h))]
    have hq : queuedI s job = true := by
      cases hq : queuedI s job with
      | true => rfl
      | false => exact absurd ((place_iff s job).2 (.inl hq)) hp
    rw [pick_same h hq]
    by_cases h1 : (pickR s (jobQ s job) (restR s (resR s (headI s) now))).2 = true
    · rw [if_pos h1, if_pos h1]
    · rw [if_neg h1, if_neg h1]
      cases h2 : (resR s (headI s) now).2.2 with
      | false => rw [if_pos (.inl rfl), if_neg (by rintro ⟨⟨h, _⟩, _⟩; cases h)]
      | true =>
        cases h3 : (nowR s job).2 with
        | false => rw [if_pos (.inr (.inl rfl)), if_neg (by rintro ⟨⟨_, h⟩, _⟩; cases h)]
        | true =>
          by_cases h4 : (resR s (headI s) now).1 < now + (jobQ s job).work
          · rw [if_pos (.inr (.inr h4)), if_neg (by rintro ⟨_, h⟩; omega)]
          · rw [if_neg (by rintro (h | h | h); cases h; cases h; exact h4 h), if_pos ⟨⟨rfl, rfl⟩, by omega⟩]
theorem next_same {c : ConfD} {s : StateD} (h : RightP c s) {now : Int} (h0 : 0 ≤ now) : anextS s now = nextR s now := by
  unfold anextS nextR
  rw [show nowS s = nowR s from funext (now_same h), show (fun k => fillS s k now) = (fun k => fillR s k now) from funext (fun k => fill_same h k h0)]
end Dv
