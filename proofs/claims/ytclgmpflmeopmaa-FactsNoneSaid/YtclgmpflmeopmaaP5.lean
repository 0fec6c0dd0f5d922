/- What a state that may be is, in so many words; both answers to the question come to that. -/
import Derived.Test.YtclgmpflmeopmaaP4
set_option linter.unusedVariables false
set_option linter.unusedSimpArgs false
namespace Dv

def noA (s : StateD) (i : Nat) : NodeD := s.nodes.getD i zeroNode
def joA (s : StateD) (k : Nat) : JobD := s.jobs.getD k zeroJob

/-- a job's own numbers -/
structure JobNum (c : ConfD) (j : JobD) : Prop where
  asked : askedB c j = true
  phase : 0 ≤ j.phase ∧ j.phase ≤ 4
  inc : 0 ≤ j.inc ∧ j.inc ≤ 1000000
  since : 0 ≤ j.since ∧ j.since ≤ 1000000
  til : 0 ≤ j.til ∧ j.til ≤ 1000000
  epoch : 0 ≤ j.epoch ∧ j.epoch ≤ j.inc
/-- a job's nodes, while it has some -/
structure Placed (ns : List NodeD) (j : JobD) : Prop where
  lo : 0 ≤ j.nodes
  hi : j.nodes < 2 ^ ns.length
  many : j.min ≤ many j.nodes ∧ many j.nodes ≤ j.max
  ver : ∃ u, (j.pin = 0 ∨ u = j.pin) ∧ ∀ i, i < ns.length → hasB j.nodes i = true → (ns.getD i zeroNode).version = u
structure RightP (c : ConfD) (s : StateD) : Prop where
  conf : mayB c = true
  nodes : (s.nodes.length : Int) = c.nodes
  jobs : s.jobs.length ≤ 24
  goal : 1 ≤ s.goal ∧ s.goal ≤ 9
  prior : 1 ≤ s.prior ∧ s.prior ≤ 9
  mode : 0 ≤ s.mode ∧ s.mode ≤ 2
  term : 0 ≤ s.term ∧ s.term ≤ 1000000
  num : ∀ k, k < s.jobs.length → JobNum c (joA s k)
  placed : ∀ k, k < s.jobs.length → placedB (joA s k).phase = true → Placed s.nodes (joA s k)
  idle : ∀ k, k < s.jobs.length → placedB (joA s k).phase = false → (joA s k).nodes = 0
  ver : ∀ i, i < s.nodes.length → 1 ≤ (noA s i).version ∧ (noA s i).version ≤ 9
  job : ∀ i, i < s.nodes.length → 0 ≤ (noA s i).job ∧ (noA s i).job ≤ s.jobs.length
  moving : ∀ i, i < s.nodes.length → (noA s i).moving = true → (noA s i).up = true ∧ (noA s i).cordon = true ∧ (noA s i).job = 0
  up : ∀ i, i < s.nodes.length → (noA s i).job ≠ 0 → (noA s i).up = true
  link : ∀ i k, i < s.nodes.length → k < s.jobs.length → (hasB (joA s k).nodes i = true ↔ (noA s i).job = k + 1)
  quota : ∀ q : Nat, (q : Int) < c.queues → drainsL s.jobs q ≤ c.quota

theorem mayB_nodes {c : ConfD} (h : mayB c = true) : 1 ≤ c.nodes ∧ c.nodes ≤ 6 := by
  unfold mayB at h
  simp only [Bool.and_eq_true] at h
  exact within_t h.1.1.1.1.1.1.1.1
theorem RightP.len {c : ConfD} {s : StateD} (h : RightP c s) : 1 ≤ s.nodes.length ∧ s.nodes.length ≤ 6 := by
  have := mayB_nodes h.conf
  have := h.nodes
  omega

theorem has_zero (i : Nat) : hasB 0 i = false := by simp [hasB]

theorem fitsLoop_iff (m : Int) (takes : NodeD → Bool) : ∀ (l : List NodeD) (i : Nat) (v : Int), (∀ k, k < l.length → 1 ≤ (l.getD k zeroNode).version) →
    (fitsLoop m takes l i v = true ↔ ∃ u, (v = 0 ∨ u = v) ∧ ∀ k, k < l.length → hasB m (i + k) = true → takes (l.getD k zeroNode) = true ∧ (l.getD k zeroNode).version = u)
  | [], i, v, _ => by
    simp only [fitsLoop, List.length_nil, true_iff]
    exact ⟨v, .inr rfl, fun k hk => by omega⟩
  | n :: l, i, v, hv => by
    have h0 : 1 ≤ n.version := by simpa using hv 0 (by simp)
    have ih := fun v => fitsLoop_iff m takes l (i + 1) v (fun k hk => by simpa using hv (k + 1) (by simpa using hk))
    have shift : ∀ u, (∀ k, k < (n :: l).length → hasB m (i + k) = true → takes ((n :: l).getD k zeroNode) = true ∧ ((n :: l).getD k zeroNode).version = u) ↔
        (hasB m i = true → takes n = true ∧ n.version = u) ∧ ∀ k, k < l.length → hasB m (i + 1 + k) = true → takes (l.getD k zeroNode) = true ∧ (l.getD k zeroNode).version = u := by
      intro u
      refine ⟨fun h => ⟨fun h1 => by simpa using h 0 (by simp) h1, fun k hk h1 => ?_⟩, fun h k hk h1 => ?_⟩
      · have := h (k + 1) (by simpa using hk) (by rw [← h1]; congr 1; omega)
        simpa using this
      · cases k with
        | zero => simpa using h.1 h1
        | succ k =>
          have := h.2 k (by simpa using hk) (by rw [← h1]; congr 1; omega)
          simpa using this
    unfold fitsLoop
    by_cases hb : hasB m i = false
    · rw [if_pos hb, ih v]
      refine exists_congr fun u => and_congr_right fun _ => ?_
      rw [shift u]
      simp [hb]
    · rw [if_neg hb]
      have hb' : hasB m i = true := by simpa using hb
      by_cases ht : takes n = true
      · by_cases hq : n.version = (if v = 0 then n.version else v)
        · rw [if_pos ⟨ht, hq⟩, ih, ← hq]
          constructor
          · rintro ⟨u, h1, h2⟩
            have hu : u = n.version := by omega
            refine ⟨u, ?_, (shift u).2 ⟨fun _ => ⟨ht, hu.symm⟩, h2⟩⟩
            by_cases h3 : v = 0
            · exact .inl h3
            · rw [if_neg h3] at hq; exact .inr (by omega)
          · rintro ⟨u, h1, h2⟩
            obtain ⟨h3, h4⟩ := (shift u).1 h2
            exact ⟨u, .inr (h3 hb').2.symm, h4⟩
        · rw [if_neg (fun h => hq h.2)]
          refine ⟨fun h => (by cases h), ?_⟩
          rintro ⟨u, h1, h2⟩
          have h3 := ((shift u).1 h2).1 hb'
          refine absurd ?_ hq
          by_cases h4 : v = 0
          · rw [if_pos h4]
          · rw [if_neg h4]; omega
      · rw [if_neg (fun h => ht h.1)]
        refine ⟨fun h => (by cases h), ?_⟩
        rintro ⟨u, h1, h2⟩
        exact absurd (((shift u).1 h2).1 hb').1 ht

/-- fits, of nodes whose versions are right -/
theorem fitsB_iff (ns : List NodeD) (j : JobD) (m : Int) (takes : NodeD → Bool) (hv : ∀ k, k < ns.length → 1 ≤ (ns.getD k zeroNode).version) :
    fitsB ns j m takes = true ↔ (0 ≤ m ∧ m < 2 ^ ns.length) ∧ (j.min ≤ many m ∧ many m ≤ j.max) ∧ ∃ u, (j.pin = 0 ∨ u = j.pin) ∧ ∀ k, k < ns.length → hasB m k = true → takes (ns.getD k zeroNode) = true ∧ (ns.getD k zeroNode).version = u := by
  unfold fitsB
  by_cases h1 : m < 0 ∨ 2 ^ ns.length ≤ m
  · rw [if_pos h1]
    refine ⟨fun h => (by cases h), fun h => ?_⟩
    omega
  · rw [if_neg h1]
    by_cases h2 : withinB (many m) j.min j.max = true
    · rw [if_pos h2, fitsLoop_iff m takes ns 0 j.pin hv]
      have h3 := within_t h2
      simp only [Nat.zero_add]
      exact ⟨fun h => ⟨by omega, h3, h⟩, fun h => h.2.2⟩
    · rw [if_neg h2]
      refine ⟨fun h => (by cases h), fun h => absurd ?_ h2⟩
      exact decide_eq_true h.2.1

theorem standsB_iff (c : ConfD) (s : StateD) (j : JobD) (number : Int) (hv : ∀ k, k < s.nodes.length → 1 ≤ (s.nodes.getD k zeroNode).version) :
    standsB c s j number = true ↔ JobNum c j ∧ (placedB j.phase = true → Placed s.nodes j ∧ ∀ i, i < s.nodes.length → hasB j.nodes i = true → takes1 number (noA s i) = true) ∧ (placedB j.phase = false → j.nodes = 0) := by
  unfold standsB
  simp only [Bool.and_eq_true]
  have key : (if placedB j.phase = true then fitsB s.nodes j j.nodes (takes1 number) else decide (j.nodes = 0)) = true ↔ (placedB j.phase = true → Placed s.nodes j ∧ ∀ i, i < s.nodes.length → hasB j.nodes i = true → takes1 number (noA s i) = true) ∧ (placedB j.phase = false → j.nodes = 0) := by
    cases hp : placedB j.phase with
    | true =>
      rw [if_pos rfl, fitsB_iff _ _ _ _ hv]
      constructor
      · rintro ⟨⟨a, b⟩, e, u, f, g⟩
        exact ⟨fun _ => ⟨⟨a, b, e, u, f, fun i hi h => (g i hi h).2⟩, fun i hi h => (g i hi h).1⟩, fun h => by cases h⟩
      · rintro ⟨h, _⟩
        obtain ⟨⟨a, b, e, u, f, g⟩, h⟩ := h rfl
        exact ⟨⟨a, b⟩, e, u, f, fun i hi hb => ⟨h i hi hb, g i hi hb⟩⟩
    | false => simp
  rw [key]
  constructor
  · rintro ⟨⟨⟨⟨⟨⟨a, b⟩, d⟩, e⟩, f⟩, g⟩, h⟩
    exact ⟨⟨a, within_t b, within_t d, within_t e, within_t f, within_t g⟩, h⟩
  · rintro ⟨⟨a, b, d, e, f, g⟩, h⟩
    exact ⟨⟨⟨⟨⟨⟨a, decide_eq_true b⟩, decide_eq_true d⟩, decide_eq_true e⟩, decide_eq_true f⟩, decide_eq_true g⟩, h⟩

theorem standsFrom_iff (c : ConfD) (s : StateD) : ∀ (l : List JobD) (k : Nat), standsFrom c s l k = true ↔ ∀ i, i < l.length → standsB c s (l.getD i zeroJob) ((k + i : Nat) + 1) = true
  | [], k => by simp [standsFrom]
  | j :: l, k => by
    unfold standsFrom
    rw [Bool.and_eq_true, standsFrom_iff c s l (k + 1)]
    constructor
    · rintro ⟨h1, h2⟩ i hi
      cases i with
      | zero => simpa using h1
      | succ i =>
        have := h2 i (by simpa using hi)
        rw [show k + (i + 1) = k + 1 + i by omega]
        simpa using this
    · intro h
      refine ⟨by simpa using h 0 (by simp), fun i hi => ?_⟩
      have := h (i + 1) (by simpa using hi)
      rw [show k + 1 + i = k + (i + 1) by omega]
      simpa using this
theorem soundFrom_iff (s : StateD) : ∀ (l : List NodeD) (k : Nat), soundFrom s l k = true ↔ ∀ i, i < l.length → soundB s (l.getD i zeroNode) (k + i) = true
  | [], k => by simp [soundFrom]
  | j :: l, k => by
    unfold soundFrom
    rw [Bool.and_eq_true, soundFrom_iff s l (k + 1)]
    constructor
    · rintro ⟨h1, h2⟩ i hi
      cases i with
      | zero => simpa using h1
      | succ i =>
        have := h2 i (by simpa using hi)
        rw [show k + (i + 1) = k + 1 + i by omega]
        simpa using this
    · intro h
      refine ⟨by simpa using h 0 (by simp), fun i hi => ?_⟩
      have := h (i + 1) (by simpa using hi)
      rw [show k + 1 + i = k + (i + 1) by omega]
      simpa using this
theorem quotaFrom_iff (c : ConfD) (s : StateD) : ∀ (n q : Nat), quotaFrom c s q n = true ↔ ∀ i, i < n → drainsL s.jobs ((q + i : Nat) : Int) ≤ c.quota
  | 0, q => by simp [quotaFrom]
  | n + 1, q => by
    unfold quotaFrom
    rw [Bool.and_eq_true, quotaFrom_iff c s n (q + 1), Bool.not_eq_true', decide_eq_false_iff_not]
    constructor
    · rintro ⟨h1, h2⟩ i hi
      cases i with
      | zero => simpa using h1
      | succ i =>
        have := h2 i (by omega)
        rw [show q + (i + 1) = q + 1 + i by omega]
        exact this
    · intro h
      refine ⟨by have := h 0 (by omega); simpa using this, fun i hi => ?_⟩
      have := h (i + 1) (by omega)
      rw [show q + 1 + i = q + (i + 1) by omega]
      exact this
theorem soundB_iff (s : StateD) (n : NodeD) (i : Nat) : soundB s n i = true ↔ (1 ≤ n.version ∧ n.version ≤ 9) ∧ (0 ≤ n.job ∧ n.job ≤ s.jobs.length) ∧ (n.moving = true → n.up = true ∧ n.cordon = true ∧ n.job = 0) ∧ (n.job ≠ 0 → hasB (s.jobs.getD (n.job - 1).toNat zeroJob).nodes i = true) := by
  unfold soundB withinB
  cases n.moving <;> cases n.up <;> cases n.cordon <;> by_cases h0 : n.job = 0 <;> simp [h0, and_assoc]

theorem right_iff (c : ConfD) (s : StateD) : rightB c s = true ↔ RightP c s := by
  unfold rightB
  simp only [Bool.and_eq_true]
  constructor
  · rintro ⟨⟨⟨⟨⟨⟨⟨⟨⟨h1, h2⟩, h3⟩, h4⟩, h5⟩, h6⟩, h7⟩, h8⟩, h9⟩, h10⟩
    rw [standsFrom_iff] at h8
    rw [soundFrom_iff] at h9
    rw [quotaFrom_iff] at h10
    have h3 := of_decide_eq_true h3
    have hs : ∀ i, i < s.nodes.length → _ := fun i hi => (soundB_iff s (s.nodes.getD i zeroNode) i).1 (by simpa using h9 i hi)
    have hv : ∀ k, k < s.nodes.length → 1 ≤ (s.nodes.getD k zeroNode).version := fun k hk => (hs k hk).1.1
    have hst : ∀ i, i < s.jobs.length → _ := fun i hi => (standsB_iff c s (s.jobs.getD i zeroJob) (i + 1) hv).1 (by simpa using h8 i hi)
    have hl1 : ∀ i k, i < s.nodes.length → k < s.jobs.length → hasB (joA s k).nodes i = true → takes1 (k + 1) (noA s i) = true := fun i k hi hk hb => by
      cases hp : placedB (s.jobs.getD k zeroJob).phase with
      | true => exact ((hst k hk).2.1 hp).2 i hi hb
      | false =>
        have := (hst k hk).2.2 hp
        unfold joA at hb
        rw [this, has_zero] at hb; cases hb
    have hl2 : ∀ i k, i < s.nodes.length → k < s.jobs.length → (noA s i).job = k + 1 → hasB (joA s k).nodes i = true := fun i k hi hk hj => by
      have := (hs i hi).2.2.2 (by unfold noA at hj; omega)
      unfold noA at hj
      rw [hj] at this
      simpa [joA] using this
    refine ⟨h1, of_decide_eq_true h2, h3, within_t h4, within_t h5, within_t h6, within_t h7, fun k hk => (hst k hk).1, fun k hk hp => ((hst k hk).2.1 hp).1, fun k hk hp => (hst k hk).2.2 hp, fun i hi => (hs i hi).1, fun i hi => (hs i hi).2.1, fun i hi => (hs i hi).2.2.1, fun i hi h0 => ?_, fun i k hi hk => ⟨fun hb => ?_, hl2 i k hi hk⟩, fun q hq => ?_⟩
    · have h := (hs i hi).2.1
      have := hl1 i ((noA s i).job - 1).toNat hi (by unfold noA at *; omega) (hl2 i _ hi (by unfold noA at *; omega) (by unfold noA at *; omega))
      simp only [takes1, Bool.and_eq_true] at this
      exact this.1.1
    · have := hl1 i k hi hk hb
      simp only [takes1, Bool.and_eq_true, decide_eq_true_eq] at this
      exact this.2
    · have := h10 q (by omega)
      simpa using this
  · intro h
    have hv : ∀ k, k < s.nodes.length → 1 ≤ (s.nodes.getD k zeroNode).version := fun k hk => (h.ver k hk).1
    refine ⟨⟨⟨⟨⟨⟨⟨⟨⟨h.conf, decide_eq_true h.nodes⟩, decide_eq_true h.jobs⟩, decide_eq_true h.goal⟩, decide_eq_true h.prior⟩, decide_eq_true h.mode⟩, decide_eq_true h.term⟩, ?_⟩, ?_⟩, ?_⟩
    · rw [standsFrom_iff]
      intro k hk
      rw [Nat.zero_add, standsB_iff _ _ _ _ hv]
      refine ⟨h.num k hk, fun hp => ⟨h.placed k hk hp, fun i hi hb => ?_⟩, h.idle k hk⟩
      have hj := (h.link i k hi hk).1 hb
      have hm : (noA s i).moving = false := by
        cases hm : (noA s i).moving with
        | false => rfl
        | true => have := (h.moving i hi hm).2.2; omega
      simp only [takes1, Bool.and_eq_true, decide_eq_true_eq, hm, h.up i hi (by omega), hj, Bool.not_false, and_self]
    · rw [soundFrom_iff]
      intro i hi
      rw [Nat.zero_add, soundB_iff]
      refine ⟨h.ver i hi, h.job i hi, h.moving i hi, fun h0 => ?_⟩
      have hj := h.job i hi
      have := (h.link i ((noA s i).job - 1).toNat hi (by unfold noA at *; omega)).2 (by unfold noA at *; omega)
      exact this
    · rw [quotaFrom_iff]
      intro i hi
      have := h.quota i (by omega)
      simpa using this
end Dv
