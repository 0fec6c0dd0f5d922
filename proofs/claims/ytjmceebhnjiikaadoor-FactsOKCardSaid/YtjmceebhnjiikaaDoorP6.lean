/- The document's answer for the book, on plain data, and that it is the book's. -/
import Derived.Test.YtjmceebhnjiikaaDoorP5
set_option linter.unusedVariables false
set_option linter.unusedSimpArgs false
namespace Dv

def fitsR (ns : List NodeD) (m pin : Int) : Nat → Nat → Int → Bool
  | 0, _, _ => true
  | f + 1, i, v => if hasB m i = false then fitsR ns m pin f (i + 1) v
    else if ns.length ≤ i then false
    else if (v ≠ 0 ∧ (ns.getD i zeroNode).version ≠ v) ∨ (pin ≠ 0 ∧ (ns.getD i zeroNode).version ≠ pin) then false
    else fitsR ns m pin f (i + 1) (ns.getD i zeroNode).version
def fitsRB (ns : List NodeD) (j : JobD) (m : Int) : Bool :=
  if m < 0 ∨ 64 ≤ m ∨ many m < j.min ∨ j.max < many m then false else fitsR ns m j.pin 6 0 0
def nodeRB (s : StateD) (n : NodeD) : Bool := withinB n.version 1 9 && withinB n.job 0 s.jobs.length && !(n.moving && !(n.up && n.cordon && decide (n.job = 0)))
def nodesR (s : StateD) : List NodeD → Bool
  | [] => true
  | n :: l => nodeRB s n && nodesR s l
def linkRB (j : JobD) (k : Nat) (n : NodeD) (i : Nat) : Bool := decide (decide (n.job = k + 1) = hasB j.nodes i) && !(decide (n.job = k + 1) && (!n.up || n.moving))
def linkR (j : JobD) (k : Nat) : List NodeD → Nat → Bool
  | [], _ => true
  | n :: l, i => linkRB j k n i && linkR j k l (i + 1)
def numRB (c : ConfD) (j : JobD) : Bool := askedB c j && withinB j.phase 0 4 && withinB j.inc 0 1000000 && withinB j.since 0 1000000 && withinB j.til 0 1000000 && withinB j.epoch 0 j.inc
def jobRB (c : ConfD) (s : StateD) (j : JobD) (k : Nat) : Bool := numRB c j && (if placedB j.phase = true then fitsRB s.nodes j j.nodes else decide (j.nodes = 0)) && linkR j k s.nodes 0
def jobsRB (c : ConfD) (s : StateD) : List JobD → Nat → Bool
  | [], _ => true
  | j :: l, k => jobRB c s j k && jobsRB c s l (k + 1)
def rightRB (c : ConfD) (s : StateD) : Bool :=
  mayB c && decide ((s.nodes.length : Int) = c.nodes) && decide (s.jobs.length ≤ 24) && withinB s.goal 1 9 && withinB s.prior 1 9 && withinB s.mode 0 2 && withinB s.term 0 1000000 &&
  nodesR s s.nodes && quotaFrom c s 0 c.queues.toNat && jobsRB c s s.jobs 0

theorem fitsR_iff (ns : List NodeD) (m pin : Int) : ∀ (f i : Nat) (v : Int), (∀ k, k < ns.length → 1 ≤ (ns.getD k zeroNode).version) →
    (fitsR ns m pin f i v = true ↔ ∃ u, (v = 0 ∨ u = v) ∧ ∀ k, i ≤ k → k < i + f → hasB m k = true → k < ns.length ∧ (ns.getD k zeroNode).version = u ∧ (pin = 0 ∨ (ns.getD k zeroNode).version = pin))
  | 0, i, v, _ => by
    simp only [fitsR, true_iff]
    exact ⟨v, .inr rfl, fun k h1 h2 => by omega⟩
  | f + 1, i, v, hv => by
    have ih := fun v => fitsR_iff ns m pin f (i + 1) v hv
    have shift : ∀ u, (∀ k, i ≤ k → k < i + (f + 1) → hasB m k = true → k < ns.length ∧ (ns.getD k zeroNode).version = u ∧ (pin = 0 ∨ (ns.getD k zeroNode).version = pin)) ↔
        (hasB m i = true → i < ns.length ∧ (ns.getD i zeroNode).version = u ∧ (pin = 0 ∨ (ns.getD i zeroNode).version = pin)) ∧ ∀ k, i + 1 ≤ k → k < i + 1 + f → hasB m k = true → k < ns.length ∧ (ns.getD k zeroNode).version = u ∧ (pin = 0 ∨ (ns.getD k zeroNode).version = pin) := by
      intro u
      refine ⟨fun h => ⟨fun hb => h i (by omega) (by omega) hb, fun k h1 h2 => h k (by omega) (by omega)⟩, fun h k h1 h2 => ?_⟩
      by_cases hk : k = i
      · subst hk; exact h.1
      · exact h.2 k (by omega) (by omega)
    unfold fitsR
    by_cases hb : hasB m i = false
    · rw [if_pos hb, ih v]
      refine exists_congr fun u => and_congr_right fun _ => ?_
      rw [shift u]
      simp [hb]
    · rw [if_neg hb]
      have hb' : hasB m i = true := by simpa using hb
      by_cases hl : ns.length ≤ i
      · rw [if_pos hl]
        refine ⟨fun h => (by cases h), ?_⟩
        rintro ⟨u, h1, h2⟩
        have := (((shift u).1 h2).1 hb').1
        omega
      · rw [if_neg hl]
        have h0 := hv i (by omega)
        by_cases hq : (v ≠ 0 ∧ (ns.getD i zeroNode).version ≠ v) ∨ (pin ≠ 0 ∧ (ns.getD i zeroNode).version ≠ pin)
        · rw [if_pos hq]
          refine ⟨fun h => (by cases h), ?_⟩
          rintro ⟨u, h1, h2⟩
          have := ((shift u).1 h2).1 hb'
          omega
        · rw [if_neg hq, ih]
          constructor
          · rintro ⟨u, h1, h2⟩
            exact ⟨u, by omega, (shift u).2 ⟨fun _ => ⟨by omega, by omega, by omega⟩, h2⟩⟩
          · rintro ⟨u, h1, h2⟩
            obtain ⟨h3, h4⟩ := (shift u).1 h2
            have := h3 hb'
            exact ⟨u, by omega, h4⟩

theorem has_of_lt (m n : Nat) (hm : m < 64) (hn : n ≤ 6) : m < 2 ^ n ↔ ∀ i, i < 6 → hasB (m : Int) i = true → i < n := by
  have : ∀ n : Nat, n ≤ 6 → ∀ m : Nat, m < 64 → (m < 2 ^ n ↔ ∀ i, i < 6 → hasB (m : Int) i = true → i < n) := by decide +kernel
  exact this n hn m hm

/-- the document's fits, of nodes whose versions are right -/
theorem fitsRB_iff (ns : List NodeD) (j : JobD) (m : Int) (hn : ns.length ≤ 6) (hv : ∀ k, k < ns.length → 1 ≤ (ns.getD k zeroNode).version) :
    fitsRB ns j m = true ↔ (0 ≤ m ∧ m < 2 ^ ns.length) ∧ (j.min ≤ many m ∧ many m ≤ j.max) ∧ ∃ u, (j.pin = 0 ∨ u = j.pin) ∧ ∀ k, k < ns.length → hasB m k = true → (ns.getD k zeroNode).version = u := by
  unfold fitsRB
  have hp : ∀ n : Nat, n ≤ 6 → (2 : Int) ^ n ≤ 64 := fun n hn => pow_le64 n hn
  by_cases h1 : m < 0 ∨ 64 ≤ m ∨ many m < j.min ∨ j.max < many m
  · rw [if_pos h1]
    refine ⟨fun h => (by cases h), fun h => ?_⟩
    have := hp _ hn
    omega
  · rw [if_neg h1, fitsR_iff ns m j.pin 6 0 0 hv]
    obtain ⟨q, rfl⟩ := Int.eq_ofNat_of_zero_le (show 0 ≤ m by omega)
    have hq := has_of_lt q ns.length (by omega) hn
    have hc : ((q : Int) < 2 ^ ns.length) ↔ q < 2 ^ ns.length := by
      rw [← Int.ofNat_lt, Int.natCast_pow]; rfl
    rw [hc, hq]
    constructor
    · rintro ⟨u, _, h⟩
      refine ⟨⟨by omega, fun i hi hb => (h i (by omega) (by omega) hb).1⟩, by omega, if j.pin = 0 then u else j.pin, ?_, fun k hk hb => ?_⟩
      · by_cases h0 : j.pin = 0
        · exact .inl h0
        · exact .inr (if_neg h0)
      · have := h k (by omega) (by omega) hb
        split <;> omega
    · rintro ⟨⟨_, h1⟩, _, u, h2, h3⟩
      refine ⟨u, .inl rfl, fun k _ hk hb => ?_⟩
      have h4 := h1 k (by omega) hb
      have h5 := h3 k h4 hb
      exact ⟨h4, h5, by omega⟩

theorem nodesR_iff (s : StateD) : ∀ (l : List NodeD), nodesR s l = true ↔ ∀ i, i < l.length → nodeRB s (l.getD i zeroNode) = true
  | [] => by simp [nodesR]
  | n :: l => by
    unfold nodesR
    rw [Bool.and_eq_true, nodesR_iff s l]
    constructor
    · rintro ⟨h1, h2⟩ i hi
      cases i with
      | zero => simpa using h1
      | succ i => simpa using h2 i (by simpa using hi)
    · intro h
      exact ⟨by simpa using h 0 (by simp), fun i hi => by simpa using h (i + 1) (by simpa using hi)⟩
theorem linkR_iff (j : JobD) (k : Nat) : ∀ (l : List NodeD) (q : Nat), linkR j k l q = true ↔ ∀ i, i < l.length → linkRB j k (l.getD i zeroNode) (q + i) = true
  | [], q => by simp [linkR]
  | n :: l, q => by
    unfold linkR
    rw [Bool.and_eq_true, linkR_iff j k l (q + 1)]
    constructor
    · rintro ⟨h1, h2⟩ i hi
      cases i with
      | zero => simpa using h1
      | succ i =>
        have := h2 i (by simpa using hi)
        rw [show q + (i + 1) = q + 1 + i by omega]
        simpa using this
    · intro h
      refine ⟨by simpa using h 0 (by simp), fun i hi => ?_⟩
      have := h (i + 1) (by simpa using hi)
      rw [show q + 1 + i = q + (i + 1) by omega]
      simpa using this
theorem jobsRB_iff (c : ConfD) (s : StateD) : ∀ (l : List JobD) (q : Nat), jobsRB c s l q = true ↔ ∀ i, i < l.length → jobRB c s (l.getD i zeroJob) (q + i) = true
  | [], q => by simp [jobsRB]
  | n :: l, q => by
    unfold jobsRB
    rw [Bool.and_eq_true, jobsRB_iff c s l (q + 1)]
    constructor
    · rintro ⟨h1, h2⟩ i hi
      cases i with
      | zero => simpa using h1
      | succ i =>
        have := h2 i (by simpa using hi)
        rw [show q + (i + 1) = q + 1 + i by omega]
        simpa using this
    · intro h
      refine ⟨by simpa using h 0 (by simp), fun i hi => ?_⟩
      have := h (i + 1) (by simpa using hi)
      rw [show q + 1 + i = q + (i + 1) by omega]
      simpa using this
theorem nodeRB_iff (s : StateD) (n : NodeD) : nodeRB s n = true ↔ (1 ≤ n.version ∧ n.version ≤ 9) ∧ (0 ≤ n.job ∧ n.job ≤ s.jobs.length) ∧ (n.moving = true → n.up = true ∧ n.cordon = true ∧ n.job = 0) := by
  unfold nodeRB withinB
  cases n.moving <;> cases n.up <;> cases n.cordon <;> by_cases h0 : n.job = 0 <;> simp [h0]
theorem linkRB_iff (j : JobD) (k : Nat) (n : NodeD) (i : Nat) : linkRB j k n i = true ↔ (hasB j.nodes i = true ↔ n.job = k + 1) ∧ (n.job = k + 1 → n.up = true ∧ n.moving = false) := by
  unfold linkRB
  cases n.moving <;> cases n.up <;> cases hasB j.nodes i <;> by_cases h0 : n.job = k + 1 <;> simp [h0]
theorem numRB_iff (c : ConfD) (j : JobD) : numRB c j = true ↔ JobNum c j := by
  unfold numRB
  simp only [Bool.and_eq_true]
  constructor
  · rintro ⟨⟨⟨⟨⟨a, b⟩, d⟩, e⟩, f⟩, g⟩
    exact ⟨a, within_t b, within_t d, within_t e, within_t f, within_t g⟩
  · rintro ⟨a, b, d, e, f, g⟩
    exact ⟨⟨⟨⟨⟨a, decide_eq_true b⟩, decide_eq_true d⟩, decide_eq_true e⟩, decide_eq_true f⟩, decide_eq_true g⟩

theorem rightR_iff (c : ConfD) (s : StateD) : rightRB c s = true ↔ RightP c s := by
  unfold rightRB
  simp only [Bool.and_eq_true]
  constructor
  · rintro ⟨⟨⟨⟨⟨⟨⟨⟨⟨h1, h2⟩, h3⟩, h4⟩, h5⟩, h6⟩, h7⟩, h9⟩, h10⟩, h8⟩
    rw [jobsRB_iff] at h8
    rw [nodesR_iff] at h9
    rw [quotaFrom_iff] at h10
    have h2 := of_decide_eq_true h2
    have h3 := of_decide_eq_true h3
    have hmn := mayB_nodes h1
    have hs : ∀ i, i < s.nodes.length → _ := fun i hi => (nodeRB_iff s (s.nodes.getD i zeroNode)).1 (h9 i hi)
    have hv : ∀ k, k < s.nodes.length → 1 ≤ (s.nodes.getD k zeroNode).version := fun k hk => (hs k hk).1.1
    have hj : ∀ k, k < s.jobs.length → JobNum c (joA s k) ∧ (if placedB (joA s k).phase = true then fitsRB s.nodes (joA s k) (joA s k).nodes else decide ((joA s k).nodes = 0)) = true ∧
        ∀ i, i < s.nodes.length → (hasB (joA s k).nodes i = true ↔ (noA s i).job = k + 1) ∧ ((noA s i).job = k + 1 → (noA s i).up = true ∧ (noA s i).moving = false) := fun k hk => by
      have := h8 k hk
      unfold jobRB at this
      simp only [Bool.and_eq_true] at this
      rw [numRB_iff, linkR_iff] at this
      refine ⟨this.1.1, this.1.2, fun i hi => ?_⟩
      have h := this.2 i hi
      rw [linkRB_iff] at h
      simpa [joA, noA] using h
    refine ⟨h1, h2, h3, within_t h4, within_t h5, within_t h6, within_t h7, fun k hk => (hj k hk).1, fun k hk hp => ?_, fun k hk hp => ?_, fun i hi => (hs i hi).1, fun i hi => (hs i hi).2.1, fun i hi => (hs i hi).2.2, fun i hi h0 => ?_, fun i k hi hk => ((hj k hk).2.2 i hi).1, fun q hq => ?_⟩
    · have := (hj k hk).2.1
      rw [if_pos hp, fitsRB_iff _ _ _ (by omega) hv] at this
      obtain ⟨⟨a, b⟩, d, e⟩ := this
      exact ⟨a, b, d, e⟩
    · have := (hj k hk).2.1
      rw [if_neg (by simp [hp])] at this
      exact of_decide_eq_true this
    · have hb := (hs i hi).2.1
      have := (hj ((noA s i).job - 1).toNat (by unfold noA at *; omega)).2.2 i hi
      exact (this.2 (by unfold noA at *; omega)).1
    · have := h10 q (by omega)
      simpa using this
  · intro h
    have hv : ∀ k, k < s.nodes.length → 1 ≤ (s.nodes.getD k zeroNode).version := fun k hk => (h.ver k hk).1
    refine ⟨⟨⟨⟨⟨⟨⟨⟨⟨h.conf, decide_eq_true h.nodes⟩, decide_eq_true h.jobs⟩, decide_eq_true h.goal⟩, decide_eq_true h.prior⟩, decide_eq_true h.mode⟩, decide_eq_true h.term⟩, ?_⟩, ?_⟩, ?_⟩
    · rw [nodesR_iff]
      intro i hi
      rw [nodeRB_iff]
      exact ⟨h.ver i hi, h.job i hi, h.moving i hi⟩
    · rw [quotaFrom_iff]
      intro i hi
      have := h.quota i (by omega)
      simpa using this
    · rw [jobsRB_iff]
      intro k hk
      unfold jobRB
      simp only [Bool.and_eq_true]
      rw [numRB_iff, linkR_iff]
      refine ⟨⟨h.num k hk, ?_⟩, fun i hi => ?_⟩
      · cases hp : placedB (s.jobs.getD k zeroJob).phase with
        | true =>
          rw [if_pos rfl, fitsRB_iff _ _ _ h.len.2 hv]
          obtain ⟨a, b, d, e⟩ := h.placed k hk hp
          exact ⟨⟨a, b⟩, d, e⟩
        | false =>
          rw [if_neg (by simp)]
          exact decide_eq_true (h.idle k hk hp)
      · rw [linkRB_iff, Nat.zero_add, Nat.zero_add]
        refine ⟨h.link i k hi hk, fun hj => ⟨h.up i hi (by unfold noA; omega), ?_⟩⟩
        cases hm : (s.nodes.getD i zeroNode).moving with
        | false => rfl
        | true => have := (h.moving i hi hm).2.2; unfold noA at this; omega

/-- both answers are one. -/
theorem right_ref (c : ConfD) (s : StateD) : rightB c s = rightRB c s := by
  rw [Bool.eq_iff_iff, right_iff, rightR_iff]

/-! the document's ops -/
def letGoD (s : StateD) (job phase : Int) : StateD :=
  { s with jobs := s.jobs.set (job - 1).toNat { jobA s job with phase := phase, nodes := 0, since := 0, til := 0 }, nodes := s.nodes.mapIdx (lets job) }
def freeAll (bits : Int) : List NodeD → Nat → Bool
  | [], _ => true
  | n :: l, i => (!hasB bits i || freeB n) && freeAll bits l (i + 1)
def okR (s : StateD) (o : OpD) : Bool :=
  let j := jobA s o.a
  let n := nodeA s o.a
  if o.kind = 2 then j.phase != 4 else if o.kind = 4 then s.mode == 0 else if o.kind = 5 then s.mode == 1 else if o.kind = 6 then s.mode != 2
  else if o.kind = 7 then n.up else if o.kind = 8 then !n.up else if o.kind = 9 then j.phase == 0 else if o.kind = 10 ∨ o.kind = 11 then j.phase == 1
  else if o.kind = 12 ∨ o.kind = 20 then j.phase == 2 else if o.kind = 13 ∨ o.kind = 15 then runsB j else if o.kind = 14 then j.phase == 3
  else if o.kind = 16 then n.up && !n.cordon else if o.kind = 17 then n.cordon && !n.moving else if o.kind = 18 then n.up && n.cordon && !n.moving && decide (n.job = 0)
  else if o.kind = 19 then n.moving else false
def whyR (c : ConfD) (s : StateD) (o : OpD) : Int :=
  if opOkB o = false then 1
  else if o.kind = 1 then (if askedB c (newJob o) = false then 1 else if s.jobs.length = 24 then 3 else 0)
  else if o.kind = 21 then (if s.term = 1000000 then 3 else 0)
  else if jobK o.kind = true ∧ (o.a < 1 ∨ (s.jobs.length : Int) < o.a) then 4
  else if nodeK o.kind = true ∧ (s.nodes.length : Int) ≤ o.a then 4
  else if o.kind = 3 then (if withinB o.a 1 9 = false then 1 else 0)
  else if (o.kind = 8 ∨ o.kind = 19) ∧ withinB o.b 1 9 = false then 1
  else if o.kind = 20 ∧ (s.nodes.length : Int) ≤ o.b then 4
  else if okR s o = false then 5
  else if o.kind = 9 ∧ ¬ (fitsRB s.nodes (jobA s o.a) o.b = true ∧ (jobA s o.a).inc < 1000000 ∧ freeAll o.b s.nodes 0 = true) then 8
  else if o.kind = 12 ∧ c.quota ≤ drainsL s.jobs (jobA s o.a).queue then 7
  else if o.kind = 13 ∧ (o.b ≠ (jobA s o.a).inc ∨ o.b ≤ (jobA s o.a).epoch) then 6
  else if o.kind = 20 ∧ (hasB (jobA s o.a).nodes o.b.toNat = false ∨ many (jobA s o.a).nodes ≤ (jobA s o.a).min) then 8
  else 0
/-- the bits of a set, but one -/
def leftTo (m : Int) (b : Int) : Nat → Int
  | 0 => 0
  | k + 1 => leftTo m b k + if hasB m k = true ∧ (k : Int) ≠ b then 2 ^ k else 0
def doR (s : StateD) (o : OpD) : StateD :=
  let j := jobA s o.a
  let n := nodeA s o.a
  if o.kind = 1 then { s with jobs := s.jobs ++ [newJob o] }
  else if o.kind = 2 ∨ o.kind = 15 then letGoD s o.a 4
  else if o.kind = 3 then { s with prior := meant s, goal := o.a, mode := 0 }
  else if o.kind = 4 then { s with mode := 1 } else if o.kind = 5 then { s with mode := 0 } else if o.kind = 6 then { s with mode := 2 }
  else if o.kind = 7 then
    let t := if 0 < n.job then letGoD s n.job 0 else s
    setN t o.a { nodeA t o.a with up := false, moving := false }
  else if o.kind = 8 then setN s o.a { n with up := true, version := o.b }
  else if o.kind = 9 then { setJ s o.a { j with phase := 1, inc := j.inc + 1, nodes := o.b } with nodes := s.nodes.mapIdx (takesA o.b o.a) }
  else if o.kind = 10 then setJ s o.a { j with phase := 2, since := o.b }
  else if o.kind = 11 ∨ o.kind = 14 then letGoD s o.a 0
  else if o.kind = 12 then setJ s o.a { j with phase := 3, til := o.b }
  else if o.kind = 13 then setJ s o.a { j with epoch := o.b }
  else if o.kind = 16 then setN s o.a { n with cordon := true }
  else if o.kind = 17 then setN s o.a { n with cordon := false }
  else if o.kind = 18 then setN s o.a { n with moving := true }
  else if o.kind = 19 then setN s o.a { n with moving := false, cordon := false, version := o.b }
  else if o.kind = 20 then setN (setJ s o.a { j with nodes := leftTo j.nodes o.b 6 }) o.b { nodeA s o.b with job := 0 }
  else if o.kind = 21 then { s with term := s.term + 1 }
  else s
def applyR (c : ConfD) (s : StateD) (o : OpD) : StateD × Int := if whyR c s o ≠ 0 then (s, whyR c s o) else (doR s o, 0)
end Dv
