/- What agents' reports mean: the laws, on plain data. -/
import Derived.Test.YtclgmpflmeopmaaP5
import Derived.Test.YtclgmpflmeopmaaP8
set_option linter.unusedVariables false
set_option linter.unusedSimpArgs false
namespace Dv

theorem everyB_iff {m : Int} {tk : Nat → Bool} : everyB m tk = true ↔ ∀ i, i < 6 → hasB m i = true → tk i = true := by
  unfold everyB
  rw [List.all_eq_true]
  constructor
  · intro h i hi hb
    have := h i (List.mem_range.2 hi)
    simpa [hb] using this
  · intro h i hi
    have := h i (List.mem_range.1 hi)
    cases hb : hasB m i with
    | false => rfl
    | true => simpa using this hb
theorem report_rng {r : List MsgD} {i : Int} (h : (reportM r i).kind = 6) : 0 ≤ i ∧ i < r.length ∧ reportM r i = r.getD i.toNat zeroMsg := by
  unfold reportM at h ⊢
  split at h
  · cases h
  · rename_i hn
    rw [if_neg hn]
    split at h
    · rename_i h6
      rw [if_pos h6]
      exact ⟨by omega, by omega, rfl⟩
    · cases h
theorem says_is {s : StateD} {r : List MsgD} {i m job : Int} (h : saysB s r i m job = true) :
    (0 ≤ i ∧ i < r.length) ∧ (r.getD i.toNat zeroMsg).kind = 6 ∧ (r.getD i.toNat zeroMsg).mode = m ∧ (r.getD i.toNat zeroMsg).job = job ∧ (r.getD i.toNat zeroMsg).inc = (s.jobs.getD (job - 1).toNat zeroJob).inc := by
  unfold saysB at h
  simp only [Bool.and_eq_true, beq_iff_eq, decide_eq_true_eq] at h
  obtain ⟨⟨⟨⟨⟨h1, h2⟩, h3⟩, h4⟩, h5⟩, h6⟩ := h
  obtain ⟨a, b, e⟩ := report_rng h1
  rw [e] at h1 h4 h5 h6
  exact ⟨⟨a, b⟩, h1, h4, h5, h6⟩
theorem says_ref (s : StateD) (r : List MsgD) (node mode job : Int) : saysB s r node mode job = if node < 0 ∨ (r.length : Int) ≤ node ∨ job < 1 ∨ (s.jobs.length : Int) < job then false else
    ((r.getD node.toNat zeroMsg).kind == 6 && (r.getD node.toNat zeroMsg).mode == mode && (r.getD node.toNat zeroMsg).job == job && (r.getD node.toNat zeroMsg).inc == (s.jobs.getD (job - 1).toNat zeroJob).inc) := by
  split
  · rename_i h
    cases hs : saysB s r node mode job with
    | false => rfl
    | true =>
      have h1 := (says_is hs).1
      unfold saysB at hs
      simp only [Bool.and_eq_true, decide_eq_true_eq] at hs
      have := hs.1.1.1.1.2
      have := hs.1.1.1.2
      omega
  · rename_i h
    unfold saysB reportM
    rw [if_neg (by omega), show decide (1 ≤ job) = true from decide_eq_true (by omega), show decide (job ≤ (s.jobs.length : Int)) = true from decide_eq_true (by omega)]
    generalize r.getD node.toNat zeroMsg = m
    by_cases h6 : m.kind = 6
    · rw [if_pos h6]; simp
    · rw [if_neg h6]
      have : (m.kind == 6) = false := by simpa using h6
      rw [this]; rfl
theorem gangT_says {s : StateD} {r : List MsgD} {job now : Int} {j : JobD} (h : (gangT s r job now j).2 = true) : ∀ i, i < 6 → hasB j.nodes i = true → ∃ m, saysB s r i m job = true := by
  intro i hi hb
  unfold gangT at h
  split at h
  · dsimp only at h
    have := everyB_iff.1 h i hi hb
    rw [Bool.or_eq_true] at this
    exact this.elim (fun h => ⟨_, h⟩) (fun h => ⟨_, h⟩)
  split at h
  · dsimp only at h
    have := everyB_iff.1 h i hi hb
    rw [Bool.and_eq_true] at this
    exact ⟨_, this.1⟩
  split at h
  · dsimp only at h
    exact ⟨3, everyB_iff.1 h i hi hb⟩
  · cases h
theorem gangT_phase {s : StateD} {r : List MsgD} {job now : Int} {j : JobD} (h : (gangT s r job now j).2 = true) : placedB j.phase = true := by
  unfold gangT at h
  unfold placedB
  rw [decide_eq_true_eq]
  split at h
  · rename_i hp; exact .inl hp
  split at h
  · rename_i hp; exact .inr (.inl hp)
  split at h
  · rename_i hp; exact .inr (.inr hp)
  · cases h
theorem someP_some {p : OpD × Bool} {o : OpD} (h : someP p = some o) : p.2 = true ∧ p.1 = o := by
  unfold someP at h
  split at h
  · rename_i hp; cases h; exact ⟨hp, rfl⟩
  · cases h
theorem someP_isSome (p : OpD × Bool) : (someP p).isSome = p.2 := by
  unfold someP; split
  · rename_i h; rw [h]; rfl
  · rename_i h; simp at h; rw [h]; rfl
/-- some node has the job. -/
theorem many_zero {n : Int} (h : ∀ i, i < 6 → hasB n i = false) : many n = 0 := by
  unfold many
  simp [manyTo, has01, h 0 (by decide), h 1 (by decide), h 2 (by decide), h 3 (by decide), h 4 (by decide), h 5 (by decide)]
theorem some_bit {c : ConfD} {s : StateD} (h : RightP c s) {k : Nat} (hk : k < s.jobs.length) (hp : placedB (joA s k).phase = true) : ∃ i, i < 6 ∧ hasB (joA s k).nodes i = true := by
  have h1 := (h.placed k hk hp).many
  have h2 := h.num k hk
  have h3 := h2.asked
  unfold askedB at h3
  simp only [Bool.and_eq_true] at h3
  have h4 := within_t h3.1.1.1.2
  refine Classical.byContradiction fun hn => ?_
  have := many_zero (n := (joA s k).nodes) (fun i hi => by
    cases hb : hasB (joA s k).nodes i with
    | false => rfl
    | true => exact absurd ⟨i, hi, hb⟩ hn)
  omega

/-! without reports nothing is told -/
theorem report_nil (i : Int) : reportM [] i = zeroMsg := by
  unfold reportM
  split
  · rfl
  · rfl
theorem tellU_nil (s : StateD) (up : Bool) : ∀ (l : List NodeD) (i : Nat), tellU s [] up l i = none
  | [], _ => rfl
  | n :: l, i => by
    unfold tellU
    rw [report_nil, tellU_nil s up l (i + 1)]
    have : tellN s zeroMsg n i = none := rfl
    rw [this]
    simp
theorem says_nil (s : StateD) (i m job : Int) : saysB s [] i m job = false := by
  unfold saysB
  rw [report_nil]
  rfl
theorem gangT_nil {c : ConfD} {s : StateD} (h : RightP c s) {k : Nat} (hk : k < s.jobs.length) (job now : Int) : (gangT s [] job now (joA s k)).2 = false := by
  cases hg : (gangT s [] job now (joA s k)).2 with
  | false => rfl
  | true =>
    obtain ⟨i, hi, hb⟩ := some_bit h hk (gangT_phase hg)
    obtain ⟨m, hm⟩ := gangT_says hg i hi hb
    rw [says_nil] at hm; cases hm
theorem tellG_none {s : StateD} {r : List MsgD} {now : Int} : ∀ (l : List JobD) (k : Nat), (∀ i, i < l.length → (gangT s r ((k + i : Nat) + 1) now (l.getD i zeroJob)).2 = false) → tellG s r now l k = none
  | [], _, _ => rfl
  | j :: l, k, h => by
    unfold tellG
    have h0 := h 0 (by simp)
    simp only [Nat.add_zero, List.getD_cons_zero] at h0
    unfold someP
    rw [if_neg (by rw [h0]; decide)]
    exact tellG_none l (k + 1) (fun i hi => by
      have := h (i + 1) (by simpa using hi)
      rw [List.getD_cons_succ] at this
      rw [show k + 1 + i = k + (i + 1) by omega]
      exact this)
theorem facts_nil {c : ConfD} {s : StateD} (h : RightP c s) (now : Int) : factsF s [] now = none := by
  unfold factsF
  rw [tellU_nil, tellU_nil]
  exact tellG_none _ _ (fun i hi => gangT_nil h hi _ _)

/-! what is told -/
theorem tellU_some {s : StateD} {r : List MsgD} {up : Bool} : ∀ (l : List NodeD) (k : Nat) (o : OpD), tellU s r up l k = some o → ∃ i, i < l.length ∧ tellN s (reportM r ((k + i : Nat) : Int)) (l.getD i zeroNode) ((k + i : Nat) : Int) = some o
  | [], _, _, h => by cases h
  | n :: l, k, o, h => by
    unfold tellU at h
    have go : tellU s r up l (k + 1) = some o → ∃ i, i < (n :: l).length ∧ tellN s (reportM r ((k + i : Nat) : Int)) ((n :: l).getD i zeroNode) ((k + i : Nat) : Int) = some o := fun h => by
      obtain ⟨i, hi, h2⟩ := tellU_some l (k + 1) o h
      exact ⟨i + 1, by simpa using hi, by rw [List.getD_cons_succ, show k + (i + 1) = k + 1 + i by omega]; exact h2⟩
    split at h
    · split at h
      · rename_i p hp
        cases h
        exact ⟨0, by simp, hp⟩
      · exact go h
    · exact go h
theorem tellG_some {s : StateD} {r : List MsgD} {now : Int} : ∀ (l : List JobD) (k : Nat) (o : OpD), tellG s r now l k = some o → ∃ i, i < l.length ∧ someP (gangT s r (((k + i : Nat) : Int) + 1) now (l.getD i zeroJob)) = some o
  | [], _, _, h => by cases h
  | j :: l, k, o, h => by
    unfold tellG at h
    split at h
    · rename_i p hp
      cases h
      exact ⟨0, by simp, hp⟩
    · obtain ⟨i, hi, h2⟩ := tellG_some l (k + 1) o h
      exact ⟨i + 1, by simpa using hi, by rw [List.getD_cons_succ, show k + (i + 1) = k + 1 + i by omega]; exact h2⟩

/-- the ops that reports can tell -/
inductive TellP (s : StateD) (now : Int) : OpD → Prop where
  | up (i : Nat) (v : Int) (hi : i < s.nodes.length) (h1 : (noA s i).up = false) (hv : 1 ≤ v ∧ v ≤ 9) : TellP s now ⟨8, i, v, 0, 0, 0, 0⟩
  | moved (i : Nat) (hi : i < s.nodes.length) (h1 : (noA s i).moving = true) : TellP s now ⟨19, i, meant s, 0, 0, 0, 0⟩
  | start (k : Nat) (hk : k < s.jobs.length) (h1 : (joA s k).phase = 1) : TellP s now ⟨10, (k : Int) + 1, now, 0, 0, 0, 0⟩
  | done (k : Nat) (hk : k < s.jobs.length) (h1 : (joA s k).phase = 2) : TellP s now ⟨15, (k : Int) + 1, 0, 0, 0, 0, 0⟩
  | saved (k : Nat) (hk : k < s.jobs.length) (h1 : (joA s k).phase = 3) (h2 : (joA s k).epoch < (joA s k).inc) : TellP s now ⟨13, (k : Int) + 1, (joA s k).inc, 0, 0, 0, 0⟩
  | evict (k : Nat) (hk : k < s.jobs.length) (h1 : (joA s k).phase = 3) : TellP s now ⟨14, (k : Int) + 1, 0, 0, 0, 0, 0⟩

theorem tellN_is {s : StateD} {now : Int} {m : MsgD} {i : Nat} {o : OpD} (hi : i < s.nodes.length) (h : tellN s m (noA s i) i = some o) : TellP s now o := by
  unfold tellN at h
  split at h
  · cases h
  split at h
  · rename_i hq; cases h; exact .up i _ hi hq.1 hq.2
  split at h
  · rename_i hq; cases h; rw [hq.2]; exact .moved i hi hq.1
  · cases h
theorem facts_is {s : StateD} {r : List MsgD} {now : Int} {o : OpD} (h : factsF s r now = some o) : TellP s now o := by
  unfold factsF at h
  split at h
  · rename_i p hp
    cases h
    obtain ⟨i, hi, h2⟩ := tellU_some _ _ _ hp
    rw [Nat.zero_add] at h2
    exact tellN_is hi h2
  split at h
  · rename_i p hp
    cases h
    obtain ⟨i, hi, h2⟩ := tellU_some _ _ _ hp
    rw [Nat.zero_add] at h2
    exact tellN_is hi h2
  obtain ⟨k, hk, h2⟩ := tellG_some _ _ _ h
  rw [Nat.zero_add] at h2
  obtain ⟨_, h3⟩ := someP_some h2
  have h4 := gangT_phase (someP_some h2).1
  unfold gangT at h3
  split at h3
  · rename_i hp; subst h3; exact .start k hk hp
  split at h3
  · rename_i hp; subst h3; exact .done k hk hp
  split at h3
  · rename_i hp
    dsimp only at h3
    split at h3
    · rename_i he; subst h3; exact .saved k hk hp he
    · subst h3; exact .evict k hk hp
  · rename_i n1 n2 n3
    unfold placedB at h4
    simp only [decide_eq_true_eq] at h4
    rcases h4 with h | h | h
    · exact absurd h n1
    · exact absurd h n2
    · exact absurd h n3

/-! the document's answer -/
def tell1 (s : StateD) (m : MsgD) (n : NodeD) (i : Int) : Option OpD := if idleB m = true ∧ n.up = false ∧ 0 < m.version ∧ m.version < 10 then some ⟨8, i, m.version, 0, 0, 0, 0⟩ else none
def tell2 (s : StateD) (m : MsgD) (n : NodeD) (i : Int) : Option OpD := if idleB m = true ∧ n.moving = true ∧ m.version = meant s then some ⟨19, i, m.version, 0, 0, 0, 0⟩ else none
def firstM (f : MsgD → NodeD → Int → Option OpD) (r : List MsgD) : List NodeD → Nat → Option OpD
  | [], _ => none
  | n :: l, i => match f (reportM r i) n i with | some o => some o | none => firstM f r l (i + 1)
def factsR (s : StateD) (r : List MsgD) (now : Int) : Option OpD :=
  match firstM (tell1 s) r s.nodes 0 with
  | some o => some o
  | none => match firstM (tell2 s) r s.nodes 0 with
    | some o => some o
    | none => tellG s r now s.jobs 0
theorem report_at {r : List MsgD} {i : Nat} (hi : i < r.length) : reportM r i = if (r.getD i zeroMsg).kind = 6 then r.getD i zeroMsg else zeroMsg := by
  unfold reportM
  rw [if_neg (by omega), Int.toNat_natCast]
theorem tell1_at (s : StateD) {r : List MsgD} (n : NodeD) {i : Nat} (hi : i < r.length) : tell1 s (reportM r i) n i = if ((r.getD i zeroMsg).kind == 6 && (r.getD i zeroMsg).mode == 0 && !n.up && decide ((r.getD i zeroMsg).version > 0) && decide ((r.getD i zeroMsg).version < 10)) = true then some ⟨8, i, (r.getD i zeroMsg).version, 0, 0, 0, 0⟩ else none := by
  rw [report_at hi]
  generalize r.getD i zeroMsg = m
  unfold tell1 idleB
  by_cases h6 : m.kind = 6
  · rw [if_pos h6]
    simp only [Bool.and_eq_true, beq_iff_eq, Bool.not_eq_true', decide_eq_true_eq, gt_iff_lt, and_assoc]
  · rw [if_neg h6]
    have : (m.kind == 6) = false := by simpa using h6
    rw [this, if_neg (by intro h; exact absurd h.1 (by decide)), if_neg (by simp)]
theorem tell2_at (s : StateD) {r : List MsgD} (n : NodeD) {i : Nat} (hi : i < r.length) : tell2 s (reportM r i) n i = if ((r.getD i zeroMsg).kind == 6 && (r.getD i zeroMsg).mode == 0 && n.moving && ((r.getD i zeroMsg).version == meant s)) = true then some ⟨19, i, (r.getD i zeroMsg).version, 0, 0, 0, 0⟩ else none := by
  rw [report_at hi]
  generalize r.getD i zeroMsg = m
  unfold tell2 idleB
  by_cases h6 : m.kind = 6
  · rw [if_pos h6]
    simp only [Bool.and_eq_true, beq_iff_eq, and_assoc]
  · rw [if_neg h6]
    have : (m.kind == 6) = false := by simpa using h6
    rw [this, if_neg (by intro h; exact absurd h.1 (by decide)), if_neg (by simp)]
theorem firstM_beyond {f : MsgD → NodeD → Int → Option OpD} (hf : ∀ n i, f zeroMsg n i = none) {r : List MsgD} : ∀ (l : List NodeD) (i : Nat), r.length ≤ i → firstM f r l i = none
  | [], _, _ => rfl
  | n :: l, i, h => by
    unfold firstM
    have : reportM r i = zeroMsg := by unfold reportM; rw [if_pos (by omega)]
    rw [this, hf, firstM_beyond hf l (i + 1) (by omega)]
theorem tell1_zero (s : StateD) (n : NodeD) (i : Int) : tell1 s zeroMsg n i = none := by
  unfold tell1; rw [if_neg (by intro h; exact absurd h.1 (by decide))]
theorem tell2_zero (s : StateD) (n : NodeD) (i : Int) : tell2 s zeroMsg n i = none := by
  unfold tell2; rw [if_neg (by intro h; exact absurd h.1 (by decide))]
theorem tellU_false {s : StateD} {r : List MsgD} : ∀ (l : List NodeD) (i : Nat), (∀ k, k < l.length → (l.getD k zeroNode).moving = true → (l.getD k zeroNode).up = true) → tellU s r false l i = firstM (tell1 s) r l i
  | [], _, _ => rfl
  | n :: l, i, h => by
    unfold tellU firstM
    rw [tellU_false l (i + 1) (fun k hk => by simpa using h (k + 1) (by simpa using hk))]
    have h0 := h 0 (by simp)
    rw [List.getD_cons_zero] at h0
    cases hu : n.up with
    | true =>
      rw [if_neg (by decide)]
      have : tell1 s (reportM r i) n i = none := by unfold tell1; rw [if_neg (by rw [hu]; simp)]
      rw [this]
    | false =>
      rw [if_pos rfl]
      have : tellN s (reportM r i) n i = tell1 s (reportM r i) n i := by
        unfold tellN tell1
        generalize reportM r i = m
        cases hb : idleB m with
        | false => simp
        | true =>
          have hm : ¬ n.moving = true := fun e => by have := h0 e; rw [hu] at this; cases this
          rw [if_neg (by decide)]
          by_cases hv : 1 ≤ m.version ∧ m.version ≤ 9
          · rw [if_pos ⟨hu, hv⟩, if_pos ⟨rfl, hu, by omega, by omega⟩]
          · rw [if_neg (fun e => hv e.2), if_neg (fun e => hm e.1), if_neg (fun e => hv ⟨by omega, by omega⟩)]
      rw [this]
      cases tell1 s (reportM r i) n i <;> rfl
theorem tellU_true {s : StateD} {r : List MsgD} : ∀ (l : List NodeD) (i : Nat), (∀ k, k < l.length → (l.getD k zeroNode).moving = true → (l.getD k zeroNode).up = true) → tellU s r true l i = firstM (tell2 s) r l i
  | [], _, _ => rfl
  | n :: l, i, h => by
    unfold tellU firstM
    rw [tellU_true l (i + 1) (fun k hk => by simpa using h (k + 1) (by simpa using hk))]
    have h0 := h 0 (by simp)
    rw [List.getD_cons_zero] at h0
    cases hu : n.up with
    | false =>
      rw [if_neg (by decide)]
      have : tell2 s (reportM r i) n i = none := by
        unfold tell2
        rw [if_neg (fun e => by have := h0 e.2.1; rw [hu] at this; cases this)]
      rw [this]
    | true =>
      rw [if_pos rfl]
      have : tellN s (reportM r i) n i = tell2 s (reportM r i) n i := by
        unfold tellN tell2
        generalize reportM r i = m
        cases hb : idleB m with
        | false => simp
        | true =>
          rw [if_neg (by decide), if_neg (fun e => by rw [hu] at e; cases e.1)]
          simp only [true_and]
      rw [this]
      cases tell2 s (reportM r i) n i <;> rfl
theorem facts_ref {c : ConfD} {s : StateD} (h : RightP c s) (r : List MsgD) (now : Int) : factsF s r now = factsR s r now := by
  have hm : ∀ k, k < s.nodes.length → (s.nodes.getD k zeroNode).moving = true → (s.nodes.getD k zeroNode).up = true := fun k hk e => (h.moving k hk e).1
  unfold factsF factsR
  rw [tellU_false _ _ hm, tellU_true _ _ hm]
  cases firstM (tell1 s) r s.nodes 0 with
  | some o => rfl
  | none => cases firstM (tell2 s) r s.nodes 0 <;> rfl
end Dv
