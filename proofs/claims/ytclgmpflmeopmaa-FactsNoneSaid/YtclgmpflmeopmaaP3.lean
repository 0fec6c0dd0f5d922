/- Which ops can be next: what WavePaused asks of them. -/
import Derived.Test.YtclgmpflmeopmaaP2
set_option linter.unusedVariables false
set_option linter.unusedSimpArgs false
namespace Dv

theorem firstO_some (f : NodeD → Int → Option OpD) : ∀ (l : List NodeD) (k : Nat) (o : OpD), firstO f l k = some o → ∃ i, i < l.length ∧ f (l.getD i zeroNode) ((k + i : Nat) : Int) = some o
  | [], _, _, h => by simp [firstO] at h
  | n :: l, k, o, h => by
    unfold firstO at h
    cases hf : f n k with
    | some p =>
      rw [hf] at h
      exact ⟨0, by simp, by simpa using hf.trans h⟩
    | none =>
      rw [hf] at h
      obtain ⟨i, hi, h2⟩ := firstO_some f l (k + 1) o h
      refine ⟨i + 1, by simpa using hi, ?_⟩
      rw [show k + (i + 1) = k + 1 + i by omega]
      simpa using h2

/-- what WavePaused asks of an op -/
inductive AskedP (s : StateD) : OpD → Prop where
  | opened (a : Int) : AskedP s ⟨17, a, 0, 0, 0, 0, 0⟩
  | shut (a : Int) (h : aloneB s a = false) : AskedP s ⟨16, a, 0, 0, 0, 0, 0⟩
  | move (a : Int) (h : aloneB s a = false) : AskedP s ⟨18, a, 0, 0, 0, 0, 0⟩
  | shrink (j a : Int) (h : aloneB s a = false) : AskedP s ⟨20, j, a, 0, 0, 0, 0⟩
  | unhold (i : Nat) (hi : i < s.nodes.length) (h0 : (s.nodes.getD i zeroNode).job ≠ 0) (h : pinOf s (s.nodes.getD i zeroNode).job = 0 ∨ pinOf s (s.nodes.getD i zeroNode).job = meant s) : AskedP s ⟨11, (s.nodes.getD i zeroNode).job, 0, 0, 0, 0, 0⟩
  | drain (i : Nat) (t : Int) (hi : i < s.nodes.length) (h0 : (s.nodes.getD i zeroNode).job ≠ 0) (h : pinOf s (s.nodes.getD i zeroNode).job = 0 ∨ pinOf s (s.nodes.getD i zeroNode).job = meant s) : AskedP s ⟨12, (s.nodes.getD i zeroNode).job, t, 0, 0, 0, 0⟩

theorem alone_of (s : StateD) (i : Nat) (hi : i < s.nodes.length) : aloneB s (i : Int) = aloneN s (s.nodes.getD i zeroNode) := by
  unfold aloneB
  rw [if_neg (by omega)]
  simp

theorem next_asked (c : ConfD) (s : StateD) (now : Int) (o : OpD) (h : nextW c s now = some o) : AskedP s o := by
  unfold nextW at h
  split at h
  · cases h
  cases h1 : firstO (openO s) s.nodes 0 with
  | some p =>
    rw [h1] at h
    obtain ⟨i, hi, h2⟩ := firstO_some _ _ _ _ h1
    cases h
    unfold openO at h2
    split at h2
    · cases h2; exact .opened _
    · cases h2
  | none =>
    rw [h1] at h
    cases h3 : firstO (clearO c s now) s.nodes 0 with
    | some p =>
      rw [h3] at h
      cases h
      obtain ⟨i, hi, h2⟩ := firstO_some _ _ _ _ h3
      have ha := alone_of s i hi
      rw [Nat.zero_add] at h2
      unfold clearO at h2
      split at h2
      · cases h2
      rename_i hn
      have hal : aloneN s (s.nodes.getD i zeroNode) = false := by
        cases hx : aloneN s (s.nodes.getD i zeroNode) with
        | false => rfl
        | true => exact absurd (Or.inr (Or.inr hx)) hn
      rw [hal] at ha
      split at h2
      · cases h2; exact .move _ ha
      rename_i h0
      have hp : pinOf s (s.nodes.getD i zeroNode).job = 0 ∨ pinOf s (s.nodes.getD i zeroNode).job = meant s := by
        unfold aloneN at hal
        rw [if_neg h0] at hal
        simp only [Bool.and_eq_false_iff, decide_eq_false_iff_not, Decidable.not_not] at hal
        exact hal
      dsimp only at h2
      split at h2
      · cases h2; exact .unhold i hi h0 hp
      split at h2
      · cases h2; exact .shrink _ _ ha
      split at h2
      · cases h2; exact .drain i _ hi h0 hp
      · cases h2
    | none =>
      rw [h3] at h
      obtain ⟨i, hi, h2⟩ := firstO_some _ _ _ _ h
      have ha := alone_of s i hi
      rw [Nat.zero_add] at h2
      unfold shutO at h2
      split at h2
      · rename_i hs
        cases h2
        refine .shut _ (ha.trans ?_)
        unfold shutB at hs
        simp only [Bool.and_eq_true, Bool.not_eq_true'] at hs
        exact hs.1.2
      · cases h2
end Dv
