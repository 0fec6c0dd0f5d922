/- The book: stands, sound, Right. -/
import Derived.Test.YtkalnfkokkjliaaGreatDoorD3
set_option linter.unusedVariables false
set_option linter.unusedSimpArgs false
namespace Dv
open Go Go.Proofs
variable {G : Nat → Option (List DV)}

theorem stands_tri (c : ConfD) (s : StateD) (j : JobD) (number : Int) (hn : s.nodes.length ≤ 6) (h0 : 1 ≤ c.queues ∧ c.queues ≤ 1000) : Tri Tryz.prog G 113 [confV c, stateV s, jobV j, .int number] [] (.bool (standsB c s j number)) [] := by
  refine tri_W0 Tryz.func113 (by decide) irOk113 (Nat.le_of_ble_eq_true rfl) rfl ?_
  simp only [ir113,go_sem,simprocAttr]
  unfold standsB
  refine W_calld (asked_tri c j h0) rfl rfl rfl rfl ?_; simp only [go_sem,simprocAttr]
  repeat' (first
    | (refine W_calld (within_tri _ _ _) rfl rfl rfl rfl ?_; simp only [go_sem,simprocAttr])
    | ((first | with_reducible refine WG_splitn (fun h => ?_) (fun h => ?_) | refine WG_split (fun h => ?_) (fun h => ?_)) <;> simp only [h,go_sem,simprocAttr]))
  refine WC_splitn (fun h1 => ?_) (fun h1 => ?_) <;> simp only [h1,go_sem,simprocAttr] <;> (try simp only [beq_iff_eq,beq_eq_false_iff_ne,bne_iff_ne,ne_eq,decide_eq_true_eq,decide_eq_false_iff_not,Bool.not_true,Bool.not_false,Bool.not_eq_true,Bool.not_eq_false,bne_eq_false_iff_eq,Decidable.not_not] at h1)
  refine W_calld (placed_tri _) rfl rfl rfl rfl ?_; simp only [go_sem,simprocAttr]
  refine WC_splitn (fun h2 => ?_) (fun h2 => ?_) <;> simp only [h2,go_sem,simprocAttr] <;> (try simp only [beq_iff_eq,beq_eq_false_iff_ne,bne_iff_ne,ne_eq,decide_eq_true_eq,decide_eq_false_iff_not,Bool.not_true,Bool.not_false,Bool.not_eq_true,Bool.not_eq_false,bne_eq_false_iff_eq,Decidable.not_not] at h2)
  · rfl
  refine W_callo [3] (fits1_tri s j j.nodes 197 3 [.int number] (takes1 number) hn rfl (fun n => takes1_tri n number)) rfl (by simp only [argRs,argR,List.map_cons,List.map_nil,go_sem,simprocAttr]) (by decide) (by simp only [go_sem,simprocAttr]) (by simp only [go_sem,simprocAttr,List.all_cons,List.all_nil]) (by simp) ?_; simp only [go_sem,simprocAttr]

theorem sound_tri (s : StateD) (n : NodeD) (number : Nat) (hnb : number < 50) (hl : s.jobs.length ≤ 1000000) : Tri Tryz.prog G 114 [stateV s, nodeV n, .int number] [] (.bool (soundB s n number)) [] := by
  refine tri_W0 Tryz.func114 (by decide) irOk114 (Nat.le_of_ble_eq_true rfl) rfl ?_
  simp only [ir114,go_sem,simprocAttr]
  unfold soundB
  have e1 : ∀ x : Int, decide (x ≠ 0) = (x != 0) := fun x => by rw [Bool.eq_iff_iff]; simp
  have e2 : ∀ x : Int, decide (x = 0) = (x == 0) := fun x => rfl
  rw [e1, e2]
  refine W_calld (within_tri _ _ _) rfl rfl rfl rfl ?_; simp only [go_sem,simprocAttr]
  refine WG_splitn (fun h1 => ?_) (fun h1 => ?_) <;> simp only [h1,go_sem,simprocAttr] <;> (try simp only [beq_iff_eq,beq_eq_false_iff_ne,bne_iff_ne,ne_eq,decide_eq_true_eq,decide_eq_false_iff_not,Bool.not_true,Bool.not_false,Bool.not_eq_true,Bool.not_eq_false,bne_eq_false_iff_eq,Decidable.not_not] at h1)
  refine W_calld (within_tri _ _ _) rfl rfl rfl rfl ?_; simp only [go_sem,simprocAttr]
  cases h2 : withinB n.job 0 s.jobs.length with
  | false => simp only [go_sem,simprocAttr]
  | true =>
    simp only [go_sem,simprocAttr]
    have hb : 0 ≤ n.job ∧ n.job ≤ s.jobs.length := of_decide_eq_true h2
    cases hj : (n.job == 0) with
    | true =>
      have hj2 : (n.job != 0) = false := by simp [bne,hj]
      simp only [hj2,go_sem,simprocAttr]
      repeat' (first | simp only [hj,hj2,go_sem,simprocAttr] | ((first | with_reducible refine WG_splitn (fun h => ?_) (fun h => ?_) | refine WG_split (fun h => ?_) (fun h => ?_)) <;> simp only [h,go_sem,simprocAttr]) | ((first | with_reducible refine WC_splitn (fun h => ?_) (fun h => ?_) | refine WC_split (fun h => ?_) (fun h => ?_)) <;> simp only [h,go_sem,simprocAttr]))
    | false =>
      have hj2 : (n.job != 0) = true := by simp [bne,hj]
      have hj3 : n.job ≠ 0 := by simpa using hj
      have hw : IntKind.i64.wrap (n.job - 1) = n.job - 1 := wrap_in (by omega) (by omega)
      have h0 : 0 ≤ n.job - 1 := by omega
      have hg : (s.jobs.map jobR)[(n.job - 1).toNat]? = some (jobR (s.jobs.getD (n.job - 1).toNat zeroJob)) := get_mapD _ (by omega)
      simp only [hj2,go_sem,simprocAttr]
      repeat' (first | simp only [hj,hj2,hw,h0,hg,bit_eq _ number (show number < 64 by omega),go_sem,simprocAttr] | ((first | with_reducible refine WG_splitn (fun h => ?_) (fun h => ?_) | refine WG_split (fun h => ?_) (fun h => ?_)) <;> simp only [h,go_sem,simprocAttr]) | ((first | with_reducible refine WC_splitn (fun h => ?_) (fun h => ?_) | refine WC_split (fun h => ?_) (fun h => ?_)) <;> simp only [h,go_sem,simprocAttr]))

def rightS1 (c : ConfD) (s : StateD) (k : Nat) : St := ⟨[(2, .ptr 0 0), (3, .ptr 1 0), (52, jobsV s.jobs), (53, .int s.jobs.length), (54, .int k)], [some (.box 23 [.int c.nodes, .int c.queues, .int c.quota, .int c.wave, .int c.lease, .int c.retry, .int c.deadline, .int c.room, .int c.disk]), some (.box 30 [nodesV s.nodes, jobsV s.jobs, .int s.goal, .int s.prior, .int s.mode, .int s.term])]⟩
def rightS2 (c : ConfD) (s : StateD) (k : Nat) : St := ⟨[(2, .ptr 0 0), (3, .ptr 1 0), (68, nodesV s.nodes), (69, .int s.nodes.length), (70, .int k)], [some (.box 23 [.int c.nodes, .int c.queues, .int c.quota, .int c.wave, .int c.lease, .int c.retry, .int c.deadline, .int c.room, .int c.disk]), some (.box 30 [nodesV s.nodes, jobsV s.jobs, .int s.goal, .int s.prior, .int s.mode, .int s.term])]⟩
def rightS3 (c : ConfD) (s : StateD) (k : Nat) : St := ⟨[(2, .ptr 0 0), (3, .ptr 1 0), (82, .int c.queues), (83, .int k)], [some (.box 23 [.int c.nodes, .int c.queues, .int c.quota, .int c.wave, .int c.lease, .int c.retry, .int c.deadline, .int c.room, .int c.disk]), some (.box 30 [nodesV s.nodes, jobsV s.jobs, .int s.goal, .int s.prior, .int s.mode, .int s.term])]⟩
theorem mayB_spec {c : ConfD} (h : mayB c = true) : 1 ≤ c.nodes ∧ c.nodes ≤ 6 ∧ 1 ≤ c.queues ∧ c.queues ≤ 3 := by
  unfold mayB at h
  simp only [Bool.and_eq_true] at h
  have h1 := within_t h.1.1.1.1.1.1.1.1
  have h2 := within_t h.1.1.1.1.1.1.1.2
  omega
theorem right_tri (c : ConfD) (s : StateD) : Tri Tryz.prog G 42 [confV c, stateV s] [] (.bool (rightB c s)) [] := by
  refine tri_W0 Tryz.func42 (by decide) irOk42 (Nat.le_of_ble_eq_true rfl) rfl ?_
  simp only [ir42,go_sem,simprocAttr]
  unfold rightB
  have e1 : decide ((s.nodes.length : Int) = c.nodes) = !((s.nodes.length : Int) != c.nodes) := by rw [Bool.eq_iff_iff]; simp
  have e2 : decide (s.jobs.length ≤ 24) = !(decide ((s.jobs.length : Int) > 24)) := by rw [Bool.eq_iff_iff]; simp; omega
  rw [e1, e2]
  refine W_calld (may_tri c) rfl rfl rfl rfl ?_; simp only [go_sem,simprocAttr]
  cases hm : mayB c with
  | false => simp only [go_sem,simprocAttr]
  | true =>
    have hc := mayB_spec hm
    simp only [go_sem,simprocAttr]
    repeat' (first
      | (refine W_calld (within_tri _ _ _) rfl rfl rfl rfl ?_; simp only [go_sem,simprocAttr])
      | ((first | with_reducible refine WG_splitn (fun h => ?_) (fun h => ?_) | refine WG_split (fun h => ?_) (fun h => ?_)) <;> simp only [h,go_sem,simprocAttr]))
    refine WC_splitn (fun ht => ?_) (fun ht => ?_) <;> simp only [ht,go_sem,simprocAttr] <;> (try simp only [beq_iff_eq,beq_eq_false_iff_ne,bne_iff_ne,ne_eq,decide_eq_true_eq,decide_eq_false_iff_not,Bool.not_true,Bool.not_false,Bool.not_eq_true,Bool.not_eq_false,bne_eq_false_iff_eq,Decidable.not_not] at ht)
    have hj : s.jobs.length ≤ 24 := by simp_all
    have hn : s.nodes.length ≤ 6 := by simp_all; omega
    generalize hq : (standsFrom c s s.jobs 0 && soundFrom s s.nodes 0 && quotaFrom c s 0 c.queues.toNat) = r
    refine W_loopI [2, 3, 52, 53, 54] [] (fun k : Nat => k ≤ s.jobs.length ∧ (standsFrom c s (s.jobs.drop k) k && soundFrom s s.nodes 0 && quotaFrom c s 0 c.queues.toNat) = r) (fun k => s.jobs.length - k) (rightS1 c s) 0 ?_ ⟨Nat.zero_le _, hq⟩ ?_
    · simp only [rightS1,go_sem,simprocAttr,Int.natCast_zero]
    rintro k ⟨hk, hF⟩
    simp only [rightS1,go_sem,simprocAttr]
    refine WC_split (fun h => ?_) (fun h => ?_)
    · have h := lt_of_dec h
      rw [List.drop_eq_getElem_cons h, standsFrom] at hF
      simp only [get_map h,go_sem,simprocAttr,wrap_succ (show k < 9223372036854775807 by omega)]
      refine W_calld (stands_tri c s s.jobs[k] (k + 1 : Nat) hn ⟨hc.2.2.1, by omega⟩) rfl rfl rfl rfl ?_; simp only [go_sem,simprocAttr]
      cases hs : standsB c s s.jobs[k] (k + 1 : Nat) with
      | false =>
        have hs' : standsB c s s.jobs[k] ((k : Int) + 1) = false := hs
        rw [hs'] at hF
        simp only [Bool.false_and] at hF
        simp only [go_sem,simprocAttr,← hF]
      | true =>
        have hs' : standsB c s s.jobs[k] ((k : Int) + 1) = true := hs
        rw [hs', Bool.true_and] at hF
        simp only [go_sem,simprocAttr]
        refine W_lpI (k + 1) ?_ ?_ ⟨h, hF⟩ (by omega)
        · simp only [go_sem,simprocAttr]
        · simp only [rightS1,go_sem,simprocAttr,wrap_succ (show k < 9223372036854775807 by omega)]
    · obtain rfl := eq_of_dec h hk
      clear hq hk
      rw [List.drop_length, standsFrom, Bool.true_and] at hF
      simp only [go_sem,simprocAttr]
      refine W_loopI [2, 3, 68, 69, 70] [] (fun k : Nat => k ≤ s.nodes.length ∧ (soundFrom s (s.nodes.drop k) k && quotaFrom c s 0 c.queues.toNat) = r) (fun k => s.nodes.length - k) (rightS2 c s) 0 ?_ ⟨Nat.zero_le _, hF⟩ ?_
      · simp only [rightS2,go_sem,simprocAttr,Int.natCast_zero]
      clear hF
      rintro k ⟨hk, hF⟩
      simp only [rightS2,go_sem,simprocAttr]
      refine WC_split (fun h => ?_) (fun h => ?_)
      · have h := lt_of_dec h
        rw [List.drop_eq_getElem_cons h, soundFrom] at hF
        simp only [get_map h,go_sem,simprocAttr]
        refine W_calld (sound_tri s s.nodes[k] k (by omega) (by omega)) rfl rfl rfl rfl ?_; simp only [go_sem,simprocAttr]
        cases hs : soundB s s.nodes[k] k with
        | false =>
          rw [hs] at hF
          simp only [Bool.false_and] at hF
          simp only [go_sem,simprocAttr,← hF]
        | true =>
          rw [hs, Bool.true_and] at hF
          simp only [go_sem,simprocAttr]
          refine W_lpI (k + 1) ?_ ?_ ⟨h, hF⟩ (by omega)
          · simp only [go_sem,simprocAttr]
          · simp only [rightS2,go_sem,simprocAttr,wrap_succ (show k < 9223372036854775807 by omega)]
      · obtain rfl := eq_of_dec h hk
        clear hk
        rw [List.drop_length, soundFrom, Bool.true_and] at hF
        simp only [go_sem,simprocAttr]
        refine W_loopI [2, 3, 82, 83] [] (fun k : Nat => (k : Int) ≤ c.queues ∧ quotaFrom c s k (c.queues - k).toNat = r) (fun k => (c.queues - k).toNat) (rightS3 c s) 0 ?_ ⟨by omega, by simpa using hF⟩ ?_
        · simp only [rightS3,go_sem,simprocAttr,Int.natCast_zero]
        clear hF
        rintro k ⟨hk, hF⟩
        simp only [rightS3,go_sem,simprocAttr]
        refine WC_split (fun h => ?_) (fun h => ?_) <;> simp only [h,go_sem,simprocAttr] <;> (try simp only [beq_iff_eq,beq_eq_false_iff_ne,bne_iff_ne,ne_eq,decide_eq_true_eq,decide_eq_false_iff_not,Bool.not_true,Bool.not_false,Bool.not_eq_true,Bool.not_eq_false,bne_eq_false_iff_eq,Decidable.not_not] at h)
        · rw [show (c.queues - (k : Int)).toNat = (c.queues - ((k + 1 : Nat) : Int)).toNat + 1 by omega, quotaFrom] at hF
          refine WD_calld (drains_tri s k (by omega)) rfl rfl rfl rfl ?_; simp only [go_sem,simprocAttr]
          refine WC_split (fun hs => ?_) (fun hs => ?_) <;> simp only [hs,go_sem,simprocAttr] <;> (try simp only [beq_iff_eq,beq_eq_false_iff_ne,bne_iff_ne,ne_eq,decide_eq_true_eq,decide_eq_false_iff_not,Bool.not_true,Bool.not_false,Bool.not_eq_true,Bool.not_eq_false,bne_eq_false_iff_eq,Decidable.not_not] at hs)
          · rw [show decide (c.quota < drainsL s.jobs k) = true by simpa using hs] at hF
            simp only [Bool.not_true,Bool.false_and] at hF
            simp only [← hF,go_sem,simprocAttr]
          · rw [show decide (c.quota < drainsL s.jobs k) = false by simpa using hs] at hF
            simp only [Bool.not_false,Bool.true_and] at hF
            refine W_lpI (k + 1) ?_ ?_ ⟨by omega, hF⟩ (by omega)
            · simp only [go_sem,simprocAttr]
            · simp only [rightS3,go_sem,simprocAttr,wrap_succ (show k < 9223372036854775807 by omega)]
        · rw [show (c.queues - (k : Int)).toNat = 0 by omega, quotaFrom] at hF
          simp only [← hF,go_sem,simprocAttr]
end Dv
