/- The document's LetGo and Same. -/
import Derived.Test.YtkalnfkokkjliaaGreatDoorD17
set_option linter.unusedVariables false
set_option linter.unusedSimpArgs false
namespace Dv
open Go Go.Proofs
variable {G : Nat → Option (List DV)}

def ir20 : Nat × C × List RV := (87,
(.seq (.reg [qo 2 (.box 30 (.t 0)),
 qo 3 (.box 30 (.t 1)),
 qo 4 (.mv qf)])
 (.seq (.seq (.reg [qo 7 (.fad 0 (.t 2)),
 qo 8 (.ld1 (.t 7)),
 qo 9 (.len (.t 8)),
 qo 10 (.fad 0 (.t 3)),
 qo 11 (.ld1 (.t 10)),
 qo 12 (.len (.t 11)),
 qo 13 (.bin .neq (.t 9) (.t 12)),
 qm 14 13,
 qg 15 (.fad 1 (.t 2)) 14 false,
 qg 16 (.ld1 (.t 15)) 14 false,
 qg 17 (.len (.t 16)) 14 false,
 qg 18 (.fad 1 (.t 3)) 14 false,
 qg 19 (.ld1 (.t 18)) 14 false,
 qg 20 (.len (.t 19)) 14 false,
 qg 21 (.bin .neq (.t 17) (.t 20)) 14 false,
 qo 22 (.pick (.t 14) qt (.t 21)),
 qm 23 22,
 qg 24 (.fad 2 (.t 2)) 23 false,
 qg 25 (.ld1 (.t 24)) 23 false,
 qg 26 (.fad 2 (.t 3)) 23 false,
 qg 27 (.ld1 (.t 26)) 23 false,
 qg 28 (.bin .neq (.t 25) (.t 27)) 23 false,
 qo 29 (.pick (.t 23) qt (.t 28)),
 qm 30 29,
 qg 31 (.fad 3 (.t 2)) 30 false,
 qg 32 (.ld1 (.t 31)) 30 false,
 qg 33 (.fad 3 (.t 3)) 30 false,
 qg 34 (.ld1 (.t 33)) 30 false,
 qg 35 (.bin .neq (.t 32) (.t 34)) 30 false,
 qo 36 (.pick (.t 30) qt (.t 35)),
 qm 37 36,
 qg 38 (.fad 4 (.t 2)) 37 false,
 qg 39 (.ld1 (.t 38)) 37 false,
 qg 40 (.fad 4 (.t 3)) 37 false,
 qg 41 (.ld1 (.t 40)) 37 false,
 qg 42 (.bin .neq (.t 39) (.t 41)) 37 false,
 qo 43 (.pick (.t 37) qt (.t 42)),
 qm 44 43,
 qg 45 (.fad 5 (.t 2)) 44 false,
 qg 46 (.ld1 (.t 45)) 44 false,
 qg 47 (.fad 5 (.t 3)) 44 false,
 qg 48 (.ld1 (.t 47)) 44 false,
 qg 49 (.bin .neq (.t 46) (.t 48)) 44 false,
 qo 50 (.pick (.t 44) qt (.t 49))])
 (.cond (.t 50) (.seq (.reg [qo 4 (.mv qf)])
 .ret)
 .skip))
 (.seq (.seq (.reg [qo 5 (.mv (qk 0))])
 (.block 0 (.loop (.seq (.seq (.reg [qm 51 5,
 qo 52 (.fad 0 (.t 2)),
 qo 53 (.ld1 (.t 52)),
 qo 54 (.len (.t 53)),
 qo 55 (.bin .lss (.t 51) (.t 54))])
 (.cond (.t 55) .skip
 (.exit 0)))
 (.seq (.block 1 (.seq (.regD [qo 58 (.fad 0 (.t 2)),
 qd 59 (.ld1 (.t 58)) [0],
 qm 60 5,
 qd 61 (.ixa 5 (.t 59) (.t 60)) [1,0,2],
 qd 62 (.ldn 5 (.t 61)) [3,1,0,2],
 qo 63 (.fad 0 (.t 3)),
 qd 64 (.ld1 (.t 63)) [5],
 qm 65 5,
 qd 66 (.ixa 5 (.t 64) (.t 65)) [6,5,7],
 qd 67 (.ldn 5 (.t 66)) [8,6,5,7],
 qd 68 (.eqs true [1,1,1,0,0] (.t 62) (.t 67)) [4,3,1,0,2,9,8,6,5,7]])
 (.cond (.t 68) (.seq (.reg [qo 4 (.mv qf)])
 .ret)
 .skip)))
 (.reg [qm 56 5,
 qo 57 (.bin .add (.t 56) (qk 1)),
 qm 5 57]))))))
 (.seq (.seq (.reg [qo 6 (.mv (qk 0))])
 (.block 2 (.loop (.seq (.seq (.reg [qm 69 6,
 qo 70 (.fad 1 (.t 2)),
 qo 71 (.ld1 (.t 70)),
 qo 72 (.len (.t 71)),
 qo 73 (.bin .lss (.t 69) (.t 72))])
 (.cond (.t 73) .skip
 (.exit 2)))
 (.seq (.block 3 (.seq (.regD [qo 76 (.fad 1 (.t 2)),
 qd 77 (.ld1 (.t 76)) [0],
 qm 78 6,
 qd 79 (.ixa 12 (.t 77) (.t 78)) [1,0,2],
 qd 80 (.ldn 12 (.t 79)) [3,1,0,2],
 qo 81 (.fad 1 (.t 3)),
 qd 82 (.ld1 (.t 81)) [5],
 qm 83 6,
 qd 84 (.ixa 12 (.t 82) (.t 83)) [6,5,7],
 qd 85 (.ldn 12 (.t 84)) [8,6,5,7],
 qd 86 (.eqs true [0,0,0,0,0,0,0,0,0,0,0,0] (.t 80) (.t 85)) [4,3,1,0,2,9,8,6,5,7]])
 (.cond (.t 86) (.seq (.reg [qo 4 (.mv qf)])
 .ret)
 .skip)))
 (.reg [qm 74 6,
 qo 75 (.bin .add (.t 74) (qk 1)),
 qm 6 75]))))))
 (.seq (.reg [qo 4 (.mv qt)])
 .ret))))),
[(.t 4)])
theorem irOk20 : convFn Tryz.prog Tryz.f20 = some ir20 := by kernel_rfl


@[reducible] def stA (s : StateD) (a b : Nat) : LV := .agg [.sl a s.nodes.length 5 0 s.nodes.length, .sl b s.jobs.length 12 0 s.jobs.length, .int s.goal, .int s.prior, .int s.mode, .int s.term]
@[reducible] def datO (s : StateD) : List LObj := [.dat 102 5 (s.nodes.map nodeR), .dat 119 12 (s.jobs.map jobR)]

theorem node_dec (a b : NodeD) : (a.up == b.up && (a.cordon == b.cordon && (a.moving == b.moving && (a.version == b.version && (a.job == b.job && true))))) = decide (a = b) := by
  rw [Bool.eq_iff_iff]
  obtain ⟨a1, a2, a3, a4, a5⟩ := a
  obtain ⟨b1, b2, b3, b4, b5⟩ := b
  simp
theorem job_dec (a b : JobD) : (a.queue == b.queue && (a.prio == b.prio && (a.min == b.min && (a.max == b.max && (a.work == b.work && (a.pin == b.pin && (a.phase == b.phase && (a.inc == b.inc && (a.nodes == b.nodes && (a.since == b.since && (a.til == b.til && (a.epoch == b.epoch && true)))))))))))) = decide (a = b) := by
  rw [Bool.eq_iff_iff]
  obtain ⟨a1, a2, a3, a4, a5, a6, a7, a8, a9, a10, a11, a12⟩ := a
  obtain ⟨b1, b2, b3, b4, b5, b6, b7, b8, b9, b10, b11, b12⟩ := b
  simp
theorem same_dec (s t : StateD) : decide (s = t) = (decide (s.goal = t.goal ∧ s.prior = t.prior ∧ s.mode = t.mode ∧ s.term = t.term) && (decide (s.nodes = t.nodes) && decide (s.jobs = t.jobs))) := by
  rw [Bool.eq_iff_iff]
  obtain ⟨a1, a2, a3, a4, a5, a6⟩ := s
  obtain ⟨b1, b2, b3, b4, b5, b6⟩ := t
  simp
  constructor
  · rintro ⟨rfl, rfl, rfl, rfl, rfl, rfl⟩; simp
  · rintro ⟨⟨rfl, rfl, rfl, rfl⟩, rfl, rfl⟩; simp
theorem drop_dec {α : Type} [DecidableEq α] (l m : List α) (k : Nat) (z : α) (h1 : k < l.length) (h2 : k < m.length) : decide (l.drop k = m.drop k) = (decide (l.getD k z = m.getD k z) && decide (l.drop (k + 1) = m.drop (k + 1))) := by
  rw [drop_cons l k z h1, drop_cons m k z h2, Bool.eq_iff_iff]
  simp
def same9S1 (s t : StateD) (k : Nat) : St := ⟨[(2, .ptr 0 0), (3, .ptr 1 0), (5, .int k)], [some (.box 30 [nodesV s.nodes, jobsV s.jobs, .int s.goal, .int s.prior, .int s.mode, .int s.term]), some (.box 30 [nodesV t.nodes, jobsV t.jobs, .int t.goal, .int t.prior, .int t.mode, .int t.term])]⟩
def same9S2 (s t : StateD) (k : Nat) : St := ⟨[(2, .ptr 0 0), (3, .ptr 1 0), (6, .int k)], [some (.box 30 [nodesV s.nodes, jobsV s.jobs, .int s.goal, .int s.prior, .int s.mode, .int s.term]), some (.box 30 [nodesV t.nodes, jobsV t.jobs, .int t.goal, .int t.prior, .int t.mode, .int t.term])]⟩
theorem same9_tri (s t : StateD) (hn : s.nodes.length ≤ 1000000000000) (hj : s.jobs.length ≤ 1000000000000) : Tri Tryz.prog G 20 [stateV s, stateV t] [] (.bool (decide (s = t))) [] := by
  refine tri_W0 Tryz.func20 (by decide) irOk20 (Nat.le_of_ble_eq_true rfl) rfl ?_
  simp only [ir20,go_sem,simprocAttr]
  repeat' (first | ((first | with_reducible refine WG_splitn (fun h => ?_) (fun h => ?_) | refine WG_split (fun h => ?_) (fun h => ?_)) <;> simp only [h,go_sem,simprocAttr] <;> (try simp only [beq_iff_eq,beq_eq_false_iff_ne,bne_iff_ne,ne_eq,decide_eq_true_eq,decide_eq_false_iff_not,Bool.not_true,Bool.not_false,Bool.not_eq_true,Bool.not_eq_false,bne_eq_false_iff_eq,Decidable.not_not] at h)))
  all_goals try (symm; apply decide_eq_false; intro e; subst e; omega)
  refine WC_split (fun hterm => ?_) (fun hterm => ?_) <;> simp only [hterm,go_sem,simprocAttr] <;> (try simp only [beq_iff_eq,beq_eq_false_iff_ne,bne_iff_ne,ne_eq,decide_eq_true_eq,decide_eq_false_iff_not,Bool.not_true,Bool.not_false,Bool.not_eq_true,Bool.not_eq_false,bne_eq_false_iff_eq,Decidable.not_not] at hterm)
  · symm; apply decide_eq_false; intro e; subst e; omega
  have hln : s.nodes.length = t.nodes.length := by omega
  have hlj : s.jobs.length = t.jobs.length := by omega
  rw [same_dec, decide_eq_true (show s.goal = t.goal ∧ s.prior = t.prior ∧ s.mode = t.mode ∧ s.term = t.term by omega), Bool.true_and]
  generalize hq : (decide (s.nodes = t.nodes) && decide (s.jobs = t.jobs)) = r
  refine W_loopI [2, 3, 5] [] (fun k : Nat => k ≤ s.nodes.length ∧ (decide (s.nodes.drop k = t.nodes.drop k) && decide (s.jobs = t.jobs)) = r) (fun k => s.nodes.length - k) (same9S1 s t) 0 ?_ ⟨Nat.zero_le _, hq⟩ ?_
  · simp only [same9S1,go_sem,simprocAttr,Int.natCast_zero]
  rintro k ⟨hk, hF⟩
  simp only [same9S1,go_sem,simprocAttr]
  refine WC_split (fun h => ?_) (fun h => ?_)
  · have h := lt_of_dec h
    have h2 : k < t.nodes.length := by omega
    rw [drop_dec s.nodes t.nodes k zeroNode h h2] at hF
    have hg := get_mapD (f := nodeR) zeroNode h
    have hg2 := get_mapD (f := nodeR) zeroNode h2
    generalize s.nodes.getD k zeroNode = a at *
    generalize t.nodes.getD k zeroNode = b at *
    simp only [hg,hg2,go_sem,simprocAttr]
    have hnd := node_dec a b
    simp only [Bool.and_true] at hnd
    simp only [hnd,go_sem,simprocAttr]
    cases hab : decide (a = b) with
    | false =>
      rw [hab] at hF
      simp only [Bool.false_and] at hF
      simp only [hab,go_sem,simprocAttr,← hF]
    | true =>
      rw [hab, Bool.true_and] at hF
      simp only [hab,go_sem,simprocAttr]
      refine W_lpI (k + 1) ?_ ?_ ⟨by omega, hF⟩ (by omega)
      · simp only [go_sem,simprocAttr]
      · simp only [same9S1,go_sem,simprocAttr,wrap_succ (show k < 9223372036854775807 by omega)]
  · obtain rfl := eq_of_dec h hk
    clear hq hk
    rw [List.drop_length, hln, List.drop_length, decide_eq_true rfl, Bool.true_and] at hF
    simp only [go_sem,simprocAttr]
    refine W_loopI [2, 3, 6] [] (fun k : Nat => k ≤ s.jobs.length ∧ decide (s.jobs.drop k = t.jobs.drop k) = r) (fun k => s.jobs.length - k) (same9S2 s t) 0 ?_ ⟨Nat.zero_le _, hF⟩ ?_
    · simp only [same9S2,go_sem,simprocAttr,Int.natCast_zero]
    clear hF
    rintro k ⟨hk, hF⟩
    simp only [same9S2,go_sem,simprocAttr]
    refine WC_split (fun h => ?_) (fun h => ?_)
    · have h := lt_of_dec h
      have h2 : k < t.jobs.length := by omega
      rw [drop_dec s.jobs t.jobs k zeroJob h h2] at hF
      have hg := get_mapD (f := jobR) zeroJob h
      have hg2 := get_mapD (f := jobR) zeroJob h2
      generalize s.jobs.getD k zeroJob = a at *
      generalize t.jobs.getD k zeroJob = b at *
      simp only [hg,hg2,go_sem,simprocAttr]
      have hjd := job_dec a b
      simp only [Bool.and_true] at hjd
      simp only [hjd,go_sem,simprocAttr]
      cases hab : decide (a = b) with
      | false =>
        rw [hab] at hF
        simp only [Bool.false_and] at hF
        simp only [hab,go_sem,simprocAttr,← hF]
      | true =>
        rw [hab, Bool.true_and] at hF
        simp only [hab,go_sem,simprocAttr]
        refine W_lpI (k + 1) ?_ ?_ ⟨by omega, hF⟩ (by omega)
        · simp only [go_sem,simprocAttr]
        · simp only [same9S2,go_sem,simprocAttr,wrap_succ (show k < 9223372036854775807 by omega)]
    · obtain rfl := eq_of_dec h hk
      rw [List.drop_length, hlj, List.drop_length, decide_eq_true rfl] at hF
      simp only [go_sem,simprocAttr,← hF]
end Dv
