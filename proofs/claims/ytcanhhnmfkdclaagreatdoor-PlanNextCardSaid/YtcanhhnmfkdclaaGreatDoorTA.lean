/- The logical machine and its plain laws: parts T2, T3, proved sound. -/
import Derived.Test.YtcanhhnmfkdclaaGreatDoorQA
import Derived.Test.YtcanhhnmfkdclaaGreatDoorD15
import Derived.Test.YtcanhhnmfkdclaaGreatDoorD4
set_option linter.unusedVariables false
set_option linter.unusedSimpArgs false
namespace Dv
open Go Go.Proofs
variable {G : Nat → Option (List DV)}

def ir83 : Nat × C × List RV := (22,
(.seq (.reg [qo 1 (.box 27 (.t 0)),
 qo 2 (.mv (qk 0))])
 (.seq (.reg [qo 3 (.mv (qk 0))])
 (.seq (.seq (.reg [qo 6 (.fad 0 (.t 1)),
 qo 7 (.ld1 (.t 6)),
 qo 8 (.len (.t 7)),
 qo 9 (.mv (qk 0))])
 (.block 0 (.loop (.seq (.reg [qo 10 (.bin .lss (.t 9) (.t 8))])
 (.seq (.cond (.t 10) .skip
 (.exit 0))
 (.seq (.block 1 (.seq (.reg [qm 11 9,
 qo 12 (.ixa 5 (.t 7) (.t 9)),
 qo 13 (.ldn 5 (.t 12)),
 qo 5 (.new 49 [(.val (.bool false)),(.val (.bool false)),(.val (.bool false)),q0,q0]),
 qm 4 11,
 qn (.st 5 (.t 5) (.t 13))])
 (.seq (.reg [qo 14 (.ldn 5 (.t 5)),
 qo 15 (.call (.f 119) [(.t 14)])])
 (.cond (.t 15) (.reg [qm 16 3,
 qm 17 4,
 qo 18 (.bin .shl (qk 1) (.t 17)),
 qo 19 (.bin .or (.t 16) (.t 18)),
 qm 3 19])
 .skip))))
 (.reg [qo 20 (.bin .add (.t 9) (qk 1)),
 qm 9 20])))))))
 (.seq (.reg [qm 21 3,
 qm 2 21])
 .ret)))),
[(.t 2)])
theorem irOk83 : convFn Tryz.prog Tryz.f83 = some ir83 := by kernel_rfl
def ir136 : Nat × C × List RV := (49,
(.seq (.reg [qo 3 (.box 27 (.t 0)),
 qo 6 (.mv (qk 0))])
 (.seq (.reg [qo 7 (.mv (qk 0))])
 (.seq (.seq (.reg [qo 10 (.fad 0 (.t 3)),
 qo 11 (.ld1 (.t 10)),
 qo 12 (.len (.t 11)),
 qo 13 (.mv (qk 0))])
 (.block 0 (.loop (.seq (.reg [qo 14 (.bin .lss (.t 13) (.t 12))])
 (.seq (.cond (.t 14) .skip
 (.exit 0))
 (.seq (.block 1 (.seq (.reg [qm 15 13,
 qo 16 (.ixa 5 (.t 11) (.t 13)),
 qo 17 (.ldn 5 (.t 16)),
 qo 9 (.new 49 [(.val (.bool false)),(.val (.bool false)),(.val (.bool false)),q0,q0]),
 qm 8 15,
 qn (.st 5 (.t 9) (.t 17))])
 (.seq (.reg [qm 18 1,
 qm 19 8,
 qo 20 (.bin .shr (.t 18) (.t 19)),
 qo 21 (.bin .and (.t 20) (qk 1)),
 qo 22 (.bin .eql (.t 21) (qk 1)),
 qm 23 22,
 qg 24 (.fad 0 (.t 9)) 23 true,
 qg 25 (.ld1 (.t 24)) 23 true,
 qo 26 (.pick (.t 23) (.t 25) qf),
 qm 27 26,
 qg 28 (.fad 1 (.t 9)) 27 true,
 qg 29 (.ld1 (.t 28)) 27 true,
 qg 30 (.not (.t 29)) 27 true,
 qo 31 (.pick (.t 27) (.t 30) qf),
 qm 32 31,
 qg 33 (.fad 2 (.t 9)) 32 true,
 qg 34 (.ld1 (.t 33)) 32 true,
 qg 35 (.not (.t 34)) 32 true,
 qo 36 (.pick (.t 32) (.t 35) qf),
 qm 37 36,
 qg 38 (.fad 3 (.t 9)) 37 true,
 qg 39 (.ld1 (.t 38)) 37 true,
 qg 40 (.mv (.t 2)) 37 true,
 qg 41 (.bin .eql (.t 39) (.t 40)) 37 true,
 qo 42 (.pick (.t 37) (.t 41) qf)])
 (.cond (.t 42) (.reg [qm 43 7,
 qm 44 8,
 qo 45 (.bin .shl (qk 1) (.t 44)),
 qo 46 (.bin .or (.t 43) (.t 45)),
 qm 7 46])
 .skip))))
 (.reg [qo 47 (.bin .add (.t 13) (qk 1)),
 qm 13 47])))))))
 (.seq (.reg [qm 48 7,
 qm 6 48])
 .ret)))),
[(.t 6)])
theorem irOk136 : convFn Tryz.prog Tryz.f136 = some ir136 := by kernel_rfl
def ir118 : Nat × C × List RV := (26,
(.seq (.reg [qo 4 (.mv (qk 0))])
 (.seq (.reg [qo 5 (.mv (qk 0))])
 (.seq (.block 0 (.loop (.seq (.seq (.reg [qm 7 0,
 qo 8 (.bin .neq (.t 7) (qk 0)),
 qm 9 8,
 qg 10 (.mv (.t 1)) 9 true,
 qg 11 (.bin .gtr (.t 10) (qk 0)) 9 true,
 qo 12 (.pick (.t 9) (.t 11) qf)])
 (.cond (.t 12) .skip
 (.exit 0)))
 (.seq (.block 1 (.seq (.reg [qm 15 0,
 qm 16 0,
 qo 17 (.neg (.t 16)),
 qo 18 (.bin .and (.t 15) (.t 17)),
 qm 6 18])
 (.seq (.reg [qm 19 5,
 qm 20 6,
 qo 21 (.bin .or (.t 19) (.t 20)),
 qm 5 21])
 (.reg [qm 22 0,
 qm 23 6,
 qo 24 (.bin .andNot (.t 22) (.t 23)),
 qm 0 24]))))
 (.reg [qm 13 1,
 qo 14 (.bin .sub (.t 13) (qk 1)),
 qm 1 14])))))
 (.seq (.reg [qm 25 5,
 qm 4 25])
 .ret)))),
[(.t 4)])
theorem irOk118 : convFn Tryz.prog Tryz.f118 = some ir118 := by kernel_rfl
def ir70 : Nat × C × List RV := (25,
(.seq (.reg [qo 1 (.box 27 (.t 0)),
 qo 2 (.mv (qk 0))])
 (.seq (.reg [qo 3 (.mv (qk 0)),
 qo 4 (.mv (qk 1))])
 (.seq (.seq (.reg [qo 5 (.mv (qk 0))])
 (.block 0 (.loop (.seq (.seq (.reg [qm 6 5,
 qo 7 (.fad 0 (.t 1)),
 qo 8 (.ld1 (.t 7)),
 qo 9 (.len (.t 8)),
 qo 10 (.bin .lss (.t 6) (.t 9))])
 (.cond (.t 10) .skip
 (.exit 0)))
 (.seq (.block 1 (.seq (.seq (.reg [qo 13 (.fad 0 (.t 1)),
 qo 14 (.ld1 (.t 13)),
 qm 15 5,
 qo 16 (.ixa 5 (.t 14) (.t 15)),
 qo 17 (.ldn 5 (.t 16)),
 qo 18 (.call (.f 68) [(.t 17)])])
 (.cond (.t 18) (.reg [qm 19 3,
 qm 20 4,
 qo 21 (.bin .add (.t 19) (.t 20)),
 qm 3 21])
 .skip))
 (.reg [qm 22 4,
 qo 23 (.bin .mul (.t 22) (qk 2)),
 qm 4 23])))
 (.reg [qm 11 5,
 qo 12 (.bin .add (.t 11) (qk 1)),
 qm 5 12]))))))
 (.seq (.reg [qm 24 3,
 qm 2 24])
 .ret)))),
[(.t 2)])
theorem irOk70 : convFn Tryz.prog Tryz.f70 = some ir70 := by kernel_rfl
def ir89 : Nat × C × List RV := (52,
(.seq (.reg [qo 3 (.box 27 (.t 0)),
 qo 6 (.mv (qk 0))])
 (.seq (.reg [qo 7 (.mv (qk 0)),
 qo 8 (.mv (qk 1))])
 (.seq (.seq (.reg [qo 9 (.mv (qk 0))])
 (.block 0 (.loop (.seq (.seq (.reg [qm 11 9,
 qo 12 (.fad 0 (.t 3)),
 qo 13 (.ld1 (.t 12)),
 qo 14 (.len (.t 13)),
 qo 15 (.bin .lss (.t 11) (.t 14))])
 (.cond (.t 15) .skip
 (.exit 0)))
 (.seq (.block 1 (.seq (.reg [qo 18 (.fad 0 (.t 3)),
 qo 19 (.ld1 (.t 18)),
 qm 20 9,
 qo 21 (.ixa 5 (.t 19) (.t 20)),
 qo 22 (.ldn 5 (.t 21)),
 qo 10 (.new 49 [(.val (.bool false)),(.val (.bool false)),(.val (.bool false)),q0,q0]),
 qn (.st 5 (.t 10) (.t 22))])
 (.seq (.seq (.reg [qm 23 1,
 qm 24 9,
 qo 25 (.call (.f 55) [(.t 23),(.t 24)]),
 qm 26 25,
 qg 27 (.fad 0 (.t 10)) 26 true,
 qg 28 (.ld1 (.t 27)) 26 true,
 qo 29 (.pick (.t 26) (.t 28) qf),
 qm 30 29,
 qg 31 (.fad 1 (.t 10)) 30 true,
 qg 32 (.ld1 (.t 31)) 30 true,
 qg 33 (.not (.t 32)) 30 true,
 qo 34 (.pick (.t 30) (.t 33) qf),
 qm 35 34,
 qg 36 (.fad 2 (.t 10)) 35 true,
 qg 37 (.ld1 (.t 36)) 35 true,
 qg 38 (.not (.t 37)) 35 true,
 qo 39 (.pick (.t 35) (.t 38) qf),
 qm 40 39,
 qg 41 (.fad 3 (.t 10)) 40 true,
 qg 42 (.ld1 (.t 41)) 40 true,
 qg 43 (.mv (.t 2)) 40 true,
 qg 44 (.bin .eql (.t 42) (.t 43)) 40 true,
 qo 45 (.pick (.t 40) (.t 44) qf)])
 (.cond (.t 45) (.reg [qm 46 7,
 qm 47 8,
 qo 48 (.bin .add (.t 46) (.t 47)),
 qm 7 48])
 .skip))
 (.reg [qm 49 8,
 qo 50 (.bin .mul (.t 49) (qk 2)),
 qm 8 50]))))
 (.reg [qm 16 9,
 qo 17 (.bin .add (.t 16) (qk 1)),
 qm 9 17]))))))
 (.seq (.reg [qm 51 7,
 qm 6 51])
 .ret)))),
[(.t 6)])
theorem irOk89 : convFn Tryz.prog Tryz.f89 = some ir89 := by kernel_rfl
def ir69 : Nat × C × List RV := (88,
(.seq (.reg [qo 3 (.box 27 (.t 0)),
 qo 4 (.box 47 (.t 1)),
 qo 6 (.mv (qk 0)),
 qo 7 (.mv qf)])
 (.seq (.reg [qo 8 (.mv (.c (.val (.int .i64 (-1))))),
 qo 9 (.mv (qk 0))])
 (.seq (.seq (.reg [qo 10 (.mv (qk 1))])
 (.block 0 (.loop (.seq (.seq (.reg [qm 16 10,
 qo 17 (.bin .leq (.t 16) (qk 9))])
 (.cond (.t 17) .skip
 (.exit 0)))
 (.seq (.block 1 (.seq (.reg [qo 20 (.ldn 6 (.t 3)),
 qm 21 2,
 qm 22 10,
 qo 23 (.call (.f 89) [(.t 20),(.t 21),(.t 22)]),
 qo 24 (.call (.f 64) [(.t 23)]),
 qm 11 24])
 (.seq (.seq (.reg [qm 25 11,
 qo 26 (.fad 2 (.t 4)),
 qo 27 (.ld1 (.t 26)),
 qo 28 (.bin .lss (.t 25) (.t 27)),
 qm 29 28,
 qg 30 (.fad 5 (.t 4)) 29 false,
 qg 31 (.ld1 (.t 30)) 29 false,
 qg 32 (.bin .gtr (.t 31) (qk 0)) 29 false,
 qg 33 (.mv (.t 32)) 29 false,
 qg 34 (.fad 5 (.t 4)) 33 true,
 qg 35 (.ld1 (.t 34)) 33 true,
 qg 36 (.mv (.t 10)) 33 true,
 qg 37 (.bin .neq (.t 35) (.t 36)) 33 true,
 qg 38 (.pick (.t 33) (.t 37) qf) 29 false,
 qo 39 (.pick (.t 29) qt (.t 38))])
 (.cond (.t 39) (.exit 1)
 .skip))
 (.seq (.seq (.reg [qm 40 11,
 qo 41 (.fad 3 (.t 4)),
 qo 42 (.ld1 (.t 41)),
 qo 43 (.bin .gtr (.t 40) (.t 42))])
 (.cond (.t 43) (.reg [qo 44 (.fad 3 (.t 4)),
 qo 45 (.ld1 (.t 44)),
 qm 11 45])
 .skip))
 (.seq (.reg [qm 46 11,
 qm 47 8,
 qo 48 (.bin .gtr (.t 46) (.t 47)),
 qm 49 48,
 qg 50 (.mv (.t 11)) 49 false,
 qg 51 (.mv (.t 8)) 49 false,
 qg 52 (.bin .eql (.t 50) (.t 51)) 49 false,
 qg 53 (.mv (.t 52)) 49 false,
 qg 54 (.mv (.t 10)) 53 true,
 qg 55 (.ldn 6 (.t 3)) 53 true,
 qg 56 (.call (.f 54) [(.t 55)]) 53 true,
 qg 57 (.bin .eql (.t 54) (.t 56)) 53 true,
 qg 58 (.pick (.t 53) (.t 57) qf) 49 false,
 qo 59 (.pick (.t 49) qt (.t 58))])
 (.cond (.t 59) (.seq (.reg [qm 60 11,
 qm 8 60])
 (.reg [qm 61 10,
 qm 9 61]))
 .skip))))))
 (.reg [qm 18 10,
 qo 19 (.bin .add (.t 18) (qk 1)),
 qm 10 19]))))))
 (.seq (.seq (.reg [qm 62 8,
 qo 63 (.bin .lss (.t 62) (qk 0))])
 (.cond (.t 63) (.seq (.reg [qo 6 (.mv (qk 0)),
 qo 7 (.mv qf)])
 .ret)
 .skip))
 (.seq (.reg [qo 64 (.ldn 6 (.t 3)),
 qm 65 2,
 qm 66 9,
 qo 67 (.call (.f 89) [(.t 64),(.t 65),(.t 66)]),
 qm 12 67])
 (.seq (.reg [qo 13 (.mv (qk 0)),
 qo 14 (.mv (qk 1))])
 (.seq (.seq (.reg [qo 15 (.mv (qk 0))])
 (.block 2 (.loop (.seq (.seq (.reg [qm 68 15,
 qo 69 (.bin .lss (.t 68) (qk 6))])
 (.cond (.t 69) .skip
 (.exit 2)))
 (.seq (.block 3 (.seq (.seq (.regD [qm 72 12,
 qm 73 15,
 qd 74 (.call (.f 55) [(.t 72),(.t 73)]) [0,1],
 qd 75 (.mv (.t 74)) [2,0,1],
 qe 76 (.mv (.t 13)) 75 true [3,2,0,1],
 qe 77 (.call (.f 64) [(.t 76)]) 75 true [4,3,2,0,1],
 qe 78 (.fad 3 (.t 4)) 75 true [3,2,0,1],
 qe 79 (.ld1 (.t 78)) 75 true [6,3,2,0,1],
 qe 80 (.bin .lss (.t 77) (.t 79)) 75 true [5,4,3,2,0,1,7,6],
 qd 81 (.pick (.t 75) (.t 80) qf) [3,2,0,1,8,5,4,7,6]])
 (.cond (.t 81) (.reg [qm 82 13,
 qm 83 14,
 qo 84 (.bin .add (.t 82) (.t 83)),
 qm 13 84])
 .skip))
 (.reg [qm 85 14,
 qo 86 (.bin .mul (.t 85) (qk 2)),
 qm 14 86])))
 (.reg [qm 70 15,
 qo 71 (.bin .add (.t 70) (qk 1)),
 qm 15 71]))))))
 (.seq (.reg [qm 87 13,
 qm 6 87,
 qo 7 (.mv qt)])
 .ret)))))))),
[(.t 6),(.t 7)])
theorem irOk69 : convFn Tryz.prog Tryz.f69 = some ir69 := by kernel_rfl


def boxS (s : StateD) : LObj := .box 27 [nodesV s.nodes, jobsV s.jobs, .int s.goal, .int s.prior, .int s.mode, .int s.term]
def boxJ (j : JobD) : LObj := .box 47 [.int j.queue, .int j.prio, .int j.min, .int j.max, .int j.work, .int j.pin, .int j.phase, .int j.inc, .int j.nodes, .int j.since, .int j.til, .int j.epoch]
theorem mask_b {f : Nat → Bool} {k : Nat} {b : Bool} (h : f k = b) : maskTo f (k + 1) = if b = true then maskTo f k + 2 ^ k else maskTo f k := by rw [← h]; rfl
def opnS (s : StateD) (k : Nat) : St := ⟨[(3, .int (maskTo (fun i => freeB (s.nodes.getD i zeroNode)) k)), (7, nodesV s.nodes), (8, .int s.nodes.length), (9, .int k)], [some (boxS s)]⟩
set_option maxHeartbeats 4000000 in
theorem fopen_tri (s : StateD) (hn : s.nodes.length ≤ 6) : Tri Tryz.prog G 83 [stateV s] [] (.int (freeS s)) [] := by
  refine tri_W0 Tryz.func83 (by decide) irOk83 (Nat.le_of_ble_eq_true rfl) rfl ?_
  simp only [ir83,go_sem,simprocAttr]
  refine W_loopI [3, 7, 8, 9] [] (fun k : Nat => k ≤ s.nodes.length) (fun k => s.nodes.length - k) (opnS s) 0 ?_ (Nat.zero_le _) (fun k hk => ?_)
  · simp only [opnS,boxS,go_sem,simprocAttr,maskTo,Int.natCast_zero]
  simp only [opnS,boxS,go_sem,simprocAttr]
  by_cases hlt : k < s.nodes.length
  · have hg := get_mapD (f := nodeR) zeroNode hlt
    have hm := mask_b (f := fun i => freeB (s.nodes.getD i zeroNode)) (k := k) (b := freeB (s.nodes.getD k zeroNode)) rfl
    have ho := mask_or (fun i => freeB (s.nodes.getD i zeroNode)) k (by omega)
    have hs1 := shl_one k (by omega)
    generalize s.nodes.getD k zeroNode = n at hg hm
    simp only [nodeR] at hg
    simp only [decide_eq_true (show ((k : Nat) : Int) < ((s.nodes.length : Nat) : Int) by omega),hg,go_sem,simprocAttr]
    refine W_calld (free_tri n) rfl rfl rfl rfl ?_; simp only [go_sem,simprocAttr]
    cases hf : freeB n with
    | true =>
      rw [hf, if_pos rfl, ← ho] at hm
      simp only [hs1,go_sem,simprocAttr]
      refine W_lpI (k + 1) ?_ ?_ (by omega) (by omega)
      · simp only [go_sem,simprocAttr]
      · simp only [opnS,boxS,hm,wrap_succ (show k < 9223372036854775807 by omega),go_sem,simprocAttr]
    | false =>
      rw [hf, if_neg (by decide)] at hm
      simp only [go_sem,simprocAttr]
      refine W_lpI (k + 1) ?_ ?_ (by omega) (by omega)
      · simp only [go_sem,simprocAttr]
      · simp only [opnS,boxS,hm,wrap_succ (show k < 9223372036854775807 by omega),go_sem,simprocAttr]
  · obtain rfl : k = s.nodes.length := by omega
    simp only [decide_eq_false (show ¬ ((s.nodes.length : Nat) : Int) < ((s.nodes.length : Nat) : Int) by omega),freeS,go_sem,simprocAttr]

def rdyS (s : StateD) (set v : Int) (k : Nat) : St := ⟨[(1, .int set), (2, .int v), (7, .int (maskTo (fun i => readyB set v i (s.nodes.getD i zeroNode)) k)), (11, nodesV s.nodes), (12, .int s.nodes.length), (13, .int k)], [some (boxS s)]⟩
set_option maxHeartbeats 8000000 in
theorem ready_tri (s : StateD) (set v : Int) (hn : s.nodes.length ≤ 6) : Tri Tryz.prog G 136 [stateV s, .int set, .int v] [] (.int (readyS s set v)) [] := by
  refine tri_W0 Tryz.func136 (by decide) irOk136 (Nat.le_of_ble_eq_true rfl) rfl ?_
  simp only [ir136,go_sem,simprocAttr]
  refine W_loopI [1, 2, 7, 11, 12, 13] [] (fun k : Nat => k ≤ s.nodes.length) (fun k => s.nodes.length - k) (rdyS s set v) 0 ?_ (Nat.zero_le _) (fun k hk => ?_)
  · simp only [rdyS,boxS,go_sem,simprocAttr,maskTo,Int.natCast_zero]
  simp only [rdyS,boxS,go_sem,simprocAttr]
  by_cases hlt : k < s.nodes.length
  · have hg := get_mapD (f := nodeR) zeroNode hlt
    have hm := mask_b (f := fun i => readyB set v i (s.nodes.getD i zeroNode)) (k := k) (b := readyB set v k (s.nodes.getD k zeroNode)) rfl
    have ho := mask_or (fun i => readyB set v i (s.nodes.getD i zeroNode)) k (by omega)
    have hs1 := shl_one k (by omega)
    have hb1 := bit_eq set k (by omega)
    generalize s.nodes.getD k zeroNode = n at hg hm
    simp only [nodeR] at hg
    have hrb : readyB set v k n = (hasB set k && n.up && !n.cordon && !n.moving && decide (n.version = v)) := rfl
    obtain ⟨up, cordon, moving, version, job⟩ := n
    dsimp only at hg hrb
    simp only [decide_eq_true (show ((k : Nat) : Int) < ((s.nodes.length : Nat) : Int) by omega),hg,hb1,go_sem,simprocAttr]
    have yes : readyB set v k ⟨up, cordon, moving, version, job⟩ = true → maskTo (fun i => readyB set v i (s.nodes.getD i zeroNode)) (k + 1) = orI .i64 (maskTo (fun i => readyB set v i (s.nodes.getD i zeroNode)) k) (2 ^ k) := fun h => by rw [hm, if_pos h, ho]
    have no : readyB set v k ⟨up, cordon, moving, version, job⟩ = false → maskTo (fun i => readyB set v i (s.nodes.getD i zeroNode)) (k + 1) = maskTo (fun i => readyB set v i (s.nodes.getD i zeroNode)) k := fun h => by rw [hm, h, if_neg (by decide)]
    rw [hrb] at yes no
    cases hb : hasB set k <;> (try cases up) <;> (try cases cordon) <;> (try cases moving) <;> (try (by_cases hv : version = v)) <;> simp only [hb,hv,hs1,bne_self_eq_false,beq_self_eq_true,decide_true,decide_false,Bool.and_true,Bool.and_false,Bool.true_and,Bool.false_and,Bool.not_true,Bool.not_false,Bool.false_eq_true,false_implies,true_implies,beq_eq_false_iff_ne.2,ne_eq,not_false_eq_true,reduceCtorEq,go_sem,simprocAttr] at yes no ⊢ <;>
      (refine W_lpI (k + 1) ?_ ?_ (by omega) (by omega)
       · simp only [go_sem,simprocAttr]
       · first
         | (simp only [rdyS,boxS,no,wrap_succ (show k < 9223372036854775807 by omega),go_sem,simprocAttr]; done)
         | simp only [rdyS,boxS,yes,wrap_succ (show k < 9223372036854775807 by omega),go_sem,simprocAttr])
  · obtain rfl : k = s.nodes.length := by omega
    simp only [decide_eq_false (show ¬ ((s.nodes.length : Nat) : Int) < ((s.nodes.length : Nat) : Int) by omega),readyS,go_sem,simprocAttr]

theorem low_step : ∀ a : Fin 64, a.val ≠ 0 → (∃ b : Fin 64, andI .i64 (a.val : Int) (-(a.val : Int)) = (b.val : Int)) ∧ ∃ c : Fin 64, andNotI .i64 (a.val : Int) (andI .i64 (a.val : Int) (-(a.val : Int))) = (c.val : Int) ∧ many (c.val : Int) + 1 = many (a.val : Int) := by decide +kernel
theorem many_zero : ∀ a : Fin 64, many (a.val : Int) = 0 → a.val = 0 := by decide +kernel
theorem set6_zero : Set6 0 := ⟨by decide, by decide⟩
def lowQ (a : Nat × Int × Int × Int) : St := ⟨[(0, .int a.2.1), (1, .int a.2.2.1), (5, .int a.2.2.2)], []⟩
set_option maxHeartbeats 4000000 in
theorem lowest_tri (set most : Int) (hs : Set6 set) (hm : 0 ≤ most ∧ most ≤ 1000) : Tri Tryz.prog G 118 [.int set, .int most] [] (.int (lowF 6 (set, most, 0))) [] := by
  refine tri_W0 Tryz.func118 (by decide) irOk118 (Nat.le_of_ble_eq_true rfl) rfl ?_
  simp only [ir118,go_sem,simprocAttr]
  generalize hR : lowF 6 (set, most, 0) = R
  refine W_loopI [0, 1, 5] [] (fun a : Nat × Int × Int × Int => Set6 a.2.1 ∧ Set6 a.2.2.2 ∧ many a.2.1 ≤ a.1 ∧ (0 ≤ a.2.2.1 ∧ a.2.2.1 ≤ 1000) ∧ lowF a.1 a.2 = R) (fun a => a.1) lowQ (6, set, most, 0) ?_ ⟨hs, set6_zero, (many_rng set).2, hm, hR⟩ ?_
  · simp only [lowQ,go_sem,simprocAttr]
  rintro ⟨f, p, m, out⟩ ⟨h1, h2, h3, h4, h5⟩
  dsimp only at h1 h2 h3 h4 h5
  simp only [lowQ,go_sem,simprocAttr]
  obtain ⟨n, rfl, hn⟩ := h1.nat
  by_cases hz : n = 0
  · subst hz
    have : R = out := by rw [← h5]; cases f with | zero => rfl | succ f => rw [lowF, if_neg (by simp)]
    subst this
    simp only [Int.natCast_zero,bne_self_eq_false,go_sem,simprocAttr]
  by_cases hm0 : 0 < m
  case neg =>
    have : R = out := by rw [← h5]; cases f with | zero => rfl | succ f => rw [lowF, if_neg (fun h => hm0 h.2)]
    subst this
    simp only [show ((n : Int) != 0) = true from bne_iff_ne.2 (by omega),decide_eq_false (show ¬ m > 0 by omega),go_sem,simprocAttr]
  obtain ⟨⟨b, hb⟩, c, hc, hmc⟩ := low_step ⟨n, hn⟩ hz
  dsimp only at hb hc hmc
  have hwn : IntKind.i64.wrap (0 - (n : Int)) = -(n : Int) := by rw [wrap_in (by omega) (by omega)]; omega
  have hwm : IntKind.i64.wrap (m - 1) = m - 1 := wrap_in (by omega) (by omega)
  cases f with
  | zero =>
    have h0 := many_rng (n : Int)
    exact absurd (many_zero ⟨n, hn⟩ (show many (n : Int) = 0 by omega)) hz
  | succ f =>
    have hst : lowF f (lowStep ((n : Int), m, out)) = R := by rw [← h5, lowF, if_pos ⟨by dsimp only; omega, hm0⟩]
    have e : lowStep ((n : Int), m, out) = ((c.val : Int), m - 1, orI .i64 out (b.val : Int)) := by unfold lowStep; dsimp only; rw [hc, hb]
    rw [e] at hst
    have hor := (orI_6 h2 (⟨by omega, by omega⟩ : Set6 (b.val : Int))).1
    simp only [show ((n : Int) != 0) = true from bne_iff_ne.2 (by omega),decide_eq_true (show m > 0 by omega),hwn,hwm,hb,go_sem,simprocAttr]
    rw [hb] at hc
    refine W_lpI (f, (c.val : Int), m - 1, orI .i64 out (b.val : Int)) ?_ ?_ ⟨⟨by dsimp only; omega, by dsimp only; omega⟩, hor, by dsimp only; omega, by dsimp only; omega, hst⟩ (by dsimp only; omega)
    · simp only [go_sem,simprocAttr]
    · simp only [lowQ,hc,go_sem,simprocAttr]
def opn9S (s : StateD) (k : Nat) : St := ⟨[(3, .int (maskTo (fun i => freeB (s.nodes.getD i zeroNode)) k)), (4, .int (2 ^ k)), (5, .int k)], [some (boxS s)]⟩
theorem dbl (k : Nat) (h : k ≤ 6) : IntKind.i64.wrap ((2 : Int) ^ k * 2) = 2 ^ (k + 1) := by
  have := pow6 k h
  rw [wrap_in (by omega) (by omega), Int.pow_succ]
theorem sum6 (f : Nat → Bool) (k : Nat) (h : k < 6) : IntKind.i64.wrap (maskTo f k + 2 ^ k) = maskTo f k + 2 ^ k := by
  have := pow6 k (by omega)
  have := maskTo_6 f k (by omega)
  exact wrap_in (by have := this.1; omega) (by have := this.2; omega)
set_option maxHeartbeats 4000000 in
theorem open15_tri (s : StateD) (hn : s.nodes.length ≤ 6) : Tri Tryz.prog G 70 [stateV s] [] (.int (freeS s)) [] := by
  refine tri_W0 Tryz.func70 (by decide) irOk70 (Nat.le_of_ble_eq_true rfl) rfl ?_
  simp only [ir70,go_sem,simprocAttr]
  refine W_loopI [1, 3, 4, 5] [] (fun k : Nat => k ≤ s.nodes.length) (fun k => s.nodes.length - k) (fun k => { opn9S s k with env := (1, .ptr 0 0) :: (opn9S s k).env }) 0 ?_ (Nat.zero_le _) (fun k hk => ?_)
  · simp only [opn9S,boxS,go_sem,simprocAttr,maskTo,Int.natCast_zero,Int.pow_zero]
  simp only [opn9S,boxS,List.length_map,go_sem,simprocAttr]
  by_cases hlt : k < s.nodes.length
  · have hg := get_mapD (f := nodeR) zeroNode hlt
    have hm := mask_b (f := fun i => freeB (s.nodes.getD i zeroNode)) (k := k) (b := freeB (s.nodes.getD k zeroNode)) rfl
    have ho := sum6 (fun i => freeB (s.nodes.getD i zeroNode)) k (by omega)
    have hd := dbl k (by omega)
    generalize s.nodes.getD k zeroNode = n at hg hm
    simp only [nodeR] at hg
    simp only [decide_eq_true (show ((k : Nat) : Int) < ((s.nodes.length : Nat) : Int) by omega),hg,go_sem,simprocAttr]
    refine W_calld (free9_tri n) rfl rfl rfl rfl ?_; simp only [go_sem,simprocAttr]
    cases hf : freeB n with
    | true =>
      rw [hf, if_pos rfl] at hm
      simp only [ho,hd,go_sem,simprocAttr]
      refine W_lpI (k + 1) ?_ ?_ (by omega) (by omega)
      · simp only [go_sem,simprocAttr]
      · simp only [opn9S,boxS,hm,wrap_succ (show k < 9223372036854775807 by omega),go_sem,simprocAttr]
    | false =>
      rw [hf, if_neg (by decide)] at hm
      simp only [hd,go_sem,simprocAttr]
      refine W_lpI (k + 1) ?_ ?_ (by omega) (by omega)
      · simp only [go_sem,simprocAttr]
      · simp only [opn9S,boxS,hm,wrap_succ (show k < 9223372036854775807 by omega),go_sem,simprocAttr]
  · obtain rfl : k = s.nodes.length := by omega
    simp only [decide_eq_false (show ¬ ((s.nodes.length : Nat) : Int) < ((s.nodes.length : Nat) : Int) by omega),freeS,go_sem,simprocAttr]
end Dv

namespace Dv
open Go Go.Proofs
variable {G : Nat → Option (List DV)}

def of9S (s : StateD) (set v : Int) (k : Nat) : St := ⟨[(1, .int set), (2, .int v), (3, .ptr 0 0), (7, .int (maskTo (fun i => readyB set v i (s.nodes.getD i zeroNode)) k)), (8, .int (2 ^ k)), (9, .int k)], [some (boxS s)]⟩
set_option maxHeartbeats 8000000 in
theorem of15_tri (s : StateD) (set v : Int) (hn : s.nodes.length ≤ 6) : Tri Tryz.prog G 89 [stateV s, .int set, .int v] [] (.int (readyS s set v)) [] := by
  refine tri_W0 Tryz.func89 (by decide) irOk89 (Nat.le_of_ble_eq_true rfl) rfl ?_
  simp only [ir89,go_sem,simprocAttr]
  refine W_loopI [1, 2, 3, 7, 8, 9] [] (fun k : Nat => k ≤ s.nodes.length) (fun k => s.nodes.length - k) (of9S s set v) 0 ?_ (Nat.zero_le _) (fun k hk => ?_)
  · simp only [of9S,boxS,go_sem,simprocAttr,maskTo,Int.natCast_zero,Int.pow_zero]
  simp only [of9S,boxS,List.length_map,go_sem,simprocAttr]
  by_cases hlt : k < s.nodes.length
  · have hg := get_mapD (f := nodeR) zeroNode hlt
    have hm := mask_b (f := fun i => readyB set v i (s.nodes.getD i zeroNode)) (k := k) (b := readyB set v k (s.nodes.getD k zeroNode)) rfl
    have ho := sum6 (fun i => readyB set v i (s.nodes.getD i zeroNode)) k (by omega)
    have hd := dbl k (by omega)
    generalize s.nodes.getD k zeroNode = n at hg hm
    simp only [nodeR] at hg
    have hrb : readyB set v k n = (hasB set k && n.up && !n.cordon && !n.moving && decide (n.version = v)) := rfl
    obtain ⟨up, cordon, moving, version, job⟩ := n
    dsimp only at hg hrb
    simp only [decide_eq_true (show ((k : Nat) : Int) < ((s.nodes.length : Nat) : Int) by omega),hg,go_sem,simprocAttr]
    refine W_calld (has9_tri set k (by omega)) rfl rfl rfl rfl ?_; simp only [go_sem,simprocAttr]
    have yes : readyB set v k ⟨up, cordon, moving, version, job⟩ = true → maskTo (fun i => readyB set v i (s.nodes.getD i zeroNode)) (k + 1) = maskTo (fun i => readyB set v i (s.nodes.getD i zeroNode)) k + 2 ^ k := fun h => by rw [hm, if_pos h]
    have no : readyB set v k ⟨up, cordon, moving, version, job⟩ = false → maskTo (fun i => readyB set v i (s.nodes.getD i zeroNode)) (k + 1) = maskTo (fun i => readyB set v i (s.nodes.getD i zeroNode)) k := fun h => by rw [hm, h, if_neg (by decide)]
    rw [hrb] at yes no
    cases hb : hasB set k <;> (try cases up) <;> (try cases cordon) <;> (try cases moving) <;> (try (by_cases hv : version = v)) <;> simp only [hb,hv,ho,hd,bne_self_eq_false,beq_self_eq_true,decide_true,decide_false,Bool.and_true,Bool.and_false,Bool.true_and,Bool.false_and,Bool.not_true,Bool.not_false,Bool.false_eq_true,false_implies,true_implies,beq_eq_false_iff_ne.2,ne_eq,not_false_eq_true,reduceCtorEq,go_sem,simprocAttr] at yes no ⊢ <;>
      (refine W_lpI (k + 1) ?_ ?_ (by omega) (by omega)
       · simp only [go_sem,simprocAttr]
       · first
         | (simp only [of9S,boxS,no,wrap_succ (show k < 9223372036854775807 by omega),go_sem,simprocAttr]; done)
         | simp only [of9S,boxS,yes,wrap_succ (show k < 9223372036854775807 by omega),go_sem,simprocAttr])
  · obtain rfl : k = s.nodes.length := by omega
    simp only [decide_eq_false (show ¬ ((s.nodes.length : Nat) : Int) < ((s.nodes.length : Nat) : Int) by omega),readyS,go_sem,simprocAttr]

def refTo (s : StateD) (j : JobD) (set : Int) (k : Nat) : Int × Int := (vers.take k).foldl (refStep s j set) (-1, 0)
theorem vers_get : ∀ k : Fin 9, vers.take (k.val + 1) = vers.take k.val ++ [((k.val + 1 : Nat) : Int)] := by decide
theorem refTo_succ (s : StateD) (j : JobD) (set : Int) (k : Nat) (h : k < 9) : refTo s j set (k + 1) = refStep s j set (refTo s j set k) ((k + 1 : Nat) : Int) := by
  unfold refTo
  rw [vers_get ⟨k, h⟩, List.foldl_append]; rfl
def pk9S (s : StateD) (j : JobD) (set : Int) (k : Nat) : St := ⟨[(2, .int set), (3, .ptr 0 0), (4, .ptr 1 0), (8, .int (refTo s j set k).1), (9, .int (refTo s j set k).2), (10, .int ((k + 1 : Nat) : Int))], [some (boxS s), some (boxJ j)]⟩
def pk9L (of : Int) (j : JobD) (s : StateD) (k : Nat) : St := ⟨[(4, .ptr 1 0), (12, .int of), (13, .int (lowR of j.max k)), (14, .int (2 ^ k)), (15, .int k)], [some (boxS s), some (boxJ j)]⟩
theorem lowR_rng (of mx : Int) : ∀ k : Nat, k ≤ 6 → 0 ≤ lowR of mx k ∧ lowR of mx k < 2 ^ k
  | 0, _ => by simp [lowR]
  | k + 1, h => by
    have := lowR_rng of mx k (by omega)
    have hp : (2 : Int) ^ (k + 1) = 2 ^ k * 2 := Int.pow_succ 2 k
    rw [lowR]
    split <;> omega
set_option maxHeartbeats 8000000 in
theorem pick15_tri (s : StateD) (j : JobD) (set : Int) (hn : s.nodes.length ≤ 6) (hmx : 0 ≤ j.max ∧ j.max ≤ 6) : Tri Tryz.prog G 69 [stateV s, jobV j, .int set] [] (.tup [.int (pickR s j set).1, .bool (pickR s j set).2]) [] := by
  refine tri_W0 Tryz.func69 (by decide) irOk69 (Nat.le_of_ble_eq_true rfl) rfl ?_
  simp only [ir69,go_sem,simprocAttr]
  refine W_loopI [2, 3, 4, 8, 9, 10] [] (fun k : Nat => k ≤ 9) (fun k => 9 - k) (pk9S s j set) 0 ?_ (by omega) (fun k hk => ?_)
  · simp only [pk9S,boxS,boxJ,refTo,List.foldl_nil,Nat.zero_add,Int.natCast_one,go_sem,simprocAttr]
  simp only [pk9S,boxS,boxJ,go_sem,simprocAttr]
  by_cases hlt : k < 9
  case pos =>
    have hst := refTo_succ s j set k hlt
    simp only [decide_eq_true (show ((k + 1 : Nat) : Int) ≤ 9 by omega),go_sem,simprocAttr]
    refine W_calld (of15_tri s set ((k + 1 : Nat) : Int) hn) rfl rfl rfl rfl ?_; simp only [go_sem,simprocAttr]
    refine W_calld (many9_tri (readyS s set ((k + 1 : Nat) : Int))) rfl rfl rfl rfl ?_; simp only [go_sem,simprocAttr]
    generalize hp : refTo s j set k = p at hst
    obtain ⟨best, version⟩ := p
    obtain ⟨n, hnn⟩ : ∃ n, many (readyS s set ((k + 1 : Nat) : Int)) = n := ⟨_, rfl⟩
    simp only [refStep,capK,hnn] at hst
    simp only [hnn,go_sem,simprocAttr]
    by_cases h1 : n < j.min
    · rw [if_pos (Or.inl h1)] at hst
      simp only [decide_eq_true h1,go_sem,simprocAttr]
      refine W_lpI (k + 1) ?_ ?_ (by omega) (by omega)
      · simp only [go_sem,simprocAttr]
      · simp only [pk9S,boxS,boxJ,hst,wrap_succ (show k + 1 < 9223372036854775807 by omega),go_sem,simprocAttr]
    simp only [decide_eq_false h1,go_sem,simprocAttr]
    by_cases h2 : 0 < j.pin ∧ j.pin ≠ ((k + 1 : Nat) : Int)
    · rw [if_pos (Or.inr h2)] at hst
      simp only [decide_eq_true (show j.pin > 0 from h2.1),show (j.pin != ((k + 1 : Nat) : Int)) = true from bne_iff_ne.2 h2.2,go_sem,simprocAttr]
      refine W_lpI (k + 1) ?_ ?_ (by omega) (by omega)
      · simp only [go_sem,simprocAttr]
      · simp only [pk9S,boxS,boxJ,hst,wrap_succ (show k + 1 < 9223372036854775807 by omega),go_sem,simprocAttr]
    rw [if_neg (not_or.2 ⟨h1, h2⟩)] at hst
    by_cases hp0 : j.pin > 0
    case' pos => simp only [decide_eq_true hp0,show (j.pin != ((k + 1 : Nat) : Int)) = false from (bne_eq_false_iff_eq.2 (Decidable.not_not.1 fun h => h2 ⟨hp0,h⟩)),go_sem,simprocAttr]
    case' neg => simp only [decide_eq_false hp0,go_sem,simprocAttr]
    all_goals
      by_cases h4 : j.max < n
      · rw [if_pos h4] at hst
        simp only [decide_eq_true (show n > j.max from h4),go_sem,simprocAttr]
        by_cases h5 : best < j.max
        · rw [if_pos (Or.inl h5)] at hst
          simp only [decide_eq_true (show j.max > best from h5),go_sem,simprocAttr]
          refine W_lpI (k + 1) ?_ ?_ (by omega) (by omega)
          · simp only [go_sem,simprocAttr]
          · simp only [pk9S,boxS,boxJ,hst,wrap_succ (show k + 1 < 9223372036854775807 by omega),go_sem,simprocAttr]
        · simp only [decide_eq_false (show ¬ j.max > best from h5),go_sem,simprocAttr]
          by_cases h6 : j.max = best
          · simp only [show (j.max == best) = true from beq_iff_eq.2 h6,go_sem,simprocAttr]
            refine W_calld (meant9_tri s) rfl rfl rfl rfl ?_; simp only [go_sem,simprocAttr]
            by_cases h7 : ((k + 1 : Nat) : Int) = meant s
            · rw [if_pos (Or.inr ⟨h6, h7⟩)] at hst
              simp only [show (((k + 1 : Nat) : Int) == meant s) = true from beq_iff_eq.2 h7,go_sem,simprocAttr]
              refine W_lpI (k + 1) ?_ ?_ (by omega) (by omega)
              · simp only [go_sem,simprocAttr]
              · simp only [pk9S,boxS,boxJ,hst,wrap_succ (show k + 1 < 9223372036854775807 by omega),go_sem,simprocAttr]
            · rw [if_neg (by rintro (h | ⟨_, h⟩); exact h5 h; exact h7 h)] at hst
              simp only [show (((k + 1 : Nat) : Int) == meant s) = false from beq_eq_false_iff_ne.2 h7,go_sem,simprocAttr]
              refine W_lpI (k + 1) ?_ ?_ (by omega) (by omega)
              · simp only [go_sem,simprocAttr]
              · simp only [pk9S,boxS,boxJ,hst,wrap_succ (show k + 1 < 9223372036854775807 by omega),go_sem,simprocAttr]
          · rw [if_neg (by rintro (h | ⟨h, _⟩); exact h5 h; exact h6 h)] at hst
            simp only [show (j.max == best) = false from beq_eq_false_iff_ne.2 h6,go_sem,simprocAttr]
            refine W_lpI (k + 1) ?_ ?_ (by omega) (by omega)
            · simp only [go_sem,simprocAttr]
            · simp only [pk9S,boxS,boxJ,hst,wrap_succ (show k + 1 < 9223372036854775807 by omega),go_sem,simprocAttr]
      · rw [if_neg h4] at hst
        simp only [decide_eq_false (show ¬ n > j.max from h4),go_sem,simprocAttr]
        by_cases h5 : best < n
        · rw [if_pos (Or.inl h5)] at hst
          simp only [decide_eq_true (show n > best from h5),go_sem,simprocAttr]
          refine W_lpI (k + 1) ?_ ?_ (by omega) (by omega)
          · simp only [go_sem,simprocAttr]
          · simp only [pk9S,boxS,boxJ,hst,wrap_succ (show k + 1 < 9223372036854775807 by omega),go_sem,simprocAttr]
        · simp only [decide_eq_false (show ¬ n > best from h5),go_sem,simprocAttr]
          by_cases h6 : n = best
          · simp only [show (n == best) = true from beq_iff_eq.2 h6,go_sem,simprocAttr]
            refine W_calld (meant9_tri s) rfl rfl rfl rfl ?_; simp only [go_sem,simprocAttr]
            by_cases h7 : ((k + 1 : Nat) : Int) = meant s
            · rw [if_pos (Or.inr ⟨h6, h7⟩)] at hst
              simp only [show (((k + 1 : Nat) : Int) == meant s) = true from beq_iff_eq.2 h7,go_sem,simprocAttr]
              refine W_lpI (k + 1) ?_ ?_ (by omega) (by omega)
              · simp only [go_sem,simprocAttr]
              · simp only [pk9S,boxS,boxJ,hst,wrap_succ (show k + 1 < 9223372036854775807 by omega),go_sem,simprocAttr]
            · rw [if_neg (by rintro (h | ⟨_, h⟩); exact h5 h; exact h7 h)] at hst
              simp only [show (((k + 1 : Nat) : Int) == meant s) = false from beq_eq_false_iff_ne.2 h7,go_sem,simprocAttr]
              refine W_lpI (k + 1) ?_ ?_ (by omega) (by omega)
              · simp only [go_sem,simprocAttr]
              · simp only [pk9S,boxS,boxJ,hst,wrap_succ (show k + 1 < 9223372036854775807 by omega),go_sem,simprocAttr]
          · rw [if_neg (by rintro (h | ⟨h, _⟩); exact h5 h; exact h6 h)] at hst
            simp only [show (n == best) = false from beq_eq_false_iff_ne.2 h6,go_sem,simprocAttr]
            refine W_lpI (k + 1) ?_ ?_ (by omega) (by omega)
            · simp only [go_sem,simprocAttr]
            · simp only [pk9S,boxS,boxJ,hst,wrap_succ (show k + 1 < 9223372036854775807 by omega),go_sem,simprocAttr]
  case neg =>
    obtain rfl : k = 9 := by omega
    have hfin : refTo s j set 9 = refBest s j set := rfl
    simp only [hfin,show decide ((((9 + 1 : Nat)) : Int) ≤ 9) = false from rfl,show decide ((((10 : Nat)) : Int) ≤ 9) = false from rfl,go_sem,simprocAttr]
    unfold pickR
    generalize refBest s j set = p
    obtain ⟨best, version⟩ := p
    by_cases hb : best < 0
    · simp only [decide_eq_true hb,hb,if_true,go_sem,simprocAttr]
    simp only [decide_eq_false hb,hb,if_false,go_sem,simprocAttr]
    refine W_calld (of15_tri s set version hn) rfl rfl rfl rfl ?_; simp only [go_sem,simprocAttr]
    generalize readyS s set version = of
    refine W_loopI [4, 12, 13, 14, 15] [] (fun i : Nat => i ≤ 6) (fun i => 6 - i) (pk9L of j s) 0 ?_ (by omega) (fun i hi => ?_)
    · simp only [pk9L,boxS,boxJ,lowR,Int.natCast_zero,Int.pow_zero,go_sem,simprocAttr]
    simp only [pk9L,boxS,boxJ,go_sem,simprocAttr]
    by_cases hli : i < 6
    case neg =>
      obtain rfl : i = 6 := by omega
      simp only [show decide ((((6 : Nat)) : Int) < 6) = false from rfl,go_sem,simprocAttr]
    simp only [decide_eq_true (show ((i : Nat) : Int) < 6 by omega),go_sem,simprocAttr]
    have hd := dbl i (by omega)
    have hr := lowR_rng of j.max i (by omega)
    have hpw := pow6 i (by omega)
    have hsum : IntKind.i64.wrap (lowR of j.max i + 2 ^ i) = lowR of j.max i + 2 ^ i := wrap_in (by omega) (by omega)
    have hst : lowR of j.max (i + 1) = if hasB of i = true ∧ many (lowR of j.max i) < j.max then lowR of j.max i + 2 ^ i else lowR of j.max i := rfl
    refine WD_calld (has9_tri of i (by omega)) rfl rfl rfl rfl ?_; simp only [go_sem,simprocAttr]
    cases hh : hasB of i with
    | false =>
      rw [if_neg (by rw [hh]; rintro ⟨h, _⟩; cases h)] at hst
      simp only [hd,go_sem,simprocAttr]
      refine W_lpI (i + 1) ?_ ?_ (by omega) (by omega)
      · simp only [go_sem,simprocAttr]
      · simp only [pk9L,boxS,boxJ,hst,wrap_succ (show i < 9223372036854775807 by omega),go_sem,simprocAttr]
    | true =>
      simp only [go_sem,simprocAttr]
      refine WD_calld (many9_tri (lowR of j.max i)) rfl rfl rfl rfl ?_; simp only [go_sem,simprocAttr]
      by_cases hlm : many (lowR of j.max i) < j.max
      · rw [if_pos ⟨hh, hlm⟩] at hst
        simp only [decide_eq_true hlm,hd,hsum,go_sem,simprocAttr]
        refine W_lpI (i + 1) ?_ ?_ (by omega) (by omega)
        · simp only [go_sem,simprocAttr]
        · simp only [pk9L,boxS,boxJ,hst,wrap_succ (show i < 9223372036854775807 by omega),go_sem,simprocAttr]
      · rw [if_neg (fun h => hlm h.2)] at hst
        simp only [decide_eq_false hlm,hd,go_sem,simprocAttr]
        refine W_lpI (i + 1) ?_ ?_ (by omega) (by omega)
        · simp only [go_sem,simprocAttr]
        · simp only [pk9L,boxS,boxJ,hst,wrap_succ (show i < 9223372036854775807 by omega),go_sem,simprocAttr]
end Dv
