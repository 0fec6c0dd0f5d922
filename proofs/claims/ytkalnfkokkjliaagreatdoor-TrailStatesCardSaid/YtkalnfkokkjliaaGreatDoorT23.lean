/- TrailStates: it returns true. -/
import Derived.Test.YtkalnfkokkjliaaGreatDoorT22
import Derived.Test.YtkalnfkokkjliaaGreatDoorA3
set_option linter.unusedVariables false
set_option linter.unusedSimpArgs false
namespace Dv
open Go Go.Proofs
variable {G : Nat → Option (List DV)}

def ir3 : Nat × C × List RV := (124,
(.seq (.reg [qo 5 (.box 23 (.t 0)),
 qo 10 (.mv qf)])
 (.seq (.seq (.reg [qo 22 (.call (.f 13) []),
 qo 23 (.not (.t 22))])
 (.cond (.t 23) (.seq (.reg [qo 10 (.mv qf)])
 .ret)
 .skip))
 (.seq (.seq (.reg [qo 24 (.ldn 9 (.t 5)),
 qo 25 (.call (.f 14) [(.t 24)]),
 qo 26 (.not (.t 25)),
 qm 27 26,
 qg 28 (.mv (.t 1)) 27 false,
 qg 29 (.len (.t 28)) 27 false,
 qg 30 (.bin .gtr (.t 29) (qk 100)) 27 false,
 qo 31 (.pick (.t 27) qt (.t 30)),
 qm 32 31,
 qg 33 (.mv (.t 2)) 32 false,
 qg 34 (.bin .lss (.t 33) (qk 0)) 32 false,
 qo 35 (.pick (.t 32) qt (.t 34)),
 qm 36 35,
 qg 37 (.mv (.t 2)) 36 false,
 qg 38 (.bin .gtr (.t 37) (qk 1000000)) 36 false,
 qo 39 (.pick (.t 36) qt (.t 38))])
 (.cond (.t 39) (.seq (.reg [qo 10 (.mv qt)])
 .ret)
 .skip))
 (.seq (.reg [qm 40 2,
 qo 41 (.ldn 9 (.t 5)),
 qo 42 (.call (.f 15) [(.t 41)]),
 qo 43 (.build [q0,(.val (.slice none 0 0)),(.val (.slice none 0 0)),q0,q0,q0,q0,(.val (.slice none 0 0))] [(0,1,(.t 40)),(1,6,(.t 42))]),
 qo 11 (.new 33 [q0,(.val (.slice none 0 0)),(.val (.slice none 0 0)),q0,q0,q0,q0,(.val (.slice none 0 0))]),
 qn (.st 8 (.t 11) (.t 43))])
 (.seq (.reg [qo 44 (.ldn 9 (.t 5)),
 qo 45 (.call (.f 16) [(.t 44)]),
 qo 12 (.new 30 [(.val (.slice none 0 0)),(.val (.slice none 0 0)),q0,q0,q0,q0]),
 qn (.st 6 (.t 12) (.t 45))])
 (.seq (.seq (.reg [qo 13 (.mv (qk 0))])
 (.block 0 (.loop (.seq (.seq (.reg [qm 46 13,
 qm 47 1,
 qo 48 (.len (.t 47)),
 qo 49 (.bin .lss (.t 46) (.t 48))])
 (.cond (.t 49) .skip
 (.exit 0)))
 (.seq (.block 1 (.seq (.regD [qo 53 (.ldn 9 (.t 5)),
 qo 54 (.ldn 6 (.t 12)),
 qm 55 1,
 qm 56 13,
 qd 57 (.ixa 7 (.t 55) (.t 56)) [2,3],
 qd 58 (.ldn 7 (.t 57)) [4,2,3],
 qd 59 (.call (.f 17) [(.t 53),(.t 54),(.t 58)]) [0,1,5,4,2,3],
 qd 52 (.mv (.t 59)) [6,0,1,5,4,2,3],
 qd 60 (.ext (.t 52) 0) [7,6,0,1,5,4,2,3],
 qd 61 (.ext (.t 52) 1) [7,6,0,1,5,4,2,3],
 qo 14 (.new 30 [(.val (.slice none 0 0)),(.val (.slice none 0 0)),q0,q0,q0,q0]),
 ql (.st 6 (.t 14) (.t 60)) [10,8,7,6,0,1,5,4,2,3],
 qd 15 (.mv (.t 61)) [9,7,6,0,1,5,4,2,3,11,10,8]])
 (.seq (.reg [qm 62 15,
 qo 63 (.bin .eql (.t 62) (qk 0))])
 (.cond (.t 63) (.seq (.regD [qo 64 (.fad 7 (.t 11)),
 qd 65 (.ld1 (.t 64)) [0],
 qm 66 1,
 qm 67 13,
 qd 68 (.ixa 7 (.t 66) (.t 67)) [2,3],
 qd 69 (.ldn 7 (.t 68)) [4,2,3],
 qd 70 (.bsl 37 7 [(.t 69)]) [5,4,2,3],
 qd 71 (.app 37 7 56 (.t 65) (.t 70)) [1,0,6,5,4,2,3],
 qd 72 (.fad 7 (.t 11)) [0,1,2,3,4,5,6,7],
 ql (.st 1 (.t 72) (.t 71)) [8,0,1,2,3,4,5,6,7]])
 (.reg [qo 73 (.ldn 6 (.t 14)),
 qn (.st 6 (.t 12) (.t 73))]))
 .skip))))
 (.reg [qm 50 13,
 qo 51 (.bin .add (.t 50) (qk 1)),
 qm 13 51]))))))
 (.seq (.reg [qo 75 (.ldn 9 (.t 5)),
 qo 76 (.ldn 8 (.t 11)),
 qm 77 3,
 qo 78 (.call (.f 18) [(.t 75),(.t 76),(.t 77)]),
 qm 74 78,
 qo 79 (.ext (.t 74) 0),
 qo 80 (.ext (.t 74) 1),
 qo 16 (.new 30 [(.val (.slice none 0 0)),(.val (.slice none 0 0)),q0,q0,q0,q0]),
 qn (.st 6 (.t 16) (.t 79)),
 qm 17 80])
 (.seq (.reg [qo 82 (.ldn 9 (.t 5)),
 qo 83 (.ldn 8 (.t 11)),
 qm 84 3,
 qo 85 (.call (.f 19) [(.t 82),(.t 83),(.t 84)]),
 qm 81 85,
 qo 86 (.ext (.t 81) 0),
 qo 87 (.ext (.t 81) 1),
 qo 18 (.new 30 [(.val (.slice none 0 0)),(.val (.slice none 0 0)),q0,q0,q0,q0]),
 qn (.st 6 (.t 18) (.t 86)),
 qm 19 87])
 (.seq (.reg [qo 89 (.ldn 9 (.t 5)),
 qo 90 (.ldn 8 (.t 11)),
 qm 91 2,
 qo 92 (.fad 7 (.t 11)),
 qo 93 (.ld1 (.t 92)),
 qo 94 (.len (.t 93)),
 qo 95 (.bin .add (.t 91) (.t 94)),
 qo 96 (.call (.f 18) [(.t 89),(.t 90),(.t 95)]),
 qm 88 96,
 qo 97 (.ext (.t 88) 0),
 qo 98 (.ext (.t 88) 1),
 qo 20 (.new 30 [(.val (.slice none 0 0)),(.val (.slice none 0 0)),q0,q0,q0,q0]),
 qn (.st 6 (.t 20) (.t 97)),
 qm 21 98])
 (.seq (.regD [qm 99 17,
 qm 100 19,
 qd 101 (.eqb false (.t 99) (.t 100)) [0,1],
 qd 102 (.mv (.t 101)) [2,0,1],
 qe 103 (.ldn 6 (.t 16)) 102 true [3,2,0,1],
 qe 104 (.ldn 6 (.t 18)) 102 true [3,2,0,1],
 qe 105 (.call (.f 20) [(.t 103),(.t 104)]) 102 true [4,3,2,0,1,5],
 qd 106 (.pick (.t 102) (.t 105) qf) [3,2,0,1,6,4,5],
 qd 107 (.mv (.t 106)) [7,3,2,0,1,6,4,5],
 qe 108 (.mv (.t 21)) 107 true [8,7,3,2,0,1,6,4,5],
 qd 109 (.pick (.t 107) (.t 108) qf) [8,7,3,2,0,1,6,4,5,9],
 qd 110 (.mv (.t 109)) [10,8,7,3,2,0,1,6,4,5,9],
 qe 111 (.ldn 6 (.t 20)) 110 true [11,10,8,7,3,2,0,1,6,4,5,9],
 qe 112 (.ldn 6 (.t 12)) 110 true [11,10,8,7,3,2,0,1,6,4,5,9],
 qe 113 (.call (.f 20) [(.t 111),(.t 112)]) 110 true [12,11,10,8,7,3,2,0,1,6,4,5,9,13],
 qd 114 (.pick (.t 110) (.t 113) qf) [11,10,8,7,3,2,0,1,6,4,5,9,14,12,13],
 qd 115 (.mv (.t 114)) [15,11,10,8,7,3,2,0,1,6,4,5,9,14,12,13],
 qe 116 (.ldn 8 (.t 11)) 115 true [16,15,11,10,8,7,3,2,0,1,6,4,5,9,14,12,13],
 qe 117 (.mv (.t 4)) 115 true [16,15,11,10,8,7,3,2,0,1,6,4,5,9,14,12,13],
 qe 118 (.call (.f 22) [(.t 116),(.t 117)]) 115 true [17,16,15,11,10,8,7,3,2,0,1,6,4,5,9,14,12,13,18],
 qe 119 (.ldn 8 (.t 11)) 115 true [16,15,11,10,8,7,3,2,0,1,6,4,5,9,14,12,13],
 qe 120 (.mv (.t 4)) 115 true [16,15,11,10,8,7,3,2,0,1,6,4,5,9,14,12,13],
 qe 121 (.call (.f 23) [(.t 119),(.t 120)]) 115 true [20,16,15,11,10,8,7,3,2,0,1,6,4,5,9,14,12,13,21,19,17,18],
 qe 122 (.call (.f 21) [(.t 118),(.t 121)]) 115 true [19,17,16,15,11,10,8,7,3,2,0,1,6,4,5,9,14,12,13,18,22,20,21],
 qd 123 (.pick (.t 115) (.t 122) qf) [16,15,11,10,8,7,3,2,0,1,6,4,5,9,14,12,13,23,19,17,18,22,20,21],
 qd 10 (.mv (.t 123)) [24,16,15,11,10,8,7,3,2,0,1,6,4,5,9,14,12,13,23,19,17,18,22,20,21]])
 .ret)))))))))),
[(.t 10)])
theorem irOk3 : convFn Tryz.prog Tryz.f3 = some ir3 := by kernel_rfl
def ir21 : Nat × C × List RV := (26,
(.seq (.reg [qo 4 (.mv qf)])
 (.seq (.seq (.reg [qm 6 0,
 qo 7 (.len (.t 6)),
 qm 8 1,
 qo 9 (.len (.t 8)),
 qo 10 (.bin .neq (.t 7) (.t 9))])
 (.cond (.t 10) (.seq (.reg [qo 4 (.mv qf)])
 .ret)
 .skip))
 (.seq (.seq (.reg [qo 5 (.mv (qk 0))])
 (.block 0 (.loop (.seq (.seq (.reg [qm 11 5,
 qm 12 0,
 qo 13 (.len (.t 12)),
 qo 14 (.bin .lss (.t 11) (.t 13))])
 (.cond (.t 14) .skip
 (.exit 0)))
 (.seq (.block 1 (.seq (.regD [qm 17 0,
 qm 18 5,
 qd 19 (.ixa 1 (.t 17) (.t 18)) [0,1],
 qd 20 (.ld1 (.t 19)) [2,0,1],
 qm 21 1,
 qm 22 5,
 qd 23 (.ixa 1 (.t 21) (.t 22)) [4,5],
 qd 24 (.ld1 (.t 23)) [6,4,5],
 qd 25 (.bin .neq (.t 20) (.t 24)) [3,2,0,1,7,6,4,5]])
 (.cond (.t 25) (.seq (.reg [qo 4 (.mv qf)])
 .ret)
 .skip)))
 (.reg [qm 15 5,
 qo 16 (.bin .add (.t 15) (qk 1)),
 qm 5 16]))))))
 (.seq (.reg [qo 4 (.mv qt)])
 .ret)))),
[(.t 4)])
theorem irOk21 : convFn Tryz.prog Tryz.f21 = some ir21 := by kernel_rfl


def intsTS (a : List Int) (k : Nat) : St := ⟨[(0, .d (.lst 1 (ofR a))), (1, .d (.lst 1 (ofR a))), (5, .int k)], []⟩
theorem intsT_tri (a : List Int) (ha : a.length ≤ 1000000000) : Tri Tryz.prog G 21 [.d (.lst 1 (ofR a)), .d (.lst 1 (ofR a))] [] (.bool true) [] := by
  have hna : (ofR a).length = a.length := by simp [ofR]
  refine tri_W0 Tryz.func21 (by decide) irOk21 (Nat.le_of_ble_eq_true rfl) rfl ?_
  simp only [ir21,go_sem,simprocAttr]
  simp only [hna,bne_self_eq_false,go_sem,simprocAttr]
  refine W_loopI [0, 1, 5] [] (fun k : Nat => k ≤ a.length) (fun k => a.length - k) (intsTS a) 0 ?_ (Nat.zero_le _) ?_
  · simp only [intsTS,Int.natCast_zero,go_sem,simprocAttr]
  rintro k hk
  simp only [intsTS,hna,go_sem,simprocAttr]
  by_cases hlt : k < a.length
  case neg =>
    simp only [decide_eq_false (show ¬ ((k : Nat) : Int) < ((a.length : Nat) : Int) by omega),go_sem,simprocAttr]
  have hga := get_mapD (f := fun n : Int => [i64 n]) 0 hlt
  generalize a.getD k 0 = x at *
  have hga2 : (ofR a)[k]? = some [DV.val (.int .i64 x)] := hga
  simp only [decide_eq_true (show ((k : Nat) : Int) < ((a.length : Nat) : Int) by omega),hga2,bne_self_eq_false,go_sem,simprocAttr]
  refine W_lpI (k + 1) ?_ ?_ (by omega) (by omega)
  · simp only [go_sem,simprocAttr]
  · simp only [intsTS,wrap_succ (show k < 9223372036854775807 by omega),go_sem,simprocAttr]

def tsS (c : ConfD) (l : List OpD) (age k job : Int) (q : Nat × List OpD) : St := ⟨[(1, opsT l), (2, .int age), (3, .int k), (4, .int job), (5, .ptr 0 0), (10, .bool false), (11, .ptr 1 0), (12, .ptr 2 0), (13, .int q.1)],
  [some (boxCT c), some (.box 33 [.int age, nodesV (newD c).nodes, jobsV (newD c).jobs, .int (newD c).goal, .int (newD c).prior, .int (newD c).mode, .int (newD c).term, .sl 3 q.2.length 7 0 q.2.length]), some (boxST (stN c (newD c) q.2 q.2.length)), some (.dat 37 7 (q.2.map opR))]⟩
set_option maxHeartbeats 4000000 in
theorem trailStates_tri (c : ConfD) (l : List OpD) (age k job : Int) : Tri Tryz.prog tabG 3 [confV c, opsT l, .int age, .int k, .int job] [] (.bool true) [] := by
  refine tri_W0 Tryz.func3 (by decide) irOk3 (Nat.le_of_ble_eq_true rfl) rfl ?_
  simp only [ir3,go_sem,simprocAttr]
  refine W_calld (alive26_tri) rfl rfl rfl rfl ?_; simp only [go_sem,simprocAttr]
  refine W_calld (may9_tri c) rfl rfl rfl rfl ?_; simp only [go_sem,simprocAttr]
  cases hm : mayB c with
  | false => simp only [go_sem,simprocAttr]
  | true =>
  simp only [opsT,go_sem,simprocAttr]
  by_cases h1 : (l.length : Int) > 100
  · simp only [decide_eq_true h1,go_sem,simprocAttr]
  by_cases h2 : age < 0
  · simp only [decide_eq_false h1,decide_eq_true h2,go_sem,simprocAttr]
  by_cases h3 : age > 1000000
  · simp only [decide_eq_false h1,decide_eq_false h2,decide_eq_true h3,go_sem,simprocAttr]
  simp only [decide_eq_false h1,decide_eq_false h2,decide_eq_false h3,go_sem,simprocAttr]
  refine W_calld (new_tri c) rfl rfl rfl rfl ?_; simp only [go_sem,simprocAttr]
  refine W_calld (new9_tri c) rfl rfl rfl rfl ?_; simp only [go_sem,simprocAttr]
  have hR0 := new_rightT hm
  refine W_loopI [1, 2, 3, 4, 5, 10, 11, 12, 13] [.b 1 7 37 7] (fun q : Nat × List OpD => q.1 ≤ l.length ∧ q.2.length ≤ q.1 ∧ OkT c (newD c) q.2) (fun q => l.length - q.1) (tsS c l age k job) (0, []) ?_ ⟨Nat.zero_le _, Nat.le_refl _, fun k hk => absurd hk (Nat.not_lt_zero _)⟩ ?_
  · simp only [tsS,boxCT,boxST,cellsST,opsT,stN,Int.natCast_zero,go_sem,simprocAttr]
  rintro ⟨i, ops⟩ ⟨hi, hn, hok⟩
  dsimp only at hi hn hok
  have hl : l.length ≤ 100 := by omega
  simp only [tsS,boxCT,boxST,cellsST,opsT,go_sem,simprocAttr]
  by_cases hlt : i < l.length
  · have hg := get_mapD (f := opR) zeroOp hlt
    generalize l.getD i zeroOp = o at *
    simp only [opR] at hg
    simp only [decide_eq_true (show ((i : Nat) : Int) < ((l.length : Nat) : Int) by omega),hg,go_sem,simprocAttr]
    have hri := stN_right hR0 ops ops.length
    refine WD_calld (apply9_tri c (stN c (newD c) ops ops.length) o hri) rfl rfl rfl rfl ?_; simp only [go_sem,simprocAttr]
    refine W_opsD_end rfl ?_
    rw [← apply_ref hri o]
    simp only [go_sem,simprocAttr]
    by_cases he : (applyD c (stN c (newD c) ops ops.length) o).2 = 0
    · have hst := stN_snoc c (newD c) ops o
      rw [← hst]
      simp only [he,hg,List.length_append,show (ops.length + 1) * 56 ≤ 70368744177664 by omega,go_sem,simprocAttr]
      refine W_opsD_end rfl ?_
      simp only [go_sem,simprocAttr]
      refine W_lpI (i + 1, ops ++ [o]) ?_ ?_ ⟨by dsimp only; omega, by simp; omega, hok.snoc he⟩ (by dsimp only; omega)
      · simp only [go_sem,simprocAttr]
      · simp only [tsS,boxCT,boxST,cellsST,opsT,opR,List.map_append,List.length_append,wrap_succ (show i < 9223372036854775807 by omega),go_sem,simprocAttr]
    · simp only [beq_eq_false_iff_ne.2 he,go_sem,simprocAttr]
      refine W_lpI (i + 1, ops) ?_ ?_ ⟨by dsimp only; omega, by dsimp only; omega, hok⟩ (by dsimp only; omega)
      · simp only [go_sem,simprocAttr]
      · simp only [tsS,boxCT,boxST,cellsST,opsT,wrap_succ (show i < 9223372036854775807 by omega),go_sem,simprocAttr]
  obtain rfl : i = l.length := by omega
  simp only [decide_eq_false (show ¬ ((l.length : Nat) : Int) < ((l.length : Nat) : Int) by omega),go_sem,simprocAttr]
  have hna : ops.length ≤ 100 := by omega
  have ha : 0 ≤ age ∧ age ≤ 1000000 := by omega
  have hA := fun q => Tri.up (at_tri c age (newD c) ops q hR0 hok ha hna) tabG_book
  have hB := fun q => at26_tri (G := tabG) c age (newD c) ops q hR0 ha hna
  have hO := of_tri (G := tabG) age (newD c) ops job ha hna
  have hO9 := of26_tri (G := tabG) age (newD c) ops job ha hna
  have w0 : IntKind.i64.wrap (age + (ops.length : Int)) = age + (ops.length : Int) := wrap_in (by omega) (by omega)
  have hz : atV c age (newD c) ops (age + (ops.length : Int)) = .tup [stateV (stN c (newD c) ops ops.length), .bool true] := by
    rw [atV, if_pos (by omega), show (age + (ops.length : Int) - age).toNat = ops.length by omega]
  have hZ := hA (age + (ops.length : Int))
  rw [hz] at hZ
  have hrl := stN_right hR0 ops ops.length
  have hints := intsT_tri (G := tabG) (ofTo age ops job ops.length) (by have := ofTo_len age ops job ops.length; omega)
  have hS := fun s (h : RightP c s) => same9_tri (G := tabG) s s (by have := h.len; omega) (by have := h.jobs; omega)
  by_cases hf : age ≤ k ∧ k ≤ age + (ops.length : Int)
  · have hk : atV c age (newD c) ops k = .tup [stateV (stN c (newD c) ops (k - age).toNat), .bool true] := if_pos hf
    have hA1 := hA k
    have hB1 := hB k
    rw [hk] at hA1 hB1
    have hrk := stN_right hR0 ops (k - age).toNat
    refine W_callf [3] (hA1) rfl (by simp [argRs,argR,rowsAt,objL,trailV,opsT,List.take_of_length_le,go_sem,simprocAttr]) (by simp [objL]) rfl ?_; simp only [go_sem,simprocAttr]
    refine W_callf [3] (hB1) rfl (by simp [argRs,argR,rowsAt,objL,trailV,opsT,List.take_of_length_le,go_sem,simprocAttr]) (by simp [objL]) rfl ?_; simp only [go_sem,simprocAttr]
    simp only [w0,go_sem,simprocAttr]
    refine W_callf [3] (hZ) rfl (by simp [argRs,argR,rowsAt,objL,trailV,opsT,List.take_of_length_le,go_sem,simprocAttr]) (by simp [objL]) rfl ?_; simp only [go_sem,simprocAttr]
    refine WD_calld (hS _ hrk) rfl rfl rfl rfl ?_; simp only [go_sem,simprocAttr]
    (try simp only [go_sem,simprocAttr])
    refine WD_calld (hS _ hrl) rfl rfl rfl rfl ?_; simp only [go_sem,simprocAttr]
    (try simp only [go_sem,simprocAttr])
    refine WD_callf [3] (hO) rfl (by simp [argRs,argR,rowsAt,objL,trailV,opsT,List.take_of_length_le,go_sem,simprocAttr]) (by simp [objL]) rfl ?_; simp only [go_sem,simprocAttr]
    refine WD_callf [3] (hO9) rfl (by simp [argRs,argR,rowsAt,objL,trailV,opsT,List.take_of_length_le,go_sem,simprocAttr]) (by simp [objL]) rfl ?_; simp only [go_sem,simprocAttr]
    refine WD_calld (hints) rfl rfl rfl rfl ?_; simp only [go_sem,simprocAttr]
  · have hk : atV c age (newD c) ops k = .tup [zstV, .bool false] := if_neg hf
    have hA1 := hA k
    have hB1 := hB k
    rw [hk] at hA1 hB1
    unfold zstV at hA1 hB1
    refine W_callf [3] (hA1) rfl (by simp [argRs,argR,rowsAt,objL,trailV,opsT,List.take_of_length_le,go_sem,simprocAttr]) (by simp [objL]) rfl ?_; simp only [go_sem,simprocAttr]
    refine W_callf [3] (hB1) rfl (by simp [argRs,argR,rowsAt,objL,trailV,opsT,List.take_of_length_le,go_sem,simprocAttr]) (by simp [objL]) rfl ?_; simp only [go_sem,simprocAttr]
    simp only [w0,go_sem,simprocAttr]
    refine W_callf [3] (hZ) rfl (by simp [argRs,argR,rowsAt,objL,trailV,opsT,List.take_of_length_le,go_sem,simprocAttr]) (by simp [objL]) rfl ?_; simp only [go_sem,simprocAttr]
    refine WD_callz [] (same9_tri (G := tabG) zeroState zeroState (by decide) (by decide)) rfl (by simp [argRs,argR,rowsAt,objL,zeroState,go_sem,simprocAttr]) (by simp [objL]) rfl rfl ?_; simp only [go_sem,simprocAttr]
    (try simp only [go_sem,simprocAttr])
    refine WD_calld (hS _ hrl) rfl rfl rfl rfl ?_; simp only [go_sem,simprocAttr]
    (try simp only [go_sem,simprocAttr])
    refine WD_callf [3] (hO) rfl (by simp [argRs,argR,rowsAt,objL,trailV,opsT,List.take_of_length_le,go_sem,simprocAttr]) (by simp [objL]) rfl ?_; simp only [go_sem,simprocAttr]
    refine WD_callf [3] (hO9) rfl (by simp [argRs,argR,rowsAt,objL,trailV,opsT,List.take_of_length_le,go_sem,simprocAttr]) (by simp [objL]) rfl ?_; simp only [go_sem,simprocAttr]
    refine WD_calld (hints) rfl rfl rfl rfl ?_; simp only [go_sem,simprocAttr]
end Dv
