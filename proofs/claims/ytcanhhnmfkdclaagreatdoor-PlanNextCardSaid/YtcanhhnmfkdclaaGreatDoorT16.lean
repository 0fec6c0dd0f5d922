/- The document's wave. -/
import Derived.Test.YtcanhhnmfkdclaaGreatDoorD15
import Derived.Test.YtcanhhnmfkdclaaGreatDoorPA
import Derived.Test.YtcanhhnmfkdclaaGreatDoorD6
set_option linter.unusedVariables false
set_option linter.unusedSimpArgs false
namespace Dv
open Go Go.Proofs
variable {G : Nat → Option (List DV)}

def ir41 : Nat × C × List RV := (25,
(.seq (.reg [qo 2 (.box 27 (.t 0)),
 qo 4 (.mv qf)])
 (.seq (.reg [qo 6 (.fad 0 (.t 2)),
 qo 7 (.ld1 (.t 6)),
 qm 8 1,
 qo 9 (.ixa 5 (.t 7) (.t 8)),
 qo 10 (.ldn 5 (.t 9)),
 qo 5 (.new 49 [(.val (.bool false)),(.val (.bool false)),(.val (.bool false)),q0,q0]),
 qn (.st 5 (.t 5) (.t 10))])
 (.seq (.regD [qo 11 (.fad 0 (.t 5)),
 qd 12 (.ld1 (.t 11)) [0],
 qd 13 (.mv (.t 12)) [1,0],
 qe 14 (.fad 2 (.t 5)) 13 true [2,1,0],
 qe 15 (.ld1 (.t 14)) 13 true [3,2,1,0],
 qe 16 (.not (.t 15)) 13 true [4,3,2,1,0],
 qd 17 (.pick (.t 13) (.t 16) qf) [2,1,0,5,4,3],
 qd 18 (.mv (.t 17)) [6,2,1,0,5,4,3],
 qe 19 (.fad 3 (.t 5)) 18 true [7,6,2,1,0,5,4,3],
 qe 20 (.ld1 (.t 19)) 18 true [8,7,6,2,1,0,5,4,3],
 qe 21 (.ldn 6 (.t 2)) 18 true [7,6,2,1,0,5,4,3],
 qe 22 (.call (.f 54) [(.t 21)]) 18 true [10,7,6,2,1,0,5,4,3],
 qe 23 (.bin .neq (.t 20) (.t 22)) 18 true [9,8,7,6,2,1,0,5,4,3,11,10],
 qd 24 (.pick (.t 18) (.t 23) qf) [7,6,2,1,0,5,4,3,12,9,8,11,10],
 qd 4 (.mv (.t 24)) [13,7,6,2,1,0,5,4,3,12,9,8,11,10]])
 .ret))),
[(.t 4)])
theorem irOk41 : convFn Tryz.prog Tryz.f41 = some ir41 := by kernel_rfl
def ir42 : Nat × C × List RV := (44,
(.seq (.reg [qo 2 (.box 27 (.t 0)),
 qo 4 (.mv qf)])
 (.seq (.seq (.reg [qm 6 1,
 qo 7 (.bin .lss (.t 6) (qk 0)),
 qm 8 7,
 qg 9 (.mv (.t 1)) 8 false,
 qg 10 (.fad 0 (.t 2)) 8 false,
 qg 11 (.ld1 (.t 10)) 8 false,
 qg 12 (.len (.t 11)) 8 false,
 qg 13 (.bin .geq (.t 9) (.t 12)) 8 false,
 qo 14 (.pick (.t 8) qt (.t 13)),
 qm 15 14,
 qg 16 (.fad 0 (.t 2)) 15 false,
 qg 17 (.ld1 (.t 16)) 15 false,
 qg 18 (.mv (.t 1)) 15 false,
 qg 19 (.ixa 5 (.t 17) (.t 18)) 15 false,
 qg 20 (.fad 4 (.t 19)) 15 false,
 qg 21 (.ld1 (.t 20)) 15 false,
 qg 22 (.bin .eql (.t 21) (qk 0)) 15 false,
 qo 23 (.pick (.t 15) qt (.t 22))])
 (.cond (.t 23) (.seq (.reg [qo 4 (.mv qf)])
 .ret)
 .skip))
 (.seq (.regD [qo 24 (.fad 1 (.t 2)),
 qd 25 (.ld1 (.t 24)) [0],
 qo 26 (.fad 0 (.t 2)),
 qd 27 (.ld1 (.t 26)) [2],
 qm 28 1,
 qd 29 (.ixa 5 (.t 27) (.t 28)) [3,2,4],
 qd 30 (.fad 4 (.t 29)) [5,3,2,4],
 qd 31 (.ld1 (.t 30)) [6,5,3,2,4],
 qd 32 (.bin .sub (.t 31) (qk 1)) [7,6,5,3,2,4],
 qd 33 (.ixa 12 (.t 25) (.t 32)) [1,0,8,7,6,5,3,2,4],
 qd 34 (.fad 5 (.t 33)) [9,1,0,8,7,6,5,3,2,4],
 qd 35 (.ld1 (.t 34)) [10,9,1,0,8,7,6,5,3,2,4],
 qd 5 (.mv (.t 35)) [11,10,9,1,0,8,7,6,5,3,2,4]])
 (.seq (.reg [qm 36 5,
 qo 37 (.bin .gtr (.t 36) (qk 0)),
 qm 38 37,
 qg 39 (.mv (.t 5)) 38 true,
 qg 40 (.ldn 6 (.t 2)) 38 true,
 qg 41 (.call (.f 54) [(.t 40)]) 38 true,
 qg 42 (.bin .neq (.t 39) (.t 41)) 38 true,
 qo 43 (.pick (.t 38) (.t 42) qf),
 qm 4 43])
 .ret)))),
[(.t 4)])
theorem irOk42 : convFn Tryz.prog Tryz.f42 = some ir42 := by kernel_rfl
def ir44 : Nat × C × List RV := (21,
(.seq (.reg [qo 1 (.box 27 (.t 0)),
 qo 2 (.mv (qk 0))])
 (.seq (.reg [qo 3 (.mv (qk 0))])
 (.seq (.seq (.reg [qo 4 (.mv (qk 0))])
 (.block 0 (.loop (.seq (.seq (.reg [qm 5 4,
 qo 6 (.fad 0 (.t 1)),
 qo 7 (.ld1 (.t 6)),
 qo 8 (.len (.t 7)),
 qo 9 (.bin .lss (.t 5) (.t 8))])
 (.cond (.t 9) .skip
 (.exit 0)))
 (.seq (.block 1 (.seq (.reg [qo 12 (.fad 0 (.t 1)),
 qo 13 (.ld1 (.t 12)),
 qm 14 4,
 qo 15 (.ixa 5 (.t 13) (.t 14)),
 qo 16 (.fad 1 (.t 15)),
 qo 17 (.ld1 (.t 16))])
 (.cond (.t 17) (.reg [qm 18 3,
 qo 19 (.bin .add (.t 18) (qk 1)),
 qm 3 19])
 .skip)))
 (.reg [qm 10 4,
 qo 11 (.bin .add (.t 10) (qk 1)),
 qm 4 11]))))))
 (.seq (.reg [qm 20 3,
 qm 2 20])
 .ret)))),
[(.t 2)])
theorem irOk44 : convFn Tryz.prog Tryz.f44 = some ir44 := by kernel_rfl
def ir43 : Nat × C × List RV := (68,
(.seq (.reg [qo 4 (.box 23 (.t 0)),
 qo 5 (.box 27 (.t 1)),
 qo 8 (.new 32 [q0,q0,q0,q0,q0,q0,q0]),
 qo 9 (.mv qf)])
 (.seq (.reg [qo 13 (.fad 0 (.t 5)),
 qo 14 (.ld1 (.t 13)),
 qm 15 2,
 qo 16 (.ixa 5 (.t 14) (.t 15)),
 qo 17 (.ldn 5 (.t 16)),
 qo 10 (.new 49 [(.val (.bool false)),(.val (.bool false)),(.val (.bool false)),q0,q0]),
 qn (.st 5 (.t 10) (.t 17))])
 (.seq (.seq (.reg [qo 18 (.fad 4 (.t 10)),
 qo 19 (.ld1 (.t 18)),
 qo 20 (.bin .eql (.t 19) (qk 0))])
 (.cond (.t 20) (.seq (.reg [qm 21 2,
 qo 22 (.build [q0,q0,q0,q0,q0,q0,q0] [(0,1,(qk 18)),(1,1,(.t 21))]),
 qn (.st 7 (.t 8) (.t 22)),
 qo 9 (.mv qt)])
 .ret)
 .skip))
 (.seq (.reg [qo 23 (.fad 1 (.t 5)),
 qo 24 (.ld1 (.t 23)),
 qo 25 (.fad 4 (.t 10)),
 qo 26 (.ld1 (.t 25)),
 qo 27 (.bin .sub (.t 26) (qk 1)),
 qo 28 (.ixa 12 (.t 24) (.t 27)),
 qo 29 (.ldn 12 (.t 28)),
 qo 11 (.new 47 [q0,q0,q0,q0,q0,q0,q0,q0,q0,q0,q0,q0]),
 qn (.st 12 (.t 11) (.t 29))])
 (.seq (.seq (.reg [qo 30 (.fad 6 (.t 11)),
 qo 31 (.ld1 (.t 30)),
 qo 32 (.bin .eql (.t 31) (qk 1))])
 (.cond (.t 32) (.seq (.reg [qo 33 (.fad 4 (.t 10)),
 qo 34 (.ld1 (.t 33)),
 qo 35 (.build [q0,q0,q0,q0,q0,q0,q0] [(0,1,(qk 11)),(1,1,(.t 34))]),
 qn (.st 7 (.t 8) (.t 35)),
 qo 9 (.mv qt)])
 .ret)
 .skip))
 (.seq (.seq (.reg [qo 36 (.fad 6 (.t 11)),
 qo 37 (.ld1 (.t 36)),
 qo 38 (.bin .neq (.t 37) (qk 2))])
 (.cond (.t 38) (.seq (.reg [qo 39 (.build [q0,q0,q0,q0,q0,q0,q0] []),
 qn (.st 7 (.t 8) (.t 39)),
 qo 9 (.mv qf)])
 .ret)
 .skip))
 (.seq (.seq (.regD [qo 40 (.fad 8 (.t 11)),
 qd 41 (.ld1 (.t 40)) [0],
 qd 42 (.call (.f 64) [(.t 41)]) [1,0],
 qo 43 (.fad 2 (.t 11)),
 qd 44 (.ld1 (.t 43)) [3],
 qd 45 (.bin .gtr (.t 42) (.t 44)) [2,1,0,4,3]])
 (.cond (.t 45) (.seq (.reg [qo 46 (.fad 4 (.t 10)),
 qo 47 (.ld1 (.t 46)),
 qm 48 2,
 qo 49 (.build [q0,q0,q0,q0,q0,q0,q0] [(0,1,(qk 20)),(1,1,(.t 47)),(2,1,(.t 48))]),
 qn (.st 7 (.t 8) (.t 49)),
 qo 9 (.mv qt)])
 .ret)
 .skip))
 (.seq (.seq (.regD [qo 50 (.ldn 6 (.t 5)),
 qo 51 (.fad 0 (.t 11)),
 qd 52 (.ld1 (.t 51)) [1],
 qd 53 (.call (.f 65) [(.t 50),(.t 52)]) [0,2,1],
 qo 54 (.fad 2 (.t 4)),
 qd 55 (.ld1 (.t 54)) [4],
 qd 56 (.bin .geq (.t 53) (.t 55)) [3,0,2,1,5,4]])
 (.cond (.t 56) (.seq (.reg [qo 57 (.build [q0,q0,q0,q0,q0,q0,q0] []),
 qn (.st 7 (.t 8) (.t 57)),
 qo 9 (.mv qf)])
 .ret)
 .skip))
 (.seq (.reg [qm 58 3,
 qo 59 (.fad 6 (.t 4)),
 qo 60 (.ld1 (.t 59)),
 qo 61 (.bin .add (.t 58) (.t 60)),
 qm 12 61])
 (.seq (.seq (.reg [qm 62 12,
 qo 63 (.bin .gtr (.t 62) (qk 1000000))])
 (.cond (.t 63) (.reg [qo 12 (.mv (qk 1000000))])
 .skip))
 (.seq (.reg [qo 64 (.fad 4 (.t 10)),
 qo 65 (.ld1 (.t 64)),
 qm 66 12,
 qo 67 (.build [q0,q0,q0,q0,q0,q0,q0] [(0,1,(qk 12)),(1,1,(.t 65)),(2,1,(.t 66))]),
 qn (.st 7 (.t 8) (.t 67)),
 qo 9 (.mv qt)])
 .ret))))))))))),
[(.cn 8 7),(.t 9)])
theorem irOk43 : convFn Tryz.prog Tryz.f43 = some ir43 := by kernel_rfl
def ir27 : Nat × C × List RV := (124,
(.seq (.reg [qo 3 (.box 23 (.t 0)),
 qo 4 (.box 27 (.t 1)),
 qo 6 (.new 32 [q0,q0,q0,q0,q0,q0,q0]),
 qo 7 (.mv qf)])
 (.seq (.seq (.reg [qo 14 (.fad 4 (.t 4)),
 qo 15 (.ld1 (.t 14)),
 qo 16 (.bin .eql (.t 15) (qk 1))])
 (.cond (.t 16) (.seq (.reg [qo 17 (.build [q0,q0,q0,q0,q0,q0,q0] []),
 qn (.st 7 (.t 6) (.t 17)),
 qo 7 (.mv qf)])
 .ret)
 .skip))
 (.seq (.seq (.reg [qo 8 (.mv (qk 0))])
 (.block 0 (.loop (.seq (.seq (.reg [qm 18 8,
 qo 19 (.fad 0 (.t 4)),
 qo 20 (.ld1 (.t 19)),
 qo 21 (.len (.t 20)),
 qo 22 (.bin .lss (.t 18) (.t 21))])
 (.cond (.t 22) .skip
 (.exit 0)))
 (.seq (.block 1 (.seq (.reg [qo 25 (.fad 0 (.t 4)),
 qo 26 (.ld1 (.t 25)),
 qm 27 8,
 qo 28 (.ixa 5 (.t 26) (.t 27)),
 qo 29 (.ldn 5 (.t 28)),
 qo 9 (.new 49 [(.val (.bool false)),(.val (.bool false)),(.val (.bool false)),q0,q0]),
 qn (.st 5 (.t 9) (.t 29))])
 (.seq (.reg [qo 30 (.fad 1 (.t 9)),
 qo 31 (.ld1 (.t 30)),
 qm 32 31,
 qg 33 (.fad 0 (.t 9)) 32 true,
 qg 34 (.ld1 (.t 33)) 32 true,
 qo 35 (.pick (.t 32) (.t 34) qf),
 qm 36 35,
 qg 37 (.fad 2 (.t 9)) 36 true,
 qg 38 (.ld1 (.t 37)) 36 true,
 qg 39 (.not (.t 38)) 36 true,
 qo 40 (.pick (.t 36) (.t 39) qf),
 qm 41 40,
 qg 42 (.ldn 6 (.t 4)) 41 true,
 qg 43 (.mv (.t 8)) 41 true,
 qg 44 (.call (.f 41) [(.t 42),(.t 43)]) 41 true,
 qg 45 (.not (.t 44)) 41 true,
 qg 46 (.mv (.t 45)) 41 true,
 qg 47 (.ldn 6 (.t 4)) 46 false,
 qg 48 (.mv (.t 8)) 46 false,
 qg 49 (.call (.f 42) [(.t 47),(.t 48)]) 46 false,
 qg 50 (.pick (.t 46) qt (.t 49)) 41 true,
 qo 51 (.pick (.t 41) (.t 50) qf)])
 (.cond (.t 51) (.seq (.reg [qm 52 8,
 qo 53 (.build [q0,q0,q0,q0,q0,q0,q0] [(0,1,(qk 17)),(1,1,(.t 52))]),
 qn (.st 7 (.t 6) (.t 53)),
 qo 7 (.mv qt)])
 .ret)
 .skip))))
 (.reg [qm 23 8,
 qo 24 (.bin .add (.t 23) (qk 1)),
 qm 8 24]))))))
 (.seq (.seq (.reg [qo 10 (.mv (qk 0))])
 (.block 2 (.loop (.seq (.seq (.reg [qm 54 10,
 qo 55 (.fad 0 (.t 4)),
 qo 56 (.ld1 (.t 55)),
 qo 57 (.len (.t 56)),
 qo 58 (.bin .lss (.t 54) (.t 57))])
 (.cond (.t 58) .skip
 (.exit 2)))
 (.seq (.block 3 (.seq (.seq (.reg [qo 61 (.fad 0 (.t 4)),
 qo 62 (.ld1 (.t 61)),
 qm 63 10,
 qo 64 (.ixa 5 (.t 62) (.t 63)),
 qo 65 (.fad 1 (.t 64)),
 qo 66 (.ld1 (.t 65)),
 qo 67 (.not (.t 66)),
 qm 68 67,
 qg 69 (.ldn 6 (.t 4)) 68 false,
 qg 70 (.mv (.t 10)) 68 false,
 qg 71 (.call (.f 41) [(.t 69),(.t 70)]) 68 false,
 qg 72 (.not (.t 71)) 68 false,
 qo 73 (.pick (.t 68) qt (.t 72)),
 qm 74 73,
 qg 75 (.ldn 6 (.t 4)) 74 false,
 qg 76 (.mv (.t 10)) 74 false,
 qg 77 (.call (.f 42) [(.t 75),(.t 76)]) 74 false,
 qo 78 (.pick (.t 74) qt (.t 77))])
 (.cond (.t 78) (.exit 3)
 .skip))
 (.seq (.reg [qo 80 (.ldn 9 (.t 3)),
 qo 81 (.ldn 6 (.t 4)),
 qm 82 10,
 qm 83 2,
 qo 84 (.call (.f 43) [(.t 80),(.t 81),(.t 82),(.t 83)]),
 qm 79 84,
 qo 85 (.ext (.t 79) 0),
 qo 86 (.ext (.t 79) 1),
 qo 11 (.new 32 [q0,q0,q0,q0,q0,q0,q0]),
 qn (.st 7 (.t 11) (.t 85)),
 qm 12 86])
 (.seq (.reg [qm 87 12])
 (.cond (.t 87) (.seq (.reg [qo 88 (.ldn 7 (.t 11)),
 qn (.st 7 (.t 6) (.t 88)),
 qo 7 (.mv qt)])
 .ret)
 .skip)))))
 (.reg [qm 59 10,
 qo 60 (.bin .add (.t 59) (qk 1)),
 qm 10 60]))))))
 (.seq (.seq (.reg [qo 13 (.mv (qk 0))])
 (.block 4 (.loop (.seq (.seq (.reg [qm 89 13,
 qo 90 (.fad 0 (.t 4)),
 qo 91 (.ld1 (.t 90)),
 qo 92 (.len (.t 91)),
 qo 93 (.bin .lss (.t 89) (.t 92))])
 (.cond (.t 93) .skip
 (.exit 4)))
 (.seq (.block 5 (.seq (.regD [qo 96 (.fad 0 (.t 4)),
 qd 97 (.ld1 (.t 96)) [0],
 qm 98 13,
 qd 99 (.ixa 5 (.t 97) (.t 98)) [1,0,2],
 qd 100 (.fad 1 (.t 99)) [3,1,0,2],
 qd 101 (.ld1 (.t 100)) [4,3,1,0,2],
 qd 102 (.not (.t 101)) [5,4,3,1,0,2],
 qd 103 (.mv (.t 102)) [6,5,4,3,1,0,2],
 qe 104 (.ldn 6 (.t 4)) 103 true [7,6,5,4,3,1,0,2],
 qe 105 (.mv (.t 13)) 103 true [7,6,5,4,3,1,0,2],
 qe 106 (.call (.f 41) [(.t 104),(.t 105)]) 103 true [8,7,6,5,4,3,1,0,2,9],
 qd 107 (.pick (.t 103) (.t 106) qf) [7,6,5,4,3,1,0,2,10,8,9],
 qd 108 (.mv (.t 107)) [11,7,6,5,4,3,1,0,2,10,8,9],
 qe 109 (.ldn 6 (.t 4)) 108 true [12,11,7,6,5,4,3,1,0,2,10,8,9],
 qe 110 (.mv (.t 13)) 108 true [12,11,7,6,5,4,3,1,0,2,10,8,9],
 qe 111 (.call (.f 42) [(.t 109),(.t 110)]) 108 true [13,12,11,7,6,5,4,3,1,0,2,10,8,9,14],
 qe 112 (.not (.t 111)) 108 true [15,13,12,11,7,6,5,4,3,1,0,2,10,8,9,14],
 qd 113 (.pick (.t 108) (.t 112) qf) [12,11,7,6,5,4,3,1,0,2,10,8,9,16,15,13,14],
 qd 114 (.mv (.t 113)) [17,12,11,7,6,5,4,3,1,0,2,10,8,9,16,15,13,14],
 qe 115 (.ldn 6 (.t 4)) 114 true [18,17,12,11,7,6,5,4,3,1,0,2,10,8,9,16,15,13,14],
 qe 116 (.call (.f 44) [(.t 115)]) 114 true [19,18,17,12,11,7,6,5,4,3,1,0,2,10,8,9,16,15,13,14],
 qe 117 (.fad 3 (.t 3)) 114 true [18,17,12,11,7,6,5,4,3,1,0,2,10,8,9,16,15,13,14],
 qe 118 (.ld1 (.t 117)) 114 true [21,18,17,12,11,7,6,5,4,3,1,0,2,10,8,9,16,15,13,14],
 qe 119 (.bin .lss (.t 116) (.t 118)) 114 true [20,19,18,17,12,11,7,6,5,4,3,1,0,2,10,8,9,16,15,13,14,22,21],
 qd 120 (.pick (.t 114) (.t 119) qf) [18,17,12,11,7,6,5,4,3,1,0,2,10,8,9,16,15,13,14,23,20,19,22,21]])
 (.cond (.t 120) (.seq (.reg [qm 121 13,
 qo 122 (.build [q0,q0,q0,q0,q0,q0,q0] [(0,1,(qk 16)),(1,1,(.t 121))]),
 qn (.st 7 (.t 6) (.t 122)),
 qo 7 (.mv qt)])
 .ret)
 .skip)))
 (.reg [qm 94 13,
 qo 95 (.bin .add (.t 94) (qk 1)),
 qm 13 95]))))))
 (.seq (.reg [qo 123 (.build [q0,q0,q0,q0,q0,q0,q0] []),
 qn (.st 7 (.t 6) (.t 123)),
 qo 7 (.mv qf)])
 .ret)))))),
[(.cn 6 7),(.t 7)])
theorem irOk27 : convFn Tryz.prog Tryz.f27 = some ir27 := by kernel_rfl


def boxS7 (s : StateD) : LObj := .box 27 [nodesV s.nodes, jobsV s.jobs, .int s.goal, .int s.prior, .int s.mode, .int s.term]
def boxC7 (c : ConfD) : LObj := .box 23 [.int c.nodes, .int c.queues, .int c.quota, .int c.wave, .int c.lease, .int c.retry, .int c.deadline, .int c.room, .int c.disk]
set_option maxHeartbeats 4000000 in
theorem behind17_tri (s : StateD) (i : Nat) (hi : i < s.nodes.length) : Tri Tryz.prog G 41 [stateV s, .int (i : Int)] [] (.bool (behindB s (s.nodes.getD i zeroNode))) [] := by
  refine tri_W0 Tryz.func41 (by decide) irOk41 (Nat.le_of_ble_eq_true rfl) rfl ?_
  simp only [ir41,go_sem,simprocAttr]
  have hg := get_mapD (f := nodeR) zeroNode hi
  generalize s.nodes.getD i zeroNode = n at hg ⊢
  simp only [nodeR] at hg
  simp only [hg,go_sem,simprocAttr]
  obtain ⟨up, cord, mov, ver, job⟩ := n
  unfold behindB
  cases up with
  | false => simp only [Bool.false_and,go_sem,simprocAttr]
  | true =>
    cases mov with
    | true => simp only [Bool.true_and,Bool.not_true,Bool.false_and,go_sem,simprocAttr]
    | false =>
      simp only [Bool.true_and,Bool.not_false,go_sem,simprocAttr]
      refine WD_calld (meant9_tri s) rfl rfl rfl rfl ?_; simp only [go_sem,simprocAttr]
      by_cases h : ver = meant s
      · simp only [show (ver != meant s) = false from bne_eq_false_iff_eq.2 h,decide_eq_false (show ¬ (ver ≠ meant s) from fun k => k h),go_sem,simprocAttr]
      · simp only [show (ver != meant s) = true from bne_iff_ne.2 h,decide_eq_true (show ver ≠ meant s from h),go_sem,simprocAttr]
theorem pin_rng {c : ConfD} {s : StateD} (h : RightP c s) (k : Nat) (hk : k < s.jobs.length) : 0 ≤ (joA s k).pin := by
  have ha := (h.num k hk).asked
  unfold askedB at ha
  simp only [Bool.and_eq_true] at ha
  exact (within_t ha.2).1
set_option maxHeartbeats 4000000 in
theorem alone17_tri {c : ConfD} (s : StateD) (hr : RightP c s) (i : Nat) (hi : i < s.nodes.length) : Tri Tryz.prog G 42 [stateV s, .int (i : Int)] [] (.bool (aloneN s (s.nodes.getD i zeroNode))) [] := by
  refine tri_W0 Tryz.func42 (by decide) irOk42 (Nat.le_of_ble_eq_true rfl) rfl ?_
  simp only [ir42,go_sem,simprocAttr]
  have hg := get_mapD (f := nodeR) zeroNode hi
  have hjb := hr.job i hi
  have hjl := hr.jobs
  unfold noA at hjb
  generalize s.nodes.getD i zeroNode = n at hg hjb ⊢
  simp only [nodeR] at hg
  simp only [decide_eq_false (show ¬ (i : Int) < 0 by omega),decide_eq_false (show ¬ (i : Int) ≥ (s.nodes.length : Int) by omega),List.length_map,hg,go_sem,simprocAttr]
  unfold aloneN
  by_cases h0 : n.job = 0
  · simp only [show (n.job == 0) = true from beq_iff_eq.2 h0,if_pos h0,go_sem,simprocAttr]
  obtain ⟨k, hk⟩ : ∃ k : Nat, n.job = ((k + 1 : Nat) : Int) := ⟨(n.job - 1).toNat, by omega⟩
  have hkl : k < s.jobs.length := by omega
  have e1 : IntKind.i64.wrap (n.job - 1) = (k : Int) := by rw [hk, wrap_in (by omega) (by omega)]; omega
  have e2 : pinOf s n.job = (joA s k).pin := by unfold pinOf joA; rw [hk, show (((k + 1 : Nat) : Int) - 1).toNat = k by omega]
  have hp := pin_rng hr k hkl
  have hgk := get_mapD (f := jobR) zeroJob hkl
  have hjo : joA s k = s.jobs.getD k zeroJob := rfl
  generalize s.jobs.getD k zeroJob = j at hgk hjo
  rw [hjo] at e2 hp
  simp only [jobR] at hgk
  simp only [show (n.job == 0) = false from beq_eq_false_iff_ne.2 h0,if_neg h0,hg,e1,hgk,e2,go_sem,simprocAttr]
  by_cases h1 : j.pin = 0
  · simp only [decide_eq_false (show ¬ j.pin > 0 by omega),decide_eq_false (show ¬ (j.pin ≠ 0) from fun k => k h1),Bool.false_and,go_sem,simprocAttr]
  · simp only [decide_eq_true (show j.pin > 0 by omega),decide_eq_true (show j.pin ≠ 0 from h1),Bool.true_and,go_sem,simprocAttr]
    refine W_calld (meant9_tri s) rfl rfl rfl rfl ?_; simp only [go_sem,simprocAttr]
    by_cases h : j.pin = meant s
    · simp only [show (j.pin != meant s) = false from bne_eq_false_iff_eq.2 h,decide_eq_false (show ¬ (j.pin ≠ meant s) from fun k => k h),go_sem,simprocAttr]
    · simp only [show (j.pin != meant s) = true from bne_iff_ne.2 h,decide_eq_true (show j.pin ≠ meant s from h),go_sem,simprocAttr]
def wv17S (s : StateD) (k : Nat) : St := ⟨[(1, .ptr 0 0), (3, .int (waveL (s.nodes.take k))), (4, .int k)], [some (boxS7 s)]⟩
set_option maxHeartbeats 4000000 in
theorem wave17_tri (s : StateD) (hn : s.nodes.length ≤ 1000) : Tri Tryz.prog G 44 [stateV s] [] (.int (waveL s.nodes)) [] := by
  refine tri_W0 Tryz.func44 (by decide) irOk44 (Nat.le_of_ble_eq_true rfl) rfl ?_
  simp only [ir44,go_sem,simprocAttr]
  refine W_loopI [1, 3, 4] [] (fun k : Nat => k ≤ s.nodes.length) (fun k => s.nodes.length - k) (wv17S s) 0 ?_ (Nat.zero_le _) (fun k hk => ?_)
  · simp only [wv17S,boxS7,List.take_zero,waveL,List.filter_nil,List.length_nil,Int.natCast_zero,go_sem,simprocAttr]
  simp only [wv17S,boxS7,List.length_map,go_sem,simprocAttr]
  by_cases hlt : k < s.nodes.length
  · have hg := get_mapD (f := nodeR) zeroNode hlt
    have ht : s.nodes.take (k + 1) = s.nodes.take k ++ [s.nodes.getD k zeroNode] := by
      rw [List.take_add_one, List.getElem?_eq_getElem hlt]
      simp [List.getD,hlt]
    have hw := waveL_le (s.nodes.take k)
    have hwl := List.length_take_le k s.nodes
    have hs := waveL_snoc (s.nodes.take k) (s.nodes.getD k zeroNode)
    rw [← ht] at hs
    generalize s.nodes.getD k zeroNode = n at hg hs
    simp only [nodeR] at hg
    simp only [decide_eq_true (show ((k : Nat) : Int) < ((s.nodes.length : Nat) : Int) by omega),hg,go_sem,simprocAttr]
    have hsum : IntKind.i64.wrap (waveL (s.nodes.take k) + 1) = waveL (s.nodes.take k) + 1 := wrap_in (by omega) (by omega)
    cases hc : n.cordon with
    | true =>
      rw [hc, if_pos rfl] at hs
      simp only [hsum,go_sem,simprocAttr]
      refine W_lpI (k + 1) ?_ ?_ (by omega) (by omega)
      · simp only [go_sem,simprocAttr]
      · simp only [wv17S,boxS7,hs,wrap_succ (show k < 9223372036854775807 by omega),go_sem,simprocAttr]
    | false =>
      rw [hc, if_neg (by decide), Int.add_zero] at hs
      simp only [go_sem,simprocAttr]
      refine W_lpI (k + 1) ?_ ?_ (by omega) (by omega)
      · simp only [go_sem,simprocAttr]
      · simp only [wv17S,boxS7,hs,wrap_succ (show k < 9223372036854775807 by omega),go_sem,simprocAttr]
  · obtain rfl : k = s.nodes.length := by omega
    simp only [decide_eq_false (show ¬ ((s.nodes.length : Nat) : Int) < ((s.nodes.length : Nat) : Int) by omega),List.take_length,go_sem,simprocAttr]
end Dv
