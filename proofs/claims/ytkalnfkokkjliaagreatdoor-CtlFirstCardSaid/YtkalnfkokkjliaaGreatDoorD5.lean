/- The wave's contracts. -/
import Derived.Test.YtkalnfkokkjliaaGreatDoorD4
set_option linter.unusedVariables false
set_option linter.unusedSimpArgs false
namespace Dv
open Go Go.Proofs
variable {G:Nat→Option (List DV)}
def Qe:Nat×C×List RV:=(19,
(.seq (.af [qo 2 (.box 30 (.t 0)),
 qo 3 (.box 102 (.t 1)),
 qo 4 (.mv qf)])
 (.seq (.bQ [qo 5 (.aj 0 (.t 3)),
 qd 6 (.ld1 (.t 5)) [0],
 qd 7 (.mv (.t 6)) [1,0],
 qe 8 (.aj 2 (.t 3)) 7 true [2,1,0],
 qe 9 (.ld1 (.t 8)) 7 true [3,2,1,0],
 qe 10 (.not (.t 9)) 7 true [4,3,2,1,0],
 qd 11 (.pick (.t 7) (.t 10) qf) [2,1,0,5,4,3],
 qd 12 (.mv (.t 11)) [6,2,1,0,5,4,3],
 qe 13 (.aj 3 (.t 3)) 12 true [7,6,2,1,0,5,4,3],
 qe 14 (.ld1 (.t 13)) 12 true [8,7,6,2,1,0,5,4,3],
 qe 15 (.bP 6 (.t 2)) 12 true [7,6,2,1,0,5,4,3],
 qe 16 (.call (.f 220) [(.t 15)]) 12 true [10,7,6,2,1,0,5,4,3],
 qe 17 (.bin .neq (.t 14) (.t 16)) 12 true [9,8,7,6,2,1,0,5,4,3,11,10],
 qd 18 (.pick (.t 12) (.t 17) qf) [7,6,2,1,0,5,4,3,12,9,8,11,10],
 qd 4 (.mv (.t 18)) [13,7,6,2,1,0,5,4,3,12,9,8,11,10]])
 .ret)),
[(.t 4)])
theorem ML:aq Tryz.prog Tryz.f308=some Qe:=by kernel_rfl
def Qd:Nat×C×List RV:=(44,
(.seq (.af [qo 2 (.box 30 (.t 0)),
 qo 4 (.mv qf)])
 (.seq (.seq (.af [qm 6 1,
 qo 7 (.bin .lss (.t 6) (qk 0)),
 qm 8 7,
 qg 9 (.mv (.t 1)) 8 false,
 qg 10 (.aj 0 (.t 2)) 8 false,
 qg 11 (.ld1 (.t 10)) 8 false,
 qg 12 (.len (.t 11)) 8 false,
 qg 13 (.bin .geq (.t 9) (.t 12)) 8 false,
 qo 14 (.pick (.t 8) qt (.t 13)),
 qm 15 14,
 qg 16 (.aj 0 (.t 2)) 15 false,
 qg 17 (.ld1 (.t 16)) 15 false,
 qg 18 (.mv (.t 1)) 15 false,
 qg 19 (.eG 5 (.t 17) (.t 18)) 15 false,
 qg 20 (.aj 4 (.t 19)) 15 false,
 qg 21 (.ld1 (.t 20)) 15 false,
 qg 22 (.bin .eql (.t 21) (qk 0)) 15 false,
 qo 23 (.pick (.t 15) qt (.t 22))])
 (.cond (.t 23) (.seq (.af [qo 4 (.mv qf)])
 .ret)
 .skip))
 (.seq (.bQ [qo 24 (.aj 1 (.t 2)),
 qd 25 (.ld1 (.t 24)) [0],
 qo 26 (.aj 0 (.t 2)),
 qd 27 (.ld1 (.t 26)) [2],
 qm 28 1,
 qd 29 (.eG 5 (.t 27) (.t 28)) [3,2,4],
 qd 30 (.aj 4 (.t 29)) [5,3,2,4],
 qd 31 (.ld1 (.t 30)) [6,5,3,2,4],
 qd 32 (.bin .sub (.t 31) (qk 1)) [7,6,5,3,2,4],
 qd 33 (.eG 12 (.t 25) (.t 32)) [1,0,8,7,6,5,3,2,4],
 qd 34 (.aj 5 (.t 33)) [9,1,0,8,7,6,5,3,2,4],
 qd 35 (.ld1 (.t 34)) [10,9,1,0,8,7,6,5,3,2,4],
 qd 5 (.mv (.t 35)) [11,10,9,1,0,8,7,6,5,3,2,4]])
 (.seq (.af [qm 36 5,
 qo 37 (.bin .neq (.t 36) (qk 0)),
 qm 38 37,
 qg 39 (.mv (.t 5)) 38 true,
 qg 40 (.bP 6 (.t 2)) 38 true,
 qg 41 (.call (.f 220) [(.t 40)]) 38 true,
 qg 42 (.bin .neq (.t 39) (.t 41)) 38 true,
 qo 43 (.pick (.t 38) (.t 42) qf),
 qm 4 43])
 .ret)))),
[(.t 4)])
theorem MK:aq Tryz.prog Tryz.f309=some Qd:=by kernel_rfl
def Qb:Nat×C×List RV:=(19,
(.seq (.af [qo 1 (.box 30 (.t 0)),
 qo 2 (.mv (qk 0))])
 (.seq (.af [qo 3 (.mv (qk 0))])
 (.seq (.seq (.af [qo 6 (.aj 0 (.t 1)),
 qo 7 (.ld1 (.t 6)),
 qo 8 (.len (.t 7)),
 qo 9 (.mv (qk 0))])
 (.block 0 (.loop (.seq (.af [qo 10 (.bin .lss (.t 9) (.t 8))])
 (.seq (.cond (.t 10) .skip
 (.exit 0))
 (.seq (.block 1 (.seq (.af [qo 11 (.eG 5 (.t 7) (.t 9)),
 qo 12 (.bP 5 (.t 11)),
 qo 5 (.new 102 [(.val (.bool false)),(.val (.bool false)),(.val (.bool false)),q0,q0]),
 qn (.st 5 (.t 5) (.t 12))])
 (.seq (.af [qo 13 (.aj 1 (.t 5)),
 qo 14 (.ld1 (.t 13))])
 (.cond (.t 14) (.af [qm 15 3,
 qo 16 (.bin .add (.t 15) (qk 1)),
 qm 3 16])
 .skip))))
 (.af [qo 17 (.bin .add (.t 9) (qk 1)),
 qm 9 17])))))))
 (.seq (.af [qm 18 3,
 qm 2 18])
 .ret)))),
[(.t 2)])
theorem MI:aq Tryz.prog Tryz.f311=some Qb:=by kernel_rfl
def Qm:Nat×C×List RV:=(41,
(.seq (.af [qo 2 (.box 326 (.t 0)),
 qo 4 (.new 37 [q0,q0,q0,q0,q0,q0,q0]),
 qo 5 (.mv qf)])
 (.seq (.af [qo 8 (.aj 9 (.t 2)),
 qo 9 (.aj 0 (.t 8)),
 qo 10 (.ld1 (.t 9)),
 qm 11 1,
 qo 12 (.eG 5 (.t 10) (.t 11)),
 qo 13 (.bP 5 (.t 12)),
 qo 6 (.new 102 [(.val (.bool false)),(.val (.bool false)),(.val (.bool false)),q0,q0]),
 qn (.st 5 (.t 6) (.t 13))])
 (.seq (.af [qo 14 (.aj 1 (.t 6)),
 qo 15 (.ld1 (.t 14)),
 qm 16 15,
 qg 17 (.aj 0 (.t 6)) 16 true,
 qg 18 (.ld1 (.t 17)) 16 true,
 qo 19 (.pick (.t 16) (.t 18) qf),
 qm 20 19,
 qg 21 (.aj 2 (.t 6)) 20 true,
 qg 22 (.ld1 (.t 21)) 20 true,
 qg 23 (.not (.t 22)) 20 true,
 qo 24 (.pick (.t 20) (.t 23) qf),
 qm 25 24,
 qg 26 (.aj 9 (.t 2)) 25 true,
 qg 27 (.bP 6 (.t 26)) 25 true,
 qg 28 (.bP 5 (.t 6)) 25 true,
 qg 29 (.call (.f 308) [(.t 27),(.t 28)]) 25 true,
 qg 30 (.not (.t 29)) 25 true,
 qg 31 (.mv (.t 30)) 25 true,
 qg 32 (.aj 9 (.t 2)) 31 false,
 qg 33 (.bP 6 (.t 32)) 31 false,
 qg 34 (.mv (.t 1)) 31 false,
 qg 35 (.call (.f 309) [(.t 33),(.t 34)]) 31 false,
 qg 36 (.pick (.t 31) qt (.t 35)) 25 true,
 qo 37 (.pick (.t 25) (.t 36) qf),
 qm 7 37])
 (.seq (.af [qm 38 1,
 qo 39 (.build [q0,q0,q0,q0,q0,q0,q0] [(0,1,(qk 17)),(1,1,(.t 38))]),
 qm 40 7,
 qn (.st 7 (.t 4) (.t 39)),
 qm 5 40])
 .ret)))),
[(.cn 4 7),(.t 5)])
theorem MT:aq Tryz.prog Tryz.f286=some Qm:=by kernel_rfl
def Ql:Nat×C×List RV:=(93,
(.seq (.af [qo 2 (.box 326 (.t 0)),
 qo 4 (.new 37 [q0,q0,q0,q0,q0,q0,q0]),
 qo 5 (.mv qf)])
 (.seq (.af [qo 8 (.aj 9 (.t 2)),
 qo 9 (.aj 0 (.t 8)),
 qo 10 (.ld1 (.t 9)),
 qm 11 1,
 qo 12 (.eG 5 (.t 10) (.t 11)),
 qo 13 (.bP 5 (.t 12)),
 qo 6 (.new 102 [(.val (.bool false)),(.val (.bool false)),(.val (.bool false)),q0,q0]),
 qn (.st 5 (.t 6) (.t 13))])
 (.seq (.seq (.af [qo 14 (.aj 1 (.t 6)),
 qo 15 (.ld1 (.t 14)),
 qo 16 (.not (.t 15)),
 qm 17 16,
 qg 18 (.aj 9 (.t 2)) 17 false,
 qg 19 (.bP 6 (.t 18)) 17 false,
 qg 20 (.bP 5 (.t 6)) 17 false,
 qg 21 (.call (.f 308) [(.t 19),(.t 20)]) 17 false,
 qg 22 (.not (.t 21)) 17 false,
 qo 23 (.pick (.t 17) qt (.t 22)),
 qm 24 23,
 qg 25 (.aj 9 (.t 2)) 24 false,
 qg 26 (.bP 6 (.t 25)) 24 false,
 qg 27 (.mv (.t 1)) 24 false,
 qg 28 (.call (.f 309) [(.t 26),(.t 27)]) 24 false,
 qo 29 (.pick (.t 24) qt (.t 28))])
 (.cond (.t 29) (.seq (.af [qo 30 (.build [q0,q0,q0,q0,q0,q0,q0] []),
 qn (.st 7 (.t 4) (.t 30)),
 qo 5 (.mv qf)])
 .ret)
 .skip))
 (.seq (.seq (.af [qo 31 (.aj 4 (.t 6)),
 qo 32 (.ld1 (.t 31)),
 qo 33 (.bin .eql (.t 32) (qk 0))])
 (.cond (.t 33) (.seq (.af [qm 34 1,
 qo 35 (.build [q0,q0,q0,q0,q0,q0,q0] [(0,1,(qk 18)),(1,1,(.t 34))]),
 qn (.st 7 (.t 4) (.t 35)),
 qo 5 (.mv qt)])
 .ret)
 .skip))
 (.seq (.af [qo 36 (.aj 9 (.t 2)),
 qo 37 (.aj 1 (.t 36)),
 qo 38 (.ld1 (.t 37)),
 qo 39 (.aj 4 (.t 6)),
 qo 40 (.ld1 (.t 39)),
 qo 41 (.bin .sub (.t 40) (qk 1)),
 qo 42 (.eG 12 (.t 38) (.t 41)),
 qo 43 (.bP 12 (.t 42)),
 qo 7 (.new 119 [q0,q0,q0,q0,q0,q0,q0,q0,q0,q0,q0,q0]),
 qn (.st 12 (.t 7) (.t 43))])
 (.seq (.block 0 (.seq (.af [qo 45 (.aj 6 (.t 7)),
 qo 46 (.ld1 (.t 45)),
 qo 47 (.bin .eql (.t 46) (qk 1)),
 qm 44 47])
 (.cond (.t 44) (.seq (.af [qo 48 (.aj 4 (.t 6)),
 qo 49 (.ld1 (.t 48)),
 qo 50 (.build [q0,q0,q0,q0,q0,q0,q0] [(0,1,(qk 11)),(1,1,(.t 49))]),
 qn (.st 7 (.t 4) (.t 50)),
 qo 5 (.mv qt)])
 .ret)
 (.seq (.bQ [qo 52 (.aj 6 (.t 7)),
 qd 53 (.ld1 (.t 52)) [0],
 qd 54 (.bin .eql (.t 53) (qk 2)) [1,0],
 qd 55 (.mv (.t 54)) [2,1,0],
 qe 56 (.aj 8 (.t 7)) 55 true [3,2,1,0],
 qe 57 (.ld1 (.t 56)) 55 true [4,3,2,1,0],
 qe 58 (.call (.f 310) [(.t 57)]) 55 true [5,4,3,2,1,0],
 qe 59 (.aj 2 (.t 7)) 55 true [3,2,1,0],
 qe 60 (.ld1 (.t 59)) 55 true [7,3,2,1,0],
 qe 61 (.bin .gtr (.t 58) (.t 60)) 55 true [6,5,4,3,2,1,0,8,7],
 qd 62 (.pick (.t 55) (.t 61) qf) [3,2,1,0,9,6,5,4,8,7],
 qd 51 (.mv (.t 62)) [10,3,2,1,0,9,6,5,4,8,7]])
 (.cond (.t 51) (.seq (.af [qo 63 (.aj 4 (.t 6)),
 qo 64 (.ld1 (.t 63)),
 qm 65 1,
 qo 66 (.build [q0,q0,q0,q0,q0,q0,q0] [(0,1,(qk 20)),(1,1,(.t 64)),(2,1,(.t 65))]),
 qn (.st 7 (.t 4) (.t 66)),
 qo 5 (.mv qt)])
 .ret)
 (.seq (.bQ [qo 68 (.aj 6 (.t 7)),
 qd 69 (.ld1 (.t 68)) [0],
 qd 70 (.bin .eql (.t 69) (qk 2)) [1,0],
 qd 71 (.mv (.t 70)) [2,1,0],
 qe 72 (.aj 9 (.t 2)) 71 true [3,2,1,0],
 qe 73 (.bP 6 (.t 72)) 71 true [4,3,2,1,0],
 qe 74 (.aj 0 (.t 7)) 71 true [3,2,1,0],
 qe 75 (.ld1 (.t 74)) 71 true [6,3,2,1,0],
 qe 76 (.call (.f 115) [(.t 73),(.t 75)]) 71 true [5,4,3,2,1,0,7,6],
 qe 77 (.aj 0 (.t 2)) 71 true [3,2,1,0],
 qe 78 (.aj 2 (.t 77)) 71 true [9,3,2,1,0],
 qe 79 (.ld1 (.t 78)) 71 true [10,9,3,2,1,0],
 qe 80 (.bin .lss (.t 76) (.t 79)) 71 true [8,5,4,3,2,1,0,7,6,11,10,9],
 qd 81 (.pick (.t 71) (.t 80) qf) [3,2,1,0,12,8,5,4,7,6,11,10,9],
 qd 67 (.mv (.t 81)) [13,3,2,1,0,12,8,5,4,7,6,11,10,9]])
 (.cond (.t 67) (.seq (.af [qo 82 (.aj 4 (.t 6)),
 qo 83 (.ld1 (.t 82)),
 qo 84 (.aj 15 (.t 2)),
 qo 85 (.ld1 (.t 84)),
 qo 86 (.aj 0 (.t 2)),
 qo 87 (.aj 6 (.t 86)),
 qo 88 (.ld1 (.t 87)),
 qo 89 (.bin .add (.t 85) (.t 88)),
 qo 90 (.min (qk 1000000) (.t 89)),
 qo 91 (.build [q0,q0,q0,q0,q0,q0,q0] [(0,1,(qk 12)),(1,1,(.t 83)),(2,1,(.t 90))]),
 qn (.st 7 (.t 4) (.t 91)),
 qo 5 (.mv qt)])
 .ret)
 .skip)))))))
 (.seq (.af [qo 92 (.build [q0,q0,q0,q0,q0,q0,q0] []),
 qn (.st 7 (.t 4) (.t 92)),
 qo 5 (.mv qf)])
 .ret))))))),
[(.cn 4 7),(.t 5)])
theorem MS:aq Tryz.prog Tryz.f287=some Ql:=by kernel_rfl
def Qk:Nat×C×List RV:=(42,
(.seq (.af [qo 2 (.box 326 (.t 0)),
 qo 4 (.new 37 [q0,q0,q0,q0,q0,q0,q0]),
 qo 5 (.mv qf)])
 (.seq (.af [qo 8 (.aj 9 (.t 2)),
 qo 9 (.aj 0 (.t 8)),
 qo 10 (.ld1 (.t 9)),
 qm 11 1,
 qo 12 (.eG 5 (.t 10) (.t 11)),
 qo 13 (.bP 5 (.t 12)),
 qo 6 (.new 102 [(.val (.bool false)),(.val (.bool false)),(.val (.bool false)),q0,q0]),
 qn (.st 5 (.t 6) (.t 13))])
 (.seq (.bQ [qo 14 (.aj 1 (.t 6)),
 qd 15 (.ld1 (.t 14)) [0],
 qd 16 (.not (.t 15)) [1,0],
 qd 17 (.mv (.t 16)) [2,1,0],
 qe 18 (.aj 9 (.t 2)) 17 true [3,2,1,0],
 qe 19 (.bP 6 (.t 18)) 17 true [4,3,2,1,0],
 qe 20 (.bP 5 (.t 6)) 17 true [3,2,1,0],
 qe 21 (.call (.f 308) [(.t 19),(.t 20)]) 17 true [5,4,3,2,1,0,6],
 qd 22 (.pick (.t 17) (.t 21) qf) [3,2,1,0,7,5,4,6],
 qd 23 (.mv (.t 22)) [8,3,2,1,0,7,5,4,6],
 qe 24 (.aj 9 (.t 2)) 23 true [9,8,3,2,1,0,7,5,4,6],
 qe 25 (.bP 6 (.t 24)) 23 true [10,9,8,3,2,1,0,7,5,4,6],
 qe 26 (.mv (.t 1)) 23 true [9,8,3,2,1,0,7,5,4,6],
 qe 27 (.call (.f 309) [(.t 25),(.t 26)]) 23 true [11,10,9,8,3,2,1,0,7,5,4,6,12],
 qe 28 (.not (.t 27)) 23 true [13,11,10,9,8,3,2,1,0,7,5,4,6,12],
 qd 29 (.pick (.t 23) (.t 28) qf) [9,8,3,2,1,0,7,5,4,6,14,13,11,10,12],
 qd 30 (.mv (.t 29)) [15,9,8,3,2,1,0,7,5,4,6,14,13,11,10,12],
 qe 31 (.aj 9 (.t 2)) 30 true [16,15,9,8,3,2,1,0,7,5,4,6,14,13,11,10,12],
 qe 32 (.bP 6 (.t 31)) 30 true [17,16,15,9,8,3,2,1,0,7,5,4,6,14,13,11,10,12],
 qe 33 (.call (.f 311) [(.t 32)]) 30 true [18,17,16,15,9,8,3,2,1,0,7,5,4,6,14,13,11,10,12],
 qe 34 (.aj 0 (.t 2)) 30 true [16,15,9,8,3,2,1,0,7,5,4,6,14,13,11,10,12],
 qe 35 (.aj 3 (.t 34)) 30 true [20,16,15,9,8,3,2,1,0,7,5,4,6,14,13,11,10,12],
 qe 36 (.ld1 (.t 35)) 30 true [21,20,16,15,9,8,3,2,1,0,7,5,4,6,14,13,11,10,12],
 qe 37 (.bin .lss (.t 33) (.t 36)) 30 true [19,18,17,16,15,9,8,3,2,1,0,7,5,4,6,14,13,11,10,12,22,21,20],
 qd 38 (.pick (.t 30) (.t 37) qf) [16,15,9,8,3,2,1,0,7,5,4,6,14,13,11,10,12,23,19,18,17,22,21,20],
 qd 7 (.mv (.t 38)) [24,16,15,9,8,3,2,1,0,7,5,4,6,14,13,11,10,12,23,19,18,17,22,21,20]])
 (.seq (.af [qm 39 1,
 qo 40 (.build [q0,q0,q0,q0,q0,q0,q0] [(0,1,(qk 16)),(1,1,(.t 39))]),
 qm 41 7,
 qn (.st 7 (.t 4) (.t 40)),
 qm 5 41])
 .ret)))),
[(.cn 4 7),(.t 5)])
theorem MR:aq Tryz.prog Tryz.f288=some Qk:=by kernel_rfl
def QH:Nat×C×List RV:=(54,
(.seq (.af [qo 3 (.box 23 (.t 0)),
 qo 4 (.box 30 (.t 1)),
 qo 6 (.new 37 [q0,q0,q0,q0,q0,q0,q0]),
 qo 7 (.mv qf)])
 (.scope (.seq (.seq (.af [qo 14 (.aj 4 (.t 4)),
 qo 15 (.ld1 (.t 14)),
 qo 16 (.bin .eql (.t 15) (qk 1))])
 (.cond (.t 16) (.seq (.af [qo 17 (.build [q0,q0,q0,q0,q0,q0,q0] []),
 qn (.st 7 (.t 6) (.t 17)),
 qo 7 (.mv qf)])
 .ret)
 .skip))
 (.seq (.af [qo 18 (.bP 9 (.t 3)),
 qo 19 (.bP 6 (.t 4)),
 qm 20 2,
 qo 21 (.build [q0,q0,q0,q0,q0,q0,q0,q0,q0,(.val (.slice none 0 0)),(.val (.slice none 0 0)),q0,q0,q0,q0,q0] [(0,9,(.t 18)),(9,6,(.t 19)),(15,1,(.t 20))]),
 qo 8 (.new 326 [q0,q0,q0,q0,q0,q0,q0,q0,q0,(.val (.slice none 0 0)),(.val (.slice none 0 0)),q0,q0,q0,q0,q0]),
 qn (.st 16 (.t 8) (.t 21))])
 (.seq .skip
 (.seq (.seq (.af [qo 22 (.bP 16 (.t 8)),
 qo 23 (.zS (.func 286) [(.t 22)] []),
 qo 24 (.build [(.val .nilFunc)] [(0,1,(.t 23))]),
 qo 25 (.bP 16 (.t 8)),
 qo 26 (.zS (.func 287) [(.t 25)] []),
 qo 27 (.build [(.val .nilFunc)] [(0,1,(.t 26))]),
 qo 28 (.bP 16 (.t 8)),
 qo 29 (.zS (.func 288) [(.t 28)] []),
 qo 30 (.build [(.val .nilFunc)] [(0,1,(.t 29))]),
 qo 31 (.build [(.val .nilFunc),(.val .nilFunc),(.val .nilFunc)] [(0,1,(.t 24)),(1,1,(.t 27)),(2,1,(.t 30))]),
 qo 32 (.mv (qk 0))])
 (.block 0 (.loop (.seq (.af [qo 33 (.bin .lss (.t 32) (qk 3))])
 (.seq (.cond (.t 33) .skip
 (.exit 0))
 (.seq (.block 1 (.seq (.af [qo 34 (.PS 3 1 (.t 31) (.t 32)),
 qo 10 (.new 328 [(.val .nilFunc)]),
 qn (.st 1 (.t 10) (.t 34))])
 (.seq (.af [qo 35 (.aj 0 (.t 4)),
 qo 36 (.ld1 (.t 35)),
 qo 37 (.len (.t 36)),
 qo 38 (.mv (qk 0))])
 (.block 2 (.loop (.seq (.af [qo 39 (.bin .lss (.t 38) (.t 37))])
 (.seq (.cond (.t 39) .skip
 (.exit 2))
 (.seq (.block 3 (.seq (.af [qm 40 38,
 qm 11 40])
 (.seq (.af [qo 42 (.aj 0 (.t 10)),
 qo 43 (.ld1 (.t 42)),
 qm 44 11,
 qo 45 (.call (.t 43) [(.t 44)]),
 qm 41 45,
 qo 46 (.ext (.t 41) 0),
 qo 47 (.ext (.t 41) 1),
 qo 12 (.new 37 [q0,q0,q0,q0,q0,q0,q0]),
 qn (.st 7 (.t 12) (.t 46)),
 qm 13 47])
 (.seq (.af [qm 48 13])
 (.cond (.t 48) (.seq (.af [qo 49 (.bP 7 (.t 12)),
 qn (.st 7 (.t 6) (.t 49)),
 qo 7 (.mv qt)])
 (.exit 0))
 .skip)))))
 (.af [qo 50 (.bin .add (.t 38) (qk 1)),
 qm 38 50])))))))))
 (.af [qo 51 (.bin .add (.t 32) (qk 1)),
 qm 32 51])))))))
 (.seq (.af [qo 52 (.bP 7 (.t 6)),
 qm 53 7,
 qn (.st 7 (.t 6) (.t 52)),
 qm 7 53])
 .ret))))))),
[(.cn 6 7),(.t 7)])
theorem Nd:aq Tryz.prog Tryz.f246=some QH:=by kernel_rfl
theorem qy (s:aa) (n:bK):bw Tryz.prog G 308 [bp s,vP n] [] (.bool (jw s n)) []:=by
 refine bn Tryz.func308 (by decide) ML rfl rfl ?_
 simp only [Qe,go_sem,simprocAttr]
 have e:jw s n=(n.up&&(!n.bu&&(n.version !=fk s))):=by unfold jw; rw [Bool.eq_iff_iff]; simp [and_assoc]
 rw [e]
 repeat' (first | ((first | with_reducible refine dN (fun h=>?_) (fun h=>?_) | refine cN (fun h=>?_) (fun h=>?_)) <;> simp only [h,go_sem,simprocAttr]) | (refine bf (iE s) rfl rfl rfl rfl ?_; simp only [go_sem,simprocAttr]) | (refine aC (iE s) rfl rfl rfl rfl ?_; simp only [go_sem,simprocAttr]) | ((first | with_reducible refine xq (fun h=>?_) (fun h=>?_) | refine fW (fun h=>?_) (fun h=>?_)) <;> simp only [h,go_sem,simprocAttr]))
structure NJ (s:aa):Prop where
 nodes:s.nodes.length≤1000
 jobs:s.jobs.length≤1000
 aN:∀ k,k<s.nodes.length→0≤(s.nodes.getD k ag).aN∧(s.nodes.getD k ag).aN≤s.jobs.length
theorem AH.nj {c:aH} {s:aa} (h:AH c s):NJ s:=by
 have h1:=h.tn
 have h2:=h.nodes
 have h3:=h.jobs
 exact ⟨by omega,by omega,fun k hk=>⟨(h.node hk).2.2.1,(h.node hk).2.2.2⟩⟩
theorem tv (s:aa) (i:Int) (hs:NJ s):bw Tryz.prog G 309 [bp s,.int i] [] (.bool (qz s i)) []:=by
 refine bn Tryz.func309 (by decide) MK rfl rfl ?_
 simp only [Qd,go_sem,simprocAttr]
 unfold qz
 cases h1:decide (i<0) with
 | true=>
   have xz:i<0:=of_decide_eq_true h1
   simp only [xz,go_sem,simprocAttr]
 | false=>
   have xz:¬ i<0:=of_decide_eq_false h1
   simp only [xz,false_or,go_sem,simprocAttr]
   cases h2:decide (i≥(s.nodes.length:Int)) with
   | true=>
     have CH:(s.nodes.length:Int)≤i:=of_decide_eq_true h2
     simp only [CH,go_sem,simprocAttr]
   | false=>
     have CH:¬ (s.nodes.length:Int)≤i:=of_decide_eq_false h2
     have h0:0≤i:=by omega
     have hk:i.toNat<s.nodes.length:=by omega
     have hg:=aL (f:=ck) ag hk
     have hjb:=hs.aN _ hk
     have hjl:=hs.jobs
     unfold om vE
     generalize s.nodes.getD i.toNat ag=n at *
     simp only [h0,CH,hg,go_sem,simprocAttr]
     cases h3:(n.aN==0) with
     | true=>
       have D6:n.aN=0:=by simpa using h3
       simp only [D6,go_sem,simprocAttr]
     | false=>
       have D6:n.aN≠0:=by simpa using h3
       have hw:IntKind.i64.wrap (n.aN-1)=n.aN-1:=aO (by omega) (by omega)
       have hg2:=aL (f:=dh) ax (show (n.aN-1).toNat<s.jobs.length by omega)
       have h4:0≤n.aN-1:=by omega
       generalize s.jobs.getD (n.aN-1).toNat ax=j at *
       have e:(decide (j.pin≠0)&&decide (j.pin≠fk s))=((j.pin !=0)&&(j.pin !=fk s)):=by rw [Bool.eq_iff_iff]; simp
       simp only [e,D6,hw,hg,hg2,h0,h4,go_sem,simprocAttr]
       repeat' (first | ((first | with_reducible refine dN (fun h=>?_) (fun h=>?_) | refine cN (fun h=>?_) (fun h=>?_)) <;> simp only [h,go_sem,simprocAttr]) | (refine aC (iE s) rfl rfl rfl rfl ?_; simp only [go_sem,simprocAttr]))
def AO (s:aa) (k:Nat):St:=⟨[(3,.int (nr (s.nodes.take k))),(7,bZ s.nodes),(8,.int s.nodes.length),(9,.int k)],[some (.box 30 [bZ s.nodes,dg s.jobs,.int s.goal,.int s.prior,.int s.mode,.int s.term])]⟩
theorem Ip (s:aa) (hn:s.nodes.length≤1000):bw Tryz.prog G 311 [bp s] [] (.int (nr s.nodes)) []:=by
 refine bn Tryz.func311 (by decide) MI rfl rfl ?_
 simp only [Qb,go_sem,simprocAttr]
 refine aY [3,7,8,9] [] (fun k:Nat=>k≤s.nodes.length) (fun k=>s.nodes.length-k) (AO s) 0 ?_ (Nat.zero_le _) (fun k hk=>?_)
 ·simp only [AO,go_sem,simprocAttr,nr,List.filter_nil,Int.natCast_zero]
 simp only [AO,go_sem,simprocAttr]
 refine bg (fun h=>?_) (fun h=>?_)
 ·have h:=dX h
  have hb:=Iq (s.nodes.take k)
  rw [List.length_take] at hb
  have hs:s.nodes.take (k+1)=s.nodes.take k++[s.nodes[k]]:=by rw [List.take_succ_eq_append_getElem h]
  have hd:=CP (s.nodes.take k) s.nodes[k]
  simp only [get_map h,go_sem,simprocAttr]
  cases hc:s.nodes[k].ct <;> simp only [go_sem,simprocAttr]
  ·refine bz (k+1) ?_ ?_ h (by omega)
   ·simp only [go_sem,simprocAttr]
   ·simp only [AO,go_sem,simprocAttr,aG (show k<9223372036854775807 by omega),hs,hd,hc,Bool.false_eq_true,Int.add_zero]
  ·refine bz (k+1) ?_ ?_ h (by omega)
   ·simp only [go_sem,simprocAttr]
   ·simp only [AO,go_sem,simprocAttr,aG (show k<9223372036854775807 by omega),hs,hd,hc,aO (show -9223372036854775808≤nr (s.nodes.take k)+1 by omega) (by omega)]
 ·obtain rfl:=d_ h hk
  simp only [go_sem,simprocAttr,List.take_length]
def j_ (c:aH) (s:aa) (now:Int):LV:=.agg [.int c.nodes,.int c.bG,.int c.cD,.int c.wave,.int c.b_,.int c.eE,.int c.deadline,.int c.room,.int c.fG,bZ s.nodes,dg s.jobs,.int s.goal,.int s.prior,.int s.mode,.int s.term,.int now]
theorem Jj (c:aH) (s:aa) (now:Int) (k:Nat) (hs:NJ s) (hk:k<s.nodes.length):bw Tryz.prog G 286 [j_ c s now,.int k] [] (.dP [uN ⟨17,k,0,0,0,0,0⟩,.bool (EY s (s.nodes.getD k ag))]) []:=by
 refine bn Tryz.func286 (by decide) MT rfl rfl ?_
 have hg:=aL (f:=ck) ag hk
 have ha:=xm s k hk
 generalize s.nodes.getD k ag=n at *
 obtain ⟨up,co,mo,ve,jo⟩:=n
 unfold EY
 simp only [Qm,j_,hg,go_sem,simprocAttr]
 cases co <;> simp only [go_sem,simprocAttr]
 cases up <;> simp only [go_sem,simprocAttr]
 cases mo <;> simp only [go_sem,simprocAttr]
 refine aC (qy s ⟨true,true,false,ve,jo⟩) rfl rfl rfl rfl ?_; simp only [go_sem,simprocAttr]
 cases hb:jw s ⟨true,true,false,ve,jo⟩ <;> simp only [go_sem,simprocAttr]
 refine aC (tv s k hs) rfl rfl rfl rfl ?_; simp only [go_sem,simprocAttr]
 rw [ha]
def gV (o:Option cH):LV:=.dP [uN (o.getD gh),.bool o.isSome]
theorem HN (c:aH) (s:aa) (now:Int) (k:Nat) (hs:NJ s) (hk:k<s.nodes.length) (h1:-1000000000≤now+c.deadline∧now+c.deadline≤1000000000):bw Tryz.prog G 287 [j_ c s now,.int k] [] (gV (mF c s now (s.nodes.getD k ag) k)) []:=by
 refine bn Tryz.func287 (by decide) MS rfl rfl ?_
 have hg:=aL (f:=ck) ag hk
 have ha:=xm s k hk
 have hjb:=hs.aN _ hk
 have hjl:=hs.jobs
 have hwd:IntKind.i64.wrap (now+c.deadline)=now+c.deadline:=aO (by omega) (by omega)
 generalize s.nodes.getD k ag=n at *
 obtain ⟨up,co,mo,ve,jo⟩:=n
 unfold mF
 simp only [Ql,j_,hg,go_sem,simprocAttr]
 cases co with
 | false=>simp only [go_sem,simprocAttr,gV,Option.getD_none,Option.isSome_none]
 | true=>
 simp only [Bool.true_eq_false,false_or,go_sem,simprocAttr]
 refine aC (qy s ⟨up,true,mo,ve,jo⟩) rfl rfl rfl rfl ?_; simp only [go_sem,simprocAttr]
 cases hb:jw s ⟨up,true,mo,ve,jo⟩ with
 | false=>simp only [go_sem,simprocAttr,gV,Option.getD_none,Option.isSome_none]
 | true=>
 simp only [Bool.true_eq_false,false_or,go_sem,simprocAttr]
 refine aC (tv s k hs) rfl rfl rfl rfl ?_; simp only [go_sem,simprocAttr]
 rw [ha]
 cases hal:om s ⟨up,true,mo,ve,jo⟩ with
 | true=>simp only [go_sem,simprocAttr,gV,Option.getD_none,Option.isSome_none]
 | false=>
 simp only [Bool.false_eq_true,go_sem,simprocAttr]
 cases hj0:(jo==0) with
 | true=>
   have TM:jo=0:=by simpa using hj0
   simp only [TM,go_sem,simprocAttr,gV,Option.getD_some,Option.isSome_some]
 | false=>
 have TM:jo≠0:=by simpa using hj0
 have hw:IntKind.i64.wrap (jo-1)=jo-1:=aO (by dsimp only at hjb; omega) (by dsimp only at hjb; omega)
 have hg2:=aL (f:=dh) ax (show (jo-1).toNat<s.jobs.length by dsimp only at hjb; omega)
 have h4:0≤jo-1:=by dsimp only at hjb; omega
 generalize s.jobs.getD (jo-1).toNat ax=j at *
 simp only [hw,hg2,h4,TM,go_sem,simprocAttr]
 have e2:(if 1000000≤now+c.deadline then (1000000:Int) else now+c.deadline)=if now+c.deadline<1000000 then now+c.deadline else 1000000:=by split <;> split <;> omega
 rw [e2]
 cases hp1:(j.phase==1) with
 | true=>
   have DS:j.phase=1:=by simpa using hp1
   rw [if_pos DS]
   simp only [go_sem,simprocAttr,gV,Option.getD_some,Option.isSome_some]
 | false=>
 have DS:¬ j.phase=1:=by simpa using hp1
 rw [if_neg DS]
 simp only [go_sem,simprocAttr]
 cases hp2:(j.phase==2) with
 | false=>
   have hp2':¬ j.phase=2:=by simpa using hp2
   rw [if_neg (fun h=>hp2' h.1),if_neg (fun h=>hp2' h.1)]
   simp only [hp2,go_sem,simprocAttr,gV,Option.getD_none,Option.isSome_none]
 | true=>
 have hp2':j.phase=2:=by simpa using hp2
 simp only [hp2',go_sem,simprocAttr]
 refine bf (oJ _) rfl rfl rfl rfl ?_; simp only [go_sem,simprocAttr]
 cases hq:decide (many (j.nodes % 64)>j.min) with
 | true=>
   have Yo:j.min<many (j.nodes % 64):=of_decide_eq_true hq
   rw [if_pos Yo]
   simp only [go_sem,simprocAttr,gV,Option.getD_some,Option.isSome_some]
 | false=>
 have Yo:¬ j.min<many (j.nodes % 64):=of_decide_eq_false hq
 rw [if_neg Yo]
 simp only [go_sem,simprocAttr]
 refine bf (qp s j.queue (by omega)) rfl rfl rfl rfl ?_; simp only [go_sem,simprocAttr]
 cases hd:decide (cA s.jobs j.queue<c.cD) with
 | true=>
   have hd':=of_decide_eq_true hd
   rw [if_pos hd']
   simp only [hwd,go_sem,simprocAttr,gV,Option.getD_some,Option.isSome_some]
 | false=>
   have hd':=of_decide_eq_false hd
   rw [if_neg hd']
   simp only [go_sem,simprocAttr,gV,Option.getD_none,Option.isSome_none]
theorem IJ (c:aH) (s:aa) (now:Int) (k:Nat) (hs:NJ s) (hk:k<s.nodes.length):bw Tryz.prog G 288 [j_ c s now,.int k] [] (.dP [uN ⟨16,k,0,0,0,0,0⟩,.bool (EN c s (s.nodes.getD k ag))]) []:=by
 refine bn Tryz.func288 (by decide) MR rfl rfl ?_
 have hg:=aL (f:=ck) ag hk
 have ha:=xm s k hk
 generalize s.nodes.getD k ag=n at *
 obtain ⟨up,co,mo,ve,jo⟩:=n
 unfold EN
 simp only [Qk,j_,hg,go_sem,simprocAttr]
 cases co <;> simp only [go_sem,simprocAttr]
 refine bf (qy s ⟨up,false,mo,ve,jo⟩) rfl rfl rfl rfl ?_; simp only [go_sem,simprocAttr]
 cases hb:jw s ⟨up,false,mo,ve,jo⟩ <;> simp only [go_sem,simprocAttr]
 refine bf (tv s k hs) rfl rfl rfl rfl ?_; simp only [go_sem,simprocAttr]
 rw [ha]
 cases hal:om s ⟨up,false,mo,ve,jo⟩ <;> simp only [go_sem,simprocAttr]
 refine bf (Ip s hs.nodes) rfl rfl rfl rfl ?_; simp only [go_sem,simprocAttr]
end Dv
