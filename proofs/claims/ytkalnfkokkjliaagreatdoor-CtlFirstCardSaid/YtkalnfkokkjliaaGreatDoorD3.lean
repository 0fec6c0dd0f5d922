/- The book: Drains, fits, stands, sound, Right. -/
import Derived.Test.YtkalnfkokkjliaaGreatDoorDB
set_option linter.unusedVariables false
set_option linter.unusedSimpArgs false
namespace Dv
open Go Go.Proofs
variable {G:Nat→Option (List DV)}
def RW:Nat×C×List RV:=(28,
(.seq (.af [qo 2 (.box 30 (.t 0)),
 qo 4 (.mv (qk 0))])
 (.seq (.af [qo 5 (.mv (qk 0))])
 (.seq (.seq (.af [qo 8 (.aj 1 (.t 2)),
 qo 9 (.ld1 (.t 8)),
 qo 10 (.len (.t 9)),
 qo 11 (.mv (qk 0))])
 (.block 0 (.loop (.seq (.af [qo 12 (.bin .lss (.t 11) (.t 10))])
 (.seq (.cond (.t 12) .skip
 (.exit 0))
 (.seq (.block 1 (.seq (.af [qo 13 (.eG 12 (.t 9) (.t 11)),
 qo 14 (.bP 12 (.t 13)),
 qo 7 (.new 119 [q0,q0,q0,q0,q0,q0,q0,q0,q0,q0,q0,q0]),
 qn (.st 12 (.t 7) (.t 14))])
 (.seq (.af [qo 15 (.aj 0 (.t 7)),
 qo 16 (.ld1 (.t 15)),
 qm 17 1,
 qo 18 (.bin .eql (.t 16) (.t 17)),
 qm 19 18,
 qg 20 (.aj 6 (.t 7)) 19 true,
 qg 21 (.ld1 (.t 20)) 19 true,
 qg 22 (.bin .eql (.t 21) (qk 3)) 19 true,
 qo 23 (.pick (.t 19) (.t 22) qf)])
 (.cond (.t 23) (.af [qm 24 5,
 qo 25 (.bin .add (.t 24) (qk 1)),
 qm 5 25])
 .skip))))
 (.af [qo 26 (.bin .add (.t 11) (qk 1)),
 qm 11 26])))))))
 (.seq (.af [qm 27 5,
 qm 4 27])
 .ret)))),
[(.t 4)])
theorem OA:aq Tryz.prog Tryz.f115=some RW:=by kernel_rfl
def J_:Nat×C×List RV:=(63,
(.seq (.af [qo 4 (.box 30 (.t 0)),
 qo 5 (.box 119 (.t 1)),
 qo 8 (.mv qf)])
 (.seq (.seq (.bQ [qm 12 2,
 qd 13 (.bin .lss (.t 12) (qk 0)) [0],
 qd 14 (.mv (.t 13)) [1,0],
 qe 15 (.mv (.t 2)) 14 false [2,1,0],
 qe 16 (.aj 0 (.t 4)) 14 false [2,1,0],
 qe 17 (.ld1 (.t 16)) 14 false [4,2,1,0],
 qe 18 (.len (.t 17)) 14 false [5,4,2,1,0],
 qe 19 (.bin .shl (qk 1) (.t 18)) 14 false [6,5,4,2,1,0],
 qe 20 (.bin .geq (.t 15) (.t 19)) 14 false [3,2,1,0,7,6,5,4],
 qd 21 (.pick (.t 14) qt (.t 20)) [2,1,0,8,3,7,6,5,4],
 qd 22 (.mv (.t 21)) [9,2,1,0,8,3,7,6,5,4],
 qe 23 (.mv (.t 2)) 22 false [10,9,2,1,0,8,3,7,6,5,4],
 qe 24 (.y2 .u64 (.t 23)) 22 false [11,10,9,2,1,0,8,3,7,6,5,4],
 qe 25 (.call (.f 224) [(.t 24)]) 22 false [12,11,10,9,2,1,0,8,3,7,6,5,4],
 qe 26 (.aj 2 (.t 5)) 22 false [10,9,2,1,0,8,3,7,6,5,4],
 qe 27 (.ld1 (.t 26)) 22 false [14,10,9,2,1,0,8,3,7,6,5,4],
 qe 28 (.aj 3 (.t 5)) 22 false [10,9,2,1,0,8,3,7,6,5,4],
 qe 29 (.ld1 (.t 28)) 22 false [16,10,9,2,1,0,8,3,7,6,5,4],
 qe 30 (.call (.f 112) [(.t 25),(.t 27),(.t 29)]) 22 false [13,12,11,10,9,2,1,0,8,3,7,6,5,4,15,14,17,16],
 qe 31 (.not (.t 30)) 22 false [18,13,12,11,10,9,2,1,0,8,3,7,6,5,4,15,14,17,16],
 qd 32 (.pick (.t 22) qt (.t 31)) [10,9,2,1,0,8,3,7,6,5,4,19,18,13,12,11,15,14,17,16]])
 (.cond (.t 32) (.seq (.af [qo 8 (.mv qf)])
 .ret)
 .skip))
 (.seq (.af [qo 33 (.aj 5 (.t 5)),
 qo 34 (.ld1 (.t 33)),
 qm 9 34])
 (.seq (.seq (.af [qo 35 (.aj 0 (.t 4)),
 qo 36 (.ld1 (.t 35)),
 qo 37 (.len (.t 36)),
 qo 38 (.mv (qk 0))])
 (.block 0 (.loop (.seq (.af [qo 39 (.bin .lss (.t 38) (.t 37))])
 (.seq (.cond (.t 39) .skip
 (.exit 0))
 (.seq (.block 1 (.seq (.af [qm 40 38,
 qo 41 (.eG 5 (.t 36) (.t 38)),
 qo 42 (.bP 5 (.t 41)),
 qo 11 (.new 102 [(.val (.bool false)),(.val (.bool false)),(.val (.bool false)),q0,q0]),
 qm 10 40,
 qn (.st 5 (.t 11) (.t 42))])
 (.seq (.seq (.af [qm 43 2,
 qm 44 10,
 qo 45 (.bin .shr (.t 43) (.t 44)),
 qo 46 (.bin .and (.t 45) (qk 1)),
 qo 47 (.bin .eql (.t 46) (qk 0))])
 (.cond (.t 47) (.exit 1)
 .skip))
 (.seq (.seq (.af [qm 48 9,
 qo 49 (.bin .eql (.t 48) (qk 0))])
 (.cond (.t 49) (.af [qo 50 (.aj 3 (.t 11)),
 qo 51 (.ld1 (.t 50)),
 qm 9 51])
 .skip))
 (.seq (.af [qm 52 3,
 qo 53 (.bP 5 (.t 11)),
 qo 54 (.call (.t 52) [(.t 53)]),
 qo 55 (.not (.t 54)),
 qm 56 55,
 qg 57 (.aj 3 (.t 11)) 56 false,
 qg 58 (.ld1 (.t 57)) 56 false,
 qg 59 (.mv (.t 9)) 56 false,
 qg 60 (.bin .neq (.t 58) (.t 59)) 56 false,
 qo 61 (.pick (.t 56) qt (.t 60))])
 (.cond (.t 61) (.seq (.af [qo 8 (.mv qf)])
 .ret)
 .skip))))))
 (.af [qo 62 (.bin .add (.t 38) (qk 1)),
 qm 38 62])))))))
 (.seq (.af [qo 8 (.mv qt)])
 .ret))))),
[(.t 8)])
theorem Fk:aq Tryz.prog Tryz.f196=some J_:=by kernel_rfl
def RY:Nat×C×List RV:=(58,
(.seq (.af [qo 4 (.box 23 (.t 0)),
 qo 5 (.box 30 (.t 1)),
 qo 6 (.box 119 (.t 2)),
 qo 7 (.box 3 (.t 3)),
 qo 8 (.mv qf)])
 (.seq (.seq (.af [qo 9 (.bP 9 (.t 4)),
 qo 10 (.bP 12 (.t 6)),
 qo 11 (.call (.f 194) [(.t 9),(.t 10)]),
 qo 12 (.not (.t 11)),
 qm 13 12,
 qg 14 (.aj 6 (.t 6)) 13 false,
 qg 15 (.ld1 (.t 14)) 13 false,
 qg 16 (.call (.f 112) [(.t 15),(qk 0),(qk 4)]) 13 false,
 qg 17 (.not (.t 16)) 13 false,
 qo 18 (.pick (.t 13) qt (.t 17)),
 qm 19 18,
 qg 20 (.aj 7 (.t 6)) 19 false,
 qg 21 (.ld1 (.t 20)) 19 false,
 qg 22 (.call (.f 112) [(.t 21),(qk 0),(qk 1000000)]) 19 false,
 qg 23 (.not (.t 22)) 19 false,
 qo 24 (.pick (.t 19) qt (.t 23)),
 qm 25 24,
 qg 26 (.aj 9 (.t 6)) 25 false,
 qg 27 (.ld1 (.t 26)) 25 false,
 qg 28 (.call (.f 112) [(.t 27),(qk 0),(qk 1000000)]) 25 false,
 qg 29 (.not (.t 28)) 25 false,
 qo 30 (.pick (.t 25) qt (.t 29)),
 qm 31 30,
 qg 32 (.aj 10 (.t 6)) 31 false,
 qg 33 (.ld1 (.t 32)) 31 false,
 qg 34 (.call (.f 112) [(.t 33),(qk 0),(qk 1000000)]) 31 false,
 qg 35 (.not (.t 34)) 31 false,
 qo 36 (.pick (.t 31) qt (.t 35)),
 qm 37 36,
 qg 38 (.aj 11 (.t 6)) 37 false,
 qg 39 (.ld1 (.t 38)) 37 false,
 qg 40 (.aj 7 (.t 6)) 37 false,
 qg 41 (.ld1 (.t 40)) 37 false,
 qg 42 (.call (.f 112) [(.t 39),(qk 0),(.t 41)]) 37 false,
 qg 43 (.not (.t 42)) 37 false,
 qo 44 (.pick (.t 37) qt (.t 43))])
 (.cond (.t 44) (.seq (.af [qo 8 (.mv qf)])
 .ret)
 .skip))
 (.seq (.seq (.af [qo 45 (.aj 6 (.t 6)),
 qo 46 (.ld1 (.t 45)),
 qo 47 (.call (.f 195) [(.t 46)]),
 qo 48 (.not (.t 47))])
 (.cond (.t 48) (.seq (.af [qo 49 (.aj 8 (.t 6)),
 qo 50 (.ld1 (.t 49)),
 qo 51 (.bin .eql (.t 50) (qk 0)),
 qm 8 51])
 .ret)
 .skip))
 (.seq (.af [qo 52 (.bP 6 (.t 5)),
 qo 53 (.bP 12 (.t 6)),
 qo 54 (.aj 8 (.t 6)),
 qo 55 (.ld1 (.t 54)),
 qo 56 (.zS (.func 197) [] [(.t 7)]),
 qo 57 (.call (.f 196) [(.t 52),(.t 53),(.t 55),(.t 56)]),
 qm 8 57])
 .ret)))),
[(.t 8)])
theorem OC:aq Tryz.prog Tryz.f113=some RY:=by kernel_rfl
def RX:Nat×C×List RV:=(56,
(.seq (.af [qo 3 (.box 30 (.t 0)),
 qo 4 (.box 102 (.t 1)),
 qo 6 (.mv qf)])
 (.seq (.seq (.af [qo 7 (.aj 3 (.t 4)),
 qo 8 (.ld1 (.t 7)),
 qo 9 (.call (.f 112) [(.t 8),(qk 1),(qk 9)]),
 qo 10 (.not (.t 9)),
 qm 11 10,
 qg 12 (.aj 4 (.t 4)) 11 false,
 qg 13 (.ld1 (.t 12)) 11 false,
 qg 14 (.aj 1 (.t 3)) 11 false,
 qg 15 (.ld1 (.t 14)) 11 false,
 qg 16 (.len (.t 15)) 11 false,
 qg 17 (.call (.f 112) [(.t 13),(qk 0),(.t 16)]) 11 false,
 qg 18 (.not (.t 17)) 11 false,
 qo 19 (.pick (.t 11) qt (.t 18)),
 qm 20 19,
 qg 21 (.aj 2 (.t 4)) 20 false,
 qg 22 (.ld1 (.t 21)) 20 false,
 qg 23 (.mv (.t 22)) 20 false,
 qg 24 (.aj 0 (.t 4)) 23 true,
 qg 25 (.ld1 (.t 24)) 23 true,
 qg 26 (.not (.t 25)) 23 true,
 qg 27 (.mv (.t 26)) 23 true,
 qg 28 (.aj 1 (.t 4)) 27 false,
 qg 29 (.ld1 (.t 28)) 27 false,
 qg 30 (.not (.t 29)) 27 false,
 qg 31 (.pick (.t 27) qt (.t 30)) 23 true,
 qg 32 (.mv (.t 31)) 23 true,
 qg 33 (.aj 4 (.t 4)) 32 false,
 qg 34 (.ld1 (.t 33)) 32 false,
 qg 35 (.bin .neq (.t 34) (qk 0)) 32 false,
 qg 36 (.pick (.t 32) qt (.t 35)) 23 true,
 qg 37 (.pick (.t 23) (.t 36) qf) 20 false,
 qo 38 (.pick (.t 20) qt (.t 37))])
 (.cond (.t 38) (.seq (.af [qo 6 (.mv qf)])
 .ret)
 .skip))
 (.seq (.af [qo 39 (.aj 4 (.t 4)),
 qo 40 (.ld1 (.t 39)),
 qo 41 (.bin .eql (.t 40) (qk 0)),
 qm 42 41,
 qg 43 (.aj 1 (.t 3)) 42 false,
 qg 44 (.ld1 (.t 43)) 42 false,
 qg 45 (.aj 4 (.t 4)) 42 false,
 qg 46 (.ld1 (.t 45)) 42 false,
 qg 47 (.bin .sub (.t 46) (qk 1)) 42 false,
 qg 48 (.eG 12 (.t 44) (.t 47)) 42 false,
 qg 49 (.aj 8 (.t 48)) 42 false,
 qg 50 (.ld1 (.t 49)) 42 false,
 qg 51 (.mv (.t 2)) 42 false,
 qg 52 (.bin .shr (.t 50) (.t 51)) 42 false,
 qg 53 (.bin .and (.t 52) (qk 1)) 42 false,
 qg 54 (.bin .eql (.t 53) (qk 1)) 42 false,
 qo 55 (.pick (.t 42) qt (.t 54)),
 qm 6 55])
 .ret))),
[(.t 6)])
theorem OB:aq Tryz.prog Tryz.f114=some RX:=by kernel_rfl
def Vx:Nat×C×List RV:=(93,
(.seq (.af [qo 2 (.box 23 (.t 0)),
 qo 3 (.box 30 (.t 1)),
 qo 4 (.mv qf)])
 (.seq (.seq (.af [qo 10 (.bP 9 (.t 2)),
 qo 11 (.call (.f 64) [(.t 10)]),
 qo 12 (.not (.t 11)),
 qm 13 12,
 qg 14 (.aj 0 (.t 3)) 13 false,
 qg 15 (.ld1 (.t 14)) 13 false,
 qg 16 (.len (.t 15)) 13 false,
 qg 17 (.aj 0 (.t 2)) 13 false,
 qg 18 (.ld1 (.t 17)) 13 false,
 qg 19 (.bin .neq (.t 16) (.t 18)) 13 false,
 qo 20 (.pick (.t 13) qt (.t 19)),
 qm 21 20,
 qg 22 (.aj 1 (.t 3)) 21 false,
 qg 23 (.ld1 (.t 22)) 21 false,
 qg 24 (.len (.t 23)) 21 false,
 qg 25 (.bin .gtr (.t 24) (qk 24)) 21 false,
 qo 26 (.pick (.t 21) qt (.t 25)),
 qm 27 26,
 qg 28 (.aj 2 (.t 3)) 27 false,
 qg 29 (.ld1 (.t 28)) 27 false,
 qg 30 (.call (.f 112) [(.t 29),(qk 1),(qk 9)]) 27 false,
 qg 31 (.not (.t 30)) 27 false,
 qo 32 (.pick (.t 27) qt (.t 31)),
 qm 33 32,
 qg 34 (.aj 3 (.t 3)) 33 false,
 qg 35 (.ld1 (.t 34)) 33 false,
 qg 36 (.call (.f 112) [(.t 35),(qk 1),(qk 9)]) 33 false,
 qg 37 (.not (.t 36)) 33 false,
 qo 38 (.pick (.t 33) qt (.t 37)),
 qm 39 38,
 qg 40 (.aj 4 (.t 3)) 39 false,
 qg 41 (.ld1 (.t 40)) 39 false,
 qg 42 (.call (.f 112) [(.t 41),(qk 0),(qk 2)]) 39 false,
 qg 43 (.not (.t 42)) 39 false,
 qo 44 (.pick (.t 39) qt (.t 43)),
 qm 45 44,
 qg 46 (.aj 5 (.t 3)) 45 false,
 qg 47 (.ld1 (.t 46)) 45 false,
 qg 48 (.call (.f 112) [(.t 47),(qk 0),(qk 1000000)]) 45 false,
 qg 49 (.not (.t 48)) 45 false,
 qo 50 (.pick (.t 45) qt (.t 49))])
 (.cond (.t 50) (.seq (.af [qo 4 (.mv qf)])
 .ret)
 .skip))
 (.seq (.seq (.af [qo 51 (.aj 1 (.t 3)),
 qo 52 (.ld1 (.t 51)),
 qo 53 (.len (.t 52)),
 qo 54 (.mv (qk 0))])
 (.block 0 (.loop (.seq (.af [qo 55 (.bin .lss (.t 54) (.t 53))])
 (.seq (.cond (.t 55) .skip
 (.exit 0))
 (.seq (.block 1 (.seq (.af [qm 56 54,
 qo 57 (.eG 12 (.t 52) (.t 54)),
 qo 58 (.bP 12 (.t 57)),
 qo 6 (.new 119 [q0,q0,q0,q0,q0,q0,q0,q0,q0,q0,q0,q0]),
 qm 5 56,
 qn (.st 12 (.t 6) (.t 58))])
 (.seq (.af [qo 59 (.bP 9 (.t 2)),
 qo 60 (.bP 6 (.t 3)),
 qo 61 (.bP 12 (.t 6)),
 qm 62 5,
 qo 63 (.bin .add (.t 62) (qk 1)),
 qo 64 (.call (.f 113) [(.t 59),(.t 60),(.t 61),(.t 63)]),
 qo 65 (.not (.t 64))])
 (.cond (.t 65) (.seq (.af [qo 4 (.mv qf)])
 .ret)
 .skip))))
 (.af [qo 66 (.bin .add (.t 54) (qk 1)),
 qm 54 66])))))))
 (.seq (.seq (.af [qo 67 (.aj 0 (.t 3)),
 qo 68 (.ld1 (.t 67)),
 qo 69 (.len (.t 68)),
 qo 70 (.mv (qk 0))])
 (.block 2 (.loop (.seq (.af [qo 71 (.bin .lss (.t 70) (.t 69))])
 (.seq (.cond (.t 71) .skip
 (.exit 2))
 (.seq (.block 3 (.seq (.af [qm 72 70,
 qo 73 (.eG 5 (.t 68) (.t 70)),
 qo 74 (.bP 5 (.t 73)),
 qo 8 (.new 102 [(.val (.bool false)),(.val (.bool false)),(.val (.bool false)),q0,q0]),
 qm 7 72,
 qn (.st 5 (.t 8) (.t 74))])
 (.seq (.af [qo 75 (.bP 6 (.t 3)),
 qo 76 (.bP 5 (.t 8)),
 qm 77 7,
 qo 78 (.call (.f 114) [(.t 75),(.t 76),(.t 77)]),
 qo 79 (.not (.t 78))])
 (.cond (.t 79) (.seq (.af [qo 4 (.mv qf)])
 .ret)
 .skip))))
 (.af [qo 80 (.bin .add (.t 70) (qk 1)),
 qm 70 80])))))))
 (.seq (.seq (.af [qo 81 (.aj 1 (.t 2)),
 qo 82 (.ld1 (.t 81)),
 qo 83 (.mv (qk 0))])
 (.block 4 (.loop (.seq (.af [qo 84 (.bin .lss (.t 83) (.t 82))])
 (.seq (.cond (.t 84) .skip
 (.exit 4))
 (.seq (.block 5 (.seq (.af [qm 85 83,
 qm 9 85])
 (.seq (.bQ [qo 86 (.bP 6 (.t 3)),
 qm 87 9,
 qd 88 (.call (.f 115) [(.t 86),(.t 87)]) [0,1],
 qo 89 (.aj 2 (.t 2)),
 qd 90 (.ld1 (.t 89)) [3],
 qd 91 (.bin .gtr (.t 88) (.t 90)) [2,0,1,4,3]])
 (.cond (.t 91) (.seq (.af [qo 4 (.mv qf)])
 .ret)
 .skip))))
 (.af [qo 92 (.bin .add (.t 83) (qk 1)),
 qm 83 92])))))))
 (.seq (.af [qo 4 (.mv qt)])
 .ret)))))),
[(.t 4)])
theorem Th:aq Tryz.prog Tryz.f42=some Vx:=by kernel_rfl
def oI (s:aa) (q:Int) (k:Nat):St:=⟨[(1,.int q),(5,.int (cA (s.jobs.take k) q)),(9,dg s.jobs),(10,.int s.jobs.length),(11,.int k)],[some (.box 30 [bZ s.nodes,dg s.jobs,.int s.goal,.int s.prior,.int s.mode,.int s.term])]⟩
theorem qp (s:aa) (q:Int) (hn:s.jobs.length≤9223372036854775806):bw Tryz.prog G 115 [bp s,.int q] [] (.int (cA s.jobs q)) []:=by
 refine bn Tryz.func115 (by decide) OA rfl rfl ?_
 simp only [RW,go_sem,simprocAttr]
 refine aY [1,5,9,10,11] [] (fun k:Nat=>k≤s.jobs.length) (fun k=>s.jobs.length-k) (oI s q) 0 ?_ (Nat.zero_le _) (fun k hk=>?_)
 ·simp only [oI,go_sem,simprocAttr,cA,List.filter_nil,Int.natCast_zero]
 simp only [oI,go_sem,simprocAttr]
 refine bg (fun h=>?_) (fun h=>?_)
 ·have h:=dX h
  have hb:=Ef (s.jobs.take k) q
  rw [List.length_take] at hb
  have hs:s.jobs.take (k+1)=s.jobs.take k++[s.jobs[k]]:=by rw [List.take_succ_eq_append_getElem h]
  have hd:=rQ (s.jobs.take k) s.jobs[k] q
  simp only [get_map h,go_sem,simprocAttr]
  refine cN (fun h1=>?_) (fun h1=>?_) <;> simp only [h1,go_sem,simprocAttr] <;> (try simp only [beq_iff_eq,beq_eq_false_iff_ne,ne_eq,Bool.not_true] at h1)
  ·refine bg (fun h2=>?_) (fun h2=>?_) <;> simp only [h2,go_sem,simprocAttr] <;> (try simp only [beq_iff_eq,beq_eq_false_iff_ne,ne_eq] at h2)
   ·refine bz (k+1) ?_ ?_ (by omega) (by omega)
    ·simp only [go_sem,simprocAttr]
    ·simp only [oI,go_sem,simprocAttr,aG (show k<9223372036854775807 by omega),hs,hd,h1,h2,aO (show -9223372036854775808≤cA (s.jobs.take k) q+1 by omega) (by omega)]
   ·refine bz (k+1) ?_ ?_ (by omega) (by omega)
    ·simp only [go_sem,simprocAttr]
    ·simp only [oI,go_sem,simprocAttr,aG (show k<9223372036854775807 by omega),hs,hd,h1,h2,and_false,Int.add_zero]
  ·refine bz (k+1) ?_ ?_ (by omega) (by omega)
   ·simp only [go_sem,simprocAttr]
   ·simp only [oI,go_sem,simprocAttr,aG (show k<9223372036854775807 by omega),hs,hd,h1,false_and,Int.add_zero]
 ·obtain rfl:=d_ h hk
  simp only [go_sem,simprocAttr,List.take_length]
def yX (s:aa) (j:bU) (nodes:Int) (f et:Nat) (cells:List LV) (kv:Nat×Int):St:=⟨[(2,.int nodes),(3,.fn (.func f) [] [.ptr 0 0]),(9,.int kv.2),(36,bZ s.nodes),(37,.int s.nodes.length),(38,.int kv.1)],[some (.box et cells),some (.box 30 [bZ s.nodes,dg s.jobs,.int s.goal,.int s.prior,.int s.mode,.int s.term]),some (.box 119 [.int j.queue,.int j.prio,.int j.min,.int j.max,.int j.work,.int j.pin,.int j.phase,.int j.inc,.int j.nodes,.int j.since,.int j.til,.int j.epoch])]⟩
theorem Hl (s:aa) (j:bU) (nodes:Int) (f et:Nat) (cells:List LV) (takes:bK→Bool) (hn:s.nodes.length≤6) (hd:ej 0 cells=true) (hT:∀ n,bw Tryz.prog G f [vP n,.ptr 0 0] [.box et cells] (.bool (takes n)) [.box et cells]) :
  bw Tryz.prog G 196 [bp s,zW j,.int nodes,.fn (.func f) [] [.ptr 0 0]] [.box et cells] (.bool (kC s.nodes j nodes takes)) [.box et cells]:=by
 refine CS Tryz.func196 (by decide) Fk rfl rfl (by simp [ei,hd]) rfl ?_
 have hp:(2:Int) ^ s.nodes.length≤64∧1≤(2:Int) ^ s.nodes.length:=by
  have:s.nodes.length=0∨s.nodes.length=1∨s.nodes.length=2∨s.nodes.length=3∨s.nodes.length=4∨s.nodes.length=5∨s.nodes.length=6:=by omega
  rcases this with h | h | h | h | h | h | h <;> rw [h] <;> decide
 have hw:=qN s.nodes.length hn
 have YT:ej 3 cells=true:=Aa.2 cells 3 hd
 have Ko:∀ π,lU π cells=cells:=fun π=>jI π cells hd
 simp only [J_,go_sem,simprocAttr]
 unfold kC
 have none:∀ {x y:Prop} [Decidable x] [Decidable y] {b:Bool},x∨y→(if x∨y then false else b)=false:=fun h=>by rw [if_pos h]
 refine fW (fun h1=>?_) (fun h1=>?_) <;> simp only [h1,go_sem,simprocAttr] <;> (try simp only [decide_eq_true_eq,decide_eq_false_iff_not,Bool.not_false] at h1)
 ·simp only [hw]
  refine fW (fun h2=>?_) (fun h2=>?_) <;> simp only [h2,go_sem,simprocAttr] <;> (try simp only [decide_eq_true_eq,decide_eq_false_iff_not,Bool.not_false] at h2)
  ·obtain ⟨m,rfl⟩:=Int.eq_ofNat_of_zero_le (show 0≤nodes by omega)
   have hm:m<64:=by omega
   have Yg:IntKind.u64.wrap (m:Int)=m:=by simp [IntKind.wrap,IntKind.bits,IntKind.signed]; omega
   rw [if_neg (by omega)]
   simp only [Yg]
   refine bf (rq m hm) rfl rfl rfl rfl ?_; simp only [go_sem,simprocAttr]
   refine bf (ez _ _ _) rfl rfl rfl rfl ?_; simp only [go_sem,simprocAttr]
   cases hb:bF (many m) j.min j.max with
   | false=>simp only [go_sem,simprocAttr]
   | true=>
     simp only [go_sem,simprocAttr]
     generalize OZ:dK m takes s.nodes 0 j.pin=r
     refine aY [2,3,9,36,37,38] [] (fun kv:Nat×Int=>kv.1≤s.nodes.length∧dK m takes (s.nodes.drop kv.1) kv.1 kv.2=r) (fun kv=>s.nodes.length-kv.1) (yX s j m f et cells) (0,j.pin) ?_ ⟨Nat.zero_le _,OZ⟩ ?_
     ·simp only [yX,go_sem,simprocAttr,Int.natCast_zero]
     rintro ⟨k,v⟩ ⟨hk,hF⟩
     dsimp only at hk hF
     simp only [yX,go_sem,simprocAttr]
     refine bg (fun h=>?_) (fun h=>?_)
     ·have h:=dX h
      rw [List.drop_eq_getElem_cons h] at hF
      unfold dK at hF
      simp only [get_map h,go_sem,simprocAttr,FQ (m:Int) k (by omega)]
      have go:∀ v',dK m takes (s.nodes.drop (k+1)) (k+1) v'=r→(k+1,v').1≤s.nodes.length∧dK m takes (s.nodes.drop (k+1,v').1) (k+1,v').1 (k+1,v').2=r:=fun v' h'=>⟨h,h'⟩
      cases hb1:hasB (m:Int) k with
      | false=>
        rw [if_pos hb1] at hF
        simp only [go_sem,simprocAttr]
        refine bz (k+1,v) ?_ ?_ (go _ hF) (by dsimp only; omega)
        ·simp only [go_sem,simprocAttr,YT]
        ·simp only [yX,go_sem,simprocAttr,aG (show k<9223372036854775807 by omega)]
      | true=>
        rw [if_neg (by simp [hb1])] at hF
        simp only [go_sem,simprocAttr]
        have ZJ:ej 1 cells=true:=Aa.2 cells 1 hd
        refine bg (fun hv=>?_) (fun hv=>?_) <;> simp only [hv,go_sem,simprocAttr] <;> (try simp only [beq_iff_eq,beq_eq_false_iff_ne,ne_eq] at hv)
        ·rw [if_pos hv] at hF
         refine aK [0] (hT s.nodes[k]) rfl ?_ (by decide) ?_ ?_ (by simp) ?_ <;> simp only [ah,ai,go_sem,simprocAttr,Ko,ZJ]
         cases ht:takes s.nodes[k] with
         | false=>
           rw [if_neg (by simp [ht])] at hF
           simp only [go_sem,simprocAttr,← hF]
         | true=>
           by_cases hq:s.nodes[k].version=s.nodes[k].version
           ·rw [if_pos ⟨ht,hq⟩] at hF
            have hq1:(s.nodes[k].version !=s.nodes[k].version)=false:=by simp
            simp only [go_sem,simprocAttr,hq1]
            refine bz (k+1,s.nodes[k].version) ?_ ?_ (go _ hF) (by dsimp only; omega)
            ·simp only [go_sem,simprocAttr,YT]
            ·simp only [yX,go_sem,simprocAttr,aG (show k<9223372036854775807 by omega)]
           ·rw [if_neg (fun h'=>hq h'.2)] at hF
            have hq1:(s.nodes[k].version !=s.nodes[k].version)=true:=bne_iff_ne.2 hq
            simp only [go_sem,simprocAttr,hq1,← hF]
        ·rw [if_neg hv] at hF
         refine aK [0] (hT s.nodes[k]) rfl ?_ (by decide) ?_ ?_ (by simp) ?_ <;> simp only [ah,ai,go_sem,simprocAttr,Ko,ZJ]
         cases ht:takes s.nodes[k] with
         | false=>
           rw [if_neg (by simp [ht])] at hF
           simp only [go_sem,simprocAttr,← hF]
         | true=>
           by_cases hq:s.nodes[k].version=v
           ·rw [if_pos ⟨ht,hq⟩] at hF
            have hq1:(s.nodes[k].version !=v)=false:=by simp [← hq]
            simp only [go_sem,simprocAttr,hq1]
            refine bz (k+1,v) ?_ ?_ (go _ hF) (by dsimp only; omega)
            ·simp only [go_sem,simprocAttr,YT]
            ·simp only [yX,go_sem,simprocAttr,aG (show k<9223372036854775807 by omega)]
           ·rw [if_neg (fun h'=>hq h'.2)] at hF
            have hq1:(s.nodes[k].version !=v)=true:=bne_iff_ne.2 hq
            simp only [go_sem,simprocAttr,hq1,← hF]
     ·obtain rfl:=d_ h hk
      rw [List.drop_length] at hF
      simp only [go_sem,simprocAttr,← hF,dK]
  ·rw [if_pos (.inr h2)]
 ·rw [if_pos (.inl h1)]
end Dv
