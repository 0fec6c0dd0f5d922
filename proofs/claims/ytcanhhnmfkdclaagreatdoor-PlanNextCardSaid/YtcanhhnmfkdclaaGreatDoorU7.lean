/- Layer 18's laws: alive, time, PlanNext, PlanRuns. -/
import Derived.Test.YtcanhhnmfkdclaaGreatDoorU5
import Derived.Test.YtcanhhnmfkdclaaGreatDoorT21
import Derived.Test.YtcanhhnmfkdclaaGreatDoorD4
set_option linter.unusedVariables false
set_option linter.unusedSimpArgs false
namespace Dv
open Go Go.Proofs
variable {G : Nat → Option (List DV)}

def ir7 : Nat × C × List RV := (50,
(.seq (.reg [qo 0 (.mv qf)])
 (.seq (.reg [qo 7 (.build [q0,q0,q0,q0,q0,q0,q0,q0,q0] [(0,1,(qk 1)),(1,1,(qk 1)),(3,1,(qk 1)),(4,1,(qk 2)),(5,1,(qk 1)),(6,1,(qk 1)),(8,1,(qk 2000))]),
 qo 1 (.new 23 [q0,q0,q0,q0,q0,q0,q0,q0,q0]),
 qn (.st 9 (.t 1) (.t 7))])
 (.seq (.reg [qo 8 (.build [(.val (.bool false)),(.val (.bool false)),(.val (.bool false)),q0,q0] [(0,1,qt),(3,1,(qk 1))]),
 qo 9 (.bsl 49 5 [(.t 8)]),
 qo 10 (.build [q0,q0,q0,q0,q0,q0,q0,q0,q0,q0,q0,q0] [(2,1,(qk 1)),(3,1,(qk 1)),(4,1,(qk 1))]),
 qo 11 (.bsl 47 12 [(.t 10)]),
 qo 12 (.build [(.val (.slice none 0 0)),(.val (.slice none 0 0)),q0,q0,q0,q0] [(2,1,(qk 1)),(3,1,(qk 1)),(0,1,(.t 9)),(1,1,(.t 11))]),
 qo 2 (.new 27 [(.val (.slice none 0 0)),(.val (.slice none 0 0)),q0,q0,q0,q0]),
 qn (.st 6 (.t 2) (.t 12))])
 (.seq (.reg [qo 14 (.ldn 9 (.t 1)),
 qo 15 (.ldn 6 (.t 2)),
 qo 16 (.call (.f 10) [(.t 14),(.t 15),(qk 0)]),
 qm 13 16,
 qo 17 (.ext (.t 13) 0),
 qo 18 (.ext (.t 13) 1),
 qo 3 (.new 32 [q0,q0,q0,q0,q0,q0,q0]),
 qn (.st 7 (.t 3) (.t 17)),
 qm 4 18])
 (.seq (.reg [qo 20 (.ldn 9 (.t 1)),
 qo 21 (.ldn 6 (.t 2)),
 qo 22 (.call (.f 15) [(.t 20),(.t 21),(qk 0),(qk 9)]),
 qm 19 22,
 qo 23 (.ext (.t 19) 0),
 qo 24 (.ext (.t 19) 1),
 qo 5 (.new 27 [(.val (.slice none 0 0)),(.val (.slice none 0 0)),q0,q0,q0,q0]),
 qn (.st 6 (.t 5) (.t 23)),
 qm 6 24])
 (.seq (.reg [qm 25 4,
 qm 26 25,
 qg 27 (.ldn 7 (.t 3)) 26 true,
 qg 28 (.build [q0,q0,q0,q0,q0,q0,q0] [(0,1,(qk 9)),(1,1,(qk 1)),(2,1,(qk 1))]) 26 true,
 qg 29 (.eqs false [0,0,0,0,0,0,0] (.t 27) (.t 28)) 26 true,
 qo 30 (.pick (.t 26) (.t 29) qf),
 qm 31 30,
 qg 32 (.mv (.t 6)) 31 true,
 qg 33 (.len (.t 32)) 31 true,
 qg 34 (.bin .eql (.t 33) (qk 1)) 31 true,
 qo 35 (.pick (.t 31) (.t 34) qf),
 qm 36 35,
 qg 37 (.fad 1 (.t 5)) 36 true,
 qg 38 (.ld1 (.t 37)) 36 true,
 qg 39 (.ixa 12 (.t 38) (qk 0)) 36 true,
 qg 40 (.fad 6 (.t 39)) 36 true,
 qg 41 (.ld1 (.t 40)) 36 true,
 qg 42 (.bin .eql (.t 41) (qk 1)) 36 true,
 qo 43 (.pick (.t 36) (.t 42) qf),
 qm 44 43,
 qg 45 (.ldn 6 (.t 5)) 44 true,
 qg 46 (.call (.f 13) [(.t 45),(qk 0)]) 44 true,
 qg 47 (.len (.t 46)) 44 true,
 qg 48 (.bin .eql (.t 47) (qk 0)) 44 true,
 qo 49 (.pick (.t 44) (.t 48) qf),
 qm 0 49])
 .ret)))))),
[(.t 0)])
theorem irOk7 : convFn Tryz.prog Tryz.f7 = some ir7 := by kernel_rfl
def ir9 : Nat × C × List RV := (9,
(.seq (.reg [qo 2 (.mv qf)])
 (.seq (.reg [qm 3 0,
 qo 4 (.bin .geq (.t 3) (qk 0)),
 qm 5 4,
 qg 6 (.mv (.t 0)) 5 true,
 qg 7 (.bin .leq (.t 6) (qk 1000000)) 5 true,
 qo 8 (.pick (.t 5) (.t 7) qf),
 qm 2 8])
 .ret)),
[(.t 2)])
theorem irOk9 : convFn Tryz.prog Tryz.f9 = some ir9 := by kernel_rfl
def ir3 : Nat × C × List RV := (53,
(.seq (.reg [qo 3 (.box 23 (.t 0)),
 qo 4 (.box 27 (.t 1)),
 qo 6 (.mv qf)])
 (.seq (.seq (.reg [qo 11 (.call (.f 7) []),
 qo 12 (.not (.t 11))])
 (.cond (.t 12) (.seq (.reg [qo 6 (.mv qf)])
 .ret)
 .skip))
 (.seq (.seq (.reg [qo 13 (.ldn 9 (.t 3)),
 qo 14 (.ldn 6 (.t 4)),
 qo 15 (.call (.f 8) [(.t 13),(.t 14)]),
 qo 16 (.not (.t 15)),
 qm 17 16,
 qg 18 (.mv (.t 2)) 17 false,
 qg 19 (.call (.f 9) [(.t 18)]) 17 false,
 qg 20 (.not (.t 19)) 17 false,
 qo 21 (.pick (.t 17) qt (.t 20))])
 (.cond (.t 21) (.seq (.reg [qo 6 (.mv qt)])
 .ret)
 .skip))
 (.seq (.reg [qo 23 (.ldn 9 (.t 3)),
 qo 24 (.ldn 6 (.t 4)),
 qm 25 2,
 qo 26 (.call (.f 10) [(.t 23),(.t 24),(.t 25)]),
 qm 22 26,
 qo 27 (.ext (.t 22) 0),
 qo 28 (.ext (.t 22) 1),
 qo 7 (.new 32 [q0,q0,q0,q0,q0,q0,q0]),
 qn (.st 7 (.t 7) (.t 27)),
 qm 8 28])
 (.seq (.reg [qo 30 (.ldn 9 (.t 3)),
 qo 31 (.ldn 6 (.t 4)),
 qm 32 2,
 qo 33 (.call (.f 11) [(.t 30),(.t 31),(.t 32)]),
 qm 29 33,
 qo 34 (.ext (.t 29) 0),
 qo 35 (.ext (.t 29) 1),
 qo 9 (.new 32 [q0,q0,q0,q0,q0,q0,q0]),
 qn (.st 7 (.t 9) (.t 34)),
 qm 10 35])
 (.seq (.regD [qo 36 (.ldn 7 (.t 7)),
 qo 37 (.ldn 7 (.t 9)),
 qd 38 (.eqs false [0,0,0,0,0,0,0] (.t 36) (.t 37)) [0,1],
 qd 39 (.mv (.t 38)) [2,0,1],
 qe 40 (.mv (.t 8)) 39 true [3,2,0,1],
 qe 41 (.mv (.t 10)) 39 true [3,2,0,1],
 qe 42 (.eqb false (.t 40) (.t 41)) 39 true [4,3,2,0,1,5],
 qd 43 (.pick (.t 39) (.t 42) qf) [3,2,0,1,6,4,5],
 qd 44 (.mv (.t 43)) [7,3,2,0,1,6,4,5],
 qe 45 (.ldn 6 (.t 4)) 44 true [8,7,3,2,0,1,6,4,5],
 qe 46 (.mv (.t 2)) 44 true [8,7,3,2,0,1,6,4,5],
 qe 47 (.call (.f 13) [(.t 45),(.t 46)]) 44 true [9,8,7,3,2,0,1,6,4,5,10],
 qe 48 (.ldn 6 (.t 4)) 44 true [8,7,3,2,0,1,6,4,5],
 qe 49 (.mv (.t 2)) 44 true [8,7,3,2,0,1,6,4,5],
 qe 50 (.call (.f 14) [(.t 48),(.t 49)]) 44 true [12,8,7,3,2,0,1,6,4,5,13,11,9,10],
 qe 51 (.call (.f 12) [(.t 47),(.t 50)]) 44 true [11,9,8,7,3,2,0,1,6,4,5,10,14,12,13],
 qd 52 (.pick (.t 44) (.t 51) qf) [8,7,3,2,0,1,6,4,5,15,11,9,10,14,12,13],
 qd 6 (.mv (.t 52)) [16,8,7,3,2,0,1,6,4,5,15,11,9,10,14,12,13]])
 .ret)))))),
[(.t 6)])
theorem irOk3 : convFn Tryz.prog Tryz.f3 = some ir3 := by kernel_rfl
def ir12 : Nat × C × List RV := (26,
(.seq (.reg [qo 4 (.mv qf)])
 (.seq (.seq (.reg [qm 6 0,
 qo 7 (.len (.t 6)),
 qm 8 1,
 qo 9 (.len (.t 8)),
 qo 10 (.bin .neq (.t 7) (.t 9))])
 (.cond (.t 10) (.seq (.reg [qo 4 (.mv qf)])
 .ret)
 .skip))
 (.seq (.seq (.reg [qo 5 (.mv (qk 0))])
 (.block 0 (.loop (.seq (.seq (.reg [qm 11 5,
 qm 12 0,
 qo 13 (.len (.t 12)),
 qo 14 (.bin .lss (.t 11) (.t 13))])
 (.cond (.t 14) .skip
 (.exit 0)))
 (.seq (.block 1 (.seq (.regD [qm 17 0,
 qm 18 5,
 qd 19 (.ixa 1 (.t 17) (.t 18)) [0,1],
 qd 20 (.ld1 (.t 19)) [2,0,1],
 qm 21 1,
 qm 22 5,
 qd 23 (.ixa 1 (.t 21) (.t 22)) [4,5],
 qd 24 (.ld1 (.t 23)) [6,4,5],
 qd 25 (.bin .neq (.t 20) (.t 24)) [3,2,0,1,7,6,4,5]])
 (.cond (.t 25) (.seq (.reg [qo 4 (.mv qf)])
 .ret)
 .skip)))
 (.reg [qm 15 5,
 qo 16 (.bin .add (.t 15) (qk 1)),
 qm 5 16]))))))
 (.seq (.reg [qo 4 (.mv qt)])
 .ret)))),
[(.t 4)])
theorem irOk12 : convFn Tryz.prog Tryz.f12 = some ir12 := by kernel_rfl


def int18R (l : List Int) : List (List DV) := l.map fun n => [i64 n]
theorem nat_int18 (l : List Nat) : natR l = int18R (l.map fun k => ((k + 1 : Nat) : Int)) := by
  unfold natR int18R
  rw [List.map_map]
  rfl
def ints18S (a : List Int) (k : Nat) : St := ⟨[(0, .d (.lst 1 (int18R a))), (1, .d (.lst 1 (int18R a))), (5, .int k)], []⟩
theorem ints18_tri (a : List Int) (ha : a.length ≤ 1000000000) : Tri Tryz.prog G 12 [.d (.lst 1 (int18R a)), .d (.lst 1 (int18R a))] [] (.bool true) [] := by
  have hna : (int18R a).length = a.length := by simp [int18R]
  refine tri_W0 Tryz.func12 (by decide) irOk12 (Nat.le_of_ble_eq_true rfl) rfl ?_
  simp only [ir12,go_sem,simprocAttr]
  simp only [hna,bne_self_eq_false,go_sem,simprocAttr]
  refine W_loopI [0, 1, 5] [] (fun k : Nat => k ≤ a.length) (fun k => a.length - k) (ints18S a) 0 ?_ (Nat.zero_le _) ?_
  · simp only [ints18S,Int.natCast_zero,go_sem,simprocAttr]
  rintro k hk
  simp only [ints18S,hna,go_sem,simprocAttr]
  by_cases hlt : k < a.length
  case neg =>
    simp only [decide_eq_false (show ¬ ((k : Nat) : Int) < ((a.length : Nat) : Int) by omega),go_sem,simprocAttr]
  have hga := get_mapD (f := fun n : Int => [i64 n]) 0 hlt
  generalize a.getD k 0 = x at *
  have hga2 : (int18R a)[k]? = some [DV.val (.int .i64 x)] := hga
  simp only [decide_eq_true (show ((k : Nat) : Int) < ((a.length : Nat) : Int) by omega),hga2,bne_self_eq_false,go_sem,simprocAttr]
  refine W_lpI (k + 1) ?_ ?_ (by omega) (by omega)
  · simp only [go_sem,simprocAttr]
  · simp only [ints18S,wrap_succ (show k < 9223372036854775807 by omega),go_sem,simprocAttr]
def c18 : ConfD := ⟨1, 1, 0, 1, 2, 1, 1, 0, 2000⟩
def a18 : StateD := ⟨[⟨true, false, false, 1, 0⟩], [⟨0, 0, 1, 1, 1, 0, 0, 0, 0, 0, 0, 0⟩], 1, 1, 0, 0⟩
def b18 : StateD := ⟨[⟨true, false, false, 1, 1⟩], [⟨0, 0, 1, 1, 1, 0, 1, 1, 1, 0, 0, 0⟩], 1, 1, 0, 0⟩
def o18 : OpD := ⟨9, 1, 1, 0, 0, 0, 0⟩
theorem right18 : RightP c18 a18 := (right_iff c18 a18).1 (by decide +kernel)
theorem app18 : applyD c18 a18 o18 = (b18, 0) := by decide +kernel
theorem next18_eq : anextS a18 0 = (1, 1, true) := by
  have hl : lineN a18 = [0] := by rw [← lineR_eq]; decide +kernel
  have h : nowR a18 ((0 + 1 : Nat) : Int) = (1, true) := by decide +kernel
  rw [next_same right18 (by decide)]
  unfold nextR
  rw [hl]
  simp only [nextGo,h,if_true]
  rfl
theorem next18b_eq : anextS b18 0 = (0, 0, false) := by
  have hl : lineN b18 = [] := by rw [← lineR_eq]; decide +kernel
  unfold anextS
  rw [hl]
  rfl
theorem plan18_eq : planO c18 a18 0 = some o18 := by
  have h1 : evictO a18 0 = none := by decide +kernel
  have h2 : nextW c18 a18 0 = none := by decide +kernel
  unfold planO holdO
  rw [h1, h2, next18_eq]
  rfl
theorem plan18b_eq : planO c18 b18 0 = none := by
  have h1 : evictO b18 0 = none := by decide +kernel
  have h2 : nextW c18 b18 0 = none := by decide +kernel
  unfold planO holdO
  rw [h1, h2, next18b_eq]
  rfl
theorem run18_eq : runD c18 a18 0 9 = (b18, [o18]) := by
  unfold runD
  rw [show (9 : Int).toNat = 8 + 1 from rfl, runTo, plan18_eq]
  simp only [app18,if_true]
  rw [runTo_stop (.inl plan18b_eq)]
  rfl
theorem late18b_eq : lateN b18 0 = [] := by decide +kernel
set_option maxHeartbeats 4000000 in
theorem alive18_tri : Tri Tryz.prog bookG 7 [] [] (.bool true) [] := by
  have t0 : TimeR 0 := ⟨by decide, by decide⟩
  have hN := plan_tri (G := bookG) c18 a18 right18 0 t0
  have hR := run_tri c18 a18 right18 0 9 t0 (by decide)
  have hL := late_tri (G := bookG) b18 0 (by decide)
  rw [plan18_eq] at hN
  rw [run18_eq] at hR
  rw [late18b_eq] at hL
  refine tri_W0 Tryz.func7 (by decide) irOk7 (Nat.le_of_ble_eq_true rfl) rfl ?_
  simp only [ir7,go_sem,simprocAttr]
  simp only [c18,a18,b18,o18,optV,Option.getD_some,Option.isSome_some,List.map_cons,List.map_nil,nodeR,jobR,opR,natR,go_sem,simprocAttr] at hN hR hL
  refine W_callz [1, 2] (hN) rfl (by simp [argRs,argR,rowsAt,objL,go_sem,simprocAttr]) (by simp [objL]) rfl rfl ?_; simp only [go_sem,simprocAttr]
  refine W_callf [1, 2] (hR) rfl (by simp [argRs,argR,rowsAt,objL,go_sem,simprocAttr]) (by simp [objL]) rfl ?_; simp only [go_sem,simprocAttr]
  try simp only [show (((1 : Nat) : Int) == 1) = true from rfl,go_sem,simprocAttr]
  refine W_calld (hL) rfl rfl rfl rfl ?_; simp only [go_sem,simprocAttr]
  all_goals rfl
def timeB (now : Int) : Bool := decide (0 ≤ now ∧ now ≤ 1000000)
theorem time18_tri (now : Int) : Tri Tryz.prog G 9 [.int now] [] (.bool (timeB now)) [] := by
  refine tri_W0 Tryz.func9 (by decide) irOk9 (Nat.le_of_ble_eq_true rfl) rfl ?_
  simp only [ir9,go_sem,simprocAttr]
  unfold timeB
  by_cases h1 : 0 ≤ now
  · simp only [decide_eq_true (show now ≥ 0 from h1),h1,true_and,go_sem,simprocAttr]
  · simp only [decide_eq_false (show ¬ now ≥ 0 from h1),h1,false_and,decide_false,go_sem,simprocAttr]
set_option maxHeartbeats 4000000 in
theorem planNext_tri (c : ConfD) (s : StateD) (now : Int) : Tri Tryz.prog bookG 3 [confV c, stateV s, .int now] [] (.bool true) [] := by
  refine tri_W0 Tryz.func3 (by decide) irOk3 (Nat.le_of_ble_eq_true rfl) rfl ?_
  simp only [ir3,go_sem,simprocAttr]
  refine W_calld (alive18_tri) rfl rfl rfl rfl ?_; simp only [go_sem,simprocAttr]
  refine W_calld (right_tri c s) rfl rfl rfl rfl ?_; simp only [go_sem,simprocAttr]
  cases hr : rightB c s with
  | false => simp only [go_sem,simprocAttr]
  | true =>
  simp only [go_sem,simprocAttr]
  refine W_calld (time18_tri now) rfl rfl rfl rfl ?_; simp only [go_sem,simprocAttr]
  cases ht : timeB now with
  | false => simp only [go_sem,simprocAttr]
  | true =>
  have h := (right_iff c s).1 hr
  have hj := h.jobs
  have t0 : TimeR now := by unfold timeB at ht; exact (of_decide_eq_true ht : 0 ≤ now ∧ now ≤ 1000000)
  simp only [go_sem,simprocAttr]
  have hP := plan_tri (G := bookG) c s h now t0
  have hQ := plan18_tri (G := bookG) c s h now t0
  generalize planO c s now = o at hP hQ
  simp only [optV] at hP hQ
  generalize o.getD zeroOp = z at hP hQ
  generalize o.isSome = b at hP hQ
  refine W_calld (hP) rfl rfl rfl rfl ?_; simp only [go_sem,simprocAttr]
  refine W_calld (hQ) rfl rfl rfl rfl ?_; simp only [go_sem,simprocAttr]
  have hi := lateTo_len s now s.jobs.length
  have hi2 : (lateN s now).length ≤ 24 := by unfold lateN; unfold lateTo at hi; omega
  have hlm : ((lateN s now).map fun k => ((k + 1 : Nat) : Int)).length ≤ 1000000000 := by rw [List.length_map]; omega
  have hL := late_tri (G := bookG) s now (by omega)
  have hM := late18_tri (G := bookG) s now (by omega)
  rw [nat_int18] at hL hM
  generalize ((lateN s now).map fun k => ((k + 1 : Nat) : Int)) = q at *
  refine WD_calld (hL) rfl rfl rfl rfl ?_; simp only [go_sem,simprocAttr]
  refine WD_calld (hM) rfl rfl rfl rfl ?_; simp only [go_sem,simprocAttr]
  refine WD_calld (ints18_tri q hlm) rfl rfl rfl rfl ?_; simp only [go_sem,simprocAttr]
end Dv
