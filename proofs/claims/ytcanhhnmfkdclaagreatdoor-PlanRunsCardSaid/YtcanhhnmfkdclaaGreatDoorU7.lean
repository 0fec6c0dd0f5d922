/- Layer 18's laws: alive, time, PlanNext, PlanRuns. -/
import Derived.Test.YtcanhhnmfkdclaaGreatDoorU5
import Derived.Test.YtcanhhnmfkdclaaGreatDoorT21
import Derived.Test.YtcanhhnmfkdclaaGreatDoorD4
set_option linter.unusedVariables false
set_option linter.unusedSimpArgs false
namespace Dv
open Go Go.Proofs
variable {G : Nat → Option (List DV)}

def ir7 : Nat × C × List RV := (50,
(.seq (.reg [qo 0 (.mv qf)])
 (.seq (.reg [qo 7 (.build [q0,q0,q0,q0,q0,q0,q0,q0,q0] [(0,1,(qk 1)),(1,1,(qk 1)),(3,1,(qk 1)),(4,1,(qk 2)),(5,1,(qk 1)),(6,1,(qk 1)),(8,1,(qk 2000))]),
 qo 1 (.new 23 [q0,q0,q0,q0,q0,q0,q0,q0,q0]),
 qn (.st 9 (.t 1) (.t 7))])
 (.seq (.reg [qo 8 (.build [(.val (.bool false)),(.val (.bool false)),(.val (.bool false)),q0,q0] [(0,1,qt),(3,1,(qk 1))]),
 qo 9 (.bsl 49 5 [(.t 8)]),
 qo 10 (.build [q0,q0,q0,q0,q0,q0,q0,q0,q0,q0,q0,q0] [(2,1,(qk 1)),(3,1,(qk 1)),(4,1,(qk 1))]),
 qo 11 (.bsl 47 12 [(.t 10)]),
 qo 12 (.build [(.val (.slice none 0 0)),(.val (.slice none 0 0)),q0,q0,q0,q0] [(2,1,(qk 1)),(3,1,(qk 1)),(0,1,(.t 9)),(1,1,(.t 11))]),
 qo 2 (.new 27 [(.val (.slice none 0 0)),(.val (.slice none 0 0)),q0,q0,q0,q0]),
 qn (.st 6 (.t 2) (.t 12))])
 (.seq (.reg [qo 14 (.ldn 9 (.t 1)),
 qo 15 (.ldn 6 (.t 2)),
 qo 16 (.call (.f 10) [(.t 14),(.t 15),(qk 0)]),
 qm 13 16,
 qo 17 (.ext (.t 13) 0),
 qo 18 (.ext (.t 13) 1),
 qo 3 (.new 32 [q0,q0,q0,q0,q0,q0,q0]),
 qn (.st 7 (.t 3) (.t 17)),
 qm 4 18])
 (.seq (.reg [qo 20 (.ldn 9 (.t 1)),
 qo 21 (.ldn 6 (.t 2)),
 qo 22 (.call (.f 15) [(.t 20),(.t 21),(qk 0),(qk 9)]),
 qm 19 22,
 qo 23 (.ext (.t 19) 0),
 qo 24 (.ext (.t 19) 1),
 qo 5 (.new 27 [(.val (.slice none 0 0)),(.val (.slice none 0 0)),q0,q0,q0,q0]),
 qn (.st 6 (.t 5) (.t 23)),
 qm 6 24])
 (.seq (.reg [qm 25 4,
 qm 26 25,
 qg 27 (.ldn 7 (.t 3)) 26 true,
 qg 28 (.build [q0,q0,q0,q0,q0,q0,q0] [(0,1,(qk 9)),(1,1,(qk 1)),(2,1,(qk 1))]) 26 true,
 qg 29 (.eqs false [0,0,0,0,0,0,0] (.t 27) (.t 28)) 26 true,
 qo 30 (.pick (.t 26) (.t 29) qf),
 qm 31 30,
 qg 32 (.mv (.t 6)) 31 true,
 qg 33 (.len (.t 32)) 31 true,
 qg 34 (.bin .eql (.t 33) (qk 1)) 31 true,
 qo 35 (.pick (.t 31) (.t 34) qf),
 qm 36 35,
 qg 37 (.fad 1 (.t 5)) 36 true,
 qg 38 (.ld1 (.t 37)) 36 true,
 qg 39 (.ixa 12 (.t 38) (qk 0)) 36 true,
 qg 40 (.fad 6 (.t 39)) 36 true,
 qg 41 (.ld1 (.t 40)) 36 true,
 qg 42 (.bin .eql (.t 41) (qk 1)) 36 true,
 qo 43 (.pick (.t 36) (.t 42) qf),
 qm 44 43,
 qg 45 (.ldn 6 (.t 5)) 44 true,
 qg 46 (.call (.f 13) [(.t 45),(qk 0)]) 44 true,
 qg 47 (.len (.t 46)) 44 true,
 qg 48 (.bin .eql (.t 47) (qk 0)) 44 true,
 qo 49 (.pick (.t 44) (.t 48) qf),
 qm 0 49])
 .ret)))))),
[(.t 0)])
theorem irOk7 : convFn Tryz.prog Tryz.f7 = some ir7 := by kernel_rfl
def ir9 : Nat × C × List RV := (9,
(.seq (.reg [qo 2 (.mv qf)])
 (.seq (.reg [qm 3 0,
 qo 4 (.bin .geq (.t 3) (qk 0)),
 qm 5 4,
 qg 6 (.mv (.t 0)) 5 true,
 qg 7 (.bin .leq (.t 6) (qk 1000000)) 5 true,
 qo 8 (.pick (.t 5) (.t 7) qf),
 qm 2 8])
 .ret)),
[(.t 2)])
theorem irOk9 : convFn Tryz.prog Tryz.f9 = some ir9 := by kernel_rfl
def ir4 : Nat × C × List RV := (52,
(.seq (.reg [qo 4 (.box 23 (.t 0)),
 qo 5 (.box 27 (.t 1)),
 qo 8 (.mv qf)])
 (.seq (.seq (.reg [qo 13 (.call (.f 7) []),
 qo 14 (.not (.t 13))])
 (.cond (.t 14) (.seq (.reg [qo 8 (.mv qf)])
 .ret)
 .skip))
 (.seq (.seq (.reg [qo 15 (.ldn 9 (.t 4)),
 qo 16 (.ldn 6 (.t 5)),
 qo 17 (.call (.f 8) [(.t 15),(.t 16)]),
 qo 18 (.not (.t 17)),
 qm 19 18,
 qg 20 (.mv (.t 2)) 19 false,
 qg 21 (.call (.f 9) [(.t 20)]) 19 false,
 qg 22 (.not (.t 21)) 19 false,
 qo 23 (.pick (.t 19) qt (.t 22)),
 qm 24 23,
 qg 25 (.mv (.t 3)) 24 false,
 qg 26 (.bin .gtr (.t 25) (qk 90)) 24 false,
 qo 27 (.pick (.t 24) qt (.t 26))])
 (.cond (.t 27) (.seq (.reg [qo 8 (.mv qt)])
 .ret)
 .skip))
 (.seq (.reg [qo 29 (.ldn 9 (.t 4)),
 qo 30 (.ldn 6 (.t 5)),
 qm 31 2,
 qm 32 3,
 qo 33 (.call (.f 15) [(.t 29),(.t 30),(.t 31),(.t 32)]),
 qm 28 33,
 qo 34 (.ext (.t 28) 0),
 qo 35 (.ext (.t 28) 1),
 qo 9 (.new 27 [(.val (.slice none 0 0)),(.val (.slice none 0 0)),q0,q0,q0,q0]),
 qn (.st 6 (.t 9) (.t 34)),
 qm 10 35])
 (.seq (.reg [qo 37 (.ldn 9 (.t 4)),
 qo 38 (.ldn 6 (.t 5)),
 qm 39 2,
 qm 40 3,
 qo 41 (.call (.f 16) [(.t 37),(.t 38),(.t 39),(.t 40)]),
 qm 36 41,
 qo 42 (.ext (.t 36) 0),
 qo 43 (.ext (.t 36) 1),
 qo 11 (.new 27 [(.val (.slice none 0 0)),(.val (.slice none 0 0)),q0,q0,q0,q0]),
 qn (.st 6 (.t 11) (.t 42)),
 qm 12 43])
 (.seq (.reg [qo 44 (.ldn 6 (.t 9)),
 qo 45 (.ldn 6 (.t 11)),
 qo 46 (.call (.f 17) [(.t 44),(.t 45)]),
 qm 47 46,
 qg 48 (.mv (.t 10)) 47 true,
 qg 49 (.mv (.t 12)) 47 true,
 qg 50 (.call (.f 18) [(.t 48),(.t 49)]) 47 true,
 qo 51 (.pick (.t 47) (.t 50) qf),
 qm 8 51])
 .ret)))))),
[(.t 8)])
theorem irOk4 : convFn Tryz.prog Tryz.f4 = some ir4 := by kernel_rfl
def c18 : ConfD := ⟨1, 1, 0, 1, 2, 1, 1, 0, 2000⟩
def a18 : StateD := ⟨[⟨true, false, false, 1, 0⟩], [⟨0, 0, 1, 1, 1, 0, 0, 0, 0, 0, 0, 0⟩], 1, 1, 0, 0⟩
def b18 : StateD := ⟨[⟨true, false, false, 1, 1⟩], [⟨0, 0, 1, 1, 1, 0, 1, 1, 1, 0, 0, 0⟩], 1, 1, 0, 0⟩
def o18 : OpD := ⟨9, 1, 1, 0, 0, 0, 0⟩
theorem right18 : RightP c18 a18 := (right_iff c18 a18).1 (by decide +kernel)
theorem app18 : applyD c18 a18 o18 = (b18, 0) := by decide +kernel
theorem next18_eq : anextS a18 0 = (1, 1, true) := by
  have hl : lineN a18 = [0] := by rw [← lineR_eq]; decide +kernel
  have h : nowR a18 ((0 + 1 : Nat) : Int) = (1, true) := by decide +kernel
  rw [next_same right18 (by decide)]
  unfold nextR
  rw [hl]
  simp only [nextGo,h,if_true]
  rfl
theorem next18b_eq : anextS b18 0 = (0, 0, false) := by
  have hl : lineN b18 = [] := by rw [← lineR_eq]; decide +kernel
  unfold anextS
  rw [hl]
  rfl
theorem plan18_eq : planO c18 a18 0 = some o18 := by
  have h1 : evictO a18 0 = none := by decide +kernel
  have h2 : nextW c18 a18 0 = none := by decide +kernel
  unfold planO holdO
  rw [h1, h2, next18_eq]
  rfl
theorem plan18b_eq : planO c18 b18 0 = none := by
  have h1 : evictO b18 0 = none := by decide +kernel
  have h2 : nextW c18 b18 0 = none := by decide +kernel
  unfold planO holdO
  rw [h1, h2, next18b_eq]
  rfl
theorem run18_eq : runD c18 a18 0 9 = (b18, [o18]) := by
  unfold runD
  rw [show (9 : Int).toNat = 8 + 1 from rfl, runTo, plan18_eq]
  simp only [app18,if_true]
  rw [runTo_stop (.inl plan18b_eq)]
  rfl
theorem late18b_eq : lateN b18 0 = [] := by decide +kernel
set_option maxHeartbeats 4000000 in
theorem alive18_tri : Tri Tryz.prog bookG 7 [] [] (.bool true) [] := by
  have t0 : TimeR 0 := ⟨by decide, by decide⟩
  have hN := plan_tri (G := bookG) c18 a18 right18 0 t0
  have hR := run_tri c18 a18 right18 0 9 t0 (by decide)
  have hL := late_tri (G := bookG) b18 0 (by decide)
  rw [plan18_eq] at hN
  rw [run18_eq] at hR
  rw [late18b_eq] at hL
  refine tri_W0 Tryz.func7 (by decide) irOk7 (Nat.le_of_ble_eq_true rfl) rfl ?_
  simp only [ir7,go_sem,simprocAttr]
  simp only [c18,a18,b18,o18,optV,Option.getD_some,Option.isSome_some,List.map_cons,List.map_nil,nodeR,jobR,opR,natR,go_sem,simprocAttr] at hN hR hL
  refine W_callz [1, 2] (hN) rfl (by simp [argRs,argR,rowsAt,objL,go_sem,simprocAttr]) (by simp [objL]) rfl rfl ?_; simp only [go_sem,simprocAttr]
  refine W_callf [1, 2] (hR) rfl (by simp [argRs,argR,rowsAt,objL,go_sem,simprocAttr]) (by simp [objL]) rfl ?_; simp only [go_sem,simprocAttr]
  try simp only [show (((1 : Nat) : Int) == 1) = true from rfl,go_sem,simprocAttr]
  refine W_calld (hL) rfl rfl rfl rfl ?_; simp only [go_sem,simprocAttr]
  all_goals rfl
def timeB (now : Int) : Bool := decide (0 ≤ now ∧ now ≤ 1000000)
theorem time18_tri (now : Int) : Tri Tryz.prog G 9 [.int now] [] (.bool (timeB now)) [] := by
  refine tri_W0 Tryz.func9 (by decide) irOk9 (Nat.le_of_ble_eq_true rfl) rfl ?_
  simp only [ir9,go_sem,simprocAttr]
  unfold timeB
  by_cases h1 : 0 ≤ now
  · simp only [decide_eq_true (show now ≥ 0 from h1),h1,true_and,go_sem,simprocAttr]
  · simp only [decide_eq_false (show ¬ now ≥ 0 from h1),h1,false_and,decide_false,go_sem,simprocAttr]
theorem run_lens {c : ConfD} {s : StateD} (h : RightP c s) {now most : Int} (hm : most ≤ 90) : RightP c (runD c s now most).1 ∧ (runD c s now most).2.length ≤ 90 := by
  unfold runD
  refine ⟨runTo_right _ _ _ h, ?_⟩
  have := runTo_len (c := c) (now := now) most.toNat s
  omega
set_option maxHeartbeats 4000000 in
theorem planRuns_tri (c : ConfD) (s : StateD) (now most : Int) : Tri Tryz.prog bookG 4 [confV c, stateV s, .int now, .int most] [] (.bool true) [] := by
  refine tri_W0 Tryz.func4 (by decide) irOk4 (Nat.le_of_ble_eq_true rfl) rfl ?_
  simp only [ir4,go_sem,simprocAttr]
  refine W_calld (alive18_tri) rfl rfl rfl rfl ?_; simp only [go_sem,simprocAttr]
  refine W_calld (right_tri c s) rfl rfl rfl rfl ?_; simp only [go_sem,simprocAttr]
  cases hr : rightB c s with
  | false => simp only [go_sem,simprocAttr]
  | true =>
  simp only [go_sem,simprocAttr]
  refine W_calld (time18_tri now) rfl rfl rfl rfl ?_; simp only [go_sem,simprocAttr]
  cases ht : timeB now with
  | false => simp only [go_sem,simprocAttr]
  | true =>
  have h := (right_iff c s).1 hr
  have t0 : TimeR now := by unfold timeB at ht; exact (of_decide_eq_true ht : 0 ≤ now ∧ now ≤ 1000000)
  simp only [go_sem,simprocAttr]
  by_cases hm : most > 90
  · simp only [decide_eq_true hm,go_sem,simprocAttr]
  simp only [decide_eq_false hm,go_sem,simprocAttr]
  have hP := run_tri c s h now most t0 (by omega)
  have hQ := run18_tri (G := bookG) c s h now most t0 (by omega)
  obtain ⟨hu, hl⟩ := run_lens (now := now) h (show most ≤ 90 by omega)
  have hun := hu.len
  have huj := hu.jobs
  generalize runD c s now most = r at *
  obtain ⟨u, l⟩ := r
  dsimp only at hP hQ hun huj hl
  refine W_calld (hP) rfl rfl rfl rfl ?_; simp only [go_sem,simprocAttr]
  refine W_calld (hQ) rfl rfl rfl rfl ?_; simp only [go_sem,simprocAttr]
  have hS := same9_tri (G := bookG) u u (by omega) (by omega)
  have hT := same18_tri (G := bookG) l l (by omega) (by omega)
  rw [decide_eq_true rfl] at hS hT
  refine W_calld (hS) rfl rfl rfl rfl ?_; simp only [go_sem,simprocAttr]
  refine W_calld (hT) rfl rfl rfl rfl ?_; simp only [go_sem,simprocAttr]
end Dv
