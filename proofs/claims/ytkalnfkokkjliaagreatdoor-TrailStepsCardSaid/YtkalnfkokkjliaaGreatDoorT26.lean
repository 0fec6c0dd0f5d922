/- TrailSteps: it returns true. -/
import Derived.Test.YtkalnfkokkjliaaGreatDoorT25
import Derived.Test.YtkalnfkokkjliaaGreatDoorT22
import Derived.Test.YtkalnfkokkjliaaGreatDoorA3
import Derived.Test.YtkalnfkokkjliaaGreatDoorQ10
set_option linter.unusedVariables false
set_option linter.unusedSimpArgs false
namespace Dv
open Go Go.Proofs

def ir4 : Nat × C × List RV := (82,
(.seq (.reg [qo 2 (.box 23 (.t 0)),
 qo 4 (.mv qf)])
 (.seq (.seq (.reg [qo 10 (.call (.f 13) []),
 qo 11 (.not (.t 10))])
 (.cond (.t 11) (.seq (.reg [qo 4 (.mv qf)])
 .ret)
 .skip))
 (.seq (.seq (.reg [qo 12 (.ldn 9 (.t 2)),
 qo 13 (.call (.f 14) [(.t 12)]),
 qo 14 (.not (.t 13)),
 qm 15 14,
 qg 16 (.mv (.t 1)) 15 false,
 qg 17 (.len (.t 16)) 15 false,
 qg 18 (.bin .gtr (.t 17) (qk 100)) 15 false,
 qo 19 (.pick (.t 15) qt (.t 18))])
 (.cond (.t 19) (.seq (.reg [qo 4 (.mv qt)])
 .ret)
 .skip))
 (.seq (.reg [qo 20 (.ldn 9 (.t 2)),
 qo 21 (.call (.f 15) [(.t 20)]),
 qo 5 (.new 30 [(.val (.slice none 0 0)),(.val (.slice none 0 0)),q0,q0,q0,q0]),
 qn (.st 6 (.t 5) (.t 21))])
 (.seq (.seq (.reg [qo 6 (.mv (qk 0))])
 (.block 0 (.loop (.seq (.seq (.reg [qm 22 6,
 qm 23 1,
 qo 24 (.len (.t 23)),
 qo 25 (.bin .lss (.t 22) (.t 24))])
 (.cond (.t 25) .skip
 (.exit 0)))
 (.seq (.block 1 (.seq (.regD [qo 29 (.ldn 9 (.t 2)),
 qo 30 (.ldn 6 (.t 5)),
 qm 31 1,
 qm 32 6,
 qd 33 (.ixa 7 (.t 31) (.t 32)) [2,3],
 qd 34 (.ldn 7 (.t 33)) [4,2,3],
 qd 35 (.call (.f 24) [(.t 29),(.t 30),(.t 34)]) [0,1,5,4,2,3],
 qd 28 (.mv (.t 35)) [6,0,1,5,4,2,3],
 qd 36 (.ext (.t 28) 0) [7,6,0,1,5,4,2,3],
 qd 37 (.ext (.t 28) 1) [7,6,0,1,5,4,2,3],
 qo 7 (.new 30 [(.val (.slice none 0 0)),(.val (.slice none 0 0)),q0,q0,q0,q0]),
 ql (.st 6 (.t 7) (.t 36)) [10,8,7,6,0,1,5,4,2,3],
 qd 8 (.mv (.t 37)) [9,7,6,0,1,5,4,2,3,11,10,8]])
 (.seq (.seq (.reg [qo 38 (.ldn 6 (.t 5)),
 qo 39 (.ldn 6 (.t 5)),
 qo 40 (.call (.f 25) [(.t 38),(.t 39)]),
 qo 41 (.len (.t 40)),
 qo 42 (.bin .neq (.t 41) (qk 0)),
 qm 43 42,
 qg 44 (.mv (.t 8)) 43 false,
 qg 45 (.bin .neq (.t 44) (qk 0)) 43 false,
 qg 46 (.mv (.t 45)) 43 false,
 qg 47 (.ldn 6 (.t 5)) 46 true,
 qg 48 (.ldn 6 (.t 7)) 46 true,
 qg 49 (.call (.f 25) [(.t 47),(.t 48)]) 46 true,
 qg 50 (.len (.t 49)) 46 true,
 qg 51 (.bin .neq (.t 50) (qk 0)) 46 true,
 qg 52 (.pick (.t 46) (.t 51) qf) 43 false,
 qo 53 (.pick (.t 43) qt (.t 52))])
 (.cond (.t 53) (.seq (.reg [qo 4 (.mv qf)])
 .ret)
 .skip))
 (.seq (.reg [qm 54 1,
 qm 55 6,
 qo 56 (.ixa 7 (.t 54) (.t 55)),
 qo 57 (.fad 0 (.t 56)),
 qo 58 (.ld1 (.t 57)),
 qo 59 (.bin .eql (.t 58) (qk 3)),
 qm 60 59,
 qg 61 (.mv (.t 1)) 60 false,
 qg 62 (.mv (.t 6)) 60 false,
 qg 63 (.ixa 7 (.t 61) (.t 62)) 60 false,
 qg 64 (.fad 0 (.t 63)) 60 false,
 qg 65 (.ld1 (.t 64)) 60 false,
 qg 66 (.bin .eql (.t 65) (qk 8)) 60 false,
 qo 67 (.pick (.t 60) qt (.t 66)),
 qm 9 67])
 (.seq (.seq (.reg [qm 68 8,
 qo 69 (.bin .eql (.t 68) (qk 0)),
 qm 70 69,
 qg 71 (.mv (.t 9)) 70 true,
 qg 72 (.not (.t 71)) 70 true,
 qo 73 (.pick (.t 70) (.t 72) qf),
 qm 74 73,
 qg 75 (.ldn 6 (.t 5)) 74 true,
 qg 76 (.ldn 6 (.t 7)) 74 true,
 qg 77 (.call (.f 25) [(.t 75),(.t 76)]) 74 true,
 qg 78 (.len (.t 77)) 74 true,
 qg 79 (.bin .eql (.t 78) (qk 0)) 74 true,
 qo 80 (.pick (.t 74) (.t 79) qf)])
 (.cond (.t 80) (.seq (.reg [qo 4 (.mv qf)])
 .ret)
 .skip))
 (.reg [qo 81 (.ldn 6 (.t 7)),
 qn (.st 6 (.t 5) (.t 81))]))))))
 (.reg [qm 26 6,
 qo 27 (.bin .add (.t 26) (qk 1)),
 qm 6 27]))))))
 (.seq (.reg [qo 4 (.mv qt)])
 .ret)))))),
[(.t 4)])
theorem irOk4 : convFn Tryz.prog Tryz.f4 = some ir4 := by kernel_rfl


theorem tabG_pow : tabG 2 = some powR := rfl
def stepsS (c : ConfD) (l : List OpD) (q : Nat × StateD) : St := ⟨[(1, opsT l), (2, .ptr 0 0), (4, .bool false), (5, .ptr 1 0), (6, .int q.1)], [some (boxCT c), some (boxST q.2)]⟩
set_option maxHeartbeats 4000000 in
theorem trailSteps_tri (c : ConfD) (l : List OpD) : Tri Tryz.prog tabG 4 [confV c, opsT l] [] (.bool true) [] := by
  refine tri_W0 Tryz.func4 (by decide) irOk4 (Nat.le_of_ble_eq_true rfl) rfl ?_
  simp only [ir4,go_sem,simprocAttr]
  refine W_calld (alive26_tri) rfl rfl rfl rfl ?_; simp only [go_sem,simprocAttr]
  refine W_calld (may9_tri c) rfl rfl rfl rfl ?_; simp only [go_sem,simprocAttr]
  cases hm : mayB c with
  | false => simp only [go_sem,simprocAttr]
  | true =>
  simp only [opsT,go_sem,simprocAttr]
  by_cases h1 : (l.length : Int) > 100
  · simp only [decide_eq_true h1,go_sem,simprocAttr]
  simp only [decide_eq_false h1,go_sem,simprocAttr]
  have hT := fun s (h : RightP c s) (o : OpD) => Tri.up (apply_tri c s o) tabG_book
  have hD := fun s t (h : RightP c s) (g : RightP c t) => diff_tri tabG_pow s t ⟨h.len.2, h.jobs⟩ g.told
  refine W_calld (new_tri c) rfl rfl rfl rfl ?_; simp only [go_sem,simprocAttr]
  have hR0 := new_rightT hm
  refine W_loopI [1, 2, 4, 5, 6] [] (fun q : Nat × StateD => q.1 ≤ l.length ∧ RightP c q.2) (fun q => l.length - q.1) (stepsS c l) (0, newD c) ?_ ⟨Nat.zero_le _, hR0⟩ ?_
  · simp only [stepsS,boxCT,boxST,cellsST,opsT,Int.natCast_zero,go_sem,simprocAttr]
  rintro ⟨i, s⟩ ⟨hi, hs⟩
  dsimp only at hi hs
  simp only [stepsS,boxCT,boxST,cellsST,opsT,go_sem,simprocAttr]
  by_cases hlt : i < l.length
  · have hg := get_mapD (f := opR) zeroOp hlt
    generalize l.getD i zeroOp = o at *
    simp only [opR] at hg
    simp only [decide_eq_true (show ((i : Nat) : Int) < ((l.length : Nat) : Int) by omega),hg,go_sem,simprocAttr]
    refine WD_calld (hT s hs o) rfl rfl rfl rfl ?_; simp only [go_sem,simprocAttr]
    refine W_opsD_end rfl ?_
    have hst := (apply_step hs o).2
    have hne := apply_diff (c := c) (s := s) (o := o)
    have hrt := apply_right hs o
    generalize (applyD c s o).1 = t at *
    generalize (applyD c s o).2 = e at *
    have hss := hD s s hs hs
    have htt := hD s t hs hrt
    rw [diffT_self] at hss
    simp only [strR,List.map_nil] at hss
    simp only [go_sem,simprocAttr]
    refine W_calld (hss) rfl rfl rfl rfl ?_; simp only [go_sem,simprocAttr]
    by_cases he : e = 0
    · subst he
      simp only [hg,go_sem,simprocAttr]
      by_cases k3 : o.kind = 3
      · simp only [k3,hg,go_sem,simprocAttr]
        refine W_lpI (i + 1, t) ?_ ?_ ⟨by dsimp only; omega, hrt⟩ (by dsimp only; omega)
        · simp only [go_sem,simprocAttr]
        · simp only [stepsS,boxCT,boxST,cellsST,opsT,wrap_succ (show i < 9223372036854775807 by omega),go_sem,simprocAttr]
      by_cases k8 : o.kind = 8
      · simp only [k8,hg,go_sem,simprocAttr]
        refine W_lpI (i + 1, t) ?_ ?_ ⟨by dsimp only; omega, hrt⟩ (by dsimp only; omega)
        · simp only [go_sem,simprocAttr]
        · simp only [stepsS,boxCT,boxST,cellsST,opsT,wrap_succ (show i < 9223372036854775807 by omega),go_sem,simprocAttr]
      have hn := hne ⟨k3, k8⟩ rfl
      have hl : ¬ (((strR (diffT s t)).length : Nat) : Int) = 0 := by
        rw [strR_len]
        have := mt List.length_eq_zero_iff.1 hn
        omega
      simp only [beq_eq_false_iff_ne.2 k3,beq_eq_false_iff_ne.2 k8,hg,go_sem,simprocAttr]
      refine W_calld (htt) rfl rfl rfl rfl ?_; simp only [go_sem,simprocAttr]
      simp only [beq_eq_false_iff_ne.2 hl,go_sem,simprocAttr]
      refine W_lpI (i + 1, t) ?_ ?_ ⟨by dsimp only; omega, hrt⟩ (by dsimp only; omega)
      · simp only [go_sem,simprocAttr]
      · simp only [stepsS,boxCT,boxST,cellsST,opsT,wrap_succ (show i < 9223372036854775807 by omega),go_sem,simprocAttr]
    · obtain rfl := hst he
      simp only [show (e != 0) = true from bne_iff_ne.2 he,beq_eq_false_iff_ne.2 he,go_sem,simprocAttr]
      refine W_calld (hss) rfl rfl rfl rfl ?_; simp only [go_sem,simprocAttr]
      by_cases k3 : o.kind = 3
      · simp only [k3,hg,beq_eq_false_iff_ne.2 he,go_sem,simprocAttr]
        refine W_lpI (i + 1, t) ?_ ?_ ⟨by dsimp only; omega, hrt⟩ (by dsimp only; omega)
        · simp only [go_sem,simprocAttr]
        · simp only [stepsS,boxCT,boxST,cellsST,opsT,wrap_succ (show i < 9223372036854775807 by omega),go_sem,simprocAttr]
      · simp only [beq_eq_false_iff_ne.2 k3,hg,beq_eq_false_iff_ne.2 he,go_sem,simprocAttr]
        refine W_lpI (i + 1, t) ?_ ?_ ⟨by dsimp only; omega, hrt⟩ (by dsimp only; omega)
        · simp only [go_sem,simprocAttr]
        · simp only [stepsS,boxCT,boxST,cellsST,opsT,wrap_succ (show i < 9223372036854775807 by omega),go_sem,simprocAttr]
  obtain rfl : i = l.length := by omega
  simp only [decide_eq_false (show ¬ ((l.length : Nat) : Int) < ((l.length : Nat) : Int) by omega),go_sem,simprocAttr]
end Dv
