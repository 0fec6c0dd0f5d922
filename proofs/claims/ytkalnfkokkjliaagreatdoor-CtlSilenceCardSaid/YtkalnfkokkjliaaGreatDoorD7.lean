/- Clone, Copy. -/
import Derived.Test.YtkalnfkokkjliaaGreatDoorD4
set_option linter.unusedVariables false
set_option linter.unusedSimpArgs false
namespace Dv
open Go Go.Proofs
variable {G : Nat → Option (List DV)}

def ir143 : Nat × C × List RV := (8,
(.seq (.reg [qo 2 (.mv (.c (.val (.slice none 0 0))))])
 (.seq (.seq (.reg [qm 3 0,
 qo 4 (.isns false (.t 3))])
 (.cond (.t 4) (.seq (.reg [qo 2 (.mv (.c (.val (.slice none 0 0))))])
 .ret)
 .skip))
 (.seq (.reg [qo 5 (.bsl 102 5 []),
 qm 6 0,
 qo 7 (.app 102 5 24 (.t 5) (.t 6)),
 qm 2 7])
 .ret))),
[(.t 2)])
theorem irOk143 : convFn Tryz.prog Tryz.f143 = some ir143 := by kernel_rfl
def ir144 : Nat × C × List RV := (8,
(.seq (.reg [qo 2 (.mv (.c (.val (.slice none 0 0))))])
 (.seq (.seq (.reg [qm 3 0,
 qo 4 (.isns false (.t 3))])
 (.cond (.t 4) (.seq (.reg [qo 2 (.mv (.c (.val (.slice none 0 0))))])
 .ret)
 .skip))
 (.seq (.reg [qo 5 (.bsl 119 12 []),
 qm 6 0,
 qo 7 (.app 119 12 96 (.t 5) (.t 6)),
 qm 2 7])
 .ret))),
[(.t 2)])
theorem irOk144 : convFn Tryz.prog Tryz.f144 = some ir144 := by kernel_rfl
def ir73 : Nat × C × List RV := (12,
(.seq (.reg [qo 1 (.box 30 (.t 0)),
 qo 2 (.new 30 [(.val (.slice none 0 0)),(.val (.slice none 0 0)),q0,q0,q0,q0])])
 (.seq (.regD [qo 3 (.fad 0 (.t 1)),
 qd 4 (.ld1 (.t 3)) [0],
 qd 5 (.call (.f 143) [(.t 4)]) [1,0],
 qo 6 (.fad 1 (.t 1)),
 qd 7 (.ld1 (.t 6)) [3],
 qd 8 (.call (.f 144) [(.t 7)]) [4,3,2,1,0],
 qd 9 (.fad 0 (.t 1)) [0,1,2,3,4],
 ql (.st 1 (.t 9) (.t 5)) [6,0,1,2,3,4,5],
 qd 10 (.fad 1 (.t 1)) [0,1,2,3,4,5,6,7],
 ql (.st 1 (.t 10) (.t 8)) [8,0,1,2,3,4,5,6,7]])
 (.seq (.reg [qo 11 (.ldn 6 (.t 1)),
 qn (.st 6 (.t 2) (.t 11))])
 .ret))),
[(.cn 2 6)])
theorem irOk73 : convFn Tryz.prog Tryz.f73 = some ir73 := by kernel_rfl


theorem cloneN_tri (l : List NodeD) (hl : l.length ≤ 1000) : Tri Tryz.prog G 143 [nodesV l] [] (.sl 0 l.length 5 0 l.length) [.dat 102 5 (l.map nodeR)] := by
  refine tri_W Tryz.func143 (by decide) irOk143 (Nat.le_of_ble_eq_true rfl) ?_
  simp only [ir143,go_sem,simprocAttr]
  cases l with
  | nil =>
    simp only [List.length_nil,List.map_nil,go_sem,simprocAttr]
    refine ⟨?_, ?_⟩
    · exact BackO [.t 2 102 5] rfl rfl
    · exact BackO [] rfl rfl
  | cons n l =>
    have h0 : ¬ (n :: l).length = 0 := by simp
    have hb : (l.length + 1) * 24 ≤ 70368744177664 := by simp at hl; omega
    simp only [h0,List.length_map,List.take_of_length_le (show (List.map nodeR (n :: l)).length ≤ (n :: l).length by simp),Nat.le_refl,List.drop_zero,go_sem,simprocAttr]
    simp only [hb,go_sem,simprocAttr]
    exact BackO [] rfl rfl

theorem cloneJ_tri (l : List JobD) (hl : l.length ≤ 1000) : Tri Tryz.prog G 144 [jobsV l] [] (.sl 0 l.length 12 0 l.length) [.dat 119 12 (l.map jobR)] := by
  refine tri_W Tryz.func144 (by decide) irOk144 (Nat.le_of_ble_eq_true rfl) ?_
  simp only [ir144,go_sem,simprocAttr]
  cases l with
  | nil =>
    simp only [List.length_nil,List.map_nil,go_sem,simprocAttr]
    refine ⟨?_, ?_⟩
    · exact BackO [.t 2 119 12] rfl rfl
    · exact BackO [] rfl rfl
  | cons n l =>
    have h0 : ¬ (n :: l).length = 0 := by simp
    have hb : (l.length + 1) * 96 ≤ 70368744177664 := by simp at hl; omega
    simp only [h0,List.length_map,List.take_of_length_le (show (List.map jobR (n :: l)).length ≤ (n :: l).length by simp),Nat.le_refl,List.drop_zero,go_sem,simprocAttr]
    simp only [hb,go_sem,simprocAttr]
    exact BackO [] rfl rfl

theorem copy_tri (s : StateD) (hn : s.nodes.length ≤ 1000) (hj : s.jobs.length ≤ 1000) : Tri Tryz.prog G 73 [stateV s] [] (.agg [.sl 0 s.nodes.length 5 0 s.nodes.length, .sl 1 s.jobs.length 12 0 s.jobs.length, .int s.goal, .int s.prior, .int s.mode, .int s.term]) [.dat 102 5 (s.nodes.map nodeR), .dat 119 12 (s.jobs.map jobR)] := by
  refine tri_W Tryz.func73 (by decide) irOk73 (Nat.le_of_ble_eq_true rfl) ?_
  simp only [ir73,go_sem,simprocAttr]
  refine WD_calln (cloneN_tri s.nodes hn) rfl rfl rfl ?_
  simp only [go_sem,simprocAttr]
  refine WD_calln (cloneJ_tri s.jobs hj) rfl rfl rfl ?_
  simp only [go_sem,simprocAttr]
  refine W_opsD_end rfl ?_
  simp only [go_sem,simprocAttr]
  refine BackR [] [2, 3] [] rfl rfl (by decide) (by simp) (by simp) rfl rfl ?_
  simp [oneOr,argR,argRs]
end Dv
