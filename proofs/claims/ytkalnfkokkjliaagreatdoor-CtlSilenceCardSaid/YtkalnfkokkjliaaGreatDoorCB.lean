/- The logical machine and its plain laws: parts C10, C11, C12, C13, C14, proved sound. -/
import Derived.Test.YtkalnfkokkjliaaGreatDoorCA
import Derived.Test.YtkalnfkokkjliaaGreatDoorA2
import Derived.Test.YtkalnfkokkjliaaGreatDoorNA
import Derived.Test.YtkalnfkokkjliaaGreatDoorI0
import Derived.Test.YtkalnfkokkjliaaGreatDoorGA
import Derived.Test.YtkalnfkokkjliaaGreatDoorA1
set_option linter.unusedVariables false
set_option linter.unusedSimpArgs false
namespace Dv
open Go Go.Proofs
variable {G : Nat → Option (List DV)}

def ir201 : Nat × C × List RV := (88,
(.seq (.reg [qo 3 (.box 30 (.t 0)),
 qo 6 (.new 87 [q0,q0,q0,q0,q0,q0,q0,q0,q0,q0,q0]),
 qo 7 (.mv qf)])
 (.seq (.seq (.reg [qm 11 1,
 qo 12 (.bin .lss (.t 11) (qk 0)),
 qm 13 12,
 qg 14 (.mv (.t 1)) 13 false,
 qg 15 (.fad 0 (.t 3)) 13 false,
 qg 16 (.ld1 (.t 15)) 13 false,
 qg 17 (.len (.t 16)) 13 false,
 qg 18 (.bin .geq (.t 14) (.t 17)) 13 false,
 qo 19 (.pick (.t 13) qt (.t 18)),
 qm 20 19,
 qg 21 (.fad 0 (.t 3)) 20 false,
 qg 22 (.ld1 (.t 21)) 20 false,
 qg 23 (.mv (.t 1)) 20 false,
 qg 24 (.ixa 5 (.t 22) (.t 23)) 20 false,
 qg 25 (.fad 0 (.t 24)) 20 false,
 qg 26 (.ld1 (.t 25)) 20 false,
 qg 27 (.not (.t 26)) 20 false,
 qo 28 (.pick (.t 20) qt (.t 27))])
 (.cond (.t 28) (.seq (.reg [qo 29 (.build [q0,q0,q0,q0,q0,q0,q0,q0,q0,q0,q0] []),
 qn (.st 11 (.t 6) (.t 29)),
 qo 7 (.mv qf)])
 .ret)
 .skip))
 (.seq (.reg [qo 30 (.fad 0 (.t 3)),
 qo 31 (.ld1 (.t 30)),
 qm 32 1,
 qo 33 (.ixa 5 (.t 31) (.t 32)),
 qo 34 (.ldn 5 (.t 33)),
 qo 8 (.new 102 [(.val (.bool false)),(.val (.bool false)),(.val (.bool false)),q0,q0]),
 qn (.st 5 (.t 8) (.t 34))])
 (.seq (.reg [qm 35 1,
 qo 36 (.build [q0,q0,q0,q0,q0,q0,q0,q0,q0,q0,q0] [(0,1,(.t 35)),(1,1,(qk 1))]),
 qo 9 (.new 87 [q0,q0,q0,q0,q0,q0,q0,q0,q0,q0,q0]),
 qn (.st 11 (.t 9) (.t 36))])
 (.seq (.seq (.reg [qo 37 (.fad 2 (.t 8)),
 qo 38 (.ld1 (.t 37))])
 (.cond (.t 38) (.reg [qo 39 (.ldn 6 (.t 3)),
 qo 40 (.call (.f 220) [(.t 39)]),
 qo 41 (.fad 1 (.t 9)),
 qn (.st 1 (.t 41) (qk 5)),
 qo 42 (.fad 6 (.t 9)),
 qn (.st 1 (.t 42) (.t 40))])
 .skip))
 (.seq (.seq (.reg [qo 43 (.fad 4 (.t 8)),
 qo 44 (.ld1 (.t 43)),
 qo 45 (.bin .eql (.t 44) (qk 0))])
 (.cond (.t 45) (.seq (.reg [qo 46 (.ldn 11 (.t 9)),
 qn (.st 11 (.t 6) (.t 46)),
 qo 7 (.mv qt)])
 .ret)
 .skip))
 (.seq (.reg [qo 47 (.fad 1 (.t 3)),
 qo 48 (.ld1 (.t 47)),
 qo 49 (.fad 4 (.t 8)),
 qo 50 (.ld1 (.t 49)),
 qo 51 (.bin .sub (.t 50) (qk 1)),
 qo 52 (.ixa 12 (.t 48) (.t 51)),
 qo 53 (.ldn 12 (.t 52)),
 qo 10 (.new 119 [q0,q0,q0,q0,q0,q0,q0,q0,q0,q0,q0,q0]),
 qn (.st 12 (.t 10) (.t 53))])
 (.seq (.regD [qo 54 (.fad 4 (.t 8)),
 qd 55 (.ld1 (.t 54)) [0],
 qo 56 (.fad 7 (.t 10)),
 qd 57 (.ld1 (.t 56)) [2],
 qd 58 (.fad 4 (.t 9)) [0,1],
 ql (.st 1 (.t 58) (.t 55)) [4,0,1],
 qd 59 (.fad 5 (.t 9)) [0,1,2,3,4,5],
 ql (.st 1 (.t 59) (.t 57)) [6,0,1,2,3,4,5]])
 (.seq (.seq (.reg [qo 60 (.fad 6 (.t 10)),
 qo 61 (.ld1 (.t 60))])
 (.block 0 (.seq (.block 4 (.seq (.block 3 (.seq (.block 2 (.seq (.block 1 (.seq (.seq (.seq (.reg [qo 63 (.bin .eql (.t 61) (qk 2)),
 qm 62 63])
 (.cond (.t 62) (.exit 1)
 .skip))
 (.seq (.seq (.reg [qo 65 (.bin .eql (.t 61) (qk 3)),
 qm 64 65])
 (.cond (.t 64) (.exit 2)
 .skip))
 (.seq (.reg [qo 67 (.bin .eql (.t 61) (qk 1)),
 qm 66 67])
 (.cond (.t 66) (.exit 3)
 .skip))))
 (.exit 4)))
 (.seq (.seq (.regD [qo 68 (.fad 11 (.t 10)),
 qd 69 (.ld1 (.t 68)) [0],
 qo 70 (.ldn 6 (.t 3)),
 qo 71 (.fad 4 (.t 8)),
 qd 72 (.ld1 (.t 71)) [3],
 qm 73 2,
 qd 74 (.call (.f 248) [(.t 70),(.t 72),(.t 73)]) [2,4,3,5],
 qd 75 (.fad 7 (.t 9)) [0,1],
 ql (.st 1 (.t 75) (.t 69)) [7,0,1,6,2,4,3,5],
 qd 76 (.fad 10 (.t 9)) [0,1,2,3,4,5,6,7,8],
 ql (.st 1 (.t 76) (.t 74)) [9,0,1,2,3,4,5,6,7,8]])
 (.reg [qo 77 (.fad 1 (.t 9)),
 qn (.st 1 (.t 77) (qk 3))]))
 (.exit 0))))
 (.seq (.seq (.reg [qo 78 (.ldn 12 (.t 10)),
 qm 79 1,
 qo 80 (.call (.f 249) [(.t 78),(.t 79)]),
 qo 81 (.fad 9 (.t 9)),
 qn (.st 1 (.t 81) (.t 80))])
 (.reg [qo 82 (.fad 1 (.t 9)),
 qn (.st 1 (.t 82) (qk 4))]))
 (.exit 0))))
 (.reg [qo 83 (.fad 3 (.t 8)),
 qo 84 (.ld1 (.t 83)),
 qo 85 (.fad 6 (.t 9)),
 qn (.st 1 (.t 85) (.t 84))])))
 (.seq (.reg [qo 86 (.fad 1 (.t 9)),
 qn (.st 1 (.t 86) (qk 2))])
 (.exit 0)))))
 (.seq (.reg [qo 87 (.ldn 11 (.t 9)),
 qn (.st 11 (.t 6) (.t 87)),
 qo 7 (.mv qt)])
 .ret)))))))))),
[(.cn 6 11),(.t 7)])
theorem irOk201 : convFn Tryz.prog Tryz.f201 = some ir201 := by kernel_rfl
def ir202 : Nat × C × List RV := (10,
(.seq (.reg [qo 2 (.box 87 (.t 0)),
 qo 3 (.box 87 (.t 1)),
 qo 4 (.mv qf)])
 (.seq (.regD [qo 5 (.ldn 11 (.t 2)),
 qd 6 (.call (.f 250) [(.t 5)]) [0],
 qo 7 (.ldn 11 (.t 3)),
 qd 8 (.call (.f 250) [(.t 7)]) [2,1,0],
 qd 9 (.eqs false [0,0,0,0,0,0,0,0,0,0,0] (.t 6) (.t 8)) [1,0,3,2],
 qd 4 (.mv (.t 9)) [4,1,0,3,2]])
 .ret)),
[(.t 4)])
theorem irOk202 : convFn Tryz.prog Tryz.f202 = some ir202 := by kernel_rfl
def ir249 : Nat × C × List RV := (11,
(.seq (.reg [qo 2 (.box 119 (.t 0)),
 qo 4 (.mv (qk 0))])
 (.seq (.seq (.reg [qo 5 (.fad 8 (.t 2)),
 qo 6 (.ld1 (.t 5)),
 qo 7 (.cvt .u64 (.t 6)),
 qo 8 (.call (.f 292) [(.t 7)]),
 qm 9 1,
 qo 10 (.bin .eql (.t 8) (.t 9))])
 (.cond (.t 10) (.seq (.reg [qo 4 (.mv (qk 1))])
 .ret)
 .skip))
 (.seq (.reg [qo 4 (.mv (qk 0))])
 .ret))),
[(.t 4)])
theorem irOk249 : convFn Tryz.prog Tryz.f249 = some ir249 := by kernel_rfl
def ir250 : Nat × C × List RV := (7,
(.seq (.reg [qo 1 (.box 87 (.t 0)),
 qo 2 (.new 87 [q0,q0,q0,q0,q0,q0,q0,q0,q0,q0,q0])])
 (.seq (.reg [qo 3 (.fad 2 (.t 1)),
 qn (.st 1 (.t 3) (qk 0)),
 qo 4 (.fad 3 (.t 1)),
 qn (.st 1 (.t 4) (qk 0)),
 qo 5 (.fad 8 (.t 1)),
 qn (.st 1 (.t 5) (qk 0))])
 (.seq (.reg [qo 6 (.ldn 11 (.t 1)),
 qn (.st 11 (.t 2) (.t 6))])
 .ret))),
[(.cn 2 11)])
theorem irOk250 : convFn Tryz.prog Tryz.f250 = some ir250 := by kernel_rfl


def bareM (m : MsgD) : MsgD := { m with term := 0, gen := 0, til := 0 }
theorem bare_tri (m : MsgD) : Tri Tryz.prog G 250 [msgV m] [] (msgV (bareM m)) [] := by
  refine tri_W0 Tryz.func250 (by decide) irOk250 (Nat.le_of_ble_eq_true rfl) rfl ?_
  simp only [ir250,go_sem,simprocAttr]
  simp only [bareM,go_sem,simprocAttr]
def alikeB (a b : MsgD) : Bool := ((bareM a).node == (bareM b).node && ((bareM a).kind == (bareM b).kind && ((bareM a).term == (bareM b).term && ((bareM a).gen == (bareM b).gen && ((bareM a).job == (bareM b).job && ((bareM a).inc == (bareM b).inc && ((bareM a).version == (bareM b).version && ((bareM a).epoch == (bareM b).epoch && ((bareM a).til == (bareM b).til && ((bareM a).mode == (bareM b).mode && (bareM a).work == (bareM b).work))))))))))
theorem alike_tri (a b : MsgD) : Tri Tryz.prog G 202 [msgV a, msgV b] [] (.bool (alikeB a b)) [] := by
  have ha := bare_tri (G := G) a
  have hb := bare_tri (G := G) b
  unfold alikeB
  refine tri_W0 Tryz.func202 (by decide) irOk202 (Nat.le_of_ble_eq_true rfl) rfl ?_
  simp only [ir202,go_sem,simprocAttr]
  refine WD_calld (ha) rfl rfl rfl rfl ?_; simp only [go_sem,simprocAttr]
  refine WD_calld (hb) rfl rfl rfl rfl ?_; simp only [go_sem,simprocAttr]
def tzD (m : Int) : Int := if hasB m 0 = true then 0 else if hasB m 1 = true then 1 else if hasB m 2 = true then 2 else if hasB m 3 = true then 3 else if hasB m 4 = true then 4 else if hasB m 5 = true then 5 else 64
noncomputable def tzIs (m : Nat) : Bool := match runF tabF (tabT (irsOf Tryz.prog) []) 200 20 false 292 [.d (.val (.int .u64 m))] [] with
  | some (r, o) => sameLs [r] [.int (tzD m)] && sameObs o []
  | none => false
theorem tz_all : (List.range 64).all tzIs = true := by kernel_rfl
theorem tz_tri (m : Nat) (hm : m < 64) : Tri Tryz.prog tabF 292 [.d (.val (.int .u64 m))] [] (.int (tzD m)) [] := by
  have h := List.all_eq_true.1 tz_all m (List.mem_range.2 hm)
  unfold tzIs at h
  split at h
  · rename_i r o hr
    rw [Bool.and_eq_true] at h
    obtain ⟨h1, h2⟩ := h
    have h3 := sameLs_eq _ _ h1
    have h4 := sameObs_eq h2
    cases h3
    cases h4
    exact run_tri (l := []) (fun _ h => by cases h) hr
  · cases h
theorem writes_tri (j : JobD) (i : Nat) (hj : 0 ≤ j.nodes ∧ j.nodes < 64) : Tri Tryz.prog tabF 249 [jobV j, .int i] [] (.int (if tzD j.nodes = i then 1 else 0)) [] := by
  obtain ⟨m, hm⟩ : ∃ m : Nat, j.nodes = m := ⟨j.nodes.toNat, by omega⟩
  have hT := tz_tri m (by omega)
  have hw : IntKind.u64.wrap (m : Int) = m := by
    show (m : Int) % 18446744073709551616 = m
    omega
  rw [hm]
  refine tri_W0 Tryz.func249 (by decide) irOk249 (Nat.le_of_ble_eq_true rfl) rfl ?_
  simp only [ir249,go_sem,simprocAttr]
  simp only [hm,hw,go_sem,simprocAttr]
  refine W_calld (hT) rfl rfl rfl rfl ?_; simp only [go_sem,simprocAttr]
  by_cases h : tzD (m : Int) = (i : Int)
  · simp only [h,beq_self_eq_true,if_true,go_sem,simprocAttr]
  · simp only [beq_eq_false_iff_ne.2 h,h,if_false,go_sem,simprocAttr]
def orderM (s : StateD) (had : Int → Int) (i : Nat) : Option MsgD :=
  if (noA s i).up = false then none else
  if (noA s i).job = 0 then some ⟨i, if (noA s i).moving = true then 5 else 1, 0, 0, 0, 0, if (noA s i).moving = true then meant s else 0, 0, 0, 0, 0⟩ else
  if (joA s ((noA s i).job - 1).toNat).phase = 2 then some ⟨i, 3, 0, 0, (noA s i).job, (joA s ((noA s i).job - 1).toNat).inc, if (noA s i).moving = true then meant s else 0, (joA s ((noA s i).job - 1).toNat).epoch, 0, 0, had (noA s i).job⟩ else
  if (joA s ((noA s i).job - 1).toNat).phase = 3 then some ⟨i, 4, 0, 0, (noA s i).job, (joA s ((noA s i).job - 1).toNat).inc, if (noA s i).moving = true then meant s else 0, 0, 0, if tzD (joA s ((noA s i).job - 1).toNat).nodes = i then 1 else 0, 0⟩ else
  if (joA s ((noA s i).job - 1).toNat).phase = 1 then some ⟨i, 2, 0, 0, (noA s i).job, (joA s ((noA s i).job - 1).toNat).inc, (noA s i).version, 0, 0, 0, 0⟩ else
  some ⟨i, 2, 0, 0, (noA s i).job, (joA s ((noA s i).job - 1).toNat).inc, if (noA s i).moving = true then meant s else 0, 0, 0, 0, 0⟩
def optMsg (q : Option MsgD) : LV := .tup [msgV (q.getD zeroMsg), .bool q.isSome]
set_option maxHeartbeats 2000000 in
theorem order_tri (c : ConfD) (s : StateD) (h : RightP c s) (had : Int → Int) (i : Nat) (hi : i < s.nodes.length) (room term : Int) (sh : List ShD) (wr : Int) (hh : ∀ j : Int, 1 ≤ j ∧ j ≤ s.jobs.length → Tri Tryz.prog tabF 248 [stateV s, .int j, .ptr 0 0] (stO room term sh wr) (.int (had j)) (stO room term sh wr)) :
    Tri Tryz.prog tabF 201 [stateV s, .int i, .ptr 0 0] (stO room term sh wr) (optMsg (orderM s had i)) (stO room term sh wr) := by
  have hg := get_mapD (f := nodeR) zeroNode hi
  have hM := meant_tri (G := tabF) s
  have hjob := h.job i hi
  have hmv := h.moving i hi
  have hlj := h.jobs
  unfold orderM optMsg
  have hN : noA s i = s.nodes.getD i zeroNode := rfl
  rw [hN] at hjob hmv ⊢
  generalize s.nodes.getD i zeroNode = n at *
  obtain ⟨up, co, mo, ve, jo⟩ := n
  dsimp only at hjob hmv ⊢
  simp only [nodeR] at hg
  have c1 : i < s.nodes.length := hi
  cases up with
  | false =>
    simp only [if_true]
    refine tri_WP Tryz.func201 (by decide) irOk201 (Nat.le_of_ble_eq_true rfl) rfl (stO_idl _ _ _ _ _) rfl ?_
    simp only [stO,List.cons_append,List.nil_append,ir201,go_sem,simprocAttr]
    simp only [decide_eq_false (show ¬ ((i : Nat) : Int) < 0 by omega),decide_eq_false (show ¬ ((i : Nat) : Int) ≥ (s.nodes.length : Nat) by omega),hg,hi,Option.getD_none,Option.isSome_none,Option.getD_some,Option.isSome_some,go_sem,simprocAttr]
  | true =>
  simp only [Bool.true_eq_false,if_false]
  by_cases hj0 : jo = 0
  · subst hj0
    simp only [if_true]
    cases mo with
    | true =>
      refine tri_WP Tryz.func201 (by decide) irOk201 (Nat.le_of_ble_eq_true rfl) rfl (stO_idl _ _ _ _ _) rfl ?_
      simp only [stO,List.cons_append,List.nil_append,ir201,go_sem,simprocAttr]
      simp only [decide_eq_false (show ¬ ((i : Nat) : Int) < 0 by omega),decide_eq_false (show ¬ ((i : Nat) : Int) ≥ (s.nodes.length : Nat) by omega),hg,hi,Option.getD_none,Option.isSome_none,Option.getD_some,Option.isSome_some,go_sem,simprocAttr]
      refine W_calld (hM) rfl rfl rfl rfl ?_; simp only [go_sem,simprocAttr]
    | false =>
      refine tri_WP Tryz.func201 (by decide) irOk201 (Nat.le_of_ble_eq_true rfl) rfl (stO_idl _ _ _ _ _) rfl ?_
      simp only [stO,List.cons_append,List.nil_append,ir201,go_sem,simprocAttr]
      simp only [decide_eq_false (show ¬ ((i : Nat) : Int) < 0 by omega),decide_eq_false (show ¬ ((i : Nat) : Int) ≥ (s.nodes.length : Nat) by omega),hg,hi,Option.getD_none,Option.isSome_none,Option.getD_some,Option.isSome_some,go_sem,simprocAttr]
  have hmo : mo = false := by
    cases mo with
    | false => rfl
    | true => exact absurd (hmv rfl).2.2 hj0
  subst hmo
  obtain ⟨k, hk⟩ : ∃ k : Nat, jo = k + 1 := ⟨(jo - 1).toNat, by omega⟩
  have hkl : k < s.jobs.length := by omega
  have hgj := get_mapD (f := jobR) zeroJob hkl
  have hJ : joA s (jo - 1).toNat = s.jobs.getD k zeroJob := by unfold joA; rw [show (jo - 1).toNat = k by omega]
  have hbits := bits_of h hkl
  have hhad := hh jo (by omega)
  rw [hJ]
  unfold joA at hbits
  generalize s.jobs.getD k zeroJob = j at *
  simp only [jobR] at hgj
  have hw : IntKind.i64.wrap (jo - 1) = k := by rw [wrap_in (by omega) (by omega)]; omega
  have hwr := writes_tri j i hbits
  simp only [hj0,if_false]
  have hjb : (jo == 0) = false := beq_eq_false_iff_ne.2 hj0
  simp only [stO,List.cons_append,List.nil_append] at hhad
  by_cases p2 : j.phase = 2
  · have b2 : (j.phase == 2) = true := beq_iff_eq.2 p2
    rw [if_pos p2]
    refine tri_WP Tryz.func201 (by decide) irOk201 (Nat.le_of_ble_eq_true rfl) rfl (stO_idl _ _ _ _ _) rfl ?_
    simp only [stO,List.cons_append,List.nil_append,ir201,go_sem,simprocAttr]
    simp only [decide_eq_false (show ¬ ((i : Nat) : Int) < 0 by omega),decide_eq_false (show ¬ ((i : Nat) : Int) ≥ (s.nodes.length : Nat) by omega),hg,hi,Option.getD_none,Option.isSome_none,Option.getD_some,Option.isSome_some,go_sem,simprocAttr]
    simp only [hjb,hw,hkl,hgj,Option.getD_none,Option.isSome_none,Option.getD_some,Option.isSome_some,go_sem,simprocAttr]
    refine W_opsD_end rfl ?_
    simp only [b2,Option.getD_none,Option.isSome_none,Option.getD_some,Option.isSome_some,go_sem,simprocAttr]
    refine WD_calll [0] (hhad) rfl (by simp only [argRs,argR,List.map_cons,List.map_nil,go_sem,simprocAttr,rnL_cat,shC_rn,idlL_cat,shC_idl]) (by decide) (by simp only [go_sem,simprocAttr,rnL_cat,shC_rn,idlL_cat,shC_idl]) (by simp only [go_sem,simprocAttr,List.all_cons,List.all_nil,rnL_cat,shC_rn,idlL_cat,shC_idl]) ?_; simp only [go_sem,simprocAttr,rnL_cat,shC_rn,idlL_cat,shC_idl]
    refine W_opsD_end rfl ?_
    simp only [Option.getD_none,Option.isSome_none,Option.getD_some,Option.isSome_some,go_sem,simprocAttr]
  have b2 : (j.phase == 2) = false := beq_eq_false_iff_ne.2 p2
  rw [if_neg p2]
  by_cases p3 : j.phase = 3
  · have b3 : (j.phase == 3) = true := beq_iff_eq.2 p3
    rw [if_pos p3]
    refine tri_WP Tryz.func201 (by decide) irOk201 (Nat.le_of_ble_eq_true rfl) rfl (stO_idl _ _ _ _ _) rfl ?_
    simp only [stO,List.cons_append,List.nil_append,ir201,go_sem,simprocAttr]
    simp only [decide_eq_false (show ¬ ((i : Nat) : Int) < 0 by omega),decide_eq_false (show ¬ ((i : Nat) : Int) ≥ (s.nodes.length : Nat) by omega),hg,hi,Option.getD_none,Option.isSome_none,Option.getD_some,Option.isSome_some,go_sem,simprocAttr]
    simp only [hjb,hw,hkl,hgj,Option.getD_none,Option.isSome_none,Option.getD_some,Option.isSome_some,go_sem,simprocAttr]
    refine W_opsD_end rfl ?_
    simp only [b2,b3,Option.getD_none,Option.isSome_none,Option.getD_some,Option.isSome_some,go_sem,simprocAttr]
    refine W_calld (hwr) rfl rfl rfl rfl ?_; simp only [go_sem,simprocAttr]
  have b3 : (j.phase == 3) = false := beq_eq_false_iff_ne.2 p3
  rw [if_neg p3]
  by_cases p1 : j.phase = 1
  · have b1 : (j.phase == 1) = true := beq_iff_eq.2 p1
    rw [if_pos p1]
    refine tri_WP Tryz.func201 (by decide) irOk201 (Nat.le_of_ble_eq_true rfl) rfl (stO_idl _ _ _ _ _) rfl ?_
    simp only [stO,List.cons_append,List.nil_append,ir201,go_sem,simprocAttr]
    simp only [decide_eq_false (show ¬ ((i : Nat) : Int) < 0 by omega),decide_eq_false (show ¬ ((i : Nat) : Int) ≥ (s.nodes.length : Nat) by omega),hg,hi,Option.getD_none,Option.isSome_none,Option.getD_some,Option.isSome_some,go_sem,simprocAttr]
    simp only [hjb,hw,hkl,hgj,Option.getD_none,Option.isSome_none,Option.getD_some,Option.isSome_some,go_sem,simprocAttr]
    refine W_opsD_end rfl ?_
    simp only [b1,b2,b3,Option.getD_none,Option.isSome_none,Option.getD_some,Option.isSome_some,go_sem,simprocAttr]
  have b1 : (j.phase == 1) = false := beq_eq_false_iff_ne.2 p1
  rw [if_neg p1]
  refine tri_WP Tryz.func201 (by decide) irOk201 (Nat.le_of_ble_eq_true rfl) rfl (stO_idl _ _ _ _ _) rfl ?_
  simp only [stO,List.cons_append,List.nil_append,ir201,go_sem,simprocAttr]
  simp only [decide_eq_false (show ¬ ((i : Nat) : Int) < 0 by omega),decide_eq_false (show ¬ ((i : Nat) : Int) ≥ (s.nodes.length : Nat) by omega),hg,hi,Option.getD_none,Option.isSome_none,Option.getD_some,Option.isSome_some,go_sem,simprocAttr]
  simp only [hjb,hw,hkl,hgj,Option.getD_none,Option.isSome_none,Option.getD_some,Option.isSome_some,go_sem,simprocAttr]
  refine W_opsD_end rfl ?_
  simp only [b1,b2,b3,Option.getD_none,Option.isSome_none,Option.getD_some,Option.isSome_some,go_sem,simprocAttr]
end Dv

namespace Dv
open Go Go.Proofs
variable {G : Nat → Option (List DV)}

end Dv

namespace Dv
open Go Go.Proofs
variable {G : Nat → Option (List DV)}

def ir117 : Nat × C × List RV := (84,
(.seq (.reg [qo 4 (.new 37 [q0,q0,q0,q0,q0,q0,q0]),
 qo 5 (.mv qf)])
 (.seq (.reg [qo 6 (.mv (.c (.val (.slice none 0 0))))])
 (.seq (.reg [qo 7 (.mv (.c (.val (.slice none 0 0))))])
 (.seq (.reg [qo 8 (.mv (.c (.val (.slice none 0 0))))])
 (.seq (.seq (.reg [qm 14 0,
 qo 15 (.nck (.t 14)),
 qo 16 (.fad 18 (.t 15)),
 qo 17 (.ld1 (.t 16)),
 qo 18 (.len (.t 17)),
 qo 19 (.mv (qk 0))])
 (.block 0 (.loop (.seq (.reg [qo 20 (.bin .lss (.t 19) (.t 18))])
 (.seq (.cond (.t 20) .skip
 (.exit 0))
 (.seq (.block 1 (.seq (.reg [qm 21 19,
 qo 22 (.ixa 26 (.t 17) (.t 19)),
 qo 23 (.ldn 26 (.t 22)),
 qo 10 (.new 197 [q0,(.val (.bool false)),q0,q0,q0,q0,q0,q0,q0,q0,q0,q0,q0,q0,q0,q0,q0,q0,q0,q0,q0,q0,q0,q0,q0,q0]),
 qm 9 21,
 qn (.st 26 (.t 10) (.t 23))])
 (.regD [qm 24 6,
 qm 25 0,
 qd 26 (.nck (.t 25)) [1],
 qd 27 (.fad 12 (.t 26)) [2,1],
 qd 28 (.fad 0 (.t 27)) [3,2,1],
 qd 29 (.ld1 (.t 28)) [4,3,2,1],
 qm 30 9,
 qd 31 (.ixa 5 (.t 29) (.t 30)) [5,4,3,2,1,6],
 qd 32 (.fad 0 (.t 31)) [7,5,4,3,2,1,6],
 qd 33 (.ld1 (.t 32)) [8,7,5,4,3,2,1,6],
 qd 34 (.bsl 4 1 [(.t 33)]) [9,8,7,5,4,3,2,1,6],
 qd 35 (.app 4 1 1 (.t 24) (.t 34)) [0,10,9,8,7,5,4,3,2,1,6],
 qm 36 7,
 qo 37 (.fad 14 (.t 10)),
 qd 38 (.ld1 (.t 37)) [13],
 qd 39 (.bsl 3 1 [(.t 38)]) [14,13],
 qd 40 (.app 3 1 8 (.t 36) (.t 39)) [12,15,14,13,11,0,10,9,8,7,5,4,3,2,1,6],
 qm 41 8,
 qo 42 (.fad 15 (.t 10)),
 qd 43 (.ldn 11 (.t 42)) [18],
 qd 44 (.bsl 87 11 [(.t 43)]) [19,18],
 qd 45 (.app 87 11 88 (.t 41) (.t 44)) [17,20,19,18,16,12,15,14,13,11,0,10,9,8,7,5,4,3,2,1,6],
 qd 6 (.mv (.t 35)) [11,0,10,9,8,7,5,4,3,2,1,6,21,17,20,19,18,16,12,15,14,13],
 qd 7 (.mv (.t 40)) [16,12,15,14,13,11,0,10,9,8,7,5,4,3,2,1,6,22,21,17,20,19,18],
 qd 8 (.mv (.t 45)) [21,17,20,19,18,16,12,15,14,13,11,0,10,9,8,7,5,4,3,2,1,6,23,22]])))
 (.reg [qo 46 (.bin .add (.t 19) (qk 1)),
 qm 19 46])))))))
 (.seq (.seq (.reg [qm 47 6,
 qm 48 7,
 qm 49 0,
 qo 50 (.nck (.t 49)),
 qo 51 (.fad 0 (.t 50)),
 qo 52 (.fad 4 (.t 51)),
 qo 53 (.ld1 (.t 52)),
 qm 54 1,
 qo 55 (.call (.f 198) [(.t 47),(.t 48),(.t 53),(.t 54)]),
 qm 11 55])
 (.seq (.reg [qm 56 11,
 qo 57 (.bin .geq (.t 56) (qk 0))])
 (.cond (.t 57) (.seq (.reg [qm 58 11,
 qo 59 (.build [q0,q0,q0,q0,q0,q0,q0] [(0,1,(qk 7)),(1,1,(.t 58))]),
 qn (.st 7 (.t 4) (.t 59)),
 qo 5 (.mv qt)])
 .ret)
 .skip)))
 (.seq (.seq (.reg [qm 61 0,
 qo 62 (.nck (.t 61)),
 qo 63 (.fad 12 (.t 62)),
 qo 64 (.ldn 6 (.t 63)),
 qm 65 8,
 qm 66 1,
 qo 67 (.call (.f 199) [(.t 64),(.t 65),(.t 66)]),
 qm 60 67,
 qo 68 (.ext (.t 60) 0),
 qo 69 (.ext (.t 60) 1),
 qo 12 (.new 37 [q0,q0,q0,q0,q0,q0,q0]),
 qn (.st 7 (.t 12) (.t 68)),
 qm 13 69])
 (.seq (.reg [qm 70 13])
 (.cond (.t 70) (.seq (.reg [qo 71 (.ldn 7 (.t 12)),
 qn (.st 7 (.t 4) (.t 71)),
 qo 5 (.mv qt)])
 .ret)
 .skip)))
 (.seq (.regD [qm 72 0,
 qd 73 (.nck (.t 72)) [0],
 qd 74 (.fad 0 (.t 73)) [1,0],
 qd 75 (.ldn 9 (.t 74)) [2,1,0],
 qm 76 0,
 qd 77 (.nck (.t 76)) [4],
 qd 78 (.fad 12 (.t 77)) [5,4],
 qd 79 (.ldn 6 (.t 78)) [6,5,4],
 qm 80 1,
 qd 81 (.call (.f 200) [(.t 75),(.t 79),(.t 80)]) [3,2,1,0,7,6,5,4,8],
 qd 82 (.ext (.t 81) 0) [9,3,2,1,0,7,6,5,4,8],
 qd 83 (.ext (.t 81) 1) [9,3,2,1,0,7,6,5,4,8],
 ql (.st 7 (.t 4) (.t 82)) [10,9,3,2,1,0,7,6,5,4,8,11],
 qd 5 (.mv (.t 83)) [11,9,3,2,1,0,7,6,5,4,8,12,10]])
 .ret)))))))),
[(.cn 4 7),(.t 5)])
theorem irOk117 : convFn Tryz.prog Tryz.f117 = some ir117 := by kernel_rfl


def CtlD.ups (x : CtlD) (k : Nat) : List Bool := (List.range k).map fun i => (noA x.s i).up
def CtlD.hrs (x : CtlD) (k : Nat) : List Int := (x.lines.take k).map fun l => l.heard
def CtlD.reps (x : CtlD) (k : Nat) : List MsgD := (x.lines.take k).map fun l => l.report
def CtlD.silI (x : CtlD) (now : Int) : Int := silentL x.c.lease now (x.ups x.lines.length) (x.hrs x.lines.length) 0
def CtlD.nextO (x : CtlD) (now : Int) (q p : Option OpD) : Option OpD := if 0 ≤ x.silI now then some ⟨7, x.silI now, 0, 0, 0, 0, 0⟩ else match q with
  | some o => some o
  | none => p
def bools (l : List Bool) : List (List DV) := l.map fun b => [bl b]
def ints1 (l : List Int) : List (List DV) := l.map fun h => [i64 h]
def nxS (x : CtlD) (now : Int) (k : Nat) : St := ⟨[(0, .ptr 0 0), (1, .int now), (4, .ptr 8 0), (5, .bool false), (6, .sl 9 k 1 0 k), (7, .sl 10 k 1 0 k), (8, .sl 11 k 11 0 k), (17, .sl 7 x.lines.length 26 0 x.lines.length), (18, .int x.lines.length), (19, .int k)], (ctlO x).map some ++ [some (.box 37 [.int 0, .int 0, .int 0, .int 0, .int 0, .int 0, .int 0]), some (.dat 4 1 (bools (x.ups k))), some (.dat 3 1 (ints1 (x.hrs k))), some (.dat 87 11 ((x.reps k).map msgR))]⟩
theorem ups_succ (x : CtlD) (k : Nat) : x.ups (k + 1) = x.ups k ++ [(noA x.s k).up] := by unfold CtlD.ups; rw [List.range_succ, List.map_append]; rfl
theorem take_snoc_getD {α : Type} {l : List α} {i : Nat} (z : α) (h : i < l.length) : l.take (i + 1) = l.take i ++ [l.getD i z] := by
  rw [List.take_add_one]; simp [List.getD,h]
theorem hrs_succ (x : CtlD) {k : Nat} (h : k < x.lines.length) : x.hrs (k + 1) = x.hrs k ++ [(x.lines.getD k line0).heard] := by unfold CtlD.hrs; rw [take_snoc_getD line0 h, List.map_append]; rfl
theorem reps_succ (x : CtlD) {k : Nat} (h : k < x.lines.length) : x.reps (k + 1) = x.reps k ++ [(x.lines.getD k line0).report] := by unfold CtlD.reps; rw [take_snoc_getD line0 h, List.map_append]; rfl
theorem ups_len (x : CtlD) (k : Nat) : (x.ups k).length = k := by simp [CtlD.ups]
theorem hrs_len (x : CtlD) {k : Nat} (h : k ≤ x.lines.length) : (x.hrs k).length = k := by simp [CtlD.hrs]; omega
theorem reps_len (x : CtlD) {k : Nat} (h : k ≤ x.lines.length) : (x.reps k).length = k := by simp [CtlD.reps]; omega
set_option maxHeartbeats 2000000 in
theorem next_ctl_tri (x : CtlD) (h : XOK x) (now : Int) (hnow : 0 ≤ now ∧ now ≤ 1000000) (hT : ∀ l ∈ x.lines, 0 ≤ l.heard ∧ l.heard ≤ 1000000) (q p : Option OpD) (hfn : Tri Tryz.prog G 199 [stateV x.s, msgsV (x.reps x.lines.length), .int now] [] (optM q) []) (hp : Tri Tryz.prog G 200 [confV x.c, stateV x.s, .int now] [] (optM p) []) :
    Tri Tryz.prog G 117 [.ptr 0 0, .int now] (ctlO x) (optM (x.nextO now q p)) (ctlO x) := by
  have hll := h.lines
  have hl6 := h.right.len
  refine tri_WP Tryz.func117 (by decide) irOk117 (Nat.le_of_ble_eq_true rfl) rfl (ctlO_idl _ (Nat.le_refl 8) _) rfl ?_
  simp only [ctlO,ctlB,linesO,List.cons_append,List.nil_append,ir117,go_sem,simprocAttr]
  refine W_loopI [0, 1, 4, 5, 6, 7, 8, 17, 18, 19] [.t 6 4 1, .t 7 3 1, .t 8 87 11] (fun k : Nat => k ≤ x.lines.length) (fun k => x.lines.length - k) (nxS x now) 0 ?_ (Nat.zero_le _) (fun k hk => ?_)
  · simp only [nxS,ctlO,ctlB,linesO,CtlD.ups,CtlD.hrs,CtlD.reps,bools,ints1,List.range_zero,List.take_zero,List.map_nil,List.map_cons,List.cons_append,List.nil_append,Int.natCast_zero,go_sem,simprocAttr]
  simp only [nxS,ctlO,ctlB,linesO,List.map_cons,List.map_nil,List.cons_append,List.nil_append,go_sem,simprocAttr]
  by_cases hlt : k < x.lines.length
  · have hg := get_mapD (f := lnR) line0 hlt
    have hgn := get_mapD (f := nodeR) zeroNode (show k < x.s.nodes.length by omega)
    simp only [decide_eq_true (show ((k : Nat) : Int) < ((x.lines.length : Nat) : Int) by omega),go_sem,simprocAttr]
    have hu := ups_succ x k
    have hh := hrs_succ x hlt
    have hr := reps_succ x hlt
    have lu := ups_len x k
    have lh := hrs_len x hk
    have lr := reps_len x hk
    have hN : noA x.s k = x.s.nodes.getD k zeroNode := rfl
    rw [hN] at hu
    have hkn : k < x.s.nodes.length := by omega
    generalize x.s.nodes.getD k zeroNode = n at *
    generalize x.lines.getD k line0 = l at *
    obtain ⟨up, co, mo, ve, jo⟩ := n
    obtain ⟨lg, lhs, ⟨q0, q1, q2, q3, q4, q5, q6, q7, q8, q9, q10⟩, ls, le, ⟨r0, r1, r2, r3, r4, r5, r6, r7, r8, r9, r10⟩⟩ := l
    simp only [lnR,msgR,List.cons_append,List.nil_append] at hg
    simp only [nodeR] at hgn
    dsimp only at hu hh hr
    generalize hub : x.ups k = ub at *
    generalize hhb : x.hrs k = hb at *
    generalize hrb : x.reps k = rb at *
    have c1 : (k + 1) * 88 ≤ 70368744177664 := by omega
    have c2 : (k + 1) * 8 ≤ 70368744177664 := by omega
    have c3 : (k + 1) * 1 ≤ 70368744177664 := by omega
    simp only [hlt,hg,bools,ints1,List.length_append,List.length_map,lu,lh,lr,List.length_cons,List.length_nil,Nat.zero_add,c1,c2,c3,hkn,hgn,go_sem,simprocAttr]
    refine W_opsD_end rfl ?_
    simp only [go_sem,simprocAttr]
    refine W_lpI (k + 1) ?_ ?_ (show k + 1 ≤ x.lines.length by omega) (show x.lines.length - (k + 1) < x.lines.length - k by omega)
    · simp only [idlL_cat,shC_idl,go_sem,simprocAttr]
    · simp only [wrap_succ (show k < 9223372036854775807 by omega),nxS,ctlO,ctlB,linesO,hu,hh,hr,bools,ints1,List.map_append,List.map_cons,List.map_nil,msgR,List.cons_append,List.nil_append,go_sem,simprocAttr]
  obtain rfl : k = x.lines.length := by omega
  simp only [decide_eq_false (show ¬ ((x.lines.length : Nat) : Int) < ((x.lines.length : Nat) : Int) by omega),go_sem,simprocAttr]
  have hup : (x.ups x.lines.length).length = x.lines.length := ups_len x _
  have hhp := hrs_len x (Nat.le_refl x.lines.length)
  have hrp := reps_len x (Nat.le_refl x.lines.length)
  have hlease : 0 ≤ x.c.lease ∧ x.c.lease ≤ 1000000 := by
    have hm := h.right.conf
    unfold mayB at hm
    simp only [Bool.and_eq_true] at hm
    have := within_t hm.1.1.1.1.2
    omega
  have hsil := silent_tri (G := G) (x.ups x.lines.length) (x.hrs x.lines.length) x.c.lease now (by omega) (by omega) hlease (fun v hv => by
    unfold CtlD.hrs at hv
    rw [List.mem_map] at hv
    obtain ⟨l, hl, rfl⟩ := hv
    exact hT l (List.mem_of_mem_take hl))
  unfold CtlD.nextO
  have hsi : x.silI now = silentL x.c.lease now (x.ups x.lines.length) (x.hrs x.lines.length) 0 := rfl
  rw [← hsi] at hsil
  generalize x.silI now = si at *
  have htu : List.take x.lines.length (List.map (fun b => [DV.val (Value.bool b)]) (x.ups x.lines.length)) = List.map (fun b => [DV.val (Value.bool b)]) (x.ups x.lines.length) := List.take_of_length_le (by rw [List.length_map]; omega)
  have hth : List.take x.lines.length (List.map (fun h => [DV.val (Value.int IntKind.i64 h)]) (x.hrs x.lines.length)) = List.map (fun h => [DV.val (Value.int IntKind.i64 h)]) (x.hrs x.lines.length) := List.take_of_length_le (by rw [List.length_map]; omega)
  have htr : List.take x.lines.length (List.map msgR (x.reps x.lines.length)) = List.map msgR (x.reps x.lines.length) := List.take_of_length_le (by rw [List.length_map]; omega)
  refine W_callz [9, 10] (hsil) rfl (by simp [argRs,argR,rowsAt,objL,bools,ints1,htu,hth,hup,hhp,Nat.le_refl,and_self,go_sem,simprocAttr]) (by simp [objL]) rfl rfl ?_; simp only [go_sem,simprocAttr]
  by_cases hs0 : 0 ≤ si
  · simp only [decide_eq_true (show si ≥ 0 from hs0),hs0,if_true,optM,Option.getD_some,Option.isSome_some,go_sem,simprocAttr]
  simp only [decide_eq_false (show ¬ si ≥ 0 from hs0),hs0,if_false,go_sem,simprocAttr]
  simp only [msgsV] at hfn
  refine W_callz [11] (hfn) rfl (by simp [argRs,argR,rowsAt,objL,msgsV,htr,hrp,Nat.le_refl,and_self,go_sem,simprocAttr]) (by simp [objL]) rfl rfl ?_; simp only [go_sem,simprocAttr]
  cases q with
  | some o => simp only [optM,Option.getD_some,Option.isSome_some,go_sem,simprocAttr]
  | none =>
    simp only [optM,Option.getD_none,Option.isSome_none,go_sem,simprocAttr]
    refine WD_calld (hp) rfl rfl rfl rfl ?_; simp only [go_sem,simprocAttr]
    cases p with
    | none =>
      simp only [optM,Option.getD_none,Option.isSome_none,go_sem,simprocAttr]
      refine W_opsD_end rfl ?_
      simp only [go_sem,simprocAttr]
    | some o =>
      simp only [optM,Option.getD_some,Option.isSome_some,go_sem,simprocAttr]
      refine W_opsD_end rfl ?_
      simp only [go_sem,simprocAttr]
end Dv

namespace Dv
open Go Go.Proofs

def ir118 : Nat × C × List RV := (112,
(.seq (.reg [qo 6 (.new 87 [q0,q0,q0,q0,q0,q0,q0,q0,q0,q0,q0]),
 qo 7 (.mv qf)])
 (.seq (.reg [qm 11 0,
 qo 12 (.nck (.t 11)),
 qo 13 (.fad 18 (.t 12)),
 qo 14 (.ld1 (.t 13)),
 qm 15 1,
 qo 16 (.ixa 26 (.t 14) (.t 15)),
 qm 8 16])
 (.seq (.regD [qm 18 0,
 qd 19 (.nck (.t 18)) [0],
 qd 20 (.fad 12 (.t 19)) [1,0],
 qd 21 (.ldn 6 (.t 20)) [2,1,0],
 qm 22 1,
 qm 23 0,
 qd 24 (.nck (.t 23)) [5],
 qd 25 (.fad 11 (.t 24)) [6,5],
 qd 26 (.ld1 (.t 25)) [7,6,5],
 qd 27 (.call (.f 201) [(.t 21),(.t 22),(.t 26)]) [3,2,1,0,4,8,7,6,5],
 qd 17 (.mv (.t 27)) [9,3,2,1,0,4,8,7,6,5],
 qd 28 (.ext (.t 17) 0) [10,9,3,2,1,0,4,8,7,6,5],
 qd 29 (.ext (.t 17) 1) [10,9,3,2,1,0,4,8,7,6,5],
 qo 9 (.new 87 [q0,q0,q0,q0,q0,q0,q0,q0,q0,q0,q0]),
 ql (.st 11 (.t 9) (.t 28)) [13,11,10,9,3,2,1,0,4,8,7,6,5],
 qd 10 (.mv (.t 29)) [12,10,9,3,2,1,0,4,8,7,6,5,14,13,11]])
 (.seq (.block 0 (.seq (.reg [qm 31 10,
 qo 32 (.not (.t 31)),
 qm 30 32])
 (.cond (.t 30) (.seq (.reg [qm 33 8,
 qo 34 (.nck (.t 33)),
 qo 35 (.fad 1 (.t 34)),
 qn (.st 1 (.t 35) qf)])
 (.seq (.reg [qo 36 (.build [q0,q0,q0,q0,q0,q0,q0,q0,q0,q0,q0] []),
 qn (.st 11 (.t 6) (.t 36)),
 qo 7 (.mv qf)])
 .ret))
 (.seq (.regD [qm 38 8,
 qd 39 (.nck (.t 38)) [0],
 qd 40 (.fad 1 (.t 39)) [1,0],
 qd 41 (.ld1 (.t 40)) [2,1,0],
 qd 42 (.not (.t 41)) [3,2,1,0],
 qd 43 (.mv (.t 42)) [4,3,2,1,0],
 qe 44 (.ldn 11 (.t 9)) 43 false [5,4,3,2,1,0],
 qe 45 (.mv (.t 8)) 43 false [5,4,3,2,1,0],
 qe 46 (.nck (.t 45)) 43 false [7,5,4,3,2,1,0],
 qe 47 (.fad 2 (.t 46)) 43 false [8,7,5,4,3,2,1,0],
 qe 48 (.ldn 11 (.t 47)) 43 false [9,8,7,5,4,3,2,1,0],
 qe 49 (.call (.f 202) [(.t 44),(.t 48)]) 43 false [6,5,4,3,2,1,0,10,9,8,7],
 qe 50 (.not (.t 49)) 43 false [11,6,5,4,3,2,1,0,10,9,8,7],
 qd 51 (.pick (.t 43) qt (.t 50)) [5,4,3,2,1,0,12,11,6,10,9,8,7],
 qd 37 (.mv (.t 51)) [13,5,4,3,2,1,0,12,11,6,10,9,8,7]])
 (.cond (.t 37) (.seq (.regD [qm 52 8,
 qm 53 8,
 qm 54 8,
 qo 55 (.ldn 11 (.t 9)),
 qo 56 (.build [q0,q0,q0,q0,q0,q0,q0,q0,q0,q0,q0] []),
 qd 57 (.nck (.t 52)) [0],
 qd 58 (.fad 1 (.t 57)) [5,0],
 ql (.st 1 (.t 58) qt) [6,5,0],
 qd 59 (.nck (.t 53)) [1,0,3,5,6,7],
 qd 60 (.fad 2 (.t 59)) [8,1,0,3,5,6,7],
 ql (.st 11 (.t 60) (.t 55)) [9,8,1,0,3,5,6,7],
 qd 61 (.nck (.t 54)) [2,0,1,3,4,5,6,7,8,9,10],
 qd 62 (.fad 15 (.t 61)) [11,2,0,1,3,4,5,6,7,8,9,10],
 ql (.st 11 (.t 62) (.t 56)) [12,11,2,0,1,3,4,5,6,7,8,9,10]])
 (.reg [qm 63 8,
 qo 64 (.nck (.t 63)),
 qo 65 (.fad 0 (.t 64)),
 qo 66 (.ld1 (.t 65)),
 qo 67 (.bin .add (.t 66) (qk 1)),
 qo 68 (.nck (.t 63)),
 qo 69 (.fad 0 (.t 68)),
 qn (.st 1 (.t 69) (.t 67))]))
 (.seq (.regD [qm 71 2,
 qm 72 8,
 qd 73 (.nck (.t 72)) [1],
 qd 74 (.fad 13 (.t 73)) [2,1],
 qd 75 (.ld1 (.t 74)) [3,2,1],
 qm 76 0,
 qd 77 (.nck (.t 76)) [5],
 qd 78 (.fad 0 (.t 77)) [6,5],
 qd 79 (.fad 5 (.t 78)) [7,6,5],
 qd 80 (.ld1 (.t 79)) [8,7,6,5],
 qd 81 (.bin .add (.t 75) (.t 80)) [4,3,2,1,9,8,7,6,5],
 qd 82 (.bin .lss (.t 71) (.t 81)) [0,10,4,3,2,1,9,8,7,6,5],
 qd 70 (.mv (.t 82)) [11,0,10,4,3,2,1,9,8,7,6,5]])
 (.cond (.t 70) (.seq (.reg [qo 83 (.build [q0,q0,q0,q0,q0,q0,q0,q0,q0,q0,q0] []),
 qn (.st 11 (.t 6) (.t 83)),
 qo 7 (.mv qf)])
 .ret)
 .skip)))))))
 (.seq (.reg [qm 84 8,
 qm 85 2,
 qo 86 (.nck (.t 84)),
 qo 87 (.fad 13 (.t 86)),
 qn (.st 1 (.t 87) (.t 85))])
 (.seq (.regD [qm 88 0,
 qd 89 (.nck (.t 88)) [0],
 qd 90 (.fad 12 (.t 89)) [1,0],
 qd 91 (.fad 5 (.t 90)) [2,1,0],
 qd 92 (.ld1 (.t 91)) [3,2,1,0],
 qm 93 8,
 qd 94 (.nck (.t 93)) [5],
 qd 95 (.fad 0 (.t 94)) [6,5],
 qd 96 (.ld1 (.t 95)) [7,6,5],
 qm 97 8,
 qd 98 (.nck (.t 97)) [9],
 qd 99 (.fad 14 (.t 98)) [10,9],
 qd 100 (.ld1 (.t 99)) [11,10,9],
 qm 101 0,
 qd 102 (.nck (.t 101)) [13],
 qd 103 (.fad 0 (.t 102)) [14,13],
 qd 104 (.fad 4 (.t 103)) [15,14,13],
 qd 105 (.ld1 (.t 104)) [16,15,14,13],
 qd 106 (.bin .add (.t 100) (.t 105)) [12,11,10,9,17,16,15,14,13],
 qd 107 (.min (qk 1000000) (.t 106)) [18,12,11,10,9,17,16,15,14,13],
 qd 108 (.fad 2 (.t 9)) [0,1,2,3,4],
 ql (.st 1 (.t 108) (.t 92)) [20,0,1,2,3,4],
 qd 109 (.fad 3 (.t 9)) [0,1,2,3,4,5,6,7,8,20,21],
 ql (.st 1 (.t 109) (.t 96)) [22,0,1,2,3,4,5,6,7,8,20,21],
 qd 110 (.fad 8 (.t 9)) [0,1,2,3,4,5,6,7,8,9,10,11,12,13,14,15,16,17,18,19,20,21,22,23],
 ql (.st 1 (.t 110) (.t 107)) [24,0,1,2,3,4,5,6,7,8,9,10,11,12,13,14,15,16,17,18,19,20,21,22,23]])
 (.seq (.reg [qo 111 (.ldn 11 (.t 9)),
 qn (.st 11 (.t 6) (.t 111)),
 qo 7 (.mv qt)])
 .ret))))))),
[(.cn 6 11),(.t 7)])
theorem irOk118 : convFn Tryz.prog Tryz.f118 = some ir118 := by kernel_rfl


def tellL (x : CtlD) (q : Option MsgD) (now : Int) (l : LineD) : LineD × Option MsgD := match q with
  | none => ({ l with has := false }, none)
  | some m =>
    if l.has = false ∨ alikeB m l.order = false then ({ l with has := true, order := m, report := msg0, gen := IntKind.i64.wrap (l.gen + 1), sent := now }, some { m with term := x.s.term, gen := IntKind.i64.wrap (l.gen + 1), til := if IntKind.i64.wrap (l.heard + x.c.lease) < 1000000 then IntKind.i64.wrap (l.heard + x.c.lease) else 1000000 })
    else if now < IntKind.i64.wrap (l.sent + x.c.retry) then (l, none)
    else ({ l with sent := now }, some { m with term := x.s.term, gen := l.gen, til := if IntKind.i64.wrap (l.heard + x.c.lease) < 1000000 then IntKind.i64.wrap (l.heard + x.c.lease) else 1000000 })
theorem set_same {α : Type} {l : List α} {i : Nat} {v : α} (h : l[i]? = some v) : l.set i v = l := by
  obtain ⟨h1, h2⟩ := List.getElem?_eq_some_iff.1 h
  subst h2
  exact List.set_getElem_self h1
set_option maxHeartbeats 4000000 in
theorem tell_ctl_tri (x : CtlD) (now : Int) (i : Nat) (hi : i < x.lines.length) (q : Option MsgD) (hord : Tri Tryz.prog tabF 201 [stateV x.s, .int i, .ptr 0 0] (stO x.room x.term x.sh x.wr) (optMsg q) (stO x.room x.term x.sh x.wr)) :
    Tri Tryz.prog tabF 118 [.ptr 0 0, .int i, .int now] (ctlO x) (optMsg (tellL x q now (x.lines.getD i line0)).2) (ctlO { x with lines := x.lines.set i (tellL x q now (x.lines.getD i line0)).1 }) := by
  have hg := get_mapD (f := lnR) line0 hi
  have hgs : ∀ v, ((x.lines.map lnR).set i v)[i]? = some v := fun v => List.getElem?_set_self (by simpa using hi)
  simp only [stO,List.cons_append,List.nil_append] at hord
  generalize x.lines.getD i line0 = l at *
  obtain ⟨lg, lhs, ⟨q0, q1, q2, q3, q4, q5, q6, q7, q8, q9, q10⟩, ls, le, ⟨r0, r1, r2, r3, r4, r5, r6, r7, r8, r9, r10⟩⟩ := l
  simp only [lnR,msgR,List.cons_append,List.nil_append] at hg
  cases q with
  | none =>
    simp only [tellL]
    refine tri_WP Tryz.func118 (by decide) irOk118 (Nat.le_of_ble_eq_true rfl) rfl (ctlO_idl _ (Nat.le_refl 8) _) rfl ?_
    simp only [optMsg,Option.getD_none,Option.isSome_none] at hord ⊢
    simp only [ctlO,ctlB,linesO,List.length_set,List.cons_append,List.nil_append,ir118,go_sem,simprocAttr]
    simp only [hi,go_sem,simprocAttr]
    refine WD_calll [6] (hord) rfl (by simp only [argRs,argR,List.map_cons,List.map_nil,go_sem,simprocAttr,rnL_cat,shC_rn,idlL_cat,shC_idl]) (by decide) (by simp only [go_sem,simprocAttr,rnL_cat,shC_rn,idlL_cat,shC_idl]) (by simp only [go_sem,simprocAttr,List.all_cons,List.all_nil,rnL_cat,shC_rn,idlL_cat,shC_idl]) ?_; simp only [go_sem,simprocAttr,rnL_cat,shC_rn,idlL_cat,shC_idl]
    refine W_opsD_end rfl ?_
    simp only [hi,hg,hgs,lnR,msgR,List.map_set,List.length_set,List.length_map,List.set_set,List.cons_append,List.nil_append,go_sem,simprocAttr]
  | some m =>
    obtain ⟨m0, m1, m2, m3, m4, m5, m6, m7, m8, m9, m10⟩ := m
    have hal := alike_tri (G := tabF) ⟨m0, m1, m2, m3, m4, m5, m6, m7, m8, m9, m10⟩ ⟨q0, q1, q2, q3, q4, q5, q6, q7, q8, q9, q10⟩
    simp only [tellL]
    generalize alikeB ⟨m0, m1, m2, m3, m4, m5, m6, m7, m8, m9, m10⟩ ⟨q0, q1, q2, q3, q4, q5, q6, q7, q8, q9, q10⟩ = al at *
    cases lhs with
    | false =>
      simp only [true_or,if_true]
      refine tri_WP Tryz.func118 (by decide) irOk118 (Nat.le_of_ble_eq_true rfl) rfl (ctlO_idl _ (Nat.le_refl 8) _) rfl ?_
      simp only [optMsg,Option.getD_some,Option.isSome_some] at hord
      simp only [optMsg,Option.getD_some,Option.isSome_some,Option.getD_none,Option.isSome_none]
      simp only [ctlO,ctlB,linesO,List.length_set,List.cons_append,List.nil_append,ir118,go_sem,simprocAttr]
      simp only [hi,go_sem,simprocAttr]
      refine WD_calll [6] (hord) rfl (by simp only [argRs,argR,List.map_cons,List.map_nil,go_sem,simprocAttr,rnL_cat,shC_rn,idlL_cat,shC_idl]) (by decide) (by simp only [go_sem,simprocAttr,rnL_cat,shC_rn,idlL_cat,shC_idl]) (by simp only [go_sem,simprocAttr,List.all_cons,List.all_nil,rnL_cat,shC_rn,idlL_cat,shC_idl]) ?_; simp only [go_sem,simprocAttr,rnL_cat,shC_rn,idlL_cat,shC_idl]
      refine W_opsD_end rfl ?_
      simp only [hi,hg,hgs,msg0,zeroMsg,lnR,msgR,List.map_set,List.length_map,List.length_set,List.set_set,List.cons_append,List.nil_append,go_sem,simprocAttr]
      (repeat (refine W_opsD_end rfl ?_; (try simp only [hi,hg,hgs,msg0,zeroMsg,lnR,msgR,List.map_set,List.length_map,List.length_set,List.set_set,List.cons_append,List.nil_append,go_sem,simprocAttr])))
    | true =>
    cases al with
    | false =>
      simp only [Bool.true_eq_false,or_true,if_true]
      refine tri_WP Tryz.func118 (by decide) irOk118 (Nat.le_of_ble_eq_true rfl) rfl (ctlO_idl _ (Nat.le_refl 8) _) rfl ?_
      simp only [optMsg,Option.getD_some,Option.isSome_some] at hord
      simp only [optMsg,Option.getD_some,Option.isSome_some,Option.getD_none,Option.isSome_none]
      simp only [ctlO,ctlB,linesO,List.length_set,List.cons_append,List.nil_append,ir118,go_sem,simprocAttr]
      simp only [hi,go_sem,simprocAttr]
      refine WD_calll [6] (hord) rfl (by simp only [argRs,argR,List.map_cons,List.map_nil,go_sem,simprocAttr,rnL_cat,shC_rn,idlL_cat,shC_idl]) (by decide) (by simp only [go_sem,simprocAttr,rnL_cat,shC_rn,idlL_cat,shC_idl]) (by simp only [go_sem,simprocAttr,List.all_cons,List.all_nil,rnL_cat,shC_rn,idlL_cat,shC_idl]) ?_; simp only [go_sem,simprocAttr,rnL_cat,shC_rn,idlL_cat,shC_idl]
      refine W_opsD_end rfl ?_
      simp only [hi,hg,hgs,msg0,zeroMsg,lnR,msgR,List.map_set,List.length_map,List.length_set,List.set_set,List.cons_append,List.nil_append,go_sem,simprocAttr]
      refine WD_calld (hal) rfl rfl rfl rfl ?_; simp only [go_sem,simprocAttr]
      simp only [hi,hg,hgs,msg0,zeroMsg,lnR,msgR,List.map_set,List.length_map,List.length_set,List.set_set,List.cons_append,List.nil_append,go_sem,simprocAttr]
      (repeat (refine W_opsD_end rfl ?_; (try simp only [hi,hg,hgs,msg0,zeroMsg,lnR,msgR,List.map_set,List.length_map,List.length_set,List.set_set,List.cons_append,List.nil_append,go_sem,simprocAttr])))
    | true =>
      simp only [Bool.true_eq_false,or_false,if_false]
      by_cases hl : now < IntKind.i64.wrap (ls + x.c.retry)
      · simp only [hl,if_true]
        refine tri_WP Tryz.func118 (by decide) irOk118 (Nat.le_of_ble_eq_true rfl) rfl (ctlO_idl _ (Nat.le_refl 8) _) rfl ?_
        simp only [optMsg,Option.getD_some,Option.isSome_some] at hord
        simp only [optMsg,Option.getD_some,Option.isSome_some,Option.getD_none,Option.isSome_none]
        simp only [ctlO,ctlB,linesO,List.length_set,List.cons_append,List.nil_append,ir118,go_sem,simprocAttr]
        simp only [hi,go_sem,simprocAttr]
        refine WD_calll [6] (hord) rfl (by simp only [argRs,argR,List.map_cons,List.map_nil,go_sem,simprocAttr,rnL_cat,shC_rn,idlL_cat,shC_idl]) (by decide) (by simp only [go_sem,simprocAttr,rnL_cat,shC_rn,idlL_cat,shC_idl]) (by simp only [go_sem,simprocAttr,List.all_cons,List.all_nil,rnL_cat,shC_rn,idlL_cat,shC_idl]) ?_; simp only [go_sem,simprocAttr,rnL_cat,shC_rn,idlL_cat,shC_idl]
        refine W_opsD_end rfl ?_
        simp only [hi,hg,hgs,msg0,zeroMsg,lnR,msgR,List.map_set,List.length_map,List.length_set,List.set_set,List.cons_append,List.nil_append,go_sem,simprocAttr]
        refine WD_calld (hal) rfl rfl rfl rfl ?_; simp only [go_sem,simprocAttr]
        simp only [decide_eq_true hl,hi,hg,hgs,msg0,zeroMsg,lnR,msgR,List.map_set,List.length_map,List.length_set,List.set_set,List.cons_append,List.nil_append,go_sem,simprocAttr]
        (repeat (refine W_opsD_end rfl ?_; (try simp only [decide_eq_true hl,hi,hg,hgs,msg0,zeroMsg,lnR,msgR,List.map_set,List.length_map,List.length_set,List.set_set,List.cons_append,List.nil_append,go_sem,simprocAttr])))
        rw [set_same hg]
      · simp only [hl,if_false]
        refine tri_WP Tryz.func118 (by decide) irOk118 (Nat.le_of_ble_eq_true rfl) rfl (ctlO_idl _ (Nat.le_refl 8) _) rfl ?_
        simp only [optMsg,Option.getD_some,Option.isSome_some] at hord
        simp only [optMsg,Option.getD_some,Option.isSome_some,Option.getD_none,Option.isSome_none]
        simp only [ctlO,ctlB,linesO,List.length_set,List.cons_append,List.nil_append,ir118,go_sem,simprocAttr]
        simp only [hi,go_sem,simprocAttr]
        refine WD_calll [6] (hord) rfl (by simp only [argRs,argR,List.map_cons,List.map_nil,go_sem,simprocAttr,rnL_cat,shC_rn,idlL_cat,shC_idl]) (by decide) (by simp only [go_sem,simprocAttr,rnL_cat,shC_rn,idlL_cat,shC_idl]) (by simp only [go_sem,simprocAttr,List.all_cons,List.all_nil,rnL_cat,shC_rn,idlL_cat,shC_idl]) ?_; simp only [go_sem,simprocAttr,rnL_cat,shC_rn,idlL_cat,shC_idl]
        refine W_opsD_end rfl ?_
        simp only [hi,hg,hgs,msg0,zeroMsg,lnR,msgR,List.map_set,List.length_map,List.length_set,List.set_set,List.cons_append,List.nil_append,go_sem,simprocAttr]
        refine WD_calld (hal) rfl rfl rfl rfl ?_; simp only [go_sem,simprocAttr]
        simp only [decide_eq_false hl,hi,hg,hgs,msg0,zeroMsg,lnR,msgR,List.map_set,List.length_map,List.length_set,List.set_set,List.cons_append,List.nil_append,go_sem,simprocAttr]
        (repeat (refine W_opsD_end rfl ?_; (try simp only [decide_eq_false hl,hi,hg,hgs,msg0,zeroMsg,lnR,msgR,List.map_set,List.length_map,List.length_set,List.set_set,List.cons_append,List.nil_append,go_sem,simprocAttr])))
end Dv

namespace Dv
open Go Go.Proofs

def ir44 : Nat × C × List RV := (60,
(.seq (.reg [qo 4 (.new 37 [q0,q0,q0,q0,q0,q0,q0]),
 qo 5 (.mv (.c (.val (.slice none 0 0))))])
 (.seq (.seq (.reg [qm 12 0,
 qo 13 (.call (.f 109) [(.t 12)]),
 qo 14 (.not (.t 13)),
 qm 15 14,
 qg 16 (.mv (.t 1)) 15 false,
 qg 17 (.call (.f 98) [(.t 16)]) 15 false,
 qg 18 (.not (.t 17)) 15 false,
 qo 19 (.pick (.t 15) qt (.t 18))])
 (.cond (.t 19) (.seq (.reg [qo 20 (.build [q0,q0,q0,q0,q0,q0,q0] []),
 qn (.st 7 (.t 4) (.t 20)),
 qo 5 (.mv (.c (.val (.slice none 0 0))))])
 .ret)
 .skip))
 (.seq (.reg [qm 22 0,
 qm 23 1,
 qo 24 (.call (.f 117) [(.t 22),(.t 23)]),
 qm 21 24,
 qo 25 (.ext (.t 21) 0),
 qo 26 (.ext (.t 21) 1),
 qo 6 (.new 37 [q0,q0,q0,q0,q0,q0,q0]),
 qn (.st 7 (.t 6) (.t 25)),
 qm 7 26])
 (.seq (.seq (.reg [qm 27 7,
 qo 28 (.not (.t 27)),
 qm 29 28,
 qg 30 (.mv (.t 0)) 29 false,
 qg 31 (.ldn 7 (.t 6)) 29 false,
 qg 32 (.mv (.t 1)) 29 false,
 qg 33 (.call (.f 100) [(.t 30),(.t 31),(.t 32)]) 29 false,
 qg 34 (.bin .neq (.t 33) (qk 0)) 29 false,
 qo 35 (.pick (.t 29) qt (.t 34))])
 (.cond (.t 35) (.reg [qo 36 (.build [q0,q0,q0,q0,q0,q0,q0] []),
 qn (.st 7 (.t 6) (.t 36))])
 .skip))
 (.seq (.reg [qo 8 (.mv (.c (.val (.slice none 0 0))))])
 (.seq (.seq (.reg [qm 37 0,
 qo 38 (.nck (.t 37)),
 qo 39 (.fad 18 (.t 38)),
 qo 40 (.ld1 (.t 39)),
 qo 41 (.len (.t 40)),
 qo 42 (.mv (qk 0))])
 (.block 0 (.loop (.seq (.reg [qo 43 (.bin .lss (.t 42) (.t 41))])
 (.seq (.cond (.t 43) .skip
 (.exit 0))
 (.seq (.block 1 (.seq (.reg [qm 44 42,
 qm 9 44])
 (.seq (.reg [qm 46 0,
 qm 47 9,
 qm 48 1,
 qo 49 (.call (.f 118) [(.t 46),(.t 47),(.t 48)]),
 qm 45 49,
 qo 50 (.ext (.t 45) 0),
 qo 51 (.ext (.t 45) 1),
 qo 10 (.new 87 [q0,q0,q0,q0,q0,q0,q0,q0,q0,q0,q0]),
 qn (.st 11 (.t 10) (.t 50)),
 qm 11 51])
 (.seq (.reg [qm 52 11])
 (.cond (.t 52) (.reg [qm 53 8,
 qo 54 (.ldn 11 (.t 10)),
 qo 55 (.bsl 87 11 [(.t 54)]),
 qo 56 (.app 87 11 88 (.t 53) (.t 55)),
 qm 8 56])
 .skip)))))
 (.reg [qo 57 (.bin .add (.t 42) (qk 1)),
 qm 42 57])))))))
 (.seq (.reg [qo 58 (.ldn 7 (.t 6)),
 qm 59 8,
 qn (.st 7 (.t 4) (.t 58)),
 qm 5 59])
 .ret))))))),
[(.cn 4 7),(.t 5)])
theorem irOk44 : convFn Tryz.prog Tryz.f44 = some ir44 := by kernel_rfl


def tellsX (y : CtlD) (had : Int → Int) (now : Int) : Nat → CtlD × List MsgD
  | 0 => (y, [])
  | k + 1 => ({ (tellsX y had now k).1 with lines := (tellsX y had now k).1.lines.set k (tellL (tellsX y had now k).1 (orderM y.s had k) now ((tellsX y had now k).1.lines.getD k line0)).1 }, (tellsX y had now k).2 ++ (tellL (tellsX y had now k).1 (orderM y.s had k) now ((tellsX y had now k).1.lines.getD k line0)).2.toList)
structure TellsOf (y z : CtlD) : Prop where
  c : z.c = y.c
  s : z.s = y.s
  j : z.j = y.j
  room : z.room = y.room
  term : z.term = y.term
  sh : z.sh = y.sh
  wr : z.wr = y.wr
  len : z.lines.length = y.lines.length
  down : z.down = y.down
  noted : z.noted = y.noted
theorem tells_of (y : CtlD) (had : Int → Int) (now : Int) : ∀ k, TellsOf y (tellsX y had now k).1
  | 0 => ⟨rfl, rfl, rfl, rfl, rfl, rfl, rfl, rfl, rfl, rfl⟩
  | k + 1 => by
    have h := tells_of y had now k
    exact ⟨h.c, h.s, h.j, h.room, h.term, h.sh, h.wr, by show (List.set _ _ _).length = _; rw [List.length_set, h.len], h.down, h.noted⟩
theorem tells_len (y : CtlD) (had : Int → Int) (now : Int) : ∀ k, (tellsX y had now k).2.length ≤ k
  | 0 => Nat.le_refl _
  | k + 1 => by
    have h := tells_len y had now k
    show ((tellsX y had now k).2 ++ (tellL (tellsX y had now k).1 (orderM y.s had k) now ((tellsX y had now k).1.lines.getD k line0)).2.toList).length ≤ k + 1
    rw [List.length_append]
    have : ∀ q : Option MsgD, q.toList.length ≤ 1 := fun q => by cases q <;> simp
    have := this (tellL (tellsX y had now k).1 (orderM y.s had k) now ((tellsX y had now k).1.lines.getD k line0)).2
    omega
def CtlD.actY (x : CtlD) (now : Int) (q p : Option OpD) : CtlD := match x.nextO now q p with
  | some o => x.noteX o now
  | none => x
def CtlD.actO (x : CtlD) (now : Int) (q p : Option OpD) : OpD := match x.nextO now q p with
  | some o => if x.freshE o = 0 then o else zeroOp
  | none => zeroOp
def boxOp (o : OpD) : LObj := .box 37 [.int o.kind, .int o.a, .int o.b, .int o.c, .int o.d, .int o.e, .int o.f]
def actS (z : CtlD) (now : Int) (o : OpD) (ms : List MsgD) (k : Nat) : St := ⟨[(0, .ptr 0 0), (1, .int now), (4, .ptr 8 0), (5, .d (.val (.slice none 0 0))), (6, .ptr 9 0), (8, .sl 10 ms.length 11 0 ms.length), (41, .int z.lines.length), (42, .int k)], (ctlO z).map some ++ [some (boxOp zeroOp), some (boxOp o), some (.dat 87 11 (ms.map msgR))]⟩
set_option maxHeartbeats 4000000 in
theorem act_tri (x : CtlD) (h : XOK x) (hd : x.down = false) (now : Int) (hnow : 0 ≤ now ∧ now ≤ 1000000) (hT : ∀ l ∈ x.lines, 0 ≤ l.heard ∧ l.heard ≤ 1000000) (u p : Option OpD) (hf : Tri Tryz.prog tabF 199 [stateV x.s, msgsV (x.reps x.lines.length), .int now] [] (optM u) []) (hp : Tri Tryz.prog tabF 200 [confV x.c, stateV x.s, .int now] [] (optM p) []) (had : Int → Int)
    (hord : ∀ i, i < (x.actY now u p).lines.length → Tri Tryz.prog tabF 201 [stateV (x.actY now u p).s, .int i, .ptr 0 0] (stO (x.actY now u p).room (x.actY now u p).term (x.actY now u p).sh (x.actY now u p).wr) (optMsg (orderM (x.actY now u p).s had i)) (stO (x.actY now u p).room (x.actY now u p).term (x.actY now u p).sh (x.actY now u p).wr)) :
    Tri Tryz.prog tabF 44 [.ptr 0 0, .int now] (ctlO x) (.tup [opV (x.actO now u p), msgsV (tellsX (x.actY now u p) had now x.lines.length).2]) (ctlO (tellsX (x.actY now u p) had now x.lines.length).1) := by
  have ha := calive_tri (G := tabF) x
  have htm := time_tri (G := tabF) now
  have hnx := next_ctl_tri x h now hnow hT u p hf hp
  rw [hd] at ha
  rw [decide_eq_true hnow] at htm
  have hnt := fun o => Tri.up (note_tri x h o now) tabF_book
  have hl6 : x.lines.length ≤ 6 := by have := h.lines; have := h.right.len; omega
  have hylen : (x.actY now u p).lines.length = x.lines.length := by
    unfold CtlD.actY
    split
    · rename_i o _
      have h1 := (h.note o now).lines
      have h2 := h.lines
      have h3 := (h.note o now).right.nodes
      have h4 := h.right.nodes
      rw [noteX_c] at h3
      omega
    · rfl
  have hyc : XOK (x.actY now u p) := by
    unfold CtlD.actY
    split
    · exact h.note _ now
    · exact h
  have hY : x.actY now u p = match x.nextO now u p with | some o => x.noteX o now | none => x := rfl
  have hQ : x.actO now u p = match x.nextO now u p with | some o => if x.freshE o = 0 then o else zeroOp | none => zeroOp := rfl
  generalize x.actY now u p = y at *
  generalize x.actO now u p = q at *
  have hll : x.lines.length = y.lines.length := hylen.symm
  rw [hll] at hl6 ⊢
  obtain ⟨F, hF⟩ : ∃ F, F = tellsX y had now y.lines.length := ⟨_, rfl⟩
  rw [← hF]
  simp only [ctlO,ctlB,linesO,List.cons_append,List.nil_append] at ha hnx
  refine tri_W Tryz.func44 (by decide) irOk44 (Nat.le_of_ble_eq_true rfl) ?_
  simp only [ctlO,ctlB,linesO,List.cons_append,List.nil_append,ir44,go_sem,simprocAttr]
  refine W_calll [0, 1, 2, 3, 4, 5, 6, 7] (ha) rfl (by simp only [argRs,argR,List.map_cons,List.map_nil,go_sem,simprocAttr,rnL_cat,shC_rn,idlL_cat,shC_idl]) (by decide) (by simp only [go_sem,simprocAttr,rnL_cat,shC_rn,idlL_cat,shC_idl]) (by simp only [go_sem,simprocAttr,List.all_cons,List.all_nil,rnL_cat,shC_rn,idlL_cat,shC_idl]) ?_; simp only [go_sem,simprocAttr,rnL_cat,shC_rn,idlL_cat,shC_idl]
  refine W_calld (htm) rfl rfl rfl rfl ?_; simp only [go_sem,simprocAttr]
  refine W_calll [0, 1, 2, 3, 4, 5, 6, 7] (hnx) rfl (by simp only [argRs,argR,List.map_cons,List.map_nil,go_sem,simprocAttr,rnL_cat,shC_rn,idlL_cat,shC_idl]) (by decide) (by simp only [go_sem,simprocAttr,rnL_cat,shC_rn,idlL_cat,shC_idl]) (by simp only [go_sem,simprocAttr,List.all_cons,List.all_nil,rnL_cat,shC_rn,idlL_cat,shC_idl]) ?_; simp only [go_sem,simprocAttr,rnL_cat,shC_rn,idlL_cat,shC_idl]
  have hl1 := tells_of y had now
  have hl2 := tells_len y had now
  cases hno : x.nextO now u p
  case' none =>
    rw [hno] at hY hQ
    have hY2 : y = x := hY
    have hq : q = zeroOp := hQ
    subst hY2
    simp only [optM,Option.getD_none,Option.isSome_none,go_sem,simprocAttr]
  case' some o =>
    rw [hno] at hY hQ
    have hY2 : x.noteX o now = y := hY.symm
    have hnt := hnt o
    rw [hY2] at hnt
    simp only [ctlO,ctlB,linesO,List.cons_append,List.nil_append] at hnt
    simp only [optM,Option.getD_some,Option.isSome_some,go_sem,simprocAttr]
    refine W_callo [0, 1, 2, 3, 4, 5, 6, 7] (hnt) rfl (by simp only [argRs,argR,List.map_cons,List.map_nil,go_sem,simprocAttr,rnL_cat,shC_rn,idlL_cat,shC_idl]) (by decide) (by simp only [go_sem,simprocAttr,rnL_cat,shC_rn,idlL_cat,shC_idl]) (by simp only [go_sem,simprocAttr,List.all_cons,List.all_nil,rnL_cat,shC_rn,idlL_cat,shC_idl]) (by simp) ?_; simp only [go_sem,simprocAttr,rnL_cat,shC_rn,idlL_cat,shC_idl]
    by_cases he : x.freshE o = 0
    case' pos =>
      have hq : q = o := by rw [hQ]; exact if_pos he
      simp only [he,bne_self_eq_false,go_sem,simprocAttr]
    case' neg =>
      have hq : q = zeroOp := by rw [hQ]; exact if_neg he
      simp only [show (x.freshE o != 0) = true from bne_iff_ne.2 he,go_sem,simprocAttr]
  all_goals
    refine W_loopI [0, 1, 4, 5, 6, 8, 41, 42] [.t 8 87 11] (fun k : Nat => k ≤ y.lines.length) (fun k => y.lines.length - k) (fun k => actS (tellsX y had now k).1 now q (tellsX y had now k).2 k) 0 ?_ (Nat.zero_le _) (fun k hk => ?_)
    · simp only [actS,tellsX,hq,boxOp,zeroOp,ctlO,ctlB,linesO,List.map_nil,List.map_cons,List.length_nil,List.cons_append,List.nil_append,Int.natCast_zero,go_sem,simprocAttr]
    have hz := hl1 k
    have hzl := hl2 k
    have hsucc : tellsX y had now (k + 1) = ({ (tellsX y had now k).1 with lines := (tellsX y had now k).1.lines.set k (tellL (tellsX y had now k).1 (orderM y.s had k) now ((tellsX y had now k).1.lines.getD k line0)).1 }, (tellsX y had now k).2 ++ (tellL (tellsX y had now k).1 (orderM y.s had k) now ((tellsX y had now k).1.lines.getD k line0)).2.toList) := rfl
    by_cases hlt : k < y.lines.length
    · have hT := tell_ctl_tri (tellsX y had now k).1 now k (by rw [hz.len]; exact hlt) (orderM y.s had k) (by rw [hz.s, hz.room, hz.term, hz.sh, hz.wr]; exact hord k hlt)
      generalize (tellsX y had now k).1 = z at *
      generalize (tellsX y had now k).2 = ms at *
      generalize tellL z (orderM y.s had k) now (z.lines.getD k line0) = tl at *
      have hzlen := hz.len
      simp only [ctlO,ctlB,linesO,List.length_set,List.cons_append,List.nil_append] at hT
      simp only [actS,boxOp,zeroOp,ctlO,ctlB,linesO,hzlen,List.map_nil,List.map_cons,List.cons_append,List.nil_append,go_sem,simprocAttr]
      simp only [decide_eq_true (show ((k : Nat) : Int) < ((y.lines.length : Nat) : Int) by omega),go_sem,simprocAttr]
      rw [hzlen] at hT
      refine W_callo [0, 1, 2, 3, 4, 5, 6, 7] (hT) rfl (by simp only [argRs,argR,List.map_cons,List.map_nil,go_sem,simprocAttr,rnL_cat,shC_rn,idlL_cat,shC_idl]) (by decide) (by simp only [go_sem,simprocAttr,rnL_cat,shC_rn,idlL_cat,shC_idl]) (by simp only [go_sem,simprocAttr,List.all_cons,List.all_nil,rnL_cat,shC_rn,idlL_cat,shC_idl]) (by simp) ?_; simp only [go_sem,simprocAttr,rnL_cat,shC_rn,idlL_cat,shC_idl]
      obtain ⟨l2, r2⟩ := tl
      have c1 : (ms.length + 1) * 88 ≤ 70368744177664 := by omega
      cases r2 with
      | none =>
        simp only [optMsg,Option.getD_none,Option.isSome_none,go_sem,simprocAttr]
        refine W_lpI (k + 1) ?_ ?_ (show k + 1 ≤ y.lines.length by omega) (show y.lines.length - (k + 1) < y.lines.length - k by omega)
        · simp only [idlL_cat,shC_idl,go_sem,simprocAttr]
        · simp only [wrap_succ (show k < 9223372036854775807 by omega),hsucc,Option.toList,List.append_nil,hzlen,List.length_set,actS,boxOp,zeroOp,ctlO,ctlB,linesO,List.map_nil,List.map_cons,List.cons_append,List.nil_append,go_sem,simprocAttr]
      | some m =>
        simp only [optMsg,Option.getD_some,Option.isSome_some,List.length_map,List.length_append,List.length_cons,List.length_nil,Nat.zero_add,c1,go_sem,simprocAttr]
        refine W_lpI (k + 1) ?_ ?_ (show k + 1 ≤ y.lines.length by omega) (show y.lines.length - (k + 1) < y.lines.length - k by omega)
        · simp only [idlL_cat,shC_idl,go_sem,simprocAttr]
        · simp only [wrap_succ (show k < 9223372036854775807 by omega),hsucc,Option.toList,hzlen,List.length_set,msgR,List.map_append,List.length_append,List.length_cons,List.length_nil,Nat.zero_add,actS,boxOp,zeroOp,ctlO,ctlB,linesO,List.map_nil,List.map_cons,List.cons_append,List.nil_append,go_sem,simprocAttr]
    · obtain rfl : k = y.lines.length := by omega
      rw [← hF] at *
      simp only [actS,boxOp,zeroOp,ctlO,ctlB,linesO,List.map_nil,List.map_cons,List.cons_append,List.nil_append,go_sem,simprocAttr]
      simp only [hz.len,decide_eq_false (show ¬ ((y.lines.length : Nat) : Int) < ((y.lines.length : Nat) : Int) by omega),go_sem,simprocAttr]
      have hid := ctlO_idl 8 (Nat.le_refl 8) F.1
      simp only [ctlO,ctlB,linesO,hz.len,nodesV,jobsV,LV.int,LV.bool,List.cons_append,List.nil_append] at hid
      have htk : List.take F.2.length (List.map msgR F.2) = List.map msgR F.2 := List.take_of_length_le (by rw [List.length_map]; exact Nat.le_refl _)
      refine BackR [] [0, 1, 2, 3, 4, 5, 6, 7] [10] (vs := [.agg [.int q.kind, .int q.a, .int q.b, .int q.c, .int q.d, .int q.e, .int q.f], .sl 10 F.2.length 11 0 F.2.length]) rfl rfl (by decide) (by decide) (by simp [St.obj,objL,adopt]) ?_ hid ?_
      · simp only [List.map_cons,List.map_nil,rnO,rnL,rnL_cat,shC_rn]
        rfl
      simp [oneOr,argR,argRs,rowsAt,LV.int,LV.bool,htk,St.obj,objL,adopt]
end Dv
