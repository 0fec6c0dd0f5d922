/- The logical machine and its plain laws: parts GF, G2, proved sound. -/
import Derived.Test.YtkalnfkokkjliaaGreatDoorDB
import Derived.Test.YtkalnfkokkjliaaGreatDoorP8
import Derived.Test.YtkalnfkokkjliaaGreatDoorR2
set_option linter.unusedVariables false
set_option linter.unusedSimpArgs false
namespace Dv
open Go Go.Proofs
variable {G : Nat → Option (List DV)}


def stateB (s : StateD) : LObj := .box 30 [nodesV s.nodes, jobsV s.jobs, .int s.goal, .int s.prior, .int s.mode, .int s.term]
def rB (r : List MsgD) : LObj := .box 94 [msgsV r]
def intB (x : Int) : LObj := .box 3 [.int x]
def saysX : LObj := .box 323 [.fn (.func 279) [] [.ptr 0 0, .ptr 1 0, .ptr 2 0]]
def jobB (j : JobD) : LObj := .box 119 [.int j.queue, .int j.prio, .int j.min, .int j.max, .int j.work, .int j.pin, .int j.phase, .int j.inc, .int j.nodes, .int j.since, .int j.til, .int j.epoch]
attribute [local go_sem] stateB rB intB saysX jobB

end Dv

namespace Dv
open Go Go.Proofs
variable {G : Nat → Option (List DV)}

def ir198 : Nat × C × List RV := (34,
(.seq (.reg [qo 8 (.mv (qk 0))])
 (.seq (.seq (.reg [qm 10 0,
 qo 11 (.len (.t 10)),
 qm 12 1,
 qo 13 (.len (.t 12)),
 qo 14 (.min (.t 11) (.t 13)),
 qo 15 (.mv (qk 0))])
 (.block 0 (.loop (.seq (.reg [qo 16 (.bin .lss (.t 15) (.t 14))])
 (.seq (.cond (.t 16) .skip
 (.exit 0))
 (.seq (.block 1 (.seq (.reg [qm 17 15,
 qm 9 17])
 (.seq (.reg [qm 18 0,
 qm 19 9,
 qo 20 (.ixa 1 (.t 18) (.t 19)),
 qo 21 (.ld1 (.t 20)),
 qm 22 21,
 qg 23 (.mv (.t 3)) 22 true,
 qg 24 (.mv (.t 1)) 22 true,
 qg 25 (.mv (.t 9)) 22 true,
 qg 26 (.ixa 1 (.t 24) (.t 25)) 22 true,
 qg 27 (.ld1 (.t 26)) 22 true,
 qg 28 (.mv (.t 2)) 22 true,
 qg 29 (.bin .add (.t 27) (.t 28)) 22 true,
 qg 30 (.bin .geq (.t 23) (.t 29)) 22 true,
 qo 31 (.pick (.t 22) (.t 30) qf)])
 (.cond (.t 31) (.seq (.reg [qm 32 9,
 qm 8 32])
 .ret)
 .skip))))
 (.reg [qo 33 (.bin .add (.t 15) (qk 1)),
 qm 15 33])))))))
 (.seq (.reg [qo 8 (.mv (.c (.val (.int .i64 (-1)))))])
 .ret))),
[(.t 8)])
theorem irOk198 : convFn Tryz.prog Tryz.f198 = some ir198 := by kernel_rfl

attribute [local go_sem] stateB rB intB saysX jobB

def optM (o : Option OpD) : LV := .tup [opV (o.getD zeroOp), .bool o.isSome]
def silS (up : List Bool) (hs : List Int) (lease now : Int) (k : Nat) : St := ⟨[(0, .d (.lst 1 (up.map fun b => [bl b]))), (1, .d (.lst 1 (hs.map fun h => [i64 h]))), (2, .int lease), (3, .int now), (14, .int (min up.length hs.length : Nat)), (15, .int k)], []⟩
theorem silent_tri (up : List Bool) (hs : List Int) (lease now : Int) (hu : up.length ≤ 50) (hh : hs.length ≤ 50) (hl : 0 ≤ lease ∧ lease ≤ 1000000) (hT : ∀ h ∈ hs, 0 ≤ h ∧ h ≤ 1000000) :
    Tri Tryz.prog G 198 [.d (.lst 1 (up.map fun b => [bl b])), .d (.lst 1 (hs.map fun h => [i64 h])), .int lease, .int now] [] (.int (silentL lease now up hs 0)) [] := by
  refine tri_W0 Tryz.func198 (by decide) irOk198 (Nat.le_of_ble_eq_true rfl) rfl ?_
  simp only [ir198,go_sem,simprocAttr]
  generalize hr : silentL lease now up hs 0 = r
  have hm : (if (hs.length : Int) < (up.length : Int) then (hs.length : Int) else (up.length : Int)) = ((min up.length hs.length : Nat) : Int) := by split <;> omega
  refine W_loopI [0, 1, 2, 3, 14, 15] [] (fun k : Nat => k ≤ min up.length hs.length ∧ silentL lease now (up.drop k) (hs.drop k) k = r) (fun k => min up.length hs.length - k) (silS up hs lease now) 0 ?_ ⟨Nat.zero_le _, hr⟩ ?_
  · simp only [silS,go_sem,simprocAttr,hm,Int.natCast_zero]
  rintro k ⟨hk, hF⟩
  simp only [silS,go_sem,simprocAttr]
  refine WC_split (fun h => ?_) (fun h => ?_)
  · have h := lt_of_dec h
    have hk1 : k < up.length := by omega
    have hk2 : k < hs.length := by omega
    rw [List.drop_eq_getElem_cons hk1, List.drop_eq_getElem_cons hk2, silentL] at hF
    have hg1 := get_map (f := fun b : Bool => [bl b]) hk1
    have hg2 := get_map (f := fun h : Int => [i64 h]) hk2
    have hb := hT hs[k] (List.getElem_mem hk2)
    generalize up[k] = u at *
    generalize hs[k] = x at *
    have hw : IntKind.i64.wrap (x + lease) = x + lease := wrap_in (by omega) (by omega)
    simp only [hg1,hg2,go_sem,simprocAttr]
    cases u with
    | false =>
      simp only [Bool.false_eq_true,false_and,if_false] at hF
      simp only [go_sem,simprocAttr]
      refine W_lpI (k + 1) ?_ ?_ ⟨h, by rw [Int.natCast_add]; exact hF⟩ (by omega)
      · simp only [go_sem,simprocAttr]
      · simp only [silS,go_sem,simprocAttr,wrap_succ (show k < 9223372036854775807 by omega)]
    | true =>
      simp only [hw,hg2,go_sem,simprocAttr]
      cases h5 : decide (now ≥ x + lease) with
      | true =>
        have h5' : x + lease ≤ now := of_decide_eq_true h5
        rw [if_pos ⟨rfl, h5'⟩] at hF
        simp only [go_sem,simprocAttr,← hF]
      | false =>
        have h5' : ¬ x + lease ≤ now := of_decide_eq_false h5
        rw [if_neg (fun h => h5' h.2)] at hF
        simp only [go_sem,simprocAttr]
        refine W_lpI (k + 1) ?_ ?_ ⟨h, by rw [Int.natCast_add]; exact hF⟩ (by omega)
        · simp only [go_sem,simprocAttr]
        · simp only [silS,go_sem,simprocAttr,wrap_succ (show k < 9223372036854775807 by omega)]
  · have hk2 := eq_of_dec h hk
    have : silentL lease now (up.drop k) (hs.drop k) k = -1 := by
      rcases (by omega : up.length ≤ k ∨ hs.length ≤ k) with h | h
      · rw [List.drop_eq_nil_of_le h]; rfl
      · rw [List.drop_eq_nil_of_le h]; cases List.drop k up <;> rfl
    rw [this] at hF
    simp only [go_sem,simprocAttr,← hF]

end Dv
