/- The document's plan: Run. -/
import Derived.Test.YtcanhhnmfkdclaaGreatDoorT20
import Derived.Test.YtcanhhnmfkdclaaGreatDoorD19
import Derived.Test.YtcanhhnmfkdclaaGreatDoorL1
import Derived.Test.YtcanhhnmfkdclaaGreatDoorQ7
set_option linter.unusedVariables false
set_option linter.unusedSimpArgs false
namespace Dv
open Go Go.Proofs
variable {G : Nat → Option (List DV)}
def ir16 : Nat × C × List RV := (50,
(.seq (.reg [qo 4 (.box 23 (.t 0)),
 qo 5 (.box 27 (.t 1)),
 qo 8 (.new 27 [(.val (.slice none 0 0)),(.val (.slice none 0 0)),q0,q0,q0,q0]),
 qo 9 (.mv (.c (.val (.slice none 0 0))))])
 (.seq (.reg [qo 15 (.ldn 6 (.t 5)),
 qo 16 (.call (.f 31) [(.t 15)]),
 qn (.st 6 (.t 5) (.t 16))])
 (.seq (.reg [qo 10 (.mv (.c (.val (.slice none 0 0))))])
 (.seq (.block 0 (.loop (.seq (.seq (.reg [qm 17 10,
 qo 18 (.len (.t 17)),
 qm 19 3,
 qo 20 (.bin .lss (.t 18) (.t 19))])
 (.cond (.t 20) .skip
 (.exit 0)))
 (.block 1 (.seq (.reg [qo 22 (.ldn 9 (.t 4)),
 qo 23 (.ldn 6 (.t 5)),
 qm 24 2,
 qo 25 (.call (.f 11) [(.t 22),(.t 23),(.t 24)]),
 qm 21 25,
 qo 26 (.ext (.t 21) 0),
 qo 27 (.ext (.t 21) 1),
 qo 11 (.new 32 [q0,q0,q0,q0,q0,q0,q0]),
 qn (.st 7 (.t 11) (.t 26)),
 qm 12 27])
 (.seq (.seq (.reg [qm 28 12,
 qo 29 (.not (.t 28))])
 (.cond (.t 29) (.seq (.reg [qo 30 (.ldn 6 (.t 5)),
 qm 31 10,
 qn (.st 6 (.t 8) (.t 30)),
 qm 9 31])
 .ret)
 .skip))
 (.seq (.reg [qo 33 (.ldn 9 (.t 4)),
 qo 34 (.ldn 6 (.t 5)),
 qo 35 (.ldn 7 (.t 11)),
 qo 36 (.call (.f 32) [(.t 33),(.t 34),(.t 35)]),
 qm 32 36,
 qo 37 (.ext (.t 32) 0),
 qo 38 (.ext (.t 32) 1),
 qo 13 (.new 27 [(.val (.slice none 0 0)),(.val (.slice none 0 0)),q0,q0,q0,q0]),
 qn (.st 6 (.t 13) (.t 37)),
 qm 14 38])
 (.seq (.seq (.reg [qm 39 14,
 qo 40 (.bin .neq (.t 39) (qk 0))])
 (.cond (.t 40) (.seq (.reg [qo 41 (.ldn 6 (.t 5)),
 qm 42 10,
 qn (.st 6 (.t 8) (.t 41)),
 qm 9 42])
 .ret)
 .skip))
 (.seq (.reg [qo 43 (.ldn 6 (.t 13)),
 qn (.st 6 (.t 5) (.t 43))])
 (.reg [qm 44 10,
 qo 45 (.ldn 7 (.t 11)),
 qo 46 (.bsl 32 7 [(.t 45)]),
 qo 47 (.app 32 7 56 (.t 44) (.t 46)),
 qm 10 47]))))))))))
 (.seq (.reg [qo 48 (.ldn 6 (.t 5)),
 qm 49 10,
 qn (.st 6 (.t 8) (.t 48)),
 qm 9 49])
 .ret))))),
[(.cn 8 6),(.t 9)])
theorem irOk16 : convFn Tryz.prog Tryz.f16 = some ir16 := by kernel_rfl

theorem copyD9_tri (s : StateD) (hn : s.nodes.length ≤ 1000) (hj : s.jobs.length ≤ 1000) : Tri Tryz.prog G 31 [stateV s] [] (stateV s) [] := by
  refine tri_W Tryz.func31 (by decide) irOk31 (Nat.le_of_ble_eq_true rfl) ?_
  have h1 : s.nodes.length * 24 ≤ 70368744177664 := by omega
  have h2 : s.jobs.length * 96 ≤ 70368744177664 := by omega
  simp only [ir31,h1,h2,go_sem,simprocAttr]
  exact BackZ [3, 4] rfl (by simp [St.obj,objL]) (by simp [St.obj,objL,oneOr,St.get,getE,argR,argRs,rowsAt,LV.int,List.take_of_length_le])
structure RunS where
  s : StateD
  l : List OpD
def run18S (c : ConfD) (now most : Int) (a : RunS) : St := ⟨[(2, .int now), (3, .int most), (4, .ptr 0 0), (5, .ptr 1 0), (8, .ptr 2 0), (10, .sl 3 a.l.length 7 0 a.l.length)], [some (.box 23 [.int c.nodes, .int c.queues, .int c.quota, .int c.wave, .int c.lease, .int c.retry, .int c.deadline, .int c.room, .int c.disk]), some (boxS a.s), some (.box 27 [.d (.val (.slice none 0 0)), .d (.val (.slice none 0 0)), .int 0, .int 0, .int 0, .int 0]), some (.dat 32 7 (a.l.map opR))]⟩
set_option maxHeartbeats 4000000 in
theorem run18_tri (c : ConfD) (s : StateD) (h : RightP c s) (now most : Int) (h0 : TimeR now) (hm : most ≤ 90) : Tri Tryz.prog G 16 [confV c, stateV s, .int now, .int most] [] (.tup [stateV (runD c s now most).1, .d (.lst 7 ((runD c s now most).2.map opR))]) [] := by
  refine tri_W Tryz.func16 (by decide) irOk16 (Nat.le_of_ble_eq_true rfl) ?_
  have hln := h.len
  have hlj := h.jobs
  simp only [ir16,go_sem,simprocAttr]
  refine W_calld (copyD9_tri s (by omega) (by omega)) rfl rfl rfl rfl ?_; simp only [go_sem,simprocAttr]
  refine W_loopI [2, 3, 4, 5, 8, 10] [.t 10 32 7] (fun a : RunS => RightP c a.s ∧ ((a.l.length : Int) ≤ most ∨ a.l = []) ∧ runTo c now (most.toNat - a.l.length) a.s a.l = runD c s now most) (fun a => most.toNat - a.l.length) (run18S c now most) ⟨s, []⟩ ?_ ⟨h, .inr rfl, by simp [runD]⟩ ?_
  · simp only [run18S,boxS,List.map_nil,List.length_nil,Int.natCast_zero,go_sem,simprocAttr]
  rintro ⟨u, l⟩ ⟨hu, hl, hF⟩
  dsimp only at hu hl hF
  have hl2 : (l.length : Int) ≤ 90 := by
    rcases hl with hl | rfl
    · omega
    · simp
  simp only [run18S,boxS,List.length_map,go_sem,simprocAttr]
  by_cases hlt : (l.length : Int) < most
  case neg =>
    have hz : most.toNat - l.length = 0 := by omega
    rw [hz] at hF
    rw [← hF]
    simp only [decide_eq_false hlt,runTo,go_sem,simprocAttr]
    exact BackZ [3] rfl (by simp [St.obj,objL]) (by simp [St.obj,objL,oneOr,St.get,getE,argR,argRs,rowsAt,LV.int,List.take_of_length_le])
  obtain ⟨n, hn⟩ : ∃ n, most.toNat - l.length = n + 1 := ⟨most.toNat - l.length - 1, by omega⟩
  rw [hn] at hF
  simp only [decide_eq_true hlt,go_sem,simprocAttr]
  refine W_calld (plan18_tri c u hu now h0) rfl rfl rfl rfl ?_; simp only [go_sem,simprocAttr]
  cases hp : planO c u now with
  | none =>
    rw [runTo_stop (.inl hp)] at hF
    rw [← hF]
    simp only [optV,Option.getD_none,Option.isSome_none,zeroOp,go_sem,simprocAttr]
    exact BackZ [3] rfl (by simp [St.obj,objL]) (by simp [St.obj,objL,oneOr,St.get,getE,argR,argRs,rowsAt,LV.int,List.take_of_length_le])
  | some o =>
    have hA := apply_ref hu o
    have hq := apply_right hu o
    have hstop : (applyD c u o).2 ≠ 0 → runTo c now (n + 1) u l = (u, l) := fun h => runTo_stop (.inr ⟨o, hp, h⟩) _ _
    have hgo : (applyD c u o).2 = 0 → runTo c now (n + 1) u l = runTo c now n (applyD c u o).1 (l ++ [o]) := fun h => by
      rw [runTo, hp]
      simp only
      rw [if_pos h]
    simp only [optV,Option.getD_some,Option.isSome_some,go_sem,simprocAttr]
    refine W_calld (apply9_tri c u o hu) rfl rfl rfl rfl ?_; simp only [go_sem,simprocAttr]
    rw [← hA]
    generalize applyD c u o = p at *
    cases he : (p.2 != 0) with
    | true =>
      rw [hstop (by simpa using he)] at hF
      rw [← hF]
      simp only [he,go_sem,simprocAttr]
      exact BackZ [3] rfl (by simp [St.obj,objL]) (by simp [St.obj,objL,oneOr,St.get,getE,argR,argRs,rowsAt,LV.int,List.take_of_length_le])
    | false =>
      rw [hgo (by simpa using he)] at hF
      have hbd : (l.length + 1) * 56 ≤ 70368744177664 := by omega
      simp only [he,hbd,List.length_append,go_sem,simprocAttr]
      refine W_lpI ⟨p.1, l ++ [o]⟩ ?_ ?_ ⟨hq, .inl (by simp; omega), ?_⟩ (by simp; omega)
      · simp only [go_sem,simprocAttr]
      · simp only [run18S,boxS,opR,List.map_append,List.length_append,go_sem,simprocAttr]
      · rw [← hF]
        dsimp only
        congr 1
        simp; omega
end Dv
