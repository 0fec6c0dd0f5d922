/- CtlAsks: it returns true. -/
import Derived.Test.YtkalnfkokkjliaaGreatDoorCA
import Derived.Test.YtkalnfkokkjliaaGreatDoorA1
set_option linter.unusedVariables false
set_option linter.unusedSimpArgs false
namespace Dv
open Go Go.Proofs

def ir9 : Nat × C × List RV := (98,
(.seq (.reg [qo 2 (.box 23 (.t 0)),
 qo 4 (.mv qf)])
 (.seq (.seq (.reg [qo 12 (.call (.f 26) []),
 qo 13 (.not (.t 12))])
 (.cond (.t 13) (.seq (.reg [qo 4 (.mv qf)])
 .ret)
 .skip))
 (.seq (.seq (.reg [qo 14 (.ldn 9 (.t 2)),
 qo 15 (.call (.f 14) [(.t 14)]),
 qo 16 (.not (.t 15)),
 qm 17 16,
 qg 18 (.fad 8 (.t 2)) 17 false,
 qg 19 (.ld1 (.t 18)) 17 false,
 qg 20 (.bin .gtr (.t 19) (qk 4000)) 17 false,
 qo 21 (.pick (.t 17) qt (.t 20)),
 qm 22 21,
 qg 23 (.mv (.t 1)) 22 false,
 qg 24 (.len (.t 23)) 22 false,
 qg 25 (.bin .gtr (.t 24) (qk 60)) 22 false,
 qo 26 (.pick (.t 22) qt (.t 25))])
 (.cond (.t 26) (.seq (.reg [qo 4 (.mv qt)])
 .ret)
 .skip))
 (.seq (.regD [qo 28 (.ldn 9 (.t 2)),
 qo 29 (.fad 8 (.t 2)),
 qd 30 (.ld1 (.t 29)) [1],
 qd 31 (.call (.f 27) [(.t 30)]) [2,1],
 qo 32 (.fad 7 (.t 2)),
 qd 33 (.ld1 (.t 32)) [4],
 qd 34 (.call (.f 35) [(.t 33)]) [5,4,3,2,1],
 qd 35 (.call (.f 37) [(.t 28),(.t 31),(.t 34),(qk 0)]) [0,3,2,1,6,5,4],
 qd 27 (.mv (.t 35)) [7,0,3,2,1,6,5,4],
 qd 36 (.ext (.t 27) 0) [8,7,0,3,2,1,6,5,4],
 qd 37 (.ext (.t 27) 1) [8,7,0,3,2,1,6,5,4],
 qd 5 (.mv (.t 36)) [9,8,7,0,3,2,1,6,5,4],
 qd 6 (.mv (.t 37)) [10,8,7,0,3,2,1,6,5,4,11,9]])
 (.seq (.seq (.reg [qo 7 (.mv (qk 0))])
 (.block 0 (.loop (.seq (.seq (.reg [qm 38 7,
 qm 39 1,
 qo 40 (.len (.t 39)),
 qo 41 (.bin .lss (.t 38) (.t 40)),
 qm 42 41,
 qg 43 (.mv (.t 6)) 42 true,
 qg 44 (.bin .eql (.t 43) (qk 0)) 42 true,
 qo 45 (.pick (.t 42) (.t 44) qf)])
 (.cond (.t 45) .skip
 (.exit 0)))
 (.seq (.block 1 (.seq (.reg [qm 48 5,
 qo 49 (.call (.f 39) [(.t 48)]),
 qo 8 (.new 30 [(.val (.slice none 0 0)),(.val (.slice none 0 0)),q0,q0,q0,q0]),
 qn (.st 6 (.t 8) (.t 49))])
 (.seq (.regD [qo 51 (.ldn 9 (.t 2)),
 qo 52 (.ldn 6 (.t 8)),
 qm 53 1,
 qm 54 7,
 qd 55 (.ixa 7 (.t 53) (.t 54)) [2,3],
 qd 56 (.ldn 7 (.t 55)) [4,2,3],
 qd 57 (.call (.f 24) [(.t 51),(.t 52),(.t 56)]) [0,1,5,4,2,3],
 qd 50 (.mv (.t 57)) [6,0,1,5,4,2,3],
 qd 58 (.ext (.t 50) 0) [7,6,0,1,5,4,2,3],
 qd 59 (.ext (.t 50) 1) [7,6,0,1,5,4,2,3],
 qo 9 (.new 30 [(.val (.slice none 0 0)),(.val (.slice none 0 0)),q0,q0,q0,q0]),
 ql (.st 6 (.t 9) (.t 58)) [10,8,7,6,0,1,5,4,2,3],
 qd 10 (.mv (.t 59)) [9,7,6,0,1,5,4,2,3,11,10,8]])
 (.seq (.reg [qm 60 5,
 qm 61 1,
 qm 62 7,
 qo 63 (.ixa 7 (.t 61) (.t 62)),
 qo 64 (.ldn 7 (.t 63)),
 qo 65 (.call (.f 43) [(.t 60),(.t 64),(qk 0)]),
 qm 11 65])
 (.seq (.seq (.reg [qm 66 1,
 qm 67 7,
 qo 68 (.ixa 7 (.t 66) (.t 67)),
 qo 69 (.fad 0 (.t 68)),
 qo 70 (.ld1 (.t 69)),
 qo 71 (.bin .lss (.t 70) (qk 1)),
 qm 72 71,
 qg 73 (.mv (.t 1)) 72 false,
 qg 74 (.mv (.t 7)) 72 false,
 qg 75 (.ixa 7 (.t 73) (.t 74)) 72 false,
 qg 76 (.fad 0 (.t 75)) 72 false,
 qg 77 (.ld1 (.t 76)) 72 false,
 qg 78 (.bin .gtr (.t 77) (qk 6)) 72 false,
 qo 79 (.pick (.t 72) qt (.t 78))])
 (.cond (.t 79) (.seq (.reg [qo 10 (.mv (qk 1))])
 (.reg [qo 80 (.ldn 6 (.t 8)),
 qn (.st 6 (.t 9) (.t 80))]))
 .skip))
 (.seq (.seq (.reg [qm 81 11,
 qo 82 (.bin .eql (.t 81) (qk 3)),
 qm 83 82,
 qg 84 (.mv (.t 10)) 83 true,
 qg 85 (.bin .eql (.t 84) (qk 0)) 83 true,
 qo 86 (.pick (.t 83) (.t 85) qf)])
 (.cond (.t 86) (.reg [qo 87 (.ldn 6 (.t 8)),
 qn (.st 6 (.t 9) (.t 87))])
 (.seq (.reg [qm 88 11,
 qm 89 10,
 qo 90 (.bin .neq (.t 88) (.t 89))])
 (.cond (.t 90) (.seq (.reg [qo 4 (.mv qf)])
 .ret)
 .skip))))
 (.seq (.regD [qm 91 5,
 qd 92 (.call (.f 39) [(.t 91)]) [0],
 qo 93 (.ldn 6 (.t 9)),
 qd 94 (.call (.f 20) [(.t 92),(.t 93)]) [1,0,2],
 qd 95 (.not (.t 94)) [3,1,0,2]])
 (.cond (.t 95) (.seq (.reg [qo 4 (.mv qf)])
 .ret)
 .skip))))))))
 (.reg [qm 46 7,
 qo 47 (.bin .add (.t 46) (qk 1)),
 qm 7 47]))))))
 (.seq (.reg [qm 96 6,
 qo 97 (.bin .eql (.t 96) (qk 0)),
 qm 4 97])
 .ret)))))),
[(.t 4)])
theorem irOk9 : convFn Tryz.prog Tryz.f9 = some ir9 := by kernel_rfl


def opsC (l : List OpD) : LV := .d (.lst 7 (l.map opR))
def boxCf (c : ConfD) : LObj := .box 23 [.int c.nodes, .int c.queues, .int c.quota, .int c.wave, .int c.lease, .int c.retry, .int c.deadline, .int c.room, .int c.disk]
def ctlB3 (x : CtlD) : LObj := .box 195 [.int x.c.nodes, .int x.c.queues, .int x.c.quota, .int x.c.wave, .int x.c.lease, .int x.c.retry, .int x.c.deadline, .int x.c.room, .int x.c.disk, .ptr 1 0, .ptr 6 0, .ptr 3 0, nodesV x.s.nodes, jobsV x.s.jobs, .int x.s.goal, .int x.s.prior, .int x.s.mode, .int x.s.term, .sl 5 x.lines.length 26 0 x.lines.length, .bool x.down, .int x.noted]
def lawO (c : ConfD) (x : CtlD) : List LObj := [boxCf c, .box 150 [.sl 2 x.j.n 1 0 x.j.n, .d (.val (.slice none 0 0)), .int x.j.s], .dat 5 1 (byteR x.j.l), .box 190 (.int x.room :: .int x.term :: (x.sh.flatMap shC ++ [.int x.wr])), ctlB3 x, linesO x.lines, .box 160 [.ptr 1 0, .ptr 7 0, .ptr 8 0, .int x.j.cnt, .int x.j.age], .box 243 [.ptr 1 0, .int 0, .int ((x.j.n / 4 : Nat) : Int)], .box 245 [.ptr 1 0, .int ((2 * (x.j.n / 4) : Nat) : Int), .int ((x.j.n - 2 * (x.j.n / 4) : Nat) : Int), .int x.j.us]]
def asksS (c : ConfD) (l : List OpD) (q : Nat × CtlD) : St := ⟨[(1, opsC l), (2, .ptr 0 0), (4, .bool false), (5, .ptr 4 0), (6, .int 0), (7, .int q.1)], (lawO c q.2).map some⟩
theorem asks_cases {x : CtlD} (h : XOK x) {c : ConfD} (hc : x.c = c) (o : OpD) (now : Int) :
    (¬ (1 ≤ o.kind ∧ o.kind ≤ 6) ∧ x.doE o = 1 ∧ (x.doX o now).s = x.s) ∨
    ((1 ≤ o.kind ∧ o.kind ≤ 6) ∧ (applyD c x.s o).2 = 0 ∧ x.doE o = 0 ∧ (x.doX o now).s = (applyD c x.s o).1) ∨
    ((1 ≤ o.kind ∧ o.kind ≤ 6) ∧ (applyD c x.s o).2 = 0 ∧ x.doE o = 3 ∧ (x.doX o now).s = x.s) ∨
    ((1 ≤ o.kind ∧ o.kind ≤ 6) ∧ (applyD c x.s o).2 ≠ 0 ∧ x.doE o = (applyD c x.s o).2 ∧ (x.doX o now).s = x.s ∧ (applyD c x.s o).1 = x.s) := by
  subst hc
  by_cases hk : 1 ≤ o.kind ∧ o.kind ≤ 6
  case neg => exact .inl ⟨hk, by unfold CtlD.doE; rw [if_neg hk], by unfold CtlD.doX; rw [if_neg hk]⟩
  refine .inr ?_
  have h1 : x.doE o = x.freshE o := by unfold CtlD.doE; rw [if_pos hk]
  have h2 : x.doX o now = x.noteX o now := by unfold CtlD.doX; rw [if_pos hk]
  rw [h1, h2]
  by_cases hf : x.freshE o = 0
  · exact .inl ⟨hk, (fresh_ok hf).1, hf, by unfold CtlD.noteX; rw [if_pos hf]⟩
  · have h3 : (x.noteX o now).s = x.s := by unfold CtlD.noteX; rw [if_neg hf]
    by_cases hw : (applyD x.c x.s o).2 = 0
    · refine .inr (.inl ⟨hk, hw, ?_, h3⟩)
      unfold CtlD.freshE at hf ⊢
      rw [if_neg (by simpa using hw)] at hf ⊢
      split at hf
      · exact absurd rfl hf
      · rename_i h4; rw [if_neg h4]
    · refine .inr (.inr ⟨hk, hw, ?_, h3, ((apply_step h.right o).2 hw)⟩)
      unfold CtlD.freshE
      rw [if_pos hw]
set_option maxHeartbeats 4000000 in
theorem ctlAsks_tri0 (halive : Tri Tryz.prog tabF 26 [] [] (.bool true) []) (c : ConfD) (l : List OpD) : Tri Tryz.prog tabF 9 [confV c, opsC l] [] (.bool true) [] := by
  refine tri_W0 Tryz.func9 (by decide) irOk9 (Nat.le_of_ble_eq_true rfl) rfl ?_
  simp only [ir9,go_sem,simprocAttr]
  refine W_calld (halive) rfl rfl rfl rfl ?_; simp only [go_sem,simprocAttr]
  refine W_calld (may9_tri c) rfl rfl rfl rfl ?_; simp only [go_sem,simprocAttr]
  cases hm : mayB c with
  | false => simp only [go_sem,simprocAttr]
  | true =>
  simp only [opsC,go_sem,simprocAttr]
  by_cases h0 : c.disk > 4000
  · simp only [decide_eq_true h0,go_sem,simprocAttr]
  simp only [decide_eq_false h0,go_sem,simprocAttr]
  by_cases h1 : (l.length : Int) > 60
  · simp only [decide_eq_true h1,go_sem,simprocAttr]
  simp only [decide_eq_false h1,go_sem,simprocAttr]
  have hdk : 2000 ≤ c.disk := by
    unfold mayB at hm
    simp only [Bool.and_eq_true] at hm
    exact (within_t hm.2).1
  obtain ⟨n, hn⟩ : ∃ n : Nat, c.disk = n := ⟨c.disk.toNat, by omega⟩
  have hdn := diskNew_tri (G := tabF) n (by omega) (by omega)
  have hsn := storeNew_tri (G := tabF) c.room
  have hb := Tri.up (boot0_tri c hm n (by omega) 0 (if c.room > 0 then c.room else 0) 0 (List.replicate 25 shZ) (by rw [List.length_replicate]) 0 0 (by decide)) tabF_book
  have hok := ctl1_ok hm (n := n) (by omega) 0 (if c.room > 0 then c.room else 0) 0 (List.replicate 25 shZ) (by rw [List.length_replicate]) 0 0
  have hc1 : (ctl1 c n 0 (if c.room > 0 then c.room else 0) 0 (List.replicate 25 shZ) 0 0).c = c := by unfold ctl1; exact noteX_c _ _ _
  have hd1 : (ctl1 c n 0 (if c.room > 0 then c.room else 0) 0 (List.replicate 25 shZ) 0 0).down = false := by unfold ctl1; exact noteX_down _ _ _
  generalize ctl1 c n 0 (if c.room > 0 then c.room else 0) 0 (List.replicate 25 shZ) 0 0 = x0 at *
  generalize hsh : List.replicate 25 shZ = sh at *
  generalize (if c.room > 0 then c.room else 0) = room at *
  simp only [dskO,List.length_replicate] at hdn hb
  simp only [stO,bootO,ctlB2,List.cons_append,List.nil_append] at hsn hb
  rw [← hn] at hdn
  refine WD_calln hdn rfl rfl rfl ?_
  simp only [go_sem,simprocAttr]
  refine WD_calln hsn rfl rfl rfl ?_
  simp only [rnL_cat,shC_rn,go_sem,simprocAttr]
  refine WD_callo [1, 2, 3] (hb) rfl (by simp only [argRs,argR,List.map_cons,List.map_nil,go_sem,simprocAttr,rnL_cat,shC_rn,idlL_cat,shC_idl]) (by decide) (by simp only [go_sem,simprocAttr,rnL_cat,shC_rn,idlL_cat,shC_idl]) (by simp only [go_sem,simprocAttr,List.all_cons,List.all_nil,rnL_cat,shC_rn,idlL_cat,shC_idl]) (by simp) ?_; simp only [go_sem,simprocAttr,rnL_cat,shC_rn,idlL_cat,shC_idl]
  refine W_opsD_end rfl ?_
  simp only [go_sem,simprocAttr]
  refine W_loopI [1, 2, 4, 5, 6, 7] [] (fun q : Nat × CtlD => q.1 ≤ l.length ∧ XOK q.2 ∧ q.2.c = c ∧ q.2.down = false) (fun q => l.length - q.1) (asksS c l) (0, x0) ?_ ⟨Nat.zero_le _, hok, hc1, hd1⟩ ?_
  · simp only [asksS,lawO,boxCf,ctlB3,linesO,opsC,Int.natCast_zero,go_sem,simprocAttr]
  rintro ⟨i, x⟩ ⟨hi, hx, hc, hd⟩
  dsimp only at hi hx hc hd
  simp only [asksS,lawO,boxCf,ctlB3,linesO,opsC,go_sem,simprocAttr]
  by_cases hlt : i < l.length
  case neg =>
    simp only [decide_eq_false (show ¬ ((i : Nat) : Int) < ((l.length : Nat) : Int) by omega),go_sem,simprocAttr]
  have hg := get_mapD (f := opR) zeroOp hlt
  generalize l.getD i zeroOp = o at *
  simp only [opR] at hg
  have hst := cstate_tri (G := tabF) x hd (by have := hx.right.len; omega) (by have := hx.right.jobs; omega)
  have hap := Tri.up (apply_tri c x.s o) tabF_book
  have hdo := Tri.up (cdo_tri x hx hd o 0) tabF_book
  have hx2 := hx.dO o 0
  have hd2 : (x.doX o 0).down = false := by
    unfold CtlD.doX
    split
    · rw [noteX_down, hd]
    · exact hd
  have hc2 : (x.doX o 0).c = c := by
    unfold CtlD.doX
    split
    · rw [noteX_c, hc]
    · exact hc
  have hst2 := cstate_tri (G := tabF) (x.doX o 0) hd2 (by have := hx2.right.len; omega) (by have := hx2.right.jobs; omega)
  have hsame : ∀ s t : StateD, s = t → s.nodes.length ≤ 1000 → s.jobs.length ≤ 1000 → Tri Tryz.prog tabF 20 [stateV s, stateV t] [] (.bool true) [] := fun s t h h1 h2 => by
    subst h
    have := same9_tri (G := tabF) s s (by omega) (by omega)
    rw [decide_eq_true rfl] at this
    exact this
  have hcase := asks_cases hx hc o 0
  have hln : x.s.nodes.length ≤ 1000 := by have := hx.right.len; omega
  have hlj : x.s.jobs.length ≤ 1000 := by have := hx.right.jobs; omega
  have hln2 : (x.doX o 0).s.nodes.length ≤ 1000 := by have := hx2.right.len; omega
  have hlj2 : (x.doX o 0).s.jobs.length ≤ 1000 := by have := hx2.right.jobs; omega
  have hyn : (x.doX o 0).j.n = x.j.n := by
    unfold CtlD.doX
    split
    · exact noteX_n _ _ _
    · rfl
  generalize hy : x.doX o 0 = y at *
  generalize he : x.doE o = e at *
  generalize (applyD c x.s o).1 = t at *
  generalize (applyD c x.s o).2 = w at *
  simp only [ctlO,ctlB,linesO,List.cons_append,List.nil_append] at hst hdo hst2
  simp only [decide_eq_true (show ((i : Nat) : Int) < ((l.length : Nat) : Int) by omega),go_sem,simprocAttr]
  refine W_calll [4, 6, 1, 7, 8, 2, 3, 5] (hst) rfl (by simp only [argRs,argR,List.map_cons,List.map_nil,go_sem,simprocAttr,rnL_cat,shC_rn,idlL_cat,shC_idl]) (by decide) (by simp only [go_sem,simprocAttr,rnL_cat,shC_rn,idlL_cat,shC_idl]) (by simp only [go_sem,simprocAttr,List.all_cons,List.all_nil,rnL_cat,shC_rn,idlL_cat,shC_idl]) ?_; simp only [go_sem,simprocAttr,rnL_cat,shC_rn,idlL_cat,shC_idl]
  simp only [hg,hlt,go_sem,simprocAttr]
  refine WD_calld (hap) rfl rfl rfl rfl ?_; simp only [go_sem,simprocAttr]
  refine W_opsD_end rfl ?_
  simp only [hg,hlt,go_sem,simprocAttr]
  refine W_callo [4, 6, 1, 7, 8, 2, 3, 5] (hdo) rfl (by simp only [argRs,argR,List.map_cons,List.map_nil,go_sem,simprocAttr,rnL_cat,shC_rn,idlL_cat,shC_idl]) (by decide) (by simp only [go_sem,simprocAttr,rnL_cat,shC_rn,idlL_cat,shC_idl]) (by simp only [go_sem,simprocAttr,List.all_cons,List.all_nil,rnL_cat,shC_rn,idlL_cat,shC_idl]) (by simp) ?_; simp only [go_sem,simprocAttr,rnL_cat,shC_rn,idlL_cat,shC_idl]
  simp only [hg,hlt,go_sem,simprocAttr]
  have hc58 : (1 < l.length + 1) := by omega
  rcases hcase with ⟨hk, rfl, hys⟩ | ⟨hk, rfl, rfl, hys⟩ | ⟨hk, rfl, rfl, hys⟩ | ⟨hk, hw, rfl, hys, rfl⟩
  · by_cases hk1 : o.kind < 1
    · simp only [decide_eq_true hk1,go_sem,simprocAttr]
      refine WD_calll [4, 6, 1, 7, 8, 2, 3, 5] (hst2) rfl (by simp only [argRs,argR,List.map_cons,List.map_nil,go_sem,simprocAttr,rnL_cat,shC_rn,idlL_cat,shC_idl]) (by decide) (by simp only [go_sem,simprocAttr,rnL_cat,shC_rn,idlL_cat,shC_idl]) (by simp only [go_sem,simprocAttr,List.all_cons,List.all_nil,rnL_cat,shC_rn,idlL_cat,shC_idl]) ?_; simp only [go_sem,simprocAttr,rnL_cat,shC_rn,idlL_cat,shC_idl]
      refine WD_calld (hsame y.s x.s hys hln2 hlj2) rfl rfl rfl rfl ?_; simp only [go_sem,simprocAttr]
      refine W_lpI (i + 1, y) ?_ ?_ ⟨show i + 1 ≤ l.length by omega, hx2, hc2, hd2⟩ (show l.length - (i + 1) < l.length - i by omega)
      · simp only [idlL_cat,shC_idl,go_sem,simprocAttr]
      · simp only [wrap_succ (show i < 9223372036854775807 by omega),hyn,asksS,lawO,boxCf,ctlB3,linesO,opsC,List.cons_append,List.nil_append,go_sem,simprocAttr]
    · simp only [decide_eq_false hk1,decide_eq_true (show o.kind > 6 by omega),hg,hlt,go_sem,simprocAttr]
      refine WD_calll [4, 6, 1, 7, 8, 2, 3, 5] (hst2) rfl (by simp only [argRs,argR,List.map_cons,List.map_nil,go_sem,simprocAttr,rnL_cat,shC_rn,idlL_cat,shC_idl]) (by decide) (by simp only [go_sem,simprocAttr,rnL_cat,shC_rn,idlL_cat,shC_idl]) (by simp only [go_sem,simprocAttr,List.all_cons,List.all_nil,rnL_cat,shC_rn,idlL_cat,shC_idl]) ?_; simp only [go_sem,simprocAttr,rnL_cat,shC_rn,idlL_cat,shC_idl]
      refine WD_calld (hsame y.s x.s hys hln2 hlj2) rfl rfl rfl rfl ?_; simp only [go_sem,simprocAttr]
      refine W_lpI (i + 1, y) ?_ ?_ ⟨show i + 1 ≤ l.length by omega, hx2, hc2, hd2⟩ (show l.length - (i + 1) < l.length - i by omega)
      · simp only [idlL_cat,shC_idl,go_sem,simprocAttr]
      · simp only [wrap_succ (show i < 9223372036854775807 by omega),hyn,asksS,lawO,boxCf,ctlB3,linesO,opsC,List.cons_append,List.nil_append,go_sem,simprocAttr]
  · simp only [decide_eq_false (show ¬ o.kind < 1 by omega),decide_eq_false (show ¬ o.kind > 6 by omega),hg,hlt,go_sem,simprocAttr]
    refine WD_calll [4, 6, 1, 7, 8, 2, 3, 5] (hst2) rfl (by simp only [argRs,argR,List.map_cons,List.map_nil,go_sem,simprocAttr,rnL_cat,shC_rn,idlL_cat,shC_idl]) (by decide) (by simp only [go_sem,simprocAttr,rnL_cat,shC_rn,idlL_cat,shC_idl]) (by simp only [go_sem,simprocAttr,List.all_cons,List.all_nil,rnL_cat,shC_rn,idlL_cat,shC_idl]) ?_; simp only [go_sem,simprocAttr,rnL_cat,shC_rn,idlL_cat,shC_idl]
    refine WD_calld (hsame y.s t hys hln2 hlj2) rfl rfl rfl rfl ?_; simp only [go_sem,simprocAttr]
    refine W_lpI (i + 1, y) ?_ ?_ ⟨show i + 1 ≤ l.length by omega, hx2, hc2, hd2⟩ (show l.length - (i + 1) < l.length - i by omega)
    · simp only [idlL_cat,shC_idl,go_sem,simprocAttr]
    · simp only [wrap_succ (show i < 9223372036854775807 by omega),hyn,asksS,lawO,boxCf,ctlB3,linesO,opsC,List.cons_append,List.nil_append,go_sem,simprocAttr]
  · simp only [decide_eq_false (show ¬ o.kind < 1 by omega),decide_eq_false (show ¬ o.kind > 6 by omega),hg,hlt,go_sem,simprocAttr]
    refine WD_calll [4, 6, 1, 7, 8, 2, 3, 5] (hst2) rfl (by simp only [argRs,argR,List.map_cons,List.map_nil,go_sem,simprocAttr,rnL_cat,shC_rn,idlL_cat,shC_idl]) (by decide) (by simp only [go_sem,simprocAttr,rnL_cat,shC_rn,idlL_cat,shC_idl]) (by simp only [go_sem,simprocAttr,List.all_cons,List.all_nil,rnL_cat,shC_rn,idlL_cat,shC_idl]) ?_; simp only [go_sem,simprocAttr,rnL_cat,shC_rn,idlL_cat,shC_idl]
    refine WD_calld (hsame y.s x.s hys hln2 hlj2) rfl rfl rfl rfl ?_; simp only [go_sem,simprocAttr]
    refine W_lpI (i + 1, y) ?_ ?_ ⟨show i + 1 ≤ l.length by omega, hx2, hc2, hd2⟩ (show l.length - (i + 1) < l.length - i by omega)
    · simp only [idlL_cat,shC_idl,go_sem,simprocAttr]
    · simp only [wrap_succ (show i < 9223372036854775807 by omega),hyn,asksS,lawO,boxCf,ctlB3,linesO,opsC,List.cons_append,List.nil_append,go_sem,simprocAttr]
  · have hw0 : (e == 0) = false := beq_eq_false_iff_ne.2 hw
    by_cases h3 : e = 3
    · have h3b : (e == 3) = true := beq_iff_eq.2 h3
      simp only [decide_eq_false (show ¬ o.kind < 1 by omega),decide_eq_false (show ¬ o.kind > 6 by omega),hg,hlt,h3b,hw0,bne_self_eq_false,go_sem,simprocAttr]
      refine WD_calll [4, 6, 1, 7, 8, 2, 3, 5] (hst2) rfl (by simp only [argRs,argR,List.map_cons,List.map_nil,go_sem,simprocAttr,rnL_cat,shC_rn,idlL_cat,shC_idl]) (by decide) (by simp only [go_sem,simprocAttr,rnL_cat,shC_rn,idlL_cat,shC_idl]) (by simp only [go_sem,simprocAttr,List.all_cons,List.all_nil,rnL_cat,shC_rn,idlL_cat,shC_idl]) ?_; simp only [go_sem,simprocAttr,rnL_cat,shC_rn,idlL_cat,shC_idl]
      refine WD_calld (hsame y.s x.s hys hln2 hlj2) rfl rfl rfl rfl ?_; simp only [go_sem,simprocAttr]
      refine W_lpI (i + 1, y) ?_ ?_ ⟨show i + 1 ≤ l.length by omega, hx2, hc2, hd2⟩ (show l.length - (i + 1) < l.length - i by omega)
      · simp only [idlL_cat,shC_idl,go_sem,simprocAttr]
      · simp only [wrap_succ (show i < 9223372036854775807 by omega),hyn,asksS,lawO,boxCf,ctlB3,linesO,opsC,List.cons_append,List.nil_append,go_sem,simprocAttr]
    · have h3b : (e == 3) = false := beq_eq_false_iff_ne.2 h3
      simp only [decide_eq_false (show ¬ o.kind < 1 by omega),decide_eq_false (show ¬ o.kind > 6 by omega),hg,hlt,h3b,hw0,bne_self_eq_false,go_sem,simprocAttr]
      refine WD_calll [4, 6, 1, 7, 8, 2, 3, 5] (hst2) rfl (by simp only [argRs,argR,List.map_cons,List.map_nil,go_sem,simprocAttr,rnL_cat,shC_rn,idlL_cat,shC_idl]) (by decide) (by simp only [go_sem,simprocAttr,rnL_cat,shC_rn,idlL_cat,shC_idl]) (by simp only [go_sem,simprocAttr,List.all_cons,List.all_nil,rnL_cat,shC_rn,idlL_cat,shC_idl]) ?_; simp only [go_sem,simprocAttr,rnL_cat,shC_rn,idlL_cat,shC_idl]
      refine WD_calld (hsame y.s x.s hys hln2 hlj2) rfl rfl rfl rfl ?_; simp only [go_sem,simprocAttr]
      refine W_lpI (i + 1, y) ?_ ?_ ⟨show i + 1 ≤ l.length by omega, hx2, hc2, hd2⟩ (show l.length - (i + 1) < l.length - i by omega)
      · simp only [idlL_cat,shC_idl,go_sem,simprocAttr]
      · simp only [wrap_succ (show i < 9223372036854775807 by omega),hyn,asksS,lawO,boxCf,ctlB3,linesO,opsC,List.cons_append,List.nil_append,go_sem,simprocAttr]
end Dv
