/- CtlSilence: it returns true. -/
import Derived.Test.YtkalnfkokkjliaaGreatDoorCC
import Derived.Test.YtkalnfkokkjliaaGreatDoorC17
set_option linter.unusedVariables false
set_option linter.unusedSimpArgs false
namespace Dv
open Go Go.Proofs

def ir8 : Nat × C × List RV := (106,
(.seq (.reg [qo 2 (.box 23 (.t 0)),
 qo 4 (.mv qf)])
 (.seq (.seq (.reg [qo 15 (.call (.f 26) []),
 qo 16 (.not (.t 15))])
 (.cond (.t 16) (.seq (.reg [qo 4 (.mv qf)])
 .ret)
 .skip))
 (.seq (.seq (.reg [qo 17 (.ldn 9 (.t 2)),
 qo 18 (.call (.f 14) [(.t 17)]),
 qo 19 (.not (.t 18)),
 qm 20 19,
 qg 21 (.fad 8 (.t 2)) 20 false,
 qg 22 (.ld1 (.t 21)) 20 false,
 qg 23 (.bin .gtr (.t 22) (qk 4000)) 20 false,
 qo 24 (.pick (.t 20) qt (.t 23))])
 (.cond (.t 24) (.seq (.reg [qo 4 (.mv qt)])
 .ret)
 .skip))
 (.seq (.regD [qo 26 (.ldn 9 (.t 2)),
 qo 27 (.fad 8 (.t 2)),
 qd 28 (.ld1 (.t 27)) [1],
 qd 29 (.call (.f 27) [(.t 28)]) [2,1],
 qo 30 (.fad 7 (.t 2)),
 qd 31 (.ld1 (.t 30)) [4],
 qd 32 (.call (.f 35) [(.t 31)]) [5,4,3,2,1],
 qd 33 (.call (.f 37) [(.t 26),(.t 29),(.t 32),(qk 0)]) [0,3,2,1,6,5,4],
 qd 25 (.mv (.t 33)) [7,0,3,2,1,6,5,4],
 qd 34 (.ext (.t 25) 0) [8,7,0,3,2,1,6,5,4],
 qd 35 (.ext (.t 25) 1) [8,7,0,3,2,1,6,5,4],
 qd 5 (.mv (.t 34)) [9,8,7,0,3,2,1,6,5,4],
 qd 6 (.mv (.t 35)) [10,8,7,0,3,2,1,6,5,4,11,9]])
 (.seq (.seq (.reg [qm 36 6,
 qo 37 (.bin .neq (.t 36) (qk 0))])
 (.cond (.t 37) (.seq (.reg [qo 4 (.mv qf)])
 .ret)
 .skip))
 (.seq (.seq (.reg [qo 7 (.mv (qk 0))])
 (.block 0 (.loop (.seq (.seq (.reg [qm 38 7,
 qo 39 (.fad 4 (.t 2)),
 qo 40 (.ld1 (.t 39)),
 qo 41 (.bin .lss (.t 38) (.t 40))])
 (.cond (.t 41) .skip
 (.exit 0)))
 (.seq (.block 1 (.seq (.reg [qm 45 5,
 qm 46 7,
 qo 47 (.call (.f 44) [(.t 45),(.t 46)]),
 qm 44 47,
 qo 48 (.ext (.t 44) 0),
 qo 49 (.ext (.t 44) 1),
 qo 8 (.new 37 [q0,q0,q0,q0,q0,q0,q0]),
 qn (.st 7 (.t 8) (.t 48)),
 qm 9 49])
 (.seq (.reg [qo 50 (.fad 0 (.t 8)),
 qo 51 (.ld1 (.t 50)),
 qo 52 (.bin .neq (.t 51) (qk 0))])
 (.cond (.t 52) (.seq (.reg [qo 4 (.mv qf)])
 .ret)
 .skip))))
 (.reg [qm 42 7,
 qo 43 (.bin .add (.t 42) (qk 1)),
 qm 7 43]))))))
 (.seq (.seq (.reg [qo 10 (.mv (qk 0))])
 (.block 2 (.loop (.seq (.seq (.reg [qm 53 10,
 qo 54 (.fad 0 (.t 2)),
 qo 55 (.ld1 (.t 54)),
 qo 56 (.bin .lss (.t 53) (.t 55))])
 (.cond (.t 56) .skip
 (.exit 2)))
 (.seq (.block 3 (.seq (.reg [qm 60 5,
 qo 61 (.fad 4 (.t 2)),
 qo 62 (.ld1 (.t 61)),
 qm 63 1,
 qo 64 (.cvt .i64 (.t 63)),
 qo 65 (.bin .add (.t 62) (.t 64)),
 qo 66 (.call (.f 44) [(.t 60),(.t 65)]),
 qm 59 66,
 qo 67 (.ext (.t 59) 0),
 qo 68 (.ext (.t 59) 1),
 qo 11 (.new 37 [q0,q0,q0,q0,q0,q0,q0]),
 qn (.st 7 (.t 11) (.t 67)),
 qm 12 68])
 (.seq (.reg [qo 69 (.fad 0 (.t 11)),
 qo 70 (.ld1 (.t 69)),
 qo 71 (.bin .neq (.t 70) (qk 7)),
 qm 72 71,
 qg 73 (.fad 1 (.t 11)) 72 false,
 qg 74 (.ld1 (.t 73)) 72 false,
 qg 75 (.mv (.t 10)) 72 false,
 qg 76 (.bin .neq (.t 74) (.t 75)) 72 false,
 qo 77 (.pick (.t 72) qt (.t 76)),
 qm 78 77,
 qg 79 (.mv (.t 12)) 78 false,
 qg 80 (.len (.t 79)) 78 false,
 qg 81 (.fad 0 (.t 2)) 78 false,
 qg 82 (.ld1 (.t 81)) 78 false,
 qg 83 (.mv (.t 10)) 78 false,
 qg 84 (.bin .sub (.t 82) (.t 83)) 78 false,
 qg 85 (.bin .sub (.t 84) (qk 1)) 78 false,
 qg 86 (.bin .gtr (.t 80) (.t 85)) 78 false,
 qo 87 (.pick (.t 78) qt (.t 86))])
 (.cond (.t 87) (.seq (.reg [qo 4 (.mv qf)])
 .ret)
 .skip))))
 (.reg [qm 57 10,
 qo 58 (.bin .add (.t 57) (qk 1)),
 qm 10 58]))))))
 (.seq (.reg [qm 89 5,
 qo 90 (.fad 4 (.t 2)),
 qo 91 (.ld1 (.t 90)),
 qm 92 1,
 qo 93 (.cvt .i64 (.t 92)),
 qo 94 (.bin .add (.t 91) (.t 93)),
 qo 95 (.call (.f 44) [(.t 89),(.t 94)]),
 qm 88 95,
 qo 96 (.ext (.t 88) 0),
 qo 97 (.ext (.t 88) 1),
 qo 13 (.new 37 [q0,q0,q0,q0,q0,q0,q0]),
 qn (.st 7 (.t 13) (.t 96)),
 qm 14 97])
 (.seq (.reg [qo 98 (.fad 0 (.t 13)),
 qo 99 (.ld1 (.t 98)),
 qo 100 (.bin .eql (.t 99) (qk 0)),
 qm 101 100,
 qg 102 (.mv (.t 14)) 101 true,
 qg 103 (.len (.t 102)) 101 true,
 qg 104 (.bin .eql (.t 103) (qk 0)) 101 true,
 qo 105 (.pick (.t 101) (.t 104) qf),
 qm 4 105])
 .ret))))))))),
[(.t 4)])
theorem irOk8 : convFn Tryz.prog Tryz.f8 = some ir8 := by kernel_rfl


def boxC9 (c : ConfD) : LObj := .box 23 [.int c.nodes, .int c.queues, .int c.quota, .int c.wave, .int c.lease, .int c.retry, .int c.deadline, .int c.room, .int c.disk]
def ctlB9 (x : CtlD) : LObj := .box 195 [.int x.c.nodes, .int x.c.queues, .int x.c.quota, .int x.c.wave, .int x.c.lease, .int x.c.retry, .int x.c.deadline, .int x.c.room, .int x.c.disk, .ptr 1 0, .ptr 6 0, .ptr 3 0, nodesV x.s.nodes, jobsV x.s.jobs, .int x.s.goal, .int x.s.prior, .int x.s.mode, .int x.s.term, .sl 5 x.lines.length 26 0 x.lines.length, .bool x.down, .int x.noted]
def lawO9 (c : ConfD) (x : CtlD) : List LObj := [boxC9 c, .box 150 [.sl 2 x.j.n 1 0 x.j.n, .d (.val (.slice none 0 0)), .int x.j.s], .dat 5 1 (byteR x.j.l), .box 190 (.int x.room :: .int x.term :: (x.sh.flatMap shC ++ [.int x.wr])), ctlB9 x, linesO x.lines, .box 160 [.ptr 1 0, .ptr 7 0, .ptr 8 0, .int x.j.cnt, .int x.j.age], .box 243 [.ptr 1 0, .int 0, .int ((x.j.n / 4 : Nat) : Int)], .box 245 [.ptr 1 0, .int ((2 * (x.j.n / 4) : Nat) : Int), .int ((x.j.n - 2 * (x.j.n / 4) : Nat) : Int), .int x.j.us]]
theorem sil_act {c : ConfD} {d : Nat} {x : CtlD} (h : SilP c d x) (hd : d ≤ c.nodes.toNat) (now : Int) (hnow : 0 ≤ now ∧ now ≤ 1000000) (y : CtlD) (hy : x.actY now none none = y) (e : Nat) (he : SilP c e y) (hed : e ≤ c.nodes.toNat) : Tri Tryz.prog tabF 44 [.ptr 0 0, .int now] (ctlO x) (.tup [opV (x.actO now none none), msgsV (tellsX y (fun _ => 0) now x.lines.length).2]) (ctlO (tellsX y (fun _ => 0) now x.lines.length).1) := by
  subst hy
  have hf := silFacts_tri now h.nodes hd
  have hp := silPlan_tri c now h.nodes hd
  have hl := h.len
  refine act_tri x h.ok h.down now hnow (fun l hl => by have := (h.lines l hl).1; omega) none none ?_ ?_ _ (fun i hi => ?_)
  · rw [h.st, h.reps]; exact hf
  · rw [h.st, h.cf]; exact hp
  · refine order_tri c _ (by have := he.ok.right; rw [he.cf] at this; exact this) _ i (by rw [← he.ok.lines]; exact hi) _ _ _ _ (fun j hj => ?_)
    rw [he.st] at hj
    exact absurd hj (by simp [quietS]; omega)
theorem sil_idle {c : ConfD} {d : Nat} {x : CtlD} (h : SilP c d x) (now : Int) (hs : x.silI now = -1) : x.actY now none none = x ∧ x.actO now none none = zeroOp := by
  have hn : x.nextO now none none = none := by unfold CtlD.nextO; rw [hs, if_neg (by decide)]
  unfold CtlD.actY CtlD.actO
  rw [hn]
  exact ⟨rfl, rfl⟩
theorem sil_falls {c : ConfD} {d : Nat} {x : CtlD} (h : SilP c d x) (hd : d < c.nodes.toNat) (now : Int) (hs : x.silI now = d) : x.actY now none none = x.noteX (downO d) now ∧ x.actO now none none = downO d := by
  have hn : x.nextO now none none = some (downO d) := by unfold CtlD.nextO; rw [hs, if_pos (by omega)]; rfl
  unfold CtlD.actY CtlD.actO
  rw [hn]
  exact ⟨rfl, if_pos (h.fresh0 hd).1⟩
def silS1 (c : ConfD) (late : Int) (q : Nat × CtlD) : St := ⟨[(1, .d (.val (.int .u8 late))), (2, .ptr 0 0), (4, .bool false), (5, .ptr 4 0), (7, .int q.1)], (lawO9 c q.2).map some⟩
def silS2 (c : ConfD) (late : Int) (q : Nat × CtlD) : St := ⟨[(1, .d (.val (.int .u8 late))), (2, .ptr 0 0), (4, .bool false), (5, .ptr 4 0), (10, .int q.1)], (lawO9 c q.2).map some⟩
set_option maxHeartbeats 4000000 in
theorem ctlSilence_tri0 (halive : Tri Tryz.prog tabF 26 [] [] (.bool true) []) (c : ConfD) (late : Int) (hlate : 0 ≤ late ∧ late ≤ 255) : Tri Tryz.prog tabF 8 [confV c, .d (.val (.int .u8 late))] [] (.bool true) [] := by
  refine tri_W0 Tryz.func8 (by decide) irOk8 (Nat.le_of_ble_eq_true rfl) rfl ?_
  simp only [ir8,go_sem,simprocAttr]
  refine W_calld (halive) rfl rfl rfl rfl ?_; simp only [go_sem,simprocAttr]
  refine W_calld (may9_tri c) rfl rfl rfl rfl ?_; simp only [go_sem,simprocAttr]
  cases hm : mayB c with
  | false => simp only [go_sem,simprocAttr]
  | true =>
  simp only [go_sem,simprocAttr]
  by_cases h0 : c.disk > 4000
  · simp only [decide_eq_true h0,go_sem,simprocAttr]
  simp only [decide_eq_false h0,go_sem,simprocAttr]
  have hdk : 2000 ≤ c.disk := by
    unfold mayB at hm
    simp only [Bool.and_eq_true] at hm
    exact (within_t hm.2).1
  have hls : 2 ≤ c.lease ∧ c.lease ≤ 30 := by
    unfold mayB at hm
    simp only [Bool.and_eq_true] at hm
    exact within_t hm.1.1.1.1.2
  have hcn := mayB_nodes hm
  obtain ⟨n, hn⟩ : ∃ n : Nat, c.disk = n := ⟨c.disk.toNat, by omega⟩
  have hdn := diskNew_tri (G := tabF) n (by omega) (by omega)
  have hsn := storeNew_tri (G := tabF) c.room
  have hb := Tri.up (boot0_tri c hm n (by omega) 0 (if c.room > 0 then c.room else 0) 0 (List.replicate 25 shZ) (by rw [List.length_replicate]) 0 0 (by decide)) tabF_book
  have hok := sil_boot hm hn (by omega) (if c.room > 0 then c.room else 0)
  generalize ctl1 c n 0 (if c.room > 0 then c.room else 0) 0 (List.replicate 25 shZ) 0 0 = x0 at *
  generalize hsh : List.replicate 25 shZ = sh at *
  generalize (if c.room > 0 then c.room else 0) = room at *
  simp only [dskO,List.length_replicate] at hdn hb
  simp only [stO,bootO,ctlB2,List.cons_append,List.nil_append] at hsn hb
  rw [← hn] at hdn
  refine WD_calln hdn rfl rfl rfl ?_
  simp only [go_sem,simprocAttr]
  refine WD_calln hsn rfl rfl rfl ?_
  simp only [rnL_cat,shC_rn,go_sem,simprocAttr]
  refine WD_callo [1, 2, 3] (hb) rfl (by simp only [argRs,argR,List.map_cons,List.map_nil,go_sem,simprocAttr,rnL_cat,shC_rn,idlL_cat,shC_idl]) (by decide) (by simp only [go_sem,simprocAttr,rnL_cat,shC_rn,idlL_cat,shC_idl]) (by simp only [go_sem,simprocAttr,List.all_cons,List.all_nil,rnL_cat,shC_rn,idlL_cat,shC_idl]) (by simp) ?_; simp only [go_sem,simprocAttr,rnL_cat,shC_rn,idlL_cat,shC_idl]
  refine W_opsD_end rfl ?_
  simp only [go_sem,simprocAttr]
  refine W_loopI [1, 2, 4, 5, 7] [] (fun q : Nat × CtlD => (q.1 : Int) ≤ c.lease ∧ SilP c 0 q.2) (fun q => c.lease.toNat - q.1) (silS1 c late) (0, x0) ?_ ⟨by show (0 : Int) ≤ _; omega, hok⟩ ?_
  · simp only [silS1,lawO9,boxC9,ctlB9,linesO,Int.natCast_zero,go_sem,simprocAttr]
  rintro ⟨i, x⟩ ⟨hi, hx⟩
  dsimp only at hi hx
  simp only [silS1,lawO9,boxC9,ctlB9,linesO,go_sem,simprocAttr]
  by_cases hlt : (i : Int) < c.lease
  · obtain ⟨q1, q2⟩ := sil_idle hx (i : Int) (hx.early (by omega))
    have hact := sil_act hx (Nat.zero_le _) (i : Int) (by omega) x q1 0 hx (Nat.zero_le _)
    rw [q2] at hact
    have hz := hx.tells (fun _ => 0) (i : Int) x.lines.length
    have ht := tells_of x (fun _ => 0) (i : Int) x.lines.length
    have hzj := ht.j
    generalize tellsX x (fun _ => 0) (i : Int) x.lines.length = F at *
    simp only [ctlO,ctlB,linesO,List.cons_append,List.nil_append] at hact
    simp only [decide_eq_true hlt,go_sem,simprocAttr]
    refine W_callo [4, 6, 1, 7, 8, 2, 3, 5] (hact) rfl (by simp only [argRs,argR,List.map_cons,List.map_nil,go_sem,simprocAttr,rnL_cat,shC_rn,idlL_cat,shC_idl]) (by decide) (by simp only [go_sem,simprocAttr,rnL_cat,shC_rn,idlL_cat,shC_idl]) (by simp only [go_sem,simprocAttr,List.all_cons,List.all_nil,rnL_cat,shC_rn,idlL_cat,shC_idl]) (by simp) ?_; simp only [go_sem,simprocAttr,rnL_cat,shC_rn,idlL_cat,shC_idl]
    refine W_lpI (i + 1, F.1) ?_ ?_ ⟨show ((i + 1 : Nat) : Int) ≤ c.lease by omega, hz⟩ (show c.lease.toNat - (i + 1) < c.lease.toNat - i by omega)
    · simp only [idlL_cat,shC_idl,go_sem,simprocAttr]
    · simp only [wrap_succ (show i < 9223372036854775807 by omega),silS1,lawO9,boxC9,ctlB9,linesO,List.cons_append,List.nil_append,go_sem,simprocAttr]
  simp only [decide_eq_false hlt,go_sem,simprocAttr]
  have hw : IntKind.i64.wrap (c.lease + IntKind.i64.wrap late) = c.lease + late := by
    rw [show IntKind.i64.wrap late = late from wrap_in (by omega) (by omega), wrap_in (by omega) (by omega)]
  refine W_loopI [1, 2, 4, 5, 10] [] (fun q : Nat × CtlD => (q.1 : Int) ≤ c.nodes ∧ SilP c q.1 q.2) (fun q => c.nodes.toNat - q.1) (silS2 c late) (0, x) ?_ ⟨by show (0 : Int) ≤ _; omega, hx⟩ ?_
  · simp only [silS2,lawO9,boxC9,ctlB9,linesO,Int.natCast_zero,go_sem,simprocAttr]
  rintro ⟨d, z⟩ ⟨hd, hz⟩
  dsimp only at hd hz
  simp only [silS2,lawO9,boxC9,ctlB9,linesO,go_sem,simprocAttr]
  by_cases hlt : (d : Int) < c.nodes
  · have hdn2 : d < c.nodes.toNat := by omega
    obtain ⟨q1, q2⟩ := sil_falls hz hdn2 (c.lease + late) (hz.at (by omega) hdn2)
    have hy := hz.next hdn2 (c.lease + late)
    have hact := sil_act hz (by omega) (c.lease + late) (by omega) _ q1 (d + 1) hy (by omega)
    rw [q2] at hact
    generalize z.noteX (downO d) (c.lease + late) = y at *
    have hf := hy.tells (fun _ => 0) (c.lease + late) z.lines.length
    have hfew := tells_few y (fun _ => 0) (c.lease + late) (d + 1) (fun j hj => by rw [hy.st]; exact silOrder _ _ _ _ hj (by omega)) z.lines.length
    have hzl := hz.len
    generalize tellsX y (fun _ => 0) (c.lease + late) z.lines.length = F at *
    simp only [ctlO,ctlB,linesO,List.cons_append,List.nil_append,downO] at hact
    simp only [decide_eq_true hlt,hw,go_sem,simprocAttr]
    refine W_callo [4, 6, 1, 7, 8, 2, 3, 5] (hact) rfl (by simp only [argRs,argR,List.map_cons,List.map_nil,go_sem,simprocAttr,rnL_cat,shC_rn,idlL_cat,shC_idl]) (by decide) (by simp only [go_sem,simprocAttr,rnL_cat,shC_rn,idlL_cat,shC_idl]) (by simp only [go_sem,simprocAttr,List.all_cons,List.all_nil,rnL_cat,shC_rn,idlL_cat,shC_idl]) (by simp) ?_; simp only [go_sem,simprocAttr,rnL_cat,shC_rn,idlL_cat,shC_idl]
    have w1 : IntKind.i64.wrap (c.nodes - d) = c.nodes - d := by rw [wrap_in (by omega) (by omega)]
    have w2 : IntKind.i64.wrap (c.nodes - d - 1) = c.nodes - d - 1 := by rw [wrap_in (by omega) (by omega)]
    simp only [bne_self_eq_false,w1,w2,List.length_map,decide_eq_false (show ¬ ((F.2.length : Nat) : Int) > c.nodes - d - 1 by omega),go_sem,simprocAttr]
    refine W_lpI (d + 1, F.1) ?_ ?_ ⟨show ((d + 1 : Nat) : Int) ≤ c.nodes by omega, hf⟩ (show c.nodes.toNat - (d + 1) < c.nodes.toNat - d by omega)
    · simp only [idlL_cat,shC_idl,go_sem,simprocAttr]
    · simp only [wrap_succ (show d < 9223372036854775807 by omega),silS2,lawO9,boxC9,ctlB9,linesO,List.cons_append,List.nil_append,go_sem,simprocAttr]
  simp only [decide_eq_false hlt,go_sem,simprocAttr]
  obtain rfl : d = c.nodes.toNat := by omega
  obtain ⟨q1, q2⟩ := sil_idle hz (c.lease + late) (hz.over _)
  have hact := sil_act hz (Nat.le_refl _) (c.lease + late) (by omega) z q1 c.nodes.toNat hz (Nat.le_refl _)
  rw [q2] at hact
  have hzl := hz.len
  have hfew := tells_few z (fun _ => 0) (c.lease + late) c.nodes.toNat (fun j hj => by rw [hz.st]; exact silOrder _ _ _ _ hj (Nat.le_refl _)) z.lines.length
  generalize tellsX z (fun _ => 0) (c.lease + late) z.lines.length = F at *
  have hF0 : F.2.length = 0 := by omega
  simp only [ctlO,ctlB,linesO,List.cons_append,List.nil_append] at hact
  simp only [hw,go_sem,simprocAttr]
  refine W_callo [4, 6, 1, 7, 8, 2, 3, 5] (hact) rfl (by simp only [argRs,argR,List.map_cons,List.map_nil,go_sem,simprocAttr,rnL_cat,shC_rn,idlL_cat,shC_idl]) (by decide) (by simp only [go_sem,simprocAttr,rnL_cat,shC_rn,idlL_cat,shC_idl]) (by simp only [go_sem,simprocAttr,List.all_cons,List.all_nil,rnL_cat,shC_rn,idlL_cat,shC_idl]) (by simp) ?_; simp only [go_sem,simprocAttr,rnL_cat,shC_rn,idlL_cat,shC_idl]
  simp only [List.length_map,hF0,go_sem,simprocAttr]
end Dv
