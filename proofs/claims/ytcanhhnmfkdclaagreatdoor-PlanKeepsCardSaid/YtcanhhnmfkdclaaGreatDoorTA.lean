/- The logical machine and its plain laws: parts T2, T3, proved sound. -/
import Derived.Test.YtcanhhnmfkdclaaGreatDoorQA
import Derived.Test.YtcanhhnmfkdclaaGreatDoorD15
import Derived.Test.YtcanhhnmfkdclaaGreatDoorD4
set_option linter.unusedVariables false
set_option linter.unusedSimpArgs false
namespace Dv
open Go Go.Proofs
open Nat renaming reduceEqDiff → zA, reduceAdd → zB, reduceSub → zC, reduceMul → zD, reduceLT → zE, reduceLeDiff → zF
open Int renaming reduceLE → zG, reduceLT → zH, reduceToNat → zI, reduceBEq → zJ, reduceBNe → zK, reduceEq → zL, reduceAdd → zM, reduceSub → zN, reduceMul → zO, reduceNeg → zP
attribute [local go_sem] argEnv W_nil W_seq W_skip W_ret W_exit W_scope W_block W_blk W_reg W_regD W_cond WC_t WC_f WC_any Wx_c Wx_ops Wx_lp Wx_blk W_ops_nil W_opsD_q W_guard W_guardD WG_tt WG_ff WG_tf WG_ft WG_u WGD_tt WGD_ff WGD_tf WGD_ft WGD_u WE_some WED_some W_more W_mv W_pick W_new W_box W_build W_bsl W_ld1 W_ldn W_st W_nck W_bin W_eqb W_not W_cvt W_fad W_fld1 W_fldn W_ixa W_ixr W_ix1 W_ixs W_len W_lens W_mkf W_ext W_app W_min W_max W_isnp W_isns W_eqs W_neg W_ixn W_sli W_sls WD_more WD_mv WD_pick WD_new WD_box WD_build WD_bsl WD_ld1 WD_ldn WD_st WD_nck WD_bin WD_eqb WD_not WD_cvt WD_fad WD_fld1 WD_fldn WD_ixa WD_ixr WD_ix1 WD_ixs WD_len WD_lens WD_mkf WD_ext WD_app WD_min WD_max WD_isnp WD_isns WD_eqs WD_neg WD_ixn WD_sli WD_sls effF effM bytesOf Opd.ev getE putE binV LV.int LV.bool LV.undef Go.undef LV.cells LV.toD LV.toDs splice fillL rowsOf boxOf srcRows updL objL Eff.owned nwp St.get St.obj St.put Value.oneCell' Ends adopt Ad.ap isNil St.keep St.okKeep okObj idl idlL idlO RVs.of RV.of oneOr Ends0 EndsO_iff frzs rn rnL rnO piOf eqCells eqV boundV Option.map_some Option.map_none List.append_nil List.nil_append List.cons_append List.map_nil List.map_cons List.length_nil List.length_cons List.set_cons_zero List.set_cons_succ List.take_succ_cons List.take_zero List.take_nil List.drop_succ_cons List.drop_zero List.drop_nil List.getElem?_cons_zero List.getElem?_cons_succ List.getElem?_nil List.isEmpty_nil List.isEmpty_cons List.all_cons List.all_nil List.isEmpty_nil cond_true cond_false Bool.true_and Bool.false_and Bool.and_true Bool.and_false Bool.not_true Bool.not_false Bool.or_true Bool.true_or Bool.or_false Bool.false_or true_and and_true true_or or_true Option.some.injEq LV.d.injEq DV.val.injEq Value.bool.injEq Value.int.injEq decide_true decide_false and_self Nat.zero_add Nat.add_zero if_true if_false Int.toNat_zero beq_self_eq_true Nat.zero_lt_succ Int.toNat_natCast Int.natCast_nonneg List.length_map i64 bl List.zip_cons_cons List.zip_nil_left List.zip_nil_right nwp confV stateV nodeV jobV nodesV jobsV opV msgV nodeR jobR opR msgR zeroOp zeroMsg msgsV
variable {G : Nat → Option (List DV)}

/-- fit.Open -/
def ir83 : Nat × C × List RV := (22,
(.seq (.reg [⟨some 1,.box 27 (.t 0),none,[]⟩,
 ⟨some 2,.mv (.c (.val (.int .i64 0))),none,[]⟩])
 (.seq (.reg [⟨some 3,.mv (.c (.val (.int .i64 0))),none,[]⟩])
 (.seq (.seq (.reg [⟨some 6,.fad 0 (.t 1),none,[]⟩,
 ⟨some 7,.ld1 (.t 6),none,[]⟩,
 ⟨some 8,.len (.t 7),none,[]⟩,
 ⟨some 9,.mv (.c (.val (.int .i64 0))),none,[]⟩])
 (.block 0 (.loop (.seq (.reg [⟨some 10,.bin .lss (.t 9) (.t 8),none,[]⟩])
 (.seq (.cond (.t 10) .skip
 (.exit 0))
 (.seq (.block 1 (.seq (.reg [⟨some 11,.mv (.t 9),none,[]⟩,
 ⟨some 12,.ixa 5 (.t 7) (.t 9),none,[]⟩,
 ⟨some 13,.ldn 5 (.t 12),none,[]⟩,
 ⟨some 5,.new 49 [(.val (.bool false)),(.val (.bool false)),(.val (.bool false)),(.val (.int .i64 0)),(.val (.int .i64 0))],none,[]⟩,
 ⟨some 4,.mv (.t 11),none,[]⟩,
 ⟨none,.st 5 (.t 5) (.t 13),none,[]⟩])
 (.seq (.reg [⟨some 14,.ldn 5 (.t 5),none,[]⟩,
 ⟨some 15,.call (.f 119) [(.t 14)],none,[]⟩])
 (.cond (.t 15) (.reg [⟨some 16,.mv (.t 3),none,[]⟩,
 ⟨some 17,.mv (.t 4),none,[]⟩,
 ⟨some 18,.bin .shl (.c (.val (.int .i64 1))) (.t 17),none,[]⟩,
 ⟨some 19,.bin .or (.t 16) (.t 18),none,[]⟩,
 ⟨some 3,.mv (.t 19),none,[]⟩])
 .skip))))
 (.reg [⟨some 20,.bin .add (.t 9) (.c (.val (.int .i64 1))),none,[]⟩,
 ⟨some 9,.mv (.t 20),none,[]⟩])))))))
 (.seq (.reg [⟨some 21,.mv (.t 3),none,[]⟩,
 ⟨some 2,.mv (.t 21),none,[]⟩])
 .ret)))),
[(.t 2)])
theorem irOk83 : convFn Tryz.prog Tryz.f83 = some ir83 := by kernel_rfl
/-- fit.ready -/
def ir136 : Nat × C × List RV := (49,
(.seq (.reg [⟨some 3,.box 27 (.t 0),none,[]⟩,
 ⟨some 6,.mv (.c (.val (.int .i64 0))),none,[]⟩])
 (.seq (.reg [⟨some 7,.mv (.c (.val (.int .i64 0))),none,[]⟩])
 (.seq (.seq (.reg [⟨some 10,.fad 0 (.t 3),none,[]⟩,
 ⟨some 11,.ld1 (.t 10),none,[]⟩,
 ⟨some 12,.len (.t 11),none,[]⟩,
 ⟨some 13,.mv (.c (.val (.int .i64 0))),none,[]⟩])
 (.block 0 (.loop (.seq (.reg [⟨some 14,.bin .lss (.t 13) (.t 12),none,[]⟩])
 (.seq (.cond (.t 14) .skip
 (.exit 0))
 (.seq (.block 1 (.seq (.reg [⟨some 15,.mv (.t 13),none,[]⟩,
 ⟨some 16,.ixa 5 (.t 11) (.t 13),none,[]⟩,
 ⟨some 17,.ldn 5 (.t 16),none,[]⟩,
 ⟨some 9,.new 49 [(.val (.bool false)),(.val (.bool false)),(.val (.bool false)),(.val (.int .i64 0)),(.val (.int .i64 0))],none,[]⟩,
 ⟨some 8,.mv (.t 15),none,[]⟩,
 ⟨none,.st 5 (.t 9) (.t 17),none,[]⟩])
 (.seq (.reg [⟨some 18,.mv (.t 1),none,[]⟩,
 ⟨some 19,.mv (.t 8),none,[]⟩,
 ⟨some 20,.bin .shr (.t 18) (.t 19),none,[]⟩,
 ⟨some 21,.bin .and (.t 20) (.c (.val (.int .i64 1))),none,[]⟩,
 ⟨some 22,.bin .eql (.t 21) (.c (.val (.int .i64 1))),none,[]⟩,
 ⟨some 23,.mv (.t 22),none,[]⟩,
 ⟨some 24,.fad 0 (.t 9),(some (23,true)),[]⟩,
 ⟨some 25,.ld1 (.t 24),(some (23,true)),[]⟩,
 ⟨some 26,.pick (.t 23) (.t 25) (.c (.val (.bool false))),none,[]⟩,
 ⟨some 27,.mv (.t 26),none,[]⟩,
 ⟨some 28,.fad 1 (.t 9),(some (27,true)),[]⟩,
 ⟨some 29,.ld1 (.t 28),(some (27,true)),[]⟩,
 ⟨some 30,.not (.t 29),(some (27,true)),[]⟩,
 ⟨some 31,.pick (.t 27) (.t 30) (.c (.val (.bool false))),none,[]⟩,
 ⟨some 32,.mv (.t 31),none,[]⟩,
 ⟨some 33,.fad 2 (.t 9),(some (32,true)),[]⟩,
 ⟨some 34,.ld1 (.t 33),(some (32,true)),[]⟩,
 ⟨some 35,.not (.t 34),(some (32,true)),[]⟩,
 ⟨some 36,.pick (.t 32) (.t 35) (.c (.val (.bool false))),none,[]⟩,
 ⟨some 37,.mv (.t 36),none,[]⟩,
 ⟨some 38,.fad 3 (.t 9),(some (37,true)),[]⟩,
 ⟨some 39,.ld1 (.t 38),(some (37,true)),[]⟩,
 ⟨some 40,.mv (.t 2),(some (37,true)),[]⟩,
 ⟨some 41,.bin .eql (.t 39) (.t 40),(some (37,true)),[]⟩,
 ⟨some 42,.pick (.t 37) (.t 41) (.c (.val (.bool false))),none,[]⟩])
 (.cond (.t 42) (.reg [⟨some 43,.mv (.t 7),none,[]⟩,
 ⟨some 44,.mv (.t 8),none,[]⟩,
 ⟨some 45,.bin .shl (.c (.val (.int .i64 1))) (.t 44),none,[]⟩,
 ⟨some 46,.bin .or (.t 43) (.t 45),none,[]⟩,
 ⟨some 7,.mv (.t 46),none,[]⟩])
 .skip))))
 (.reg [⟨some 47,.bin .add (.t 13) (.c (.val (.int .i64 1))),none,[]⟩,
 ⟨some 13,.mv (.t 47),none,[]⟩])))))))
 (.seq (.reg [⟨some 48,.mv (.t 7),none,[]⟩,
 ⟨some 6,.mv (.t 48),none,[]⟩])
 .ret)))),
[(.t 6)])
theorem irOk136 : convFn Tryz.prog Tryz.f136 = some ir136 := by kernel_rfl
/-- fit.lowest -/
def ir118 : Nat × C × List RV := (26,
(.seq (.reg [⟨some 4,.mv (.c (.val (.int .i64 0))),none,[]⟩])
 (.seq (.reg [⟨some 5,.mv (.c (.val (.int .i64 0))),none,[]⟩])
 (.seq (.block 0 (.loop (.seq (.seq (.reg [⟨some 7,.mv (.t 0),none,[]⟩,
 ⟨some 8,.bin .neq (.t 7) (.c (.val (.int .i64 0))),none,[]⟩,
 ⟨some 9,.mv (.t 8),none,[]⟩,
 ⟨some 10,.mv (.t 1),(some (9,true)),[]⟩,
 ⟨some 11,.bin .gtr (.t 10) (.c (.val (.int .i64 0))),(some (9,true)),[]⟩,
 ⟨some 12,.pick (.t 9) (.t 11) (.c (.val (.bool false))),none,[]⟩])
 (.cond (.t 12) .skip
 (.exit 0)))
 (.seq (.block 1 (.seq (.reg [⟨some 15,.mv (.t 0),none,[]⟩,
 ⟨some 16,.mv (.t 0),none,[]⟩,
 ⟨some 17,.neg (.t 16),none,[]⟩,
 ⟨some 18,.bin .and (.t 15) (.t 17),none,[]⟩,
 ⟨some 6,.mv (.t 18),none,[]⟩])
 (.seq (.reg [⟨some 19,.mv (.t 5),none,[]⟩,
 ⟨some 20,.mv (.t 6),none,[]⟩,
 ⟨some 21,.bin .or (.t 19) (.t 20),none,[]⟩,
 ⟨some 5,.mv (.t 21),none,[]⟩])
 (.reg [⟨some 22,.mv (.t 0),none,[]⟩,
 ⟨some 23,.mv (.t 6),none,[]⟩,
 ⟨some 24,.bin .andNot (.t 22) (.t 23),none,[]⟩,
 ⟨some 0,.mv (.t 24),none,[]⟩]))))
 (.reg [⟨some 13,.mv (.t 1),none,[]⟩,
 ⟨some 14,.bin .sub (.t 13) (.c (.val (.int .i64 1))),none,[]⟩,
 ⟨some 1,.mv (.t 14),none,[]⟩])))))
 (.seq (.reg [⟨some 25,.mv (.t 5),none,[]⟩,
 ⟨some 4,.mv (.t 25),none,[]⟩])
 .ret)))),
[(.t 4)])
theorem irOk118 : convFn Tryz.prog Tryz.f118 = some ir118 := by kernel_rfl
def boxS (s : StateD) : LObj := .box 27 [nodesV s.nodes, jobsV s.jobs, .int s.goal, .int s.prior, .int s.mode, .int s.term]
theorem mask_b {f : Nat → Bool} {k : Nat} {b : Bool} (h : f k = b) : maskTo f (k + 1) = if b = true then maskTo f k + 2 ^ k else maskTo f k := by rw [← h]; rfl
def opnS (s : StateD) (k : Nat) : St := ⟨[(3, .int (maskTo (fun i => freeB (s.nodes.getD i zeroNode)) k)), (7, nodesV s.nodes), (8, .int s.nodes.length), (9, .int k)], [some (boxS s)]⟩
set_option maxHeartbeats 4000000 in
theorem fopen_tri (s : StateD) (hn : s.nodes.length ≤ 6) : Tri Tryz.prog G 83 [stateV s] [] (.int (freeS s)) [] := by
  refine tri_W0 Tryz.func83 (by decide) irOk83 (Nat.le_of_ble_eq_true rfl) rfl ?_
  simp only [ir83,go_sem,↓reduceIte,zA,zB,zC,zD,zE,zF,reduceCtorEq,zG,zH,zI,zJ,zK,zL,zM,zN,zO,zP]
  refine W_loopI [3, 7, 8, 9] [] (fun k : Nat => k ≤ s.nodes.length) (fun k => s.nodes.length - k) (opnS s) 0 ?_ (Nat.zero_le _) (fun k hk => ?_)
  · simp only [opnS,boxS,go_sem,↓reduceIte,zA,zB,zC,zD,zE,zF,reduceCtorEq,zG,zH,zI,zJ,zK,zL,zM,zN,zO,zP,maskTo,Int.natCast_zero]
  simp only [opnS,boxS,go_sem,↓reduceIte,zA,zB,zC,zD,zE,zF,reduceCtorEq,zG,zH,zI,zJ,zK,zL,zM,zN,zO,zP]
  by_cases hlt : k < s.nodes.length
  · have hg := get_mapD (f := nodeR) zeroNode hlt
    have hm := mask_b (f := fun i => freeB (s.nodes.getD i zeroNode)) (k := k) (b := freeB (s.nodes.getD k zeroNode)) rfl
    have ho := mask_or (fun i => freeB (s.nodes.getD i zeroNode)) k (by omega)
    have hs1 := shl_one k (by omega)
    generalize s.nodes.getD k zeroNode = n at hg hm
    simp only [nodeR] at hg
    simp only [decide_eq_true (show ((k : Nat) : Int) < ((s.nodes.length : Nat) : Int) by omega),hg,go_sem,↓reduceIte,zA,zB,zC,zD,zE,zF,reduceCtorEq,zG,zH,zI,zJ,zK,zL,zM,zN,zO,zP]
    refine W_calld (free_tri n) rfl rfl rfl rfl ?_; simp only [go_sem,↓reduceIte,zA,zB,zC,zD,zE,zF,reduceCtorEq,zG,zH,zI,zJ,zK,zL,zM,zN,zO,zP]
    cases hf : freeB n with
    | true =>
      rw [hf, if_pos rfl, ← ho] at hm
      simp only [hs1,go_sem,↓reduceIte,zA,zB,zC,zD,zE,zF,reduceCtorEq,zG,zH,zI,zJ,zK,zL,zM,zN,zO,zP]
      refine W_lpI (k + 1) ?_ ?_ (by omega) (by omega)
      · simp only [go_sem,↓reduceIte,zA,zB,zC,zD,zE,zF,reduceCtorEq,zG,zH,zI,zJ,zK,zL,zM,zN,zO,zP]
      · simp only [opnS,boxS,hm,wrap_succ (show k < 9223372036854775807 by omega),go_sem,↓reduceIte,zA,zB,zC,zD,zE,zF,reduceCtorEq,zG,zH,zI,zJ,zK,zL,zM,zN,zO,zP]
    | false =>
      rw [hf, if_neg (by decide)] at hm
      simp only [go_sem,↓reduceIte,zA,zB,zC,zD,zE,zF,reduceCtorEq,zG,zH,zI,zJ,zK,zL,zM,zN,zO,zP]
      refine W_lpI (k + 1) ?_ ?_ (by omega) (by omega)
      · simp only [go_sem,↓reduceIte,zA,zB,zC,zD,zE,zF,reduceCtorEq,zG,zH,zI,zJ,zK,zL,zM,zN,zO,zP]
      · simp only [opnS,boxS,hm,wrap_succ (show k < 9223372036854775807 by omega),go_sem,↓reduceIte,zA,zB,zC,zD,zE,zF,reduceCtorEq,zG,zH,zI,zJ,zK,zL,zM,zN,zO,zP]
  · obtain rfl : k = s.nodes.length := by omega
    simp only [decide_eq_false (show ¬ ((s.nodes.length : Nat) : Int) < ((s.nodes.length : Nat) : Int) by omega),freeS,go_sem,↓reduceIte,zA,zB,zC,zD,zE,zF,reduceCtorEq,zG,zH,zI,zJ,zK,zL,zM,zN,zO,zP]

def rdyS (s : StateD) (set v : Int) (k : Nat) : St := ⟨[(1, .int set), (2, .int v), (7, .int (maskTo (fun i => readyB set v i (s.nodes.getD i zeroNode)) k)), (11, nodesV s.nodes), (12, .int s.nodes.length), (13, .int k)], [some (boxS s)]⟩
set_option maxHeartbeats 8000000 in
theorem ready_tri (s : StateD) (set v : Int) (hn : s.nodes.length ≤ 6) : Tri Tryz.prog G 136 [stateV s, .int set, .int v] [] (.int (readyS s set v)) [] := by
  refine tri_W0 Tryz.func136 (by decide) irOk136 (Nat.le_of_ble_eq_true rfl) rfl ?_
  simp only [ir136,go_sem,↓reduceIte,zA,zB,zC,zD,zE,zF,reduceCtorEq,zG,zH,zI,zJ,zK,zL,zM,zN,zO,zP]
  refine W_loopI [1, 2, 7, 11, 12, 13] [] (fun k : Nat => k ≤ s.nodes.length) (fun k => s.nodes.length - k) (rdyS s set v) 0 ?_ (Nat.zero_le _) (fun k hk => ?_)
  · simp only [rdyS,boxS,go_sem,↓reduceIte,zA,zB,zC,zD,zE,zF,reduceCtorEq,zG,zH,zI,zJ,zK,zL,zM,zN,zO,zP,maskTo,Int.natCast_zero]
  simp only [rdyS,boxS,go_sem,↓reduceIte,zA,zB,zC,zD,zE,zF,reduceCtorEq,zG,zH,zI,zJ,zK,zL,zM,zN,zO,zP]
  by_cases hlt : k < s.nodes.length
  · have hg := get_mapD (f := nodeR) zeroNode hlt
    have hm := mask_b (f := fun i => readyB set v i (s.nodes.getD i zeroNode)) (k := k) (b := readyB set v k (s.nodes.getD k zeroNode)) rfl
    have ho := mask_or (fun i => readyB set v i (s.nodes.getD i zeroNode)) k (by omega)
    have hs1 := shl_one k (by omega)
    have hb1 := bit_eq set k (by omega)
    generalize s.nodes.getD k zeroNode = n at hg hm
    simp only [nodeR] at hg
    have hrb : readyB set v k n = (hasB set k && n.up && !n.cordon && !n.moving && decide (n.version = v)) := rfl
    obtain ⟨up, cordon, moving, version, job⟩ := n
    dsimp only at hg hrb
    simp only [decide_eq_true (show ((k : Nat) : Int) < ((s.nodes.length : Nat) : Int) by omega),hg,hb1,go_sem,↓reduceIte,zA,zB,zC,zD,zE,zF,reduceCtorEq,zG,zH,zI,zJ,zK,zL,zM,zN,zO,zP]
    have yes : readyB set v k ⟨up, cordon, moving, version, job⟩ = true → maskTo (fun i => readyB set v i (s.nodes.getD i zeroNode)) (k + 1) = orI .i64 (maskTo (fun i => readyB set v i (s.nodes.getD i zeroNode)) k) (2 ^ k) := fun h => by rw [hm, if_pos h, ho]
    have no : readyB set v k ⟨up, cordon, moving, version, job⟩ = false → maskTo (fun i => readyB set v i (s.nodes.getD i zeroNode)) (k + 1) = maskTo (fun i => readyB set v i (s.nodes.getD i zeroNode)) k := fun h => by rw [hm, h, if_neg (by decide)]
    rw [hrb] at yes no
    cases hb : hasB set k <;> (try cases up) <;> (try cases cordon) <;> (try cases moving) <;> (try (by_cases hv : version = v)) <;> simp only [hb,hv,hs1,bne_self_eq_false,beq_self_eq_true,decide_true,decide_false,Bool.and_true,Bool.and_false,Bool.true_and,Bool.false_and,Bool.not_true,Bool.not_false,Bool.false_eq_true,false_implies,true_implies,beq_eq_false_iff_ne.2,ne_eq,not_false_eq_true,reduceCtorEq,go_sem,↓reduceIte,zA,zB,zC,zD,zE,zF,reduceCtorEq,zG,zH,zI,zJ,zK,zL,zM,zN,zO,zP] at yes no ⊢ <;>
      (refine W_lpI (k + 1) ?_ ?_ (by omega) (by omega)
       · simp only [go_sem,↓reduceIte,zA,zB,zC,zD,zE,zF,reduceCtorEq,zG,zH,zI,zJ,zK,zL,zM,zN,zO,zP]
       · first
         | (simp only [rdyS,boxS,no,wrap_succ (show k < 9223372036854775807 by omega),go_sem,↓reduceIte,zA,zB,zC,zD,zE,zF,reduceCtorEq,zG,zH,zI,zJ,zK,zL,zM,zN,zO,zP]; done)
         | simp only [rdyS,boxS,yes,wrap_succ (show k < 9223372036854775807 by omega),go_sem,↓reduceIte,zA,zB,zC,zD,zE,zF,reduceCtorEq,zG,zH,zI,zJ,zK,zL,zM,zN,zO,zP])
  · obtain rfl : k = s.nodes.length := by omega
    simp only [decide_eq_false (show ¬ ((s.nodes.length : Nat) : Int) < ((s.nodes.length : Nat) : Int) by omega),readyS,go_sem,↓reduceIte,zA,zB,zC,zD,zE,zF,reduceCtorEq,zG,zH,zI,zJ,zK,zL,zM,zN,zO,zP]

theorem low_step : ∀ a : Fin 64, a.val ≠ 0 → (∃ b : Fin 64, andI .i64 (a.val : Int) (-(a.val : Int)) = (b.val : Int)) ∧ ∃ c : Fin 64, andNotI .i64 (a.val : Int) (andI .i64 (a.val : Int) (-(a.val : Int))) = (c.val : Int) ∧ many (c.val : Int) + 1 = many (a.val : Int) := by decide +kernel
theorem many_zero : ∀ a : Fin 64, many (a.val : Int) = 0 → a.val = 0 := by decide +kernel
theorem set6_zero : Set6 0 := ⟨by decide, by decide⟩
def lowQ (a : Nat × Int × Int × Int) : St := ⟨[(0, .int a.2.1), (1, .int a.2.2.1), (5, .int a.2.2.2)], []⟩
set_option maxHeartbeats 4000000 in
theorem lowest_tri (set most : Int) (hs : Set6 set) (hm : 0 ≤ most ∧ most ≤ 1000) : Tri Tryz.prog G 118 [.int set, .int most] [] (.int (lowF 6 (set, most, 0))) [] := by
  refine tri_W0 Tryz.func118 (by decide) irOk118 (Nat.le_of_ble_eq_true rfl) rfl ?_
  simp only [ir118,go_sem,↓reduceIte,zA,zB,zC,zD,zE,zF,reduceCtorEq,zG,zH,zI,zJ,zK,zL,zM,zN,zO,zP]
  generalize hR : lowF 6 (set, most, 0) = R
  refine W_loopI [0, 1, 5] [] (fun a : Nat × Int × Int × Int => Set6 a.2.1 ∧ Set6 a.2.2.2 ∧ many a.2.1 ≤ a.1 ∧ (0 ≤ a.2.2.1 ∧ a.2.2.1 ≤ 1000) ∧ lowF a.1 a.2 = R) (fun a => a.1) lowQ (6, set, most, 0) ?_ ⟨hs, set6_zero, (many_rng set).2, hm, hR⟩ ?_
  · simp only [lowQ,go_sem,↓reduceIte,zA,zB,zC,zD,zE,zF,reduceCtorEq,zG,zH,zI,zJ,zK,zL,zM,zN,zO,zP]
  rintro ⟨f, p, m, out⟩ ⟨h1, h2, h3, h4, h5⟩
  dsimp only at h1 h2 h3 h4 h5
  simp only [lowQ,go_sem,↓reduceIte,zA,zB,zC,zD,zE,zF,reduceCtorEq,zG,zH,zI,zJ,zK,zL,zM,zN,zO,zP]
  obtain ⟨n, rfl, hn⟩ := h1.nat
  by_cases hz : n = 0
  · subst hz
    have : R = out := by rw [← h5]; cases f with | zero => rfl | succ f => rw [lowF, if_neg (by simp)]
    subst this
    simp only [Int.natCast_zero,bne_self_eq_false,go_sem,↓reduceIte,zA,zB,zC,zD,zE,zF,reduceCtorEq,zG,zH,zI,zJ,zK,zL,zM,zN,zO,zP]
  by_cases hm0 : 0 < m
  case neg =>
    have : R = out := by rw [← h5]; cases f with | zero => rfl | succ f => rw [lowF, if_neg (fun h => hm0 h.2)]
    subst this
    simp only [show ((n : Int) != 0) = true from bne_iff_ne.2 (by omega),decide_eq_false (show ¬ m > 0 by omega),go_sem,↓reduceIte,zA,zB,zC,zD,zE,zF,reduceCtorEq,zG,zH,zI,zJ,zK,zL,zM,zN,zO,zP]
  obtain ⟨⟨b, hb⟩, c, hc, hmc⟩ := low_step ⟨n, hn⟩ hz
  dsimp only at hb hc hmc
  have hwn : IntKind.i64.wrap (0 - (n : Int)) = -(n : Int) := by rw [wrap_in (by omega) (by omega)]; omega
  have hwm : IntKind.i64.wrap (m - 1) = m - 1 := wrap_in (by omega) (by omega)
  cases f with
  | zero =>
    have h0 := many_rng (n : Int)
    exact absurd (many_zero ⟨n, hn⟩ (show many (n : Int) = 0 by omega)) hz
  | succ f =>
    have hst : lowF f (lowStep ((n : Int), m, out)) = R := by rw [← h5, lowF, if_pos ⟨by dsimp only; omega, hm0⟩]
    have e : lowStep ((n : Int), m, out) = ((c.val : Int), m - 1, orI .i64 out (b.val : Int)) := by unfold lowStep; dsimp only; rw [hc, hb]
    rw [e] at hst
    have hor := (orI_6 h2 (⟨by omega, by omega⟩ : Set6 (b.val : Int))).1
    simp only [show ((n : Int) != 0) = true from bne_iff_ne.2 (by omega),decide_eq_true (show m > 0 by omega),hwn,hwm,hb,go_sem,↓reduceIte,zA,zB,zC,zD,zE,zF,reduceCtorEq,zG,zH,zI,zJ,zK,zL,zM,zN,zO,zP]
    rw [hb] at hc
    refine W_lpI (f, (c.val : Int), m - 1, orI .i64 out (b.val : Int)) ?_ ?_ ⟨⟨by dsimp only; omega, by dsimp only; omega⟩, hor, by dsimp only; omega, by dsimp only; omega, hst⟩ (by dsimp only; omega)
    · simp only [go_sem,↓reduceIte,zA,zB,zC,zD,zE,zF,reduceCtorEq,zG,zH,zI,zJ,zK,zL,zM,zN,zO,zP]
    · simp only [lowQ,hc,go_sem,↓reduceIte,zA,zB,zC,zD,zE,zF,reduceCtorEq,zG,zH,zI,zJ,zK,zL,zM,zN,zO,zP]
end Dv

namespace Dv
open Go Go.Proofs
open Nat renaming reduceEqDiff → zA, reduceAdd → zB, reduceSub → zC, reduceMul → zD, reduceLT → zE, reduceLeDiff → zF
open Int renaming reduceLE → zG, reduceLT → zH, reduceToNat → zI, reduceBEq → zJ, reduceBNe → zK, reduceEq → zL, reduceAdd → zM, reduceSub → zN, reduceMul → zO, reduceNeg → zP
attribute [local go_sem] argEnv W_nil W_seq W_skip W_ret W_exit W_scope W_block W_blk W_reg W_regD W_cond WC_t WC_f WC_any Wx_c Wx_ops Wx_lp Wx_blk W_ops_nil W_opsD_q W_guard W_guardD WG_tt WG_ff WG_tf WG_ft WG_u WGD_tt WGD_ff WGD_tf WGD_ft WGD_u WE_some WED_some W_more W_mv W_pick W_new W_box W_build W_bsl W_ld1 W_ldn W_st W_nck W_bin W_eqb W_not W_cvt W_fad W_fld1 W_fldn W_ixa W_ixr W_ix1 W_ixs W_len W_lens W_mkf W_ext W_app W_min W_max W_isnp W_isns W_eqs W_neg W_ixn W_sli W_sls WD_more WD_mv WD_pick WD_new WD_box WD_build WD_bsl WD_ld1 WD_ldn WD_st WD_nck WD_bin WD_eqb WD_not WD_cvt WD_fad WD_fld1 WD_fldn WD_ixa WD_ixr WD_ix1 WD_ixs WD_len WD_lens WD_mkf WD_ext WD_app WD_min WD_max WD_isnp WD_isns WD_eqs WD_neg WD_ixn WD_sli WD_sls effF effM bytesOf Opd.ev getE putE binV LV.int LV.bool LV.undef Go.undef LV.cells LV.toD LV.toDs splice fillL rowsOf boxOf srcRows updL objL Eff.owned nwp St.get St.obj St.put Value.oneCell' Ends adopt Ad.ap isNil St.keep St.okKeep okObj idl idlL idlO RVs.of RV.of oneOr Ends0 EndsO_iff frzs rn rnL rnO piOf eqCells eqV boundV Option.map_some Option.map_none List.append_nil List.nil_append List.cons_append List.map_nil List.map_cons List.length_nil List.length_cons List.set_cons_zero List.set_cons_succ List.take_succ_cons List.take_zero List.take_nil List.drop_succ_cons List.drop_zero List.drop_nil List.getElem?_cons_zero List.getElem?_cons_succ List.getElem?_nil List.isEmpty_nil List.isEmpty_cons List.all_cons List.all_nil List.isEmpty_nil cond_true cond_false Bool.true_and Bool.false_and Bool.and_true Bool.and_false Bool.not_true Bool.not_false Bool.or_true Bool.true_or Bool.or_false Bool.false_or true_and and_true true_or or_true Option.some.injEq LV.d.injEq DV.val.injEq Value.bool.injEq Value.int.injEq decide_true decide_false and_self Nat.zero_add Nat.add_zero if_true if_false Int.toNat_zero beq_self_eq_true Nat.zero_lt_succ Int.toNat_natCast Int.natCast_nonneg List.length_map i64 bl List.zip_cons_cons List.zip_nil_left List.zip_nil_right nwp confV stateV nodeV jobV nodesV jobsV opV msgV nodeR jobR opR msgR zeroOp zeroMsg msgsV
variable {G : Nat → Option (List DV)}

theorem vers_get : ∀ k : Fin 9, vers.take (k.val + 1) = vers.take k.val ++ [((k.val + 1 : Nat) : Int)] := by decide
end Dv
