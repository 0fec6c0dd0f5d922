/- Layer 18's laws: alive, time, PlanNext, PlanRuns. -/
import Derived.Test.YtcanhhnmfkdclaaGreatDoorU5
import Derived.Test.YtcanhhnmfkdclaaGreatDoorT21
import Derived.Test.YtcanhhnmfkdclaaGreatDoorD4
set_option linter.unusedVariables false
set_option linter.unusedSimpArgs false
namespace Dv
open Go Go.Proofs
open Nat renaming reduceEqDiff → zA, reduceAdd → zB, reduceSub → zC, reduceMul → zD, reduceLT → zE, reduceLeDiff → zF
open Int renaming reduceLE → zG, reduceLT → zH, reduceToNat → zI, reduceBEq → zJ, reduceBNe → zK, reduceEq → zL, reduceAdd → zM, reduceSub → zN, reduceMul → zO, reduceNeg → zP
attribute [local go_sem] argEnv W_nil W_seq W_skip W_ret W_exit W_scope W_block W_blk W_reg W_regD W_cond WC_t WC_f WC_any Wx_c Wx_ops Wx_lp Wx_blk W_ops_nil W_opsD_q W_guard W_guardD WG_tt WG_ff WG_tf WG_ft WG_u WGD_tt WGD_ff WGD_tf WGD_ft WGD_u WE_some WED_some W_more W_mv W_pick W_new W_box W_build W_bsl W_ld1 W_ldn W_st W_nck W_bin W_eqb W_not W_cvt W_fad W_fld1 W_fldn W_ixa W_ixr W_ix1 W_ixs W_len W_lens W_mkf W_ext W_app W_min W_max W_isnp W_isns W_eqs W_neg W_ixn W_sli W_sls WD_more WD_mv WD_pick WD_new WD_box WD_build WD_bsl WD_ld1 WD_ldn WD_st WD_nck WD_bin WD_eqb WD_not WD_cvt WD_fad WD_fld1 WD_fldn WD_ixa WD_ixr WD_ix1 WD_ixs WD_len WD_lens WD_mkf WD_ext WD_app WD_min WD_max WD_isnp WD_isns WD_eqs WD_neg WD_ixn WD_sli WD_sls effF effM bytesOf Opd.ev getE putE binV LV.int LV.bool LV.undef Go.undef LV.cells LV.toD LV.toDs splice fillL rowsOf boxOf srcRows updL objL Eff.owned nwp St.get St.obj St.put Value.oneCell' Ends adopt Ad.ap isNil St.keep St.okKeep okObj idl idlL idlO RVs.of RV.of oneOr Ends0 EndsO_iff frzs rn rnL rnO piOf eqCells eqV boundV Option.map_some Option.map_none List.append_nil List.nil_append List.cons_append List.map_nil List.map_cons List.length_nil List.length_cons List.set_cons_zero List.set_cons_succ List.take_succ_cons List.take_zero List.take_nil List.drop_succ_cons List.drop_zero List.drop_nil List.getElem?_cons_zero List.getElem?_cons_succ List.getElem?_nil List.isEmpty_nil List.isEmpty_cons List.all_cons List.all_nil List.isEmpty_nil cond_true cond_false Bool.true_and Bool.false_and Bool.and_true Bool.and_false Bool.not_true Bool.not_false Bool.or_true Bool.true_or Bool.or_false Bool.false_or true_and and_true true_or or_true Option.some.injEq LV.d.injEq DV.val.injEq Value.bool.injEq Value.int.injEq decide_true decide_false and_self Nat.zero_add Nat.add_zero if_true if_false Int.toNat_zero beq_self_eq_true Nat.zero_lt_succ Int.toNat_natCast Int.natCast_nonneg List.length_map i64 bl List.zip_cons_cons List.zip_nil_left List.zip_nil_right nwp confV stateV nodeV jobV nodesV jobsV opV msgV nodeR jobR opR msgR zeroOp zeroMsg msgsV
variable {G : Nat → Option (List DV)}

/-- dunnagelaw18.alive -/
def ir7 : Nat × C × List RV := (50,
(.seq (.reg [⟨some 0,.mv (.c (.val (.bool false))),none,[]⟩])
 (.seq (.reg [⟨some 7,.build [(.val (.int .i64 0)),(.val (.int .i64 0)),(.val (.int .i64 0)),(.val (.int .i64 0)),(.val (.int .i64 0)),(.val (.int .i64 0)),(.val (.int .i64 0)),(.val (.int .i64 0)),(.val (.int .i64 0))] [(0,1,(.c (.val (.int .i64 1)))),(1,1,(.c (.val (.int .i64 1)))),(3,1,(.c (.val (.int .i64 1)))),(4,1,(.c (.val (.int .i64 2)))),(5,1,(.c (.val (.int .i64 1)))),(6,1,(.c (.val (.int .i64 1)))),(8,1,(.c (.val (.int .i64 2000))))],none,[]⟩,
 ⟨some 1,.new 23 [(.val (.int .i64 0)),(.val (.int .i64 0)),(.val (.int .i64 0)),(.val (.int .i64 0)),(.val (.int .i64 0)),(.val (.int .i64 0)),(.val (.int .i64 0)),(.val (.int .i64 0)),(.val (.int .i64 0))],none,[]⟩,
 ⟨none,.st 9 (.t 1) (.t 7),none,[]⟩])
 (.seq (.reg [⟨some 8,.build [(.val (.bool false)),(.val (.bool false)),(.val (.bool false)),(.val (.int .i64 0)),(.val (.int .i64 0))] [(0,1,(.c (.val (.bool true)))),(3,1,(.c (.val (.int .i64 1))))],none,[]⟩,
 ⟨some 9,.bsl 49 5 [(.t 8)],none,[]⟩,
 ⟨some 10,.build [(.val (.int .i64 0)),(.val (.int .i64 0)),(.val (.int .i64 0)),(.val (.int .i64 0)),(.val (.int .i64 0)),(.val (.int .i64 0)),(.val (.int .i64 0)),(.val (.int .i64 0)),(.val (.int .i64 0)),(.val (.int .i64 0)),(.val (.int .i64 0)),(.val (.int .i64 0))] [(2,1,(.c (.val (.int .i64 1)))),(3,1,(.c (.val (.int .i64 1)))),(4,1,(.c (.val (.int .i64 1))))],none,[]⟩,
 ⟨some 11,.bsl 47 12 [(.t 10)],none,[]⟩,
 ⟨some 12,.build [(.val (.slice none 0 0)),(.val (.slice none 0 0)),(.val (.int .i64 0)),(.val (.int .i64 0)),(.val (.int .i64 0)),(.val (.int .i64 0))] [(2,1,(.c (.val (.int .i64 1)))),(3,1,(.c (.val (.int .i64 1)))),(0,1,(.t 9)),(1,1,(.t 11))],none,[]⟩,
 ⟨some 2,.new 27 [(.val (.slice none 0 0)),(.val (.slice none 0 0)),(.val (.int .i64 0)),(.val (.int .i64 0)),(.val (.int .i64 0)),(.val (.int .i64 0))],none,[]⟩,
 ⟨none,.st 6 (.t 2) (.t 12),none,[]⟩])
 (.seq (.reg [⟨some 14,.ldn 9 (.t 1),none,[]⟩,
 ⟨some 15,.ldn 6 (.t 2),none,[]⟩,
 ⟨some 16,.call (.f 10) [(.t 14),(.t 15),(.c (.val (.int .i64 0)))],none,[]⟩,
 ⟨some 13,.mv (.t 16),none,[]⟩,
 ⟨some 17,.ext (.t 13) 0,none,[]⟩,
 ⟨some 18,.ext (.t 13) 1,none,[]⟩,
 ⟨some 3,.new 32 [(.val (.int .i64 0)),(.val (.int .i64 0)),(.val (.int .i64 0)),(.val (.int .i64 0)),(.val (.int .i64 0)),(.val (.int .i64 0)),(.val (.int .i64 0))],none,[]⟩,
 ⟨none,.st 7 (.t 3) (.t 17),none,[]⟩,
 ⟨some 4,.mv (.t 18),none,[]⟩])
 (.seq (.reg [⟨some 20,.ldn 9 (.t 1),none,[]⟩,
 ⟨some 21,.ldn 6 (.t 2),none,[]⟩,
 ⟨some 22,.call (.f 15) [(.t 20),(.t 21),(.c (.val (.int .i64 0))),(.c (.val (.int .i64 9)))],none,[]⟩,
 ⟨some 19,.mv (.t 22),none,[]⟩,
 ⟨some 23,.ext (.t 19) 0,none,[]⟩,
 ⟨some 24,.ext (.t 19) 1,none,[]⟩,
 ⟨some 5,.new 27 [(.val (.slice none 0 0)),(.val (.slice none 0 0)),(.val (.int .i64 0)),(.val (.int .i64 0)),(.val (.int .i64 0)),(.val (.int .i64 0))],none,[]⟩,
 ⟨none,.st 6 (.t 5) (.t 23),none,[]⟩,
 ⟨some 6,.mv (.t 24),none,[]⟩])
 (.seq (.reg [⟨some 25,.mv (.t 4),none,[]⟩,
 ⟨some 26,.mv (.t 25),none,[]⟩,
 ⟨some 27,.ldn 7 (.t 3),(some (26,true)),[]⟩,
 ⟨some 28,.build [(.val (.int .i64 0)),(.val (.int .i64 0)),(.val (.int .i64 0)),(.val (.int .i64 0)),(.val (.int .i64 0)),(.val (.int .i64 0)),(.val (.int .i64 0))] [(0,1,(.c (.val (.int .i64 9)))),(1,1,(.c (.val (.int .i64 1)))),(2,1,(.c (.val (.int .i64 1))))],(some (26,true)),[]⟩,
 ⟨some 29,.eqs false [0,0,0,0,0,0,0] (.t 27) (.t 28),(some (26,true)),[]⟩,
 ⟨some 30,.pick (.t 26) (.t 29) (.c (.val (.bool false))),none,[]⟩,
 ⟨some 31,.mv (.t 30),none,[]⟩,
 ⟨some 32,.mv (.t 6),(some (31,true)),[]⟩,
 ⟨some 33,.len (.t 32),(some (31,true)),[]⟩,
 ⟨some 34,.bin .eql (.t 33) (.c (.val (.int .i64 1))),(some (31,true)),[]⟩,
 ⟨some 35,.pick (.t 31) (.t 34) (.c (.val (.bool false))),none,[]⟩,
 ⟨some 36,.mv (.t 35),none,[]⟩,
 ⟨some 37,.fad 1 (.t 5),(some (36,true)),[]⟩,
 ⟨some 38,.ld1 (.t 37),(some (36,true)),[]⟩,
 ⟨some 39,.ixa 12 (.t 38) (.c (.val (.int .i64 0))),(some (36,true)),[]⟩,
 ⟨some 40,.fad 6 (.t 39),(some (36,true)),[]⟩,
 ⟨some 41,.ld1 (.t 40),(some (36,true)),[]⟩,
 ⟨some 42,.bin .eql (.t 41) (.c (.val (.int .i64 1))),(some (36,true)),[]⟩,
 ⟨some 43,.pick (.t 36) (.t 42) (.c (.val (.bool false))),none,[]⟩,
 ⟨some 44,.mv (.t 43),none,[]⟩,
 ⟨some 45,.ldn 6 (.t 5),(some (44,true)),[]⟩,
 ⟨some 46,.call (.f 13) [(.t 45),(.c (.val (.int .i64 0)))],(some (44,true)),[]⟩,
 ⟨some 47,.len (.t 46),(some (44,true)),[]⟩,
 ⟨some 48,.bin .eql (.t 47) (.c (.val (.int .i64 0))),(some (44,true)),[]⟩,
 ⟨some 49,.pick (.t 44) (.t 48) (.c (.val (.bool false))),none,[]⟩,
 ⟨some 0,.mv (.t 49),none,[]⟩])
 .ret)))))),
[(.t 0)])
theorem irOk7 : convFn Tryz.prog Tryz.f7 = some ir7 := by kernel_rfl
/-- dunnagelaw18.time -/
def ir9 : Nat × C × List RV := (9,
(.seq (.reg [⟨some 2,.mv (.c (.val (.bool false))),none,[]⟩])
 (.seq (.reg [⟨some 3,.mv (.t 0),none,[]⟩,
 ⟨some 4,.bin .geq (.t 3) (.c (.val (.int .i64 0))),none,[]⟩,
 ⟨some 5,.mv (.t 4),none,[]⟩,
 ⟨some 6,.mv (.t 0),(some (5,true)),[]⟩,
 ⟨some 7,.bin .leq (.t 6) (.c (.val (.int .i64 1000000))),(some (5,true)),[]⟩,
 ⟨some 8,.pick (.t 5) (.t 7) (.c (.val (.bool false))),none,[]⟩,
 ⟨some 2,.mv (.t 8),none,[]⟩])
 .ret)),
[(.t 2)])
theorem irOk9 : convFn Tryz.prog Tryz.f9 = some ir9 := by kernel_rfl
def c18 : ConfD := ⟨1, 1, 0, 1, 2, 1, 1, 0, 2000⟩
def a18 : StateD := ⟨[⟨true, false, false, 1, 0⟩], [⟨0, 0, 1, 1, 1, 0, 0, 0, 0, 0, 0, 0⟩], 1, 1, 0, 0⟩
def b18 : StateD := ⟨[⟨true, false, false, 1, 1⟩], [⟨0, 0, 1, 1, 1, 0, 1, 1, 1, 0, 0, 0⟩], 1, 1, 0, 0⟩
def o18 : OpD := ⟨9, 1, 1, 0, 0, 0, 0⟩
theorem right18 : RightP c18 a18 := (right_iff c18 a18).1 (by decide +kernel)
theorem app18 : applyD c18 a18 o18 = (b18, 0) := by decide +kernel
theorem next18_eq : anextS a18 0 = (1, 1, true) := by
  have hl : lineN a18 = [0] := by rw [← lineR_eq]; decide +kernel
  have h : nowR a18 ((0 + 1 : Nat) : Int) = (1, true) := by decide +kernel
  rw [next_same right18 (by decide)]
  unfold nextR
  rw [hl]
  simp only [nextGo,h,if_true]
  rfl
theorem next18b_eq : anextS b18 0 = (0, 0, false) := by
  have hl : lineN b18 = [] := by rw [← lineR_eq]; decide +kernel
  unfold anextS
  rw [hl]
  rfl
theorem plan18_eq : planO c18 a18 0 = some o18 := by
  have h1 : evictO a18 0 = none := by decide +kernel
  have h2 : nextW c18 a18 0 = none := by decide +kernel
  unfold planO holdO
  rw [h1, h2, next18_eq]
  rfl
theorem plan18b_eq : planO c18 b18 0 = none := by
  have h1 : evictO b18 0 = none := by decide +kernel
  have h2 : nextW c18 b18 0 = none := by decide +kernel
  unfold planO holdO
  rw [h1, h2, next18b_eq]
  rfl
theorem run18_eq : runD c18 a18 0 9 = (b18, [o18]) := by
  unfold runD
  rw [show (9 : Int).toNat = 8 + 1 from rfl, runTo, plan18_eq]
  simp only [app18,if_true]
  rw [runTo_stop (.inl plan18b_eq)]
  rfl
theorem late18b_eq : lateN b18 0 = [] := by decide +kernel
set_option maxHeartbeats 4000000 in
theorem alive18_tri : Tri Tryz.prog bookG 7 [] [] (.bool true) [] := by
  have t0 : TimeR 0 := ⟨by decide, by decide⟩
  have hN := plan_tri (G := bookG) c18 a18 right18 0 t0
  have hR := run_tri c18 a18 right18 0 9 t0 (by decide)
  have hL := late_tri (G := bookG) b18 0 (by decide)
  rw [plan18_eq] at hN
  rw [run18_eq] at hR
  rw [late18b_eq] at hL
  refine tri_W0 Tryz.func7 (by decide) irOk7 (Nat.le_of_ble_eq_true rfl) rfl ?_
  simp only [ir7,go_sem,↓reduceIte,zA,zB,zC,zD,zE,zF,reduceCtorEq,zG,zH,zI,zJ,zK,zL,zM,zN,zO,zP]
  simp only [c18,a18,b18,o18,optV,Option.getD_some,Option.isSome_some,List.map_cons,List.map_nil,nodeR,jobR,opR,natR,go_sem,↓reduceIte,zA,zB,zC,zD,zE,zF,reduceCtorEq,zG,zH,zI,zJ,zK,zL,zM,zN,zO,zP] at hN hR hL
  refine W_callz [1, 2] (hN) rfl (by simp [argRs,argR,rowsAt,objL,go_sem,↓reduceIte,zA,zB,zC,zD,zE,zF,reduceCtorEq,zG,zH,zI,zJ,zK,zL,zM,zN,zO,zP]) (by simp [objL]) rfl rfl ?_; simp only [go_sem,↓reduceIte,zA,zB,zC,zD,zE,zF,reduceCtorEq,zG,zH,zI,zJ,zK,zL,zM,zN,zO,zP]
  refine W_callf [1, 2] (hR) rfl (by simp [argRs,argR,rowsAt,objL,go_sem,↓reduceIte,zA,zB,zC,zD,zE,zF,reduceCtorEq,zG,zH,zI,zJ,zK,zL,zM,zN,zO,zP]) (by simp [objL]) rfl ?_; simp only [go_sem,↓reduceIte,zA,zB,zC,zD,zE,zF,reduceCtorEq,zG,zH,zI,zJ,zK,zL,zM,zN,zO,zP]
  simp only [show (((1 : Nat) : Int) == 1) = true from rfl,go_sem,↓reduceIte,zA,zB,zC,zD,zE,zF,reduceCtorEq,zG,zH,zI,zJ,zK,zL,zM,zN,zO,zP]
  refine W_calld (hL) rfl rfl rfl rfl ?_; simp only [go_sem,↓reduceIte,zA,zB,zC,zD,zE,zF,reduceCtorEq,zG,zH,zI,zJ,zK,zL,zM,zN,zO,zP]
  rfl
def timeB (now : Int) : Bool := decide (0 ≤ now ∧ now ≤ 1000000)
theorem time18_tri (now : Int) : Tri Tryz.prog G 9 [.int now] [] (.bool (timeB now)) [] := by
  refine tri_W0 Tryz.func9 (by decide) irOk9 (Nat.le_of_ble_eq_true rfl) rfl ?_
  simp only [ir9,go_sem,↓reduceIte,zA,zB,zC,zD,zE,zF,reduceCtorEq,zG,zH,zI,zJ,zK,zL,zM,zN,zO,zP]
  unfold timeB
  by_cases h1 : 0 ≤ now
  · simp only [decide_eq_true (show now ≥ 0 from h1),h1,true_and,go_sem,↓reduceIte,zA,zB,zC,zD,zE,zF,reduceCtorEq,zG,zH,zI,zJ,zK,zL,zM,zN,zO,zP]
  · simp only [decide_eq_false (show ¬ now ≥ 0 from h1),h1,false_and,decide_false,go_sem,↓reduceIte,zA,zB,zC,zD,zE,zF,reduceCtorEq,zG,zH,zI,zJ,zK,zL,zM,zN,zO,zP]
theorem run_lens {c : ConfD} {s : StateD} (h : RightP c s) {now most : Int} (hm : most ≤ 90) : RightP c (runD c s now most).1 ∧ (runD c s now most).2.length ≤ 90 := by
  unfold runD
  refine ⟨runTo_right _ _ _ h, ?_⟩
  have := runTo_len (c := c) (now := now) most.toNat s
  omega
end Dv
