/- Behind, all of them. -/
import Derived.Test.YtjmceebhnjiikaaDoorD6
import Derived.Test.YtjmceebhnjiikaaDoorD7
set_option linter.unusedVariables false
set_option linter.unusedSimpArgs false
namespace Dv
open Go Go.Proofs
open Nat renaming reduceEqDiff → zA, reduceAdd → zB, reduceSub → zC, reduceMul → zD, reduceLT → zE, reduceLeDiff → zF
open Int renaming reduceLE → zG, reduceLT → zH, reduceToNat → zI, reduceBEq → zJ, reduceBNe → zK, reduceEq → zL, reduceAdd → zM, reduceSub → zN, reduceMul → zO, reduceNeg → zP
attribute [local go_sem] argEnv W_nil W_seq W_skip W_ret W_exit W_scope W_block W_blk W_reg W_regD W_cond WC_t WC_f WC_any Wx_c Wx_ops Wx_lp Wx_blk W_ops_nil W_opsD_q W_guard W_guardD WG_tt WG_ff WG_tf WG_ft WG_u WGD_tt WGD_ff WGD_tf WGD_ft WGD_u WE_some WED_some W_mv W_pick W_new W_box W_build W_bsl W_ld1 W_ldn W_st W_nck W_bin W_eqb W_not W_cvt W_fad W_fld1 W_fldn W_ixa W_ixr W_ix1 W_ixs W_len W_lens W_mkf W_ext W_app W_min W_isnp W_isns W_eqs W_neg W_ixn W_sli W_sls WD_mv WD_pick WD_new WD_box WD_build WD_bsl WD_ld1 WD_ldn WD_st WD_nck WD_bin WD_eqb WD_not WD_cvt WD_fad WD_fld1 WD_fldn WD_ixa WD_ixr WD_ix1 WD_ixs WD_len WD_lens WD_mkf WD_ext WD_app WD_min WD_isnp WD_isns WD_eqs WD_neg WD_ixn WD_sli WD_sls effF Opd.ev getE putE binV LV.int LV.bool LV.undef Go.undef LV.cells LV.toD LV.toDs splice fillL rowsOf srcRows updL objL Eff.owned nwp St.get St.obj St.put Value.oneCell' Ends adopt Ad.ap isNil St.keep St.okKeep okObj idl idlL idlO RVs.of RV.of oneOr Ends0 EndsO_iff frzs rn rnL rnO piOf eqCells eqV boundV Option.map_some Option.map_none List.append_nil List.nil_append List.cons_append List.map_nil List.map_cons List.length_nil List.length_cons List.set_cons_zero List.set_cons_succ List.take_succ_cons List.take_zero List.take_nil List.drop_succ_cons List.drop_zero List.drop_nil List.getElem?_cons_zero List.getElem?_cons_succ List.getElem?_nil List.isEmpty_nil List.isEmpty_cons List.all_cons List.all_nil List.isEmpty_nil cond_true cond_false Bool.true_and Bool.false_and Bool.and_true Bool.and_false Bool.not_true Bool.not_false Bool.or_true Bool.true_or Bool.or_false Bool.false_or true_and and_true true_or or_true Option.some.injEq LV.d.injEq DV.val.injEq Value.bool.injEq Value.int.injEq decide_true decide_false and_self Nat.zero_add Nat.add_zero if_true if_false Int.toNat_zero beq_self_eq_true Nat.zero_lt_succ Int.toNat_natCast Int.natCast_nonneg List.length_map i64 bl List.zip_cons_cons List.zip_nil_left List.zip_nil_right nwp confV stateV nodeV jobV nodesV jobsV opV msgV nodeR jobR opR msgR zeroOp zeroMsg
variable {G : Nat → Option (List DV)}

/-- wave.Behind -/
def ir54 : Nat × C × List RV := (23,
(.seq (.reg [⟨(some 1), .box 27 (.t 0), none, []⟩,
 ⟨(some 2), .mv (.c (.val (.slice none 0 0))), none, []⟩])
 (.seq (.reg [⟨(some 3), .mv (.c (.val (.slice none 0 0))), none, []⟩])
 (.seq (.seq (.reg [⟨(some 6), .fad 0 (.t 1), none, []⟩,
 ⟨(some 7), .ld1 (.t 6), none, []⟩,
 ⟨(some 8), .len (.t 7), none, []⟩,
 ⟨(some 9), .mv (.c (.val (.int .i64 0))), none, []⟩])
 (.block 0 (.loop (.seq (.reg [⟨(some 10), .bin .lss (.t 9) (.t 8), none, []⟩])
 (.seq (.cond (.t 10) .skip
 (.exit 0))
 (.seq (.block 1 (.seq (.reg [⟨(some 11), .mv (.t 9), none, []⟩,
 ⟨(some 12), .ixa 5 (.t 7) (.t 9), none, []⟩,
 ⟨(some 13), .ldn 5 (.t 12), none, []⟩,
 ⟨(some 5), .new 48 [(.val (.bool false)), (.val (.bool false)), (.val (.bool false)), (.val (.int .i64 0)), (.val (.int .i64 0))], none, []⟩,
 ⟨(some 4), .mv (.t 11), none, []⟩,
 ⟨none, .st 5 (.t 5) (.t 13), none, []⟩])
 (.seq (.reg [⟨(some 14), .ldn 6 (.t 1), none, []⟩,
 ⟨(some 15), .ldn 5 (.t 5), none, []⟩,
 ⟨(some 16), .call (.f 93) [(.t 14), (.t 15)], none, []⟩])
 (.cond (.t 16) (.reg [⟨(some 17), .mv (.t 3), none, []⟩,
 ⟨(some 18), .mv (.t 4), none, []⟩,
 ⟨(some 19), .bsl 3 1 [(.t 18)], none, []⟩,
 ⟨(some 20), .app 3 1 8 (.t 17) (.t 19), none, []⟩,
 ⟨(some 3), .mv (.t 20), none, []⟩])
 .skip))))
 (.reg [⟨(some 21), .bin .add (.t 9) (.c (.val (.int .i64 1))), none, []⟩,
 ⟨(some 9), .mv (.t 21), none, []⟩])))))))
 (.seq (.reg [⟨(some 22), .mv (.t 3), none, []⟩,
 ⟨(some 2), .mv (.t 22), none, []⟩])
 .ret)))),
[(.t 2)])
theorem irOk54 : convFn Tryd.prog Tryd.f54 = some ir54 := by kernel_rfl


def behindL (s : StateD) (k : Nat) : List Nat := (List.range k).filter fun i => behindB s (s.nodes.getD i zeroNode)
theorem behindL_succ (s : StateD) (k : Nat) : behindL s (k + 1) = behindL s k ++ (if behindB s (s.nodes.getD k zeroNode) then [k] else []) := by
  unfold behindL
  rw [List.range_succ, List.filter_append]
  simp only [List.filter_cons, List.filter_nil]
theorem behindL_len (s : StateD) (k : Nat) : (behindL s k).length ≤ k := by
  have := List.length_filter_le (fun i => behindB s (s.nodes.getD i zeroNode)) (List.range k)
  simpa [behindL] using this
def intsR (l : List Nat) : List (List DV) := l.map fun (i : Nat) => [i64 i]
def behindS (s : StateD) (k : Nat) : St := ⟨[(1, .ptr 0 0), (3, .sl 1 (behindL s k).length 1 0 (behindL s k).length), (7, nodesV s.nodes), (8, .int s.nodes.length), (9, .int k)], [some (.box 27 [nodesV s.nodes, jobsV s.jobs, .int s.goal, .int s.prior, .int s.mode, .int s.term]), some (.dat 3 1 (intsR (behindL s k)))]⟩
theorem behindAll_tri (s : StateD) (hn : s.nodes.length ≤ 1000) : Tri Tryd.prog G 54 [stateV s] [] (.d (.lst 1 (intsR (behindL s s.nodes.length)))) [] := by
  refine tri_W Tryd.func54 (by decide) irOk54 (Nat.le_of_ble_eq_true rfl) ?_
  simp only [ir54, go_sem, ↓reduceIte, zA, zB, zC, zD, zE, zF, reduceCtorEq, zG, zH, zI, zJ, zK, zL, zM, zN, zO, zP]
  refine W_loopI [1, 3, 7, 8, 9] [.t 3 3 1] (fun k : Nat => k ≤ s.nodes.length) (fun k => s.nodes.length - k) (behindS s) 0 ?_ (Nat.zero_le _) (fun k hk => ?_)
  · simp only [behindS, go_sem, ↓reduceIte, zA, zB, zC, zD, zE, zF, reduceCtorEq, zG, zH, zI, zJ, zK, zL, zM, zN, zO, zP, behindL, List.range_zero, List.filter_nil, intsR, Int.natCast_zero]
  simp only [behindS, go_sem, ↓reduceIte, zA, zB, zC, zD, zE, zF, reduceCtorEq, zG, zH, zI, zJ, zK, zL, zM, zN, zO, zP]
  refine WC_split (fun h => ?_) (fun h => ?_)
  · have h := lt_of_dec h
    have hg := get_mapD (f := nodeR) zeroNode h
    have hk2 := behindL_succ s k
    have hlen := behindL_len s k
    have hbd : ((behindL s k).length + 1) * 8 ≤ 70368744177664 := by omega
    generalize s.nodes.getD k zeroNode = n at *
    simp only [hg, go_sem, ↓reduceIte, zA, zB, zC, zD, zE, zF, reduceCtorEq, zG, zH, zI, zJ, zK, zL, zM, zN, zO, zP]
    refine W_calld (behind_tri s n) rfl rfl rfl rfl ?_; simp only [go_sem, ↓reduceIte, zA, zB, zC, zD, zE, zF, reduceCtorEq, zG, zH, zI, zJ, zK, zL, zM, zN, zO, zP]
    cases hb : behindB s n with
    | true =>
      rw [hb, if_pos rfl] at hk2
      simp only [intsR, List.length_append, hbd, go_sem, ↓reduceIte, zA, zB, zC, zD, zE, zF, reduceCtorEq, zG, zH, zI, zJ, zK, zL, zM, zN, zO, zP]
      refine W_lpI (k + 1) ?_ ?_ h (by omega)
      · simp only [go_sem, ↓reduceIte, zA, zB, zC, zD, zE, zF, reduceCtorEq, zG, zH, zI, zJ, zK, zL, zM, zN, zO, zP]
      · simp only [behindS, hk2, intsR, List.map_append, List.length_append, go_sem, ↓reduceIte, zA, zB, zC, zD, zE, zF, reduceCtorEq, zG, zH, zI, zJ, zK, zL, zM, zN, zO, zP, wrap_succ (show k < 9223372036854775807 by omega)]
    | false =>
      rw [hb, if_neg (by simp), List.append_nil] at hk2
      simp only [go_sem, ↓reduceIte, zA, zB, zC, zD, zE, zF, reduceCtorEq, zG, zH, zI, zJ, zK, zL, zM, zN, zO, zP]
      refine W_lpI (k + 1) ?_ ?_ h (by omega)
      · simp only [go_sem, ↓reduceIte, zA, zB, zC, zD, zE, zF, reduceCtorEq, zG, zH, zI, zJ, zK, zL, zM, zN, zO, zP]
      · simp only [behindS, hk2, intsR, List.map_append, List.length_append, go_sem, ↓reduceIte, zA, zB, zC, zD, zE, zF, reduceCtorEq, zG, zH, zI, zJ, zK, zL, zM, zN, zO, zP, wrap_succ (show k < 9223372036854775807 by omega)]
  · obtain rfl := eq_of_dec h hk
    simp only [go_sem, ↓reduceIte, zA, zB, zC, zD, zE, zF, reduceCtorEq, zG, zH, zI, zJ, zK, zL, zM, zN, zO, zP]
    exact BackZ [1] rfl (by simp [St.obj, objL]) (by simp [St.obj, objL, oneOr, St.get, getE, argR, rowsAt, intsR, List.take_of_length_le])
end Dv
