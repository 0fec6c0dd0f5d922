/- The logical machine and its plain laws: parts D9, D10, D11, D12, D13, proved sound. -/
import Derived.Test.YtcfcigjkijkhdaaDoorD7
import Derived.Test.YtcfcigjkijkhdaaDoorPA
set_option linter.unusedVariables false
set_option linter.unusedSimpArgs false
namespace Dv
open Go Go.Proofs
variable {G : Nat → Option (List DV)}



@[reducible] def noP : LV := .d (.val (.pointer none))

end Dv

namespace Dv
open Go Go.Proofs
variable {G : Nat → Option (List DV)}



section
variable (c : ConfD) (s : StateD) (o : OpD) (i : Nat) (hi : i < s.nodes.length) (ha : o.a = i)
include hi ha
end
end Dv

namespace Dv
open Go Go.Proofs
variable {G : Nat → Option (List DV)}

end Dv

namespace Dv
open Go Go.Proofs
variable {G : Nat → Option (List DV)}



theorem less_eq (m b : Nat) (hm : m < 64) (hb : b < 6) : andNotI .i64 (m : Int) (2 ^ b) = lessD m b := by
  have : ∀ m : Nat, m < 64 → ∀ b : Nat, b < 6 → andNotI .i64 (m : Int) (2 ^ b) = lessD m b := by decide +kernel
  exact this m hm b hb
end Dv

namespace Dv
open Go Go.Proofs
open Nat renaming reduceEqDiff → zA, reduceAdd → zB, reduceSub → zC, reduceMul → zD, reduceLT → zE, reduceLeDiff → zF
open Int renaming reduceLE → zG, reduceLT → zH, reduceToNat → zI, reduceBEq → zJ, reduceBNe → zK, reduceEq → zL, reduceAdd → zM, reduceSub → zN, reduceMul → zO, reduceNeg → zP
attribute [local go_sem] argEnv W_nil W_seq W_skip W_ret W_exit W_scope W_block W_blk W_reg W_regD W_cond WC_t WC_f WC_any Wx_c Wx_ops Wx_lp Wx_blk W_ops_nil W_opsD_q W_guard W_guardD WG_tt WG_ff WG_tf WG_ft WG_u WGD_tt WGD_ff WGD_tf WGD_ft WGD_u WE_some WED_some W_more W_mv W_pick W_new W_box W_build W_bsl W_ld1 W_ldn W_st W_nck W_bin W_eqb W_not W_cvt W_fad W_fld1 W_fldn W_ixa W_ixr W_ix1 W_ixs W_len W_lens W_mkf W_ext W_app W_min W_isnp W_isns W_eqs W_neg W_ixn W_sli W_sls WD_more WD_mv WD_pick WD_new WD_box WD_build WD_bsl WD_ld1 WD_ldn WD_st WD_nck WD_bin WD_eqb WD_not WD_cvt WD_fad WD_fld1 WD_fldn WD_ixa WD_ixr WD_ix1 WD_ixs WD_len WD_lens WD_mkf WD_ext WD_app WD_min WD_isnp WD_isns WD_eqs WD_neg WD_ixn WD_sli WD_sls effF effM bytesOf Opd.ev getE putE binV LV.int LV.bool LV.undef Go.undef LV.cells LV.toD LV.toDs splice fillL rowsOf boxOf srcRows updL objL Eff.owned nwp St.get St.obj St.put Value.oneCell' Ends adopt Ad.ap isNil St.keep St.okKeep okObj idl idlL idlO RVs.of RV.of oneOr Ends0 EndsO_iff frzs rn rnL rnO piOf eqCells eqV boundV Option.map_some Option.map_none List.append_nil List.nil_append List.cons_append List.map_nil List.map_cons List.length_nil List.length_cons List.set_cons_zero List.set_cons_succ List.take_succ_cons List.take_zero List.take_nil List.drop_succ_cons List.drop_zero List.drop_nil List.getElem?_cons_zero List.getElem?_cons_succ List.getElem?_nil List.isEmpty_nil List.isEmpty_cons List.all_cons List.all_nil List.isEmpty_nil cond_true cond_false Bool.true_and Bool.false_and Bool.and_true Bool.and_false Bool.not_true Bool.not_false Bool.or_true Bool.true_or Bool.or_false Bool.false_or true_and and_true true_or or_true Option.some.injEq LV.d.injEq DV.val.injEq Value.bool.injEq Value.int.injEq decide_true decide_false and_self Nat.zero_add Nat.add_zero if_true if_false Int.toNat_zero beq_self_eq_true Nat.zero_lt_succ Int.toNat_natCast Int.natCast_nonneg List.length_map i64 bl List.zip_cons_cons List.zip_nil_left List.zip_nil_right nwp confV stateV nodeV jobV nodesV jobsV opV msgV nodeR jobR opR msgR zeroOp zeroMsg msgsV
variable {G : Nat → Option (List DV)}

/-- ops.Name -/
def ir43 : Nat × C × List RV := (12,
(.seq (.reg [⟨(some 2), .mv (.c (.val (.string ⟨#[]⟩))), none, []⟩])
 (.seq (.seq (.reg [⟨(some 3), .mv (.t 0), none, []⟩,
 ⟨(some 4), .bin .lss (.t 3) (.c (.val (.int .i64 0))), none, []⟩,
 ⟨(some 5), .mv (.t 4), none, []⟩,
 ⟨(some 6), .mv (.t 0), (some (5, false)), []⟩,
 ⟨(some 7), .bin .geq (.t 6) (.c (.val (.int .i64 22))), (some (5, false)), []⟩,
 ⟨(some 8), .pick (.t 5) (.c (.val (.bool true))) (.t 7), none, []⟩])
 (.cond (.t 8) (.seq (.reg [⟨(some 2), .mv (.c (.val (.string ⟨#[]⟩))), none, []⟩])
 .ret)
 .skip))
 (.seq (.reg [⟨(some 9), .mv (.t 0), none, []⟩,
 ⟨(some 10), .ixr 22 1 (.g 1) (.t 9), none, []⟩,
 ⟨(some 11), .ld1 (.t 10), none, []⟩,
 ⟨(some 2), .mv (.t 11), none, []⟩])
 .ret))),
[(.t 2)])
theorem irOk43 : convFn Tryd.prog Tryd.f43 = some ir43 := by kernel_rfl
/-- ops.row -/
def ir44 : Nat × C × List RV := (16,
(.seq (.reg [⟨(some 1), .box 23 (.t 0), none, []⟩,
 ⟨(some 2), .new 73 [(.val (.int .i64 0)), (.val (.int .i64 0)), (.val (.int .i64 0)), (.val (.int .i64 0)), (.val (.int .i64 0)), (.val (.int .i64 0))], none, []⟩])
 (.seq (.reg [⟨(some 3), .fad 1 (.t 1), none, []⟩,
 ⟨(some 4), .ld1 (.t 3), none, []⟩,
 ⟨(some 5), .fad 2 (.t 1), none, []⟩,
 ⟨(some 6), .ld1 (.t 5), none, []⟩,
 ⟨(some 7), .fad 3 (.t 1), none, []⟩,
 ⟨(some 8), .ld1 (.t 7), none, []⟩,
 ⟨(some 9), .fad 4 (.t 1), none, []⟩,
 ⟨(some 10), .ld1 (.t 9), none, []⟩,
 ⟨(some 11), .fad 5 (.t 1), none, []⟩,
 ⟨(some 12), .ld1 (.t 11), none, []⟩,
 ⟨(some 13), .fad 6 (.t 1), none, []⟩,
 ⟨(some 14), .ld1 (.t 13), none, []⟩,
 ⟨(some 15), .build [(.val (.int .i64 0)), (.val (.int .i64 0)), (.val (.int .i64 0)), (.val (.int .i64 0)), (.val (.int .i64 0)), (.val (.int .i64 0))] [(0, 1, (.t 4)), (1, 1, (.t 6)), (2, 1, (.t 8)), (3, 1, (.t 10)), (4, 1, (.t 12)), (5, 1, (.t 14))], none, []⟩,
 ⟨none, .st 6 (.t 2) (.t 15), none, []⟩])
 .ret)),
[(.cn 2 6)])
theorem irOk44 : convFn Tryd.prog Tryd.f44 = some ir44 := by kernel_rfl
/-- ops.Right -/
def ir28 : Nat × C × List RV := (34,
(.seq (.reg [⟨(some 1), .box 23 (.t 0), none, []⟩,
 ⟨(some 2), .mv (.c (.val (.bool false))), none, []⟩])
 (.seq (.seq (.reg [⟨(some 5), .fad 0 (.t 1), none, []⟩,
 ⟨(some 6), .ld1 (.t 5), none, []⟩,
 ⟨(some 7), .call (.f 43) [(.t 6)], none, []⟩,
 ⟨(some 8), .bin .eql (.t 7) (.c (.val (.string ⟨#[]⟩))), none, []⟩])
 (.cond (.t 8) (.seq (.reg [⟨(some 2), .mv (.c (.val (.bool false))), none, []⟩])
 .ret)
 .skip))
 (.seq (.seq (.reg [⟨(some 9), .ldn 7 (.t 1), none, []⟩,
 ⟨(some 10), .call (.f 44) [(.t 9)], none, []⟩,
 ⟨(some 11), .mv (.c (.val (.int .i64 0))), none, []⟩])
 (.block 0 (.loop (.seq (.reg [⟨(some 12), .bin .lss (.t 11) (.c (.val (.int .i64 6))), none, []⟩])
 (.seq (.cond (.t 12) .skip
 (.exit 0))
 (.seq (.block 1 (.seq (.reg [⟨(some 13), .mv (.t 11), none, []⟩,
 ⟨(some 14), .ix1 6 (.t 10) (.t 11), none, []⟩,
 ⟨(some 3), .mv (.t 13), none, []⟩,
 ⟨(some 4), .mv (.t 14), none, []⟩])
 (.seq (.reg [⟨(some 15), .mv (.t 4), none, []⟩,
 ⟨(some 16), .bin .lss (.t 15) (.c (.val (.int .i64 0))), none, []⟩,
 ⟨(some 17), .mv (.t 16), none, []⟩,
 ⟨(some 18), .mv (.t 4), (some (17, false)), []⟩,
 ⟨(some 19), .bin .gtr (.t 18) (.c (.val (.int .i64 1000000))), (some (17, false)), []⟩,
 ⟨(some 20), .pick (.t 17) (.c (.val (.bool true))) (.t 19), none, []⟩,
 ⟨(some 21), .mv (.t 20), none, []⟩,
 ⟨(some 22), .mv (.t 3), (some (21, false)), []⟩,
 ⟨(some 23), .fad 0 (.t 1), (some (21, false)), []⟩,
 ⟨(some 24), .ld1 (.t 23), (some (21, false)), []⟩,
 ⟨(some 25), .ixr 22 1 (.g 0) (.t 24), (some (21, false)), []⟩,
 ⟨(some 26), .ld1 (.t 25), (some (21, false)), []⟩,
 ⟨(some 27), .bin .geq (.t 22) (.t 26), (some (21, false)), []⟩,
 ⟨(some 28), .mv (.t 27), (some (21, false)), []⟩,
 ⟨(some 29), .mv (.t 4), (some (28, true)), []⟩,
 ⟨(some 30), .bin .neq (.t 29) (.c (.val (.int .i64 0))), (some (28, true)), []⟩,
 ⟨(some 31), .pick (.t 28) (.t 30) (.c (.val (.bool false))), (some (21, false)), []⟩,
 ⟨(some 32), .pick (.t 21) (.c (.val (.bool true))) (.t 31), none, []⟩])
 (.cond (.t 32) (.seq (.reg [⟨(some 2), .mv (.c (.val (.bool false))), none, []⟩])
 .ret)
 .skip))))
 (.reg [⟨(some 33), .bin .add (.t 11) (.c (.val (.int .i64 1))), none, []⟩,
 ⟨(some 11), .mv (.t 33), none, []⟩])))))))
 (.seq (.reg [⟨(some 2), .mv (.c (.val (.bool true))), none, []⟩])
 .ret)))),
[(.t 2)])
theorem irOk28 : convFn Tryd.prog Tryd.f28 = some ir28 := by kernel_rfl
/-- dunnageref08.Many -/
def ir46 : Nat × C × List RV := (19,
(.seq (.reg [⟨(some 2), .mv (.c (.val (.int .i64 0))), none, []⟩])
 (.seq (.seq (.reg [⟨(some 3), .mv (.t 0), none, []⟩])
 (.block 0 (.seq (.reg [⟨(some 5), .bin .eql (.t 3) (.c (.val (.int .i64 1))), none, []⟩,
 ⟨(some 4), .mv (.t 5), none, []⟩])
 (.cond (.t 4) (.seq (.reg [⟨(some 2), .mv (.c (.val (.int .i64 6))), none, []⟩])
 .ret)
 (.seq (.seq (.reg [⟨(some 7), .bin .eql (.t 3) (.c (.val (.int .i64 4))), none, []⟩,
 ⟨(some 6), .mv (.t 7), none, []⟩])
 (.cond (.t 6) .skip
 (.seq (.reg [⟨(some 8), .bin .eql (.t 3) (.c (.val (.int .i64 5))), none, []⟩,
 ⟨(some 6), .mv (.t 8), none, []⟩])
 (.cond (.t 6) .skip
 (.seq (.reg [⟨(some 9), .bin .eql (.t 3) (.c (.val (.int .i64 6))), none, []⟩,
 ⟨(some 6), .mv (.t 9), none, []⟩])
 (.cond (.t 6) .skip
 (.reg [⟨(some 10), .bin .eql (.t 3) (.c (.val (.int .i64 21))), none, []⟩,
 ⟨(some 6), .mv (.t 10), none, []⟩])))))))
 (.cond (.t 6) (.seq (.reg [⟨(some 2), .mv (.c (.val (.int .i64 0))), none, []⟩])
 .ret)
 (.seq (.seq (.reg [⟨(some 12), .bin .eql (.t 3) (.c (.val (.int .i64 8))), none, []⟩,
 ⟨(some 11), .mv (.t 12), none, []⟩])
 (.cond (.t 11) .skip
 (.seq (.reg [⟨(some 13), .bin .eql (.t 3) (.c (.val (.int .i64 9))), none, []⟩,
 ⟨(some 11), .mv (.t 13), none, []⟩])
 (.cond (.t 11) .skip
 (.seq (.reg [⟨(some 14), .bin .eql (.t 3) (.c (.val (.int .i64 10))), none, []⟩,
 ⟨(some 11), .mv (.t 14), none, []⟩])
 (.cond (.t 11) .skip
 (.seq (.reg [⟨(some 15), .bin .eql (.t 3) (.c (.val (.int .i64 12))), none, []⟩,
 ⟨(some 11), .mv (.t 15), none, []⟩])
 (.cond (.t 11) .skip
 (.seq (.reg [⟨(some 16), .bin .eql (.t 3) (.c (.val (.int .i64 13))), none, []⟩,
 ⟨(some 11), .mv (.t 16), none, []⟩])
 (.cond (.t 11) .skip
 (.seq (.reg [⟨(some 17), .bin .eql (.t 3) (.c (.val (.int .i64 19))), none, []⟩,
 ⟨(some 11), .mv (.t 17), none, []⟩])
 (.cond (.t 11) .skip
 (.reg [⟨(some 18), .bin .eql (.t 3) (.c (.val (.int .i64 20))), none, []⟩,
 ⟨(some 11), .mv (.t 18), none, []⟩])))))))))))))
 (.cond (.t 11) (.seq (.reg [⟨(some 2), .mv (.c (.val (.int .i64 2))), none, []⟩])
 .ret)
 .skip))))))))
 (.seq (.reg [⟨(some 2), .mv (.c (.val (.int .i64 1))), none, []⟩])
 .ret))),
[(.t 2)])
theorem irOk46 : convFn Tryd.prog Tryd.f46 = some ir46 := by kernel_rfl
/-- dunnageref08.Numbers -/
def ir45 : Nat × C × List RV := (16,
(.seq (.reg [⟨(some 1), .box 23 (.t 0), none, []⟩,
 ⟨(some 2), .mv (.c (.val (.slice none 0 0))), none, []⟩])
 (.seq (.reg [⟨(some 3), .fad 1 (.t 1), none, []⟩,
 ⟨(some 4), .ld1 (.t 3), none, []⟩,
 ⟨(some 5), .fad 2 (.t 1), none, []⟩,
 ⟨(some 6), .ld1 (.t 5), none, []⟩,
 ⟨(some 7), .fad 3 (.t 1), none, []⟩,
 ⟨(some 8), .ld1 (.t 7), none, []⟩,
 ⟨(some 9), .fad 4 (.t 1), none, []⟩,
 ⟨(some 10), .ld1 (.t 9), none, []⟩,
 ⟨(some 11), .fad 5 (.t 1), none, []⟩,
 ⟨(some 12), .ld1 (.t 11), none, []⟩,
 ⟨(some 13), .fad 6 (.t 1), none, []⟩,
 ⟨(some 14), .ld1 (.t 13), none, []⟩,
 ⟨(some 15), .bsl 3 1 [(.t 4), (.t 6), (.t 8), (.t 10), (.t 12), (.t 14)], none, []⟩,
 ⟨(some 2), .mv (.t 15), none, []⟩])
 .ret)),
[(.t 2)])
theorem irOk45 : convFn Tryd.prog Tryd.f45 = some ir45 := by kernel_rfl
/-- dunnageref08.Right -/
def ir30 : Nat × C × List RV := (45,
(.seq (.reg [⟨(some 1), .box 23 (.t 0), none, []⟩,
 ⟨(some 2), .mv (.c (.val (.bool false))), none, []⟩])
 (.seq (.reg [⟨(some 5), .ldn 7 (.t 1), none, []⟩,
 ⟨(some 6), .call (.f 45) [(.t 5)], none, []⟩,
 ⟨(some 3), .mv (.t 6), none, []⟩])
 (.seq (.seq (.reg [⟨(some 4), .mv (.c (.val (.int .i64 0))), none, []⟩])
 (.block 0 (.loop (.seq (.seq (.reg [⟨(some 7), .mv (.t 4), none, []⟩,
 ⟨(some 8), .bin .lss (.t 7) (.c (.val (.int .i64 6))), none, []⟩])
 (.cond (.t 8) .skip
 (.exit 0)))
 (.seq (.block 1 (.seq (.reg [⟨(some 11), .mv (.t 3), none, []⟩,
 ⟨(some 12), .mv (.t 4), none, []⟩,
 ⟨(some 13), .ixa 1 (.t 11) (.t 12), none, []⟩,
 ⟨(some 14), .ld1 (.t 13), none, []⟩,
 ⟨(some 15), .bin .lss (.t 14) (.c (.val (.int .i64 0))), none, []⟩,
 ⟨(some 16), .mv (.t 15), none, []⟩,
 ⟨(some 17), .mv (.t 3), (some (16, false)), []⟩,
 ⟨(some 18), .mv (.t 4), (some (16, false)), []⟩,
 ⟨(some 19), .ixa 1 (.t 17) (.t 18), (some (16, false)), []⟩,
 ⟨(some 20), .ld1 (.t 19), (some (16, false)), []⟩,
 ⟨(some 21), .bin .gtr (.t 20) (.c (.val (.int .i64 1000000))), (some (16, false)), []⟩,
 ⟨(some 22), .pick (.t 16) (.c (.val (.bool true))) (.t 21), none, []⟩,
 ⟨(some 23), .mv (.t 22), none, []⟩,
 ⟨(some 24), .mv (.t 4), (some (23, false)), []⟩,
 ⟨(some 25), .fad 0 (.t 1), (some (23, false)), []⟩,
 ⟨(some 26), .ld1 (.t 25), (some (23, false)), []⟩,
 ⟨(some 27), .call (.f 46) [(.t 26)], (some (23, false)), []⟩,
 ⟨(some 28), .bin .geq (.t 24) (.t 27), (some (23, false)), []⟩,
 ⟨(some 29), .mv (.t 28), (some (23, false)), []⟩,
 ⟨(some 30), .mv (.t 3), (some (29, true)), []⟩,
 ⟨(some 31), .mv (.t 4), (some (29, true)), []⟩,
 ⟨(some 32), .ixa 1 (.t 30) (.t 31), (some (29, true)), []⟩,
 ⟨(some 33), .ld1 (.t 32), (some (29, true)), []⟩,
 ⟨(some 34), .bin .neq (.t 33) (.c (.val (.int .i64 0))), (some (29, true)), []⟩,
 ⟨(some 35), .pick (.t 29) (.t 34) (.c (.val (.bool false))), (some (23, false)), []⟩,
 ⟨(some 36), .pick (.t 23) (.c (.val (.bool true))) (.t 35), none, []⟩])
 (.cond (.t 36) (.seq (.reg [⟨(some 2), .mv (.c (.val (.bool false))), none, []⟩])
 .ret)
 .skip)))
 (.reg [⟨(some 9), .mv (.t 4), none, []⟩,
 ⟨(some 10), .bin .add (.t 9) (.c (.val (.int .i64 1))), none, []⟩,
 ⟨(some 4), .mv (.t 10), none, []⟩]))))))
 (.seq (.reg [⟨(some 37), .fad 0 (.t 1), none, []⟩,
 ⟨(some 38), .ld1 (.t 37), none, []⟩,
 ⟨(some 39), .bin .geq (.t 38) (.c (.val (.int .i64 1))), none, []⟩,
 ⟨(some 40), .mv (.t 39), none, []⟩,
 ⟨(some 41), .fad 0 (.t 1), (some (40, true)), []⟩,
 ⟨(some 42), .ld1 (.t 41), (some (40, true)), []⟩,
 ⟨(some 43), .bin .leq (.t 42) (.c (.val (.int .i64 21))), (some (40, true)), []⟩,
 ⟨(some 44), .pick (.t 40) (.t 43) (.c (.val (.bool false))), none, []⟩,
 ⟨(some 2), .mv (.t 44), none, []⟩])
 .ret)))),
[(.t 2)])
theorem irOk30 : convFn Tryd.prog Tryd.f30 = some ir30 := by kernel_rfl


def numsL (o : OpD) : List Int := [o.a, o.b, o.c, o.d, o.e, o.f]
def opOkL (m : Nat) : List Int → Nat → Bool
  | [], _ => true
  | n :: l, i => numOk n (decide (i < m)) && opOkL m l (i + 1)
theorem opOkB_eq (o : OpD) : opOkB o = (decide (1 ≤ o.kind ∧ o.kind ≤ 21) && opOkL (manyK o.kind) (numsL o) 0) := by
  unfold opOkB numsL
  simp only [opOkL, Bool.and_true, Bool.and_assoc]
/-- the package's tables -/
def manyL : List Int := [0, 6, 1, 1, 0, 0, 0, 1, 2, 2, 2, 1, 2, 2, 1, 1, 1, 1, 1, 2, 2, 0]
def namesL : List ByteArray := [⟨#[]⟩, ⟨#[115, 117, 98, 109, 105, 116]⟩, ⟨#[99, 97, 110, 99, 101, 108]⟩, ⟨#[116, 97, 114, 103, 101, 116]⟩, ⟨#[112, 97, 117, 115, 101]⟩, ⟨#[114, 101, 115, 117, 109, 101]⟩, ⟨#[97, 98, 111, 114, 116]⟩, ⟨#[100, 111, 119, 110]⟩, ⟨#[117, 112]⟩, ⟨#[104, 111, 108, 100]⟩, ⟨#[115, 116, 97, 114, 116]⟩, ⟨#[117, 110, 104, 111, 108, 100]⟩, ⟨#[100, 114, 97, 105, 110]⟩, ⟨#[115, 97, 118, 101, 100]⟩, ⟨#[101, 118, 105, 99, 116]⟩, ⟨#[100, 111, 110, 101]⟩, ⟨#[99, 111, 114, 100, 111, 110]⟩, ⟨#[117, 110, 99, 111, 114, 100, 111, 110]⟩, ⟨#[109, 111, 118, 101]⟩, ⟨#[109, 111, 118, 101, 100]⟩, ⟨#[115, 104, 114, 105, 110, 107]⟩, ⟨#[110, 101, 119, 116, 101, 114, 109]⟩]
def manyR : List DV := manyL.map i64
def namesR : List DV := namesL.map fun s => .val (.string s)
def bookG : Nat → Option (List DV) := fun n => if n = 0 then some manyR else if n = 1 then some namesR else none
theorem bookG_many : bookG 0 = some manyR := rfl
theorem bookG_names : bookG 1 = some namesR := rfl
theorem many_at (k : Int) (h : 1 ≤ k ∧ k ≤ 21) : manyR[k.toNat]? = some (i64 (manyK k : Nat)) := by
  have h : k = 1 ∨ k = 2 ∨ k = 3 ∨ k = 4 ∨ k = 5 ∨ k = 6 ∨ k = 7 ∨ k = 8 ∨ k = 9 ∨ k = 10 ∨ k = 11 ∨ k = 12 ∨ k = 13 ∨ k = 14 ∨ k = 15 ∨ k = 16 ∨ k = 17 ∨ k = 18 ∨ k = 19 ∨ k = 20 ∨ k = 21 := by omega
  rcases h with h | h | h | h | h | h | h | h | h | h | h | h | h | h | h | h | h | h | h | h | h <;> subst h <;> rfl
def nameOf (k : Int) : ByteArray := if 1 ≤ k ∧ k ≤ 21 then namesL.getD k.toNat ⟨#[]⟩ else ⟨#[]⟩
theorem name_at (k : Int) (h : 0 ≤ k ∧ k ≤ 21) : namesR[k.toNat]? = some (.val (.string (nameOf k))) := by
  have h : k = 0 ∨ k = 1 ∨ k = 2 ∨ k = 3 ∨ k = 4 ∨ k = 5 ∨ k = 6 ∨ k = 7 ∨ k = 8 ∨ k = 9 ∨ k = 10 ∨ k = 11 ∨ k = 12 ∨ k = 13 ∨ k = 14 ∨ k = 15 ∨ k = 16 ∨ k = 17 ∨ k = 18 ∨ k = 19 ∨ k = 20 ∨ k = 21 := by omega
  rcases h with h | h | h | h | h | h | h | h | h | h | h | h | h | h | h | h | h | h | h | h | h | h <;> subst h <;> rfl
theorem name_none (k : Int) (h : ¬ (1 ≤ k ∧ k ≤ 21)) : nameOf k = ⟨#[]⟩ := by unfold nameOf; rw [if_neg h]
theorem name_some (k : Int) (h : 1 ≤ k ∧ k ≤ 21) : ((nameOf k).toList == (⟨#[]⟩ : ByteArray).toList) = false := by
  have h : k = 1 ∨ k = 2 ∨ k = 3 ∨ k = 4 ∨ k = 5 ∨ k = 6 ∨ k = 7 ∨ k = 8 ∨ k = 9 ∨ k = 10 ∨ k = 11 ∨ k = 12 ∨ k = 13 ∨ k = 14 ∨ k = 15 ∨ k = 16 ∨ k = 17 ∨ k = 18 ∨ k = 19 ∨ k = 20 ∨ k = 21 := by omega
  rcases h with h | h | h | h | h | h | h | h | h | h | h | h | h | h | h | h | h | h | h | h | h <;> subst h <;> decide +kernel

theorem name_tri (k : Int) : Tri Tryd.prog bookG 43 [.int k] [] (.d (.val (.string (nameOf k)))) [] := by
  refine tri_W0 Tryd.func43 (by decide) irOk43 (Nat.le_of_ble_eq_true rfl) rfl ?_
  simp only [ir43, go_sem, ↓reduceIte, zA, zB, zC, zD, zE, zF, reduceCtorEq, zG, zH, zI, zJ, zK, zL, zM, zN, zO, zP]
  refine WG_split (fun h1 => ?_) (fun h1 => ?_) <;> simp only [h1, go_sem, ↓reduceIte, zA, zB, zC, zD, zE, zF, reduceCtorEq, zG, zH, zI, zJ, zK, zL, zM, zN, zO, zP] <;> (try simp only [beq_iff_eq, beq_eq_false_iff_ne, bne_iff_ne, ne_eq, decide_eq_true_eq, decide_eq_false_iff_not, Bool.not_true, Bool.not_false, Bool.not_eq_true, Bool.not_eq_false, bne_eq_false_iff_eq, Decidable.not_not] at h1)
  · refine WC_split (fun h2 => ?_) (fun h2 => ?_) <;> simp only [h2, go_sem, ↓reduceIte, zA, zB, zC, zD, zE, zF, reduceCtorEq, zG, zH, zI, zJ, zK, zL, zM, zN, zO, zP] <;> (try simp only [beq_iff_eq, beq_eq_false_iff_ne, bne_iff_ne, ne_eq, decide_eq_true_eq, decide_eq_false_iff_not, Bool.not_true, Bool.not_false, Bool.not_eq_true, Bool.not_eq_false, bne_eq_false_iff_eq, Decidable.not_not] at h2)
    · rw [name_none k (by omega)]
    · have h3 : 0 ≤ k := by omega
      have h4 : k.toNat < 22 := by omega
      simp only [bookG_names, h3, h4, Nat.mul_one, name_at k (by omega), go_sem, ↓reduceIte, zA, zB, zC, zD, zE, zF, reduceCtorEq, zG, zH, zI, zJ, zK, zL, zM, zN, zO, zP]
  · rw [name_none k (by omega)]
theorem row_tri (o : OpD) : Tri Tryd.prog G 44 [opV o] [] (.agg ((numsL o).map LV.int)) [] := by
  refine tri_W0 Tryd.func44 (by decide) irOk44 (Nat.le_of_ble_eq_true rfl) rfl ?_
  simp only [ir44, go_sem, ↓reduceIte, zA, zB, zC, zD, zE, zF, reduceCtorEq, zG, zH, zI, zJ, zK, zL, zM, zN, zO, zP]
  simp only [numsL, go_sem, ↓reduceIte, zA, zB, zC, zD, zE, zF, reduceCtorEq, zG, zH, zI, zJ, zK, zL, zM, zN, zO, zP]
def opsS (o : OpD) (k : Nat) : St := ⟨[(1, .ptr 0 0), (10, .agg ((numsL o).map LV.int)), (11, .int k)], [some (.box 23 [.int o.kind, .int o.a, .int o.b, .int o.c, .int o.d, .int o.e, .int o.f])]⟩
theorem numOk_eq (n : Int) (k m : Nat) : numOk n (decide (k < m)) = !(decide (n < 0) || decide (n > 1000000) || (decide ((k : Int) ≥ (m : Int)) && (n != 0))) := by
  unfold numOk
  rw [Bool.eq_iff_iff]
  by_cases h4 : n = 0
  · subst h4; simp
  · have e : (n != 0) = true := by simpa using h4
    simp only [e, h4, Bool.and_eq_true, Bool.or_eq_true, decide_eq_true_eq, Bool.not_eq_true', Bool.or_eq_false_iff, Bool.and_eq_false_iff, decide_eq_false_iff_not, decide_false, Bool.or_false, Bool.and_true]
    omega
theorem opsRight_tri (o : OpD) : Tri Tryd.prog bookG 28 [opV o] [] (.bool (opOkB o)) [] := by
  refine tri_W0 Tryd.func28 (by decide) irOk28 (Nat.le_of_ble_eq_true rfl) rfl ?_
  simp only [ir28, go_sem, ↓reduceIte, zA, zB, zC, zD, zE, zF, reduceCtorEq, zG, zH, zI, zJ, zK, zL, zM, zN, zO, zP]
  rw [opOkB_eq]
  refine W_calld (name_tri o.kind) rfl rfl rfl rfl ?_; simp only [go_sem, ↓reduceIte, zA, zB, zC, zD, zE, zF, reduceCtorEq, zG, zH, zI, zJ, zK, zL, zM, zN, zO, zP]
  by_cases hk : 1 ≤ o.kind ∧ o.kind ≤ 21
  · simp only [name_some _ hk, go_sem, ↓reduceIte, zA, zB, zC, zD, zE, zF, reduceCtorEq, zG, zH, zI, zJ, zK, zL, zM, zN, zO, zP]
    refine W_calld (row_tri o) rfl rfl rfl rfl ?_
    simp only [go_sem, ↓reduceIte, zA, zB, zC, zD, zE, zF, reduceCtorEq, zG, zH, zI, zJ, zK, zL, zM, zN, zO, zP, hk]
    generalize hq : opOkL (manyK o.kind) (numsL o) 0 = r
    have hl : (numsL o).length = 6 := rfl
    have hk0 : 0 ≤ o.kind := by omega
    have hk1 : o.kind.toNat < 22 := by omega
    refine W_loopI [1, 10, 11] [] (fun k : Nat => k ≤ 6 ∧ opOkL (manyK o.kind) ((numsL o).drop k) k = r) (fun k => 6 - k) (opsS o) 0 ?_ ⟨by omega, hq⟩ ?_
    · simp only [opsS, go_sem, ↓reduceIte, zA, zB, zC, zD, zE, zF, reduceCtorEq, zG, zH, zI, zJ, zK, zL, zM, zN, zO, zP, Int.natCast_zero]
    rintro k ⟨hk6, hF⟩
    simp only [opsS, go_sem, ↓reduceIte, zA, zB, zC, zD, zE, zF, reduceCtorEq, zG, zH, zI, zJ, zK, zL, zM, zN, zO, zP]
    refine WC_split (fun h => ?_) (fun h => ?_) <;> simp only [h, go_sem, ↓reduceIte, zA, zB, zC, zD, zE, zF, reduceCtorEq, zG, zH, zI, zJ, zK, zL, zM, zN, zO, zP] <;> (try simp only [beq_iff_eq, beq_eq_false_iff_ne, bne_iff_ne, ne_eq, decide_eq_true_eq, decide_eq_false_iff_not, Bool.not_true, Bool.not_false, Bool.not_eq_true, Bool.not_eq_false, bne_eq_false_iff_eq, Decidable.not_not] at h)
    · have hkl : k < (numsL o).length := by omega
      have hk6' : k < 6 := by omega
      rw [List.drop_eq_getElem_cons hkl, opOkL, numOk_eq] at hF
      have hg : ((numsL o).map LV.int)[k]? = some (LV.int (numsL o)[k]) := get_map hkl
      simp only [hg, hk6', go_sem, ↓reduceIte, zA, zB, zC, zD, zE, zF, reduceCtorEq, zG, zH, zI, zJ, zK, zL, zM, zN, zO, zP]
      generalize (numsL o)[k] = n at *
      refine WG_split (fun h1 => ?_) (fun h1 => ?_) <;> simp only [h1, go_sem, ↓reduceIte, zA, zB, zC, zD, zE, zF, reduceCtorEq, zG, zH, zI, zJ, zK, zL, zM, zN, zO, zP] <;> (try simp only [beq_iff_eq, beq_eq_false_iff_ne, bne_iff_ne, ne_eq, decide_eq_true_eq, decide_eq_false_iff_not, Bool.not_true, Bool.not_false, Bool.not_eq_true, Bool.not_eq_false, bne_eq_false_iff_eq, Decidable.not_not] at h1)
      · have h1' : decide (n < 0) = false := by simp; omega
        refine WG_split (fun h2 => ?_) (fun h2 => ?_) <;> simp only [h2, go_sem, ↓reduceIte, zA, zB, zC, zD, zE, zF, reduceCtorEq, zG, zH, zI, zJ, zK, zL, zM, zN, zO, zP] <;> (try simp only [beq_iff_eq, beq_eq_false_iff_ne, bne_iff_ne, ne_eq, decide_eq_true_eq, decide_eq_false_iff_not, Bool.not_true, Bool.not_false, Bool.not_eq_true, Bool.not_eq_false, bne_eq_false_iff_eq, Decidable.not_not] at h2)
        · have h2' : decide (n > 1000000) = false := by simp; omega
          simp only [bookG_many, hk0, hk1, many_at _ hk, Nat.mul_one, go_sem, ↓reduceIte, zA, zB, zC, zD, zE, zF, reduceCtorEq, zG, zH, zI, zJ, zK, zL, zM, zN, zO, zP]
          refine WG_split (fun h3 => ?_) (fun h3 => ?_) <;> simp only [h3, go_sem, ↓reduceIte, zA, zB, zC, zD, zE, zF, reduceCtorEq, zG, zH, zI, zJ, zK, zL, zM, zN, zO, zP] <;> (try simp only [beq_iff_eq, beq_eq_false_iff_ne, bne_iff_ne, ne_eq, decide_eq_true_eq, decide_eq_false_iff_not, Bool.not_true, Bool.not_false, Bool.not_eq_true, Bool.not_eq_false, bne_eq_false_iff_eq, Decidable.not_not] at h3)
          · have h3' : decide ((k : Int) ≥ (manyK o.kind : Int)) = true := by simpa using h3
            cases h4 : (n != 0) with
            | true =>
              rw [h1', h2', h3', h4] at hF
              simp only [go_sem, ↓reduceIte, zA, zB, zC, zD, zE, zF, reduceCtorEq, zG, zH, zI, zJ, zK, zL, zM, zN, zO, zP] at hF
              simp only [go_sem, ↓reduceIte, zA, zB, zC, zD, zE, zF, reduceCtorEq, zG, zH, zI, zJ, zK, zL, zM, zN, zO, zP, ← hF]
            | false =>
              rw [h1', h2', h3', h4] at hF
              simp only [go_sem, ↓reduceIte, zA, zB, zC, zD, zE, zF, reduceCtorEq, zG, zH, zI, zJ, zK, zL, zM, zN, zO, zP] at hF
              simp only [go_sem, ↓reduceIte, zA, zB, zC, zD, zE, zF, reduceCtorEq, zG, zH, zI, zJ, zK, zL, zM, zN, zO, zP]
              refine W_lpI (k + 1) ?_ ?_ ⟨by omega, hF⟩ (by omega)
              · simp only [go_sem, ↓reduceIte, zA, zB, zC, zD, zE, zF, reduceCtorEq, zG, zH, zI, zJ, zK, zL, zM, zN, zO, zP]; rfl
              · simp only [opsS, go_sem, ↓reduceIte, zA, zB, zC, zD, zE, zF, reduceCtorEq, zG, zH, zI, zJ, zK, zL, zM, zN, zO, zP, wrap_succ (show k < 9223372036854775807 by omega)]
          · have h3' : decide ((k : Int) ≥ (manyK o.kind : Int)) = false := by simpa using h3
            rw [h1', h2', h3'] at hF
            simp only [go_sem, ↓reduceIte, zA, zB, zC, zD, zE, zF, reduceCtorEq, zG, zH, zI, zJ, zK, zL, zM, zN, zO, zP] at hF
            refine W_lpI (k + 1) ?_ ?_ ⟨by omega, hF⟩ (by omega)
            · simp only [go_sem, ↓reduceIte, zA, zB, zC, zD, zE, zF, reduceCtorEq, zG, zH, zI, zJ, zK, zL, zM, zN, zO, zP]; rfl
            · simp only [opsS, go_sem, ↓reduceIte, zA, zB, zC, zD, zE, zF, reduceCtorEq, zG, zH, zI, zJ, zK, zL, zM, zN, zO, zP, wrap_succ (show k < 9223372036854775807 by omega)]
        · have h2' : decide (n > 1000000) = true := by simpa using h2
          rw [h1', h2'] at hF
          simp only [go_sem, ↓reduceIte, zA, zB, zC, zD, zE, zF, reduceCtorEq, zG, zH, zI, zJ, zK, zL, zM, zN, zO, zP] at hF
          simp only [go_sem, ↓reduceIte, zA, zB, zC, zD, zE, zF, reduceCtorEq, zG, zH, zI, zJ, zK, zL, zM, zN, zO, zP, ← hF]
      · have h1' : decide (n < 0) = true := by simpa using h1
        rw [h1'] at hF
        simp only [go_sem, ↓reduceIte, zA, zB, zC, zD, zE, zF, reduceCtorEq, zG, zH, zI, zJ, zK, zL, zM, zN, zO, zP] at hF
        simp only [go_sem, ↓reduceIte, zA, zB, zC, zD, zE, zF, reduceCtorEq, zG, zH, zI, zJ, zK, zL, zM, zN, zO, zP, ← hF]
    · obtain rfl : k = 6 := by omega
      simp only [numsL, List.drop_succ_cons, List.drop_zero, opOkL] at hF
      simp only [go_sem, ↓reduceIte, zA, zB, zC, zD, zE, zF, reduceCtorEq, zG, zH, zI, zJ, zK, zL, zM, zN, zO, zP, ← hF]
  · simp only [name_none _ hk, hk, go_sem, ↓reduceIte, zA, zB, zC, zD, zE, zF, reduceCtorEq, zG, zH, zI, zJ, zK, zL, zM, zN, zO, zP]

/-! the document's -/
theorem many8_tri (k : Int) : Tri Tryd.prog G 46 [.int k] [] (.int (manyK k : Nat)) [] := by
  refine tri_W0 Tryd.func46 (by decide) irOk46 (Nat.le_of_ble_eq_true rfl) rfl ?_
  simp only [ir46, go_sem, ↓reduceIte, zA, zB, zC, zD, zE, zF, reduceCtorEq, zG, zH, zI, zJ, zK, zL, zM, zN, zO, zP]
  have e : ∀ n : Int, (k == n) = decide (k = n) := fun _ => rfl
  unfold manyK
  by_cases h1 : k = 1
  · subst h1; simp only [go_sem, ↓reduceIte, zA, zB, zC, zD, zE, zF, reduceCtorEq, zG, zH, zI, zJ, zK, zL, zM, zN, zO, zP]; rfl
  by_cases h4 : k = 4
  · subst h4; simp only [go_sem, ↓reduceIte, zA, zB, zC, zD, zE, zF, reduceCtorEq, zG, zH, zI, zJ, zK, zL, zM, zN, zO, zP]; rfl
  by_cases h5 : k = 5
  · subst h5; simp only [go_sem, ↓reduceIte, zA, zB, zC, zD, zE, zF, reduceCtorEq, zG, zH, zI, zJ, zK, zL, zM, zN, zO, zP]; rfl
  by_cases h6 : k = 6
  · subst h6; simp only [go_sem, ↓reduceIte, zA, zB, zC, zD, zE, zF, reduceCtorEq, zG, zH, zI, zJ, zK, zL, zM, zN, zO, zP]; rfl
  by_cases h21 : k = 21
  · subst h21; simp only [go_sem, ↓reduceIte, zA, zB, zC, zD, zE, zF, reduceCtorEq, zG, zH, zI, zJ, zK, zL, zM, zN, zO, zP]; rfl
  by_cases h8 : k = 8
  · subst h8; simp only [go_sem, ↓reduceIte, zA, zB, zC, zD, zE, zF, reduceCtorEq, zG, zH, zI, zJ, zK, zL, zM, zN, zO, zP]; rfl
  by_cases h9 : k = 9
  · subst h9; simp only [go_sem, ↓reduceIte, zA, zB, zC, zD, zE, zF, reduceCtorEq, zG, zH, zI, zJ, zK, zL, zM, zN, zO, zP]; rfl
  by_cases h10 : k = 10
  · subst h10; simp only [go_sem, ↓reduceIte, zA, zB, zC, zD, zE, zF, reduceCtorEq, zG, zH, zI, zJ, zK, zL, zM, zN, zO, zP]; rfl
  by_cases h12 : k = 12
  · subst h12; simp only [go_sem, ↓reduceIte, zA, zB, zC, zD, zE, zF, reduceCtorEq, zG, zH, zI, zJ, zK, zL, zM, zN, zO, zP]; rfl
  by_cases h13 : k = 13
  · subst h13; simp only [go_sem, ↓reduceIte, zA, zB, zC, zD, zE, zF, reduceCtorEq, zG, zH, zI, zJ, zK, zL, zM, zN, zO, zP]; rfl
  by_cases h19 : k = 19
  · subst h19; simp only [go_sem, ↓reduceIte, zA, zB, zC, zD, zE, zF, reduceCtorEq, zG, zH, zI, zJ, zK, zL, zM, zN, zO, zP]; rfl
  by_cases h20 : k = 20
  · subst h20; simp only [go_sem, ↓reduceIte, zA, zB, zC, zD, zE, zF, reduceCtorEq, zG, zH, zI, zJ, zK, zL, zM, zN, zO, zP]; rfl
  simp only [e, h1, h4, h5, h6, h21, h8, h9, h10, h12, h13, h19, h20, or_self, go_sem, ↓reduceIte, zA, zB, zC, zD, zE, zF, reduceCtorEq, zG, zH, zI, zJ, zK, zL, zM, zN, zO, zP]
  rfl
def numsR (o : OpD) : List (List DV) := (numsL o).map fun n => [i64 n]
theorem numbers_tri (o : OpD) : Tri Tryd.prog G 45 [opV o] [] (.d (.lst 1 (numsR o))) [] := by
  refine tri_W Tryd.func45 (by decide) irOk45 (Nat.le_of_ble_eq_true rfl) ?_
  simp only [ir45, go_sem, ↓reduceIte, zA, zB, zC, zD, zE, zF, reduceCtorEq, zG, zH, zI, zJ, zK, zL, zM, zN, zO, zP]
  exact BackZ [1] rfl (by simp [St.obj, objL]) (by simp [St.obj, objL, oneOr, St.get, getE, argR, rowsAt, numsR, numsL])
def ops8S (o : OpD) (k : Nat) : St := ⟨[(1, .ptr 0 0), (3, .d (.lst 1 (numsR o))), (4, .int k)], [some (.box 23 [.int o.kind, .int o.a, .int o.b, .int o.c, .int o.d, .int o.e, .int o.f])]⟩
theorem ops8Right_tri (o : OpD) : Tri Tryd.prog G 30 [opV o] [] (.bool (opOkB o)) [] := by
  refine tri_W0 Tryd.func30 (by decide) irOk30 (Nat.le_of_ble_eq_true rfl) rfl ?_
  simp only [ir30, go_sem, ↓reduceIte, zA, zB, zC, zD, zE, zF, reduceCtorEq, zG, zH, zI, zJ, zK, zL, zM, zN, zO, zP]
  rw [opOkB_eq]
  refine W_calld (numbers_tri o) rfl rfl rfl rfl ?_; simp only [go_sem, ↓reduceIte, zA, zB, zC, zD, zE, zF, reduceCtorEq, zG, zH, zI, zJ, zK, zL, zM, zN, zO, zP]
  generalize hq : opOkL (manyK o.kind) (numsL o) 0 = r
  have hl : (numsL o).length = 6 := rfl
  refine W_loopI [1, 3, 4] [] (fun k : Nat => k ≤ 6 ∧ opOkL (manyK o.kind) ((numsL o).drop k) k = r) (fun k => 6 - k) (ops8S o) 0 ?_ ⟨by omega, hq⟩ ?_
  · simp only [ops8S, go_sem, ↓reduceIte, zA, zB, zC, zD, zE, zF, reduceCtorEq, zG, zH, zI, zJ, zK, zL, zM, zN, zO, zP, Int.natCast_zero]
  rintro k ⟨hk6, hF⟩
  simp only [ops8S, go_sem, ↓reduceIte, zA, zB, zC, zD, zE, zF, reduceCtorEq, zG, zH, zI, zJ, zK, zL, zM, zN, zO, zP]
  refine WC_split (fun h => ?_) (fun h => ?_) <;> simp only [h, go_sem, ↓reduceIte, zA, zB, zC, zD, zE, zF, reduceCtorEq, zG, zH, zI, zJ, zK, zL, zM, zN, zO, zP] <;> (try simp only [beq_iff_eq, beq_eq_false_iff_ne, bne_iff_ne, ne_eq, decide_eq_true_eq, decide_eq_false_iff_not, Bool.not_true, Bool.not_false, Bool.not_eq_true, Bool.not_eq_false, bne_eq_false_iff_eq, Decidable.not_not] at h)
  · have hkl : k < (numsL o).length := by omega
    rw [List.drop_eq_getElem_cons hkl, opOkL, numOk_eq] at hF
    have hg : (numsR o)[k]? = some [i64 (numsL o)[k]] := get_map hkl
    simp only [hg, go_sem, ↓reduceIte, zA, zB, zC, zD, zE, zF, reduceCtorEq, zG, zH, zI, zJ, zK, zL, zM, zN, zO, zP]
    generalize (numsL o)[k] = n at *
    refine WG_split (fun h1 => ?_) (fun h1 => ?_) <;> simp only [h1, go_sem, ↓reduceIte, zA, zB, zC, zD, zE, zF, reduceCtorEq, zG, zH, zI, zJ, zK, zL, zM, zN, zO, zP] <;> (try simp only [beq_iff_eq, beq_eq_false_iff_ne, bne_iff_ne, ne_eq, decide_eq_true_eq, decide_eq_false_iff_not, Bool.not_true, Bool.not_false, Bool.not_eq_true, Bool.not_eq_false, bne_eq_false_iff_eq, Decidable.not_not] at h1)
    · have h1' : decide (n < 0) = false := by simp; omega
      simp only [hg, go_sem, ↓reduceIte, zA, zB, zC, zD, zE, zF, reduceCtorEq, zG, zH, zI, zJ, zK, zL, zM, zN, zO, zP]
      refine WG_split (fun h2 => ?_) (fun h2 => ?_) <;> simp only [h2, go_sem, ↓reduceIte, zA, zB, zC, zD, zE, zF, reduceCtorEq, zG, zH, zI, zJ, zK, zL, zM, zN, zO, zP] <;> (try simp only [beq_iff_eq, beq_eq_false_iff_ne, bne_iff_ne, ne_eq, decide_eq_true_eq, decide_eq_false_iff_not, Bool.not_true, Bool.not_false, Bool.not_eq_true, Bool.not_eq_false, bne_eq_false_iff_eq, Decidable.not_not] at h2)
      · have h2' : decide (n > 1000000) = false := by simp; omega
        refine W_calld (many8_tri o.kind) rfl rfl rfl rfl ?_; simp only [go_sem, ↓reduceIte, zA, zB, zC, zD, zE, zF, reduceCtorEq, zG, zH, zI, zJ, zK, zL, zM, zN, zO, zP]
        refine WG_split (fun h3 => ?_) (fun h3 => ?_) <;> simp only [h3, go_sem, ↓reduceIte, zA, zB, zC, zD, zE, zF, reduceCtorEq, zG, zH, zI, zJ, zK, zL, zM, zN, zO, zP] <;> (try simp only [beq_iff_eq, beq_eq_false_iff_ne, bne_iff_ne, ne_eq, decide_eq_true_eq, decide_eq_false_iff_not, Bool.not_true, Bool.not_false, Bool.not_eq_true, Bool.not_eq_false, bne_eq_false_iff_eq, Decidable.not_not] at h3)
        · have h3' : decide ((k : Int) ≥ (manyK o.kind : Int)) = true := by simpa using h3
          simp only [hg, go_sem, ↓reduceIte, zA, zB, zC, zD, zE, zF, reduceCtorEq, zG, zH, zI, zJ, zK, zL, zM, zN, zO, zP]
          cases h4 : (n != 0) with
          | true =>
            rw [h1', h2', h3', h4] at hF
            simp only [go_sem, ↓reduceIte, zA, zB, zC, zD, zE, zF, reduceCtorEq, zG, zH, zI, zJ, zK, zL, zM, zN, zO, zP] at hF
            simp only [go_sem, ↓reduceIte, zA, zB, zC, zD, zE, zF, reduceCtorEq, zG, zH, zI, zJ, zK, zL, zM, zN, zO, zP, ← hF]
          | false =>
            rw [h1', h2', h3', h4] at hF
            simp only [go_sem, ↓reduceIte, zA, zB, zC, zD, zE, zF, reduceCtorEq, zG, zH, zI, zJ, zK, zL, zM, zN, zO, zP] at hF
            simp only [go_sem, ↓reduceIte, zA, zB, zC, zD, zE, zF, reduceCtorEq, zG, zH, zI, zJ, zK, zL, zM, zN, zO, zP]
            refine W_lpI (k + 1) ?_ ?_ ⟨by omega, hF⟩ (by omega)
            · simp only [go_sem, ↓reduceIte, zA, zB, zC, zD, zE, zF, reduceCtorEq, zG, zH, zI, zJ, zK, zL, zM, zN, zO, zP]
            · simp only [ops8S, go_sem, ↓reduceIte, zA, zB, zC, zD, zE, zF, reduceCtorEq, zG, zH, zI, zJ, zK, zL, zM, zN, zO, zP, wrap_succ (show k < 9223372036854775807 by omega)]
        · have h3' : decide ((k : Int) ≥ (manyK o.kind : Int)) = false := by simpa using h3
          rw [h1', h2', h3'] at hF
          simp only [go_sem, ↓reduceIte, zA, zB, zC, zD, zE, zF, reduceCtorEq, zG, zH, zI, zJ, zK, zL, zM, zN, zO, zP] at hF
          refine W_lpI (k + 1) ?_ ?_ ⟨by omega, hF⟩ (by omega)
          · simp only [go_sem, ↓reduceIte, zA, zB, zC, zD, zE, zF, reduceCtorEq, zG, zH, zI, zJ, zK, zL, zM, zN, zO, zP]
          · simp only [ops8S, go_sem, ↓reduceIte, zA, zB, zC, zD, zE, zF, reduceCtorEq, zG, zH, zI, zJ, zK, zL, zM, zN, zO, zP, wrap_succ (show k < 9223372036854775807 by omega)]
      · have h2' : decide (n > 1000000) = true := by simpa using h2
        rw [h1', h2'] at hF
        simp only [go_sem, ↓reduceIte, zA, zB, zC, zD, zE, zF, reduceCtorEq, zG, zH, zI, zJ, zK, zL, zM, zN, zO, zP] at hF
        simp only [go_sem, ↓reduceIte, zA, zB, zC, zD, zE, zF, reduceCtorEq, zG, zH, zI, zJ, zK, zL, zM, zN, zO, zP, ← hF]
    · have h1' : decide (n < 0) = true := by simpa using h1
      rw [h1'] at hF
      simp only [go_sem, ↓reduceIte, zA, zB, zC, zD, zE, zF, reduceCtorEq, zG, zH, zI, zJ, zK, zL, zM, zN, zO, zP] at hF
      simp only [go_sem, ↓reduceIte, zA, zB, zC, zD, zE, zF, reduceCtorEq, zG, zH, zI, zJ, zK, zL, zM, zN, zO, zP, ← hF]
  · obtain rfl : k = 6 := by omega
    simp only [numsL, List.drop_succ_cons, List.drop_zero, opOkL] at hF
    subst hF
    rw [Bool.and_true]
    have e : decide (1 ≤ o.kind ∧ o.kind ≤ 21) = (decide (o.kind ≥ 1) && decide (o.kind ≤ 21)) := Bool.decide_and ..
    rw [e]
    refine WG_split (fun h1 => ?_) (fun h1 => ?_) <;> simp only [h1, go_sem, ↓reduceIte, zA, zB, zC, zD, zE, zF, reduceCtorEq, zG, zH, zI, zJ, zK, zL, zM, zN, zO, zP] <;> (try simp only [beq_iff_eq, beq_eq_false_iff_ne, bne_iff_ne, ne_eq, decide_eq_true_eq, decide_eq_false_iff_not, Bool.not_true, Bool.not_false, Bool.not_eq_true, Bool.not_eq_false, bne_eq_false_iff_eq, Decidable.not_not] at h1)

def deedV (f : Option Nat) (j n : Bool) : List LV := [match f with | some k => .d (.fn (.func k) [] []) | none => .d (.val .nilFunc), .bool j, .bool n]
end Dv
