/- The logical machine and its plain laws: parts D1, D2, proved sound. -/
import Derived.Test.YtcanhhnmfkdclaaGreatDoorVD
import Derived.Test.YtcanhhnmfkdclaaGreatDoorPA
import Derived.Test.YtcanhhnmfkdclaaGreatDoorProg
import Derived.KernelRfl
set_option linter.unusedVariables false
set_option linter.unusedSimpArgs false
namespace Dv
open Go

def nodeR (n : NodeD) : List DV := [bl n.up, bl n.cordon, bl n.moving, i64 n.version, i64 n.job]
def jobR (j : JobD) : List DV := [i64 j.queue, i64 j.prio, i64 j.min, i64 j.max, i64 j.work, i64 j.pin, i64 j.phase, i64 j.inc, i64 j.nodes, i64 j.since, i64 j.til, i64 j.epoch]
def opR (o : OpD) : List DV := [i64 o.kind, i64 o.a, i64 o.b, i64 o.c, i64 o.d, i64 o.e, i64 o.f]
def msgR (m : MsgD) : List DV := [i64 m.node, i64 m.kind, i64 m.term, i64 m.gen, i64 m.job, i64 m.inc, i64 m.version, i64 m.epoch, i64 m.til, i64 m.mode, i64 m.work]
def nodesV (l : List NodeD) : LV := .d (.lst 5 (l.map nodeR))
def jobsV (l : List JobD) : LV := .d (.lst 12 (l.map jobR))
def msgsV (l : List MsgD) : LV := .d (.lst 11 (l.map msgR))
def stateV (s : StateD) : LV := .agg [nodesV s.nodes, jobsV s.jobs, .int s.goal, .int s.prior, .int s.mode, .int s.term]
def nodeV (n : NodeD) : LV := .agg [.bool n.up, .bool n.cordon, .bool n.moving, .int n.version, .int n.job]
def jobV (j : JobD) : LV := .agg [.int j.queue, .int j.prio, .int j.min, .int j.max, .int j.work, .int j.pin, .int j.phase, .int j.inc, .int j.nodes, .int j.since, .int j.til, .int j.epoch]
def opV (o : OpD) : LV := .agg [.int o.kind, .int o.a, .int o.b, .int o.c, .int o.d, .int o.e, .int o.f]
def msgV (m : MsgD) : LV := .agg [.int m.node, .int m.kind, .int m.term, .int m.gen, .int m.job, .int m.inc, .int m.version, .int m.epoch, .int m.til, .int m.mode, .int m.work]
def confV (c : ConfD) : LV := .agg [.int c.nodes, .int c.queues, .int c.quota, .int c.wave, .int c.lease, .int c.retry, .int c.deadline, .int c.room, .int c.disk]

/-! bits -/
theorem wrap_nat (n : Nat) (h : n < 9223372036854775808) : IntKind.i64.wrap (n : Int) = n := wrap_in (by omega) (by omega)
theorem and_mask (x : Int) (j : Nat) (hj : j < 63) : andI .i64 x ((2 ^ j - 1 : Nat) : Int) = x % (2 ^ j : Nat) := by
  have hp : 2 ^ j < 2 ^ 63 := Nat.pow_lt_pow_right (by omega) hj
  have h0 : 0 < 2 ^ j := Nat.two_pow_pos j
  have e : andI .i64 x ((2 ^ j - 1 : Nat) : Int) = IntKind.i64.wrap ((BitVec.ofInt 64 x &&& BitVec.ofInt 64 ((2 ^ j - 1 : Nat) : Int)).toNat : Int) := rfl
  rw [e, BitVec.toNat_and]
  have e2 : (BitVec.ofInt 64 ((2 ^ j - 1 : Nat) : Int)).toNat = 2 ^ j - 1 := by
    rw [BitVec.ofInt_natCast, BitVec.toNat_ofNat]; apply Nat.mod_eq_of_lt; omega
  rw [e2, Nat.and_two_pow_sub_one_eq_mod]
  have e3 : (BitVec.ofInt 64 x).toNat % 2 ^ j < 2 ^ j := Nat.mod_lt _ h0
  rw [wrap_nat _ (by omega)]
  rw [BitVec.toNat_ofInt]
  have e4 : ((x % (2 ^ 64 : Nat)).toNat : Int) = x % (2 ^ 64 : Nat) := Int.toNat_of_nonneg (Int.emod_nonneg _ (by decide))
  have e5 : (((x % (2 ^ 64 : Nat)).toNat % 2 ^ j : Nat) : Int) = x % (2 ^ 64 : Nat) % (2 ^ j : Nat) := by
    rw [Int.natCast_emod, e4]
  rw [e5]
  apply Int.emod_emod_of_dvd
  exact Int.natCast_dvd_natCast.2 (Nat.pow_dvd_pow 2 (by omega))
theorem and_one (x : Int) : andI .i64 x 1 = x % 2 := and_mask x 1 (by omega)
theorem and_63 (x : Int) : andI .i64 x 63 = x % 64 := and_mask x 6 (by omega)
theorem fdiv_pow (n : Int) (k : Nat) : n.fdiv (2 ^ k) = n / 2 ^ k := Int.fdiv_eq_ediv_of_nonneg _ (Int.le_of_lt (by exact Int.pow_pos (by decide)))
theorem shr_nat (n : Int) (i : Nat) (hi : i < 64) : shrI .i64 n i = n / 2 ^ i := by
  unfold shrI
  rw [Int.toNat_natCast, show Nat.min i IntKind.i64.bits = i from Nat.min_eq_left (by show i ≤ 64; omega), fdiv_pow]
theorem shl_one (k : Nat) (hk : k ≤ 6) : shlI .i64 1 k = 2 ^ k := by
  have hp : (2 : Int) ^ k ≤ 64 ∧ 1 ≤ (2 : Int) ^ k := by
    have : k = 0 ∨ k = 1 ∨ k = 2 ∨ k = 3 ∨ k = 4 ∨ k = 5 ∨ k = 6 := by omega
    rcases this with h | h | h | h | h | h | h <;> rw [h] <;> decide
  unfold shlI
  rw [Int.toNat_natCast, show Nat.min k IntKind.i64.bits = k from Nat.min_eq_left (by show k ≤ 64; omega), Int.one_mul, wrap_in (by omega) (by omega)]
/-- a bit that is asked for. -/
theorem bit_eq (n : Int) (i : Nat) (hi : i < 64) : (andI .i64 (shrI .i64 n i) 1 == 1) = hasB n i := by
  rw [and_one, shr_nat n i hi]; unfold hasB; rw [Bool.eq_iff_iff]; simp
theorem bit_eq0 (n : Int) (i : Nat) (hi : i < 64) : (andI .i64 (shrI .i64 n i) 1 == 0) = !hasB n i := by
  rw [and_one, shr_nat n i hi]; unfold hasB; rw [Bool.eq_iff_iff]; simp; omega
end Dv

namespace Dv
open Go Go.Proofs
open Nat renaming reduceEqDiff → zA, reduceAdd → zB, reduceSub → zC, reduceMul → zD, reduceLT → zE, reduceLeDiff → zF
open Int renaming reduceLE → zG, reduceLT → zH, reduceToNat → zI, reduceBEq → zJ, reduceBNe → zK, reduceEq → zL, reduceAdd → zM, reduceSub → zN, reduceMul → zO, reduceNeg → zP
attribute [local go_sem] argEnv W_nil W_seq W_skip W_ret W_exit W_scope W_block W_blk W_reg W_regD W_cond WC_t WC_f WC_any Wx_c Wx_ops Wx_lp Wx_blk W_ops_nil W_opsD_q W_guard W_guardD WG_tt WG_ff WG_tf WG_ft WG_u WGD_tt WGD_ff WGD_tf WGD_ft WGD_u WE_some WED_some W_more W_mv W_pick W_new W_box W_build W_bsl W_ld1 W_ldn W_st W_nck W_bin W_eqb W_not W_cvt W_fad W_fld1 W_fldn W_ixa W_ixr W_ix1 W_ixs W_len W_lens W_mkf W_ext W_app W_min W_max W_isnp W_isns W_eqs W_neg W_ixn W_sli W_sls WD_more WD_mv WD_pick WD_new WD_box WD_build WD_bsl WD_ld1 WD_ldn WD_st WD_nck WD_bin WD_eqb WD_not WD_cvt WD_fad WD_fld1 WD_fldn WD_ixa WD_ixr WD_ix1 WD_ixs WD_len WD_lens WD_mkf WD_ext WD_app WD_min WD_max WD_isnp WD_isns WD_eqs WD_neg WD_ixn WD_sli WD_sls effF effM bytesOf Opd.ev getE putE binV LV.int LV.bool LV.undef Go.undef LV.cells LV.toD LV.toDs splice fillL rowsOf boxOf srcRows updL objL Eff.owned nwp St.get St.obj St.put Value.oneCell' Ends adopt Ad.ap isNil St.keep St.okKeep okObj idl idlL idlO RVs.of RV.of oneOr Ends0 EndsO_iff frzs rn rnL rnO piOf eqCells eqV boundV Option.map_some Option.map_none List.append_nil List.nil_append List.cons_append List.map_nil List.map_cons List.length_nil List.length_cons List.set_cons_zero List.set_cons_succ List.take_succ_cons List.take_zero List.take_nil List.drop_succ_cons List.drop_zero List.drop_nil List.getElem?_cons_zero List.getElem?_cons_succ List.getElem?_nil List.isEmpty_nil List.isEmpty_cons List.all_cons List.all_nil List.isEmpty_nil cond_true cond_false Bool.true_and Bool.false_and Bool.and_true Bool.and_false Bool.not_true Bool.not_false Bool.or_true Bool.true_or Bool.or_false Bool.false_or true_and and_true true_or or_true Option.some.injEq LV.d.injEq DV.val.injEq Value.bool.injEq Value.int.injEq decide_true decide_false and_self Nat.zero_add Nat.add_zero if_true if_false Int.toNat_zero beq_self_eq_true Nat.zero_lt_succ Int.toNat_natCast Int.natCast_nonneg List.length_map i64 bl List.zip_cons_cons List.zip_nil_left List.zip_nil_right nwp confV stateV nodeV jobV nodesV jobsV opV msgV nodeR jobR opR msgR zeroOp zeroMsg msgsV
variable {G : Nat → Option (List DV)}

/-- book.within -/
def ir20 : Nat × C × List RV := (15,
(.seq (.reg [⟨some 6,.mv (.c (.val (.bool false))),none,[]⟩])
 (.seq (.reg [⟨some 7,.mv (.t 0),none,[]⟩,
 ⟨some 8,.mv (.t 1),none,[]⟩,
 ⟨some 9,.bin .geq (.t 7) (.t 8),none,[]⟩,
 ⟨some 10,.mv (.t 9),none,[]⟩,
 ⟨some 11,.mv (.t 0),(some (10,true)),[]⟩,
 ⟨some 12,.mv (.t 2),(some (10,true)),[]⟩,
 ⟨some 13,.bin .leq (.t 11) (.t 12),(some (10,true)),[]⟩,
 ⟨some 14,.pick (.t 10) (.t 13) (.c (.val (.bool false))),none,[]⟩,
 ⟨some 6,.mv (.t 14),none,[]⟩])
 .ret)),
[(.t 6)])
theorem irOk20 : convFn Tryz.prog Tryz.f20 = some ir20 := by kernel_rfl
/-- book.May -/
def ir19 : Nat × C × List RV := (46,
(.seq (.reg [⟨some 1,.box 23 (.t 0),none,[]⟩,
 ⟨some 2,.mv (.c (.val (.bool false))),none,[]⟩])
 (.seq (.reg [⟨some 3,.fad 0 (.t 1),none,[]⟩,
 ⟨some 4,.ld1 (.t 3),none,[]⟩,
 ⟨some 5,.call (.f 20) [(.t 4),(.c (.val (.int .i64 1))),(.c (.val (.int .i64 6)))],none,[]⟩,
 ⟨some 6,.mv (.t 5),none,[]⟩,
 ⟨some 7,.fad 1 (.t 1),(some (6,true)),[]⟩,
 ⟨some 8,.ld1 (.t 7),(some (6,true)),[]⟩,
 ⟨some 9,.call (.f 20) [(.t 8),(.c (.val (.int .i64 1))),(.c (.val (.int .i64 3)))],(some (6,true)),[]⟩,
 ⟨some 10,.pick (.t 6) (.t 9) (.c (.val (.bool false))),none,[]⟩,
 ⟨some 11,.mv (.t 10),none,[]⟩,
 ⟨some 12,.fad 2 (.t 1),(some (11,true)),[]⟩,
 ⟨some 13,.ld1 (.t 12),(some (11,true)),[]⟩,
 ⟨some 14,.call (.f 20) [(.t 13),(.c (.val (.int .i64 0))),(.c (.val (.int .i64 4)))],(some (11,true)),[]⟩,
 ⟨some 15,.pick (.t 11) (.t 14) (.c (.val (.bool false))),none,[]⟩,
 ⟨some 16,.mv (.t 15),none,[]⟩,
 ⟨some 17,.fad 3 (.t 1),(some (16,true)),[]⟩,
 ⟨some 18,.ld1 (.t 17),(some (16,true)),[]⟩,
 ⟨some 19,.call (.f 20) [(.t 18),(.c (.val (.int .i64 1))),(.c (.val (.int .i64 6)))],(some (16,true)),[]⟩,
 ⟨some 20,.pick (.t 16) (.t 19) (.c (.val (.bool false))),none,[]⟩,
 ⟨some 21,.mv (.t 20),none,[]⟩,
 ⟨some 22,.fad 4 (.t 1),(some (21,true)),[]⟩,
 ⟨some 23,.ld1 (.t 22),(some (21,true)),[]⟩,
 ⟨some 24,.call (.f 20) [(.t 23),(.c (.val (.int .i64 2))),(.c (.val (.int .i64 30)))],(some (21,true)),[]⟩,
 ⟨some 25,.pick (.t 21) (.t 24) (.c (.val (.bool false))),none,[]⟩,
 ⟨some 26,.mv (.t 25),none,[]⟩,
 ⟨some 27,.fad 5 (.t 1),(some (26,true)),[]⟩,
 ⟨some 28,.ld1 (.t 27),(some (26,true)),[]⟩,
 ⟨some 29,.call (.f 20) [(.t 28),(.c (.val (.int .i64 1))),(.c (.val (.int .i64 20)))],(some (26,true)),[]⟩,
 ⟨some 30,.pick (.t 26) (.t 29) (.c (.val (.bool false))),none,[]⟩,
 ⟨some 31,.mv (.t 30),none,[]⟩,
 ⟨some 32,.fad 6 (.t 1),(some (31,true)),[]⟩,
 ⟨some 33,.ld1 (.t 32),(some (31,true)),[]⟩,
 ⟨some 34,.call (.f 20) [(.t 33),(.c (.val (.int .i64 1))),(.c (.val (.int .i64 60)))],(some (31,true)),[]⟩,
 ⟨some 35,.pick (.t 31) (.t 34) (.c (.val (.bool false))),none,[]⟩,
 ⟨some 36,.mv (.t 35),none,[]⟩,
 ⟨some 37,.fad 7 (.t 1),(some (36,true)),[]⟩,
 ⟨some 38,.ld1 (.t 37),(some (36,true)),[]⟩,
 ⟨some 39,.call (.f 20) [(.t 38),(.c (.val (.int .i64 0))),(.c (.val (.int .i64 5000)))],(some (36,true)),[]⟩,
 ⟨some 40,.pick (.t 36) (.t 39) (.c (.val (.bool false))),none,[]⟩,
 ⟨some 41,.mv (.t 40),none,[]⟩,
 ⟨some 42,.fad 8 (.t 1),(some (41,true)),[]⟩,
 ⟨some 43,.ld1 (.t 42),(some (41,true)),[]⟩,
 ⟨some 44,.call (.f 20) [(.t 43),(.c (.val (.int .i64 2000))),(.c (.val (.int .i64 40000)))],(some (41,true)),[]⟩,
 ⟨some 45,.pick (.t 41) (.t 44) (.c (.val (.bool false))),none,[]⟩,
 ⟨some 2,.mv (.t 45),none,[]⟩])
 .ret)),
[(.t 2)])
theorem irOk19 : convFn Tryz.prog Tryz.f19 = some ir19 := by kernel_rfl
/-- book.Meant -/
def ir78 : Nat × C × List RV := (10,
(.seq (.reg [⟨some 1,.box 27 (.t 0),none,[]⟩,
 ⟨some 2,.mv (.c (.val (.int .i64 0))),none,[]⟩])
 (.seq (.seq (.reg [⟨some 3,.fad 4 (.t 1),none,[]⟩,
 ⟨some 4,.ld1 (.t 3),none,[]⟩,
 ⟨some 5,.bin .eql (.t 4) (.c (.val (.int .i64 2))),none,[]⟩])
 (.cond (.t 5) (.seq (.reg [⟨some 6,.fad 3 (.t 1),none,[]⟩,
 ⟨some 7,.ld1 (.t 6),none,[]⟩,
 ⟨some 2,.mv (.t 7),none,[]⟩])
 .ret)
 .skip))
 (.seq (.reg [⟨some 8,.fad 2 (.t 1),none,[]⟩,
 ⟨some 9,.ld1 (.t 8),none,[]⟩,
 ⟨some 2,.mv (.t 9),none,[]⟩])
 .ret))),
[(.t 2)])
theorem irOk78 : convFn Tryz.prog Tryz.f78 = some ir78 := by kernel_rfl
/-- book.asked -/
def ir33 : Nat × C × List RV := (40,
(.seq (.reg [⟨some 2,.box 23 (.t 0),none,[]⟩,
 ⟨some 3,.box 47 (.t 1),none,[]⟩,
 ⟨some 4,.mv (.c (.val (.bool false))),none,[]⟩])
 (.seq (.reg [⟨some 5,.fad 0 (.t 3),none,[]⟩,
 ⟨some 6,.ld1 (.t 5),none,[]⟩,
 ⟨some 7,.fad 1 (.t 2),none,[]⟩,
 ⟨some 8,.ld1 (.t 7),none,[]⟩,
 ⟨some 9,.bin .sub (.t 8) (.c (.val (.int .i64 1))),none,[]⟩,
 ⟨some 10,.call (.f 20) [(.t 6),(.c (.val (.int .i64 0))),(.t 9)],none,[]⟩,
 ⟨some 11,.mv (.t 10),none,[]⟩,
 ⟨some 12,.fad 1 (.t 3),(some (11,true)),[]⟩,
 ⟨some 13,.ld1 (.t 12),(some (11,true)),[]⟩,
 ⟨some 14,.call (.f 20) [(.t 13),(.c (.val (.int .i64 0))),(.c (.val (.int .i64 9)))],(some (11,true)),[]⟩,
 ⟨some 15,.pick (.t 11) (.t 14) (.c (.val (.bool false))),none,[]⟩,
 ⟨some 16,.mv (.t 15),none,[]⟩,
 ⟨some 17,.fad 2 (.t 3),(some (16,true)),[]⟩,
 ⟨some 18,.ld1 (.t 17),(some (16,true)),[]⟩,
 ⟨some 19,.fad 3 (.t 3),(some (16,true)),[]⟩,
 ⟨some 20,.ld1 (.t 19),(some (16,true)),[]⟩,
 ⟨some 21,.call (.f 20) [(.t 18),(.c (.val (.int .i64 1))),(.t 20)],(some (16,true)),[]⟩,
 ⟨some 22,.pick (.t 16) (.t 21) (.c (.val (.bool false))),none,[]⟩,
 ⟨some 23,.mv (.t 22),none,[]⟩,
 ⟨some 24,.fad 3 (.t 3),(some (23,true)),[]⟩,
 ⟨some 25,.ld1 (.t 24),(some (23,true)),[]⟩,
 ⟨some 26,.fad 0 (.t 2),(some (23,true)),[]⟩,
 ⟨some 27,.ld1 (.t 26),(some (23,true)),[]⟩,
 ⟨some 28,.call (.f 20) [(.t 25),(.c (.val (.int .i64 1))),(.t 27)],(some (23,true)),[]⟩,
 ⟨some 29,.pick (.t 23) (.t 28) (.c (.val (.bool false))),none,[]⟩,
 ⟨some 30,.mv (.t 29),none,[]⟩,
 ⟨some 31,.fad 4 (.t 3),(some (30,true)),[]⟩,
 ⟨some 32,.ld1 (.t 31),(some (30,true)),[]⟩,
 ⟨some 33,.call (.f 20) [(.t 32),(.c (.val (.int .i64 1))),(.c (.val (.int .i64 1000)))],(some (30,true)),[]⟩,
 ⟨some 34,.pick (.t 30) (.t 33) (.c (.val (.bool false))),none,[]⟩,
 ⟨some 35,.mv (.t 34),none,[]⟩,
 ⟨some 36,.fad 5 (.t 3),(some (35,true)),[]⟩,
 ⟨some 37,.ld1 (.t 36),(some (35,true)),[]⟩,
 ⟨some 38,.call (.f 20) [(.t 37),(.c (.val (.int .i64 0))),(.c (.val (.int .i64 9)))],(some (35,true)),[]⟩,
 ⟨some 39,.pick (.t 35) (.t 38) (.c (.val (.bool false))),none,[]⟩,
 ⟨some 4,.mv (.t 39),none,[]⟩])
 .ret)),
[(.t 4)])
theorem irOk33 : convFn Tryz.prog Tryz.f33 = some ir33 := by kernel_rfl
/-- book.placed -/
def ir34 : Nat × C × List RV := (13,
(.seq (.reg [⟨some 2,.mv (.c (.val (.bool false))),none,[]⟩])
 (.seq (.reg [⟨some 3,.mv (.t 0),none,[]⟩,
 ⟨some 4,.bin .eql (.t 3) (.c (.val (.int .i64 1))),none,[]⟩,
 ⟨some 5,.mv (.t 4),none,[]⟩,
 ⟨some 6,.mv (.t 0),(some (5,false)),[]⟩,
 ⟨some 7,.bin .eql (.t 6) (.c (.val (.int .i64 2))),(some (5,false)),[]⟩,
 ⟨some 8,.pick (.t 5) (.c (.val (.bool true))) (.t 7),none,[]⟩,
 ⟨some 9,.mv (.t 8),none,[]⟩,
 ⟨some 10,.mv (.t 0),(some (9,false)),[]⟩,
 ⟨some 11,.bin .eql (.t 10) (.c (.val (.int .i64 3))),(some (9,false)),[]⟩,
 ⟨some 12,.pick (.t 9) (.c (.val (.bool true))) (.t 11),none,[]⟩,
 ⟨some 2,.mv (.t 12),none,[]⟩])
 .ret)),
[(.t 2)])
theorem irOk34 : convFn Tryz.prog Tryz.f34 = some ir34 := by kernel_rfl
/-- book.stands$1 -/
def ir36 : Nat × C × List RV := (17,
(.seq (.reg [⟨some 2,.box 49 (.t 0),none,[]⟩,
 ⟨some 3,.mv (.c (.val (.bool false))),none,[]⟩])
 (.seq (.reg [⟨some 4,.fad 0 (.t 2),none,[]⟩,
 ⟨some 5,.ld1 (.t 4),none,[]⟩,
 ⟨some 6,.mv (.t 5),none,[]⟩,
 ⟨some 7,.fad 2 (.t 2),(some (6,true)),[]⟩,
 ⟨some 8,.ld1 (.t 7),(some (6,true)),[]⟩,
 ⟨some 9,.not (.t 8),(some (6,true)),[]⟩,
 ⟨some 10,.pick (.t 6) (.t 9) (.c (.val (.bool false))),none,[]⟩,
 ⟨some 11,.mv (.t 10),none,[]⟩,
 ⟨some 12,.fad 4 (.t 2),(some (11,true)),[]⟩,
 ⟨some 13,.ld1 (.t 12),(some (11,true)),[]⟩,
 ⟨some 14,.ld1 (.t 1),(some (11,true)),[]⟩,
 ⟨some 15,.bin .eql (.t 13) (.t 14),(some (11,true)),[]⟩,
 ⟨some 16,.pick (.t 11) (.t 15) (.c (.val (.bool false))),none,[]⟩,
 ⟨some 3,.mv (.t 16),none,[]⟩])
 .ret)),
[(.t 3)])
theorem irOk36 : convFn Tryz.prog Tryz.f36 = some ir36 := by kernel_rfl
/-- math/bits.OnesCount64 -/
def ir77 : Nat × C × List RV := (35,
(.seq (.reg [⟨some 2,.mv (.c (.val (.int .i64 0))),none,[]⟩])
 (.seq (.reg [⟨some 3,.mv (.t 0),none,[]⟩,
 ⟨some 4,.bin .shr (.t 3) (.c (.val (.int .u64 1))),none,[]⟩,
 ⟨some 5,.bin .and (.t 4) (.c (.val (.int .u64 6148914691236517205))),none,[]⟩,
 ⟨some 6,.mv (.t 0),none,[]⟩,
 ⟨some 7,.bin .and (.t 6) (.c (.val (.int .u64 6148914691236517205))),none,[]⟩,
 ⟨some 8,.bin .add (.t 5) (.t 7),none,[]⟩,
 ⟨some 0,.mv (.t 8),none,[]⟩])
 (.seq (.reg [⟨some 9,.mv (.t 0),none,[]⟩,
 ⟨some 10,.bin .shr (.t 9) (.c (.val (.int .u64 2))),none,[]⟩,
 ⟨some 11,.bin .and (.t 10) (.c (.val (.int .u64 3689348814741910323))),none,[]⟩,
 ⟨some 12,.mv (.t 0),none,[]⟩,
 ⟨some 13,.bin .and (.t 12) (.c (.val (.int .u64 3689348814741910323))),none,[]⟩,
 ⟨some 14,.bin .add (.t 11) (.t 13),none,[]⟩,
 ⟨some 0,.mv (.t 14),none,[]⟩])
 (.seq (.reg [⟨some 15,.mv (.t 0),none,[]⟩,
 ⟨some 16,.bin .shr (.t 15) (.c (.val (.int .u64 4))),none,[]⟩,
 ⟨some 17,.mv (.t 0),none,[]⟩,
 ⟨some 18,.bin .add (.t 16) (.t 17),none,[]⟩,
 ⟨some 19,.bin .and (.t 18) (.c (.val (.int .u64 1085102592571150095))),none,[]⟩,
 ⟨some 0,.mv (.t 19),none,[]⟩])
 (.seq (.reg [⟨some 20,.mv (.t 0),none,[]⟩,
 ⟨some 21,.mv (.t 0),none,[]⟩,
 ⟨some 22,.bin .shr (.t 21) (.c (.val (.int .u64 8))),none,[]⟩,
 ⟨some 23,.bin .add (.t 20) (.t 22),none,[]⟩,
 ⟨some 0,.mv (.t 23),none,[]⟩])
 (.seq (.reg [⟨some 24,.mv (.t 0),none,[]⟩,
 ⟨some 25,.mv (.t 0),none,[]⟩,
 ⟨some 26,.bin .shr (.t 25) (.c (.val (.int .u64 16))),none,[]⟩,
 ⟨some 27,.bin .add (.t 24) (.t 26),none,[]⟩,
 ⟨some 0,.mv (.t 27),none,[]⟩])
 (.seq (.reg [⟨some 28,.mv (.t 0),none,[]⟩,
 ⟨some 29,.mv (.t 0),none,[]⟩,
 ⟨some 30,.bin .shr (.t 29) (.c (.val (.int .u64 32))),none,[]⟩,
 ⟨some 31,.bin .add (.t 28) (.t 30),none,[]⟩,
 ⟨some 0,.mv (.t 31),none,[]⟩])
 (.seq (.reg [⟨some 32,.mv (.t 0),none,[]⟩,
 ⟨some 33,.cvt .i64 (.t 32),none,[]⟩,
 ⟨some 34,.bin .and (.t 33) (.c (.val (.int .i64 127))),none,[]⟩,
 ⟨some 2,.mv (.t 34),none,[]⟩])
 .ret)))))))),
[(.t 2)])
theorem irOk77 : convFn Tryz.prog Tryz.f77 = some ir77 := by kernel_rfl
/-- math/bits.OnesCount -/
def ir56 : Nat × C × List RV := (8,
(.seq (.reg [⟨some 2,.mv (.c (.val (.int .i64 0))),none,[]⟩])
 (.seq (.cond (.c (.val (.bool false))) (.seq (.reg [⟨some 3,.mv (.t 0),none,[]⟩,
 ⟨some 4,.cvt .u32 (.t 3),none,[]⟩,
 ⟨some 5,.call (.f 76) [(.t 4)],none,[]⟩,
 ⟨some 2,.mv (.t 5),none,[]⟩])
 .ret)
 .skip)
 (.seq (.reg [⟨some 6,.mv (.t 0),none,[]⟩,
 ⟨some 7,.call (.f 77) [(.t 6)],none,[]⟩,
 ⟨some 2,.mv (.t 7),none,[]⟩])
 .ret))),
[(.t 2)])
theorem irOk56 : convFn Tryz.prog Tryz.f56 = some ir56 := by kernel_rfl
/-- fit.Count -/
def ir59 : Nat × C × List RV := (7,
(.seq (.reg [⟨some 2,.mv (.c (.val (.int .i64 0))),none,[]⟩])
 (.seq (.reg [⟨some 3,.mv (.t 0),none,[]⟩,
 ⟨some 4,.bin .and (.t 3) (.c (.val (.int .i64 63))),none,[]⟩,
 ⟨some 5,.cvt .u64 (.t 4),none,[]⟩,
 ⟨some 6,.call (.f 56) [(.t 5)],none,[]⟩,
 ⟨some 2,.mv (.t 6),none,[]⟩])
 .ret)),
[(.t 2)])
theorem irOk59 : convFn Tryz.prog Tryz.f59 = some ir59 := by kernel_rfl


theorem within_tri (n lo hi : Int) : Tri Tryz.prog G 20 [.int n, .int lo, .int hi] [] (.bool (withinB n lo hi)) [] := by
  refine tri_W0 Tryz.func20 (by decide) irOk20 (Nat.le_of_ble_eq_true rfl) rfl ?_
  simp only [ir20,go_sem,↓reduceIte,zA,zB,zC,zD,zE,zF,reduceCtorEq,zG,zH,zI,zJ,zK,zL,zM,zN,zO,zP]
  have e : withinB n lo hi = (decide (n ≥ lo) && decide (n ≤ hi)) := by unfold withinB; rw [Bool.decide_and]
  rw [e]
  (first | with_reducible refine WG_splitn (fun h => ?_) (fun h => ?_) | refine WG_split (fun h => ?_) (fun h => ?_)) <;> simp only [h,go_sem,↓reduceIte,zA,zB,zC,zD,zE,zF,reduceCtorEq,zG,zH,zI,zJ,zK,zL,zM,zN,zO,zP]

theorem meant_tri (s : StateD) : Tri Tryz.prog G 78 [stateV s] [] (.int (meant s)) [] := by
  refine tri_W0 Tryz.func78 (by decide) irOk78 (Nat.le_of_ble_eq_true rfl) rfl ?_
  simp only [ir78,go_sem,↓reduceIte,zA,zB,zC,zD,zE,zF,reduceCtorEq,zG,zH,zI,zJ,zK,zL,zM,zN,zO,zP]
  unfold meant
  refine WC_split (fun h => ?_) (fun h => ?_) <;> simp only [h,go_sem,↓reduceIte,zA,zB,zC,zD,zE,zF,reduceCtorEq,zG,zH,zI,zJ,zK,zL,zM,zN,zO,zP] <;> (try simp only [beq_iff_eq,beq_eq_false_iff_ne,bne_iff_ne,ne_eq,decide_eq_true_eq,decide_eq_false_iff_not,Bool.not_true,Bool.not_false,Bool.not_eq_true,Bool.not_eq_false,bne_eq_false_iff_eq,Decidable.not_not] at h) <;> simp only [h,go_sem,↓reduceIte,zA,zB,zC,zD,zE,zF,reduceCtorEq,zG,zH,zI,zJ,zK,zL,zM,zN,zO,zP]

theorem may_tri (c : ConfD) : Tri Tryz.prog G 19 [confV c] [] (.bool (mayB c)) [] := by
  refine tri_W0 Tryz.func19 (by decide) irOk19 (Nat.le_of_ble_eq_true rfl) rfl ?_
  simp only [ir19,go_sem,↓reduceIte,zA,zB,zC,zD,zE,zF,reduceCtorEq,zG,zH,zI,zJ,zK,zL,zM,zN,zO,zP]
  unfold mayB
  repeat' (first
    | (refine W_calld (within_tri _ _ _) rfl rfl rfl rfl ?_; simp only [go_sem,↓reduceIte,zA,zB,zC,zD,zE,zF,reduceCtorEq,zG,zH,zI,zJ,zK,zL,zM,zN,zO,zP])
    | ((first | with_reducible refine WG_splitn (fun h => ?_) (fun h => ?_) | refine WG_split (fun h => ?_) (fun h => ?_)) <;> simp only [h,go_sem,↓reduceIte,zA,zB,zC,zD,zE,zF,reduceCtorEq,zG,zH,zI,zJ,zK,zL,zM,zN,zO,zP]))

theorem asked_tri (c : ConfD) (j : JobD) (h0 : 1 ≤ c.queues ∧ c.queues ≤ 1000) : Tri Tryz.prog G 33 [confV c, jobV j] [] (.bool (askedB c j)) [] := by
  refine tri_W0 Tryz.func33 (by decide) irOk33 (Nat.le_of_ble_eq_true rfl) rfl ?_
  simp only [ir33,go_sem,↓reduceIte,zA,zB,zC,zD,zE,zF,reduceCtorEq,zG,zH,zI,zJ,zK,zL,zM,zN,zO,zP]
  have hw : IntKind.i64.wrap (c.queues - 1) = c.queues - 1 := wrap_in (by omega) (by omega)
  simp only [hw]
  unfold askedB
  repeat' (first
    | (refine W_calld (within_tri _ _ _) rfl rfl rfl rfl ?_; simp only [go_sem,↓reduceIte,zA,zB,zC,zD,zE,zF,reduceCtorEq,zG,zH,zI,zJ,zK,zL,zM,zN,zO,zP])
    | ((first | with_reducible refine WG_splitn (fun h => ?_) (fun h => ?_) | refine WG_split (fun h => ?_) (fun h => ?_)) <;> simp only [h,go_sem,↓reduceIte,zA,zB,zC,zD,zE,zF,reduceCtorEq,zG,zH,zI,zJ,zK,zL,zM,zN,zO,zP]))

theorem placed_tri (p : Int) : Tri Tryz.prog G 34 [.int p] [] (.bool (placedB p)) [] := by
  refine tri_W0 Tryz.func34 (by decide) irOk34 (Nat.le_of_ble_eq_true rfl) rfl ?_
  simp only [ir34,go_sem,↓reduceIte,zA,zB,zC,zD,zE,zF,reduceCtorEq,zG,zH,zI,zJ,zK,zL,zM,zN,zO,zP]
  have e : placedB p = ((p == 1) || ((p == 2) || (p == 3))) := by unfold placedB; rw [Bool.eq_iff_iff]; simp
  rw [e]
  repeat' ((first | with_reducible refine WG_splitn (fun h => ?_) (fun h => ?_) | refine WG_split (fun h => ?_) (fun h => ?_)) <;> simp only [h,go_sem,↓reduceIte,zA,zB,zC,zD,zE,zF,reduceCtorEq,zG,zH,zI,zJ,zK,zL,zM,zN,zO,zP])

theorem takes1_tri (n : NodeD) (number : Int) : Tri Tryz.prog G 36 [nodeV n, .ptr 0 0] [.box 3 [.int number]] (.bool (takes1 number n)) [.box 3 [.int number]] := by
  refine tri_WO Tryz.func36 (by decide) irOk36 (Nat.le_of_ble_eq_true rfl) rfl rfl rfl ?_
  simp only [ir36,go_sem,↓reduceIte,zA,zB,zC,zD,zE,zF,reduceCtorEq,zG,zH,zI,zJ,zK,zL,zM,zN,zO,zP]
  have e : takes1 number n = (n.up && (!n.moving && (n.job == number))) := by unfold takes1; rw [Bool.eq_iff_iff]; simp [and_assoc]
  rw [e]
  repeat' ((first | with_reducible refine WG_splitn (fun h => ?_) (fun h => ?_) | refine WG_split (fun h => ?_) (fun h => ?_)) <;> simp only [h,go_sem,↓reduceIte,zA,zB,zC,zD,zE,zF,reduceCtorEq,zG,zH,zI,zJ,zK,zL,zM,zN,zO,zP])

theorem ones64_tri (n : Nat) (hn : n < 64) : Tri Tryz.prog G 77 [.d (.val (.int .u64 n))] [] (.int (many n)) [] := by
  refine tri_W0 Tryz.func77 (by decide) irOk77 (Nat.le_of_ble_eq_true rfl) rfl ?_
  simp only [ir77,go_sem,↓reduceIte,zA,zB,zC,zD,zE,zF,reduceCtorEq,zG,zH,zI,zJ,zK,zL,zM,zN,zO,zP]
  revert n
  decide +kernel
theorem ones_tri (n : Nat) (hn : n < 64) : Tri Tryz.prog G 56 [.d (.val (.int .u64 n))] [] (.int (many n)) [] := by
  refine tri_W0 Tryz.func56 (by decide) irOk56 (Nat.le_of_ble_eq_true rfl) rfl ?_
  simp only [ir56,go_sem,↓reduceIte,zA,zB,zC,zD,zE,zF,reduceCtorEq,zG,zH,zI,zJ,zK,zL,zM,zN,zO,zP]
  refine W_calld (ones64_tri n hn) rfl rfl rfl rfl ?_; simp only [go_sem,↓reduceIte,zA,zB,zC,zD,zE,zF,reduceCtorEq,zG,zH,zI,zJ,zK,zL,zM,zN,zO,zP]
theorem count_tri (n : Int) : Tri Tryz.prog G 59 [.int n] [] (.int (many (n % 64))) [] := by
  refine tri_W0 Tryz.func59 (by decide) irOk59 (Nat.le_of_ble_eq_true rfl) rfl ?_
  simp only [ir59,go_sem,↓reduceIte,zA,zB,zC,zD,zE,zF,reduceCtorEq,zG,zH,zI,zJ,zK,zL,zM,zN,zO,zP]
  obtain ⟨m, hm⟩ := Int.eq_ofNat_of_zero_le (Int.emod_nonneg n (show (64 : Int) ≠ 0 by decide))
  have hl : m < 64 := by omega
  have hw : IntKind.u64.wrap (m : Int) = m := by simp [IntKind.wrap,IntKind.bits,IntKind.signed]; omega
  simp only [and_63,hm,hw]
  refine W_calld (ones_tri m hl) rfl rfl rfl rfl ?_; simp only [go_sem,↓reduceIte,zA,zB,zC,zD,zE,zF,reduceCtorEq,zG,zH,zI,zJ,zK,zL,zM,zN,zO,zP]
end Dv
