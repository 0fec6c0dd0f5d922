/- ops: a word's number, an op's words. -/
import Derived.Test.YtcfcigjkijkhdaaDoorO4
set_option linter.unusedVariables false
set_option linter.unusedSimpArgs false
namespace Dv
open Go Go.Proofs
open Nat renaming reduceEqDiff → zA, reduceAdd → zB, reduceSub → zC, reduceMul → zD, reduceLT → zE, reduceLeDiff → zF
open Int renaming reduceLE → zG, reduceLT → zH, reduceToNat → zI, reduceBEq → zJ, reduceBNe → zK, reduceEq → zL, reduceAdd → zM, reduceSub → zN, reduceMul → zO, reduceNeg → zP
attribute [local go_sem] argEnv W_nil W_seq W_skip W_ret W_exit W_scope W_block W_blk W_reg W_regD W_cond WC_t WC_f WC_any Wx_c Wx_ops Wx_lp Wx_blk W_ops_nil W_opsD_q W_guard W_guardD WG_tt WG_ff WG_tf WG_ft WG_u WGD_tt WGD_ff WGD_tf WGD_ft WGD_u WE_some WED_some W_more W_mv W_pick W_new W_box W_build W_bsl W_ld1 W_ldn W_st W_nck W_bin W_eqb W_not W_cvt W_fad W_fld1 W_fldn W_ixa W_ixr W_ix1 W_ixs W_len W_lens W_mkf W_ext W_app W_min W_isnp W_isns W_eqs W_neg W_ixn W_sli W_sls WD_more WD_mv WD_pick WD_new WD_box WD_build WD_bsl WD_ld1 WD_ldn WD_st WD_nck WD_bin WD_eqb WD_not WD_cvt WD_fad WD_fld1 WD_fldn WD_ixa WD_ixr WD_ix1 WD_ixs WD_len WD_lens WD_mkf WD_ext WD_app WD_min WD_isnp WD_isns WD_eqs WD_neg WD_ixn WD_sli WD_sls effF effM bytesOf Opd.ev getE putE binV LV.int LV.bool LV.undef Go.undef LV.cells LV.toD LV.toDs splice fillL rowsOf boxOf srcRows updL objL Eff.owned nwp St.get St.obj St.put Value.oneCell' Ends adopt Ad.ap isNil St.keep St.okKeep okObj idl idlL idlO RVs.of RV.of oneOr Ends0 EndsO_iff frzs rn rnL rnO piOf eqCells eqV boundV Option.map_some Option.map_none List.append_nil List.nil_append List.cons_append List.map_nil List.map_cons List.length_nil List.length_cons List.set_cons_zero List.set_cons_succ List.take_succ_cons List.take_zero List.take_nil List.drop_succ_cons List.drop_zero List.drop_nil List.getElem?_cons_zero List.getElem?_cons_succ List.getElem?_nil List.isEmpty_nil List.isEmpty_cons List.all_cons List.all_nil List.isEmpty_nil cond_true cond_false Bool.true_and Bool.false_and Bool.and_true Bool.and_false Bool.not_true Bool.not_false Bool.or_true Bool.true_or Bool.or_false Bool.false_or true_and and_true true_or or_true Option.some.injEq LV.d.injEq DV.val.injEq Value.bool.injEq Value.int.injEq decide_true decide_false and_self Nat.zero_add Nat.add_zero if_true if_false Int.toNat_zero beq_self_eq_true Nat.zero_lt_succ Int.toNat_natCast Int.natCast_nonneg List.length_map i64 bl List.zip_cons_cons List.zip_nil_left List.zip_nil_right nwp confV stateV nodeV jobV nodesV jobsV opV msgV nodeR jobR opR msgR zeroOp zeroMsg msgsV
variable {G : Nat → Option (List DV)}

/-- ops.number -/
def ir53 : Nat × C × List RV := (46,
(.seq (.reg [⟨(some 2), .mv (.c (.val (.int .i64 0))), none, []⟩])
 (.seq (.seq (.reg [⟨(some 5), .mv (.t 0), none, []⟩,
 ⟨(some 6), .bin .eql (.t 5) (.c (.val (.string ⟨#[]⟩))), none, []⟩,
 ⟨(some 7), .mv (.t 6), none, []⟩,
 ⟨(some 8), .mv (.t 0), (some (7, false)), []⟩,
 ⟨(some 9), .lens (.t 8), (some (7, false)), []⟩,
 ⟨(some 10), .bin .gtr (.t 9) (.c (.val (.int .i64 7))), (some (7, false)), []⟩,
 ⟨(some 11), .pick (.t 7) (.c (.val (.bool true))) (.t 10), none, []⟩,
 ⟨(some 12), .mv (.t 11), none, []⟩,
 ⟨(some 13), .mv (.t 0), (some (12, false)), []⟩,
 ⟨(some 14), .ixs (.t 13) (.c (.val (.int .i64 0))), (some (12, false)), []⟩,
 ⟨(some 15), .bin .eql (.t 14) (.c (.val (.int .u8 48))), (some (12, false)), []⟩,
 ⟨(some 16), .mv (.t 15), (some (12, false)), []⟩,
 ⟨(some 17), .mv (.t 0), (some (16, true)), []⟩,
 ⟨(some 18), .bin .neq (.t 17) (.c (.val (.string ⟨#[48]⟩))), (some (16, true)), []⟩,
 ⟨(some 19), .pick (.t 16) (.t 18) (.c (.val (.bool false))), (some (12, false)), []⟩,
 ⟨(some 20), .pick (.t 12) (.c (.val (.bool true))) (.t 19), none, []⟩])
 (.cond (.t 20) (.seq (.reg [⟨(some 2), .mv (.c (.val (.int .i64 (-1)))), none, []⟩])
 .ret)
 .skip))
 (.seq (.reg [⟨(some 3), .mv (.c (.val (.int .i64 0))), none, []⟩])
 (.seq (.seq (.reg [⟨(some 21), .mv (.t 0), none, []⟩,
 ⟨(some 22), .lens (.t 21), none, []⟩,
 ⟨(some 23), .mv (.c (.val (.int .i64 0))), none, []⟩])
 (.block 0 (.loop (.seq (.reg [⟨(some 24), .bin .lss (.t 23) (.t 22), none, []⟩])
 (.seq (.cond (.t 24) .skip
 (.exit 0))
 (.seq (.block 1 (.seq (.reg [⟨(some 25), .mv (.t 23), none, []⟩,
 ⟨(some 4), .mv (.t 25), none, []⟩])
 (.seq (.seq (.reg [⟨(some 26), .mv (.t 0), none, []⟩,
 ⟨(some 27), .mv (.t 4), none, []⟩,
 ⟨(some 28), .ixs (.t 26) (.t 27), none, []⟩,
 ⟨(some 29), .bin .lss (.t 28) (.c (.val (.int .u8 48))), none, []⟩,
 ⟨(some 30), .mv (.t 29), none, []⟩,
 ⟨(some 31), .mv (.t 0), (some (30, false)), []⟩,
 ⟨(some 32), .mv (.t 4), (some (30, false)), []⟩,
 ⟨(some 33), .ixs (.t 31) (.t 32), (some (30, false)), []⟩,
 ⟨(some 34), .bin .gtr (.t 33) (.c (.val (.int .u8 57))), (some (30, false)), []⟩,
 ⟨(some 35), .pick (.t 30) (.c (.val (.bool true))) (.t 34), none, []⟩])
 (.cond (.t 35) (.seq (.reg [⟨(some 2), .mv (.c (.val (.int .i64 (-1)))), none, []⟩])
 .ret)
 .skip))
 (.reg [⟨(some 36), .mv (.t 3), none, []⟩,
 ⟨(some 37), .bin .mul (.c (.val (.int .i64 10))) (.t 36), none, []⟩,
 ⟨(some 38), .mv (.t 0), none, []⟩,
 ⟨(some 39), .mv (.t 4), none, []⟩,
 ⟨(some 40), .ixs (.t 38) (.t 39), none, []⟩,
 ⟨(some 41), .bin .sub (.t 40) (.c (.val (.int .u8 48))), none, []⟩,
 ⟨(some 42), .cvt .i64 (.t 41), none, []⟩,
 ⟨(some 43), .bin .add (.t 37) (.t 42), none, []⟩,
 ⟨(some 3), .mv (.t 43), none, []⟩]))))
 (.reg [⟨(some 44), .bin .add (.t 23) (.c (.val (.int .i64 1))), none, []⟩,
 ⟨(some 23), .mv (.t 44), none, []⟩])))))))
 (.seq (.reg [⟨(some 45), .mv (.t 3), none, []⟩,
 ⟨(some 2), .mv (.t 45), none, []⟩])
 .ret))))),
[(.t 2)])
theorem irOk53 : convFn Tryd.prog Tryd.f53 = some ir53 := by kernel_rfl
/-- ops.Text -/
def ir32 : Nat × C × List RV := (32,
(.seq (.reg [⟨(some 1), .box 23 (.t 0), none, []⟩,
 ⟨(some 2), .mv (.c (.val (.string ⟨#[]⟩))), none, []⟩])
 (.seq (.seq (.reg [⟨(some 7), .ldn 7 (.t 1), none, []⟩,
 ⟨(some 8), .call (.f 28) [(.t 7)], none, []⟩,
 ⟨(some 9), .not (.t 8), none, []⟩])
 (.cond (.t 9) (.seq (.reg [⟨(some 2), .mv (.c (.val (.string ⟨#[]⟩))), none, []⟩])
 .ret)
 .skip))
 (.seq (.reg [⟨(some 10), .fad 0 (.t 1), none, []⟩,
 ⟨(some 11), .ld1 (.t 10), none, []⟩,
 ⟨(some 12), .call (.f 43) [(.t 11)], none, []⟩,
 ⟨(some 3), .mv (.t 12), none, []⟩])
 (.seq (.reg [⟨(some 13), .ldn 7 (.t 1), none, []⟩,
 ⟨(some 14), .call (.f 44) [(.t 13)], none, []⟩,
 ⟨(some 4), .new 73 [(.val (.int .i64 0)), (.val (.int .i64 0)), (.val (.int .i64 0)), (.val (.int .i64 0)), (.val (.int .i64 0)), (.val (.int .i64 0))], none, []⟩,
 ⟨none, .st 6 (.t 4) (.t 14), none, []⟩])
 (.seq (.seq (.reg [⟨(some 15), .fad 0 (.t 1), none, []⟩,
 ⟨(some 16), .ld1 (.t 15), none, []⟩,
 ⟨(some 17), .ixr 22 1 (.g 0) (.t 16), none, []⟩,
 ⟨(some 18), .ld1 (.t 17), none, []⟩,
 ⟨(some 19), .more (.sla 6 (.t 4) none (some (.t 18))), none, []⟩,
 ⟨(some 20), .len (.t 19), none, []⟩,
 ⟨(some 21), .mv (.c (.val (.int .i64 0))), none, []⟩])
 (.block 0 (.loop (.seq (.reg [⟨(some 22), .bin .lss (.t 21) (.t 20), none, []⟩])
 (.seq (.cond (.t 22) .skip
 (.exit 0))
 (.seq (.block 1 (.seq (.reg [⟨(some 23), .ixa 1 (.t 19) (.t 21), none, []⟩,
 ⟨(some 24), .ld1 (.t 23), none, []⟩,
 ⟨(some 6), .mv (.t 24), none, []⟩])
 (.reg [⟨(some 25), .mv (.t 3), none, []⟩,
 ⟨(some 26), .mv (.t 6), none, []⟩,
 ⟨(some 27), .call (.f 31) [(.t 26)], none, []⟩,
 ⟨(some 28), .bin .add (.c (.val (.string ⟨#[32]⟩))) (.t 27), none, []⟩,
 ⟨(some 29), .bin .add (.t 25) (.t 28), none, []⟩,
 ⟨(some 3), .mv (.t 29), none, []⟩])))
 (.reg [⟨(some 30), .bin .add (.t 21) (.c (.val (.int .i64 1))), none, []⟩,
 ⟨(some 21), .mv (.t 30), none, []⟩])))))))
 (.seq (.reg [⟨(some 31), .mv (.t 3), none, []⟩,
 ⟨(some 2), .mv (.t 31), none, []⟩])
 .ret)))))),
[(.t 2)])
theorem irOk32 : convFn Tryd.prog Tryd.f32 = some ir32 := by kernel_rfl


theorem str_eq (a b : ByteArray) : (a.toList == b.toList) = decide (a = b) := by
  rw [ByteArray.toList_eq, ByteArray.toList_eq, Bool.eq_iff_iff, beq_iff_eq, decide_eq_true_eq]
  constructor
  · intro h
    obtain ⟨a⟩ := a
    obtain ⟨b⟩ := b
    have : a = b := Array.toList_inj.1 h
    rw [this]
  · intro h; rw [h]

/-! numbers as words -/
theorem dec_len : ∀ (k u : Nat), u < 10 ^ (k + 1) → (Lib.decDigits u).length ≤ k + 1
  | 0, u, h => by
    rw [Lib.decDigits, dif_pos (by simpa using h)]; simp
  | k + 1, u, h => by
    rw [Lib.decDigits]
    split
    · simp
    · have h2 : u / 10 < 10 ^ (k + 1) := by rw [Nat.pow_succ] at h; exact Nat.div_lt_of_lt_mul (by rw [Nat.mul_comm]; exact h)
      have := dec_len k (u / 10) h2
      rw [List.length_append]; simp; omega
def itoaB (n : Int) : ByteArray := ⟨(Lib.itoa n).toArray⟩
theorem itoaB_size (n : Int) (h0 : 0 ≤ n) (h1 : n ≤ 1000000) : (itoaB n).size ≤ 7 := by
  have : (itoaB n).size = (Lib.itoa n).length := by simp [itoaB, ByteArray.size]
  rw [this]
  unfold Lib.itoa
  rw [if_neg (by omega)]
  exact dec_len 6 n.toNat (by omega)
def sepB : ByteArray := ⟨#[32]⟩
def textL : ByteArray → List Int → ByteArray
  | acc, [] => acc
  | acc, n :: l => textL (acc ++ (sepB ++ itoaB n)) l
def textO (o : OpD) : ByteArray := if opOkB o = true then textL (nameOf o.kind) ((numsL o).take (manyK o.kind)) else ⟨#[]⟩
theorem opOkL_rng : ∀ (m : Nat) (l : List Int) (i : Nat), opOkL m l i = true → ∀ n ∈ l, 0 ≤ n ∧ n ≤ 1000000
  | m, [], i, _, n, h => by cases h
  | m, x :: l, i, h, n, hn => by
    simp only [opOkL, Bool.and_eq_true] at h
    rcases List.mem_cons.1 hn with rfl | hn
    · have := h.1
      unfold numOk at this
      rw [Bool.and_eq_true] at this
      exact of_decide_eq_true this.1
    · exact opOkL_rng m l (i + 1) h.2 n hn
theorem nums_rng {o : OpD} (h : opOkB o = true) : ∀ n ∈ numsL o, 0 ≤ n ∧ n ≤ 1000000 := by
  rw [opOkB_eq, Bool.and_eq_true] at h
  exact opOkL_rng _ _ _ h.2
theorem name_size (k : Int) : (nameOf k).size ≤ 8 := by
  unfold nameOf
  split
  · rename_i h
    have h : k = 1 ∨ k = 2 ∨ k = 3 ∨ k = 4 ∨ k = 5 ∨ k = 6 ∨ k = 7 ∨ k = 8 ∨ k = 9 ∨ k = 10 ∨ k = 11 ∨ k = 12 ∨ k = 13 ∨ k = 14 ∨ k = 15 ∨ k = 16 ∨ k = 17 ∨ k = 18 ∨ k = 19 ∨ k = 20 ∨ k = 21 := by omega
    rcases h with h | h | h | h | h | h | h | h | h | h | h | h | h | h | h | h | h | h | h | h | h <;> subst h <;> decide
  · decide
def textS (o : OpD) (p : Nat × ByteArray) : St := ⟨[(3, .d (.val (.string p.2))), (19, .sl 1 0 1 0 (manyK o.kind)), (20, .int (manyK o.kind)), (21, .int p.1)],
  [some (.box 23 [.int o.kind, .int o.a, .int o.b, .int o.c, .int o.d, .int o.e, .int o.f]), some (.box 73 [.int o.a, .int o.b, .int o.c, .int o.d, .int o.e, .int o.f])]⟩
set_option maxHeartbeats 1000000 in
theorem text_tri (hB : ∀ g row, bookG g = some row → G g = some row) (hG : G 3 = some powR) (o : OpD) : Tri Tryd.prog G 32 [opV o] [] (.d (.val (.string (textO o)))) [] := by
  have hmany : G 0 = some manyR := hB _ _ rfl
  refine tri_W0 Tryd.func32 (by decide) irOk32 (Nat.le_of_ble_eq_true rfl) rfl ?_
  simp only [ir32, go_sem, ↓reduceIte, zA, zB, zC, zD, zE, zF, reduceCtorEq, zG, zH, zI, zJ, zK, zL, zM, zN, zO, zP]
  refine W_calld ((opsRight_tri o).up hB) rfl rfl rfl rfl ?_
  simp only [go_sem, ↓reduceIte, zA, zB, zC, zD, zE, zF, reduceCtorEq, zG, zH, zI, zJ, zK, zL, zM, zN, zO, zP]
  cases hr : opOkB o with
  | false =>
    have hp : textO o = ⟨#[]⟩ := by unfold textO; rw [if_neg (by rw [hr]; decide)]
    simp only [hp, go_sem, ↓reduceIte, zA, zB, zC, zD, zE, zF, reduceCtorEq, zG, zH, zI, zJ, zK, zL, zM, zN, zO, zP]
  | true =>
  have hk := opOk_kind hr
  have hp : textO o = textL (nameOf o.kind) ((numsL o).take (manyK o.kind)) := by unfold textO; rw [if_pos hr]
  have hm := manyK_le o.kind
  have hrng := nums_rng hr
  have hns := name_size o.kind
  simp only [go_sem, ↓reduceIte, zA, zB, zC, zD, zE, zF, reduceCtorEq, zG, zH, zI, zJ, zK, zL, zM, zN, zO, zP]
  refine W_calld ((name_tri o.kind).up hB) rfl rfl rfl rfl ?_
  simp only [go_sem, ↓reduceIte, zA, zB, zC, zD, zE, zF, reduceCtorEq, zG, zH, zI, zJ, zK, zL, zM, zN, zO, zP]
  refine W_calld (row_tri o) rfl rfl rfl rfl ?_
  have hk0 : 0 ≤ o.kind := by omega
  have hk1 : o.kind.toNat < 22 := by omega
  have hcond : 0 ≤ manyK o.kind ∧ manyK o.kind ≤ 6 := by omega
  simp only [numsL, hmany, hk0, hk1, Nat.mul_one, many_at o.kind hk, hcond, and_self, Nat.sub_zero, go_sem, ↓reduceIte, zA, zB, zC, zD, zE, zF, reduceCtorEq, zG, zH, zI, zJ, zK, zL, zM, zN, zO, zP]
  have hnl : (numsL o).length = 6 := rfl
  have htl : ((numsL o).take (manyK o.kind)).length = manyK o.kind := by rw [List.length_take, hnl]; omega
  refine W_loopI [3, 19, 20, 21] [] (fun p : Nat × ByteArray => p.1 ≤ manyK o.kind ∧ p.2.size ≤ 8 + 8 * p.1 ∧ textL p.2 (((numsL o).take (manyK o.kind)).drop p.1) = textO o) (fun p => manyK o.kind - p.1) (textS o) (0, nameOf o.kind) ?_ ⟨Nat.zero_le _, by dsimp only; omega, by rw [hp]; rfl⟩ ?_
  · simp only [textS, Int.natCast_zero, go_sem, ↓reduceIte, zA, zB, zC, zD, zE, zF, reduceCtorEq, zG, zH, zI, zJ, zK, zL, zM, zN, zO, zP]
  rintro ⟨i, acc⟩ ⟨hi, hsz, hF⟩
  dsimp only at hi hsz hF
  simp only [textS, go_sem, ↓reduceIte, zA, zB, zC, zD, zE, zF, reduceCtorEq, zG, zH, zI, zJ, zK, zL, zM, zN, zO, zP]
  cases hlt : decide ((i : Int) < ((manyK o.kind : Nat) : Int)) with
  | false =>
    have hi2 : i = manyK o.kind := by have := of_decide_eq_false hlt; omega
    rw [hi2, List.drop_eq_nil_of_le (by omega)] at hF
    simp only [textL] at hF
    simp only [hF, go_sem, ↓reduceIte, zA, zB, zC, zD, zE, zF, reduceCtorEq, zG, zH, zI, zJ, zK, zL, zM, zN, zO, zP]
  | true =>
  have hi2 : i < manyK o.kind := by have := of_decide_eq_true hlt; omega
  have hgc := get_mapD (f := LV.int) 0 (show i < (numsL o).length by omega)
  have hn := hrng ((numsL o).getD i 0) (by simp [List.getD, show i < (numsL o).length by omega])
  have hd : ((numsL o).take (manyK o.kind)).drop i = (numsL o).getD i 0 :: ((numsL o).take (manyK o.kind)).drop (i + 1) := by
    rw [List.drop_eq_getElem_cons (by omega)]
    simp [List.getD, show i < (numsL o).length by omega]
  rw [hd] at hF
  generalize (numsL o).getD i 0 = n at *
  simp only [numsL, LV.int, List.map_cons, List.map_nil] at hgc
  have hcd : 1 = 1 ∧ (1 : Nat) = 1 ∧ (0 : Nat) = 0 ∧ i < manyK o.kind := ⟨rfl, rfl, rfl, hi2⟩
  simp only [hi2, hgc, go_sem, ↓reduceIte, zA, zB, zC, zD, zE, zF, reduceCtorEq, zG, zH, zI, zJ, zK, zL, zM, zN, zO, zP]
  refine W_calld (itoa_tri hG n (by omega) (by omega)) rfl rfl rfl rfl ?_
  have hz := itoaB_size n hn.1 hn.2
  have h1 : (⟨#[32]⟩ : ByteArray).size + (itoaB n).size ≤ 9223372036854775807 := by have : (⟨#[32]⟩ : ByteArray).size = 1 := rfl; omega
  have h1b : (#[32] : Array UInt8).size + (itoaB n).size ≤ 9223372036854775807 := h1
  have hs2 : ((⟨#[32]⟩ : ByteArray) ++ itoaB n).size = 1 + (itoaB n).size := by rw [ByteArray.size_append]; rfl
  have h2 : acc.size + ((⟨#[32]⟩ : ByteArray) ++ itoaB n).size ≤ 9223372036854775807 := by rw [hs2]; omega
  have h2b : acc.size + ((#[32] : Array UInt8).size + (itoaB n).size) ≤ 9223372036854775807 := by have : (#[32] : Array UInt8).size = 1 := rfl; omega
  simp only [textL, sepB] at hF
  generalize hI : itoaB n = w at *
  have hI2 : (⟨(Lib.itoa n).toArray⟩ : ByteArray) = w := hI
  simp only [hI2, h1, h1b, h2, h2b, go_sem, ↓reduceIte, zA, zB, zC, zD, zE, zF, reduceCtorEq, zG, zH, zI, zJ, zK, zL, zM, zN, zO, zP]
  refine W_lpI (i + 1, acc ++ ((⟨#[32]⟩ : ByteArray) ++ w)) ?_ ?_ ⟨by dsimp only; omega, by dsimp only; rw [ByteArray.size_append, hs2]; omega, hF⟩ (by dsimp only; omega)
  · simp only [go_sem, ↓reduceIte, zA, zB, zC, zD, zE, zF, reduceCtorEq, zG, zH, zI, zJ, zK, zL, zM, zN, zO, zP]
  · simp only [textS, wrap_succ (show i < 9223372036854775807 by omega), go_sem, ↓reduceIte, zA, zB, zC, zD, zE, zF, reduceCtorEq, zG, zH, zI, zJ, zK, zL, zM, zN, zO, zP]
end Dv
