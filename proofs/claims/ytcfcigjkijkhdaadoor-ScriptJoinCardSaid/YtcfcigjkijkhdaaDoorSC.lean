/- The logical machine and its plain laws: parts S3, S4, S5, S6, S7, S8, proved sound. -/
import Derived.Test.YtcfcigjkijkhdaaDoorSB
import Derived.Test.YtcfcigjkijkhdaaDoorO13
set_option linter.unusedVariables false
set_option linter.unusedSimpArgs false
namespace Dv
open Go Go.Proofs
open Nat renaming reduceEqDiff → zA, reduceAdd → zB, reduceSub → zC, reduceMul → zD, reduceLT → zE, reduceLeDiff → zF
open Int renaming reduceLE → zG, reduceLT → zH, reduceToNat → zI, reduceBEq → zJ, reduceBNe → zK, reduceEq → zL, reduceAdd → zM, reduceSub → zN, reduceMul → zO, reduceNeg → zP
attribute [local go_sem] argEnv W_nil W_seq W_skip W_ret W_exit W_scope W_block W_blk W_reg W_regD W_cond WC_t WC_f WC_any Wx_c Wx_ops Wx_lp Wx_blk W_ops_nil W_opsD_q W_guard W_guardD WG_tt WG_ff WG_tf WG_ft WG_u WGD_tt WGD_ff WGD_tf WGD_ft WGD_u WE_some WED_some W_more W_mv W_pick W_new W_box W_build W_bsl W_ld1 W_ldn W_st W_nck W_bin W_eqb W_not W_cvt W_fad W_fld1 W_fldn W_ixa W_ixr W_ix1 W_ixs W_len W_lens W_mkf W_ext W_app W_min W_isnp W_isns W_eqs W_neg W_ixn W_sli W_sls WD_more WD_mv WD_pick WD_new WD_box WD_build WD_bsl WD_ld1 WD_ldn WD_st WD_nck WD_bin WD_eqb WD_not WD_cvt WD_fad WD_fld1 WD_fldn WD_ixa WD_ixr WD_ix1 WD_ixs WD_len WD_lens WD_mkf WD_ext WD_app WD_min WD_isnp WD_isns WD_eqs WD_neg WD_ixn WD_sli WD_sls effF effM bytesOf Opd.ev getE putE binV LV.int LV.bool LV.undef Go.undef LV.cells LV.toD LV.toDs splice fillL rowsOf boxOf srcRows updL objL Eff.owned nwp St.get St.obj St.put Value.oneCell' Ends adopt Ad.ap isNil St.keep St.okKeep okObj idl idlL idlO RVs.of RV.of oneOr Ends0 EndsO_iff frzs rn rnL rnO piOf eqCells eqV boundV Option.map_some Option.map_none List.append_nil List.nil_append List.cons_append List.map_nil List.map_cons List.length_nil List.length_cons List.set_cons_zero List.set_cons_succ List.take_succ_cons List.take_zero List.take_nil List.drop_succ_cons List.drop_zero List.drop_nil List.getElem?_cons_zero List.getElem?_cons_succ List.getElem?_nil List.isEmpty_nil List.isEmpty_cons List.all_cons List.all_nil List.isEmpty_nil cond_true cond_false Bool.true_and Bool.false_and Bool.and_true Bool.and_false Bool.not_true Bool.not_false Bool.or_true Bool.true_or Bool.or_false Bool.false_or true_and and_true true_or or_true Option.some.injEq LV.d.injEq DV.val.injEq Value.bool.injEq Value.int.injEq decide_true decide_false and_self Nat.zero_add Nat.add_zero if_true if_false Int.toNat_zero beq_self_eq_true Nat.zero_lt_succ Int.toNat_natCast Int.natCast_nonneg List.length_map i64 bl List.zip_cons_cons List.zip_nil_left List.zip_nil_right nwp confV stateV nodeV jobV nodesV jobsV opV msgV nodeR jobR opR msgR zeroOp zeroMsg msgsV
variable {G : Nat → Option (List DV)}

/-- script.Words -/
def ir12 : Nat × C × List RV := (44,
(.seq (.reg [⟨(some 1), .box 25 (.t 0), none, []⟩,
 ⟨(some 2), .mv (.c (.val (.string ⟨#[]⟩))), none, []⟩])
 (.seq (.seq (.reg [⟨(some 7), .ldn 10 (.t 1), none, []⟩,
 ⟨(some 8), .call (.f 10) [(.t 7)], none, []⟩,
 ⟨(some 9), .not (.t 8), none, []⟩])
 (.cond (.t 9) (.seq (.reg [⟨(some 2), .mv (.c (.val (.string ⟨#[]⟩))), none, []⟩])
 .ret)
 .skip))
 (.seq (.regD [⟨(some 10), .call (.f 21) [], none, []⟩,
 ⟨(some 11), .fad 0 (.t 1), none, []⟩,
 ⟨(some 12), .ld1 (.t 11), none, [1]⟩,
 ⟨(some 13), .ixn 15 3 (.t 10) (.t 12), none, [0, 2, 1]⟩,
 ⟨(some 3), .new 44 [(.val (.string ⟨#[]⟩)), (.val (.int .i64 0)), (.val (.bool false))], none, []⟩,
 ⟨none, .st 3 (.t 3) (.t 13), none, [4, 3, 0, 2, 1]⟩])
 (.seq (.reg [⟨(some 14), .fad 0 (.t 3), none, []⟩,
 ⟨(some 15), .ld1 (.t 14), none, []⟩,
 ⟨(some 4), .mv (.t 15), none, []⟩])
 (.seq (.seq (.reg [⟨(some 16), .fad 1 (.t 1), none, []⟩,
 ⟨(some 17), .ld1 (.t 16), none, []⟩,
 ⟨(some 18), .fad 2 (.t 1), none, []⟩,
 ⟨(some 19), .ld1 (.t 18), none, []⟩,
 ⟨(some 20), .bsl 3 1 [(.t 17), (.t 19)], none, []⟩,
 ⟨(some 21), .fad 1 (.t 3), none, []⟩,
 ⟨(some 22), .ld1 (.t 21), none, []⟩,
 ⟨(some 23), .sli 1 (.t 20) none (some (.t 22)) none, none, []⟩,
 ⟨(some 24), .len (.t 23), none, []⟩,
 ⟨(some 25), .mv (.c (.val (.int .i64 0))), none, []⟩])
 (.block 0 (.loop (.seq (.reg [⟨(some 26), .bin .lss (.t 25) (.t 24), none, []⟩])
 (.seq (.cond (.t 26) .skip
 (.exit 0))
 (.seq (.block 1 (.seq (.reg [⟨(some 27), .ixa 1 (.t 23) (.t 25), none, []⟩,
 ⟨(some 28), .ld1 (.t 27), none, []⟩,
 ⟨(some 6), .mv (.t 28), none, []⟩])
 (.reg [⟨(some 29), .mv (.t 4), none, []⟩,
 ⟨(some 30), .mv (.t 6), none, []⟩,
 ⟨(some 31), .call (.f 31) [(.t 30)], none, []⟩,
 ⟨(some 32), .bin .add (.c (.val (.string ⟨#[32]⟩))) (.t 31), none, []⟩,
 ⟨(some 33), .bin .add (.t 29) (.t 32), none, []⟩,
 ⟨(some 4), .mv (.t 33), none, []⟩])))
 (.reg [⟨(some 34), .bin .add (.t 25) (.c (.val (.int .i64 1))), none, []⟩,
 ⟨(some 25), .mv (.t 34), none, []⟩])))))))
 (.seq (.seq (.reg [⟨(some 35), .fad 2 (.t 3), none, []⟩,
 ⟨(some 36), .ld1 (.t 35), none, []⟩])
 (.cond (.t 36) (.reg [⟨(some 37), .mv (.t 4), none, []⟩,
 ⟨(some 38), .fad 3 (.t 1), none, []⟩,
 ⟨(some 39), .ldn 7 (.t 38), none, []⟩,
 ⟨(some 40), .call (.f 32) [(.t 39)], none, []⟩,
 ⟨(some 41), .bin .add (.c (.val (.string ⟨#[32]⟩))) (.t 40), none, []⟩,
 ⟨(some 42), .bin .add (.t 37) (.t 41), none, []⟩,
 ⟨(some 4), .mv (.t 42), none, []⟩])
 .skip))
 (.seq (.reg [⟨(some 43), .mv (.t 4), none, []⟩,
 ⟨(some 2), .mv (.t 43), none, []⟩])
 .ret))))))),
[(.t 2)])
theorem irOk12 : convFn Tryd.prog Tryd.f12 = some ir12 := by kernel_rfl
/-- dunnageref23.Words -/
def ir13 : Nat × C × List RV := (45,
(.seq (.reg [⟨(some 1), .box 25 (.t 0), none, []⟩,
 ⟨(some 2), .mv (.c (.val (.string ⟨#[]⟩))), none, []⟩])
 (.seq (.seq (.reg [⟨(some 4), .ldn 10 (.t 1), none, []⟩,
 ⟨(some 5), .call (.f 11) [(.t 4)], none, []⟩,
 ⟨(some 6), .not (.t 5), none, []⟩])
 (.cond (.t 6) (.seq (.reg [⟨(some 2), .mv (.c (.val (.string ⟨#[]⟩))), none, []⟩])
 .ret)
 .skip))
 (.seq (.reg [⟨(some 7), .fad 0 (.t 1), none, []⟩,
 ⟨(some 8), .ld1 (.t 7), none, []⟩,
 ⟨(some 9), .call (.f 24) [(.t 8)], none, []⟩,
 ⟨(some 3), .mv (.t 9), none, []⟩])
 (.seq (.seq (.reg [⟨(some 10), .fad 0 (.t 1), none, []⟩,
 ⟨(some 11), .ld1 (.t 10), none, []⟩,
 ⟨(some 12), .call (.f 25) [(.t 11)], none, []⟩,
 ⟨(some 13), .bin .gtr (.t 12) (.c (.val (.int .i64 0))), none, []⟩])
 (.cond (.t 13) (.reg [⟨(some 14), .mv (.t 3), none, []⟩,
 ⟨(some 15), .bin .add (.t 14) (.c (.val (.string ⟨#[32]⟩))), none, []⟩,
 ⟨(some 16), .fad 1 (.t 1), none, []⟩,
 ⟨(some 17), .ld1 (.t 16), none, []⟩,
 ⟨(some 18), .call (.f 33) [(.t 17)], none, []⟩,
 ⟨(some 19), .bin .add (.t 15) (.t 18), none, []⟩,
 ⟨(some 3), .mv (.t 19), none, []⟩])
 .skip))
 (.seq (.seq (.reg [⟨(some 20), .fad 0 (.t 1), none, []⟩,
 ⟨(some 21), .ld1 (.t 20), none, []⟩,
 ⟨(some 22), .call (.f 25) [(.t 21)], none, []⟩,
 ⟨(some 23), .bin .gtr (.t 22) (.c (.val (.int .i64 1))), none, []⟩])
 (.cond (.t 23) (.reg [⟨(some 24), .mv (.t 3), none, []⟩,
 ⟨(some 25), .bin .add (.t 24) (.c (.val (.string ⟨#[32]⟩))), none, []⟩,
 ⟨(some 26), .fad 2 (.t 1), none, []⟩,
 ⟨(some 27), .ld1 (.t 26), none, []⟩,
 ⟨(some 28), .call (.f 33) [(.t 27)], none, []⟩,
 ⟨(some 29), .bin .add (.t 25) (.t 28), none, []⟩,
 ⟨(some 3), .mv (.t 29), none, []⟩])
 .skip))
 (.seq (.seq (.reg [⟨(some 30), .fad 0 (.t 1), none, []⟩,
 ⟨(some 31), .ld1 (.t 30), none, []⟩,
 ⟨(some 32), .bin .eql (.t 31) (.c (.val (.int .i64 11))), none, []⟩,
 ⟨(some 33), .mv (.t 32), none, []⟩,
 ⟨(some 34), .fad 0 (.t 1), (some (33, false)), []⟩,
 ⟨(some 35), .ld1 (.t 34), (some (33, false)), []⟩,
 ⟨(some 36), .bin .eql (.t 35) (.c (.val (.int .i64 13))), (some (33, false)), []⟩,
 ⟨(some 37), .pick (.t 33) (.c (.val (.bool true))) (.t 36), none, []⟩])
 (.cond (.t 37) (.reg [⟨(some 38), .mv (.t 3), none, []⟩,
 ⟨(some 39), .bin .add (.t 38) (.c (.val (.string ⟨#[32]⟩))), none, []⟩,
 ⟨(some 40), .fad 3 (.t 1), none, []⟩,
 ⟨(some 41), .ldn 7 (.t 40), none, []⟩,
 ⟨(some 42), .call (.f 34) [(.t 41)], none, []⟩,
 ⟨(some 43), .bin .add (.t 39) (.t 42), none, []⟩,
 ⟨(some 3), .mv (.t 43), none, []⟩])
 .skip))
 (.seq (.reg [⟨(some 44), .mv (.t 3), none, []⟩,
 ⟨(some 2), .mv (.t 44), none, []⟩])
 .ret))))))),
[(.t 2)])
theorem irOk13 : convFn Tryd.prog Tryd.f13 = some ir13 := by kernel_rfl


def numsE (e : EntD) : List Int := [e.a, e.b].take (manyE e.kind)
def wordsB (e : EntD) : ByteArray := if hasOp e.kind = true then textL (wordE e.kind) (numsE e) ++ (sepB ++ textO e.op) else textL (wordE e.kind) (numsE e)
def wordsE (e : EntD) : ByteArray := if entOkB e = true then wordsB e else ⟨#[]⟩
theorem manyE_le (k : Int) : manyE k ≤ 2 := by unfold manyE; (repeat' split) <;> omega
theorem entOk_rng {e : EntD} (h : entOkB e = true) : (1 ≤ e.kind ∧ e.kind ≤ 14) ∧ (0 ≤ e.a ∧ e.a ≤ 1000000) ∧ (0 ≤ e.b ∧ e.b ≤ 1000000) ∧ opPart e = true := by
  rw [entOk_eq, Bool.and_eq_true, decide_eq_true_eq] at h
  obtain ⟨⟨a1, a2, a3, a4, a5, a6, _⟩, h2⟩ := h
  exact ⟨⟨a1, a2⟩, ⟨a3, a4⟩, ⟨a5, a6⟩, h2⟩
theorem wordE_size (k : Int) : (wordE k).size ≤ 7 := by
  by_cases h : 1 ≤ k ∧ k ≤ 14
  · have : ∀ i, i < 15 → (wordsK.getD i ⟨#[]⟩).size ≤ 7 := by decide +kernel
    unfold wordE; rw [if_pos h]; exact this k.toNat (by omega)
  · rw [word_none k h]; decide
theorem textO_size_le (o : OpD) : (textO o).size ≤ 100 := by
  by_cases h : opOkB o = true
  · have hns := name_size o.kind
    have hm := manyK_le o.kind
    have hr := nums_rng h
    have : ∀ (l : List Int) (acc : ByteArray), (∀ n ∈ l, 0 ≤ n ∧ n ≤ 1000000) → (textL acc l).size ≤ acc.size + 8 * l.length := by
      intro l
      induction l with
      | nil => intro acc _; simp [textL]
      | cons n l ih =>
        intro acc hl
        have hn := hl n (List.mem_cons_self)
        have hz := itoaB_size n hn.1 hn.2
        have := ih (acc ++ (sepB ++ itoaB n)) (fun x hx => hl x (List.mem_cons_of_mem _ hx))
        rw [ByteArray.size_append, ByteArray.size_append, show sepB.size = 1 from rfl] at this
        rw [textL, List.length_cons]
        omega
    unfold textO
    rw [if_pos h]
    have h2 := this ((numsL o).take (manyK o.kind)) (nameOf o.kind) (fun n hn => hr n (List.mem_of_mem_take hn))
    rw [List.length_take] at h2
    omega
  · unfold textO; rw [if_neg h]; decide
def entBox (e : EntD) : LObj := .box 25 [.int e.kind, .int e.a, .int e.b, .int e.op.kind, .int e.op.a, .int e.op.b, .int e.op.c, .int e.op.d, .int e.op.e, .int e.op.f]
def kindBox (k : Int) : LObj := .box 44 [.d (.val (.string (wordE k))), .int ((manyE k : Nat) : Int), .bool (hasOp k)]
def wrdS (e : EntD) (p : Nat × ByteArray) : St := ⟨[(1, .ptr 0 0), (3, .ptr 1 0), (4, .d (.val (.string p.2))), (23, .sl 2 2 1 0 (manyE e.kind)), (24, .int (manyE e.kind)), (25, .int p.1)],
  [some (entBox e), some (kindBox e.kind), some (.dat 3 1 [[i64 e.a], [i64 e.b]])]⟩
set_option maxHeartbeats 2000000 in
theorem entWords_tri (h : OG G) (e : EntD) : Tri Tryd.prog G 12 [entV e] [] (.d (.val (.string (wordsE e)))) [] := by
  refine tri_W0 Tryd.func12 (by decide) irOk12 (Nat.le_of_ble_eq_true rfl) rfl ?_
  simp only [ir12, go_sem, ↓reduceIte, zA, zB, zC, zD, zE, zF, reduceCtorEq, zG, zH, zI, zJ, zK, zL, zM, zN, zO, zP]
  generalize hq : wordsE e = q
  unfold wordsE at hq
  refine W_calld (entRight_tri h.b e) rfl rfl rfl rfl ?_; simp only [go_sem, ↓reduceIte, zA, zB, zC, zD, zE, zF, reduceCtorEq, zG, zH, zI, zJ, zK, zL, zM, zN, zO, zP]
  cases hr : entOkB e with
  | false =>
    rw [if_neg (by rw [hr]; decide)] at hq
    subst hq
    simp only [go_sem, ↓reduceIte, zA, zB, zC, zD, zE, zF, reduceCtorEq, zG, zH, zI, zJ, zK, zL, zM, zN, zO, zP]
  | true =>
  rw [if_pos hr] at hq
  obtain ⟨hk, ha, hb, ho⟩ := entOk_rng hr
  have hk0 : 0 ≤ e.kind := by omega
  have hk1 : e.kind.toNat < 15 := by omega
  have hm := manyE_le e.kind
  have hws := wordE_size e.kind
  simp only [go_sem, ↓reduceIte, zA, zB, zC, zD, zE, zF, reduceCtorEq, zG, zH, zI, zJ, zK, zL, zM, zN, zO, zP]
  refine WD_calld (kinds_tri) rfl rfl rfl rfl ?_; simp only [go_sem, ↓reduceIte, zA, zB, zC, zD, zE, zF, reduceCtorEq, zG, zH, zI, zJ, zK, zL, zM, zN, zO, zP]
  simp only [hk0, hk1, kind_at e.kind (by omega), List.length_cons, List.length_nil, go_sem, ↓reduceIte, zA, zB, zC, zD, zE, zF, reduceCtorEq, zG, zH, zI, zJ, zK, zL, zM, zN, zO, zP]
  refine W_opsD_end (by decide) ?_
  have hcond : 0 ≤ manyE e.kind ∧ manyE e.kind ≤ 2 ∧ 2 ≤ 2 := by omega
  simp only [hcond, and_self, List.length_cons, List.length_nil, go_sem, ↓reduceIte, zA, zB, zC, zD, zE, zF, reduceCtorEq, zG, zH, zI, zJ, zK, zL, zM, zN, zO, zP]
  have hnl : (numsE e).length = manyE e.kind := by unfold numsE; rw [List.length_take]; simp; omega
  have hrng : ∀ n ∈ numsE e, 0 ≤ n ∧ n ≤ 1000000 := fun n hn => by
    have := List.mem_of_mem_take hn
    simp at this
    rcases this with rfl | rfl
    · exact ha
    · exact hb
  refine W_loopI [1, 3, 4, 23, 24, 25] [] (fun p : Nat × ByteArray => p.1 ≤ manyE e.kind ∧ p.2.size ≤ 7 + 8 * p.1 ∧ textL p.2 ((numsE e).drop p.1) = textL (wordE e.kind) (numsE e)) (fun p => manyE e.kind - p.1) (wrdS e) (0, wordE e.kind) ?_ ⟨Nat.zero_le _, by dsimp only; omega, rfl⟩ ?_
  · simp only [wrdS, entBox, kindBox, Int.natCast_zero, Nat.sub_zero, go_sem, ↓reduceIte, zA, zB, zC, zD, zE, zF, reduceCtorEq, zG, zH, zI, zJ, zK, zL, zM, zN, zO, zP]
  rintro ⟨i, acc⟩ ⟨hi, hsz, hF⟩
  dsimp only at hi hsz hF
  simp only [wrdS, entBox, kindBox, go_sem, ↓reduceIte, zA, zB, zC, zD, zE, zF, reduceCtorEq, zG, zH, zI, zJ, zK, zL, zM, zN, zO, zP]
  cases hlt : decide ((i : Int) < ((manyE e.kind : Nat) : Int)) with
  | false =>
    have hi2 : i = manyE e.kind := by have := of_decide_eq_false hlt; omega
    rw [hi2, List.drop_eq_nil_of_le (by omega)] at hF
    simp only [textL] at hF
    unfold wordsB at hq
    rw [← hF] at hq
    cases hh : hasOp e.kind with
    | false =>
      rw [if_neg (by rw [hh]; decide)] at hq
      subst hq
      simp only [go_sem, ↓reduceIte, zA, zB, zC, zD, zE, zF, reduceCtorEq, zG, zH, zI, zJ, zK, zL, zM, zN, zO, zP]
    | true =>
      rw [if_pos hh] at hq
      subst hq
      have hto := textO_size_le e.op
      have e1 : (#[32] : Array UInt8).size + (textO e.op).size ≤ 9223372036854775807 := by have : (#[32] : Array UInt8).size = 1 := rfl; omega
      have e2 : acc.size + ((#[32] : Array UInt8).size + (textO e.op).size) ≤ 9223372036854775807 := by have : (#[32] : Array UInt8).size = 1 := rfl; omega
      simp only [go_sem, ↓reduceIte, zA, zB, zC, zD, zE, zF, reduceCtorEq, zG, zH, zI, zJ, zK, zL, zM, zN, zO, zP]
      refine W_calld (h.text e.op) rfl rfl rfl rfl ?_; simp only [go_sem, ↓reduceIte, zA, zB, zC, zD, zE, zF, reduceCtorEq, zG, zH, zI, zJ, zK, zL, zM, zN, zO, zP]
      simp only [e1, e2, sepB, if_true, go_sem, ↓reduceIte, zA, zB, zC, zD, zE, zF, reduceCtorEq, zG, zH, zI, zJ, zK, zL, zM, zN, zO, zP]
  | true =>
  have hi2 : i < manyE e.kind := by have := of_decide_eq_true hlt; omega
  have hgc := get_mapD (f := fun n : Int => [i64 n]) 0 (show i < [e.a, e.b].length by simp; omega)
  have hn := hrng ((numsE e).getD i 0) (by simp [List.getD, show i < (numsE e).length by omega])
  have hgd : (numsE e).getD i 0 = [e.a, e.b].getD i 0 := by unfold numsE; simp only [List.getD]; rw [List.getElem?_take_of_lt hi2]
  have hd : (numsE e).drop i = (numsE e).getD i 0 :: (numsE e).drop (i + 1) := by
    rw [List.drop_eq_getElem_cons (by omega)]
    simp [List.getD, show i < (numsE e).length by omega]
  rw [hd] at hF
  rw [← hgd] at hgc
  generalize (numsE e).getD i 0 = n at *
  simp only [List.map_cons, List.map_nil] at hgc
  have hz := itoaB_size n hn.1 hn.2
  have h1 : (#[32] : Array UInt8).size + (itoaB n).size ≤ 9223372036854775807 := by have : (#[32] : Array UInt8).size = 1 := rfl; omega
  have hs2 : ((⟨#[32]⟩ : ByteArray) ++ itoaB n).size = 1 + (itoaB n).size := by rw [ByteArray.size_append]; rfl
  have h2b : acc.size + ((#[32] : Array UInt8).size + (itoaB n).size) ≤ 9223372036854775807 := by have : (#[32] : Array UInt8).size = 1 := rfl; omega
  simp only [hi2, hgc, go_sem, ↓reduceIte, zA, zB, zC, zD, zE, zF, reduceCtorEq, zG, zH, zI, zJ, zK, zL, zM, zN, zO, zP]
  refine W_calld (itoa_tri h.p n (by omega) (by omega)) rfl rfl rfl rfl ?_
  simp only [textL, sepB] at hF
  generalize hI : itoaB n = w at *
  have hI2 : (⟨(Lib.itoa n).toArray⟩ : ByteArray) = w := hI
  simp only [hI2, h1, h2b, if_true, go_sem, ↓reduceIte, zA, zB, zC, zD, zE, zF, reduceCtorEq, zG, zH, zI, zJ, zK, zL, zM, zN, zO, zP]
  refine W_lpI (i + 1, acc ++ ((⟨#[32]⟩ : ByteArray) ++ w)) ?_ ?_ ⟨by dsimp only; omega, by dsimp only; rw [ByteArray.size_append, hs2]; omega, hF⟩ (by dsimp only; omega)
  · simp only [go_sem, ↓reduceIte, zA, zB, zC, zD, zE, zF, reduceCtorEq, zG, zH, zI, zJ, zK, zL, zM, zN, zO, zP]
  · simp only [wrdS, entBox, kindBox, wrap_succ (show i < 9223372036854775807 by omega), go_sem, ↓reduceIte, zA, zB, zC, zD, zE, zF, reduceCtorEq, zG, zH, zI, zJ, zK, zL, zM, zN, zO, zP]
set_option maxHeartbeats 2000000 in
theorem entWords23_tri (e : EntD) : Tri Tryd.prog G 13 [entV e] [] (.d (.val (.string (wordsE e)))) [] := by
  refine tri_W0 Tryd.func13 (by decide) irOk13 (Nat.le_of_ble_eq_true rfl) rfl ?_
  simp only [ir13, go_sem, ↓reduceIte, zA, zB, zC, zD, zE, zF, reduceCtorEq, zG, zH, zI, zJ, zK, zL, zM, zN, zO, zP]
  generalize hq : wordsE e = q
  unfold wordsE at hq
  refine W_calld (entRight23_tri e) rfl rfl rfl rfl ?_; simp only [go_sem, ↓reduceIte, zA, zB, zC, zD, zE, zF, reduceCtorEq, zG, zH, zI, zJ, zK, zL, zM, zN, zO, zP]
  cases hr : entOkB e with
  | false =>
    rw [if_neg (by rw [hr]; decide)] at hq
    subst hq
    simp only [go_sem, ↓reduceIte, zA, zB, zC, zD, zE, zF, reduceCtorEq, zG, zH, zI, zJ, zK, zL, zM, zN, zO, zP]
  | true =>
  rw [if_pos hr] at hq
  obtain ⟨hk, ha, hb, ho⟩ := entOk_rng hr
  have hk0 : e.kind ≠ 0 := by omega
  have hm := manyE_le e.kind
  have hws := wordE_size e.kind
  simp only [go_sem, ↓reduceIte, zA, zB, zC, zD, zE, zF, reduceCtorEq, zG, zH, zI, zJ, zK, zL, zM, zN, zO, zP]
  refine W_calld (word23_tri e.kind) rfl rfl rfl rfl ?_; simp only [go_sem, ↓reduceIte, zA, zB, zC, zD, zE, zF, reduceCtorEq, zG, zH, zI, zJ, zK, zL, zM, zN, zO, zP]
  refine W_calld (many23_tri e.kind hk0) rfl rfl rfl rfl ?_; simp only [go_sem, ↓reduceIte, zA, zB, zC, zD, zE, zF, reduceCtorEq, zG, zH, zI, zJ, zK, zL, zM, zN, zO, zP]
  have hza := itoaB_size e.a ha.1 ha.2
  have hzb := itoaB_size e.b hb.1 hb.2
  have h32 : (#[32] : Array UInt8).size = 1 := rfl
  have s1 : (wordE e.kind).size + (#[32] : Array UInt8).size ≤ 9223372036854775807 := by omega
  have s2 : (wordE e.kind).size + (#[32] : Array UInt8).size + (itoaB e.a).size ≤ 9223372036854775807 := by omega
  have s3 : (wordE e.kind).size + (#[32] : Array UInt8).size + (itoaB e.a).size + (#[32] : Array UInt8).size ≤ 9223372036854775807 := by omega
  have s4 : (wordE e.kind).size + (#[32] : Array UInt8).size + (itoaB e.a).size + (#[32] : Array UInt8).size + (itoaB e.b).size ≤ 9223372036854775807 := by omega
  have hs32 : (⟨#[32]⟩ : ByteArray).size = 1 := rfl
  by_cases m0 : manyE e.kind = 0
  · have hT : textL (wordE e.kind) (numsE e) = wordE e.kind := by unfold numsE; rw [m0]; rfl
    simp only [m0, decide_eq_false (show ¬ (((0 : Nat) : Int)) > 0 by decide), decide_eq_false (show ¬ (((0 : Nat) : Int)) > 1 by decide), go_sem, ↓reduceIte, zA, zB, zC, zD, zE, zF, reduceCtorEq, zG, zH, zI, zJ, zK, zL, zM, zN, zO, zP]
    refine W_calld (many23_tri e.kind hk0) rfl rfl rfl rfl ?_; simp only [go_sem, ↓reduceIte, zA, zB, zC, zD, zE, zF, reduceCtorEq, zG, zH, zI, zJ, zK, zL, zM, zN, zO, zP]
    simp only [m0, decide_eq_false (show ¬ (((0 : Nat) : Int)) > 0 by decide), decide_eq_false (show ¬ (((0 : Nat) : Int)) > 1 by decide), go_sem, ↓reduceIte, zA, zB, zC, zD, zE, zF, reduceCtorEq, zG, zH, zI, zJ, zK, zL, zM, zN, zO, zP]
    unfold wordsB at hq
    rw [hT] at hq
    clear hT
    generalize wordE e.kind = acc at *
    rw [hasOp_eq] at hq
    have hto := textO_size_le e.op
    have u1 : acc.size + (#[32] : Array UInt8).size ≤ 9223372036854775807 := by have : (#[32] : Array UInt8).size = 1 := rfl; omega
    have u2 : acc.size + (#[32] : Array UInt8).size + (textO e.op).size ≤ 9223372036854775807 := by have : (#[32] : Array UInt8).size = 1 := rfl; omega
    by_cases k11 : e.kind = 11
    · rw [decide_eq_true k11, Bool.true_or, if_pos rfl, ← ByteArray.append_assoc] at hq
      subst hq
      simp only [show (e.kind == 11) = true from beq_iff_eq.2 k11, u1, if_true, go_sem, ↓reduceIte, zA, zB, zC, zD, zE, zF, reduceCtorEq, zG, zH, zI, zJ, zK, zL, zM, zN, zO, zP]
      refine W_calld (text8_tri e.op) rfl rfl rfl rfl ?_; simp only [go_sem, ↓reduceIte, zA, zB, zC, zD, zE, zF, reduceCtorEq, zG, zH, zI, zJ, zK, zL, zM, zN, zO, zP]
      simp only [u2, sepB, if_true, go_sem, ↓reduceIte, zA, zB, zC, zD, zE, zF, reduceCtorEq, zG, zH, zI, zJ, zK, zL, zM, zN, zO, zP]
    · by_cases k13 : e.kind = 13
      · rw [decide_eq_true k13, Bool.or_true, if_pos rfl, ← ByteArray.append_assoc] at hq
        subst hq
        simp only [show (e.kind == 11) = false from beq_eq_false_iff_ne.2 k11, show (e.kind == 13) = true from beq_iff_eq.2 k13, u1, if_true, go_sem, ↓reduceIte, zA, zB, zC, zD, zE, zF, reduceCtorEq, zG, zH, zI, zJ, zK, zL, zM, zN, zO, zP]
        refine W_calld (text8_tri e.op) rfl rfl rfl rfl ?_; simp only [go_sem, ↓reduceIte, zA, zB, zC, zD, zE, zF, reduceCtorEq, zG, zH, zI, zJ, zK, zL, zM, zN, zO, zP]
        simp only [u2, sepB, if_true, go_sem, ↓reduceIte, zA, zB, zC, zD, zE, zF, reduceCtorEq, zG, zH, zI, zJ, zK, zL, zM, zN, zO, zP]
      · rw [decide_eq_false k11, decide_eq_false k13, Bool.or_false, if_neg (by decide)] at hq
        subst hq
        simp only [show (e.kind == 11) = false from beq_eq_false_iff_ne.2 k11, show (e.kind == 13) = false from beq_eq_false_iff_ne.2 k13, go_sem, ↓reduceIte, zA, zB, zC, zD, zE, zF, reduceCtorEq, zG, zH, zI, zJ, zK, zL, zM, zN, zO, zP]
  by_cases m1 : manyE e.kind = 1
  · have hT : textL (wordE e.kind) (numsE e) = wordE e.kind ++ ⟨#[32]⟩ ++ itoaB e.a := by unfold numsE; rw [m1]; simp only [List.take_succ_cons, List.take_zero, textL, sepB, ByteArray.append_assoc]
    simp only [m1, s1, if_true, decide_eq_true (show (((1 : Nat) : Int)) > 0 by decide), go_sem, ↓reduceIte, zA, zB, zC, zD, zE, zF, reduceCtorEq, zG, zH, zI, zJ, zK, zL, zM, zN, zO, zP]
    refine W_calld (digits23_tri e.a ha.1 ha.2) rfl rfl rfl rfl ?_; simp only [go_sem, ↓reduceIte, zA, zB, zC, zD, zE, zF, reduceCtorEq, zG, zH, zI, zJ, zK, zL, zM, zN, zO, zP]
    simp only [s2, if_true, go_sem, ↓reduceIte, zA, zB, zC, zD, zE, zF, reduceCtorEq, zG, zH, zI, zJ, zK, zL, zM, zN, zO, zP]
    refine W_calld (many23_tri e.kind hk0) rfl rfl rfl rfl ?_; simp only [go_sem, ↓reduceIte, zA, zB, zC, zD, zE, zF, reduceCtorEq, zG, zH, zI, zJ, zK, zL, zM, zN, zO, zP]
    simp only [m1, decide_eq_false (show ¬ (((1 : Nat) : Int)) > 1 by decide), go_sem, ↓reduceIte, zA, zB, zC, zD, zE, zF, reduceCtorEq, zG, zH, zI, zJ, zK, zL, zM, zN, zO, zP]
    have hsz : (wordE e.kind ++ (⟨#[32]⟩ : ByteArray) ++ itoaB e.a).size ≤ 40 := by rw [ByteArray.size_append, ByteArray.size_append]; omega
    unfold wordsB at hq
    rw [hT] at hq
    clear hT
    generalize wordE e.kind ++ (⟨#[32]⟩ : ByteArray) ++ itoaB e.a = acc at *
    rw [hasOp_eq] at hq
    have hto := textO_size_le e.op
    have u1 : acc.size + (#[32] : Array UInt8).size ≤ 9223372036854775807 := by have : (#[32] : Array UInt8).size = 1 := rfl; omega
    have u2 : acc.size + (#[32] : Array UInt8).size + (textO e.op).size ≤ 9223372036854775807 := by have : (#[32] : Array UInt8).size = 1 := rfl; omega
    by_cases k11 : e.kind = 11
    · rw [decide_eq_true k11, Bool.true_or, if_pos rfl, ← ByteArray.append_assoc] at hq
      subst hq
      simp only [show (e.kind == 11) = true from beq_iff_eq.2 k11, u1, if_true, go_sem, ↓reduceIte, zA, zB, zC, zD, zE, zF, reduceCtorEq, zG, zH, zI, zJ, zK, zL, zM, zN, zO, zP]
      refine W_calld (text8_tri e.op) rfl rfl rfl rfl ?_; simp only [go_sem, ↓reduceIte, zA, zB, zC, zD, zE, zF, reduceCtorEq, zG, zH, zI, zJ, zK, zL, zM, zN, zO, zP]
      simp only [u2, sepB, if_true, go_sem, ↓reduceIte, zA, zB, zC, zD, zE, zF, reduceCtorEq, zG, zH, zI, zJ, zK, zL, zM, zN, zO, zP]
    · by_cases k13 : e.kind = 13
      · rw [decide_eq_true k13, Bool.or_true, if_pos rfl, ← ByteArray.append_assoc] at hq
        subst hq
        simp only [show (e.kind == 11) = false from beq_eq_false_iff_ne.2 k11, show (e.kind == 13) = true from beq_iff_eq.2 k13, u1, if_true, go_sem, ↓reduceIte, zA, zB, zC, zD, zE, zF, reduceCtorEq, zG, zH, zI, zJ, zK, zL, zM, zN, zO, zP]
        refine W_calld (text8_tri e.op) rfl rfl rfl rfl ?_; simp only [go_sem, ↓reduceIte, zA, zB, zC, zD, zE, zF, reduceCtorEq, zG, zH, zI, zJ, zK, zL, zM, zN, zO, zP]
        simp only [u2, sepB, if_true, go_sem, ↓reduceIte, zA, zB, zC, zD, zE, zF, reduceCtorEq, zG, zH, zI, zJ, zK, zL, zM, zN, zO, zP]
      · rw [decide_eq_false k11, decide_eq_false k13, Bool.or_false, if_neg (by decide)] at hq
        subst hq
        simp only [show (e.kind == 11) = false from beq_eq_false_iff_ne.2 k11, show (e.kind == 13) = false from beq_eq_false_iff_ne.2 k13, go_sem, ↓reduceIte, zA, zB, zC, zD, zE, zF, reduceCtorEq, zG, zH, zI, zJ, zK, zL, zM, zN, zO, zP]
  have m2 : manyE e.kind = 2 := by omega
  have hT : textL (wordE e.kind) (numsE e) = wordE e.kind ++ ⟨#[32]⟩ ++ itoaB e.a ++ ⟨#[32]⟩ ++ itoaB e.b := by unfold numsE; rw [m2]; simp only [List.take_succ_cons, List.take_zero, textL, sepB, ByteArray.append_assoc]
  simp only [m2, s1, if_true, decide_eq_true (show (((2 : Nat) : Int)) > 0 by decide), go_sem, ↓reduceIte, zA, zB, zC, zD, zE, zF, reduceCtorEq, zG, zH, zI, zJ, zK, zL, zM, zN, zO, zP]
  refine W_calld (digits23_tri e.a ha.1 ha.2) rfl rfl rfl rfl ?_; simp only [go_sem, ↓reduceIte, zA, zB, zC, zD, zE, zF, reduceCtorEq, zG, zH, zI, zJ, zK, zL, zM, zN, zO, zP]
  simp only [s2, if_true, go_sem, ↓reduceIte, zA, zB, zC, zD, zE, zF, reduceCtorEq, zG, zH, zI, zJ, zK, zL, zM, zN, zO, zP]
  refine W_calld (many23_tri e.kind hk0) rfl rfl rfl rfl ?_; simp only [go_sem, ↓reduceIte, zA, zB, zC, zD, zE, zF, reduceCtorEq, zG, zH, zI, zJ, zK, zL, zM, zN, zO, zP]
  simp only [m2, s3, if_true, decide_eq_true (show (((2 : Nat) : Int)) > 1 by decide), go_sem, ↓reduceIte, zA, zB, zC, zD, zE, zF, reduceCtorEq, zG, zH, zI, zJ, zK, zL, zM, zN, zO, zP]
  refine W_calld (digits23_tri e.b hb.1 hb.2) rfl rfl rfl rfl ?_; simp only [go_sem, ↓reduceIte, zA, zB, zC, zD, zE, zF, reduceCtorEq, zG, zH, zI, zJ, zK, zL, zM, zN, zO, zP]
  simp only [s4, if_true, go_sem, ↓reduceIte, zA, zB, zC, zD, zE, zF, reduceCtorEq, zG, zH, zI, zJ, zK, zL, zM, zN, zO, zP]
  have hsz : (wordE e.kind ++ (⟨#[32]⟩ : ByteArray) ++ itoaB e.a ++ (⟨#[32]⟩ : ByteArray) ++ itoaB e.b).size ≤ 40 := by rw [ByteArray.size_append, ByteArray.size_append, ByteArray.size_append, ByteArray.size_append]; omega
  unfold wordsB at hq
  rw [hT] at hq
  clear hT
  generalize wordE e.kind ++ (⟨#[32]⟩ : ByteArray) ++ itoaB e.a ++ (⟨#[32]⟩ : ByteArray) ++ itoaB e.b = acc at *
  rw [hasOp_eq] at hq
  have hto := textO_size_le e.op
  have u1 : acc.size + (#[32] : Array UInt8).size ≤ 9223372036854775807 := by have : (#[32] : Array UInt8).size = 1 := rfl; omega
  have u2 : acc.size + (#[32] : Array UInt8).size + (textO e.op).size ≤ 9223372036854775807 := by have : (#[32] : Array UInt8).size = 1 := rfl; omega
  by_cases k11 : e.kind = 11
  · rw [decide_eq_true k11, Bool.true_or, if_pos rfl, ← ByteArray.append_assoc] at hq
    subst hq
    simp only [show (e.kind == 11) = true from beq_iff_eq.2 k11, u1, if_true, go_sem, ↓reduceIte, zA, zB, zC, zD, zE, zF, reduceCtorEq, zG, zH, zI, zJ, zK, zL, zM, zN, zO, zP]
    refine W_calld (text8_tri e.op) rfl rfl rfl rfl ?_; simp only [go_sem, ↓reduceIte, zA, zB, zC, zD, zE, zF, reduceCtorEq, zG, zH, zI, zJ, zK, zL, zM, zN, zO, zP]
    simp only [u2, sepB, if_true, go_sem, ↓reduceIte, zA, zB, zC, zD, zE, zF, reduceCtorEq, zG, zH, zI, zJ, zK, zL, zM, zN, zO, zP]
  · by_cases k13 : e.kind = 13
    · rw [decide_eq_true k13, Bool.or_true, if_pos rfl, ← ByteArray.append_assoc] at hq
      subst hq
      simp only [show (e.kind == 11) = false from beq_eq_false_iff_ne.2 k11, show (e.kind == 13) = true from beq_iff_eq.2 k13, u1, if_true, go_sem, ↓reduceIte, zA, zB, zC, zD, zE, zF, reduceCtorEq, zG, zH, zI, zJ, zK, zL, zM, zN, zO, zP]
      refine W_calld (text8_tri e.op) rfl rfl rfl rfl ?_; simp only [go_sem, ↓reduceIte, zA, zB, zC, zD, zE, zF, reduceCtorEq, zG, zH, zI, zJ, zK, zL, zM, zN, zO, zP]
      simp only [u2, sepB, if_true, go_sem, ↓reduceIte, zA, zB, zC, zD, zE, zF, reduceCtorEq, zG, zH, zI, zJ, zK, zL, zM, zN, zO, zP]
    · rw [decide_eq_false k11, decide_eq_false k13, Bool.or_false, if_neg (by decide)] at hq
      subst hq
      simp only [show (e.kind == 11) = false from beq_eq_false_iff_ne.2 k11, show (e.kind == 13) = false from beq_eq_false_iff_ne.2 k13, go_sem, ↓reduceIte, zA, zB, zC, zD, zE, zF, reduceCtorEq, zG, zH, zI, zJ, zK, zL, zM, zN, zO, zP]
end Dv

namespace Dv
open Go Go.Proofs
open Nat renaming reduceEqDiff → zA, reduceAdd → zB, reduceSub → zC, reduceMul → zD, reduceLT → zE, reduceLeDiff → zF
open Int renaming reduceLE → zG, reduceLT → zH, reduceToNat → zI, reduceBEq → zJ, reduceBNe → zK, reduceEq → zL, reduceAdd → zM, reduceSub → zN, reduceMul → zO, reduceNeg → zP
attribute [local go_sem] argEnv W_nil W_seq W_skip W_ret W_exit W_scope W_block W_blk W_reg W_regD W_cond WC_t WC_f WC_any Wx_c Wx_ops Wx_lp Wx_blk W_ops_nil W_opsD_q W_guard W_guardD WG_tt WG_ff WG_tf WG_ft WG_u WGD_tt WGD_ff WGD_tf WGD_ft WGD_u WE_some WED_some W_more W_mv W_pick W_new W_box W_build W_bsl W_ld1 W_ldn W_st W_nck W_bin W_eqb W_not W_cvt W_fad W_fld1 W_fldn W_ixa W_ixr W_ix1 W_ixs W_len W_lens W_mkf W_ext W_app W_min W_isnp W_isns W_eqs W_neg W_ixn W_sli W_sls WD_more WD_mv WD_pick WD_new WD_box WD_build WD_bsl WD_ld1 WD_ldn WD_st WD_nck WD_bin WD_eqb WD_not WD_cvt WD_fad WD_fld1 WD_fldn WD_ixa WD_ixr WD_ix1 WD_ixs WD_len WD_lens WD_mkf WD_ext WD_app WD_min WD_isnp WD_isns WD_eqs WD_neg WD_ixn WD_sli WD_sls effF effM bytesOf Opd.ev getE putE binV LV.int LV.bool LV.undef Go.undef LV.cells LV.toD LV.toDs splice fillL rowsOf boxOf srcRows updL objL Eff.owned nwp St.get St.obj St.put Value.oneCell' Ends adopt Ad.ap isNil St.keep St.okKeep okObj idl idlL idlO RVs.of RV.of oneOr Ends0 EndsO_iff frzs rn rnL rnO piOf eqCells eqV boundV Option.map_some Option.map_none List.append_nil List.nil_append List.cons_append List.map_nil List.map_cons List.length_nil List.length_cons List.set_cons_zero List.set_cons_succ List.take_succ_cons List.take_zero List.take_nil List.drop_succ_cons List.drop_zero List.drop_nil List.getElem?_cons_zero List.getElem?_cons_succ List.getElem?_nil List.isEmpty_nil List.isEmpty_cons List.all_cons List.all_nil List.isEmpty_nil cond_true cond_false Bool.true_and Bool.false_and Bool.and_true Bool.and_false Bool.not_true Bool.not_false Bool.or_true Bool.true_or Bool.or_false Bool.false_or true_and and_true true_or or_true Option.some.injEq LV.d.injEq DV.val.injEq Value.bool.injEq Value.int.injEq decide_true decide_false and_self Nat.zero_add Nat.add_zero if_true if_false Int.toNat_zero beq_self_eq_true Nat.zero_lt_succ Int.toNat_natCast Int.natCast_nonneg List.length_map i64 bl List.zip_cons_cons List.zip_nil_left List.zip_nil_right nwp confV stateV nodeV jobV nodesV jobsV opV msgV nodeR jobR opR msgR zeroOp zeroMsg msgsV
variable {G : Nat → Option (List DV)}

/-- script.of -/
def ir22 : Nat × C × List RV := (66,
(.seq (.reg [⟨(some 5), .box 44 (.t 1), none, []⟩,
 ⟨(some 8), .new 25 [(.val (.int .i64 0)), (.val (.int .i64 0)), (.val (.int .i64 0)), (.val (.int .i64 0)), (.val (.int .i64 0)), (.val (.int .i64 0)), (.val (.int .i64 0)), (.val (.int .i64 0)), (.val (.int .i64 0)), (.val (.int .i64 0))], none, []⟩,
 ⟨(some 9), .mv (.c (.val (.bool false))), none, []⟩])
 (.seq (.reg [⟨(some 14), .mv (.t 0), none, []⟩,
 ⟨(some 15), .build [(.val (.int .i64 0)), (.val (.int .i64 0)), (.val (.int .i64 0)), (.val (.int .i64 0)), (.val (.int .i64 0)), (.val (.int .i64 0)), (.val (.int .i64 0)), (.val (.int .i64 0)), (.val (.int .i64 0)), (.val (.int .i64 0))] [(0, 1, (.t 14))], none, []⟩,
 ⟨(some 10), .new 25 [(.val (.int .i64 0)), (.val (.int .i64 0)), (.val (.int .i64 0)), (.val (.int .i64 0)), (.val (.int .i64 0)), (.val (.int .i64 0)), (.val (.int .i64 0)), (.val (.int .i64 0)), (.val (.int .i64 0)), (.val (.int .i64 0))], none, []⟩,
 ⟨none, .st 10 (.t 10) (.t 15), none, []⟩])
 (.seq (.seq (.reg [⟨(some 16), .fad 1 (.t 10), none, []⟩,
 ⟨(some 17), .fad 2 (.t 10), none, []⟩,
 ⟨(some 18), .bsl 71 1 [(.t 16), (.t 17)], none, []⟩,
 ⟨(some 19), .fad 1 (.t 5), none, []⟩,
 ⟨(some 20), .ld1 (.t 19), none, []⟩,
 ⟨(some 21), .sli 1 (.t 18) none (some (.t 20)) none, none, []⟩,
 ⟨(some 22), .len (.t 21), none, []⟩,
 ⟨(some 23), .mv (.c (.val (.int .i64 0))), none, []⟩])
 (.block 0 (.loop (.seq (.reg [⟨(some 24), .bin .lss (.t 23) (.t 22), none, []⟩])
 (.seq (.cond (.t 24) .skip
 (.exit 0))
 (.seq (.block 1 (.seq (.reg [⟨(some 25), .ixa 1 (.t 21) (.t 23), none, []⟩,
 ⟨(some 26), .ld1 (.t 25), none, []⟩,
 ⟨(some 12), .mv (.t 26), none, []⟩])
 (.seq (.seq (.reg [⟨(some 27), .mv (.t 3), none, []⟩,
 ⟨(some 28), .not (.t 27), none, []⟩])
 (.cond (.t 28) (.seq (.reg [⟨(some 29), .build [(.val (.int .i64 0)), (.val (.int .i64 0)), (.val (.int .i64 0)), (.val (.int .i64 0)), (.val (.int .i64 0)), (.val (.int .i64 0)), (.val (.int .i64 0)), (.val (.int .i64 0)), (.val (.int .i64 0)), (.val (.int .i64 0))] [], none, []⟩,
 ⟨none, .st 10 (.t 8) (.t 29), none, []⟩,
 ⟨(some 9), .mv (.c (.val (.bool false))), none, []⟩])
 .ret)
 .skip))
 (.seq (.reg [⟨(some 13), .mv (.c (.val (.string ⟨#[]⟩))), none, []⟩])
 (.seq (.reg [⟨(some 31), .mv (.t 2), none, []⟩,
 ⟨(some 32), .call (.f 20) [(.t 31), (.c (.val (.string ⟨#[32]⟩)))], none, []⟩,
 ⟨(some 30), .mv (.t 32), none, []⟩,
 ⟨(some 33), .ext (.t 30) 0, none, []⟩,
 ⟨(some 34), .ext (.t 30) 1, none, []⟩,
 ⟨(some 35), .ext (.t 30) 2, none, []⟩,
 ⟨(some 13), .mv (.t 33), none, []⟩,
 ⟨(some 2), .mv (.t 34), none, []⟩,
 ⟨(some 3), .mv (.t 35), none, []⟩])
 (.seq (.reg [⟨(some 36), .mv (.t 12), none, []⟩,
 ⟨(some 37), .mv (.t 13), none, []⟩,
 ⟨(some 38), .call (.f 39) [(.t 37)], none, []⟩,
 ⟨(some 39), .nck (.t 36), none, []⟩,
 ⟨none, .st 1 (.t 39) (.t 38), none, []⟩])
 (.seq (.reg [⟨(some 40), .mv (.t 12), none, []⟩,
 ⟨(some 41), .nck (.t 40), none, []⟩,
 ⟨(some 42), .ld1 (.t 41), none, []⟩,
 ⟨(some 43), .bin .lss (.t 42) (.c (.val (.int .i64 0))), none, []⟩])
 (.cond (.t 43) (.seq (.reg [⟨(some 44), .build [(.val (.int .i64 0)), (.val (.int .i64 0)), (.val (.int .i64 0)), (.val (.int .i64 0)), (.val (.int .i64 0)), (.val (.int .i64 0)), (.val (.int .i64 0)), (.val (.int .i64 0)), (.val (.int .i64 0)), (.val (.int .i64 0))] [], none, []⟩,
 ⟨none, .st 10 (.t 8) (.t 44), none, []⟩,
 ⟨(some 9), .mv (.c (.val (.bool false))), none, []⟩])
 .ret)
 .skip))))))))
 (.reg [⟨(some 45), .bin .add (.t 23) (.c (.val (.int .i64 1))), none, []⟩,
 ⟨(some 23), .mv (.t 45), none, []⟩])))))))
 (.seq (.seq (.reg [⟨(some 46), .fad 2 (.t 5), none, []⟩,
 ⟨(some 47), .ld1 (.t 46), none, []⟩,
 ⟨(some 48), .mv (.t 47), none, []⟩,
 ⟨(some 49), .mv (.t 3), (some (48, true)), []⟩,
 ⟨(some 50), .pick (.t 48) (.t 49) (.c (.val (.bool false))), none, []⟩])
 (.cond (.t 50) (.seq (.reg [⟨(some 52), .mv (.t 2), none, []⟩,
 ⟨(some 53), .call (.f 40) [(.t 52)], none, []⟩,
 ⟨(some 51), .mv (.t 53), none, []⟩,
 ⟨(some 54), .ext (.t 51) 0, none, []⟩,
 ⟨(some 55), .ext (.t 51) 1, none, []⟩,
 ⟨(some 56), .fad 3 (.t 10), none, []⟩,
 ⟨none, .st 7 (.t 56) (.t 54), none, []⟩,
 ⟨(some 3), .mv (.t 55), none, []⟩])
 (.reg [⟨(some 57), .mv (.t 3), none, []⟩,
 ⟨(some 58), .not (.t 57), none, []⟩,
 ⟨(some 3), .mv (.t 58), none, []⟩]))
 .skip))
 (.seq (.regD [⟨(some 59), .ldn 10 (.t 10), none, []⟩,
 ⟨(some 60), .mv (.t 3), none, []⟩,
 ⟨(some 61), .not (.t 60), none, [1]⟩,
 ⟨(some 62), .mv (.t 61), none, [2, 1]⟩,
 ⟨(some 63), .ldn 10 (.t 10), (some (62, true)), [3, 2, 1]⟩,
 ⟨(some 64), .call (.f 10) [(.t 63)], (some (62, true)), [4, 3, 2, 1]⟩,
 ⟨(some 65), .pick (.t 62) (.t 64) (.c (.val (.bool false))), none, [3, 2, 1, 5, 4]⟩,
 ⟨none, .st 10 (.t 8) (.t 59), none, [0, 5, 4, 3, 2, 1]⟩,
 ⟨(some 9), .mv (.t 65), none, [6, 3, 2, 1, 5, 4, 7, 0]⟩])
 .ret))))),
[(.cn 8 10), (.t 9)])
theorem irOk22 : convFn Tryd.prog Tryd.f22 = some ir22 := by kernel_rfl
/-- script.Entry -/
def ir8 : Nat × C × List RV := (42,
(.seq (.reg [⟨(some 2), .new 25 [(.val (.int .i64 0)), (.val (.int .i64 0)), (.val (.int .i64 0)), (.val (.int .i64 0)), (.val (.int .i64 0)), (.val (.int .i64 0)), (.val (.int .i64 0)), (.val (.int .i64 0)), (.val (.int .i64 0)), (.val (.int .i64 0))], none, []⟩,
 ⟨(some 3), .mv (.c (.val (.bool false))), none, []⟩])
 (.seq (.reg [⟨(some 12), .mv (.t 0), none, []⟩,
 ⟨(some 13), .call (.f 20) [(.t 12), (.c (.val (.string ⟨#[32]⟩)))], none, []⟩,
 ⟨(some 11), .mv (.t 13), none, []⟩,
 ⟨(some 14), .ext (.t 11) 0, none, []⟩,
 ⟨(some 15), .ext (.t 11) 1, none, []⟩,
 ⟨(some 16), .ext (.t 11) 2, none, []⟩,
 ⟨(some 4), .mv (.t 14), none, []⟩,
 ⟨(some 5), .mv (.t 15), none, []⟩,
 ⟨(some 6), .mv (.t 16), none, []⟩])
 (.seq (.seq (.reg [⟨(some 17), .call (.f 21) [], none, []⟩,
 ⟨(some 18), .mv (.c (.val (.int .i64 0))), none, []⟩])
 (.block 0 (.loop (.seq (.reg [⟨(some 19), .bin .lss (.t 18) (.c (.val (.int .i64 15))), none, []⟩])
 (.seq (.cond (.t 19) .skip
 (.exit 0))
 (.seq (.block 1 (.seq (.reg [⟨(some 20), .mv (.t 18), none, []⟩,
 ⟨(some 21), .ixn 15 3 (.t 17) (.t 18), none, []⟩,
 ⟨(some 8), .new 44 [(.val (.string ⟨#[]⟩)), (.val (.int .i64 0)), (.val (.bool false))], none, []⟩,
 ⟨(some 7), .mv (.t 20), none, []⟩,
 ⟨none, .st 3 (.t 8) (.t 21), none, []⟩])
 (.seq (.seq (.reg [⟨(some 22), .fad 0 (.t 8), none, []⟩,
 ⟨(some 23), .ld1 (.t 22), none, []⟩,
 ⟨(some 24), .mv (.t 4), none, []⟩,
 ⟨(some 25), .bin .neq (.t 23) (.t 24), none, []⟩,
 ⟨(some 26), .mv (.t 25), none, []⟩,
 ⟨(some 27), .mv (.t 4), (some (26, false)), []⟩,
 ⟨(some 28), .bin .eql (.t 27) (.c (.val (.string ⟨#[]⟩))), (some (26, false)), []⟩,
 ⟨(some 29), .pick (.t 26) (.c (.val (.bool true))) (.t 28), none, []⟩])
 (.cond (.t 29) (.exit 1)
 .skip))
 (.seq (.reg [⟨(some 31), .mv (.t 7), none, []⟩,
 ⟨(some 32), .ldn 3 (.t 8), none, []⟩,
 ⟨(some 33), .mv (.t 5), none, []⟩,
 ⟨(some 34), .mv (.t 6), none, []⟩,
 ⟨(some 35), .call (.f 22) [(.t 31), (.t 32), (.t 33), (.t 34)], none, []⟩,
 ⟨(some 30), .mv (.t 35), none, []⟩,
 ⟨(some 36), .ext (.t 30) 0, none, []⟩,
 ⟨(some 37), .ext (.t 30) 1, none, []⟩,
 ⟨(some 9), .new 25 [(.val (.int .i64 0)), (.val (.int .i64 0)), (.val (.int .i64 0)), (.val (.int .i64 0)), (.val (.int .i64 0)), (.val (.int .i64 0)), (.val (.int .i64 0)), (.val (.int .i64 0)), (.val (.int .i64 0)), (.val (.int .i64 0))], none, []⟩,
 ⟨none, .st 10 (.t 9) (.t 36), none, []⟩,
 ⟨(some 10), .mv (.t 37), none, []⟩])
 (.seq (.reg [⟨(some 38), .mv (.t 10), none, []⟩])
 (.cond (.t 38) (.seq (.reg [⟨(some 39), .ldn 10 (.t 9), none, []⟩,
 ⟨none, .st 10 (.t 2) (.t 39), none, []⟩,
 ⟨(some 3), .mv (.c (.val (.bool true))), none, []⟩])
 .ret)
 .skip))))))
 (.reg [⟨(some 40), .bin .add (.t 18) (.c (.val (.int .i64 1))), none, []⟩,
 ⟨(some 18), .mv (.t 40), none, []⟩])))))))
 (.seq (.reg [⟨(some 41), .build [(.val (.int .i64 0)), (.val (.int .i64 0)), (.val (.int .i64 0)), (.val (.int .i64 0)), (.val (.int .i64 0)), (.val (.int .i64 0)), (.val (.int .i64 0)), (.val (.int .i64 0)), (.val (.int .i64 0)), (.val (.int .i64 0))] [], none, []⟩,
 ⟨none, .st 10 (.t 2) (.t 41), none, []⟩,
 ⟨(some 3), .mv (.c (.val (.bool false))), none, []⟩])
 .ret)))),
[(.cn 2 10), (.t 3)])
theorem irOk8 : convFn Tryd.prog Tryd.f8 = some ir8 := by kernel_rfl

attribute [local go_sem] optOp

def cutS (s : ByteArray) (c : UInt8) : ByteArray × ByteArray × Bool := (⟨(Lib.cut s.data.toList [c]).1.toArray⟩, ⟨(Lib.cut s.data.toList [c]).2.1.toArray⟩, (Lib.cut s.data.toList [c]).2.2)
theorem cut_tri (h : OG G) (s : ByteArray) (c : UInt8) (hs : s.size ≤ 1000000) : Tri Tryd.prog G 20 [.d (.val (.string s)), .d (.val (.string ⟨#[c]⟩))] [] (.tup [.d (.val (.string (cutS s c).1)), .d (.val (.string (cutS s c).2.1)), .bool (cutS s c).2.2]) [] := by
  obtain ⟨m, hG⟩ := h.m
  refine ⟨by decide, fun J ι w vs S hR => ?_⟩
  obtain ⟨vl⟩ := vs
  match vl, hR with
  | [v, u], ⟨hv, hu, _⟩ =>
  have hv : v = .string s := hv
  have hu : u = .string ⟨#[c]⟩ := hu
  subst hv hu
  have hm : w.cell? ⟨2, 0, none⟩ = some (.int .i64 m) := by
    obtain ⟨_, hr, _⟩ := S.glob _ _ hG
    obtain ⟨v, h1, _, h3⟩ := hr.get (i := 0) rfl
    have h3 : v = .int .i64 m := h3
    rw [h3] at h1; exact h1
  refine (Tryd.strings_Cut s ⟨#[c]⟩ m w (by omega) hm).mono fun e w' h => ?_
  obtain ⟨rfl, k, rfl⟩ := h
  exact ⟨_, rfl, After.ofBelow S ⟨rfl, rfl, rfl, Nat.le_refl _, fun b _ => rfl⟩ (fun _ _ _ => ⟨_, rfl, rfl, rfl, rfl, trivial⟩)⟩
theorem arr_size (l : List UInt8) : (⟨l.toArray⟩ : ByteArray).size = l.length := by show l.toArray.size = _; rw [List.size_toArray]
theorem cutS_size (s : ByteArray) (c : UInt8) : (cutS s c).1.size ≤ s.size ∧ (cutS s c).2.1.size ≤ s.size := by
  have hb := bs_len s
  refine ⟨?_, ?_⟩
  · show (⟨(Lib.cut s.data.toList [c]).1.toArray⟩ : ByteArray).size ≤ _
    rw [arr_size, ← hb]
    unfold Lib.cut
    split
    · dsimp only; rw [List.length_take]; omega
    · dsimp only; omega
  · show (⟨(Lib.cut s.data.toList [c]).2.1.toArray⟩ : ByteArray).size ≤ _
    rw [arr_size, ← hb]
    unfold Lib.cut
    split
    · dsimp only; rw [List.length_drop]; omega
    · exact Nat.zero_le _
def ofNums : Nat → ByteArray → Bool → List Int → Option (List Int × ByteArray × Bool)
  | 0, rest, more, l => some (l, rest, more)
  | n + 1, rest, more, l => if more = false then none else if numW (cutS rest 32).1 < 0 then none else ofNums n (cutS rest 32).2.1 (cutS rest 32).2.2 (l ++ [numW (cutS rest 32).1])
def ofOp (k : Int) (r : ByteArray) (m : Bool) : OpD × Bool := if hasOp k = true ∧ m = true then ((parseO r).getD zeroOp, !(parseO r).isSome) else (zeroOp, m)
def ofE (k : Int) (rest : ByteArray) (more : Bool) : EntD × Bool := match ofNums (manyE k) rest more [] with
  | none => (zeroEnt, false)
  | some (l, r, m) => (⟨k, l.getD 0 0, l.getD 1 0, (ofOp k r m).1⟩, !(ofOp k r m).2 && entOkB ⟨k, l.getD 0 0, l.getD 1 0, (ofOp k r m).1⟩)
def entRes (p : EntD × Bool) : LV := .tup [entV p.1, .bool p.2]
def ofeBox (k : Int) (l : List Int) : LObj := .box 25 [.int k, .int (l.getD 0 0), .int (l.getD 1 0), .int 0, .int 0, .int 0, .int 0, .int 0, .int 0, .int 0]
def ofeS (k : Int) (p : List Int × ByteArray × Bool) : St := ⟨[(2, .d (.val (.string p.2.1))), (3, .bool p.2.2), (5, .ptr 0 0), (8, .ptr 1 0), (9, .bool false), (10, .ptr 2 0), (21, .sl 3 0 1 0 (manyE k)), (22, .int (manyE k)), (23, .int p.1.length)],
  [some (kindBox k), some (.box 25 [.int 0, .int 0, .int 0, .int 0, .int 0, .int 0, .int 0, .int 0, .int 0, .int 0]), some (ofeBox k p.1), some (.box 71 [.ptr 2 1, .ptr 2 2])]⟩
theorem numW_rng (s : ByteArray) : -1 ≤ numW s := by
  by_cases h : 0 ≤ numW s
  · omega
  · have : ∀ (l : List UInt8) (n : Int), 0 ≤ n → -1 ≤ numGo l n := by
      intro l
      induction l with
      | nil => intro n hn; unfold numGo; omega
      | cons b l ih =>
        intro n hn
        unfold numGo
        split
        · omega
        · rename_i hb
          exact ih _ (by omega)
    unfold numW
    split
    · omega
    · exact this _ _ (by decide)
set_option maxHeartbeats 4000000 in
theorem of_triE (h : OG G) (k : Int) (hk : 0 ≤ k ∧ k ≤ 14) (rest : ByteArray) (more : Bool) (hs : rest.size ≤ 1000000) : Tri Tryd.prog G 22 [.int k, .agg [.d (.val (.string (wordE k))), .int ((manyE k : Nat) : Int), .bool (hasOp k)], .d (.val (.string rest)), .bool more] [] (entRes (ofE k rest more)) [] := by
  have hm := manyE_le k
  refine tri_W Tryd.func22 (by decide) irOk22 (Nat.le_of_ble_eq_true rfl) ?_
  simp only [ir22, go_sem, ↓reduceIte, zA, zB, zC, zD, zE, zF, reduceCtorEq, zG, zH, zI, zJ, zK, zL, zM, zN, zO, zP]
  generalize hq : ofE k rest more = q
  unfold ofE at hq
  generalize hR : ofNums (manyE k) rest more [] = R at hq
  have hc : 0 ≤ manyE k ∧ manyE k ≤ 2 ∧ 2 ≤ 2 := by omega
  simp only [hc, and_self, Nat.sub_zero, go_sem, ↓reduceIte, zA, zB, zC, zD, zE, zF, reduceCtorEq, zG, zH, zI, zJ, zK, zL, zM, zN, zO, zP]
  refine W_loopI [2, 3, 5, 8, 9, 10, 21, 22, 23] [] (fun p : List Int × ByteArray × Bool => p.1.length ≤ manyE k ∧ p.2.1.size ≤ 1000000 ∧ ofNums (manyE k - p.1.length) p.2.1 p.2.2 p.1 = R) (fun p => manyE k - p.1.length) (ofeS k) ([], rest, more) ?_ ⟨Nat.zero_le _, hs, hR⟩ ?_
  · simp only [ofeS, ofeBox, kindBox, List.length_nil, List.getD_nil, Int.natCast_zero, go_sem, ↓reduceIte, zA, zB, zC, zD, zE, zF, reduceCtorEq, zG, zH, zI, zJ, zK, zL, zM, zN, zO, zP]
  rintro ⟨l, r, m⟩ ⟨hl, hrs, hF⟩
  dsimp only at hl hrs hF
  simp only [ofeS, ofeBox, kindBox, go_sem, ↓reduceIte, zA, zB, zC, zD, zE, zF, reduceCtorEq, zG, zH, zI, zJ, zK, zL, zM, zN, zO, zP]
  by_cases hlt : l.length < manyE k
  case neg =>
    rw [show manyE k - l.length = 0 by omega, ofNums] at hF
    subst hF
    dsimp only at hq
    simp only [decide_eq_false (show ¬ ((l.length : Nat) : Int) < ((manyE k : Nat) : Int) by omega), go_sem, ↓reduceIte, zA, zB, zC, zD, zE, zF, reduceCtorEq, zG, zH, zI, zJ, zK, zL, zM, zN, zO, zP]
    generalize l.getD 0 0 = a0 at *
    generalize l.getD 1 0 = b0 at *
    unfold ofOp at hq
    cases hh : hasOp k with
    | true =>
      cases m with
      | true =>
        rw [if_pos ⟨hh, rfl⟩] at hq
        dsimp only at hq
        simp only [go_sem, ↓reduceIte, zA, zB, zC, zD, zE, zF, reduceCtorEq, zG, zH, zI, zJ, zK, zL, zM, zN, zO, zP]
        refine W_calld (h.parse r hrs) rfl rfl rfl rfl ?_; simp only [go_sem, ↓reduceIte, zA, zB, zC, zD, zE, zF, reduceCtorEq, zG, zH, zI, zJ, zK, zL, zM, zN, zO, zP]
        cases hp : parseO r with
        | none =>
          rw [hp] at hq
          simp only [Option.isSome_none, Option.getD_none, Bool.not_false, Bool.not_true, Bool.false_and] at hq
          subst hq
          simp only [Option.isSome_none, Option.getD_none, zeroOp, go_sem, ↓reduceIte, zA, zB, zC, zD, zE, zF, reduceCtorEq, zG, zH, zI, zJ, zK, zL, zM, zN, zO, zP]
          refine W_opsD_end (by decide) ?_
          simp only [go_sem, ↓reduceIte, zA, zB, zC, zD, zE, zF, reduceCtorEq, zG, zH, zI, zJ, zK, zL, zM, zN, zO, zP]
          exact BackS (objs' := []) ⟨rfl, rfl⟩ rfl rfl rfl
        | some o =>
          rw [hp] at hq
          simp only [Option.isSome_some, Option.getD_some, Bool.not_false, Bool.not_true, Bool.true_and] at hq
          subst hq
          simp only [Option.isSome_some, Option.getD_some, go_sem, ↓reduceIte, zA, zB, zC, zD, zE, zF, reduceCtorEq, zG, zH, zI, zJ, zK, zL, zM, zN, zO, zP]
          refine WD_calld (entRight_tri h.b ⟨k, a0, b0, o⟩) rfl rfl rfl rfl ?_; simp only [go_sem, ↓reduceIte, zA, zB, zC, zD, zE, zF, reduceCtorEq, zG, zH, zI, zJ, zK, zL, zM, zN, zO, zP]
          refine W_opsD_end (by decide) ?_
          simp only [go_sem, ↓reduceIte, zA, zB, zC, zD, zE, zF, reduceCtorEq, zG, zH, zI, zJ, zK, zL, zM, zN, zO, zP]
          exact BackS (objs' := []) ⟨rfl, rfl⟩ rfl rfl rfl
      | false =>
        rw [if_neg (fun h => by cases h.2)] at hq
        simp only [Bool.not_false, Bool.true_and] at hq
        subst hq
        simp only [zeroOp, go_sem, ↓reduceIte, zA, zB, zC, zD, zE, zF, reduceCtorEq, zG, zH, zI, zJ, zK, zL, zM, zN, zO, zP]
        refine WD_calld (entRight_tri h.b ⟨k, a0, b0, zeroOp⟩) rfl rfl rfl rfl ?_; simp only [go_sem, ↓reduceIte, zA, zB, zC, zD, zE, zF, reduceCtorEq, zG, zH, zI, zJ, zK, zL, zM, zN, zO, zP]
        refine W_opsD_end (by decide) ?_
        simp only [go_sem, ↓reduceIte, zA, zB, zC, zD, zE, zF, reduceCtorEq, zG, zH, zI, zJ, zK, zL, zM, zN, zO, zP]
        exact BackS (objs' := []) ⟨rfl, rfl⟩ rfl rfl rfl
    | false =>
      rw [if_neg (fun h => by rw [hh] at h; cases h.1)] at hq
      dsimp only at hq
      cases m with
      | true =>
        simp only [Bool.not_true, Bool.false_and] at hq
        subst hq
        simp only [zeroOp, go_sem, ↓reduceIte, zA, zB, zC, zD, zE, zF, reduceCtorEq, zG, zH, zI, zJ, zK, zL, zM, zN, zO, zP]
        refine W_opsD_end (by decide) ?_
        simp only [go_sem, ↓reduceIte, zA, zB, zC, zD, zE, zF, reduceCtorEq, zG, zH, zI, zJ, zK, zL, zM, zN, zO, zP]
        exact BackS (objs' := []) ⟨rfl, rfl⟩ rfl rfl rfl
      | false =>
        simp only [Bool.not_false, Bool.true_and] at hq
        subst hq
        simp only [zeroOp, go_sem, ↓reduceIte, zA, zB, zC, zD, zE, zF, reduceCtorEq, zG, zH, zI, zJ, zK, zL, zM, zN, zO, zP]
        refine WD_calld (entRight_tri h.b ⟨k, a0, b0, zeroOp⟩) rfl rfl rfl rfl ?_; simp only [go_sem, ↓reduceIte, zA, zB, zC, zD, zE, zF, reduceCtorEq, zG, zH, zI, zJ, zK, zL, zM, zN, zO, zP]
        refine W_opsD_end (by decide) ?_
        simp only [go_sem, ↓reduceIte, zA, zB, zC, zD, zE, zF, reduceCtorEq, zG, zH, zI, zJ, zK, zL, zM, zN, zO, zP]
        exact BackS (objs' := []) ⟨rfl, rfl⟩ rfl rfl rfl
  rw [show manyE k - l.length = (manyE k - (l.length + 1)) + 1 by omega, ofNums] at hF
  simp only [decide_eq_true (show ((l.length : Nat) : Int) < ((manyE k : Nat) : Int) by omega), go_sem, ↓reduceIte, zA, zB, zC, zD, zE, zF, reduceCtorEq, zG, zH, zI, zJ, zK, zL, zM, zN, zO, zP]
  match l, hl, hlt, hF with
  | _ :: _ :: _, hl, hlt, _ => exact absurd hlt (by simp only [List.length_cons]; omega)
  | [], hl, hlt, hF =>
    simp only [List.length_nil] at hlt
    simp only [hlt, List.length_nil, go_sem, ↓reduceIte, zA, zB, zC, zD, zE, zF, reduceCtorEq, zG, zH, zI, zJ, zK, zL, zM, zN, zO, zP]
    cases m with
    | false =>
      rw [if_pos rfl] at hF
      rw [← hF] at hq
      subst hq
      simp only [zeroEnt, zeroOp, go_sem, ↓reduceIte, zA, zB, zC, zD, zE, zF, reduceCtorEq, zG, zH, zI, zJ, zK, zL, zM, zN, zO, zP]
      exact BackS (objs' := []) ⟨rfl, rfl⟩ rfl rfl rfl
    | true =>
    rw [if_neg (by decide)] at hF
    obtain ⟨z1, z2⟩ := cutS_size r 32
    simp only [go_sem, ↓reduceIte, zA, zB, zC, zD, zE, zF, reduceCtorEq, zG, zH, zI, zJ, zK, zL, zM, zN, zO, zP]
    refine W_calld (cut_tri h r 32 hrs) rfl rfl rfl rfl ?_; simp only [go_sem, ↓reduceIte, zA, zB, zC, zD, zE, zF, reduceCtorEq, zG, zH, zI, zJ, zK, zL, zM, zN, zO, zP]
    refine W_calld (number23_tri (cutS r 32).1) rfl rfl rfl rfl ?_; simp only [go_sem, ↓reduceIte, zA, zB, zC, zD, zE, zF, reduceCtorEq, zG, zH, zI, zJ, zK, zL, zM, zN, zO, zP]
    have hnr := numW_rng (cutS r 32).1
    generalize numW (cutS r 32).1 = n at *
    by_cases hn : n < 0
    case pos =>
      rw [if_pos hn] at hF
      rw [← hF] at hq
      subst hq
      simp only [decide_eq_true hn, zeroEnt, zeroOp, go_sem, ↓reduceIte, zA, zB, zC, zD, zE, zF, reduceCtorEq, zG, zH, zI, zJ, zK, zL, zM, zN, zO, zP]
      exact BackS (objs' := []) ⟨rfl, rfl⟩ rfl rfl rfl
    rw [if_neg hn] at hF
    simp only [decide_eq_false hn, go_sem, ↓reduceIte, zA, zB, zC, zD, zE, zF, reduceCtorEq, zG, zH, zI, zJ, zK, zL, zM, zN, zO, zP]
    refine W_lpI ([n], (cutS r 32).2.1, (cutS r 32).2.2) ?_ ?_ ⟨by dsimp only; simp only [List.length_cons, List.length_nil] at *; omega, by dsimp only; omega, hF⟩ (by dsimp only; simp only [List.length_cons, List.length_nil] at *; omega)
    · simp only [go_sem, ↓reduceIte, zA, zB, zC, zD, zE, zF, reduceCtorEq, zG, zH, zI, zJ, zK, zL, zM, zN, zO, zP]
    · simp only [ofeS, ofeBox, kindBox, List.getD_cons_zero, List.getD_cons_succ, List.getD_nil, List.length_cons, List.length_nil, go_sem, ↓reduceIte, zA, zB, zC, zD, zE, zF, reduceCtorEq, zG, zH, zI, zJ, zK, zL, zM, zN, zO, zP]
      rfl
  | [x], hl, hlt, hF =>
    simp only [List.length_cons, List.length_nil] at hlt
    simp only [hlt, List.length_cons, List.length_nil, go_sem, ↓reduceIte, zA, zB, zC, zD, zE, zF, reduceCtorEq, zG, zH, zI, zJ, zK, zL, zM, zN, zO, zP]
    cases m with
    | false =>
      rw [if_pos rfl] at hF
      rw [← hF] at hq
      subst hq
      simp only [zeroEnt, zeroOp, go_sem, ↓reduceIte, zA, zB, zC, zD, zE, zF, reduceCtorEq, zG, zH, zI, zJ, zK, zL, zM, zN, zO, zP]
      exact BackS (objs' := []) ⟨rfl, rfl⟩ rfl rfl rfl
    | true =>
    rw [if_neg (by decide)] at hF
    obtain ⟨z1, z2⟩ := cutS_size r 32
    simp only [go_sem, ↓reduceIte, zA, zB, zC, zD, zE, zF, reduceCtorEq, zG, zH, zI, zJ, zK, zL, zM, zN, zO, zP]
    refine W_calld (cut_tri h r 32 hrs) rfl rfl rfl rfl ?_; simp only [go_sem, ↓reduceIte, zA, zB, zC, zD, zE, zF, reduceCtorEq, zG, zH, zI, zJ, zK, zL, zM, zN, zO, zP]
    refine W_calld (number23_tri (cutS r 32).1) rfl rfl rfl rfl ?_; simp only [go_sem, ↓reduceIte, zA, zB, zC, zD, zE, zF, reduceCtorEq, zG, zH, zI, zJ, zK, zL, zM, zN, zO, zP]
    have hnr := numW_rng (cutS r 32).1
    generalize numW (cutS r 32).1 = n at *
    by_cases hn : n < 0
    case pos =>
      rw [if_pos hn] at hF
      rw [← hF] at hq
      subst hq
      simp only [decide_eq_true hn, zeroEnt, zeroOp, go_sem, ↓reduceIte, zA, zB, zC, zD, zE, zF, reduceCtorEq, zG, zH, zI, zJ, zK, zL, zM, zN, zO, zP]
      exact BackS (objs' := []) ⟨rfl, rfl⟩ rfl rfl rfl
    rw [if_neg hn] at hF
    simp only [decide_eq_false hn, go_sem, ↓reduceIte, zA, zB, zC, zD, zE, zF, reduceCtorEq, zG, zH, zI, zJ, zK, zL, zM, zN, zO, zP]
    refine W_lpI ([x, n], (cutS r 32).2.1, (cutS r 32).2.2) ?_ ?_ ⟨by dsimp only; simp only [List.length_cons, List.length_nil] at *; omega, by dsimp only; omega, hF⟩ (by dsimp only; simp only [List.length_cons, List.length_nil] at *; omega)
    · simp only [go_sem, ↓reduceIte, zA, zB, zC, zD, zE, zF, reduceCtorEq, zG, zH, zI, zJ, zK, zL, zM, zN, zO, zP]
    · simp only [ofeS, ofeBox, kindBox, List.getD_cons_zero, List.getD_cons_succ, List.getD_nil, List.length_cons, List.length_nil, go_sem, ↓reduceIte, zA, zB, zC, zD, zE, zF, reduceCtorEq, zG, zH, zI, zJ, zK, zL, zM, zN, zO, zP]
      rfl

/-! an entry -/
def entTry (c : ByteArray × ByteArray × Bool) (k : Nat) : Option EntD := if wordE k ≠ c.1 ∨ c.1 = ⟨#[]⟩ then none else if (ofE k c.2.1 c.2.2).2 = true then some (ofE k c.2.1 c.2.2).1 else none
def entF (c : ByteArray × ByteArray × Bool) : Nat → Nat → Option EntD
  | 0, _ => none
  | f + 1, k => match entTry c k with
    | some e => some e
    | none => entF c f (k + 1)
def entryE (s : ByteArray) : Option EntD := entF (cutS s 32) 15 0
def optEnt (q : Option EntD) : LV := .tup [entV (q.getD zeroEnt), .bool q.isSome]
def entS (c : ByteArray × ByteArray × Bool) (k : Nat) : St := ⟨[(2, .ptr 0 0), (3, .bool false), (4, .d (.val (.string c.1))), (5, .d (.val (.string c.2.1))), (6, .bool c.2.2), (17, .agg kindsC), (18, .int k)],
  [some (.box 25 [.int 0, .int 0, .int 0, .int 0, .int 0, .int 0, .int 0, .int 0, .int 0, .int 0])]⟩
theorem idl_kinds (n : Nat) : idlL n kindsC = true := rfl
attribute [local go_sem] optEnt entRes
set_option maxHeartbeats 4000000 in
theorem entry_tri (h : OG G) (s : ByteArray) (hs : s.size ≤ 1000000) : Tri Tryd.prog G 8 [.d (.val (.string s))] [] (optEnt (entryE s)) [] := by
  refine tri_W Tryd.func8 (by decide) irOk8 (Nat.le_of_ble_eq_true rfl) ?_
  simp only [ir8, go_sem, ↓reduceIte, zA, zB, zC, zD, zE, zF, reduceCtorEq, zG, zH, zI, zJ, zK, zL, zM, zN, zO, zP]
  generalize hq : entryE s = q
  unfold entryE at hq
  obtain ⟨hz1, hz2⟩ := cutS_size s 32
  refine W_calld (cut_tri h s 32 hs) rfl rfl rfl rfl ?_; simp only [go_sem, ↓reduceIte, zA, zB, zC, zD, zE, zF, reduceCtorEq, zG, zH, zI, zJ, zK, zL, zM, zN, zO, zP]
  generalize cutS s 32 = c at *
  obtain ⟨c1, c2, c3⟩ := c
  dsimp only at hz1 hz2
  refine W_calld (kinds_tri) rfl rfl rfl rfl ?_; simp only [go_sem, ↓reduceIte, zA, zB, zC, zD, zE, zF, reduceCtorEq, zG, zH, zI, zJ, zK, zL, zM, zN, zO, zP]
  refine W_loopI [2, 3, 4, 5, 6, 17, 18] [] (fun k : Nat => k ≤ 15 ∧ entF (c1, c2, c3) (15 - k) k = q) (fun k => 15 - k) (entS (c1, c2, c3)) 0 ?_ ⟨Nat.zero_le _, hq⟩ ?_
  · simp only [entS, Int.natCast_zero, go_sem, ↓reduceIte, zA, zB, zC, zD, zE, zF, reduceCtorEq, zG, zH, zI, zJ, zK, zL, zM, zN, zO, zP]
  rintro k ⟨hk, hF⟩
  simp only [entS, go_sem, ↓reduceIte, zA, zB, zC, zD, zE, zF, reduceCtorEq, zG, zH, zI, zJ, zK, zL, zM, zN, zO, zP]
  by_cases hlt : k < 15
  case neg =>
    rw [show 15 - k = 0 by omega, entF] at hF
    subst hF
    simp only [decide_eq_false (show ¬ ((k : Nat) : Int) < 15 by omega), zeroEnt, zeroOp, Option.isSome_none, Option.getD_none, go_sem, ↓reduceIte, zA, zB, zC, zD, zE, zF, reduceCtorEq, zG, zH, zI, zJ, zK, zL, zM, zN, zO, zP]
    exact BackS (objs' := []) ⟨rfl, rfl⟩ rfl rfl rfl
  rw [show 15 - k = (15 - (k + 1)) + 1 by omega, entF] at hF
  have hka := kind_at (k : Int) (by omega)
  rw [Int.toNat_natCast] at hka
  simp only [decide_eq_true (show ((k : Nat) : Int) < 15 by omega), hlt, hka, List.length_cons, List.length_nil, str_eq, go_sem, ↓reduceIte, zA, zB, zC, zD, zE, zF, reduceCtorEq, zG, zH, zI, zJ, zK, zL, zM, zN, zO, zP]
  by_cases hw : wordE (k : Int) = c1
  case neg =>
    have ht : entTry (c1, c2, c3) k = none := by unfold entTry; rw [if_pos (.inl hw)]
    rw [ht] at hF
    simp only [decide_eq_false hw, go_sem, ↓reduceIte, zA, zB, zC, zD, zE, zF, reduceCtorEq, zG, zH, zI, zJ, zK, zL, zM, zN, zO, zP]
    refine W_lpI (k + 1) ?_ ?_ ⟨by omega, hF⟩ (by omega)
    · simp only [idl_kinds, go_sem, ↓reduceIte, zA, zB, zC, zD, zE, zF, reduceCtorEq, zG, zH, zI, zJ, zK, zL, zM, zN, zO, zP]
    · simp only [entS, wrap_succ (show k < 9223372036854775807 by omega), go_sem, ↓reduceIte, zA, zB, zC, zD, zE, zF, reduceCtorEq, zG, zH, zI, zJ, zK, zL, zM, zN, zO, zP]
  by_cases hw0 : c1 = ⟨#[]⟩
  case pos =>
    have ht : entTry (c1, c2, c3) k = none := by unfold entTry; rw [if_pos (.inr hw0)]
    rw [ht] at hF
    simp only [decide_eq_true hw, str_eq, decide_eq_true hw0, go_sem, ↓reduceIte, zA, zB, zC, zD, zE, zF, reduceCtorEq, zG, zH, zI, zJ, zK, zL, zM, zN, zO, zP]
    refine W_lpI (k + 1) ?_ ?_ ⟨by omega, hF⟩ (by omega)
    · simp only [idl_kinds, go_sem, ↓reduceIte, zA, zB, zC, zD, zE, zF, reduceCtorEq, zG, zH, zI, zJ, zK, zL, zM, zN, zO, zP]
    · simp only [entS, wrap_succ (show k < 9223372036854775807 by omega), go_sem, ↓reduceIte, zA, zB, zC, zD, zE, zF, reduceCtorEq, zG, zH, zI, zJ, zK, zL, zM, zN, zO, zP]
  have ht : entTry (c1, c2, c3) k = if (ofE k c2 c3).2 = true then some (ofE k c2 c3).1 else none := by unfold entTry; rw [if_neg (by rintro (h | h); exact h hw; exact hw0 h)]
  rw [ht] at hF
  simp only [decide_eq_true hw, str_eq, decide_eq_false hw0, go_sem, ↓reduceIte, zA, zB, zC, zD, zE, zF, reduceCtorEq, zG, zH, zI, zJ, zK, zL, zM, zN, zO, zP]
  refine W_calld (of_triE h k (by omega) c2 c3 (by omega)) rfl rfl rfl rfl ?_
  generalize ofE k c2 c3 = r at *
  obtain ⟨e, b⟩ := r
  cases b with
  | false =>
    rw [if_neg (fun h => by cases h)] at hF
    simp only [go_sem, ↓reduceIte, zA, zB, zC, zD, zE, zF, reduceCtorEq, zG, zH, zI, zJ, zK, zL, zM, zN, zO, zP]
    refine W_lpI (k + 1) ?_ ?_ ⟨by omega, hF⟩ (by omega)
    · simp only [idl_kinds, go_sem, ↓reduceIte, zA, zB, zC, zD, zE, zF, reduceCtorEq, zG, zH, zI, zJ, zK, zL, zM, zN, zO, zP]
    · simp only [entS, wrap_succ (show k < 9223372036854775807 by omega), go_sem, ↓reduceIte, zA, zB, zC, zD, zE, zF, reduceCtorEq, zG, zH, zI, zJ, zK, zL, zM, zN, zO, zP]
  | true =>
    rw [if_pos rfl] at hF
    have : q = some e := hF.symm
    subst this
    simp only [Option.isSome_some, Option.getD_some, go_sem, ↓reduceIte, zA, zB, zC, zD, zE, zF, reduceCtorEq, zG, zH, zI, zJ, zK, zL, zM, zN, zO, zP]
    exact BackS (objs' := []) ⟨rfl, rfl⟩ rfl rfl rfl
end Dv

namespace Dv
open Go Go.Proofs
open Nat renaming reduceEqDiff → zA, reduceAdd → zB, reduceSub → zC, reduceMul → zD, reduceLT → zE, reduceLeDiff → zF
open Int renaming reduceLE → zG, reduceLT → zH, reduceToNat → zI, reduceBEq → zJ, reduceBNe → zK, reduceEq → zL, reduceAdd → zM, reduceSub → zN, reduceMul → zO, reduceNeg → zP
attribute [local go_sem] argEnv W_nil W_seq W_skip W_ret W_exit W_scope W_block W_blk W_reg W_regD W_cond WC_t WC_f WC_any Wx_c Wx_ops Wx_lp Wx_blk W_ops_nil W_opsD_q W_guard W_guardD WG_tt WG_ff WG_tf WG_ft WG_u WGD_tt WGD_ff WGD_tf WGD_ft WGD_u WE_some WED_some W_more W_mv W_pick W_new W_box W_build W_bsl W_ld1 W_ldn W_st W_nck W_bin W_eqb W_not W_cvt W_fad W_fld1 W_fldn W_ixa W_ixr W_ix1 W_ixs W_len W_lens W_mkf W_ext W_app W_min W_isnp W_isns W_eqs W_neg W_ixn W_sli W_sls WD_more WD_mv WD_pick WD_new WD_box WD_build WD_bsl WD_ld1 WD_ldn WD_st WD_nck WD_bin WD_eqb WD_not WD_cvt WD_fad WD_fld1 WD_fldn WD_ixa WD_ixr WD_ix1 WD_ixs WD_len WD_lens WD_mkf WD_ext WD_app WD_min WD_isnp WD_isns WD_eqs WD_neg WD_ixn WD_sli WD_sls effF effM bytesOf Opd.ev getE putE binV LV.int LV.bool LV.undef Go.undef LV.cells LV.toD LV.toDs splice fillL rowsOf boxOf srcRows updL objL Eff.owned nwp St.get St.obj St.put Value.oneCell' Ends adopt Ad.ap isNil St.keep St.okKeep okObj idl idlL idlO RVs.of RV.of oneOr Ends0 EndsO_iff frzs rn rnL rnO piOf eqCells eqV boundV Option.map_some Option.map_none List.append_nil List.nil_append List.cons_append List.map_nil List.map_cons List.length_nil List.length_cons List.set_cons_zero List.set_cons_succ List.take_succ_cons List.take_zero List.take_nil List.drop_succ_cons List.drop_zero List.drop_nil List.getElem?_cons_zero List.getElem?_cons_succ List.getElem?_nil List.isEmpty_nil List.isEmpty_cons List.all_cons List.all_nil List.isEmpty_nil cond_true cond_false Bool.true_and Bool.false_and Bool.and_true Bool.and_false Bool.not_true Bool.not_false Bool.or_true Bool.true_or Bool.or_false Bool.false_or true_and and_true true_or or_true Option.some.injEq LV.d.injEq DV.val.injEq Value.bool.injEq Value.int.injEq decide_true decide_false and_self Nat.zero_add Nat.add_zero if_true if_false Int.toNat_zero beq_self_eq_true Nat.zero_lt_succ Int.toNat_natCast Int.natCast_nonneg List.length_map i64 bl List.zip_cons_cons List.zip_nil_left List.zip_nil_right nwp confV stateV nodeV jobV nodesV jobsV opV msgV nodeR jobR opR msgR zeroOp zeroMsg msgsV
variable {G : Nat → Option (List DV)}

/-- dunnageref23.Split -/
def ir23 : Nat × C × List RV := (37,
(.seq (.reg [⟨(some 2), .mv (.c (.val (.slice none 0 0))), none, []⟩])
 (.seq (.reg [⟨(some 5), .bsl 9 1 [(.c (.val (.string ⟨#[]⟩)))], none, []⟩,
 ⟨(some 3), .mv (.t 5), none, []⟩])
 (.seq (.seq (.reg [⟨(some 4), .mv (.c (.val (.int .i64 0))), none, []⟩])
 (.block 0 (.loop (.seq (.seq (.reg [⟨(some 6), .mv (.t 4), none, []⟩,
 ⟨(some 7), .mv (.t 0), none, []⟩,
 ⟨(some 8), .lens (.t 7), none, []⟩,
 ⟨(some 9), .bin .lss (.t 6) (.t 8), none, []⟩])
 (.cond (.t 9) .skip
 (.exit 0)))
 (.seq (.block 1 (.seq (.reg [⟨(some 12), .mv (.t 0), none, []⟩,
 ⟨(some 13), .mv (.t 4), none, []⟩,
 ⟨(some 14), .ixs (.t 12) (.t 13), none, []⟩,
 ⟨(some 15), .bin .eql (.t 14) (.c (.val (.int .u8 32))), none, []⟩])
 (.cond (.t 15) (.reg [⟨(some 16), .mv (.t 3), none, []⟩,
 ⟨(some 17), .bsl 9 1 [(.c (.val (.string ⟨#[]⟩)))], none, []⟩,
 ⟨(some 18), .app 9 1 16 (.t 16) (.t 17), none, []⟩,
 ⟨(some 3), .mv (.t 18), none, []⟩])
 (.regD [⟨(some 19), .mv (.t 3), none, []⟩,
 ⟨(some 20), .mv (.t 3), none, []⟩,
 ⟨(some 21), .len (.t 20), none, [1]⟩,
 ⟨(some 22), .bin .sub (.t 21) (.c (.val (.int .i64 1))), none, [2, 1]⟩,
 ⟨(some 23), .mv (.t 3), none, []⟩,
 ⟨(some 24), .mv (.t 3), none, []⟩,
 ⟨(some 25), .len (.t 24), none, [5]⟩,
 ⟨(some 26), .bin .sub (.t 25) (.c (.val (.int .i64 1))), none, [6, 5]⟩,
 ⟨(some 27), .ixa 1 (.t 23) (.t 26), none, [4, 7, 6, 5]⟩,
 ⟨(some 28), .ld1 (.t 27), none, [8, 4, 7, 6, 5]⟩,
 ⟨(some 29), .mv (.t 0), none, []⟩,
 ⟨(some 30), .mv (.t 4), none, []⟩,
 ⟨(some 31), .mv (.t 4), none, []⟩,
 ⟨(some 32), .bin .add (.t 31) (.c (.val (.int .i64 1))), none, [12]⟩,
 ⟨(some 33), .sls (.t 29) (some (.t 30)) (some (.t 32)), none, [10, 11, 13, 12]⟩,
 ⟨(some 34), .bin .add (.t 28) (.t 33), none, [9, 8, 4, 7, 6, 5, 14, 10, 11, 13, 12]⟩,
 ⟨(some 35), .ixa 1 (.t 19) (.t 22), none, [0, 3, 2, 1, 4, 5, 6, 7, 8, 9, 10, 11, 12, 13, 14, 15]⟩,
 ⟨none, .st 1 (.t 35) (.t 34), none, [16, 0, 3, 2, 1, 4, 5, 6, 7, 8, 9, 10, 11, 12, 13, 14, 15]⟩]))))
 (.reg [⟨(some 10), .mv (.t 4), none, []⟩,
 ⟨(some 11), .bin .add (.t 10) (.c (.val (.int .i64 1))), none, []⟩,
 ⟨(some 4), .mv (.t 11), none, []⟩]))))))
 (.seq (.reg [⟨(some 36), .mv (.t 3), none, []⟩,
 ⟨(some 2), .mv (.t 36), none, []⟩])
 .ret)))),
[(.t 2)])
theorem irOk23 : convFn Tryd.prog Tryd.f23 = some ir23 := by kernel_rfl


def spGo : List UInt8 → List ByteArray → List ByteArray
  | [], out => out
  | c :: r, out => if c.toNat = 32 then spGo r (out ++ [⟨#[]⟩]) else spGo r (out.set (out.length - 1) (out.getD (out.length - 1) ⟨#[]⟩ ++ ⟨#[c]⟩))
def spS (s : ByteArray) (p : Nat × List ByteArray) : St := ⟨[(0, .d (.val (.string s))), (3, .sl 0 p.2.length 1 0 p.2.length), (4, .int p.1)], [some (.dat 9 1 (strR p.2))]⟩
theorem extract_one (s : ByteArray) (i : Nat) (c : UInt8) (h : s.data.toList[i]? = some c) : s.extract i (i + 1) = ⟨#[c]⟩ := by
  apply data_ext
  rw [Lib.extract_data]
  have hi : i < s.data.toList.length := (List.getElem?_eq_some_iff.1 h).1
  have : s.data.toList.drop i = c :: s.data.toList.drop (i + 1) := by
    rw [List.drop_eq_getElem_cons hi]
    congr 1
    exact (List.getElem?_eq_some_iff.1 h).2
  rw [this, show i + 1 - i = 1 by omega]; rfl
set_option maxHeartbeats 4000000 in
theorem split23_tri (s : ByteArray) (hs : s.size ≤ 1000000) : Tri Tryd.prog G 23 [.d (.val (.string s))] [] (.sl 0 (spGo s.data.toList [⟨#[]⟩]).length 1 0 (spGo s.data.toList [⟨#[]⟩]).length) [.dat 9 1 (strR (spGo s.data.toList [⟨#[]⟩]))] := by
  have hbl := bs_len s
  refine tri_W Tryd.func23 (by decide) irOk23 (Nat.le_of_ble_eq_true rfl) ?_
  simp only [ir23, go_sem, ↓reduceIte, zA, zB, zC, zD, zE, zF, reduceCtorEq, zG, zH, zI, zJ, zK, zL, zM, zN, zO, zP]
  generalize hR : spGo s.data.toList [⟨#[]⟩] = R
  refine W_loopI [0, 3, 4] [] (fun p : Nat × List ByteArray => p.1 ≤ s.size ∧ 0 < p.2.length ∧ p.2.length ≤ p.1 + 1 ∧ (∀ x ∈ p.2, x.size ≤ p.1) ∧ spGo (s.data.toList.drop p.1) p.2 = R) (fun p => s.size - p.1) (spS s) (0, [⟨#[]⟩]) ?_ ⟨Nat.zero_le _, by decide, by decide, fun x hx => by rw [List.mem_singleton.1 hx]; decide, hR⟩ ?_
  · simp only [spS, strR, List.map_cons, List.map_nil, List.length_cons, List.length_nil, Int.natCast_zero, go_sem, ↓reduceIte, zA, zB, zC, zD, zE, zF, reduceCtorEq, zG, zH, zI, zJ, zK, zL, zM, zN, zO, zP]
  rintro ⟨i, out⟩ ⟨hi, h0, hol, hsz, hF⟩
  dsimp only at hi h0 hol hsz hF
  have hnl := strR_len out
  simp only [spS, go_sem, ↓reduceIte, zA, zB, zC, zD, zE, zF, reduceCtorEq, zG, zH, zI, zJ, zK, zL, zM, zN, zO, zP]
  by_cases hlt : i < s.size
  case neg =>
    rw [List.drop_eq_nil_of_le (by omega), spGo] at hF
    subst hF
    simp only [decide_eq_false (show ¬ ((i : Nat) : Int) < ((s.size : Nat) : Int) by omega), go_sem, ↓reduceIte, zA, zB, zC, zD, zE, zF, reduceCtorEq, zG, zH, zI, zJ, zK, zL, zM, zN, zO, zP]
    refine BackR [] [0] [] (vs := [.sl 0 out.length 1 0 out.length]) rfl rfl (by decide) (by simp) (by simp) ?_ ?_ ?_
    · simp [St.obj, objL, adopt, rnO]
    · simp [idlO]
    · simp [oneOr, argR, argRs, adopt, St.obj, objL, LV.int, LV.bool, hnl]
  have hdi : s.data.toList.drop i = s.data.toList[i]'(by omega) :: s.data.toList.drop (i + 1) := List.drop_eq_getElem_cons (by omega)
  have hgi := List.getElem?_eq_getElem (show i < s.data.toList.length by omega)
  rw [hdi, spGo] at hF
  generalize s.data.toList[i]'(by omega) = c at *
  simp only [decide_eq_true (show ((i : Nat) : Int) < ((s.size : Nat) : Int) by omega), hgi, go_sem, ↓reduceIte, zA, zB, zC, zD, zE, zF, reduceCtorEq, zG, zH, zI, zJ, zK, zL, zM, zN, zO, zP]
  by_cases h32 : c.toNat = 32
  case pos =>
    rw [if_pos h32] at hF
    simp only [show (((c.toNat : Nat) : Int) == 32) = true from beq_iff_eq.2 (by omega), go_sem, ↓reduceIte, zA, zB, zC, zD, zE, zF, reduceCtorEq, zG, zH, zI, zJ, zK, zL, zM, zN, zO, zP]
    have h7 : out.length = (strR out).length ∧ (strR out ++ [[DV.val (Value.string ⟨#[]⟩)]]).length * 16 ≤ 70368744177664 := ⟨hnl.symm, by rw [List.length_append, hnl]; simp; omega⟩
    rw [if_pos h7]
    simp only [hnl, go_sem, ↓reduceIte, zA, zB, zC, zD, zE, zF, reduceCtorEq, zG, zH, zI, zJ, zK, zL, zM, zN, zO, zP]
    refine W_lpI (i + 1, out ++ [⟨#[]⟩]) ?_ ?_ ⟨by dsimp only; omega, by simp, by simp; omega, ?_, hF⟩ (by dsimp only; omega)
    · simp only [go_sem, ↓reduceIte, zA, zB, zC, zD, zE, zF, reduceCtorEq, zG, zH, zI, zJ, zK, zL, zM, zN, zO, zP]
    · simp only [spS, strR, List.map_append, List.map_cons, List.map_nil, List.length_append, List.length_cons, List.length_nil, wrap_succ (show i < 9223372036854775807 by omega), go_sem, ↓reduceIte, zA, zB, zC, zD, zE, zF, reduceCtorEq, zG, zH, zI, zJ, zK, zL, zM, zN, zO, zP]
    · intro x hx
      rcases List.mem_append.1 hx with hx | hx
      · have := hsz x hx; dsimp only; omega
      · rw [List.mem_singleton.1 hx]; exact Nat.zero_le _
  rw [if_neg h32] at hF
  have w1 : IntKind.i64.wrap (((out.length : Nat) : Int) - 1) = ((out.length - 1 : Nat) : Int) := by rw [wrap_in (by omega) (by omega)]; omega
  have hgl := get_mapD (f := fun x : ByteArray => [DV.val (.string x)]) ⟨#[]⟩ (show out.length - 1 < out.length by omega)
  have hxr := hsz (out.getD (out.length - 1) ⟨#[]⟩) (by simp [List.getD, show out.length - 1 < out.length by omega])
  have hsub : out.length - 1 < out.length := by omega
  generalize hX : out.getD (out.length - 1) ⟨#[]⟩ = x at *
  have hgb : (strR out)[out.length - 1]? = some [DV.val (.string x)] := hgl
  have hex := extract_one s i c hgi
  have wi : IntKind.i64.wrap ((i : Int) + 1) = ((i + 1 : Nat) : Int) := wrap_succ (by omega)
  have hb1 : i ≤ i + 1 ∧ i + 1 ≤ s.size := by omega
  have h1s : (⟨#[c]⟩ : ByteArray).size = 1 := rfl
  have h1a : (#[c] : Array UInt8).size = 1 := rfl
  have hadd : x.size + (#[c] : Array UInt8).size ≤ 9223372036854775807 := by omega
  have hset : (strR out).set (out.length - 1) [DV.val (.string (x ++ ⟨#[c]⟩))] = strR (out.set (out.length - 1) (x ++ ⟨#[c]⟩)) := by simp [strR]
  simp only [show (((c.toNat : Nat) : Int) == 32) = false from beq_eq_false_iff_ne.2 (by omega), w1, hsub, hnl, hgb, wi, hb1, and_self, hex, hadd, hset, if_true, go_sem, ↓reduceIte, zA, zB, zC, zD, zE, zF, reduceCtorEq, zG, zH, zI, zJ, zK, zL, zM, zN, zO, zP]
  refine W_opsD_end (by decide) ?_
  simp only [go_sem, ↓reduceIte, zA, zB, zC, zD, zE, zF, reduceCtorEq, zG, zH, zI, zJ, zK, zL, zM, zN, zO, zP]
  refine W_lpI (i + 1, out.set (out.length - 1) (x ++ ⟨#[c]⟩)) ?_ ?_ ⟨by dsimp only; omega, by simpa using h0, by simp; omega, ?_, hF⟩ (by dsimp only; omega)
  · simp only [go_sem, ↓reduceIte, zA, zB, zC, zD, zE, zF, reduceCtorEq, zG, zH, zI, zJ, zK, zL, zM, zN, zO, zP]
  · simp only [spS, List.length_set, wrap_succ (show i < 9223372036854775807 by omega), go_sem, ↓reduceIte, zA, zB, zC, zD, zE, zF, reduceCtorEq, zG, zH, zI, zJ, zK, zL, zM, zN, zO, zP]
  · intro y hy
    rcases List.mem_or_eq_of_mem_set hy with hy | hy
    · have := hsz y hy; dsimp only; omega
    · rw [hy, ByteArray.size_append]; dsimp only; omega
/-! the same words -/
theorem spGo_eq : ∀ (l : List UInt8) (init : List ByteArray) (w : ByteArray) (h : List UInt8) (t : List (List UInt8)), splitL 32 l = h :: t → spGo l (init ++ [w]) = init ++ ((w ++ ⟨h.toArray⟩) :: t.map fun x => (⟨x.toArray⟩ : ByteArray))
  | [], init, w, h, t, hh => by
    simp only [splitL, List.cons.injEq] at hh
    obtain ⟨rfl, rfl⟩ := hh
    rw [spGo, List.map_nil]
    have : w ++ (⟨([] : List UInt8).toArray⟩ : ByteArray) = w := by apply data_ext; simp
    rw [this]
  | c :: r, init, w, h, t, hh => by
    obtain ⟨h2, t2, hr⟩ := List.exists_cons_of_ne_nil (splitL_ne 32 r)
    unfold splitL at hh
    rw [hr] at hh
    dsimp only at hh
    rw [spGo]
    by_cases hc : c = 32
    · rw [if_pos hc] at hh
      simp only [List.cons.injEq] at hh
      obtain ⟨rfl, rfl⟩ := hh
      rw [if_pos (by rw [hc]; rfl), spGo_eq r (init ++ [w]) ⟨#[]⟩ h2 t2 hr, List.append_assoc, List.map_cons]
      have e1 : w ++ (⟨([] : List UInt8).toArray⟩ : ByteArray) = w := by apply data_ext; simp
      have e2 : (⟨#[]⟩ : ByteArray) ++ (⟨h2.toArray⟩ : ByteArray) = ⟨h2.toArray⟩ := by apply data_ext; simp
      rw [e1, e2]; rfl
    · rw [if_neg hc] at hh
      simp only [List.cons.injEq] at hh
      obtain ⟨rfl, rfl⟩ := hh
      have hn : ¬ c.toNat = 32 := fun e => hc (UInt8.toNat_inj.1 (by rw [e]; rfl))
      have hlen : (init ++ [w]).length - 1 = init.length := by simp
      have hg : (init ++ [w]).getD init.length ⟨#[]⟩ = w := by simp [List.getD]
      have hs : ∀ y : ByteArray, (init ++ [w]).set init.length y = init ++ [y] := fun y => by
        rw [List.set_append, if_neg (by omega), Nat.sub_self]; rfl
      rw [if_neg hn, hlen, hg, hs, spGo_eq r init (w ++ ⟨#[c]⟩) h2 t2 hr]
      have e1 : w ++ ⟨#[c]⟩ ++ (⟨h2.toArray⟩ : ByteArray) = w ++ ⟨(c :: h2).toArray⟩ := by apply data_ext; simp
      rw [e1]
theorem spGo_words (s : ByteArray) : spGo s.data.toList [⟨#[]⟩] = wordsO s := by
  obtain ⟨h, t, hr⟩ := List.exists_cons_of_ne_nil (splitL_ne 32 s.data.toList)
  have := spGo_eq s.data.toList [] ⟨#[]⟩ h t hr
  rw [List.nil_append] at this
  rw [this]
  apply map_data_inj
  rw [words_eq, hr]
  simp [List.map_map, Function.comp_def]
theorem wordsD_tri (s : ByteArray) (hs : s.size ≤ 1000000) : Tri Tryd.prog G 23 [.d (.val (.string s))] [] (.sl 0 (wordsO s).length 1 0 (wordsO s).length) [.dat 9 1 (strR (wordsO s))] := by
  have := split23_tri (G := G) s hs
  rw [spGo_words] at this
  exact this
end Dv

namespace Dv
open Go Go.Proofs
open Nat renaming reduceEqDiff → zA, reduceAdd → zB, reduceSub → zC, reduceMul → zD, reduceLT → zE, reduceLeDiff → zF
open Int renaming reduceLE → zG, reduceLT → zH, reduceToNat → zI, reduceBEq → zJ, reduceBNe → zK, reduceEq → zL, reduceAdd → zM, reduceSub → zN, reduceMul → zO, reduceNeg → zP
attribute [local go_sem] argEnv W_nil W_seq W_skip W_ret W_exit W_scope W_block W_blk W_reg W_regD W_cond WC_t WC_f WC_any Wx_c Wx_ops Wx_lp Wx_blk W_ops_nil W_opsD_q W_guard W_guardD WG_tt WG_ff WG_tf WG_ft WG_u WGD_tt WGD_ff WGD_tf WGD_ft WGD_u WE_some WED_some W_more W_mv W_pick W_new W_box W_build W_bsl W_ld1 W_ldn W_st W_nck W_bin W_eqb W_not W_cvt W_fad W_fld1 W_fldn W_ixa W_ixr W_ix1 W_ixs W_len W_lens W_mkf W_ext W_app W_min W_isnp W_isns W_eqs W_neg W_ixn W_sli W_sls WD_more WD_mv WD_pick WD_new WD_box WD_build WD_bsl WD_ld1 WD_ldn WD_st WD_nck WD_bin WD_eqb WD_not WD_cvt WD_fad WD_fld1 WD_fldn WD_ixa WD_ixr WD_ix1 WD_ixs WD_len WD_lens WD_mkf WD_ext WD_app WD_min WD_isnp WD_isns WD_eqs WD_neg WD_ixn WD_sli WD_sls effF effM bytesOf Opd.ev getE putE binV LV.int LV.bool LV.undef Go.undef LV.cells LV.toD LV.toDs splice fillL rowsOf boxOf srcRows updL objL Eff.owned nwp St.get St.obj St.put Value.oneCell' Ends adopt Ad.ap isNil St.keep St.okKeep okObj idl idlL idlO RVs.of RV.of oneOr Ends0 EndsO_iff frzs rn rnL rnO piOf eqCells eqV boundV Option.map_some Option.map_none List.append_nil List.nil_append List.cons_append List.map_nil List.map_cons List.length_nil List.length_cons List.set_cons_zero List.set_cons_succ List.take_succ_cons List.take_zero List.take_nil List.drop_succ_cons List.drop_zero List.drop_nil List.getElem?_cons_zero List.getElem?_cons_succ List.getElem?_nil List.isEmpty_nil List.isEmpty_cons List.all_cons List.all_nil List.isEmpty_nil cond_true cond_false Bool.true_and Bool.false_and Bool.and_true Bool.and_false Bool.not_true Bool.not_false Bool.or_true Bool.true_or Bool.or_false Bool.false_or true_and and_true true_or or_true Option.some.injEq LV.d.injEq DV.val.injEq Value.bool.injEq Value.int.injEq decide_true decide_false and_self Nat.zero_add Nat.add_zero if_true if_false Int.toNat_zero beq_self_eq_true Nat.zero_lt_succ Int.toNat_natCast Int.natCast_nonneg List.length_map i64 bl List.zip_cons_cons List.zip_nil_left List.zip_nil_right nwp confV stateV nodeV jobV nodesV jobsV opV msgV nodeR jobR opR msgR zeroOp zeroMsg msgsV
variable {G : Nat → Option (List DV)}

/-- dunnageref23.Entry -/
def ir9 : Nat × C × List RV := (84,
(.seq (.reg [⟨(some 2), .new 25 [(.val (.int .i64 0)), (.val (.int .i64 0)), (.val (.int .i64 0)), (.val (.int .i64 0)), (.val (.int .i64 0)), (.val (.int .i64 0)), (.val (.int .i64 0)), (.val (.int .i64 0)), (.val (.int .i64 0)), (.val (.int .i64 0))], none, []⟩,
 ⟨(some 3), .mv (.c (.val (.bool false))), none, []⟩])
 (.seq (.reg [⟨(some 10), .mv (.t 0), none, []⟩,
 ⟨(some 11), .call (.f 23) [(.t 10)], none, []⟩,
 ⟨(some 4), .mv (.t 11), none, []⟩])
 (.seq (.seq (.reg [⟨(some 5), .mv (.c (.val (.int .i64 1))), none, []⟩])
 (.block 0 (.loop (.seq (.seq (.reg [⟨(some 12), .mv (.t 5), none, []⟩,
 ⟨(some 13), .bin .leq (.t 12) (.c (.val (.int .i64 14))), none, []⟩])
 (.cond (.t 13) .skip
 (.exit 0)))
 (.seq (.block 1 (.seq (.seq (.regD [⟨(some 16), .mv (.t 4), none, []⟩,
 ⟨(some 17), .ixa 1 (.t 16) (.c (.val (.int .i64 0))), none, [0]⟩,
 ⟨(some 18), .ld1 (.t 17), none, [1, 0]⟩,
 ⟨(some 19), .mv (.t 5), none, []⟩,
 ⟨(some 20), .call (.f 24) [(.t 19)], none, [3]⟩,
 ⟨(some 21), .bin .neq (.t 18) (.t 20), none, [2, 1, 0, 4, 3]⟩])
 (.cond (.t 21) (.exit 1)
 .skip))
 (.seq (.reg [⟨(some 22), .mv (.t 5), none, []⟩,
 ⟨(some 23), .build [(.val (.int .i64 0)), (.val (.int .i64 0)), (.val (.int .i64 0)), (.val (.int .i64 0)), (.val (.int .i64 0)), (.val (.int .i64 0)), (.val (.int .i64 0)), (.val (.int .i64 0)), (.val (.int .i64 0)), (.val (.int .i64 0))] [(0, 1, (.t 22))], none, []⟩,
 ⟨(some 6), .new 25 [(.val (.int .i64 0)), (.val (.int .i64 0)), (.val (.int .i64 0)), (.val (.int .i64 0)), (.val (.int .i64 0)), (.val (.int .i64 0)), (.val (.int .i64 0)), (.val (.int .i64 0)), (.val (.int .i64 0)), (.val (.int .i64 0))], none, []⟩,
 ⟨none, .st 10 (.t 6) (.t 23), none, []⟩])
 (.seq (.reg [⟨(some 24), .mv (.t 5), none, []⟩,
 ⟨(some 25), .call (.f 25) [(.t 24)], none, []⟩,
 ⟨(some 7), .mv (.t 25), none, []⟩])
 (.seq (.seq (.reg [⟨(some 26), .mv (.t 4), none, []⟩,
 ⟨(some 27), .len (.t 26), none, []⟩,
 ⟨(some 28), .mv (.t 7), none, []⟩,
 ⟨(some 29), .bin .add (.c (.val (.int .i64 1))) (.t 28), none, []⟩,
 ⟨(some 30), .bin .lss (.t 27) (.t 29), none, []⟩])
 (.cond (.t 30) (.seq (.reg [⟨(some 31), .build [(.val (.int .i64 0)), (.val (.int .i64 0)), (.val (.int .i64 0)), (.val (.int .i64 0)), (.val (.int .i64 0)), (.val (.int .i64 0)), (.val (.int .i64 0)), (.val (.int .i64 0)), (.val (.int .i64 0)), (.val (.int .i64 0))] [], none, []⟩,
 ⟨none, .st 10 (.t 2) (.t 31), none, []⟩,
 ⟨(some 3), .mv (.c (.val (.bool false))), none, []⟩])
 .ret)
 .skip))
 (.seq (.seq (.reg [⟨(some 32), .mv (.t 7), none, []⟩,
 ⟨(some 33), .bin .gtr (.t 32) (.c (.val (.int .i64 0))), none, []⟩])
 (.cond (.t 33) (.reg [⟨(some 34), .mv (.t 4), none, []⟩,
 ⟨(some 35), .ixa 1 (.t 34) (.c (.val (.int .i64 1))), none, []⟩,
 ⟨(some 36), .ld1 (.t 35), none, []⟩,
 ⟨(some 37), .call (.f 26) [(.t 36)], none, []⟩,
 ⟨(some 38), .fad 1 (.t 6), none, []⟩,
 ⟨none, .st 1 (.t 38) (.t 37), none, []⟩])
 .skip))
 (.seq (.seq (.reg [⟨(some 39), .mv (.t 7), none, []⟩,
 ⟨(some 40), .bin .gtr (.t 39) (.c (.val (.int .i64 1))), none, []⟩])
 (.cond (.t 40) (.reg [⟨(some 41), .mv (.t 4), none, []⟩,
 ⟨(some 42), .ixa 1 (.t 41) (.c (.val (.int .i64 2))), none, []⟩,
 ⟨(some 43), .ld1 (.t 42), none, []⟩,
 ⟨(some 44), .call (.f 26) [(.t 43)], none, []⟩,
 ⟨(some 45), .fad 2 (.t 6), none, []⟩,
 ⟨none, .st 1 (.t 45) (.t 44), none, []⟩])
 .skip))
 (.seq (.seq (.reg [⟨(some 46), .mv (.t 5), none, []⟩,
 ⟨(some 47), .bin .eql (.t 46) (.c (.val (.int .i64 11))), none, []⟩,
 ⟨(some 48), .mv (.t 47), none, []⟩,
 ⟨(some 49), .mv (.t 5), (some (48, false)), []⟩,
 ⟨(some 50), .bin .eql (.t 49) (.c (.val (.int .i64 13))), (some (48, false)), []⟩,
 ⟨(some 51), .pick (.t 48) (.c (.val (.bool true))) (.t 50), none, []⟩])
 (.cond (.t 51) (.seq (.reg [⟨(some 8), .mv (.c (.val (.string ⟨#[]⟩))), none, []⟩])
 (.seq (.seq (.reg [⟨(some 52), .mv (.t 7), none, []⟩,
 ⟨(some 53), .bin .add (.c (.val (.int .i64 1))) (.t 52), none, []⟩,
 ⟨(some 9), .mv (.t 53), none, []⟩])
 (.block 2 (.loop (.seq (.seq (.reg [⟨(some 54), .mv (.t 9), none, []⟩,
 ⟨(some 55), .mv (.t 4), none, []⟩,
 ⟨(some 56), .len (.t 55), none, []⟩,
 ⟨(some 57), .bin .lss (.t 54) (.t 56), none, []⟩])
 (.cond (.t 57) .skip
 (.exit 2)))
 (.seq (.block 3 (.seq (.seq (.reg [⟨(some 60), .mv (.t 9), none, []⟩,
 ⟨(some 61), .mv (.t 7), none, []⟩,
 ⟨(some 62), .bin .add (.c (.val (.int .i64 1))) (.t 61), none, []⟩,
 ⟨(some 63), .bin .gtr (.t 60) (.t 62), none, []⟩])
 (.cond (.t 63) (.reg [⟨(some 64), .mv (.t 8), none, []⟩,
 ⟨(some 65), .bin .add (.t 64) (.c (.val (.string ⟨#[32]⟩))), none, []⟩,
 ⟨(some 8), .mv (.t 65), none, []⟩])
 .skip))
 (.reg [⟨(some 66), .mv (.t 8), none, []⟩,
 ⟨(some 67), .mv (.t 4), none, []⟩,
 ⟨(some 68), .mv (.t 9), none, []⟩,
 ⟨(some 69), .ixa 1 (.t 67) (.t 68), none, []⟩,
 ⟨(some 70), .ld1 (.t 69), none, []⟩,
 ⟨(some 71), .bin .add (.t 66) (.t 70), none, []⟩,
 ⟨(some 8), .mv (.t 71), none, []⟩])))
 (.reg [⟨(some 58), .mv (.t 9), none, []⟩,
 ⟨(some 59), .bin .add (.t 58) (.c (.val (.int .i64 1))), none, []⟩,
 ⟨(some 9), .mv (.t 59), none, []⟩]))))))
 (.reg [⟨(some 73), .mv (.t 8), none, []⟩,
 ⟨(some 74), .call (.f 27) [(.t 73)], none, []⟩,
 ⟨(some 72), .mv (.t 74), none, []⟩,
 ⟨(some 75), .ext (.t 72) 0, none, []⟩,
 ⟨(some 76), .ext (.t 72) 1, none, []⟩,
 ⟨(some 77), .fad 3 (.t 6), none, []⟩,
 ⟨none, .st 7 (.t 77) (.t 75), none, []⟩])))
 .skip))
 (.seq (.reg [⟨(some 78), .ldn 10 (.t 6), none, []⟩,
 ⟨(some 79), .call (.f 13) [(.t 78)], none, []⟩,
 ⟨(some 80), .mv (.t 0), none, []⟩,
 ⟨(some 81), .bin .eql (.t 79) (.t 80), none, []⟩])
 (.cond (.t 81) (.seq (.reg [⟨(some 82), .ldn 10 (.t 6), none, []⟩,
 ⟨none, .st 10 (.t 2) (.t 82), none, []⟩,
 ⟨(some 3), .mv (.c (.val (.bool true))), none, []⟩])
 .ret)
 .skip))))))))))
 (.reg [⟨(some 14), .mv (.t 5), none, []⟩,
 ⟨(some 15), .bin .add (.t 14) (.c (.val (.int .i64 1))), none, []⟩,
 ⟨(some 5), .mv (.t 15), none, []⟩]))))))
 (.seq (.reg [⟨(some 83), .build [(.val (.int .i64 0)), (.val (.int .i64 0)), (.val (.int .i64 0)), (.val (.int .i64 0)), (.val (.int .i64 0)), (.val (.int .i64 0)), (.val (.int .i64 0)), (.val (.int .i64 0)), (.val (.int .i64 0)), (.val (.int .i64 0))] [], none, []⟩,
 ⟨none, .st 10 (.t 2) (.t 83), none, []⟩,
 ⟨(some 3), .mv (.c (.val (.bool false))), none, []⟩])
 .ret)))),
[(.cn 2 10), (.t 3)])
theorem irOk9 : convFn Tryd.prog Tryd.f9 = some ir9 := by kernel_rfl

attribute [local go_sem] optOp optEnt

def joinGo : List ByteArray → Bool → ByteArray → ByteArray
  | [], _, acc => acc
  | w :: ws, first, acc => joinGo ws false ((if first = true then acc else acc ++ sepB) ++ w)
def sumW : List ByteArray → Nat
  | [] => 0
  | w :: ws => w.size + 1 + sumW ws
def sumL : List (List UInt8) → Nat
  | [] => 0
  | w :: ws => w.length + 1 + sumL ws
theorem sumL_split (c : UInt8) : ∀ s : List UInt8, sumL (splitL c s) = s.length + 1
  | [] => rfl
  | x :: r => by
    have ih := sumL_split c r
    obtain ⟨h, t, hr⟩ := List.exists_cons_of_ne_nil (splitL_ne c r)
    rw [hr] at ih
    unfold splitL
    rw [hr]
    dsimp only
    split
    · simp only [sumL, List.length_nil, List.length_cons] at ih ⊢; omega
    · simp only [sumL, List.length_cons] at ih ⊢; omega
theorem sumW_map : ∀ l : List ByteArray, sumW l = sumL (l.map (·.data.toList))
  | [] => rfl
  | w :: l => by rw [sumW, List.map_cons, sumL, sumW_map l, bs_len w]
theorem sumW_words (s : ByteArray) : sumW (wordsO s) = s.size + 1 := by rw [sumW_map, words_eq, sumL_split, bs_len]
theorem sumW_drop : ∀ (l : List ByteArray) (i : Nat), sumW (l.drop i) ≤ sumW l
  | [], i => by simp
  | w :: l, 0 => Nat.le_refl _
  | w :: l, i + 1 => by rw [List.drop_succ_cons, sumW]; have := sumW_drop l i; omega
def ent23 (W : List ByteArray) (k : Nat) : EntD := ⟨k, if 0 < manyE k then valW (W.getD 1 ⟨#[]⟩) else 0, if 1 < manyE k then valW (W.getD 2 ⟨#[]⟩) else 0, if hasOp k = true then (parse8 (joinGo (W.drop (1 + manyE k)) true ⟨#[]⟩)).getD zeroOp else zeroOp⟩
def ent23Try (s : ByteArray) (W : List ByteArray) (k : Nat) : Option (Option EntD) :=
  if W.getD 0 ⟨#[]⟩ ≠ wordE k then none
  else if W.length < 1 + manyE k then some none
  else if wordsE (ent23 W k) = s then some (some (ent23 W k)) else none
def ent23F (s : ByteArray) (W : List ByteArray) : Nat → Nat → Option EntD
  | 0, _ => none
  | f + 1, k => match ent23Try s W k with
    | some r => r
    | none => ent23F s W f (k + 1)
def entry23 (s : ByteArray) : Option EntD := ent23F s (wordsO s) 14 1
def zBox : LObj := .box 25 [.int 0, .int 0, .int 0, .int 0, .int 0, .int 0, .int 0, .int 0, .int 0, .int 0]
def e23S (s : ByteArray) (W : List ByteArray) (k : Nat) : St := ⟨[(0, .d (.val (.string s))), (2, .ptr 0 0), (3, .bool false), (4, .sl 1 W.length 1 0 W.length), (5, .int k)], [some zBox, some (.dat 9 1 (strR W))]⟩
def e23T (s : ByteArray) (W : List ByteArray) (k : Nat) (a b : Int) (p : Nat × ByteArray) : St := ⟨[(0, .d (.val (.string s))), (2, .ptr 0 0), (3, .bool false), (4, .sl 1 W.length 1 0 W.length), (5, .int k), (6, .ptr 2 0), (7, .int ((manyE k : Nat) : Int)), (8, .d (.val (.string p.2))), (9, .int p.1)],
  [some zBox, some (.dat 9 1 (strR W)), some (.box 25 [.int k, .int a, .int b, .int 0, .int 0, .int 0, .int 0, .int 0, .int 0, .int 0])]⟩
set_option maxHeartbeats 4000000 in
theorem entry23_tri (h : OG G) (s : ByteArray) (hs : s.size ≤ 900000) : Tri Tryd.prog G 9 [.d (.val (.string s))] [] (optEnt (entry23 s)) [] := by
  refine tri_W Tryd.func9 (by decide) irOk9 (Nat.le_of_ble_eq_true rfl) ?_
  simp only [ir9, go_sem, ↓reduceIte, zA, zB, zC, zD, zE, zF, reduceCtorEq, zG, zH, zI, zJ, zK, zL, zM, zN, zO, zP]
  generalize hq : entry23 s = q
  unfold entry23 at hq
  obtain ⟨hW0, hW1⟩ := words_len s
  have hsum := sumW_words s
  refine W_calln (wordsD_tri s (by omega)) rfl rfl rfl ?_
  generalize wordsO s = W at *
  have hWn := strR_len W
  simp only [go_sem, ↓reduceIte, zA, zB, zC, zD, zE, zF, reduceCtorEq, zG, zH, zI, zJ, zK, zL, zM, zN, zO, zP]
  refine W_loopI [0, 2, 3, 4, 5] [] (fun k : Nat => 1 ≤ k ∧ k ≤ 15 ∧ ent23F s W (15 - k) k = q) (fun k => 15 - k) (e23S s W) 1 ?_ ⟨by decide, by decide, hq⟩ ?_
  · simp only [e23S, zBox, go_sem, ↓reduceIte, zA, zB, zC, zD, zE, zF, reduceCtorEq, zG, zH, zI, zJ, zK, zL, zM, zN, zO, zP]
    rfl
  rintro k ⟨hk1, hk, hF⟩
  simp only [e23S, zBox, go_sem, ↓reduceIte, zA, zB, zC, zD, zE, zF, reduceCtorEq, zG, zH, zI, zJ, zK, zL, zM, zN, zO, zP]
  by_cases hlt : k < 15
  case neg =>
    rw [show 15 - k = 0 by omega, ent23F] at hF
    subst hF
    simp only [decide_eq_false (show ¬ ((k : Nat) : Int) ≤ 14 by omega), zeroEnt, zeroOp, Option.isSome_none, Option.getD_none, go_sem, ↓reduceIte, zA, zB, zC, zD, zE, zF, reduceCtorEq, zG, zH, zI, zJ, zK, zL, zM, zN, zO, zP]
    exact BackS (objs' := []) ⟨rfl, rfl⟩ rfl rfl rfl
  rw [show 15 - k = (15 - (k + 1)) + 1 by omega, ent23F] at hF
  have hW0g := get_mapD (f := fun x : ByteArray => [DV.val (.string x)]) ⟨#[]⟩ hW0
  simp only [decide_eq_true (show ((k : Nat) : Int) ≤ 14 by omega), hW0, hWn, strR, hW0g, List.length_map, go_sem, ↓reduceIte, zA, zB, zC, zD, zE, zF, reduceCtorEq, zG, zH, zI, zJ, zK, zL, zM, zN, zO, zP]
  refine WD_calld (word23_tri (k : Int)) rfl rfl rfl rfl ?_; simp only [go_sem, ↓reduceIte, zA, zB, zC, zD, zE, zF, reduceCtorEq, zG, zH, zI, zJ, zK, zL, zM, zN, zO, zP]
  simp only [str_eq, go_sem, ↓reduceIte, zA, zB, zC, zD, zE, zF, reduceCtorEq, zG, zH, zI, zJ, zK, zL, zM, zN, zO, zP]
  by_cases hw : W.getD 0 ⟨#[]⟩ = wordE (k : Int)
  case neg =>
    have ht : ent23Try s W k = none := by unfold ent23Try; rw [if_pos hw]
    rw [ht] at hF
    simp only [decide_eq_false hw, go_sem, ↓reduceIte, zA, zB, zC, zD, zE, zF, reduceCtorEq, zG, zH, zI, zJ, zK, zL, zM, zN, zO, zP]
    refine W_lpI (k + 1) ?_ ?_ ⟨by omega, by omega, hF⟩ (by omega)
    · simp only [go_sem, ↓reduceIte, zA, zB, zC, zD, zE, zF, reduceCtorEq, zG, zH, zI, zJ, zK, zL, zM, zN, zO, zP]
    · simp only [e23S, zBox, strR, wrap_succ (show k < 9223372036854775807 by omega), go_sem, ↓reduceIte, zA, zB, zC, zD, zE, zF, reduceCtorEq, zG, zH, zI, zJ, zK, zL, zM, zN, zO, zP]
  have hk0 : (k : Int) ≠ 0 := by omega
  have hm := manyE_le (k : Int)
  have wm1 : IntKind.i64.wrap (1 + ((manyE (k : Int) : Nat) : Int)) = ((1 + manyE (k : Int) : Nat) : Int) := by rw [wrap_in (by omega) (by omega)]; omega
  simp only [decide_eq_true hw, go_sem, ↓reduceIte, zA, zB, zC, zD, zE, zF, reduceCtorEq, zG, zH, zI, zJ, zK, zL, zM, zN, zO, zP]
  refine W_calld (many23_tri (k : Int) hk0) rfl rfl rfl rfl ?_; simp only [go_sem, ↓reduceIte, zA, zB, zC, zD, zE, zF, reduceCtorEq, zG, zH, zI, zJ, zK, zL, zM, zN, zO, zP]
  simp only [wm1, List.length_map, go_sem, ↓reduceIte, zA, zB, zC, zD, zE, zF, reduceCtorEq, zG, zH, zI, zJ, zK, zL, zM, zN, zO, zP]
  by_cases hlw : W.length < 1 + manyE (k : Int)
  case pos =>
    have ht : ent23Try s W k = some none := by unfold ent23Try; rw [if_neg (fun h => h hw), if_pos hlw]
    rw [ht] at hF
    subst hF
    simp only [decide_eq_true (show ((W.length : Nat) : Int) < ((1 + manyE (k : Int) : Nat) : Int) by omega), zeroEnt, zeroOp, Option.isSome_none, Option.getD_none, go_sem, ↓reduceIte, zA, zB, zC, zD, zE, zF, reduceCtorEq, zG, zH, zI, zJ, zK, zL, zM, zN, zO, zP]
    exact BackS (objs' := []) ⟨rfl, rfl⟩ rfl rfl rfl
  have ht : ent23Try s W k = if wordsE (ent23 W k) = s then some (some (ent23 W k)) else none := by unfold ent23Try; rw [if_neg (fun h => h hw), if_neg hlw]
  simp only [decide_eq_false (show ¬ ((W.length : Nat) : Int) < ((1 + manyE (k : Int) : Nat) : Int) by omega), go_sem, ↓reduceIte, zA, zB, zC, zD, zE, zF, reduceCtorEq, zG, zH, zI, zJ, zK, zL, zM, zN, zO, zP]
  by_cases m0 : manyE (k : Int) = 0
  case pos =>
    simp only [decide_eq_false (show ¬ (((manyE (k : Int) : Nat) : Int)) > 0 by omega), decide_eq_false (show ¬ (((manyE (k : Int) : Nat) : Int)) > 1 by omega), go_sem, ↓reduceIte, zA, zB, zC, zD, zE, zF, reduceCtorEq, zG, zH, zI, zJ, zK, zL, zM, zN, zO, zP]
    by_cases kk : k = 11
    case pos =>
      have hyes : hasOp (k : Int) = true := by unfold hasOp; rw [decide_eq_true_eq]; omega
      have wm : IntKind.i64.wrap (1 + ((manyE (k : Int) : Nat) : Int)) = ((1 + manyE (k : Int) : Nat) : Int) := by rw [wrap_in (by omega) (by omega)]; omega
      simp only [show (((k : Nat) : Int) == 11) = true from beq_iff_eq.2 (by omega), wm, go_sem, ↓reduceIte, zA, zB, zC, zD, zE, zF, reduceCtorEq, zG, zH, zI, zJ, zK, zL, zM, zN, zO, zP]
      generalize hJ : joinGo (W.drop (1 + manyE (k : Int))) true ⟨#[]⟩ = J at *
      have hdr := sumW_drop W (1 + manyE (k : Int))
      refine W_loopI [0, 2, 3, 4, 5, 6, 7, 8, 9] [] (fun p : Nat × ByteArray => 1 + manyE (k : Int) ≤ p.1 ∧ p.1 ≤ W.length ∧ p.2.size + sumW (W.drop p.1) ≤ s.size + 1 ∧ joinGo (W.drop p.1) (decide (p.1 = 1 + manyE (k : Int))) p.2 = J) (fun p => W.length - p.1) (e23T s W k 0 0) (1 + manyE (k : Int), ⟨#[]⟩) ?_ ⟨Nat.le_refl _, by dsimp only; omega, by dsimp only; rw [hsum] at hdr; exact Nat.le_trans (by rw [show (⟨#[]⟩ : ByteArray).size = 0 from rfl, Nat.zero_add]; exact Nat.le_refl _) hdr, by dsimp only; rw [decide_eq_true rfl]; exact hJ⟩ ?_
      · simp only [e23T, zBox, strR, go_sem, ↓reduceIte, zA, zB, zC, zD, zE, zF, reduceCtorEq, zG, zH, zI, zJ, zK, zL, zM, zN, zO, zP]
      rintro ⟨i, acc⟩ ⟨hi0, hi1, hacc, hG⟩
      dsimp only at hi0 hi1 hacc hG
      simp only [e23T, zBox, strR, List.length_map, go_sem, ↓reduceIte, zA, zB, zC, zD, zE, zF, reduceCtorEq, zG, zH, zI, zJ, zK, zL, zM, zN, zO, zP]
      by_cases hil : i < W.length
      case neg =>
        have haJ : acc = J := by
          rw [List.drop_eq_nil_of_le (by omega), joinGo] at hG
          exact hG
        subst haJ
        simp only [decide_eq_false (show ¬ ((i : Nat) : Int) < ((W.length : Nat) : Int) by omega), go_sem, ↓reduceIte, zA, zB, zC, zD, zE, zF, reduceCtorEq, zG, zH, zI, zJ, zK, zL, zM, zN, zO, zP]
        refine W_calld (parse8_tri acc (by omega)) rfl rfl rfl rfl ?_
        unfold optOp
        generalize hP : (parse8 acc).getD zeroOp = po at *
        generalize (parse8 acc).isSome = ps at *
        simp only [go_sem, ↓reduceIte, zA, zB, zC, zD, zE, zF, reduceCtorEq, zG, zH, zI, zJ, zK, zL, zM, zN, zO, zP]
        have hent : ent23 W k = ⟨k, 0, 0, po⟩ := by unfold ent23; rw [hyes, if_pos rfl, hJ, hP, m0]; simp only [show ¬ 0 < 0 from by decide, show ¬ 1 < 0 from by decide, if_false]
        rw [hent] at ht
        refine W_calld (entWords23_tri ⟨k, 0, 0, po⟩) rfl rfl rfl rfl ?_
        simp only [str_eq, go_sem, ↓reduceIte, zA, zB, zC, zD, zE, zF, reduceCtorEq, zG, zH, zI, zJ, zK, zL, zM, zN, zO, zP]
        by_cases hx : wordsE ⟨k, 0, 0, po⟩ = s
        case neg =>
          rw [ht, if_neg hx] at hF
          simp only [decide_eq_false hx, go_sem, ↓reduceIte, zA, zB, zC, zD, zE, zF, reduceCtorEq, zG, zH, zI, zJ, zK, zL, zM, zN, zO, zP]
          refine W_lpI (k + 1) ?_ ?_ ⟨by omega, by omega, hF⟩ (by omega)
          · simp only [go_sem, ↓reduceIte, zA, zB, zC, zD, zE, zF, reduceCtorEq, zG, zH, zI, zJ, zK, zL, zM, zN, zO, zP]
          · simp only [e23S, zBox, strR, wrap_succ (show k < 9223372036854775807 by omega), go_sem, ↓reduceIte, zA, zB, zC, zD, zE, zF, reduceCtorEq, zG, zH, zI, zJ, zK, zL, zM, zN, zO, zP]
        rw [ht, if_pos hx] at hF
        have : q = some ⟨k, 0, 0, po⟩ := hF.symm
        subst this
        simp only [decide_eq_true hx, Option.isSome_some, Option.getD_some, go_sem, ↓reduceIte, zA, zB, zC, zD, zE, zF, reduceCtorEq, zG, zH, zI, zJ, zK, zL, zM, zN, zO, zP]
        exact BackS (objs' := []) ⟨rfl, rfl⟩ rfl rfl rfl
      have hdi : W.drop i = W.getD i ⟨#[]⟩ :: W.drop (i + 1) := dropD_cons W i ⟨#[]⟩ hil
      have hgi := get_mapD (f := fun x : ByteArray => [DV.val (.string x)]) ⟨#[]⟩ hil
      rw [hdi, sumW] at hacc
      rw [hdi, joinGo] at hG
      generalize W.getD i ⟨#[]⟩ = x at *
      have h1a : (#[32] : Array UInt8).size = 1 := rfl
      have h1s : sepB.size = 1 := rfl
      by_cases hif : i = 1 + manyE (k : Int)
      case pos =>
        have hadd : acc.size + x.size ≤ 9223372036854775807 := by omega
        rw [decide_eq_true hif, if_pos rfl] at hG
        simp only [decide_eq_true (show ((i : Nat) : Int) < ((W.length : Nat) : Int) by omega), wm, decide_eq_false (show ¬ ((i : Nat) : Int) > ((1 + manyE (k : Int) : Nat) : Int) by omega), hil, hgi, hadd, if_true, go_sem, ↓reduceIte, zA, zB, zC, zD, zE, zF, reduceCtorEq, zG, zH, zI, zJ, zK, zL, zM, zN, zO, zP]
        refine W_lpI (i + 1, acc ++ x) ?_ ?_ ⟨by dsimp only; omega, by dsimp only; omega, by dsimp only; rw [ByteArray.size_append]; omega, by dsimp only; rw [decide_eq_false (by omega)]; exact hG⟩ (by dsimp only; omega)
        · simp only [go_sem, ↓reduceIte, zA, zB, zC, zD, zE, zF, reduceCtorEq, zG, zH, zI, zJ, zK, zL, zM, zN, zO, zP]
        · simp only [e23T, zBox, strR, wrap_succ (show i < 9223372036854775807 by omega), go_sem, ↓reduceIte, zA, zB, zC, zD, zE, zF, reduceCtorEq, zG, zH, zI, zJ, zK, zL, zM, zN, zO, zP]
      rw [decide_eq_false hif, if_neg (by decide)] at hG
      have hadd1 : acc.size + (#[32] : Array UInt8).size ≤ 9223372036854775807 := by omega
      have hadd2 : acc.size + (#[32] : Array UInt8).size + x.size ≤ 9223372036854775807 := by omega
      simp only [sepB] at hG
      simp only [decide_eq_true (show ((i : Nat) : Int) < ((W.length : Nat) : Int) by omega), wm, decide_eq_true (show ((i : Nat) : Int) > ((1 + manyE (k : Int) : Nat) : Int) by omega), hil, hgi, hadd1, hadd2, if_true, go_sem, ↓reduceIte, zA, zB, zC, zD, zE, zF, reduceCtorEq, zG, zH, zI, zJ, zK, zL, zM, zN, zO, zP]
      refine W_lpI (i + 1, acc ++ (⟨#[32]⟩ : ByteArray) ++ x) ?_ ?_ ⟨by dsimp only; omega, by dsimp only; omega, by dsimp only; rw [ByteArray.size_append, ByteArray.size_append, show (⟨#[32]⟩ : ByteArray).size = 1 from rfl]; omega, by dsimp only; rw [decide_eq_false (by omega)]; exact hG⟩ (by dsimp only; omega)
      · simp only [go_sem, ↓reduceIte, zA, zB, zC, zD, zE, zF, reduceCtorEq, zG, zH, zI, zJ, zK, zL, zM, zN, zO, zP]
      · simp only [e23T, zBox, strR, wrap_succ (show i < 9223372036854775807 by omega), go_sem, ↓reduceIte, zA, zB, zC, zD, zE, zF, reduceCtorEq, zG, zH, zI, zJ, zK, zL, zM, zN, zO, zP]
    have hno : hasOp (k : Int) = false := by
      unfold hasOp; rw [decide_eq_false_iff_not]
      intro hh; rcases hh with hh | hh
      · omega
      · rw [hh] at m0; revert m0; decide
    have hk11 : k ≠ 11 := fun hh => by rw [hh] at hno; revert hno; decide
    have hk13 : k ≠ 13 := fun hh => by rw [hh] at hno; revert hno; decide
    simp only [show (((k : Nat) : Int) == 11) = false from beq_eq_false_iff_ne.2 (by omega), show (((k : Nat) : Int) == 13) = false from beq_eq_false_iff_ne.2 (by omega), go_sem, ↓reduceIte, zA, zB, zC, zD, zE, zF, reduceCtorEq, zG, zH, zI, zJ, zK, zL, zM, zN, zO, zP]
    have hent : ent23 W k = ⟨k, 0, 0, ⟨0, 0, 0, 0, 0, 0, 0⟩⟩ := by unfold ent23; rw [m0]; simp only [show ¬ 0 < 0 from by decide, show ¬ 1 < 0 from by decide, if_false, hno, Bool.false_eq_true]; try rfl
    rw [hent] at ht
    refine W_calld (entWords23_tri ⟨k, 0, 0, ⟨0, 0, 0, 0, 0, 0, 0⟩⟩) rfl rfl rfl rfl ?_
    simp only [str_eq, go_sem, ↓reduceIte, zA, zB, zC, zD, zE, zF, reduceCtorEq, zG, zH, zI, zJ, zK, zL, zM, zN, zO, zP]
    by_cases hx : wordsE ⟨k, 0, 0, ⟨0, 0, 0, 0, 0, 0, 0⟩⟩ = s
    case neg =>
      rw [ht, if_neg hx] at hF
      simp only [decide_eq_false hx, go_sem, ↓reduceIte, zA, zB, zC, zD, zE, zF, reduceCtorEq, zG, zH, zI, zJ, zK, zL, zM, zN, zO, zP]
      refine W_lpI (k + 1) ?_ ?_ ⟨by omega, by omega, hF⟩ (by omega)
      · simp only [go_sem, ↓reduceIte, zA, zB, zC, zD, zE, zF, reduceCtorEq, zG, zH, zI, zJ, zK, zL, zM, zN, zO, zP]
      · simp only [e23S, zBox, strR, wrap_succ (show k < 9223372036854775807 by omega), go_sem, ↓reduceIte, zA, zB, zC, zD, zE, zF, reduceCtorEq, zG, zH, zI, zJ, zK, zL, zM, zN, zO, zP]
    rw [ht, if_pos hx] at hF
    have : q = some ⟨k, 0, 0, ⟨0, 0, 0, 0, 0, 0, 0⟩⟩ := hF.symm
    subst this
    simp only [decide_eq_true hx, Option.isSome_some, Option.getD_some, go_sem, ↓reduceIte, zA, zB, zC, zD, zE, zF, reduceCtorEq, zG, zH, zI, zJ, zK, zL, zM, zN, zO, zP]
    exact BackS (objs' := []) ⟨rfl, rfl⟩ rfl rfl rfl
  have h1w : 1 < W.length := by omega
  have hg1 := get_mapD (f := fun x : ByteArray => [DV.val (.string x)]) ⟨#[]⟩ h1w
  simp only [decide_eq_true (show (((manyE (k : Int) : Nat) : Int)) > 0 by omega), h1w, hg1, go_sem, ↓reduceIte, zA, zB, zC, zD, zE, zF, reduceCtorEq, zG, zH, zI, zJ, zK, zL, zM, zN, zO, zP]
  refine W_calld (value_tri (W.getD 1 ⟨#[]⟩)) rfl rfl rfl rfl ?_; simp only [go_sem, ↓reduceIte, zA, zB, zC, zD, zE, zF, reduceCtorEq, zG, zH, zI, zJ, zK, zL, zM, zN, zO, zP]
  by_cases m1 : manyE (k : Int) = 1
  case pos =>
    simp only [decide_eq_false (show ¬ (((manyE (k : Int) : Nat) : Int)) > 1 by omega), go_sem, ↓reduceIte, zA, zB, zC, zD, zE, zF, reduceCtorEq, zG, zH, zI, zJ, zK, zL, zM, zN, zO, zP]
    generalize hV1 : valW (W.getD 1 ⟨#[]⟩) = va at *
    by_cases kk : k = 13
    case pos =>
      have hyes : hasOp (k : Int) = true := by unfold hasOp; rw [decide_eq_true_eq]; omega
      have wm : IntKind.i64.wrap (1 + ((manyE (k : Int) : Nat) : Int)) = ((1 + manyE (k : Int) : Nat) : Int) := by rw [wrap_in (by omega) (by omega)]; omega
      simp only [show (((k : Nat) : Int) == 11) = false from beq_eq_false_iff_ne.2 (by omega), show (((k : Nat) : Int) == 13) = true from beq_iff_eq.2 (by omega), wm, go_sem, ↓reduceIte, zA, zB, zC, zD, zE, zF, reduceCtorEq, zG, zH, zI, zJ, zK, zL, zM, zN, zO, zP]
      generalize hJ : joinGo (W.drop (1 + manyE (k : Int))) true ⟨#[]⟩ = J at *
      have hdr := sumW_drop W (1 + manyE (k : Int))
      refine W_loopI [0, 2, 3, 4, 5, 6, 7, 8, 9] [] (fun p : Nat × ByteArray => 1 + manyE (k : Int) ≤ p.1 ∧ p.1 ≤ W.length ∧ p.2.size + sumW (W.drop p.1) ≤ s.size + 1 ∧ joinGo (W.drop p.1) (decide (p.1 = 1 + manyE (k : Int))) p.2 = J) (fun p => W.length - p.1) (e23T s W k va 0) (1 + manyE (k : Int), ⟨#[]⟩) ?_ ⟨Nat.le_refl _, by dsimp only; omega, by dsimp only; rw [hsum] at hdr; exact Nat.le_trans (by rw [show (⟨#[]⟩ : ByteArray).size = 0 from rfl, Nat.zero_add]; exact Nat.le_refl _) hdr, by dsimp only; rw [decide_eq_true rfl]; exact hJ⟩ ?_
      · simp only [e23T, zBox, strR, go_sem, ↓reduceIte, zA, zB, zC, zD, zE, zF, reduceCtorEq, zG, zH, zI, zJ, zK, zL, zM, zN, zO, zP]
      rintro ⟨i, acc⟩ ⟨hi0, hi1, hacc, hG⟩
      dsimp only at hi0 hi1 hacc hG
      simp only [e23T, zBox, strR, List.length_map, go_sem, ↓reduceIte, zA, zB, zC, zD, zE, zF, reduceCtorEq, zG, zH, zI, zJ, zK, zL, zM, zN, zO, zP]
      by_cases hil : i < W.length
      case neg =>
        have haJ : acc = J := by
          rw [List.drop_eq_nil_of_le (by omega), joinGo] at hG
          exact hG
        subst haJ
        simp only [decide_eq_false (show ¬ ((i : Nat) : Int) < ((W.length : Nat) : Int) by omega), go_sem, ↓reduceIte, zA, zB, zC, zD, zE, zF, reduceCtorEq, zG, zH, zI, zJ, zK, zL, zM, zN, zO, zP]
        refine W_calld (parse8_tri acc (by omega)) rfl rfl rfl rfl ?_
        unfold optOp
        generalize hP : (parse8 acc).getD zeroOp = po at *
        generalize (parse8 acc).isSome = ps at *
        simp only [go_sem, ↓reduceIte, zA, zB, zC, zD, zE, zF, reduceCtorEq, zG, zH, zI, zJ, zK, zL, zM, zN, zO, zP]
        have hent : ent23 W k = ⟨k, va, 0, po⟩ := by unfold ent23; rw [hyes, if_pos rfl, hJ, hP, m1]; simp only [show 0 < 1 from by decide, show ¬ 1 < 1 from by decide, if_true, if_false, hV1]
        rw [hent] at ht
        refine W_calld (entWords23_tri ⟨k, va, 0, po⟩) rfl rfl rfl rfl ?_
        simp only [str_eq, go_sem, ↓reduceIte, zA, zB, zC, zD, zE, zF, reduceCtorEq, zG, zH, zI, zJ, zK, zL, zM, zN, zO, zP]
        by_cases hx : wordsE ⟨k, va, 0, po⟩ = s
        case neg =>
          rw [ht, if_neg hx] at hF
          simp only [decide_eq_false hx, go_sem, ↓reduceIte, zA, zB, zC, zD, zE, zF, reduceCtorEq, zG, zH, zI, zJ, zK, zL, zM, zN, zO, zP]
          refine W_lpI (k + 1) ?_ ?_ ⟨by omega, by omega, hF⟩ (by omega)
          · simp only [go_sem, ↓reduceIte, zA, zB, zC, zD, zE, zF, reduceCtorEq, zG, zH, zI, zJ, zK, zL, zM, zN, zO, zP]
          · simp only [e23S, zBox, strR, wrap_succ (show k < 9223372036854775807 by omega), go_sem, ↓reduceIte, zA, zB, zC, zD, zE, zF, reduceCtorEq, zG, zH, zI, zJ, zK, zL, zM, zN, zO, zP]
        rw [ht, if_pos hx] at hF
        have : q = some ⟨k, va, 0, po⟩ := hF.symm
        subst this
        simp only [decide_eq_true hx, Option.isSome_some, Option.getD_some, go_sem, ↓reduceIte, zA, zB, zC, zD, zE, zF, reduceCtorEq, zG, zH, zI, zJ, zK, zL, zM, zN, zO, zP]
        exact BackS (objs' := []) ⟨rfl, rfl⟩ rfl rfl rfl
      have hdi : W.drop i = W.getD i ⟨#[]⟩ :: W.drop (i + 1) := dropD_cons W i ⟨#[]⟩ hil
      have hgi := get_mapD (f := fun x : ByteArray => [DV.val (.string x)]) ⟨#[]⟩ hil
      rw [hdi, sumW] at hacc
      rw [hdi, joinGo] at hG
      generalize W.getD i ⟨#[]⟩ = x at *
      have h1a : (#[32] : Array UInt8).size = 1 := rfl
      have h1s : sepB.size = 1 := rfl
      by_cases hif : i = 1 + manyE (k : Int)
      case pos =>
        have hadd : acc.size + x.size ≤ 9223372036854775807 := by omega
        rw [decide_eq_true hif, if_pos rfl] at hG
        simp only [decide_eq_true (show ((i : Nat) : Int) < ((W.length : Nat) : Int) by omega), wm, decide_eq_false (show ¬ ((i : Nat) : Int) > ((1 + manyE (k : Int) : Nat) : Int) by omega), hil, hgi, hadd, if_true, go_sem, ↓reduceIte, zA, zB, zC, zD, zE, zF, reduceCtorEq, zG, zH, zI, zJ, zK, zL, zM, zN, zO, zP]
        refine W_lpI (i + 1, acc ++ x) ?_ ?_ ⟨by dsimp only; omega, by dsimp only; omega, by dsimp only; rw [ByteArray.size_append]; omega, by dsimp only; rw [decide_eq_false (by omega)]; exact hG⟩ (by dsimp only; omega)
        · simp only [go_sem, ↓reduceIte, zA, zB, zC, zD, zE, zF, reduceCtorEq, zG, zH, zI, zJ, zK, zL, zM, zN, zO, zP]
        · simp only [e23T, zBox, strR, wrap_succ (show i < 9223372036854775807 by omega), go_sem, ↓reduceIte, zA, zB, zC, zD, zE, zF, reduceCtorEq, zG, zH, zI, zJ, zK, zL, zM, zN, zO, zP]
      rw [decide_eq_false hif, if_neg (by decide)] at hG
      have hadd1 : acc.size + (#[32] : Array UInt8).size ≤ 9223372036854775807 := by omega
      have hadd2 : acc.size + (#[32] : Array UInt8).size + x.size ≤ 9223372036854775807 := by omega
      simp only [sepB] at hG
      simp only [decide_eq_true (show ((i : Nat) : Int) < ((W.length : Nat) : Int) by omega), wm, decide_eq_true (show ((i : Nat) : Int) > ((1 + manyE (k : Int) : Nat) : Int) by omega), hil, hgi, hadd1, hadd2, if_true, go_sem, ↓reduceIte, zA, zB, zC, zD, zE, zF, reduceCtorEq, zG, zH, zI, zJ, zK, zL, zM, zN, zO, zP]
      refine W_lpI (i + 1, acc ++ (⟨#[32]⟩ : ByteArray) ++ x) ?_ ?_ ⟨by dsimp only; omega, by dsimp only; omega, by dsimp only; rw [ByteArray.size_append, ByteArray.size_append, show (⟨#[32]⟩ : ByteArray).size = 1 from rfl]; omega, by dsimp only; rw [decide_eq_false (by omega)]; exact hG⟩ (by dsimp only; omega)
      · simp only [go_sem, ↓reduceIte, zA, zB, zC, zD, zE, zF, reduceCtorEq, zG, zH, zI, zJ, zK, zL, zM, zN, zO, zP]
      · simp only [e23T, zBox, strR, wrap_succ (show i < 9223372036854775807 by omega), go_sem, ↓reduceIte, zA, zB, zC, zD, zE, zF, reduceCtorEq, zG, zH, zI, zJ, zK, zL, zM, zN, zO, zP]
    have hno : hasOp (k : Int) = false := by
      unfold hasOp; rw [decide_eq_false_iff_not]
      intro hh; rcases hh with hh | hh
      · rw [hh] at m1; revert m1; decide
      · omega
    have hk11 : k ≠ 11 := fun hh => by rw [hh] at hno; revert hno; decide
    have hk13 : k ≠ 13 := fun hh => by rw [hh] at hno; revert hno; decide
    simp only [show (((k : Nat) : Int) == 11) = false from beq_eq_false_iff_ne.2 (by omega), show (((k : Nat) : Int) == 13) = false from beq_eq_false_iff_ne.2 (by omega), go_sem, ↓reduceIte, zA, zB, zC, zD, zE, zF, reduceCtorEq, zG, zH, zI, zJ, zK, zL, zM, zN, zO, zP]
    have hent : ent23 W k = ⟨k, va, 0, ⟨0, 0, 0, 0, 0, 0, 0⟩⟩ := by unfold ent23; rw [m1]; simp only [show 0 < 1 from by decide, show ¬ 1 < 1 from by decide, if_true, if_false, hV1, hno, Bool.false_eq_true]; try rfl
    rw [hent] at ht
    refine W_calld (entWords23_tri ⟨k, va, 0, ⟨0, 0, 0, 0, 0, 0, 0⟩⟩) rfl rfl rfl rfl ?_
    simp only [str_eq, go_sem, ↓reduceIte, zA, zB, zC, zD, zE, zF, reduceCtorEq, zG, zH, zI, zJ, zK, zL, zM, zN, zO, zP]
    by_cases hx : wordsE ⟨k, va, 0, ⟨0, 0, 0, 0, 0, 0, 0⟩⟩ = s
    case neg =>
      rw [ht, if_neg hx] at hF
      simp only [decide_eq_false hx, go_sem, ↓reduceIte, zA, zB, zC, zD, zE, zF, reduceCtorEq, zG, zH, zI, zJ, zK, zL, zM, zN, zO, zP]
      refine W_lpI (k + 1) ?_ ?_ ⟨by omega, by omega, hF⟩ (by omega)
      · simp only [go_sem, ↓reduceIte, zA, zB, zC, zD, zE, zF, reduceCtorEq, zG, zH, zI, zJ, zK, zL, zM, zN, zO, zP]
      · simp only [e23S, zBox, strR, wrap_succ (show k < 9223372036854775807 by omega), go_sem, ↓reduceIte, zA, zB, zC, zD, zE, zF, reduceCtorEq, zG, zH, zI, zJ, zK, zL, zM, zN, zO, zP]
    rw [ht, if_pos hx] at hF
    have : q = some ⟨k, va, 0, ⟨0, 0, 0, 0, 0, 0, 0⟩⟩ := hF.symm
    subst this
    simp only [decide_eq_true hx, Option.isSome_some, Option.getD_some, go_sem, ↓reduceIte, zA, zB, zC, zD, zE, zF, reduceCtorEq, zG, zH, zI, zJ, zK, zL, zM, zN, zO, zP]
    exact BackS (objs' := []) ⟨rfl, rfl⟩ rfl rfl rfl
  have m2 : manyE (k : Int) = 2 := by omega
  have h2w : 2 < W.length := by omega
  have hg2 := get_mapD (f := fun x : ByteArray => [DV.val (.string x)]) ⟨#[]⟩ h2w
  simp only [decide_eq_true (show (((manyE (k : Int) : Nat) : Int)) > 1 by omega), h2w, hg2, go_sem, ↓reduceIte, zA, zB, zC, zD, zE, zF, reduceCtorEq, zG, zH, zI, zJ, zK, zL, zM, zN, zO, zP]
  refine W_calld (value_tri (W.getD 2 ⟨#[]⟩)) rfl rfl rfl rfl ?_; simp only [go_sem, ↓reduceIte, zA, zB, zC, zD, zE, zF, reduceCtorEq, zG, zH, zI, zJ, zK, zL, zM, zN, zO, zP]
  generalize hV1 : valW (W.getD 1 ⟨#[]⟩) = va at *
  generalize hV2 : valW (W.getD 2 ⟨#[]⟩) = vb at *
  have hno : hasOp (k : Int) = false := by
    unfold hasOp; rw [decide_eq_false_iff_not]
    intro hh; rcases hh with hh | hh
    · rw [hh] at m2; revert m2; decide
    · rw [hh] at m2; revert m2; decide
  have hk11 : k ≠ 11 := fun hh => by rw [hh] at hno; revert hno; decide
  have hk13 : k ≠ 13 := fun hh => by rw [hh] at hno; revert hno; decide
  simp only [show (((k : Nat) : Int) == 11) = false from beq_eq_false_iff_ne.2 (by omega), show (((k : Nat) : Int) == 13) = false from beq_eq_false_iff_ne.2 (by omega), go_sem, ↓reduceIte, zA, zB, zC, zD, zE, zF, reduceCtorEq, zG, zH, zI, zJ, zK, zL, zM, zN, zO, zP]
  have hent : ent23 W k = ⟨k, va, vb, ⟨0, 0, 0, 0, 0, 0, 0⟩⟩ := by unfold ent23; rw [m2]; simp only [show 0 < 2 from by decide, show 1 < 2 from by decide, if_true, if_false, hV1, hV2, hno, Bool.false_eq_true]; try rfl
  rw [hent] at ht
  refine W_calld (entWords23_tri ⟨k, va, vb, ⟨0, 0, 0, 0, 0, 0, 0⟩⟩) rfl rfl rfl rfl ?_
  simp only [str_eq, go_sem, ↓reduceIte, zA, zB, zC, zD, zE, zF, reduceCtorEq, zG, zH, zI, zJ, zK, zL, zM, zN, zO, zP]
  by_cases hx : wordsE ⟨k, va, vb, ⟨0, 0, 0, 0, 0, 0, 0⟩⟩ = s
  case neg =>
    rw [ht, if_neg hx] at hF
    simp only [decide_eq_false hx, go_sem, ↓reduceIte, zA, zB, zC, zD, zE, zF, reduceCtorEq, zG, zH, zI, zJ, zK, zL, zM, zN, zO, zP]
    refine W_lpI (k + 1) ?_ ?_ ⟨by omega, by omega, hF⟩ (by omega)
    · simp only [go_sem, ↓reduceIte, zA, zB, zC, zD, zE, zF, reduceCtorEq, zG, zH, zI, zJ, zK, zL, zM, zN, zO, zP]
    · simp only [e23S, zBox, strR, wrap_succ (show k < 9223372036854775807 by omega), go_sem, ↓reduceIte, zA, zB, zC, zD, zE, zF, reduceCtorEq, zG, zH, zI, zJ, zK, zL, zM, zN, zO, zP]
  rw [ht, if_pos hx] at hF
  have : q = some ⟨k, va, vb, ⟨0, 0, 0, 0, 0, 0, 0⟩⟩ := hF.symm
  subst this
  simp only [decide_eq_true hx, Option.isSome_some, Option.getD_some, go_sem, ↓reduceIte, zA, zB, zC, zD, zE, zF, reduceCtorEq, zG, zH, zI, zJ, zK, zL, zM, zN, zO, zP]
  exact BackS (objs' := []) ⟨rfl, rfl⟩ rfl rfl rfl
end Dv

namespace Dv
open Go Go.Proofs
open Nat renaming reduceEqDiff → zA, reduceAdd → zB, reduceSub → zC, reduceMul → zD, reduceLT → zE, reduceLeDiff → zF
open Int renaming reduceLE → zG, reduceLT → zH, reduceToNat → zI, reduceBEq → zJ, reduceBNe → zK, reduceEq → zL, reduceAdd → zM, reduceSub → zN, reduceMul → zO, reduceNeg → zP
attribute [local go_sem] argEnv W_nil W_seq W_skip W_ret W_exit W_scope W_block W_blk W_reg W_regD W_cond WC_t WC_f WC_any Wx_c Wx_ops Wx_lp Wx_blk W_ops_nil W_opsD_q W_guard W_guardD WG_tt WG_ff WG_tf WG_ft WG_u WGD_tt WGD_ff WGD_tf WGD_ft WGD_u WE_some WED_some W_more W_mv W_pick W_new W_box W_build W_bsl W_ld1 W_ldn W_st W_nck W_bin W_eqb W_not W_cvt W_fad W_fld1 W_fldn W_ixa W_ixr W_ix1 W_ixs W_len W_lens W_mkf W_ext W_app W_min W_isnp W_isns W_eqs W_neg W_ixn W_sli W_sls WD_more WD_mv WD_pick WD_new WD_box WD_build WD_bsl WD_ld1 WD_ldn WD_st WD_nck WD_bin WD_eqb WD_not WD_cvt WD_fad WD_fld1 WD_fldn WD_ixa WD_ixr WD_ix1 WD_ixs WD_len WD_lens WD_mkf WD_ext WD_app WD_min WD_isnp WD_isns WD_eqs WD_neg WD_ixn WD_sli WD_sls effF effM bytesOf Opd.ev getE putE binV LV.int LV.bool LV.undef Go.undef LV.cells LV.toD LV.toDs splice fillL rowsOf boxOf srcRows updL objL Eff.owned nwp St.get St.obj St.put Value.oneCell' Ends adopt Ad.ap isNil St.keep St.okKeep okObj idl idlL idlO RVs.of RV.of oneOr Ends0 EndsO_iff frzs rn rnL rnO piOf eqCells eqV boundV Option.map_some Option.map_none List.append_nil List.nil_append List.cons_append List.map_nil List.map_cons List.length_nil List.length_cons List.set_cons_zero List.set_cons_succ List.take_succ_cons List.take_zero List.take_nil List.drop_succ_cons List.drop_zero List.drop_nil List.getElem?_cons_zero List.getElem?_cons_succ List.getElem?_nil List.isEmpty_nil List.isEmpty_cons List.all_cons List.all_nil List.isEmpty_nil cond_true cond_false Bool.true_and Bool.false_and Bool.and_true Bool.and_false Bool.not_true Bool.not_false Bool.or_true Bool.true_or Bool.or_false Bool.false_or true_and and_true true_or or_true Option.some.injEq LV.d.injEq DV.val.injEq Value.bool.injEq Value.int.injEq decide_true decide_false and_self Nat.zero_add Nat.add_zero if_true if_false Int.toNat_zero beq_self_eq_true Nat.zero_lt_succ Int.toNat_natCast Int.natCast_nonneg List.length_map i64 bl List.zip_cons_cons List.zip_nil_left List.zip_nil_right nwp confV stateV nodeV jobV nodesV jobsV opV msgV nodeR jobR opR msgR zeroOp zeroMsg msgsV
variable {G : Nat → Option (List DV)}

/-- dunnageref23.Text -/
def ir17 : Nat × C × List RV := (25,
(.seq (.reg [⟨(some 2), .mv (.c (.val (.string ⟨#[]⟩))), none, []⟩])
 (.seq (.reg [⟨(some 3), .mv (.c (.val (.string ⟨#[]⟩))), none, []⟩])
 (.seq (.seq (.reg [⟨(some 4), .mv (.c (.val (.int .i64 0))), none, []⟩])
 (.block 0 (.loop (.seq (.seq (.reg [⟨(some 5), .mv (.t 4), none, []⟩,
 ⟨(some 6), .mv (.t 0), none, []⟩,
 ⟨(some 7), .len (.t 6), none, []⟩,
 ⟨(some 8), .bin .lss (.t 5) (.t 7), none, []⟩])
 (.cond (.t 8) .skip
 (.exit 0)))
 (.seq (.block 1 (.seq (.reg [⟨(some 11), .mv (.t 0), none, []⟩,
 ⟨(some 12), .mv (.t 4), none, []⟩,
 ⟨(some 13), .ixa 10 (.t 11) (.t 12), none, []⟩,
 ⟨(some 14), .ldn 10 (.t 13), none, []⟩,
 ⟨(some 15), .call (.f 11) [(.t 14)], none, []⟩])
 (.cond (.t 15) (.reg [⟨(some 16), .mv (.t 3), none, []⟩,
 ⟨(some 17), .mv (.t 0), none, []⟩,
 ⟨(some 18), .mv (.t 4), none, []⟩,
 ⟨(some 19), .ixa 10 (.t 17) (.t 18), none, []⟩,
 ⟨(some 20), .ldn 10 (.t 19), none, []⟩,
 ⟨(some 21), .call (.f 13) [(.t 20)], none, []⟩,
 ⟨(some 22), .bin .add (.t 16) (.t 21), none, []⟩,
 ⟨(some 23), .bin .add (.t 22) (.c (.val (.string ⟨#[10]⟩))), none, []⟩,
 ⟨(some 3), .mv (.t 23), none, []⟩])
 .skip)))
 (.reg [⟨(some 9), .mv (.t 4), none, []⟩,
 ⟨(some 10), .bin .add (.t 9) (.c (.val (.int .i64 1))), none, []⟩,
 ⟨(some 4), .mv (.t 10), none, []⟩]))))))
 (.seq (.reg [⟨(some 24), .mv (.t 3), none, []⟩,
 ⟨(some 2), .mv (.t 24), none, []⟩])
 .ret)))),
[(.t 2)])
theorem irOk17 : convFn Tryd.prog Tryd.f17 = some ir17 := by kernel_rfl
/-- dunnageref23.Same -/
def ir18 : Nat × C × List RV := (26,
(.seq (.reg [⟨(some 4), .mv (.c (.val (.bool false))), none, []⟩])
 (.seq (.seq (.reg [⟨(some 6), .mv (.t 0), none, []⟩,
 ⟨(some 7), .len (.t 6), none, []⟩,
 ⟨(some 8), .mv (.t 1), none, []⟩,
 ⟨(some 9), .len (.t 8), none, []⟩,
 ⟨(some 10), .bin .neq (.t 7) (.t 9), none, []⟩])
 (.cond (.t 10) (.seq (.reg [⟨(some 4), .mv (.c (.val (.bool false))), none, []⟩])
 .ret)
 .skip))
 (.seq (.seq (.reg [⟨(some 5), .mv (.c (.val (.int .i64 0))), none, []⟩])
 (.block 0 (.loop (.seq (.seq (.reg [⟨(some 11), .mv (.t 5), none, []⟩,
 ⟨(some 12), .mv (.t 0), none, []⟩,
 ⟨(some 13), .len (.t 12), none, []⟩,
 ⟨(some 14), .bin .lss (.t 11) (.t 13), none, []⟩])
 (.cond (.t 14) .skip
 (.exit 0)))
 (.seq (.block 1 (.seq (.regD [⟨(some 17), .mv (.t 0), none, []⟩,
 ⟨(some 18), .mv (.t 5), none, []⟩,
 ⟨(some 19), .ixa 10 (.t 17) (.t 18), none, [0, 1]⟩,
 ⟨(some 20), .ldn 10 (.t 19), none, [2, 0, 1]⟩,
 ⟨(some 21), .mv (.t 1), none, []⟩,
 ⟨(some 22), .mv (.t 5), none, []⟩,
 ⟨(some 23), .ixa 10 (.t 21) (.t 22), none, [4, 5]⟩,
 ⟨(some 24), .ldn 10 (.t 23), none, [6, 4, 5]⟩,
 ⟨(some 25), .eqs true [0, 0, 0, 0, 0, 0, 0, 0, 0, 0] (.t 20) (.t 24), none, [3, 2, 0, 1, 7, 6, 4, 5]⟩])
 (.cond (.t 25) (.seq (.reg [⟨(some 4), .mv (.c (.val (.bool false))), none, []⟩])
 .ret)
 .skip)))
 (.reg [⟨(some 15), .mv (.t 5), none, []⟩,
 ⟨(some 16), .bin .add (.t 15) (.c (.val (.int .i64 1))), none, []⟩,
 ⟨(some 5), .mv (.t 16), none, []⟩]))))))
 (.seq (.reg [⟨(some 4), .mv (.c (.val (.bool true))), none, []⟩])
 .ret)))),
[(.t 4)])
theorem irOk18 : convFn Tryd.prog Tryd.f18 = some ir18 := by kernel_rfl
/-- dunnageref01.Ints -/
def ir19 : Nat × C × List RV := (26,
(.seq (.reg [⟨(some 4), .mv (.c (.val (.bool false))), none, []⟩])
 (.seq (.seq (.reg [⟨(some 6), .mv (.t 0), none, []⟩,
 ⟨(some 7), .len (.t 6), none, []⟩,
 ⟨(some 8), .mv (.t 1), none, []⟩,
 ⟨(some 9), .len (.t 8), none, []⟩,
 ⟨(some 10), .bin .neq (.t 7) (.t 9), none, []⟩])
 (.cond (.t 10) (.seq (.reg [⟨(some 4), .mv (.c (.val (.bool false))), none, []⟩])
 .ret)
 .skip))
 (.seq (.seq (.reg [⟨(some 5), .mv (.c (.val (.int .i64 0))), none, []⟩])
 (.block 0 (.loop (.seq (.seq (.reg [⟨(some 11), .mv (.t 5), none, []⟩,
 ⟨(some 12), .mv (.t 0), none, []⟩,
 ⟨(some 13), .len (.t 12), none, []⟩,
 ⟨(some 14), .bin .lss (.t 11) (.t 13), none, []⟩])
 (.cond (.t 14) .skip
 (.exit 0)))
 (.seq (.block 1 (.seq (.regD [⟨(some 17), .mv (.t 0), none, []⟩,
 ⟨(some 18), .mv (.t 5), none, []⟩,
 ⟨(some 19), .ixa 1 (.t 17) (.t 18), none, [0, 1]⟩,
 ⟨(some 20), .ld1 (.t 19), none, [2, 0, 1]⟩,
 ⟨(some 21), .mv (.t 1), none, []⟩,
 ⟨(some 22), .mv (.t 5), none, []⟩,
 ⟨(some 23), .ixa 1 (.t 21) (.t 22), none, [4, 5]⟩,
 ⟨(some 24), .ld1 (.t 23), none, [6, 4, 5]⟩,
 ⟨(some 25), .bin .neq (.t 20) (.t 24), none, [3, 2, 0, 1, 7, 6, 4, 5]⟩])
 (.cond (.t 25) (.seq (.reg [⟨(some 4), .mv (.c (.val (.bool false))), none, []⟩])
 .ret)
 .skip)))
 (.reg [⟨(some 15), .mv (.t 5), none, []⟩,
 ⟨(some 16), .bin .add (.t 15) (.c (.val (.int .i64 1))), none, []⟩,
 ⟨(some 5), .mv (.t 16), none, []⟩]))))))
 (.seq (.reg [⟨(some 4), .mv (.c (.val (.bool true))), none, []⟩])
 .ret)))),
[(.t 4)])
theorem irOk19 : convFn Tryd.prog Tryd.f19 = some ir19 := by kernel_rfl

attribute [local go_sem] optEnt

def entRows (l : List EntD) : List (List DV) := l.map entR
def entsV (l : List EntD) : LV := .d (.lst 10 (entRows l))
theorem entRows_len (l : List EntD) : (entRows l).length = l.length := by simp [entRows]
def textGo : List EntD → ByteArray → ByteArray
  | [], acc => acc
  | e :: l, acc => textGo l (if entOkB e = true then acc ++ (wordsE e ++ ⟨#[10]⟩) else acc)
def textE (l : List EntD) : ByteArray := textGo l ⟨#[]⟩
theorem textL_size : ∀ (l : List Int) (acc : ByteArray), (∀ n ∈ l, 0 ≤ n ∧ n ≤ 1000000) → (textL acc l).size ≤ acc.size + 8 * l.length
  | [], acc, _ => by simp [textL]
  | n :: l, acc, hl => by
    have hn := hl n (List.mem_cons_self)
    have hz := itoaB_size n hn.1 hn.2
    have := textL_size l (acc ++ (sepB ++ itoaB n)) (fun x hx => hl x (List.mem_cons_of_mem _ hx))
    rw [ByteArray.size_append, ByteArray.size_append, show sepB.size = 1 from rfl] at this
    rw [textL, List.length_cons]
    omega
theorem wordsE_size (e : EntD) : (wordsE e).size ≤ 200 := by
  unfold wordsE
  split
  · rename_i h
    obtain ⟨hk, ha, hb, ho⟩ := entOk_rng h
    have hws := wordE_size e.kind
    have hm := manyE_le e.kind
    have hr : ∀ n ∈ numsE e, 0 ≤ n ∧ n ≤ 1000000 := fun n hn => by
      have := List.mem_of_mem_take hn
      simp at this
      rcases this with rfl | rfl
      · exact ha
      · exact hb
    have hnl : (numsE e).length ≤ 2 := by unfold numsE; rw [List.length_take]; omega
    have h2 := textL_size (numsE e) (wordE e.kind) hr
    have ht := textO_size_le e.op
    unfold wordsB
    split
    · rw [ByteArray.size_append, ByteArray.size_append, show sepB.size = 1 from rfl]; omega
    · omega
  · decide
def t23S (l : List EntD) (p : Nat × ByteArray) : St := ⟨[(0, entsV l), (3, .d (.val (.string p.2))), (4, .int p.1)], []⟩
attribute [local go_sem] entsV
set_option maxHeartbeats 1000000 in
theorem text23_tri (l : List EntD) (hl : l.length ≤ 100000) : Tri Tryd.prog G 17 [entsV l] [] (.d (.val (.string (textE l)))) [] := by
  have hnl := entRows_len l
  refine tri_W0 Tryd.func17 (by decide) irOk17 (Nat.le_of_ble_eq_true rfl) rfl ?_
  simp only [ir17, go_sem, ↓reduceIte, zA, zB, zC, zD, zE, zF, reduceCtorEq, zG, zH, zI, zJ, zK, zL, zM, zN, zO, zP]
  generalize hq : textE l = q
  unfold textE at hq
  refine W_loopI [0, 3, 4] [] (fun p : Nat × ByteArray => p.1 ≤ l.length ∧ p.2.size ≤ 201 * p.1 ∧ textGo (l.drop p.1) p.2 = q) (fun p => l.length - p.1) (t23S l) (0, ⟨#[]⟩) ?_ ⟨Nat.zero_le _, Nat.zero_le _, hq⟩ ?_
  · simp only [t23S, Int.natCast_zero, go_sem, ↓reduceIte, zA, zB, zC, zD, zE, zF, reduceCtorEq, zG, zH, zI, zJ, zK, zL, zM, zN, zO, zP]
  rintro ⟨i, acc⟩ ⟨hi, hsz, hF⟩
  dsimp only at hi hsz hF
  simp only [t23S, hnl, go_sem, ↓reduceIte, zA, zB, zC, zD, zE, zF, reduceCtorEq, zG, zH, zI, zJ, zK, zL, zM, zN, zO, zP]
  by_cases hlt : i < l.length
  case neg =>
    rw [List.drop_eq_nil_of_le (by omega), textGo] at hF
    subst hF
    simp only [decide_eq_false (show ¬ ((i : Nat) : Int) < ((l.length : Nat) : Int) by omega), go_sem, ↓reduceIte, zA, zB, zC, zD, zE, zF, reduceCtorEq, zG, zH, zI, zJ, zK, zL, zM, zN, zO, zP]
  have hg := get_mapD (f := entR) zeroEnt hlt
  have hd := dropD_cons l i zeroEnt hlt
  rw [hd, textGo] at hF
  have hwz := wordsE_size (l.getD i zeroEnt)
  generalize l.getD i zeroEnt = e at *
  have hgb : (entRows l)[i]? = some (entR e) := hg
  simp only [entR] at hgb
  simp only [decide_eq_true (show ((i : Nat) : Int) < ((l.length : Nat) : Int) by omega), hgb, go_sem, ↓reduceIte, zA, zB, zC, zD, zE, zF, reduceCtorEq, zG, zH, zI, zJ, zK, zL, zM, zN, zO, zP]
  refine W_calld (entRight23_tri e) rfl rfl rfl rfl ?_; simp only [go_sem, ↓reduceIte, zA, zB, zC, zD, zE, zF, reduceCtorEq, zG, zH, zI, zJ, zK, zL, zM, zN, zO, zP]
  cases hr : entOkB e with
  | false =>
    rw [if_neg (by rw [hr]; decide)] at hF
    simp only [go_sem, ↓reduceIte, zA, zB, zC, zD, zE, zF, reduceCtorEq, zG, zH, zI, zJ, zK, zL, zM, zN, zO, zP]
    refine W_lpI (i + 1, acc) ?_ ?_ ⟨by dsimp only; omega, by dsimp only; omega, hF⟩ (by dsimp only; omega)
    · simp only [go_sem, ↓reduceIte, zA, zB, zC, zD, zE, zF, reduceCtorEq, zG, zH, zI, zJ, zK, zL, zM, zN, zO, zP]
    · simp only [t23S, wrap_succ (show i < 9223372036854775807 by omega), go_sem, ↓reduceIte, zA, zB, zC, zD, zE, zF, reduceCtorEq, zG, zH, zI, zJ, zK, zL, zM, zN, zO, zP]
  | true =>
  rw [if_pos hr, ← ByteArray.append_assoc] at hF
  have h10 : (#[10] : Array UInt8).size = 1 := rfl
  have u1 : acc.size + (wordsE e).size ≤ 9223372036854775807 := by omega
  have u2 : acc.size + (wordsE e).size + (#[10] : Array UInt8).size ≤ 9223372036854775807 := by omega
  simp only [hgb, go_sem, ↓reduceIte, zA, zB, zC, zD, zE, zF, reduceCtorEq, zG, zH, zI, zJ, zK, zL, zM, zN, zO, zP]
  refine W_calld (entWords23_tri e) rfl rfl rfl rfl ?_; simp only [go_sem, ↓reduceIte, zA, zB, zC, zD, zE, zF, reduceCtorEq, zG, zH, zI, zJ, zK, zL, zM, zN, zO, zP]
  simp only [u1, u2, if_true, go_sem, ↓reduceIte, zA, zB, zC, zD, zE, zF, reduceCtorEq, zG, zH, zI, zJ, zK, zL, zM, zN, zO, zP]
  refine W_lpI (i + 1, acc ++ wordsE e ++ ⟨#[10]⟩) ?_ ?_ ⟨by dsimp only; omega, by dsimp only; rw [ByteArray.size_append, ByteArray.size_append, show (⟨#[10]⟩ : ByteArray).size = 1 from rfl]; omega, hF⟩ (by dsimp only; omega)
  · simp only [go_sem, ↓reduceIte, zA, zB, zC, zD, zE, zF, reduceCtorEq, zG, zH, zI, zJ, zK, zL, zM, zN, zO, zP]
  · simp only [t23S, wrap_succ (show i < 9223372036854775807 by omega), go_sem, ↓reduceIte, zA, zB, zC, zD, zE, zF, reduceCtorEq, zG, zH, zI, zJ, zK, zL, zM, zN, zO, zP]

/-! the same -/
def intsS (a b : List Int) (k : Nat) : St := ⟨[(0, .d (.lst 1 (numR a))), (1, .d (.lst 1 (numR b))), (5, .int k)], []⟩
theorem ints_tri (a b : List Int) (ha : a.length ≤ 1000000000) (hb : b.length ≤ 1000000000) : Tri Tryd.prog G 19 [.d (.lst 1 (numR a)), .d (.lst 1 (numR b))] [] (.bool (decide (a = b))) [] := by
  have hna : (numR a).length = a.length := by simp [numR]
  have hnb : (numR b).length = b.length := by simp [numR]
  refine tri_W0 Tryd.func19 (by decide) irOk19 (Nat.le_of_ble_eq_true rfl) rfl ?_
  simp only [ir19, go_sem, ↓reduceIte, zA, zB, zC, zD, zE, zF, reduceCtorEq, zG, zH, zI, zJ, zK, zL, zM, zN, zO, zP]
  simp only [hna, hnb, go_sem, ↓reduceIte, zA, zB, zC, zD, zE, zF, reduceCtorEq, zG, zH, zI, zJ, zK, zL, zM, zN, zO, zP]
  by_cases hl : a.length = b.length
  case neg =>
    rw [decide_eq_false (fun h => hl (by rw [h]))]
    simp only [show (((a.length : Nat) : Int) != ((b.length : Nat) : Int)) = true from bne_iff_ne.2 (by omega), go_sem, ↓reduceIte, zA, zB, zC, zD, zE, zF, reduceCtorEq, zG, zH, zI, zJ, zK, zL, zM, zN, zO, zP]
  simp only [show (((a.length : Nat) : Int) != ((b.length : Nat) : Int)) = false by rw [hl]; simp, go_sem, ↓reduceIte, zA, zB, zC, zD, zE, zF, reduceCtorEq, zG, zH, zI, zJ, zK, zL, zM, zN, zO, zP]
  generalize hq : decide (a = b) = q
  refine W_loopI [0, 1, 5] [] (fun k : Nat => k ≤ a.length ∧ decide (a.drop k = b.drop k) = q) (fun k => a.length - k) (intsS a b) 0 ?_ ⟨Nat.zero_le _, by simpa using hq⟩ ?_
  · simp only [intsS, Int.natCast_zero, go_sem, ↓reduceIte, zA, zB, zC, zD, zE, zF, reduceCtorEq, zG, zH, zI, zJ, zK, zL, zM, zN, zO, zP]
  rintro k ⟨hk, hF⟩
  simp only [intsS, hna, go_sem, ↓reduceIte, zA, zB, zC, zD, zE, zF, reduceCtorEq, zG, zH, zI, zJ, zK, zL, zM, zN, zO, zP]
  by_cases hlt : k < a.length
  case neg =>
    rw [List.drop_eq_nil_of_le (by omega), List.drop_eq_nil_of_le (by omega)] at hF
    simp only [decide_true] at hF
    subst hF
    simp only [decide_eq_false (show ¬ ((k : Nat) : Int) < ((a.length : Nat) : Int) by omega), go_sem, ↓reduceIte, zA, zB, zC, zD, zE, zF, reduceCtorEq, zG, zH, zI, zJ, zK, zL, zM, zN, zO, zP]
  have hga := get_mapD (f := fun n : Int => [i64 n]) 0 hlt
  have hgb := get_mapD (f := fun n : Int => [i64 n]) 0 (show k < b.length by omega)
  rw [dropD_dec a b k 0 hlt (by omega)] at hF
  generalize a.getD k 0 = x at *
  generalize b.getD k 0 = y at *
  have hga2 : (numR a)[k]? = some [DV.val (.int .i64 x)] := hga
  have hgb2 : (numR b)[k]? = some [DV.val (.int .i64 y)] := hgb
  simp only [decide_eq_true (show ((k : Nat) : Int) < ((a.length : Nat) : Int) by omega), hga2, hgb2, go_sem, ↓reduceIte, zA, zB, zC, zD, zE, zF, reduceCtorEq, zG, zH, zI, zJ, zK, zL, zM, zN, zO, zP]
  by_cases hxy : x = y
  · rw [decide_eq_true hxy, Bool.true_and] at hF
    simp only [show (x != y) = false by rw [hxy]; simp, go_sem, ↓reduceIte, zA, zB, zC, zD, zE, zF, reduceCtorEq, zG, zH, zI, zJ, zK, zL, zM, zN, zO, zP]
    refine W_lpI (k + 1) ?_ ?_ ⟨by omega, hF⟩ (by omega)
    · simp only [go_sem, ↓reduceIte, zA, zB, zC, zD, zE, zF, reduceCtorEq, zG, zH, zI, zJ, zK, zL, zM, zN, zO, zP]
    · simp only [intsS, wrap_succ (show k < 9223372036854775807 by omega), go_sem, ↓reduceIte, zA, zB, zC, zD, zE, zF, reduceCtorEq, zG, zH, zI, zJ, zK, zL, zM, zN, zO, zP]
  · rw [decide_eq_false hxy, Bool.false_and] at hF
    subst hF
    simp only [show (x != y) = true from bne_iff_ne.2 hxy, go_sem, ↓reduceIte, zA, zB, zC, zD, zE, zF, reduceCtorEq, zG, zH, zI, zJ, zK, zL, zM, zN, zO, zP]
theorem ent_dec (x y : EntD) : decide (x = y) = (x.kind == y.kind && (x.a == y.a && (x.b == y.b && (x.op.kind == y.op.kind && (x.op.a == y.op.a && (x.op.b == y.op.b && (x.op.c == y.op.c && (x.op.d == y.op.d && (x.op.e == y.op.e && x.op.f == y.op.f))))))))) := by
  obtain ⟨k, a, b, ⟨o1, o2, o3, o4, o5, o6, o7⟩⟩ := x
  obtain ⟨k', a', b', ⟨p1, p2, p3, p4, p5, p6, p7⟩⟩ := y
  rw [Bool.eq_iff_iff]
  simp
def samS (a b : List EntD) (k : Nat) : St := ⟨[(0, entsV a), (1, entsV b), (5, .int k)], []⟩
set_option maxHeartbeats 1000000 in
theorem same23_tri (a b : List EntD) (ha : a.length ≤ 1000000000) (hb : b.length ≤ 1000000000) : Tri Tryd.prog G 18 [entsV a, entsV b] [] (.bool (decide (a = b))) [] := by
  have hna := entRows_len a
  have hnb := entRows_len b
  refine tri_W0 Tryd.func18 (by decide) irOk18 (Nat.le_of_ble_eq_true rfl) rfl ?_
  simp only [ir18, go_sem, ↓reduceIte, zA, zB, zC, zD, zE, zF, reduceCtorEq, zG, zH, zI, zJ, zK, zL, zM, zN, zO, zP]
  simp only [hna, hnb, go_sem, ↓reduceIte, zA, zB, zC, zD, zE, zF, reduceCtorEq, zG, zH, zI, zJ, zK, zL, zM, zN, zO, zP]
  by_cases hl : a.length = b.length
  case neg =>
    rw [decide_eq_false (fun h => hl (by rw [h]))]
    simp only [show (((a.length : Nat) : Int) != ((b.length : Nat) : Int)) = true from bne_iff_ne.2 (by omega), go_sem, ↓reduceIte, zA, zB, zC, zD, zE, zF, reduceCtorEq, zG, zH, zI, zJ, zK, zL, zM, zN, zO, zP]
  simp only [show (((a.length : Nat) : Int) != ((b.length : Nat) : Int)) = false by rw [hl]; simp, go_sem, ↓reduceIte, zA, zB, zC, zD, zE, zF, reduceCtorEq, zG, zH, zI, zJ, zK, zL, zM, zN, zO, zP]
  generalize hq : decide (a = b) = q
  refine W_loopI [0, 1, 5] [] (fun k : Nat => k ≤ a.length ∧ decide (a.drop k = b.drop k) = q) (fun k => a.length - k) (samS a b) 0 ?_ ⟨Nat.zero_le _, by simpa using hq⟩ ?_
  · simp only [samS, Int.natCast_zero, go_sem, ↓reduceIte, zA, zB, zC, zD, zE, zF, reduceCtorEq, zG, zH, zI, zJ, zK, zL, zM, zN, zO, zP]
  rintro k ⟨hk, hF⟩
  simp only [samS, hna, go_sem, ↓reduceIte, zA, zB, zC, zD, zE, zF, reduceCtorEq, zG, zH, zI, zJ, zK, zL, zM, zN, zO, zP]
  by_cases hlt : k < a.length
  case neg =>
    rw [List.drop_eq_nil_of_le (by omega), List.drop_eq_nil_of_le (by omega)] at hF
    simp only [decide_true] at hF
    subst hF
    simp only [decide_eq_false (show ¬ ((k : Nat) : Int) < ((a.length : Nat) : Int) by omega), go_sem, ↓reduceIte, zA, zB, zC, zD, zE, zF, reduceCtorEq, zG, zH, zI, zJ, zK, zL, zM, zN, zO, zP]
  have hga := get_mapD (f := entR) zeroEnt hlt
  have hgb := get_mapD (f := entR) zeroEnt (show k < b.length by omega)
  rw [dropD_dec a b k zeroEnt hlt (by omega)] at hF
  generalize a.getD k zeroEnt = x at *
  generalize b.getD k zeroEnt = y at *
  have hga2 : (entRows a)[k]? = some (entR x) := hga
  have hgb2 : (entRows b)[k]? = some (entR y) := hgb
  simp only [entR] at hga2 hgb2
  rw [ent_dec] at hF
  simp only [decide_eq_true (show ((k : Nat) : Int) < ((a.length : Nat) : Int) by omega), hga2, hgb2, go_sem, ↓reduceIte, zA, zB, zC, zD, zE, zF, reduceCtorEq, zG, zH, zI, zJ, zK, zL, zM, zN, zO, zP]
  generalize (x.kind == y.kind && (x.a == y.a && (x.b == y.b && (x.op.kind == y.op.kind && (x.op.a == y.op.a && (x.op.b == y.op.b && (x.op.c == y.op.c && (x.op.d == y.op.d && (x.op.e == y.op.e && x.op.f == y.op.f))))))))) = r at *
  cases r with
  | true =>
    rw [Bool.true_and] at hF
    simp only [go_sem, ↓reduceIte, zA, zB, zC, zD, zE, zF, reduceCtorEq, zG, zH, zI, zJ, zK, zL, zM, zN, zO, zP]
    refine W_lpI (k + 1) ?_ ?_ ⟨by omega, hF⟩ (by omega)
    · simp only [go_sem, ↓reduceIte, zA, zB, zC, zD, zE, zF, reduceCtorEq, zG, zH, zI, zJ, zK, zL, zM, zN, zO, zP]
    · simp only [samS, wrap_succ (show k < 9223372036854775807 by omega), go_sem, ↓reduceIte, zA, zB, zC, zD, zE, zF, reduceCtorEq, zG, zH, zI, zJ, zK, zL, zM, zN, zO, zP]
  | false =>
    rw [Bool.false_and] at hF
    subst hF
    simp only [go_sem, ↓reduceIte, zA, zB, zC, zD, zE, zF, reduceCtorEq, zG, zH, zI, zJ, zK, zL, zM, zN, zO, zP]
end Dv

namespace Dv
open Go Go.Proofs
open Nat renaming reduceEqDiff → zA, reduceAdd → zB, reduceSub → zC, reduceMul → zD, reduceLT → zE, reduceLeDiff → zF
open Int renaming reduceLE → zG, reduceLT → zH, reduceToNat → zI, reduceBEq → zJ, reduceBNe → zK, reduceEq → zL, reduceAdd → zM, reduceSub → zN, reduceMul → zO, reduceNeg → zP
attribute [local go_sem] argEnv W_nil W_seq W_skip W_ret W_exit W_scope W_block W_blk W_reg W_regD W_cond WC_t WC_f WC_any Wx_c Wx_ops Wx_lp Wx_blk W_ops_nil W_opsD_q W_guard W_guardD WG_tt WG_ff WG_tf WG_ft WG_u WGD_tt WGD_ff WGD_tf WGD_ft WGD_u WE_some WED_some W_more W_mv W_pick W_new W_box W_build W_bsl W_ld1 W_ldn W_st W_nck W_bin W_eqb W_not W_cvt W_fad W_fld1 W_fldn W_ixa W_ixr W_ix1 W_ixs W_len W_lens W_mkf W_ext W_app W_min W_isnp W_isns W_eqs W_neg W_ixn W_sli W_sls WD_more WD_mv WD_pick WD_new WD_box WD_build WD_bsl WD_ld1 WD_ldn WD_st WD_nck WD_bin WD_eqb WD_not WD_cvt WD_fad WD_fld1 WD_fldn WD_ixa WD_ixr WD_ix1 WD_ixs WD_len WD_lens WD_mkf WD_ext WD_app WD_min WD_isnp WD_isns WD_eqs WD_neg WD_ixn WD_sli WD_sls effF effM bytesOf Opd.ev getE putE binV LV.int LV.bool LV.undef Go.undef LV.cells LV.toD LV.toDs splice fillL rowsOf boxOf srcRows updL objL Eff.owned nwp St.get St.obj St.put Value.oneCell' Ends adopt Ad.ap isNil St.keep St.okKeep okObj idl idlL idlO RVs.of RV.of oneOr Ends0 EndsO_iff frzs rn rnL rnO piOf eqCells eqV boundV Option.map_some Option.map_none List.append_nil List.nil_append List.cons_append List.map_nil List.map_cons List.length_nil List.length_cons List.set_cons_zero List.set_cons_succ List.take_succ_cons List.take_zero List.take_nil List.drop_succ_cons List.drop_zero List.drop_nil List.getElem?_cons_zero List.getElem?_cons_succ List.getElem?_nil List.isEmpty_nil List.isEmpty_cons List.all_cons List.all_nil List.isEmpty_nil cond_true cond_false Bool.true_and Bool.false_and Bool.and_true Bool.and_false Bool.not_true Bool.not_false Bool.or_true Bool.true_or Bool.or_false Bool.false_or true_and and_true true_or or_true Option.some.injEq LV.d.injEq DV.val.injEq Value.bool.injEq Value.int.injEq decide_true decide_false and_self Nat.zero_add Nat.add_zero if_true if_false Int.toNat_zero beq_self_eq_true Nat.zero_lt_succ Int.toNat_natCast Int.natCast_nonneg List.length_map i64 bl List.zip_cons_cons List.zip_nil_left List.zip_nil_right nwp confV stateV nodeV jobV nodesV jobsV opV msgV nodeR jobR opR msgR zeroOp zeroMsg msgsV
variable {G : Nat → Option (List DV)}

/-- dunnageref23.Parse -/
def ir15 : Nat × C × List RV := (59,
(.seq (.reg [⟨(some 2), .mv (.c (.val (.slice none 0 0))), none, []⟩,
 ⟨(some 3), .mv (.c (.val (.slice none 0 0))), none, []⟩])
 (.seq (.reg [⟨(some 4), .mv (.c (.val (.slice none 0 0))), none, []⟩])
 (.seq (.reg [⟨(some 5), .mv (.c (.val (.slice none 0 0))), none, []⟩])
 (.seq (.reg [⟨(some 6), .mv (.c (.val (.string ⟨#[]⟩))), none, []⟩,
 ⟨(some 7), .mv (.c (.val (.int .i64 1))), none, []⟩])
 (.seq (.seq (.reg [⟨(some 8), .mv (.c (.val (.int .i64 0))), none, []⟩])
 (.block 0 (.loop (.seq (.seq (.reg [⟨(some 11), .mv (.t 8), none, []⟩,
 ⟨(some 12), .mv (.t 0), none, []⟩,
 ⟨(some 13), .lens (.t 12), none, []⟩,
 ⟨(some 14), .bin .leq (.t 11) (.t 13), none, []⟩])
 (.cond (.t 14) .skip
 (.exit 0)))
 (.seq (.block 1 (.seq (.seq (.reg [⟨(some 17), .mv (.t 8), none, []⟩,
 ⟨(some 18), .mv (.t 0), none, []⟩,
 ⟨(some 19), .lens (.t 18), none, []⟩,
 ⟨(some 20), .bin .lss (.t 17) (.t 19), none, []⟩,
 ⟨(some 21), .mv (.t 20), none, []⟩,
 ⟨(some 22), .mv (.t 0), (some (21, true)), []⟩,
 ⟨(some 23), .mv (.t 8), (some (21, true)), []⟩,
 ⟨(some 24), .ixs (.t 22) (.t 23), (some (21, true)), []⟩,
 ⟨(some 25), .bin .neq (.t 24) (.c (.val (.int .u8 10))), (some (21, true)), []⟩,
 ⟨(some 26), .pick (.t 21) (.t 25) (.c (.val (.bool false))), none, []⟩])
 (.cond (.t 26) (.seq (.reg [⟨(some 27), .mv (.t 6), none, []⟩,
 ⟨(some 28), .mv (.t 0), none, []⟩,
 ⟨(some 29), .mv (.t 8), none, []⟩,
 ⟨(some 30), .mv (.t 8), none, []⟩,
 ⟨(some 31), .bin .add (.t 30) (.c (.val (.int .i64 1))), none, []⟩,
 ⟨(some 32), .sls (.t 28) (some (.t 29)) (some (.t 31)), none, []⟩,
 ⟨(some 33), .bin .add (.t 27) (.t 32), none, []⟩,
 ⟨(some 6), .mv (.t 33), none, []⟩])
 (.exit 1))
 .skip))
 (.seq (.seq (.reg [⟨(some 34), .mv (.t 6), none, []⟩,
 ⟨(some 35), .bin .neq (.t 34) (.c (.val (.string ⟨#[]⟩))), none, []⟩,
 ⟨(some 36), .mv (.t 35), none, []⟩,
 ⟨(some 37), .mv (.t 6), (some (36, true)), []⟩,
 ⟨(some 38), .ixs (.t 37) (.c (.val (.int .i64 0))), (some (36, true)), []⟩,
 ⟨(some 39), .bin .neq (.t 38) (.c (.val (.int .u8 35))), (some (36, true)), []⟩,
 ⟨(some 40), .pick (.t 36) (.t 39) (.c (.val (.bool false))), none, []⟩])
 (.cond (.t 40) (.seq (.reg [⟨(some 42), .mv (.t 6), none, []⟩,
 ⟨(some 43), .call (.f 9) [(.t 42)], none, []⟩,
 ⟨(some 41), .mv (.t 43), none, []⟩,
 ⟨(some 44), .ext (.t 41) 0, none, []⟩,
 ⟨(some 45), .ext (.t 41) 1, none, []⟩,
 ⟨(some 9), .new 25 [(.val (.int .i64 0)), (.val (.int .i64 0)), (.val (.int .i64 0)), (.val (.int .i64 0)), (.val (.int .i64 0)), (.val (.int .i64 0)), (.val (.int .i64 0)), (.val (.int .i64 0)), (.val (.int .i64 0)), (.val (.int .i64 0))], none, []⟩,
 ⟨none, .st 10 (.t 9) (.t 44), none, []⟩,
 ⟨(some 10), .mv (.t 45), none, []⟩])
 (.seq (.reg [⟨(some 46), .mv (.t 10), none, []⟩])
 (.cond (.t 46) (.reg [⟨(some 47), .mv (.t 4), none, []⟩,
 ⟨(some 48), .ldn 10 (.t 9), none, []⟩,
 ⟨(some 49), .bsl 25 10 [(.t 48)], none, []⟩,
 ⟨(some 50), .app 25 10 80 (.t 47) (.t 49), none, []⟩,
 ⟨(some 4), .mv (.t 50), none, []⟩])
 (.reg [⟨(some 51), .mv (.t 5), none, []⟩,
 ⟨(some 52), .mv (.t 7), none, []⟩,
 ⟨(some 53), .bsl 3 1 [(.t 52)], none, []⟩,
 ⟨(some 54), .app 3 1 8 (.t 51) (.t 53), none, []⟩,
 ⟨(some 5), .mv (.t 54), none, []⟩]))))
 .skip))
 (.seq (.reg [⟨(some 6), .mv (.c (.val (.string ⟨#[]⟩))), none, []⟩])
 (.reg [⟨(some 55), .mv (.t 7), none, []⟩,
 ⟨(some 56), .bin .add (.t 55) (.c (.val (.int .i64 1))), none, []⟩,
 ⟨(some 7), .mv (.t 56), none, []⟩])))))
 (.reg [⟨(some 15), .mv (.t 8), none, []⟩,
 ⟨(some 16), .bin .add (.t 15) (.c (.val (.int .i64 1))), none, []⟩,
 ⟨(some 8), .mv (.t 16), none, []⟩]))))))
 (.seq (.reg [⟨(some 57), .mv (.t 4), none, []⟩,
 ⟨(some 58), .mv (.t 5), none, []⟩,
 ⟨(some 2), .mv (.t 57), none, []⟩,
 ⟨(some 3), .mv (.t 58), none, []⟩])
 .ret)))))),
[(.t 2), (.t 3)])
theorem irOk15 : convFn Tryd.prog Tryd.f15 = some ir15 := by kernel_rfl

attribute [local go_sem] optEnt entsV

/-- what a line leaves. -/
def stepP (en : ByteArray → Option EntD) (line : ByteArray) (n : Int) (p : List EntD × List Int) : List EntD × List Int :=
  if line = ⟨#[]⟩ ∨ line.data.toList[0]? = some 35 then p else match en line with
    | some e => (p.1 ++ [e], p.2)
    | none => (p.1, p.2 ++ [n])
def p23 : List UInt8 → ByteArray → Int → List EntD × List Int → List EntD × List Int
  | [], line, n, p => stepP entry23 line n p
  | c :: r, line, n, p => if c.toNat = 10 then p23 r ⟨#[]⟩ (n + 1) (stepP entry23 line n p) else p23 r (line ++ ⟨#[c]⟩) n p
structure PrP where
  i : Nat
  line : ByteArray
  n : Int
  out : List EntD
  wrong : List Int
def prS (s : ByteArray) (p : PrP) : St := ⟨[(0, .d (.val (.string s))), (4, .sl 0 p.out.length 10 0 p.out.length), (5, .sl 1 p.wrong.length 1 0 p.wrong.length), (6, .d (.val (.string p.line))), (7, .int p.n), (8, .int p.i)],
  [some (.dat 25 10 (entRows p.out)), some (.dat 3 1 (numR p.wrong))]⟩
theorem stepP_len (en : ByteArray → Option EntD) (line : ByteArray) (n : Int) (p : List EntD × List Int) : (stepP en line n p).1.length ≤ p.1.length + 1 ∧ (stepP en line n p).2.length ≤ p.2.length + 1 := by
  unfold stepP
  split
  · omega
  · split <;> simp
def resP (p : List EntD × List Int) : LV := .tup [entsV p.1, .d (.lst 1 (numR p.2))]
set_option maxHeartbeats 4000000 in
theorem parse23_tri (h : OG G) (s : ByteArray) (hs : s.size ≤ 100000) : Tri Tryd.prog G 15 [.d (.val (.string s))] [] (resP (p23 s.data.toList ⟨#[]⟩ 1 ([], []))) [] := by
  have hbl := bs_len s
  refine tri_W Tryd.func15 (by decide) irOk15 (Nat.le_of_ble_eq_true rfl) ?_
  simp only [ir15, go_sem, ↓reduceIte, zA, zB, zC, zD, zE, zF, reduceCtorEq, zG, zH, zI, zJ, zK, zL, zM, zN, zO, zP]
  generalize hq : p23 s.data.toList ⟨#[]⟩ 1 ([], []) = q
  refine W_loopI [0, 4, 5, 6, 7, 8] [.t 4 25 10, .t 5 3 1] (fun p : PrP => p.i ≤ s.size + 1 ∧ p.line.size ≤ p.i ∧ 1 ≤ p.n ∧ p.n ≤ p.i + 1 ∧ p.out.length ≤ p.i ∧ p.wrong.length ≤ p.i ∧
    ((p.i ≤ s.size ∧ p23 (s.data.toList.drop p.i) p.line p.n (p.out, p.wrong) = q) ∨ (p.i = s.size + 1 ∧ (p.out, p.wrong) = q))) (fun p => s.size + 1 - p.i) (prS s) ⟨0, ⟨#[]⟩, 1, [], []⟩ ?_ ⟨Nat.zero_le _, Nat.zero_le _, Int.le_refl _, by decide, Nat.zero_le _, Nat.zero_le _, .inl ⟨Nat.zero_le _, hq⟩⟩ ?_
  · simp only [prS, entRows, numR, List.map_nil, List.length_nil, Int.natCast_zero, go_sem, ↓reduceIte, zA, zB, zC, zD, zE, zF, reduceCtorEq, zG, zH, zI, zJ, zK, zL, zM, zN, zO, zP]
  rintro ⟨i, line, n, out, wrong⟩ ⟨hi, hls, hn1, hn2, hol, hwl, hF⟩
  dsimp only at hi hls hn1 hn2 hol hwl hF
  have hno := entRows_len out
  have hnw : (numR wrong).length = wrong.length := by simp [numR]
  simp only [prS, go_sem, ↓reduceIte, zA, zB, zC, zD, zE, zF, reduceCtorEq, zG, zH, zI, zJ, zK, zL, zM, zN, zO, zP]
  by_cases hle : i ≤ s.size
  case neg =>
    rcases hF with ⟨hF, _⟩ | ⟨_, hF⟩
    · exact absurd hF hle
    subst hF
    simp only [decide_eq_false (show ¬ ((i : Nat) : Int) ≤ ((s.size : Nat) : Int) by omega), resP, go_sem, ↓reduceIte, zA, zB, zC, zD, zE, zF, reduceCtorEq, zG, zH, zI, zJ, zK, zL, zM, zN, zO, zP]
    exact BackZ [0, 1] rfl (by simp [St.obj, objL]) (by simp [St.obj, objL, oneOr, St.get, getE, argR, argRs, rowsAt, hno, hnw, List.take_of_length_le (Nat.le_of_eq hno), List.take_of_length_le (Nat.le_of_eq hnw)])
  have hF : p23 (s.data.toList.drop i) line n (out, wrong) = q := by
    rcases hF with ⟨_, hF⟩ | ⟨h1, _⟩
    · exact hF
    · omega
  have wi : IntKind.i64.wrap ((i : Int) + 1) = ((i + 1 : Nat) : Int) := wrap_succ (by omega)
  have wn : IntKind.i64.wrap (n + 1) = n + 1 := wrap_in (by omega) (by omega)
  simp only [decide_eq_true (show ((i : Nat) : Int) ≤ ((s.size : Nat) : Int) by omega), go_sem, ↓reduceIte, zA, zB, zC, zD, zE, zF, reduceCtorEq, zG, zH, zI, zJ, zK, zL, zM, zN, zO, zP]
  by_cases hlt : i < s.size
  case neg =>
    have hN : ∀ r : List EntD × List Int, stepP entry23 line n (out, wrong) = r → ((i + 1 ≤ s.size ∧ p23 (s.data.toList.drop (i + 1)) ⟨#[]⟩ (n + 1) (r.1, r.2) = q) ∨ (i + 1 = s.size + 1 ∧ (r.1, r.2) = q)) := fun r hr => by
      rw [List.drop_eq_nil_of_le (by omega), p23, hr] at hF
      exact .inr ⟨by omega, hF⟩
    simp only [decide_eq_false (show ¬ ((i : Nat) : Int) < ((s.size : Nat) : Int) by omega), go_sem, ↓reduceIte, zA, zB, zC, zD, zE, zF, reduceCtorEq, zG, zH, zI, zJ, zK, zL, zM, zN, zO, zP]
    simp only [str_eq, go_sem, ↓reduceIte, zA, zB, zC, zD, zE, zF, reduceCtorEq, zG, zH, zI, zJ, zK, zL, zM, zN, zO, zP]
    by_cases hl0 : line = ⟨#[]⟩
    case pos =>
      have hst : stepP entry23 line n (out, wrong) = (out, wrong) := by unfold stepP; rw [if_pos (.inl hl0)]
      simp only [decide_eq_true hl0, go_sem, ↓reduceIte, zA, zB, zC, zD, zE, zF, reduceCtorEq, zG, zH, zI, zJ, zK, zL, zM, zN, zO, zP]
      refine W_lpI ⟨i + 1, ⟨#[]⟩, n + 1, out, wrong⟩ ?_ ?_ ⟨by dsimp only; omega, Nat.zero_le _, by dsimp only; omega, by dsimp only; omega, by dsimp only; omega, by dsimp only; omega, hN _ hst⟩ (by dsimp only; omega)
      · simp only [go_sem, ↓reduceIte, zA, zB, zC, zD, zE, zF, reduceCtorEq, zG, zH, zI, zJ, zK, zL, zM, zN, zO, zP]
      · simp only [prS, entRows, numR, List.map_append, List.map_cons, List.map_nil, List.length_append, List.length_cons, List.length_nil, wi, wn, entR, go_sem, ↓reduceIte, zA, zB, zC, zD, zE, zF, reduceCtorEq, zG, zH, zI, zJ, zK, zL, zM, zN, zO, zP]
    have hln : 0 < line.data.toList.length := List.length_pos_iff.2 (fun e => hl0 (data_ext e))
    have hg0 := List.getElem?_eq_getElem hln
    generalize hc0 : line.data.toList[0]'hln = c0 at *
    have h35 : (((c0.toNat : Nat) : Int) != 35) = !decide (c0 = 35) := by
      rw [Bool.eq_iff_iff]
      simp only [bne_iff_ne, ne_eq, Bool.not_eq_true', decide_eq_false_iff_not]
      constructor
      · intro h1 h2; exact h1 (by rw [h2]; rfl)
      · intro h1 h2; exact h1 (UInt8.toNat_inj.1 (by rw [show c0.toNat = 35 by omega]; rfl))
    by_cases hsh : c0 = 35
    case pos =>
      have hst : stepP entry23 line n (out, wrong) = (out, wrong) := by unfold stepP; rw [if_pos (.inr (by rw [hg0, hsh]))]
      simp only [decide_eq_false hl0, hg0, h35, decide_eq_true hsh, go_sem, ↓reduceIte, zA, zB, zC, zD, zE, zF, reduceCtorEq, zG, zH, zI, zJ, zK, zL, zM, zN, zO, zP]
      refine W_lpI ⟨i + 1, ⟨#[]⟩, n + 1, out, wrong⟩ ?_ ?_ ⟨by dsimp only; omega, Nat.zero_le _, by dsimp only; omega, by dsimp only; omega, by dsimp only; omega, by dsimp only; omega, hN _ hst⟩ (by dsimp only; omega)
      · simp only [go_sem, ↓reduceIte, zA, zB, zC, zD, zE, zF, reduceCtorEq, zG, zH, zI, zJ, zK, zL, zM, zN, zO, zP]
      · simp only [prS, entRows, numR, List.map_append, List.map_cons, List.map_nil, List.length_append, List.length_cons, List.length_nil, wi, wn, entR, go_sem, ↓reduceIte, zA, zB, zC, zD, zE, zF, reduceCtorEq, zG, zH, zI, zJ, zK, zL, zM, zN, zO, zP]
    have hst0 : stepP entry23 line n (out, wrong) = match entry23 line with
        | some e => (out ++ [e], wrong)
        | none => (out, wrong ++ [n]) := by
      unfold stepP
      rw [if_neg (by rintro (e | e); exact hl0 e; rw [hg0] at e; exact hsh (Option.some.inj e))]
    simp only [decide_eq_false hl0, hg0, h35, decide_eq_false hsh, go_sem, ↓reduceIte, zA, zB, zC, zD, zE, zF, reduceCtorEq, zG, zH, zI, zJ, zK, zL, zM, zN, zO, zP]
    refine W_calld (entry23_tri h line (by omega)) rfl rfl rfl rfl ?_
    cases he : entry23 line with
    | some e =>
      rw [he] at hst0
      have hst : stepP entry23 line n (out, wrong) = (out ++ [e], wrong) := hst0
      simp only [Option.isSome_some, Option.getD_some, go_sem, ↓reduceIte, zA, zB, zC, zD, zE, zF, reduceCtorEq, zG, zH, zI, zJ, zK, zL, zM, zN, zO, zP]
      have h7 : out.length = (entRows out).length ∧ (entRows out ++ [entR e]).length * 80 ≤ 70368744177664 := ⟨hno.symm, by rw [List.length_append, hno]; simp; omega⟩
      simp only [entR] at h7
      rw [if_pos h7]
      simp only [hno, go_sem, ↓reduceIte, zA, zB, zC, zD, zE, zF, reduceCtorEq, zG, zH, zI, zJ, zK, zL, zM, zN, zO, zP]
      refine W_lpI ⟨i + 1, ⟨#[]⟩, n + 1, out ++ [e], wrong⟩ ?_ ?_ ⟨by dsimp only; omega, Nat.zero_le _, by dsimp only; omega, by dsimp only; omega, by dsimp only; rw [List.length_append]; simp; omega, by dsimp only; omega, hN _ hst⟩ (by dsimp only; omega)
      · simp only [go_sem, ↓reduceIte, zA, zB, zC, zD, zE, zF, reduceCtorEq, zG, zH, zI, zJ, zK, zL, zM, zN, zO, zP]
      · simp only [prS, entRows, numR, List.map_append, List.map_cons, List.map_nil, List.length_append, List.length_cons, List.length_nil, wi, wn, entR, go_sem, ↓reduceIte, zA, zB, zC, zD, zE, zF, reduceCtorEq, zG, zH, zI, zJ, zK, zL, zM, zN, zO, zP]
    | none =>
      rw [he] at hst0
      have hst : stepP entry23 line n (out, wrong) = (out, wrong ++ [n]) := hst0
      simp only [Option.isSome_none, Option.getD_none, zeroEnt, zeroOp, go_sem, ↓reduceIte, zA, zB, zC, zD, zE, zF, reduceCtorEq, zG, zH, zI, zJ, zK, zL, zM, zN, zO, zP]
      have h7 : wrong.length = (numR wrong).length ∧ (numR wrong ++ [[DV.val (Value.int IntKind.i64 n)]]).length * 8 ≤ 70368744177664 := ⟨hnw.symm, by rw [List.length_append, hnw]; simp; omega⟩
      rw [if_pos h7]
      simp only [hnw, go_sem, ↓reduceIte, zA, zB, zC, zD, zE, zF, reduceCtorEq, zG, zH, zI, zJ, zK, zL, zM, zN, zO, zP]
      refine W_lpI ⟨i + 1, ⟨#[]⟩, n + 1, out, wrong ++ [n]⟩ ?_ ?_ ⟨by dsimp only; omega, Nat.zero_le _, by dsimp only; omega, by dsimp only; omega, by dsimp only; omega, by dsimp only; rw [List.length_append]; simp; omega, hN _ hst⟩ (by dsimp only; omega)
      · simp only [go_sem, ↓reduceIte, zA, zB, zC, zD, zE, zF, reduceCtorEq, zG, zH, zI, zJ, zK, zL, zM, zN, zO, zP]
      · simp only [prS, entRows, numR, List.map_append, List.map_cons, List.map_nil, List.length_append, List.length_cons, List.length_nil, wi, wn, entR, go_sem, ↓reduceIte, zA, zB, zC, zD, zE, zF, reduceCtorEq, zG, zH, zI, zJ, zK, zL, zM, zN, zO, zP]
  have hdi : s.data.toList.drop i = s.data.toList[i]'(by omega) :: s.data.toList.drop (i + 1) := List.drop_eq_getElem_cons (by omega)
  have hgi := List.getElem?_eq_getElem (show i < s.data.toList.length by omega)
  rw [hdi, p23] at hF
  generalize s.data.toList[i]'(by omega) = c at *
  by_cases h10 : c.toNat = 10
  case pos =>
    rw [if_pos h10] at hF
    have hN : ∀ r : List EntD × List Int, stepP entry23 line n (out, wrong) = r → ((i + 1 ≤ s.size ∧ p23 (s.data.toList.drop (i + 1)) ⟨#[]⟩ (n + 1) (r.1, r.2) = q) ∨ (i + 1 = s.size + 1 ∧ (r.1, r.2) = q)) := fun r hr => by
      rw [hr] at hF
      exact .inl ⟨by omega, hF⟩
    simp only [decide_eq_true (show ((i : Nat) : Int) < ((s.size : Nat) : Int) by omega), hgi, show (((c.toNat : Nat) : Int) != 10) = false by rw [h10]; rfl, go_sem, ↓reduceIte, zA, zB, zC, zD, zE, zF, reduceCtorEq, zG, zH, zI, zJ, zK, zL, zM, zN, zO, zP]
    simp only [str_eq, go_sem, ↓reduceIte, zA, zB, zC, zD, zE, zF, reduceCtorEq, zG, zH, zI, zJ, zK, zL, zM, zN, zO, zP]
    by_cases hl0 : line = ⟨#[]⟩
    case pos =>
      have hst : stepP entry23 line n (out, wrong) = (out, wrong) := by unfold stepP; rw [if_pos (.inl hl0)]
      simp only [decide_eq_true hl0, go_sem, ↓reduceIte, zA, zB, zC, zD, zE, zF, reduceCtorEq, zG, zH, zI, zJ, zK, zL, zM, zN, zO, zP]
      refine W_lpI ⟨i + 1, ⟨#[]⟩, n + 1, out, wrong⟩ ?_ ?_ ⟨by dsimp only; omega, Nat.zero_le _, by dsimp only; omega, by dsimp only; omega, by dsimp only; omega, by dsimp only; omega, hN _ hst⟩ (by dsimp only; omega)
      · simp only [go_sem, ↓reduceIte, zA, zB, zC, zD, zE, zF, reduceCtorEq, zG, zH, zI, zJ, zK, zL, zM, zN, zO, zP]
      · simp only [prS, entRows, numR, List.map_append, List.map_cons, List.map_nil, List.length_append, List.length_cons, List.length_nil, wi, wn, entR, go_sem, ↓reduceIte, zA, zB, zC, zD, zE, zF, reduceCtorEq, zG, zH, zI, zJ, zK, zL, zM, zN, zO, zP]
    have hln : 0 < line.data.toList.length := List.length_pos_iff.2 (fun e => hl0 (data_ext e))
    have hg0 := List.getElem?_eq_getElem hln
    generalize hc0 : line.data.toList[0]'hln = c0 at *
    have h35 : (((c0.toNat : Nat) : Int) != 35) = !decide (c0 = 35) := by
      rw [Bool.eq_iff_iff]
      simp only [bne_iff_ne, ne_eq, Bool.not_eq_true', decide_eq_false_iff_not]
      constructor
      · intro h1 h2; exact h1 (by rw [h2]; rfl)
      · intro h1 h2; exact h1 (UInt8.toNat_inj.1 (by rw [show c0.toNat = 35 by omega]; rfl))
    by_cases hsh : c0 = 35
    case pos =>
      have hst : stepP entry23 line n (out, wrong) = (out, wrong) := by unfold stepP; rw [if_pos (.inr (by rw [hg0, hsh]))]
      simp only [decide_eq_false hl0, hg0, h35, decide_eq_true hsh, go_sem, ↓reduceIte, zA, zB, zC, zD, zE, zF, reduceCtorEq, zG, zH, zI, zJ, zK, zL, zM, zN, zO, zP]
      refine W_lpI ⟨i + 1, ⟨#[]⟩, n + 1, out, wrong⟩ ?_ ?_ ⟨by dsimp only; omega, Nat.zero_le _, by dsimp only; omega, by dsimp only; omega, by dsimp only; omega, by dsimp only; omega, hN _ hst⟩ (by dsimp only; omega)
      · simp only [go_sem, ↓reduceIte, zA, zB, zC, zD, zE, zF, reduceCtorEq, zG, zH, zI, zJ, zK, zL, zM, zN, zO, zP]
      · simp only [prS, entRows, numR, List.map_append, List.map_cons, List.map_nil, List.length_append, List.length_cons, List.length_nil, wi, wn, entR, go_sem, ↓reduceIte, zA, zB, zC, zD, zE, zF, reduceCtorEq, zG, zH, zI, zJ, zK, zL, zM, zN, zO, zP]
    have hst0 : stepP entry23 line n (out, wrong) = match entry23 line with
        | some e => (out ++ [e], wrong)
        | none => (out, wrong ++ [n]) := by
      unfold stepP
      rw [if_neg (by rintro (e | e); exact hl0 e; rw [hg0] at e; exact hsh (Option.some.inj e))]
    simp only [decide_eq_false hl0, hg0, h35, decide_eq_false hsh, go_sem, ↓reduceIte, zA, zB, zC, zD, zE, zF, reduceCtorEq, zG, zH, zI, zJ, zK, zL, zM, zN, zO, zP]
    refine W_calld (entry23_tri h line (by omega)) rfl rfl rfl rfl ?_
    cases he : entry23 line with
    | some e =>
      rw [he] at hst0
      have hst : stepP entry23 line n (out, wrong) = (out ++ [e], wrong) := hst0
      simp only [Option.isSome_some, Option.getD_some, go_sem, ↓reduceIte, zA, zB, zC, zD, zE, zF, reduceCtorEq, zG, zH, zI, zJ, zK, zL, zM, zN, zO, zP]
      have h7 : out.length = (entRows out).length ∧ (entRows out ++ [entR e]).length * 80 ≤ 70368744177664 := ⟨hno.symm, by rw [List.length_append, hno]; simp; omega⟩
      simp only [entR] at h7
      rw [if_pos h7]
      simp only [hno, go_sem, ↓reduceIte, zA, zB, zC, zD, zE, zF, reduceCtorEq, zG, zH, zI, zJ, zK, zL, zM, zN, zO, zP]
      refine W_lpI ⟨i + 1, ⟨#[]⟩, n + 1, out ++ [e], wrong⟩ ?_ ?_ ⟨by dsimp only; omega, Nat.zero_le _, by dsimp only; omega, by dsimp only; omega, by dsimp only; rw [List.length_append]; simp; omega, by dsimp only; omega, hN _ hst⟩ (by dsimp only; omega)
      · simp only [go_sem, ↓reduceIte, zA, zB, zC, zD, zE, zF, reduceCtorEq, zG, zH, zI, zJ, zK, zL, zM, zN, zO, zP]
      · simp only [prS, entRows, numR, List.map_append, List.map_cons, List.map_nil, List.length_append, List.length_cons, List.length_nil, wi, wn, entR, go_sem, ↓reduceIte, zA, zB, zC, zD, zE, zF, reduceCtorEq, zG, zH, zI, zJ, zK, zL, zM, zN, zO, zP]
    | none =>
      rw [he] at hst0
      have hst : stepP entry23 line n (out, wrong) = (out, wrong ++ [n]) := hst0
      simp only [Option.isSome_none, Option.getD_none, zeroEnt, zeroOp, go_sem, ↓reduceIte, zA, zB, zC, zD, zE, zF, reduceCtorEq, zG, zH, zI, zJ, zK, zL, zM, zN, zO, zP]
      have h7 : wrong.length = (numR wrong).length ∧ (numR wrong ++ [[DV.val (Value.int IntKind.i64 n)]]).length * 8 ≤ 70368744177664 := ⟨hnw.symm, by rw [List.length_append, hnw]; simp; omega⟩
      rw [if_pos h7]
      simp only [hnw, go_sem, ↓reduceIte, zA, zB, zC, zD, zE, zF, reduceCtorEq, zG, zH, zI, zJ, zK, zL, zM, zN, zO, zP]
      refine W_lpI ⟨i + 1, ⟨#[]⟩, n + 1, out, wrong ++ [n]⟩ ?_ ?_ ⟨by dsimp only; omega, Nat.zero_le _, by dsimp only; omega, by dsimp only; omega, by dsimp only; omega, by dsimp only; rw [List.length_append]; simp; omega, hN _ hst⟩ (by dsimp only; omega)
      · simp only [go_sem, ↓reduceIte, zA, zB, zC, zD, zE, zF, reduceCtorEq, zG, zH, zI, zJ, zK, zL, zM, zN, zO, zP]
      · simp only [prS, entRows, numR, List.map_append, List.map_cons, List.map_nil, List.length_append, List.length_cons, List.length_nil, wi, wn, entR, go_sem, ↓reduceIte, zA, zB, zC, zD, zE, zF, reduceCtorEq, zG, zH, zI, zJ, zK, zL, zM, zN, zO, zP]
  rw [if_neg h10] at hF
  have hex := extract_one s i c hgi
  have hb1 : i ≤ i + 1 ∧ i + 1 ≤ s.size := by omega
  have h1a : (#[c] : Array UInt8).size = 1 := rfl
  have hadd : line.size + (#[c] : Array UInt8).size ≤ 9223372036854775807 := by omega
  simp only [decide_eq_true (show ((i : Nat) : Int) < ((s.size : Nat) : Int) by omega), hgi, show (((c.toNat : Nat) : Int) != 10) = true from bne_iff_ne.2 (by omega), wi, hb1, and_self, hex, hadd, if_true, go_sem, ↓reduceIte, zA, zB, zC, zD, zE, zF, reduceCtorEq, zG, zH, zI, zJ, zK, zL, zM, zN, zO, zP]
  refine W_lpI ⟨i + 1, line ++ ⟨#[c]⟩, n, out, wrong⟩ ?_ ?_ ⟨by dsimp only; omega, by dsimp only; rw [ByteArray.size_append, show (⟨#[c]⟩ : ByteArray).size = 1 from rfl]; omega, hn1, by dsimp only; omega, by dsimp only; omega, by dsimp only; omega, .inl ⟨by dsimp only; omega, hF⟩⟩ (by dsimp only; omega)
  · simp only [go_sem, ↓reduceIte, zA, zB, zC, zD, zE, zF, reduceCtorEq, zG, zH, zI, zJ, zK, zL, zM, zN, zO, zP]
  · simp only [prS, wi, go_sem, ↓reduceIte, zA, zB, zC, zD, zE, zF, reduceCtorEq, zG, zH, zI, zJ, zK, zL, zM, zN, zO, zP]
end Dv
