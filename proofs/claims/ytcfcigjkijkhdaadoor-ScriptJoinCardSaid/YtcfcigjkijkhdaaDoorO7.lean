/- ops: the op of words. -/
import Derived.Test.YtcfcigjkijkhdaaDoorO6
import Derived.Test.YtcfcigjkijkhdaaDoorO2
set_option linter.unusedVariables false
set_option linter.unusedSimpArgs false
namespace Dv
open Go Go.Proofs
open Nat renaming reduceEqDiff → zA, reduceAdd → zB, reduceSub → zC, reduceMul → zD, reduceLT → zE, reduceLeDiff → zF
open Int renaming reduceLE → zG, reduceLT → zH, reduceToNat → zI, reduceBEq → zJ, reduceBNe → zK, reduceEq → zL, reduceAdd → zM, reduceSub → zN, reduceMul → zO, reduceNeg → zP
attribute [local go_sem] argEnv W_nil W_seq W_skip W_ret W_exit W_scope W_block W_blk W_reg W_regD W_cond WC_t WC_f WC_any Wx_c Wx_ops Wx_lp Wx_blk W_ops_nil W_opsD_q W_guard W_guardD WG_tt WG_ff WG_tf WG_ft WG_u WGD_tt WGD_ff WGD_tf WGD_ft WGD_u WE_some WED_some W_more W_mv W_pick W_new W_box W_build W_bsl W_ld1 W_ldn W_st W_nck W_bin W_eqb W_not W_cvt W_fad W_fld1 W_fldn W_ixa W_ixr W_ix1 W_ixs W_len W_lens W_mkf W_ext W_app W_min W_isnp W_isns W_eqs W_neg W_ixn W_sli W_sls WD_more WD_mv WD_pick WD_new WD_box WD_build WD_bsl WD_ld1 WD_ldn WD_st WD_nck WD_bin WD_eqb WD_not WD_cvt WD_fad WD_fld1 WD_fldn WD_ixa WD_ixr WD_ix1 WD_ixs WD_len WD_lens WD_mkf WD_ext WD_app WD_min WD_isnp WD_isns WD_eqs WD_neg WD_ixn WD_sli WD_sls effF effM bytesOf Opd.ev getE putE binV LV.int LV.bool LV.undef Go.undef LV.cells LV.toD LV.toDs splice fillL rowsOf boxOf srcRows updL objL Eff.owned nwp St.get St.obj St.put Value.oneCell' Ends adopt Ad.ap isNil St.keep St.okKeep okObj idl idlL idlO RVs.of RV.of oneOr Ends0 EndsO_iff frzs rn rnL rnO piOf eqCells eqV boundV Option.map_some Option.map_none List.append_nil List.nil_append List.cons_append List.map_nil List.map_cons List.length_nil List.length_cons List.set_cons_zero List.set_cons_succ List.take_succ_cons List.take_zero List.take_nil List.drop_succ_cons List.drop_zero List.drop_nil List.getElem?_cons_zero List.getElem?_cons_succ List.getElem?_nil List.isEmpty_nil List.isEmpty_cons List.all_cons List.all_nil List.isEmpty_nil cond_true cond_false Bool.true_and Bool.false_and Bool.and_true Bool.and_false Bool.not_true Bool.not_false Bool.or_true Bool.true_or Bool.or_false Bool.false_or true_and and_true true_or or_true Option.some.injEq LV.d.injEq DV.val.injEq Value.bool.injEq Value.int.injEq decide_true decide_false and_self Nat.zero_add Nat.add_zero if_true if_false Int.toNat_zero beq_self_eq_true Nat.zero_lt_succ Int.toNat_natCast Int.natCast_nonneg List.length_map i64 bl List.zip_cons_cons List.zip_nil_left List.zip_nil_right nwp confV stateV nodeV jobV nodesV jobsV opV msgV nodeR jobR opR msgR zeroOp zeroMsg msgsV
variable {G : Nat → Option (List DV)}

/-- ops.Parse -/
def ir40 : Nat × C × List RV := (57,
(.seq (.reg [⟨(some 2), .new 23 [(.val (.int .i64 0)), (.val (.int .i64 0)), (.val (.int .i64 0)), (.val (.int .i64 0)), (.val (.int .i64 0)), (.val (.int .i64 0)), (.val (.int .i64 0))], none, []⟩,
 ⟨(some 3), .mv (.c (.val (.bool false))), none, []⟩])
 (.seq (.reg [⟨(some 11), .mv (.t 0), none, []⟩,
 ⟨(some 12), .call (.f 52) [(.t 11), (.c (.val (.string ⟨#[32]⟩)))], none, []⟩,
 ⟨(some 4), .mv (.t 12), none, []⟩])
 (.seq (.seq (.reg [⟨(some 13), .ldn 22 (.g 1), none, []⟩,
 ⟨(some 14), .mv (.c (.val (.int .i64 0))), none, []⟩])
 (.block 0 (.loop (.seq (.reg [⟨(some 15), .bin .lss (.t 14) (.c (.val (.int .i64 22))), none, []⟩])
 (.seq (.cond (.t 15) .skip
 (.exit 0))
 (.seq (.block 1 (.seq (.reg [⟨(some 16), .mv (.t 14), none, []⟩,
 ⟨(some 17), .ix1 22 (.t 13) (.t 14), none, []⟩,
 ⟨(some 5), .mv (.t 16), none, []⟩,
 ⟨(some 6), .mv (.t 17), none, []⟩])
 (.seq (.seq (.reg [⟨(some 18), .mv (.t 6), none, []⟩,
 ⟨(some 19), .bin .eql (.t 18) (.c (.val (.string ⟨#[]⟩))), none, []⟩,
 ⟨(some 20), .mv (.t 19), none, []⟩,
 ⟨(some 21), .mv (.t 6), (some (20, false)), []⟩,
 ⟨(some 22), .mv (.t 4), (some (20, false)), []⟩,
 ⟨(some 23), .ixa 1 (.t 22) (.c (.val (.int .i64 0))), (some (20, false)), []⟩,
 ⟨(some 24), .ld1 (.t 23), (some (20, false)), []⟩,
 ⟨(some 25), .bin .neq (.t 21) (.t 24), (some (20, false)), []⟩,
 ⟨(some 26), .pick (.t 20) (.c (.val (.bool true))) (.t 25), none, []⟩,
 ⟨(some 27), .mv (.t 26), none, []⟩,
 ⟨(some 28), .mv (.t 4), (some (27, false)), []⟩,
 ⟨(some 29), .len (.t 28), (some (27, false)), []⟩,
 ⟨(some 30), .mv (.t 5), (some (27, false)), []⟩,
 ⟨(some 31), .ixr 22 1 (.g 0) (.t 30), (some (27, false)), []⟩,
 ⟨(some 32), .ld1 (.t 31), (some (27, false)), []⟩,
 ⟨(some 33), .bin .add (.t 32) (.c (.val (.int .i64 1))), (some (27, false)), []⟩,
 ⟨(some 34), .bin .neq (.t 29) (.t 33), (some (27, false)), []⟩,
 ⟨(some 35), .pick (.t 27) (.c (.val (.bool true))) (.t 34), none, []⟩])
 (.cond (.t 35) (.exit 1)
 .skip))
 (.seq (.reg [⟨(some 7), .mv (.c (.val (.slice none 0 0))), none, []⟩])
 (.seq (.seq (.reg [⟨(some 36), .mv (.t 4), none, []⟩,
 ⟨(some 37), .sli 1 (.t 36) (some (.c (.val (.int .i64 1)))) none none, none, []⟩,
 ⟨(some 38), .len (.t 37), none, []⟩,
 ⟨(some 39), .mv (.c (.val (.int .i64 0))), none, []⟩])
 (.block 2 (.loop (.seq (.reg [⟨(some 40), .bin .lss (.t 39) (.t 38), none, []⟩])
 (.seq (.cond (.t 40) .skip
 (.exit 2))
 (.seq (.block 3 (.seq (.reg [⟨(some 41), .ixa 1 (.t 37) (.t 39), none, []⟩,
 ⟨(some 42), .ld1 (.t 41), none, []⟩,
 ⟨(some 9), .mv (.t 42), none, []⟩])
 (.reg [⟨(some 43), .mv (.t 7), none, []⟩,
 ⟨(some 44), .mv (.t 9), none, []⟩,
 ⟨(some 45), .call (.f 53) [(.t 44)], none, []⟩,
 ⟨(some 46), .bsl 3 1 [(.t 45)], none, []⟩,
 ⟨(some 47), .app 3 1 8 (.t 43) (.t 46), none, []⟩,
 ⟨(some 7), .mv (.t 47), none, []⟩])))
 (.reg [⟨(some 48), .bin .add (.t 39) (.c (.val (.int .i64 1))), none, []⟩,
 ⟨(some 39), .mv (.t 48), none, []⟩])))))))
 (.seq (.reg [⟨(some 49), .mv (.t 5), none, []⟩,
 ⟨(some 50), .mv (.t 7), none, []⟩,
 ⟨(some 51), .call (.f 54) [(.t 49), (.t 50)], none, []⟩,
 ⟨(some 10), .new 23 [(.val (.int .i64 0)), (.val (.int .i64 0)), (.val (.int .i64 0)), (.val (.int .i64 0)), (.val (.int .i64 0)), (.val (.int .i64 0)), (.val (.int .i64 0))], none, []⟩,
 ⟨none, .st 7 (.t 10) (.t 51), none, []⟩])
 (.seq (.reg [⟨(some 52), .ldn 7 (.t 10), none, []⟩,
 ⟨(some 53), .call (.f 28) [(.t 52)], none, []⟩])
 (.cond (.t 53) (.seq (.reg [⟨(some 54), .ldn 7 (.t 10), none, []⟩,
 ⟨none, .st 7 (.t 2) (.t 54), none, []⟩,
 ⟨(some 3), .mv (.c (.val (.bool true))), none, []⟩])
 .ret)
 .skip))))))))
 (.reg [⟨(some 55), .bin .add (.t 14) (.c (.val (.int .i64 1))), none, []⟩,
 ⟨(some 14), .mv (.t 55), none, []⟩])))))))
 (.seq (.reg [⟨(some 56), .build [(.val (.int .i64 0)), (.val (.int .i64 0)), (.val (.int .i64 0)), (.val (.int .i64 0)), (.val (.int .i64 0)), (.val (.int .i64 0)), (.val (.int .i64 0))] [], none, []⟩,
 ⟨none, .st 7 (.t 2) (.t 56), none, []⟩,
 ⟨(some 3), .mv (.c (.val (.bool false))), none, []⟩])
 .ret)))),
[(.cn 2 7), (.t 3)])
theorem irOk40 : convFn Tryd.prog Tryd.f40 = some ir40 := by kernel_rfl


def strR (l : List ByteArray) : List (List DV) := l.map fun x => [DV.val (.string x)]
theorem strR_len (l : List ByteArray) : (strR l).length = l.length := by simp [strR]
def wordsO (s : ByteArray) : List ByteArray := Lib.splitB sepB 0 (Lib.countB s sepB) s
theorem words_tri (m : Int) (hG : G 2 = some [.val (.int .i64 m)]) (s : ByteArray) (hs : s.size ≤ 1000000) : Tri Tryd.prog G 52 [.d (.val (.string s)), .d (.val (.string ⟨#[32]⟩))] [] (.sl 0 (wordsO s).length 1 0 (wordsO s).length) [.dat 9 1 (strR (wordsO s))] := split_tri m hG s sepB (by omega) (by decide)
theorem words_len (s : ByteArray) : 0 < (wordsO s).length ∧ (wordsO s).length ≤ s.size + 1 := by
  have h1 := splitB_len s sepB (by decide)
  have h2 := Lib.countB_le sepB (by decide) s.size s (Nat.le_refl _)
  unfold wordsO
  omega
def tryO (W : List ByteArray) (k : Nat) : Option OpD :=
  if nameOf k = ⟨#[]⟩ ∨ nameOf k ≠ W.getD 0 ⟨#[]⟩ ∨ W.length ≠ manyK k + 1 then none
  else if opOkB (ofI k ((W.drop 1).map numW)) = true then some (ofI k ((W.drop 1).map numW)) else none
def parseF (W : List ByteArray) : Nat → Nat → Option OpD
  | 0, _ => none
  | f + 1, k => match tryO W k with
    | some o => some o
    | none => parseF W f (k + 1)
def parseO (s : ByteArray) : Option OpD := parseF (wordsO s) 22 0
def namesV : List LV := namesR.map LV.d
theorem idl_names (n : Nat) : idlL n namesV = true := rfl
def parS (W : List ByteArray) (k : Nat) : St := ⟨[(2, .ptr 0 0), (3, .bool false), (4, .sl 1 W.length 1 0 W.length), (13, .agg namesV), (14, .int k)],
  [some (.box 23 [.int 0, .int 0, .int 0, .int 0, .int 0, .int 0, .int 0]), some (.dat 9 1 (strR W))]⟩
def par2S (W : List ByteArray) (k j : Nat) : St := ⟨[(2, .ptr 0 0), (3, .bool false), (4, .sl 1 W.length 1 0 W.length), (13, .agg namesV), (14, .int k), (5, .int k), (7, .sl 2 j 1 0 j), (37, .sl 1 W.length 1 1 (W.length - 1)), (38, .int ((W.length - 1 : Nat) : Int)), (39, .int j)],
  [some (.box 23 [.int 0, .int 0, .int 0, .int 0, .int 0, .int 0, .int 0]), some (.dat 9 1 (strR W)), some (.dat 3 1 (numR (((W.drop 1).take j).map numW)))]⟩
set_option maxHeartbeats 4000000 in
theorem parse_tri (hB : ∀ g row, bookG g = some row → G g = some row) (m : Int) (hM : G 2 = some [.val (.int .i64 m)]) (s : ByteArray) (hs : s.size ≤ 1000000) : Tri Tryd.prog G 40 [.d (.val (.string s))] [] (optOp (parseO s)) [] := by
  have hmany : G 0 = some manyR := hB _ _ rfl
  have hnames : G 1 = some namesR := hB _ _ rfl
  generalize hq : parseO s = q
  refine tri_W Tryd.func40 (by decide) irOk40 (Nat.le_of_ble_eq_true rfl) ?_
  simp only [ir40, go_sem, ↓reduceIte, zA, zB, zC, zD, zE, zF, reduceCtorEq, zG, zH, zI, zJ, zK, zL, zM, zN, zO, zP]
  obtain ⟨hW0, hW1⟩ := words_len s
  refine W_calln (words_tri m hM s hs) rfl rfl rfl ?_
  unfold parseO at hq
  generalize wordsO s = W at *
  have hWn := strR_len W
  have ht22 : List.take 22 namesR = namesR := rfl
  have hn22 : namesR.length = 22 := rfl
  have hnm : ∀ k : Nat, k < 22 → namesV[k]? = some (.d (.val (.string (nameOf k)))) := fun k hk => by
    have := name_at k ⟨by omega, by omega⟩
    rw [Int.toNat_natCast] at this
    simp only [namesV, List.getElem?_map, this, Option.map_some]
  simp only [hnames, ht22, hn22, go_sem, ↓reduceIte, zA, zB, zC, zD, zE, zF, reduceCtorEq, zG, zH, zI, zJ, zK, zL, zM, zN, zO, zP]
  refine W_loopI [2, 3, 4, 13, 14] [] (fun k : Nat => k ≤ 22 ∧ parseF W (22 - k) k = q) (fun k => 22 - k) (parS W) 0 ?_ ⟨Nat.zero_le _, hq⟩ ?_
  · simp only [parS, Int.natCast_zero, namesV, go_sem, ↓reduceIte, zA, zB, zC, zD, zE, zF, reduceCtorEq, zG, zH, zI, zJ, zK, zL, zM, zN, zO, zP]
  rintro k ⟨hk, hF⟩
  simp only [parS, go_sem, ↓reduceIte, zA, zB, zC, zD, zE, zF, reduceCtorEq, zG, zH, zI, zJ, zK, zL, zM, zN, zO, zP]
  by_cases hlt : k < 22
  case neg =>
    rw [show 22 - k = 0 by omega, parseF] at hF
    subst hF
    simp only [decide_eq_false (show ¬ ((k : Nat) : Int) < 22 by omega), go_sem, ↓reduceIte, zA, zB, zC, zD, zE, zF, reduceCtorEq, zG, zH, zI, zJ, zK, zL, zM, zN, zO, zP]
    exact BackS (objs' := []) ⟨rfl, rfl⟩ rfl rfl rfl
  rw [show 22 - k = (22 - (k + 1)) + 1 by omega, parseF] at hF
  have hnk := hnm k hlt
  have hW0g := get_mapD (f := fun x : ByteArray => [DV.val (.string x)]) ⟨#[]⟩ hW0
  simp only [decide_eq_true (show ((k : Nat) : Int) < 22 by omega), hnk, hlt, go_sem, ↓reduceIte, zA, zB, zC, zD, zE, zF, reduceCtorEq, zG, zH, zI, zJ, zK, zL, zM, zN, zO, zP]
  by_cases hne : nameOf k = ⟨#[]⟩
  case pos =>
    have ht : tryO W k = none := by unfold tryO; rw [if_pos (.inl hne)]
    rw [ht] at hF
    simp only [str_eq, decide_eq_true hne, go_sem, ↓reduceIte, zA, zB, zC, zD, zE, zF, reduceCtorEq, zG, zH, zI, zJ, zK, zL, zM, zN, zO, zP]
    refine W_lpI (k + 1) ?_ ?_ ⟨by omega, hF⟩ (by omega)
    · simp only [idl_names, go_sem, ↓reduceIte, zA, zB, zC, zD, zE, zF, reduceCtorEq, zG, zH, zI, zJ, zK, zL, zM, zN, zO, zP]
    · simp only [parS, strR, wrap_succ (show k < 9223372036854775807 by omega), go_sem, ↓reduceIte, zA, zB, zC, zD, zE, zF, reduceCtorEq, zG, zH, zI, zJ, zK, zL, zM, zN, zO, zP]
  by_cases hnw : nameOf k ≠ W.getD 0 ⟨#[]⟩
  case pos =>
    have ht : tryO W k = none := by unfold tryO; rw [if_pos (.inr (.inl hnw))]
    rw [ht] at hF
    simp only [str_eq, decide_eq_false hne, hW0, hW0g, strR, decide_eq_false (show ¬ nameOf (k : Int) = W.getD 0 ⟨#[]⟩ from hnw), go_sem, ↓reduceIte, zA, zB, zC, zD, zE, zF, reduceCtorEq, zG, zH, zI, zJ, zK, zL, zM, zN, zO, zP]
    refine W_lpI (k + 1) ?_ ?_ ⟨by omega, hF⟩ (by omega)
    · simp only [idl_names, go_sem, ↓reduceIte, zA, zB, zC, zD, zE, zF, reduceCtorEq, zG, zH, zI, zJ, zK, zL, zM, zN, zO, zP]
    · simp only [parS, strR, wrap_succ (show k < 9223372036854775807 by omega), go_sem, ↓reduceIte, zA, zB, zC, zD, zE, zF, reduceCtorEq, zG, zH, zI, zJ, zK, zL, zM, zN, zO, zP]
  have hkk : 1 ≤ (k : Int) ∧ (k : Int) ≤ 21 := Decidable.byContradiction fun h => hne (name_none k h)
  have hk0 : (0 : Int) ≤ k := by omega
  have hk1 : (k : Int).toNat < 22 := by omega
  have hmk := many_at k hkk
  have hm6 := manyK_le k
  have hnw2 : nameOf (k : Int) = W.getD 0 ⟨#[]⟩ := Decidable.byContradiction hnw
  have hw : IntKind.i64.wrap ((manyK k : Nat) + 1 : Int) = ((manyK k + 1 : Nat) : Int) := by rw [wrap_in (by omega) (by omega)]; rfl
  simp only [Int.toNat_natCast] at hmk hk1
  simp only [str_eq, decide_eq_false hne, hW0, hW0g, strR, decide_eq_true hnw2, List.length_map, hmany, hk0, hlt, Nat.mul_one, hmk, hw, go_sem, ↓reduceIte, zA, zB, zC, zD, zE, zF, reduceCtorEq, zG, zH, zI, zJ, zK, zL, zM, zN, zO, zP]
  by_cases hln : W.length = manyK k + 1
  case neg =>
    have ht : tryO W k = none := by unfold tryO; rw [if_pos (.inr (.inr hln))]
    rw [ht] at hF
    simp only [show (((W.length : Nat) : Int) != ((manyK k + 1 : Nat) : Int)) = true from bne_iff_ne.2 (by omega), go_sem, ↓reduceIte, zA, zB, zC, zD, zE, zF, reduceCtorEq, zG, zH, zI, zJ, zK, zL, zM, zN, zO, zP]
    refine W_lpI (k + 1) ?_ ?_ ⟨by omega, hF⟩ (by omega)
    · simp only [idl_names, go_sem, ↓reduceIte, zA, zB, zC, zD, zE, zF, reduceCtorEq, zG, zH, zI, zJ, zK, zL, zM, zN, zO, zP]
    · simp only [parS, strR, wrap_succ (show k < 9223372036854775807 by omega), go_sem, ↓reduceIte, zA, zB, zC, zD, zE, zF, reduceCtorEq, zG, zH, zI, zJ, zK, zL, zM, zN, zO, zP]
  simp only [show (((W.length : Nat) : Int) != ((manyK k + 1 : Nat) : Int)) = false by rw [hln]; simp, go_sem, ↓reduceIte, zA, zB, zC, zD, zE, zF, reduceCtorEq, zG, zH, zI, zJ, zK, zL, zM, zN, zO, zP]
  have hb1 : 1 ≤ W.length ∧ W.length ≤ W.length := ⟨by omega, Nat.le_refl _⟩
  simp only [hb1, and_self, hWn, strR, List.length_map, go_sem, ↓reduceIte, zA, zB, zC, zD, zE, zF, reduceCtorEq, zG, zH, zI, zJ, zK, zL, zM, zN, zO, zP]
  refine W_loopI [2, 3, 4, 13, 14, 5, 7, 37, 38, 39] [.t 7 3 1] (fun j : Nat => j ≤ W.length - 1) (fun j => W.length - 1 - j) (par2S W k) 0 ?_ (Nat.zero_le _) ?_
  · simp only [par2S, Int.natCast_zero, strR, numR, List.take_zero, List.map_nil, go_sem, ↓reduceIte, zA, zB, zC, zD, zE, zF, reduceCtorEq, zG, zH, zI, zJ, zK, zL, zM, zN, zO, zP]
  rintro j hj
  simp only [par2S, go_sem, ↓reduceIte, zA, zB, zC, zD, zE, zF, reduceCtorEq, zG, zH, zI, zJ, zK, zL, zM, zN, zO, zP]
  by_cases hjl : j < W.length - 1
  case neg =>
    have hje : j = W.length - 1 := by omega
    have htk : (W.drop 1).take j = W.drop 1 := List.take_of_length_le (by rw [List.length_drop]; omega)
    have hxl : ((W.drop 1).map numW).length = j := by rw [List.length_map, List.length_drop]; omega
    have ht : tryO W k = if opOkB (ofI k ((W.drop 1).map numW)) = true then some (ofI k ((W.drop 1).map numW)) else none := by unfold tryO; rw [if_neg (by rintro (h | h | h); exact hne h; exact hnw h; exact h hln)]
    simp only [decide_eq_false (show ¬ ((j : Nat) : Int) < ((W.length - 1 : Nat) : Int) by omega), htk, go_sem, ↓reduceIte, zA, zB, zC, zD, zE, zF, reduceCtorEq, zG, zH, zI, zJ, zK, zL, zM, zN, zO, zP]
    rw [ht] at hF
    generalize (W.drop 1).map numW = xs at *
    refine W_callz [2] (of_tri k xs (by omega)) rfl (by simp [argRs, argR, rowsAt, objL, hxl, numR, List.length_map, List.take_of_length_le, and_self, go_sem, ↓reduceIte, zA, zB, zC, zD, zE, zF, reduceCtorEq, zG, zH, zI, zJ, zK, zL, zM, zN, zO, zP]) (by simp [objL]) rfl rfl ?_; simp only [go_sem, ↓reduceIte, zA, zB, zC, zD, zE, zF, reduceCtorEq, zG, zH, zI, zJ, zK, zL, zM, zN, zO, zP]
    generalize ofI k xs = o at *
    refine W_calld ((opsRight_tri o).up hB) rfl rfl rfl rfl ?_
    cases hr : opOkB o with
    | false =>
      rw [if_neg (by rw [hr]; decide)] at hF
      simp only [go_sem, ↓reduceIte, zA, zB, zC, zD, zE, zF, reduceCtorEq, zG, zH, zI, zJ, zK, zL, zM, zN, zO, zP]
      refine W_lpI (k + 1) ?_ ?_ ⟨by omega, hF⟩ (by omega)
      · simp only [idl_names, go_sem, ↓reduceIte, zA, zB, zC, zD, zE, zF, reduceCtorEq, zG, zH, zI, zJ, zK, zL, zM, zN, zO, zP]
      · simp only [parS, strR, wrap_succ (show k < 9223372036854775807 by omega), go_sem, ↓reduceIte, zA, zB, zC, zD, zE, zF, reduceCtorEq, zG, zH, zI, zJ, zK, zL, zM, zN, zO, zP]
    | true =>
      rw [if_pos hr] at hF
      have : q = some o := hF.symm
      subst this
      simp only [go_sem, ↓reduceIte, zA, zB, zC, zD, zE, zF, reduceCtorEq, zG, zH, zI, zJ, zK, zL, zM, zN, zO, zP]
      exact BackS (objs' := []) ⟨rfl, rfl⟩ rfl rfl rfl
  simp only [decide_eq_true (show ((j : Nat) : Int) < ((W.length - 1 : Nat) : Int) by omega), go_sem, ↓reduceIte, zA, zB, zC, zD, zE, zF, reduceCtorEq, zG, zH, zI, zJ, zK, zL, zM, zN, zO, zP]
  have hg2 := get_mapD (f := fun x : ByteArray => [DV.val (.string x)]) ⟨#[]⟩ (show 1 + j < W.length by omega)
  have hsuc : ((W.drop 1).take (j + 1)).map numW = ((W.drop 1).take j).map numW ++ [numW (W.getD (1 + j) ⟨#[]⟩)] := by
    have h2 : j < (W.drop 1).length := by rw [List.length_drop]; omega
    rw [List.take_add_one, List.map_append]
    rw [Nat.add_comm 1 j]
    simp [List.getD, show j + 1 < W.length by omega, h2]
  have hxl : (((W.drop 1).take j).map numW).length = j := by rw [List.length_map, List.length_take, List.length_drop]; omega
  simp only [hjl, hg2, strR, List.length_map, go_sem, ↓reduceIte, zA, zB, zC, zD, zE, zF, reduceCtorEq, zG, zH, zI, zJ, zK, zL, zM, zN, zO, zP]
  refine W_calld (number_tri (W.getD (1 + j) ⟨#[]⟩)) rfl rfl rfl rfl ?_; simp only [go_sem, ↓reduceIte, zA, zB, zC, zD, zE, zF, reduceCtorEq, zG, zH, zI, zJ, zK, zL, zM, zN, zO, zP]
  generalize numW (W.getD (1 + j) ⟨#[]⟩) = n at *
  have hnl : (numR (((W.drop 1).take j).map numW)).length = j := by simp only [numR, List.length_map] at hxl ⊢; exact hxl
  have h7 : j = (numR (((W.drop 1).take j).map numW)).length ∧ (numR (((W.drop 1).take j).map numW) ++ [[DV.val (Value.int IntKind.i64 n)]]).length * 8 ≤ 70368744177664 := ⟨hnl.symm, by rw [List.length_append, hnl]; simp; omega⟩
  rw [if_pos h7]
  simp only [hnl, go_sem, ↓reduceIte, zA, zB, zC, zD, zE, zF, reduceCtorEq, zG, zH, zI, zJ, zK, zL, zM, zN, zO, zP]
  refine W_lpI (j + 1) ?_ ?_ (by omega) (by omega)
  · simp only [idl_names, go_sem, ↓reduceIte, zA, zB, zC, zD, zE, zF, reduceCtorEq, zG, zH, zI, zJ, zK, zL, zM, zN, zO, zP]
  · simp only [par2S, strR, hsuc, numR, List.map_append, List.map_cons, List.map_nil, wrap_succ (show j < 9223372036854775807 by omega), go_sem, ↓reduceIte, zA, zB, zC, zD, zE, zF, reduceCtorEq, zG, zH, zI, zJ, zK, zL, zM, zN, zO, zP]
end Dv


