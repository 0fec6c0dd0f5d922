/- image.reader: the whole state. -/
import Derived.Test.YtbhdfmgphcelhaaDoorI2
import Derived.Test.YtbhdfmgphcelhaaDoorPB
set_option linter.unusedVariables false
set_option linter.unusedSimpArgs false
namespace Dv
open Go Go.Proofs
open Nat renaming reduceEqDiff → zA, reduceAdd → zB, reduceSub → zC, reduceMul → zD, reduceLT → zE, reduceLeDiff → zF
open Int renaming reduceLE → zG, reduceLT → zH, reduceToNat → zI, reduceBEq → zJ, reduceBNe → zK, reduceEq → zL, reduceAdd → zM, reduceSub → zN, reduceMul → zO, reduceNeg → zP
attribute [local go_sem] argEnv W_nil W_seq W_skip W_ret W_exit W_scope W_block W_blk W_reg W_regD W_cond WC_t WC_f WC_any Wx_c Wx_ops Wx_lp Wx_blk W_ops_nil W_opsD_q W_guard W_guardD WG_tt WG_ff WG_tf WG_ft WG_u WGD_tt WGD_ff WGD_tf WGD_ft WGD_u WE_some WED_some W_mv W_pick W_new W_box W_build W_bsl W_ld1 W_ldn W_st W_nck W_bin W_eqb W_not W_cvt W_fad W_fld1 W_fldn W_ixa W_ixr W_ix1 W_ixs W_len W_lens W_mkf W_ext W_app W_min W_isnp W_isns W_eqs W_neg W_ixn W_sli W_sls WD_mv WD_pick WD_new WD_box WD_build WD_bsl WD_ld1 WD_ldn WD_st WD_nck WD_bin WD_eqb WD_not WD_cvt WD_fad WD_fld1 WD_fldn WD_ixa WD_ixr WD_ix1 WD_ixs WD_len WD_lens WD_mkf WD_ext WD_app WD_min WD_isnp WD_isns WD_eqs WD_neg WD_ixn WD_sli WD_sls effF Opd.ev getE putE binV LV.int LV.bool LV.undef Go.undef LV.cells LV.toD LV.toDs splice fillL rowsOf srcRows updL objL Eff.owned nwp St.get St.obj St.put Value.oneCell' Ends adopt Ad.ap isNil St.keep St.okKeep okObj idl idlL idlO RVs.of RV.of oneOr Ends0 EndsO_iff frzs rn rnL rnO piOf eqCells eqV boundV Option.map_some Option.map_none List.append_nil List.nil_append List.cons_append List.map_nil List.map_cons List.length_nil List.length_cons List.set_cons_zero List.set_cons_succ List.take_succ_cons List.take_zero List.take_nil List.drop_succ_cons List.drop_zero List.drop_nil List.getElem?_cons_zero List.getElem?_cons_succ List.getElem?_nil List.isEmpty_nil List.isEmpty_cons List.all_cons List.all_nil List.isEmpty_nil cond_true cond_false Bool.true_and Bool.false_and Bool.and_true Bool.and_false Bool.not_true Bool.not_false Bool.or_true Bool.true_or Bool.or_false Bool.false_or true_and and_true true_or or_true Option.some.injEq LV.d.injEq DV.val.injEq Value.bool.injEq Value.int.injEq decide_true decide_false and_self Nat.zero_add Nat.add_zero if_true if_false Int.toNat_zero beq_self_eq_true Nat.zero_lt_succ Int.toNat_natCast Int.natCast_nonneg List.length_map i64 bl List.zip_cons_cons List.zip_nil_left List.zip_nil_right nwp confV stateV nodeV jobV nodesV jobsV opV msgV nodeR jobR opR msgR zeroOp zeroMsg msgsV
variable {G : Nat → Option (List DV)}

/-- image.reader.state -/
def ir25 : Nat × C × List RV := (94,
(.seq (.reg [⟨(some 2), .new 27 [(.val (.slice none 0 0)), (.val (.slice none 0 0)), (.val (.int .i64 0)), (.val (.int .i64 0)), (.val (.int .i64 0)), (.val (.int .i64 0))], none, []⟩])
 (.seq (.reg [⟨(some 3), .new 27 [(.val (.slice none 0 0)), (.val (.slice none 0 0)), (.val (.int .i64 0)), (.val (.int .i64 0)), (.val (.int .i64 0)), (.val (.int .i64 0))], none, []⟩])
 (.seq (.seq (.reg [⟨(some 6), .mv (.t 0), none, []⟩,
 ⟨(some 7), .call (.f 58) [(.t 6), (.c (.val (.int .i64 6)))], none, []⟩,
 ⟨(some 8), .mv (.c (.val (.int .i64 0))), none, []⟩])
 (.block 0 (.loop (.seq (.reg [⟨(some 9), .bin .lss (.t 8) (.t 7), none, []⟩])
 (.seq (.cond (.t 9) .skip
 (.exit 0))
 (.seq (.block 1 (.seq (.reg [⟨(some 10), .mv (.t 0), none, []⟩,
 ⟨(some 11), .call (.f 58) [(.t 10), (.c (.val (.int .i64 7)))], none, []⟩,
 ⟨(some 4), .mv (.t 11), none, []⟩])
 (.regD [⟨(some 12), .fad 0 (.t 3), none, []⟩,
 ⟨(some 13), .ld1 (.t 12), none, [0]⟩,
 ⟨(some 14), .mv (.t 4), none, []⟩,
 ⟨(some 15), .bin .and (.t 14) (.c (.val (.int .i64 1))), none, [2]⟩,
 ⟨(some 16), .bin .neq (.t 15) (.c (.val (.int .i64 0))), none, [3, 2]⟩,
 ⟨(some 17), .mv (.t 4), none, []⟩,
 ⟨(some 18), .bin .and (.t 17) (.c (.val (.int .i64 2))), none, [5]⟩,
 ⟨(some 19), .bin .neq (.t 18) (.c (.val (.int .i64 0))), none, [6, 5]⟩,
 ⟨(some 20), .mv (.t 4), none, []⟩,
 ⟨(some 21), .bin .and (.t 20) (.c (.val (.int .i64 4))), none, [8]⟩,
 ⟨(some 22), .bin .neq (.t 21) (.c (.val (.int .i64 0))), none, [9, 8]⟩,
 ⟨(some 23), .mv (.t 0), none, []⟩,
 ⟨(some 24), .call (.f 59) [(.t 23)], none, [11]⟩,
 ⟨(some 25), .mv (.t 0), none, []⟩,
 ⟨(some 26), .call (.f 59) [(.t 25)], none, [13, 12, 11]⟩,
 ⟨(some 27), .build [(.val (.bool false)), (.val (.bool false)), (.val (.bool false)), (.val (.int .i64 0)), (.val (.int .i64 0))] [(0, 1, (.t 16)), (1, 1, (.t 19)), (2, 1, (.t 22)), (3, 1, (.t 24)), (4, 1, (.t 26))], none, [4, 3, 2, 7, 6, 5, 10, 9, 8, 12, 11, 14, 13]⟩,
 ⟨(some 28), .bsl 50 5 [(.t 27)], none, [15, 4, 3, 2, 7, 6, 5, 10, 9, 8, 12, 11, 14, 13]⟩,
 ⟨(some 29), .app 50 5 24 (.t 13) (.t 28), none, [1, 0, 16, 15, 4, 3, 2, 7, 6, 5, 10, 9, 8, 12, 11, 14, 13]⟩,
 ⟨(some 30), .fad 0 (.t 3), none, [0, 1, 2, 3, 4, 5, 6, 7, 8, 9, 10, 11, 12, 13, 14, 15, 16, 17]⟩,
 ⟨none, .st 1 (.t 30) (.t 29), none, [18, 0, 1, 2, 3, 4, 5, 6, 7, 8, 9, 10, 11, 12, 13, 14, 15, 16, 17]⟩])))
 (.reg [⟨(some 31), .bin .add (.t 8) (.c (.val (.int .i64 1))), none, []⟩,
 ⟨(some 8), .mv (.t 31), none, []⟩])))))))
 (.seq (.seq (.reg [⟨(some 32), .mv (.t 0), none, []⟩,
 ⟨(some 33), .call (.f 58) [(.t 32), (.c (.val (.int .i64 24)))], none, []⟩,
 ⟨(some 34), .mv (.c (.val (.int .i64 0))), none, []⟩])
 (.block 2 (.loop (.seq (.reg [⟨(some 35), .bin .lss (.t 34) (.t 33), none, []⟩])
 (.seq (.cond (.t 35) .skip
 (.exit 2))
 (.seq (.block 3 (.seq (.reg [⟨(some 36), .mv (.t 0), none, []⟩,
 ⟨(some 37), .call (.f 59) [(.t 36)], none, []⟩,
 ⟨(some 38), .mv (.t 0), none, []⟩,
 ⟨(some 39), .call (.f 59) [(.t 38)], none, []⟩,
 ⟨(some 40), .mv (.t 0), none, []⟩,
 ⟨(some 41), .call (.f 59) [(.t 40)], none, []⟩,
 ⟨(some 42), .mv (.t 0), none, []⟩,
 ⟨(some 43), .call (.f 59) [(.t 42)], none, []⟩,
 ⟨(some 44), .mv (.t 0), none, []⟩,
 ⟨(some 45), .call (.f 59) [(.t 44)], none, []⟩,
 ⟨(some 46), .mv (.t 0), none, []⟩,
 ⟨(some 47), .call (.f 59) [(.t 46)], none, []⟩,
 ⟨(some 48), .build [(.val (.int .i64 0)), (.val (.int .i64 0)), (.val (.int .i64 0)), (.val (.int .i64 0)), (.val (.int .i64 0)), (.val (.int .i64 0)), (.val (.int .i64 0)), (.val (.int .i64 0)), (.val (.int .i64 0)), (.val (.int .i64 0)), (.val (.int .i64 0)), (.val (.int .i64 0))] [(0, 1, (.t 37)), (1, 1, (.t 39)), (2, 1, (.t 41)), (3, 1, (.t 43)), (4, 1, (.t 45)), (5, 1, (.t 47))], none, []⟩,
 ⟨(some 5), .new 47 [(.val (.int .i64 0)), (.val (.int .i64 0)), (.val (.int .i64 0)), (.val (.int .i64 0)), (.val (.int .i64 0)), (.val (.int .i64 0)), (.val (.int .i64 0)), (.val (.int .i64 0)), (.val (.int .i64 0)), (.val (.int .i64 0)), (.val (.int .i64 0)), (.val (.int .i64 0))], none, []⟩,
 ⟨none, .st 12 (.t 5) (.t 48), none, []⟩])
 (.seq (.reg [⟨(some 49), .mv (.t 0), none, []⟩,
 ⟨(some 50), .call (.f 59) [(.t 49)], none, []⟩,
 ⟨(some 51), .mv (.t 0), none, []⟩,
 ⟨(some 52), .call (.f 59) [(.t 51)], none, []⟩,
 ⟨(some 53), .mv (.t 0), none, []⟩,
 ⟨(some 54), .call (.f 59) [(.t 53)], none, []⟩,
 ⟨(some 55), .mv (.t 0), none, []⟩,
 ⟨(some 56), .call (.f 59) [(.t 55)], none, []⟩,
 ⟨(some 57), .mv (.t 0), none, []⟩,
 ⟨(some 58), .call (.f 59) [(.t 57)], none, []⟩,
 ⟨(some 59), .mv (.t 0), none, []⟩,
 ⟨(some 60), .call (.f 59) [(.t 59)], none, []⟩,
 ⟨(some 61), .fad 6 (.t 5), none, []⟩,
 ⟨none, .st 1 (.t 61) (.t 50), none, []⟩,
 ⟨(some 62), .fad 7 (.t 5), none, []⟩,
 ⟨none, .st 1 (.t 62) (.t 52), none, []⟩,
 ⟨(some 63), .fad 8 (.t 5), none, []⟩,
 ⟨none, .st 1 (.t 63) (.t 54), none, []⟩,
 ⟨(some 64), .fad 9 (.t 5), none, []⟩,
 ⟨none, .st 1 (.t 64) (.t 56), none, []⟩,
 ⟨(some 65), .fad 10 (.t 5), none, []⟩,
 ⟨none, .st 1 (.t 65) (.t 58), none, []⟩,
 ⟨(some 66), .fad 11 (.t 5), none, []⟩,
 ⟨none, .st 1 (.t 66) (.t 60), none, []⟩])
 (.reg [⟨(some 67), .fad 1 (.t 3), none, []⟩,
 ⟨(some 68), .ld1 (.t 67), none, []⟩,
 ⟨(some 69), .ldn 12 (.t 5), none, []⟩,
 ⟨(some 70), .bsl 47 12 [(.t 69)], none, []⟩,
 ⟨(some 71), .app 47 12 96 (.t 68) (.t 70), none, []⟩,
 ⟨(some 72), .fad 1 (.t 3), none, []⟩,
 ⟨none, .st 1 (.t 72) (.t 71), none, []⟩]))))
 (.reg [⟨(some 73), .bin .add (.t 34) (.c (.val (.int .i64 1))), none, []⟩,
 ⟨(some 34), .mv (.t 73), none, []⟩])))))))
 (.seq (.reg [⟨(some 74), .mv (.t 0), none, []⟩,
 ⟨(some 75), .call (.f 59) [(.t 74)], none, []⟩,
 ⟨(some 76), .mv (.t 0), none, []⟩,
 ⟨(some 77), .call (.f 59) [(.t 76)], none, []⟩,
 ⟨(some 78), .mv (.t 0), none, []⟩,
 ⟨(some 79), .call (.f 59) [(.t 78)], none, []⟩,
 ⟨(some 80), .mv (.t 0), none, []⟩,
 ⟨(some 81), .call (.f 59) [(.t 80)], none, []⟩,
 ⟨(some 82), .fad 2 (.t 3), none, []⟩,
 ⟨none, .st 1 (.t 82) (.t 75), none, []⟩,
 ⟨(some 83), .fad 3 (.t 3), none, []⟩,
 ⟨none, .st 1 (.t 83) (.t 77), none, []⟩,
 ⟨(some 84), .fad 4 (.t 3), none, []⟩,
 ⟨none, .st 1 (.t 84) (.t 79), none, []⟩,
 ⟨(some 85), .fad 5 (.t 3), none, []⟩,
 ⟨none, .st 1 (.t 85) (.t 81), none, []⟩])
 (.seq (.reg [⟨(some 86), .mv (.t 0), none, []⟩,
 ⟨(some 87), .nck (.t 86), none, []⟩,
 ⟨(some 88), .fad 0 (.t 87), none, []⟩,
 ⟨(some 89), .ld1 (.t 88), none, []⟩,
 ⟨(some 90), .len (.t 89), none, []⟩,
 ⟨(some 91), .bin .eql (.t 90) (.c (.val (.int .i64 0))), none, []⟩,
 ⟨(some 92), .call (.f 24) [(.t 91)], none, []⟩])
 (.seq (.reg [⟨(some 93), .ldn 6 (.t 3), none, []⟩,
 ⟨none, .st 6 (.t 2) (.t 93), none, []⟩])
 .ret))))))),
[(.cn 2 6)])
theorem irOk25 : convFn Tryd.prog Tryd.f25 = some ir25 := by kernel_rfl

attribute [local go_sem] rdO intR
attribute [local simp] rdO

def nilV : LV := .d (.val (.slice none 0 0))
attribute [local go_sem] nilV
/-- where the reader's walk ends -/
def rFin (xs : List Int) : Except Nat StateD → St → Prop
  | .ok s => Back [.cn 2 6] 2 (.agg [.sl 2 s.nodes.length 5 0 s.nodes.length, .sl 3 s.jobs.length 12 0 s.jobs.length, .int s.goal, .int s.prior, .int s.mode, .int s.term]) (rdO xs xs.length ++ [.dat 50 5 (s.nodes.map nodeR), .dat 47 12 (s.jobs.map jobR)])
  | .error _ => fun _ => False
def rTail (xs : List Int) : Except Nat StateD → List It
  | .ok _ => []
  | .error k => [.pn (PanK noneV (rdO xs k))]

def stN (xs : List Int) (n : Int) (ns : List NodeD) : St := ⟨[(0, .ptr 0 0), (2, .ptr 2 0), (3, .ptr 3 0), (7, .int n), (8, .int ns.length)],
  [some (.box 76 [.sl 1 xs.length 1 (1 + 3 * ns.length) (xs.length - (1 + 3 * ns.length))]), some (.dat 3 1 (intR xs)), some (.box 27 [nilV, nilV, .int 0, .int 0, .int 0, .int 0]),
   some (.box 27 [.sl 4 ns.length 5 0 ns.length, nilV, .int 0, .int 0, .int 0, .int 0]), some (.dat 50 5 (ns.map nodeR))]⟩

def stJ (xs : List Int) (m : Int) (ns : List NodeD) (p0 : Nat) (js : List JobD) : St := ⟨[(0, .ptr 0 0), (2, .ptr 2 0), (3, .ptr 3 0), (33, .int m), (34, .int js.length)],
  [some (.box 76 [.sl 1 xs.length 1 (p0 + 12 * js.length) (xs.length - (p0 + 12 * js.length))]), some (.dat 3 1 (intR xs)), some (.box 27 [nilV, nilV, .int 0, .int 0, .int 0, .int 0]),
   some (.box 27 [.sl 4 ns.length 5 0 ns.length, .sl 5 js.length 12 0 js.length, .int 0, .int 0, .int 0, .int 0]), some (.dat 50 5 (ns.map nodeR)), some (.dat 47 12 (js.map jobR))]⟩
set_option maxHeartbeats 2000000 in
theorem state_walk (xs : List Int) (h400 : xs.length ≤ 400) (h0 : ∀ x ∈ xs, 0 ≤ x) : W Tryd.prog G (rFin xs (pState xs)) (.c ir25.2.1 :: rTail xs (pState xs)) ⟨argEnv 0 [.ptr 0 0], (rdO xs 0).map some⟩ := by
  generalize hq : pState xs = q
  replace hq : pState (xs.drop 0) = q := hq
  simp only [ir25, go_sem, ↓reduceIte, zA, zB, zC, zD, zE, zF, reduceCtorEq, zG, zH, zI, zJ, zK, zL, zM, zN, zO, zP]
  cases hl : xs.drop 0 with
  | nil =>
    have hk := dropI_nil hl (Nat.zero_le _)
    rw [hl, pState] at hq
    subst hq
    simp only [rTail]
    have hT := rcount_triX0 (G := G) xs 6
    rw [← hk] at hT
    refine W_callxo [0, 1] (hT) rfl (by simp only [argRs, argR, List.map_cons, List.map_nil, go_sem, ↓reduceIte, zA, zB, zC, zD, zE, zF, reduceCtorEq, zG, zH, zI, zJ, zK, zL, zM, zN, zO, zP]) (by decide) (by simp only [go_sem, ↓reduceIte, zA, zB, zC, zD, zE, zF, reduceCtorEq, zG, zH, zI, zJ, zK, zL, zM, zN, zO, zP]) (by simp only [go_sem, ↓reduceIte, zA, zB, zC, zD, zE, zF, reduceCtorEq, zG, zH, zI, zJ, zK, zL, zM, zN, zO, zP, List.all_cons, List.all_nil]) (by simp) ?_; simp only [Wx_c, Wx_ops, Wx_blk, Wx_lp, Wx_pn, PAN, PanK, go_sem, ↓reduceIte, zA, zB, zC, zD, zE, zF, reduceCtorEq, zG, zH, zI, zJ, zK, zL, zM, zN, zO, zP]
  | cons n l =>
  obtain ⟨hk, hx, hd⟩ := dropI_cons hl
  have hn0 : 0 ≤ n := h0 n (by rw [← hx]; simp [List.getD, hk])
  rw [hl, pState] at hq
  split at hq
  case isFalse hn6 =>
    subst hq
    simp only [rTail]
    have hT := rcount_triX (G := G) xs 0 6 hk (by omega) (by rw [hx]; exact hn6)
    refine W_callxo [0, 1] (hT) rfl (by simp only [argRs, argR, List.map_cons, List.map_nil, go_sem, ↓reduceIte, zA, zB, zC, zD, zE, zF, reduceCtorEq, zG, zH, zI, zJ, zK, zL, zM, zN, zO, zP]) (by decide) (by simp only [go_sem, ↓reduceIte, zA, zB, zC, zD, zE, zF, reduceCtorEq, zG, zH, zI, zJ, zK, zL, zM, zN, zO, zP]) (by simp only [go_sem, ↓reduceIte, zA, zB, zC, zD, zE, zF, reduceCtorEq, zG, zH, zI, zJ, zK, zL, zM, zN, zO, zP, List.all_cons, List.all_nil]) (by simp) ?_; simp only [Wx_c, Wx_ops, Wx_blk, Wx_lp, Wx_pn, PAN, PanK, go_sem, ↓reduceIte, zA, zB, zC, zD, zE, zF, reduceCtorEq, zG, zH, zI, zJ, zK, zL, zM, zN, zO, zP]
  rename_i hn6
  have hT := rcount_tri (G := G) xs 0 6 hk (by omega) (by rw [hx]; exact hn6)
  rw [hx] at hT
  refine W_callo [0, 1] (hT) rfl (by simp only [argRs, argR, List.map_cons, List.map_nil, go_sem, ↓reduceIte, zA, zB, zC, zD, zE, zF, reduceCtorEq, zG, zH, zI, zJ, zK, zL, zM, zN, zO, zP]) (by decide) (by simp only [go_sem, ↓reduceIte, zA, zB, zC, zD, zE, zF, reduceCtorEq, zG, zH, zI, zJ, zK, zL, zM, zN, zO, zP]) (by simp only [go_sem, ↓reduceIte, zA, zB, zC, zD, zE, zF, reduceCtorEq, zG, zH, zI, zJ, zK, zL, zM, zN, zO, zP, List.all_cons, List.all_nil]) (by simp) ?_; simp only [go_sem, ↓reduceIte, zA, zB, zC, zD, zE, zF, reduceCtorEq, zG, zH, zI, zJ, zK, zL, zM, zN, zO, zP]
  refine W_loopI [0, 2, 3, 7, 8] [.b 3 0 50 5] (fun ns : List NodeD => ns.length ≤ n.toNat ∧ 1 + 3 * ns.length ≤ xs.length ∧ pNodes (n.toNat - ns.length) ns (1 + 3 * ns.length) (xs.drop (1 + 3 * ns.length)) = q) (fun ns => n.toNat - ns.length) (stN xs n) [] ?_ ⟨Nat.zero_le _, by rw [List.length_nil]; omega, by rw [← hd] at hq; exact hq⟩ ?_
  · simp only [stN, go_sem, ↓reduceIte, zA, zB, zC, zD, zE, zF, reduceCtorEq, zG, zH, zI, zJ, zK, zL, zM, zN, zO, zP, Int.natCast_zero, Nat.mul_zero]
  clear hT hq hd hl hx
  rintro ns ⟨hi, hp, hF⟩
  generalize hln : ns.length = i at *
  simp only [stN, hln, go_sem, ↓reduceIte, zA, zB, zC, zD, zE, zF, reduceCtorEq, zG, zH, zI, zJ, zK, zL, zM, zN, zO, zP]
  cases hlt : decide ((i : Int) < n) with
  | false =>
    have hin : i = n.toNat := by have := of_decide_eq_false hlt; omega
    rw [show n.toNat - i = 0 by omega, pNodes_zero] at hF
    simp only [go_sem, ↓reduceIte, zA, zB, zC, zD, zE, zF, reduceCtorEq, zG, zH, zI, zJ, zK, zL, zM, zN, zO, zP]
    cases hl : xs.drop (1 + 3 * i) with
    | nil =>
      have hk := dropI_nil hl hp
      rw [hl] at hF
      replace hF : Except.error (1 + 3 * i) = q := hF
      subst hF
      simp only [rTail]
      have hT := rcount_triX0 (G := G) xs 24
      rw [← hk] at hT
      refine W_callxo [0, 1] (hT) rfl (by simp only [argRs, argR, List.map_cons, List.map_nil, go_sem, ↓reduceIte, zA, zB, zC, zD, zE, zF, reduceCtorEq, zG, zH, zI, zJ, zK, zL, zM, zN, zO, zP]) (by decide) (by simp only [go_sem, ↓reduceIte, zA, zB, zC, zD, zE, zF, reduceCtorEq, zG, zH, zI, zJ, zK, zL, zM, zN, zO, zP]) (by simp only [go_sem, ↓reduceIte, zA, zB, zC, zD, zE, zF, reduceCtorEq, zG, zH, zI, zJ, zK, zL, zM, zN, zO, zP, List.all_cons, List.all_nil]) (by simp) ?_; simp only [Wx_c, Wx_ops, Wx_blk, Wx_lp, Wx_pn, PAN, PanK, go_sem, ↓reduceIte, zA, zB, zC, zD, zE, zF, reduceCtorEq, zG, zH, zI, zJ, zK, zL, zM, zN, zO, zP]
    | cons m l =>
    obtain ⟨hk, hx, hd⟩ := dropI_cons hl
    have hm0 : 0 ≤ m := h0 m (by rw [← hx]; simp [List.getD, hk])
    rw [hl] at hF
    by_cases hm24 : m ≤ 24
    case neg =>
      rw [pJobs0_one _ _ _ _ hm24] at hF
      subst hF
      simp only [rTail]
      have hT := rcount_triX (G := G) xs (1 + 3 * i) 24 hk (by omega) (by rw [hx]; exact hm24)
      refine W_callxo [0, 1] (hT) rfl (by simp only [argRs, argR, List.map_cons, List.map_nil, go_sem, ↓reduceIte, zA, zB, zC, zD, zE, zF, reduceCtorEq, zG, zH, zI, zJ, zK, zL, zM, zN, zO, zP]) (by decide) (by simp only [go_sem, ↓reduceIte, zA, zB, zC, zD, zE, zF, reduceCtorEq, zG, zH, zI, zJ, zK, zL, zM, zN, zO, zP]) (by simp only [go_sem, ↓reduceIte, zA, zB, zC, zD, zE, zF, reduceCtorEq, zG, zH, zI, zJ, zK, zL, zM, zN, zO, zP, List.all_cons, List.all_nil]) (by simp) ?_; simp only [Wx_c, Wx_ops, Wx_blk, Wx_lp, Wx_pn, PAN, PanK, go_sem, ↓reduceIte, zA, zB, zC, zD, zE, zF, reduceCtorEq, zG, zH, zI, zJ, zK, zL, zM, zN, zO, zP]
    have hT := rcount_tri (G := G) xs (1 + 3 * i) 24 hk (by omega) (by rw [hx]; exact hm24)
    rw [hx] at hT
    rw [pJobs0_ok _ _ _ _ hm24] at hF
    refine W_callo [0, 1] (hT) rfl (by simp only [argRs, argR, List.map_cons, List.map_nil, go_sem, ↓reduceIte, zA, zB, zC, zD, zE, zF, reduceCtorEq, zG, zH, zI, zJ, zK, zL, zM, zN, zO, zP]) (by decide) (by simp only [go_sem, ↓reduceIte, zA, zB, zC, zD, zE, zF, reduceCtorEq, zG, zH, zI, zJ, zK, zL, zM, zN, zO, zP]) (by simp only [go_sem, ↓reduceIte, zA, zB, zC, zD, zE, zF, reduceCtorEq, zG, zH, zI, zJ, zK, zL, zM, zN, zO, zP, List.all_cons, List.all_nil]) (by simp) ?_; simp only [go_sem, ↓reduceIte, zA, zB, zC, zD, zE, zF, reduceCtorEq, zG, zH, zI, zJ, zK, zL, zM, zN, zO, zP]
    generalize hp0 : 1 + 3 * i + 1 = p0 at *
    have hln6 : ns.length ≤ 6 := by omega
    refine W_loopI [0, 2, 3, 33, 34] [.b 3 1 47 12] (fun js : List JobD => js.length ≤ m.toNat ∧ p0 + 12 * js.length ≤ xs.length ∧ pJobs ns (m.toNat - js.length) js (p0 + 12 * js.length) (xs.drop (p0 + 12 * js.length)) = q) (fun js => m.toNat - js.length) (stJ xs m ns p0) [] ?_ ⟨Nat.zero_le _, by rw [List.length_nil]; omega, by rw [← hd] at hF; exact hF⟩ ?_
    · simp only [stJ, hln, go_sem, ↓reduceIte, zA, zB, zC, zD, zE, zF, reduceCtorEq, zG, zH, zI, zJ, zK, zL, zM, zN, zO, zP, Int.natCast_zero, Nat.mul_zero]
    clear hT hF hd hl hx hk hp0
    rintro js ⟨hjm, hP, hF⟩
    generalize hlj : js.length = k at *
    generalize hPk : p0 + 12 * k = P at *
    simp only [stJ, hlj, hPk, hln, go_sem, ↓reduceIte, zA, zB, zC, zD, zE, zF, reduceCtorEq, zG, zH, zI, zJ, zK, zL, zM, zN, zO, zP]
    cases hltj : decide ((k : Int) < m) with
    | false =>
      have hkm : k = m.toNat := by have := of_decide_eq_false hltj; omega
      rw [show m.toNat - k = 0 by omega, pJobs_zero] at hF
      simp only [go_sem, ↓reduceIte, zA, zB, zC, zD, zE, zF, reduceCtorEq, zG, zH, zI, zJ, zK, zL, zM, zN, zO, zP]
      generalize hd0 : xs.drop P = l0 at hF
      cases hl0 : l0 with
      | nil =>
        have hk := dropI_nil (hd0.trans hl0) (by omega)
        have hF2 : Except.error (P + 0) = q := by rw [← hF, hl0]; rfl
        rw [show P + 0 = P from rfl] at hF2
        subst hF2
        simp only [rTail]
        have hT := rnext_triX (G := G) xs
        rw [← hk] at hT
        refine W_callxo [0, 1] (hT) rfl (by simp only [argRs, argR, List.map_cons, List.map_nil, go_sem, ↓reduceIte, zA, zB, zC, zD, zE, zF, reduceCtorEq, zG, zH, zI, zJ, zK, zL, zM, zN, zO, zP]) (by decide) (by simp only [go_sem, ↓reduceIte, zA, zB, zC, zD, zE, zF, reduceCtorEq, zG, zH, zI, zJ, zK, zL, zM, zN, zO, zP]) (by simp only [go_sem, ↓reduceIte, zA, zB, zC, zD, zE, zF, reduceCtorEq, zG, zH, zI, zJ, zK, zL, zM, zN, zO, zP, List.all_cons, List.all_nil]) (by simp) ?_; simp only [Wx_c, Wx_ops, Wx_blk, Wx_lp, Wx_pn, PAN, PanK, go_sem, ↓reduceIte, zA, zB, zC, zD, zE, zF, reduceCtorEq, zG, zH, zI, zJ, zK, zL, zM, zN, zO, zP]
      | cons x0 l1 =>
      obtain ⟨hk0, hx0, hd1⟩ := dropI_cons (hd0.trans hl0)
      have hT := rnext_tri (G := G) xs (P) hk0 (by omega)
      rw [hx0] at hT
      refine W_callo [0, 1] (hT) rfl (by simp only [argRs, argR, List.map_cons, List.map_nil, go_sem, ↓reduceIte, zA, zB, zC, zD, zE, zF, reduceCtorEq, zG, zH, zI, zJ, zK, zL, zM, zN, zO, zP]) (by decide) (by simp only [go_sem, ↓reduceIte, zA, zB, zC, zD, zE, zF, reduceCtorEq, zG, zH, zI, zJ, zK, zL, zM, zN, zO, zP]) (by simp only [go_sem, ↓reduceIte, zA, zB, zC, zD, zE, zF, reduceCtorEq, zG, zH, zI, zJ, zK, zL, zM, zN, zO, zP, List.all_cons, List.all_nil]) (by simp) ?_; simp only [go_sem, ↓reduceIte, zA, zB, zC, zD, zE, zF, reduceCtorEq, zG, zH, zI, zJ, zK, zL, zM, zN, zO, zP]
      clear hT
      cases hl1 : l1 with
      | nil =>
        have hk := dropI_nil (hd1.trans hl1) (by omega)
        have hF2 : Except.error (P + 1) = q := by rw [← hF, hl0, hl1]; rfl
        rw [show P + 1 = P + 1 from rfl] at hF2
        subst hF2
        simp only [rTail]
        have hT := rnext_triX (G := G) xs
        rw [← hk] at hT
        refine W_callxo [0, 1] (hT) rfl (by simp only [argRs, argR, List.map_cons, List.map_nil, go_sem, ↓reduceIte, zA, zB, zC, zD, zE, zF, reduceCtorEq, zG, zH, zI, zJ, zK, zL, zM, zN, zO, zP]) (by decide) (by simp only [go_sem, ↓reduceIte, zA, zB, zC, zD, zE, zF, reduceCtorEq, zG, zH, zI, zJ, zK, zL, zM, zN, zO, zP]) (by simp only [go_sem, ↓reduceIte, zA, zB, zC, zD, zE, zF, reduceCtorEq, zG, zH, zI, zJ, zK, zL, zM, zN, zO, zP, List.all_cons, List.all_nil]) (by simp) ?_; simp only [Wx_c, Wx_ops, Wx_blk, Wx_lp, Wx_pn, PAN, PanK, go_sem, ↓reduceIte, zA, zB, zC, zD, zE, zF, reduceCtorEq, zG, zH, zI, zJ, zK, zL, zM, zN, zO, zP]
      | cons x1 l2 =>
      obtain ⟨hk1, hx1, hd2⟩ := dropI_cons (hd1.trans hl1)
      have hT := rnext_tri (G := G) xs (P + 1) hk1 (by omega)
      rw [hx1] at hT
      refine W_callo [0, 1] (hT) rfl (by simp only [argRs, argR, List.map_cons, List.map_nil, go_sem, ↓reduceIte, zA, zB, zC, zD, zE, zF, reduceCtorEq, zG, zH, zI, zJ, zK, zL, zM, zN, zO, zP]) (by decide) (by simp only [go_sem, ↓reduceIte, zA, zB, zC, zD, zE, zF, reduceCtorEq, zG, zH, zI, zJ, zK, zL, zM, zN, zO, zP]) (by simp only [go_sem, ↓reduceIte, zA, zB, zC, zD, zE, zF, reduceCtorEq, zG, zH, zI, zJ, zK, zL, zM, zN, zO, zP, List.all_cons, List.all_nil]) (by simp) ?_; simp only [go_sem, ↓reduceIte, zA, zB, zC, zD, zE, zF, reduceCtorEq, zG, zH, zI, zJ, zK, zL, zM, zN, zO, zP]
      clear hT
      cases hl2 : l2 with
      | nil =>
        have hk := dropI_nil (hd2.trans hl2) (by omega)
        have hF2 : Except.error (P + 2) = q := by rw [← hF, hl0, hl1, hl2]; rfl
        rw [show P + 2 = P + 1 + 1 from rfl] at hF2
        subst hF2
        simp only [rTail]
        have hT := rnext_triX (G := G) xs
        rw [← hk] at hT
        refine W_callxo [0, 1] (hT) rfl (by simp only [argRs, argR, List.map_cons, List.map_nil, go_sem, ↓reduceIte, zA, zB, zC, zD, zE, zF, reduceCtorEq, zG, zH, zI, zJ, zK, zL, zM, zN, zO, zP]) (by decide) (by simp only [go_sem, ↓reduceIte, zA, zB, zC, zD, zE, zF, reduceCtorEq, zG, zH, zI, zJ, zK, zL, zM, zN, zO, zP]) (by simp only [go_sem, ↓reduceIte, zA, zB, zC, zD, zE, zF, reduceCtorEq, zG, zH, zI, zJ, zK, zL, zM, zN, zO, zP, List.all_cons, List.all_nil]) (by simp) ?_; simp only [Wx_c, Wx_ops, Wx_blk, Wx_lp, Wx_pn, PAN, PanK, go_sem, ↓reduceIte, zA, zB, zC, zD, zE, zF, reduceCtorEq, zG, zH, zI, zJ, zK, zL, zM, zN, zO, zP]
      | cons x2 l3 =>
      obtain ⟨hk2, hx2, hd3⟩ := dropI_cons (hd2.trans hl2)
      have hT := rnext_tri (G := G) xs (P + 1 + 1) hk2 (by omega)
      rw [hx2] at hT
      refine W_callo [0, 1] (hT) rfl (by simp only [argRs, argR, List.map_cons, List.map_nil, go_sem, ↓reduceIte, zA, zB, zC, zD, zE, zF, reduceCtorEq, zG, zH, zI, zJ, zK, zL, zM, zN, zO, zP]) (by decide) (by simp only [go_sem, ↓reduceIte, zA, zB, zC, zD, zE, zF, reduceCtorEq, zG, zH, zI, zJ, zK, zL, zM, zN, zO, zP]) (by simp only [go_sem, ↓reduceIte, zA, zB, zC, zD, zE, zF, reduceCtorEq, zG, zH, zI, zJ, zK, zL, zM, zN, zO, zP, List.all_cons, List.all_nil]) (by simp) ?_; simp only [go_sem, ↓reduceIte, zA, zB, zC, zD, zE, zF, reduceCtorEq, zG, zH, zI, zJ, zK, zL, zM, zN, zO, zP]
      clear hT
      cases hl3 : l3 with
      | nil =>
        have hk := dropI_nil (hd3.trans hl3) (by omega)
        have hF2 : Except.error (P + 3) = q := by rw [← hF, hl0, hl1, hl2, hl3]; rfl
        rw [show P + 3 = P + 1 + 1 + 1 from rfl] at hF2
        subst hF2
        simp only [rTail]
        have hT := rnext_triX (G := G) xs
        rw [← hk] at hT
        refine W_callxo [0, 1] (hT) rfl (by simp only [argRs, argR, List.map_cons, List.map_nil, go_sem, ↓reduceIte, zA, zB, zC, zD, zE, zF, reduceCtorEq, zG, zH, zI, zJ, zK, zL, zM, zN, zO, zP]) (by decide) (by simp only [go_sem, ↓reduceIte, zA, zB, zC, zD, zE, zF, reduceCtorEq, zG, zH, zI, zJ, zK, zL, zM, zN, zO, zP]) (by simp only [go_sem, ↓reduceIte, zA, zB, zC, zD, zE, zF, reduceCtorEq, zG, zH, zI, zJ, zK, zL, zM, zN, zO, zP, List.all_cons, List.all_nil]) (by simp) ?_; simp only [Wx_c, Wx_ops, Wx_blk, Wx_lp, Wx_pn, PAN, PanK, go_sem, ↓reduceIte, zA, zB, zC, zD, zE, zF, reduceCtorEq, zG, zH, zI, zJ, zK, zL, zM, zN, zO, zP]
      | cons x3 l4 =>
      obtain ⟨hk3, hx3, hd4⟩ := dropI_cons (hd3.trans hl3)
      have hT := rnext_tri (G := G) xs (P + 1 + 1 + 1) hk3 (by omega)
      rw [hx3] at hT
      refine W_callo [0, 1] (hT) rfl (by simp only [argRs, argR, List.map_cons, List.map_nil, go_sem, ↓reduceIte, zA, zB, zC, zD, zE, zF, reduceCtorEq, zG, zH, zI, zJ, zK, zL, zM, zN, zO, zP]) (by decide) (by simp only [go_sem, ↓reduceIte, zA, zB, zC, zD, zE, zF, reduceCtorEq, zG, zH, zI, zJ, zK, zL, zM, zN, zO, zP]) (by simp only [go_sem, ↓reduceIte, zA, zB, zC, zD, zE, zF, reduceCtorEq, zG, zH, zI, zJ, zK, zL, zM, zN, zO, zP, List.all_cons, List.all_nil]) (by simp) ?_; simp only [go_sem, ↓reduceIte, zA, zB, zC, zD, zE, zF, reduceCtorEq, zG, zH, zI, zJ, zK, zL, zM, zN, zO, zP]
      clear hT
      cases hl4 : l4 with
      | cons y l5 =>
        obtain ⟨hk4, _, _⟩ := dropI_cons (hd4.trans hl4)
        have hF2 : Except.error (P + 4) = q := by rw [← hF, hl0, hl1, hl2, hl3, hl4]; rfl
        rw [show P + 4 = P + 1 + 1 + 1 + 1 from rfl] at hF2
        subst hF2
        simp only [rTail]
        have h1 : (((xs.length - (P + 1 + 1 + 1 + 1) : Nat) : Int) == 0) = false := by simp; omega
        simp only [h1, go_sem, ↓reduceIte, zA, zB, zC, zD, zE, zF, reduceCtorEq, zG, zH, zI, zJ, zK, zL, zM, zN, zO, zP]
        refine W_callxd must_triX rfl rfl rfl ?_
        simp only [Wx_c, Wx_ops, Wx_blk, Wx_lp, Wx_pn, PAN, PanK, go_sem, ↓reduceIte, zA, zB, zC, zD, zE, zF, reduceCtorEq, zG, zH, zI, zJ, zK, zL, zM, zN, zO, zP]
      | nil =>
      have hk := dropI_nil (hd4.trans hl4) (by omega)
      have hF2 : Except.ok ⟨ns, js, x0, x1, x2, x3⟩ = q := by rw [← hF, hl0, hl1, hl2, hl3, hl4]; rfl
      subst hF2
      simp only [rTail]
      have h1 : (((xs.length - (P + 1 + 1 + 1 + 1) : Nat) : Int) == 0) = true := by simp; omega
      simp only [h1, go_sem, ↓reduceIte, zA, zB, zC, zD, zE, zF, reduceCtorEq, zG, zH, zI, zJ, zK, zL, zM, zN, zO, zP]
      refine W_calld (must_tri) rfl rfl rfl rfl ?_; simp only [go_sem, ↓reduceIte, zA, zB, zC, zD, zE, zF, reduceCtorEq, zG, zH, zI, zJ, zK, zL, zM, zN, zO, zP]
      simp only [rFin]
      clear hPk
      rw [hk]
      subst hln hlj
      refine BackR [] [0, 1, 4, 5] [] rfl rfl (by decide) (by simp) (by simp) rfl rfl ?_
      show argR _ _ _ (.agg [.sl 4 ns.length 5 0 ns.length, .sl 5 js.length 12 0 js.length, .int x0, .int x1, .int x2, .int x3]) _
      simp [argR, argRs, LV.int]
    | true =>
    have hkm : k < m.toNat := by have := of_decide_eq_true hltj; omega
    rw [show m.toNat - k = (m.toNat - (k + 1)) + 1 by omega] at hF
    simp only [go_sem, ↓reduceIte, zA, zB, zC, zD, zE, zF, reduceCtorEq, zG, zH, zI, zJ, zK, zL, zM, zN, zO, zP]
    generalize hd0 : xs.drop P = l0 at hF
    cases hl0 : l0 with
    | nil =>
      have hk := dropI_nil (hd0.trans hl0) (by omega)
      have hF2 : Except.error (P + 0) = q := by rw [← hF, hl0]; rfl
      rw [show P + 0 = P from rfl] at hF2
      subst hF2
      simp only [rTail]
      have hT := rnext_triX (G := G) xs
      rw [← hk] at hT
      refine W_callxo [0, 1] (hT) rfl (by simp only [argRs, argR, List.map_cons, List.map_nil, go_sem, ↓reduceIte, zA, zB, zC, zD, zE, zF, reduceCtorEq, zG, zH, zI, zJ, zK, zL, zM, zN, zO, zP]) (by decide) (by simp only [go_sem, ↓reduceIte, zA, zB, zC, zD, zE, zF, reduceCtorEq, zG, zH, zI, zJ, zK, zL, zM, zN, zO, zP]) (by simp only [go_sem, ↓reduceIte, zA, zB, zC, zD, zE, zF, reduceCtorEq, zG, zH, zI, zJ, zK, zL, zM, zN, zO, zP, List.all_cons, List.all_nil]) (by simp) ?_; simp only [Wx_c, Wx_ops, Wx_blk, Wx_lp, Wx_pn, PAN, PanK, go_sem, ↓reduceIte, zA, zB, zC, zD, zE, zF, reduceCtorEq, zG, zH, zI, zJ, zK, zL, zM, zN, zO, zP]
    | cons x0 l1 =>
    obtain ⟨hk0, hx0, hd1⟩ := dropI_cons (hd0.trans hl0)
    have hT := rnext_tri (G := G) xs (P) hk0 (by omega)
    rw [hx0] at hT
    refine W_callo [0, 1] (hT) rfl (by simp only [argRs, argR, List.map_cons, List.map_nil, go_sem, ↓reduceIte, zA, zB, zC, zD, zE, zF, reduceCtorEq, zG, zH, zI, zJ, zK, zL, zM, zN, zO, zP]) (by decide) (by simp only [go_sem, ↓reduceIte, zA, zB, zC, zD, zE, zF, reduceCtorEq, zG, zH, zI, zJ, zK, zL, zM, zN, zO, zP]) (by simp only [go_sem, ↓reduceIte, zA, zB, zC, zD, zE, zF, reduceCtorEq, zG, zH, zI, zJ, zK, zL, zM, zN, zO, zP, List.all_cons, List.all_nil]) (by simp) ?_; simp only [go_sem, ↓reduceIte, zA, zB, zC, zD, zE, zF, reduceCtorEq, zG, zH, zI, zJ, zK, zL, zM, zN, zO, zP]
    clear hT
    cases hl1 : l1 with
    | nil =>
      have hk := dropI_nil (hd1.trans hl1) (by omega)
      have hF2 : Except.error (P + 1) = q := by rw [← hF, hl0, hl1]; rfl
      rw [show P + 1 = P + 1 from rfl] at hF2
      subst hF2
      simp only [rTail]
      have hT := rnext_triX (G := G) xs
      rw [← hk] at hT
      refine W_callxo [0, 1] (hT) rfl (by simp only [argRs, argR, List.map_cons, List.map_nil, go_sem, ↓reduceIte, zA, zB, zC, zD, zE, zF, reduceCtorEq, zG, zH, zI, zJ, zK, zL, zM, zN, zO, zP]) (by decide) (by simp only [go_sem, ↓reduceIte, zA, zB, zC, zD, zE, zF, reduceCtorEq, zG, zH, zI, zJ, zK, zL, zM, zN, zO, zP]) (by simp only [go_sem, ↓reduceIte, zA, zB, zC, zD, zE, zF, reduceCtorEq, zG, zH, zI, zJ, zK, zL, zM, zN, zO, zP, List.all_cons, List.all_nil]) (by simp) ?_; simp only [Wx_c, Wx_ops, Wx_blk, Wx_lp, Wx_pn, PAN, PanK, go_sem, ↓reduceIte, zA, zB, zC, zD, zE, zF, reduceCtorEq, zG, zH, zI, zJ, zK, zL, zM, zN, zO, zP]
    | cons x1 l2 =>
    obtain ⟨hk1, hx1, hd2⟩ := dropI_cons (hd1.trans hl1)
    have hT := rnext_tri (G := G) xs (P + 1) hk1 (by omega)
    rw [hx1] at hT
    refine W_callo [0, 1] (hT) rfl (by simp only [argRs, argR, List.map_cons, List.map_nil, go_sem, ↓reduceIte, zA, zB, zC, zD, zE, zF, reduceCtorEq, zG, zH, zI, zJ, zK, zL, zM, zN, zO, zP]) (by decide) (by simp only [go_sem, ↓reduceIte, zA, zB, zC, zD, zE, zF, reduceCtorEq, zG, zH, zI, zJ, zK, zL, zM, zN, zO, zP]) (by simp only [go_sem, ↓reduceIte, zA, zB, zC, zD, zE, zF, reduceCtorEq, zG, zH, zI, zJ, zK, zL, zM, zN, zO, zP, List.all_cons, List.all_nil]) (by simp) ?_; simp only [go_sem, ↓reduceIte, zA, zB, zC, zD, zE, zF, reduceCtorEq, zG, zH, zI, zJ, zK, zL, zM, zN, zO, zP]
    clear hT
    cases hl2 : l2 with
    | nil =>
      have hk := dropI_nil (hd2.trans hl2) (by omega)
      have hF2 : Except.error (P + 2) = q := by rw [← hF, hl0, hl1, hl2]; rfl
      rw [show P + 2 = P + 1 + 1 from rfl] at hF2
      subst hF2
      simp only [rTail]
      have hT := rnext_triX (G := G) xs
      rw [← hk] at hT
      refine W_callxo [0, 1] (hT) rfl (by simp only [argRs, argR, List.map_cons, List.map_nil, go_sem, ↓reduceIte, zA, zB, zC, zD, zE, zF, reduceCtorEq, zG, zH, zI, zJ, zK, zL, zM, zN, zO, zP]) (by decide) (by simp only [go_sem, ↓reduceIte, zA, zB, zC, zD, zE, zF, reduceCtorEq, zG, zH, zI, zJ, zK, zL, zM, zN, zO, zP]) (by simp only [go_sem, ↓reduceIte, zA, zB, zC, zD, zE, zF, reduceCtorEq, zG, zH, zI, zJ, zK, zL, zM, zN, zO, zP, List.all_cons, List.all_nil]) (by simp) ?_; simp only [Wx_c, Wx_ops, Wx_blk, Wx_lp, Wx_pn, PAN, PanK, go_sem, ↓reduceIte, zA, zB, zC, zD, zE, zF, reduceCtorEq, zG, zH, zI, zJ, zK, zL, zM, zN, zO, zP]
    | cons x2 l3 =>
    obtain ⟨hk2, hx2, hd3⟩ := dropI_cons (hd2.trans hl2)
    have hT := rnext_tri (G := G) xs (P + 1 + 1) hk2 (by omega)
    rw [hx2] at hT
    refine W_callo [0, 1] (hT) rfl (by simp only [argRs, argR, List.map_cons, List.map_nil, go_sem, ↓reduceIte, zA, zB, zC, zD, zE, zF, reduceCtorEq, zG, zH, zI, zJ, zK, zL, zM, zN, zO, zP]) (by decide) (by simp only [go_sem, ↓reduceIte, zA, zB, zC, zD, zE, zF, reduceCtorEq, zG, zH, zI, zJ, zK, zL, zM, zN, zO, zP]) (by simp only [go_sem, ↓reduceIte, zA, zB, zC, zD, zE, zF, reduceCtorEq, zG, zH, zI, zJ, zK, zL, zM, zN, zO, zP, List.all_cons, List.all_nil]) (by simp) ?_; simp only [go_sem, ↓reduceIte, zA, zB, zC, zD, zE, zF, reduceCtorEq, zG, zH, zI, zJ, zK, zL, zM, zN, zO, zP]
    clear hT
    cases hl3 : l3 with
    | nil =>
      have hk := dropI_nil (hd3.trans hl3) (by omega)
      have hF2 : Except.error (P + 3) = q := by rw [← hF, hl0, hl1, hl2, hl3]; rfl
      rw [show P + 3 = P + 1 + 1 + 1 from rfl] at hF2
      subst hF2
      simp only [rTail]
      have hT := rnext_triX (G := G) xs
      rw [← hk] at hT
      refine W_callxo [0, 1] (hT) rfl (by simp only [argRs, argR, List.map_cons, List.map_nil, go_sem, ↓reduceIte, zA, zB, zC, zD, zE, zF, reduceCtorEq, zG, zH, zI, zJ, zK, zL, zM, zN, zO, zP]) (by decide) (by simp only [go_sem, ↓reduceIte, zA, zB, zC, zD, zE, zF, reduceCtorEq, zG, zH, zI, zJ, zK, zL, zM, zN, zO, zP]) (by simp only [go_sem, ↓reduceIte, zA, zB, zC, zD, zE, zF, reduceCtorEq, zG, zH, zI, zJ, zK, zL, zM, zN, zO, zP, List.all_cons, List.all_nil]) (by simp) ?_; simp only [Wx_c, Wx_ops, Wx_blk, Wx_lp, Wx_pn, PAN, PanK, go_sem, ↓reduceIte, zA, zB, zC, zD, zE, zF, reduceCtorEq, zG, zH, zI, zJ, zK, zL, zM, zN, zO, zP]
    | cons x3 l4 =>
    obtain ⟨hk3, hx3, hd4⟩ := dropI_cons (hd3.trans hl3)
    have hT := rnext_tri (G := G) xs (P + 1 + 1 + 1) hk3 (by omega)
    rw [hx3] at hT
    refine W_callo [0, 1] (hT) rfl (by simp only [argRs, argR, List.map_cons, List.map_nil, go_sem, ↓reduceIte, zA, zB, zC, zD, zE, zF, reduceCtorEq, zG, zH, zI, zJ, zK, zL, zM, zN, zO, zP]) (by decide) (by simp only [go_sem, ↓reduceIte, zA, zB, zC, zD, zE, zF, reduceCtorEq, zG, zH, zI, zJ, zK, zL, zM, zN, zO, zP]) (by simp only [go_sem, ↓reduceIte, zA, zB, zC, zD, zE, zF, reduceCtorEq, zG, zH, zI, zJ, zK, zL, zM, zN, zO, zP, List.all_cons, List.all_nil]) (by simp) ?_; simp only [go_sem, ↓reduceIte, zA, zB, zC, zD, zE, zF, reduceCtorEq, zG, zH, zI, zJ, zK, zL, zM, zN, zO, zP]
    clear hT
    cases hl4 : l4 with
    | nil =>
      have hk := dropI_nil (hd4.trans hl4) (by omega)
      have hF2 : Except.error (P + 4) = q := by rw [← hF, hl0, hl1, hl2, hl3, hl4]; rfl
      rw [show P + 4 = P + 1 + 1 + 1 + 1 from rfl] at hF2
      subst hF2
      simp only [rTail]
      have hT := rnext_triX (G := G) xs
      rw [← hk] at hT
      refine W_callxo [0, 1] (hT) rfl (by simp only [argRs, argR, List.map_cons, List.map_nil, go_sem, ↓reduceIte, zA, zB, zC, zD, zE, zF, reduceCtorEq, zG, zH, zI, zJ, zK, zL, zM, zN, zO, zP]) (by decide) (by simp only [go_sem, ↓reduceIte, zA, zB, zC, zD, zE, zF, reduceCtorEq, zG, zH, zI, zJ, zK, zL, zM, zN, zO, zP]) (by simp only [go_sem, ↓reduceIte, zA, zB, zC, zD, zE, zF, reduceCtorEq, zG, zH, zI, zJ, zK, zL, zM, zN, zO, zP, List.all_cons, List.all_nil]) (by simp) ?_; simp only [Wx_c, Wx_ops, Wx_blk, Wx_lp, Wx_pn, PAN, PanK, go_sem, ↓reduceIte, zA, zB, zC, zD, zE, zF, reduceCtorEq, zG, zH, zI, zJ, zK, zL, zM, zN, zO, zP]
    | cons x4 l5 =>
    obtain ⟨hk4, hx4, hd5⟩ := dropI_cons (hd4.trans hl4)
    have hT := rnext_tri (G := G) xs (P + 1 + 1 + 1 + 1) hk4 (by omega)
    rw [hx4] at hT
    refine W_callo [0, 1] (hT) rfl (by simp only [argRs, argR, List.map_cons, List.map_nil, go_sem, ↓reduceIte, zA, zB, zC, zD, zE, zF, reduceCtorEq, zG, zH, zI, zJ, zK, zL, zM, zN, zO, zP]) (by decide) (by simp only [go_sem, ↓reduceIte, zA, zB, zC, zD, zE, zF, reduceCtorEq, zG, zH, zI, zJ, zK, zL, zM, zN, zO, zP]) (by simp only [go_sem, ↓reduceIte, zA, zB, zC, zD, zE, zF, reduceCtorEq, zG, zH, zI, zJ, zK, zL, zM, zN, zO, zP, List.all_cons, List.all_nil]) (by simp) ?_; simp only [go_sem, ↓reduceIte, zA, zB, zC, zD, zE, zF, reduceCtorEq, zG, zH, zI, zJ, zK, zL, zM, zN, zO, zP]
    clear hT
    cases hl5 : l5 with
    | nil =>
      have hk := dropI_nil (hd5.trans hl5) (by omega)
      have hF2 : Except.error (P + 5) = q := by rw [← hF, hl0, hl1, hl2, hl3, hl4, hl5]; rfl
      rw [show P + 5 = P + 1 + 1 + 1 + 1 + 1 from rfl] at hF2
      subst hF2
      simp only [rTail]
      have hT := rnext_triX (G := G) xs
      rw [← hk] at hT
      refine W_callxo [0, 1] (hT) rfl (by simp only [argRs, argR, List.map_cons, List.map_nil, go_sem, ↓reduceIte, zA, zB, zC, zD, zE, zF, reduceCtorEq, zG, zH, zI, zJ, zK, zL, zM, zN, zO, zP]) (by decide) (by simp only [go_sem, ↓reduceIte, zA, zB, zC, zD, zE, zF, reduceCtorEq, zG, zH, zI, zJ, zK, zL, zM, zN, zO, zP]) (by simp only [go_sem, ↓reduceIte, zA, zB, zC, zD, zE, zF, reduceCtorEq, zG, zH, zI, zJ, zK, zL, zM, zN, zO, zP, List.all_cons, List.all_nil]) (by simp) ?_; simp only [Wx_c, Wx_ops, Wx_blk, Wx_lp, Wx_pn, PAN, PanK, go_sem, ↓reduceIte, zA, zB, zC, zD, zE, zF, reduceCtorEq, zG, zH, zI, zJ, zK, zL, zM, zN, zO, zP]
    | cons x5 l6 =>
    obtain ⟨hk5, hx5, hd6⟩ := dropI_cons (hd5.trans hl5)
    have hT := rnext_tri (G := G) xs (P + 1 + 1 + 1 + 1 + 1) hk5 (by omega)
    rw [hx5] at hT
    refine W_callo [0, 1] (hT) rfl (by simp only [argRs, argR, List.map_cons, List.map_nil, go_sem, ↓reduceIte, zA, zB, zC, zD, zE, zF, reduceCtorEq, zG, zH, zI, zJ, zK, zL, zM, zN, zO, zP]) (by decide) (by simp only [go_sem, ↓reduceIte, zA, zB, zC, zD, zE, zF, reduceCtorEq, zG, zH, zI, zJ, zK, zL, zM, zN, zO, zP]) (by simp only [go_sem, ↓reduceIte, zA, zB, zC, zD, zE, zF, reduceCtorEq, zG, zH, zI, zJ, zK, zL, zM, zN, zO, zP, List.all_cons, List.all_nil]) (by simp) ?_; simp only [go_sem, ↓reduceIte, zA, zB, zC, zD, zE, zF, reduceCtorEq, zG, zH, zI, zJ, zK, zL, zM, zN, zO, zP]
    clear hT
    cases hl6 : l6 with
    | nil =>
      have hk := dropI_nil (hd6.trans hl6) (by omega)
      have hF2 : Except.error (P + 6) = q := by rw [← hF, hl0, hl1, hl2, hl3, hl4, hl5, hl6]; rfl
      rw [show P + 6 = P + 1 + 1 + 1 + 1 + 1 + 1 from rfl] at hF2
      subst hF2
      simp only [rTail]
      have hT := rnext_triX (G := G) xs
      rw [← hk] at hT
      refine W_callxo [0, 1] (hT) rfl (by simp only [argRs, argR, List.map_cons, List.map_nil, go_sem, ↓reduceIte, zA, zB, zC, zD, zE, zF, reduceCtorEq, zG, zH, zI, zJ, zK, zL, zM, zN, zO, zP]) (by decide) (by simp only [go_sem, ↓reduceIte, zA, zB, zC, zD, zE, zF, reduceCtorEq, zG, zH, zI, zJ, zK, zL, zM, zN, zO, zP]) (by simp only [go_sem, ↓reduceIte, zA, zB, zC, zD, zE, zF, reduceCtorEq, zG, zH, zI, zJ, zK, zL, zM, zN, zO, zP, List.all_cons, List.all_nil]) (by simp) ?_; simp only [Wx_c, Wx_ops, Wx_blk, Wx_lp, Wx_pn, PAN, PanK, go_sem, ↓reduceIte, zA, zB, zC, zD, zE, zF, reduceCtorEq, zG, zH, zI, zJ, zK, zL, zM, zN, zO, zP]
    | cons x6 l7 =>
    obtain ⟨hk6, hx6, hd7⟩ := dropI_cons (hd6.trans hl6)
    have hT := rnext_tri (G := G) xs (P + 1 + 1 + 1 + 1 + 1 + 1) hk6 (by omega)
    rw [hx6] at hT
    refine W_callo [0, 1] (hT) rfl (by simp only [argRs, argR, List.map_cons, List.map_nil, go_sem, ↓reduceIte, zA, zB, zC, zD, zE, zF, reduceCtorEq, zG, zH, zI, zJ, zK, zL, zM, zN, zO, zP]) (by decide) (by simp only [go_sem, ↓reduceIte, zA, zB, zC, zD, zE, zF, reduceCtorEq, zG, zH, zI, zJ, zK, zL, zM, zN, zO, zP]) (by simp only [go_sem, ↓reduceIte, zA, zB, zC, zD, zE, zF, reduceCtorEq, zG, zH, zI, zJ, zK, zL, zM, zN, zO, zP, List.all_cons, List.all_nil]) (by simp) ?_; simp only [go_sem, ↓reduceIte, zA, zB, zC, zD, zE, zF, reduceCtorEq, zG, zH, zI, zJ, zK, zL, zM, zN, zO, zP]
    clear hT
    cases hl7 : l7 with
    | nil =>
      have hk := dropI_nil (hd7.trans hl7) (by omega)
      have hF2 : Except.error (P + 7) = q := by rw [← hF, hl0, hl1, hl2, hl3, hl4, hl5, hl6, hl7]; rfl
      rw [show P + 7 = P + 1 + 1 + 1 + 1 + 1 + 1 + 1 from rfl] at hF2
      subst hF2
      simp only [rTail]
      have hT := rnext_triX (G := G) xs
      rw [← hk] at hT
      refine W_callxo [0, 1] (hT) rfl (by simp only [argRs, argR, List.map_cons, List.map_nil, go_sem, ↓reduceIte, zA, zB, zC, zD, zE, zF, reduceCtorEq, zG, zH, zI, zJ, zK, zL, zM, zN, zO, zP]) (by decide) (by simp only [go_sem, ↓reduceIte, zA, zB, zC, zD, zE, zF, reduceCtorEq, zG, zH, zI, zJ, zK, zL, zM, zN, zO, zP]) (by simp only [go_sem, ↓reduceIte, zA, zB, zC, zD, zE, zF, reduceCtorEq, zG, zH, zI, zJ, zK, zL, zM, zN, zO, zP, List.all_cons, List.all_nil]) (by simp) ?_; simp only [Wx_c, Wx_ops, Wx_blk, Wx_lp, Wx_pn, PAN, PanK, go_sem, ↓reduceIte, zA, zB, zC, zD, zE, zF, reduceCtorEq, zG, zH, zI, zJ, zK, zL, zM, zN, zO, zP]
    | cons x7 l8 =>
    obtain ⟨hk7, hx7, hd8⟩ := dropI_cons (hd7.trans hl7)
    have hT := rnext_tri (G := G) xs (P + 1 + 1 + 1 + 1 + 1 + 1 + 1) hk7 (by omega)
    rw [hx7] at hT
    refine W_callo [0, 1] (hT) rfl (by simp only [argRs, argR, List.map_cons, List.map_nil, go_sem, ↓reduceIte, zA, zB, zC, zD, zE, zF, reduceCtorEq, zG, zH, zI, zJ, zK, zL, zM, zN, zO, zP]) (by decide) (by simp only [go_sem, ↓reduceIte, zA, zB, zC, zD, zE, zF, reduceCtorEq, zG, zH, zI, zJ, zK, zL, zM, zN, zO, zP]) (by simp only [go_sem, ↓reduceIte, zA, zB, zC, zD, zE, zF, reduceCtorEq, zG, zH, zI, zJ, zK, zL, zM, zN, zO, zP, List.all_cons, List.all_nil]) (by simp) ?_; simp only [go_sem, ↓reduceIte, zA, zB, zC, zD, zE, zF, reduceCtorEq, zG, zH, zI, zJ, zK, zL, zM, zN, zO, zP]
    clear hT
    cases hl8 : l8 with
    | nil =>
      have hk := dropI_nil (hd8.trans hl8) (by omega)
      have hF2 : Except.error (P + 8) = q := by rw [← hF, hl0, hl1, hl2, hl3, hl4, hl5, hl6, hl7, hl8]; rfl
      rw [show P + 8 = P + 1 + 1 + 1 + 1 + 1 + 1 + 1 + 1 from rfl] at hF2
      subst hF2
      simp only [rTail]
      have hT := rnext_triX (G := G) xs
      rw [← hk] at hT
      refine W_callxo [0, 1] (hT) rfl (by simp only [argRs, argR, List.map_cons, List.map_nil, go_sem, ↓reduceIte, zA, zB, zC, zD, zE, zF, reduceCtorEq, zG, zH, zI, zJ, zK, zL, zM, zN, zO, zP]) (by decide) (by simp only [go_sem, ↓reduceIte, zA, zB, zC, zD, zE, zF, reduceCtorEq, zG, zH, zI, zJ, zK, zL, zM, zN, zO, zP]) (by simp only [go_sem, ↓reduceIte, zA, zB, zC, zD, zE, zF, reduceCtorEq, zG, zH, zI, zJ, zK, zL, zM, zN, zO, zP, List.all_cons, List.all_nil]) (by simp) ?_; simp only [Wx_c, Wx_ops, Wx_blk, Wx_lp, Wx_pn, PAN, PanK, go_sem, ↓reduceIte, zA, zB, zC, zD, zE, zF, reduceCtorEq, zG, zH, zI, zJ, zK, zL, zM, zN, zO, zP]
    | cons x8 l9 =>
    obtain ⟨hk8, hx8, hd9⟩ := dropI_cons (hd8.trans hl8)
    have hT := rnext_tri (G := G) xs (P + 1 + 1 + 1 + 1 + 1 + 1 + 1 + 1) hk8 (by omega)
    rw [hx8] at hT
    refine W_callo [0, 1] (hT) rfl (by simp only [argRs, argR, List.map_cons, List.map_nil, go_sem, ↓reduceIte, zA, zB, zC, zD, zE, zF, reduceCtorEq, zG, zH, zI, zJ, zK, zL, zM, zN, zO, zP]) (by decide) (by simp only [go_sem, ↓reduceIte, zA, zB, zC, zD, zE, zF, reduceCtorEq, zG, zH, zI, zJ, zK, zL, zM, zN, zO, zP]) (by simp only [go_sem, ↓reduceIte, zA, zB, zC, zD, zE, zF, reduceCtorEq, zG, zH, zI, zJ, zK, zL, zM, zN, zO, zP, List.all_cons, List.all_nil]) (by simp) ?_; simp only [go_sem, ↓reduceIte, zA, zB, zC, zD, zE, zF, reduceCtorEq, zG, zH, zI, zJ, zK, zL, zM, zN, zO, zP]
    clear hT
    cases hl9 : l9 with
    | nil =>
      have hk := dropI_nil (hd9.trans hl9) (by omega)
      have hF2 : Except.error (P + 9) = q := by rw [← hF, hl0, hl1, hl2, hl3, hl4, hl5, hl6, hl7, hl8, hl9]; rfl
      rw [show P + 9 = P + 1 + 1 + 1 + 1 + 1 + 1 + 1 + 1 + 1 from rfl] at hF2
      subst hF2
      simp only [rTail]
      have hT := rnext_triX (G := G) xs
      rw [← hk] at hT
      refine W_callxo [0, 1] (hT) rfl (by simp only [argRs, argR, List.map_cons, List.map_nil, go_sem, ↓reduceIte, zA, zB, zC, zD, zE, zF, reduceCtorEq, zG, zH, zI, zJ, zK, zL, zM, zN, zO, zP]) (by decide) (by simp only [go_sem, ↓reduceIte, zA, zB, zC, zD, zE, zF, reduceCtorEq, zG, zH, zI, zJ, zK, zL, zM, zN, zO, zP]) (by simp only [go_sem, ↓reduceIte, zA, zB, zC, zD, zE, zF, reduceCtorEq, zG, zH, zI, zJ, zK, zL, zM, zN, zO, zP, List.all_cons, List.all_nil]) (by simp) ?_; simp only [Wx_c, Wx_ops, Wx_blk, Wx_lp, Wx_pn, PAN, PanK, go_sem, ↓reduceIte, zA, zB, zC, zD, zE, zF, reduceCtorEq, zG, zH, zI, zJ, zK, zL, zM, zN, zO, zP]
    | cons x9 l10 =>
    obtain ⟨hk9, hx9, hd10⟩ := dropI_cons (hd9.trans hl9)
    have hT := rnext_tri (G := G) xs (P + 1 + 1 + 1 + 1 + 1 + 1 + 1 + 1 + 1) hk9 (by omega)
    rw [hx9] at hT
    refine W_callo [0, 1] (hT) rfl (by simp only [argRs, argR, List.map_cons, List.map_nil, go_sem, ↓reduceIte, zA, zB, zC, zD, zE, zF, reduceCtorEq, zG, zH, zI, zJ, zK, zL, zM, zN, zO, zP]) (by decide) (by simp only [go_sem, ↓reduceIte, zA, zB, zC, zD, zE, zF, reduceCtorEq, zG, zH, zI, zJ, zK, zL, zM, zN, zO, zP]) (by simp only [go_sem, ↓reduceIte, zA, zB, zC, zD, zE, zF, reduceCtorEq, zG, zH, zI, zJ, zK, zL, zM, zN, zO, zP, List.all_cons, List.all_nil]) (by simp) ?_; simp only [go_sem, ↓reduceIte, zA, zB, zC, zD, zE, zF, reduceCtorEq, zG, zH, zI, zJ, zK, zL, zM, zN, zO, zP]
    clear hT
    cases hl10 : l10 with
    | nil =>
      have hk := dropI_nil (hd10.trans hl10) (by omega)
      have hF2 : Except.error (P + 10) = q := by rw [← hF, hl0, hl1, hl2, hl3, hl4, hl5, hl6, hl7, hl8, hl9, hl10]; rfl
      rw [show P + 10 = P + 1 + 1 + 1 + 1 + 1 + 1 + 1 + 1 + 1 + 1 from rfl] at hF2
      subst hF2
      simp only [rTail]
      have hT := rnext_triX (G := G) xs
      rw [← hk] at hT
      refine W_callxo [0, 1] (hT) rfl (by simp only [argRs, argR, List.map_cons, List.map_nil, go_sem, ↓reduceIte, zA, zB, zC, zD, zE, zF, reduceCtorEq, zG, zH, zI, zJ, zK, zL, zM, zN, zO, zP]) (by decide) (by simp only [go_sem, ↓reduceIte, zA, zB, zC, zD, zE, zF, reduceCtorEq, zG, zH, zI, zJ, zK, zL, zM, zN, zO, zP]) (by simp only [go_sem, ↓reduceIte, zA, zB, zC, zD, zE, zF, reduceCtorEq, zG, zH, zI, zJ, zK, zL, zM, zN, zO, zP, List.all_cons, List.all_nil]) (by simp) ?_; simp only [Wx_c, Wx_ops, Wx_blk, Wx_lp, Wx_pn, PAN, PanK, go_sem, ↓reduceIte, zA, zB, zC, zD, zE, zF, reduceCtorEq, zG, zH, zI, zJ, zK, zL, zM, zN, zO, zP]
    | cons x10 l11 =>
    obtain ⟨hk10, hx10, hd11⟩ := dropI_cons (hd10.trans hl10)
    have hT := rnext_tri (G := G) xs (P + 1 + 1 + 1 + 1 + 1 + 1 + 1 + 1 + 1 + 1) hk10 (by omega)
    rw [hx10] at hT
    refine W_callo [0, 1] (hT) rfl (by simp only [argRs, argR, List.map_cons, List.map_nil, go_sem, ↓reduceIte, zA, zB, zC, zD, zE, zF, reduceCtorEq, zG, zH, zI, zJ, zK, zL, zM, zN, zO, zP]) (by decide) (by simp only [go_sem, ↓reduceIte, zA, zB, zC, zD, zE, zF, reduceCtorEq, zG, zH, zI, zJ, zK, zL, zM, zN, zO, zP]) (by simp only [go_sem, ↓reduceIte, zA, zB, zC, zD, zE, zF, reduceCtorEq, zG, zH, zI, zJ, zK, zL, zM, zN, zO, zP, List.all_cons, List.all_nil]) (by simp) ?_; simp only [go_sem, ↓reduceIte, zA, zB, zC, zD, zE, zF, reduceCtorEq, zG, zH, zI, zJ, zK, zL, zM, zN, zO, zP]
    clear hT
    cases hl11 : l11 with
    | nil =>
      have hk := dropI_nil (hd11.trans hl11) (by omega)
      have hF2 : Except.error (P + 11) = q := by rw [← hF, hl0, hl1, hl2, hl3, hl4, hl5, hl6, hl7, hl8, hl9, hl10, hl11]; rfl
      rw [show P + 11 = P + 1 + 1 + 1 + 1 + 1 + 1 + 1 + 1 + 1 + 1 + 1 from rfl] at hF2
      subst hF2
      simp only [rTail]
      have hT := rnext_triX (G := G) xs
      rw [← hk] at hT
      refine W_callxo [0, 1] (hT) rfl (by simp only [argRs, argR, List.map_cons, List.map_nil, go_sem, ↓reduceIte, zA, zB, zC, zD, zE, zF, reduceCtorEq, zG, zH, zI, zJ, zK, zL, zM, zN, zO, zP]) (by decide) (by simp only [go_sem, ↓reduceIte, zA, zB, zC, zD, zE, zF, reduceCtorEq, zG, zH, zI, zJ, zK, zL, zM, zN, zO, zP]) (by simp only [go_sem, ↓reduceIte, zA, zB, zC, zD, zE, zF, reduceCtorEq, zG, zH, zI, zJ, zK, zL, zM, zN, zO, zP, List.all_cons, List.all_nil]) (by simp) ?_; simp only [Wx_c, Wx_ops, Wx_blk, Wx_lp, Wx_pn, PAN, PanK, go_sem, ↓reduceIte, zA, zB, zC, zD, zE, zF, reduceCtorEq, zG, zH, zI, zJ, zK, zL, zM, zN, zO, zP]
    | cons x11 l12 =>
    obtain ⟨hk11, hx11, hd12⟩ := dropI_cons (hd11.trans hl11)
    have hT := rnext_tri (G := G) xs (P + 1 + 1 + 1 + 1 + 1 + 1 + 1 + 1 + 1 + 1 + 1) hk11 (by omega)
    rw [hx11] at hT
    refine W_callo [0, 1] (hT) rfl (by simp only [argRs, argR, List.map_cons, List.map_nil, go_sem, ↓reduceIte, zA, zB, zC, zD, zE, zF, reduceCtorEq, zG, zH, zI, zJ, zK, zL, zM, zN, zO, zP]) (by decide) (by simp only [go_sem, ↓reduceIte, zA, zB, zC, zD, zE, zF, reduceCtorEq, zG, zH, zI, zJ, zK, zL, zM, zN, zO, zP]) (by simp only [go_sem, ↓reduceIte, zA, zB, zC, zD, zE, zF, reduceCtorEq, zG, zH, zI, zJ, zK, zL, zM, zN, zO, zP, List.all_cons, List.all_nil]) (by simp) ?_; simp only [go_sem, ↓reduceIte, zA, zB, zC, zD, zE, zF, reduceCtorEq, zG, zH, zI, zJ, zK, zL, zM, zN, zO, zP]
    clear hT
    rw [hl0, hl1, hl2, hl3, hl4, hl5, hl6, hl7, hl8, hl9, hl10, hl11, pJobs_more] at hF
    have happ : ∀ row : List DV, (List.map jobR js ++ [row]).length * 96 ≤ 70368744177664 := fun row => by simp only [List.length_append, List.length_map, List.length_cons, List.length_nil]; omega
    simp only [hlj, if_pos (happ _), go_sem, ↓reduceIte, zA, zB, zC, zD, zE, zF, reduceCtorEq, zG, zH, zI, zJ, zK, zL, zM, zN, zO, zP]
    refine W_lpI (js ++ [⟨x0, x1, x2, x3, x4, x5, x6, x7, x8, x9, x10, x11⟩]) ?_ ?_ ⟨by simp; omega, by simp; omega, ?_⟩ (by simp; omega)
    · simp only [go_sem, ↓reduceIte, zA, zB, zC, zD, zE, zF, reduceCtorEq, zG, zH, zI, zJ, zK, zL, zM, zN, zO, zP]
    · simp only [stJ, List.length_append, List.map_append, hlj, hln, wrap_succ (show k < 9223372036854775807 by omega), show p0 + 12 * (k + 1) = P + 1 + 1 + 1 + 1 + 1 + 1 + 1 + 1 + 1 + 1 + 1 + 1 by omega, go_sem, ↓reduceIte, zA, zB, zC, zD, zE, zF, reduceCtorEq, zG, zH, zI, zJ, zK, zL, zM, zN, zO, zP]
    · simp only [List.length_append, List.length_cons, List.length_nil, hlj, show p0 + 12 * (k + (0 + 1)) = P + 1 + 1 + 1 + 1 + 1 + 1 + 1 + 1 + 1 + 1 + 1 + 1 by omega]
      rw [hd12]; exact hF
  | true =>
  have hin : i < n.toNat := by have := of_decide_eq_true hlt; omega
  rw [show n.toNat - i = (n.toNat - (i + 1)) + 1 by omega] at hF
  simp only [go_sem, ↓reduceIte, zA, zB, zC, zD, zE, zF, reduceCtorEq, zG, zH, zI, zJ, zK, zL, zM, zN, zO, zP]
  cases hl : xs.drop (1 + 3 * i) with
  | nil =>
    have hk := dropI_nil hl hp
    rw [hl, pNodes_nil] at hF
    subst hF
    simp only [rTail]
    have hT := rcount_triX0 (G := G) xs 7
    rw [← hk] at hT
    refine W_callxo [0, 1] (hT) rfl (by simp only [argRs, argR, List.map_cons, List.map_nil, go_sem, ↓reduceIte, zA, zB, zC, zD, zE, zF, reduceCtorEq, zG, zH, zI, zJ, zK, zL, zM, zN, zO, zP]) (by decide) (by simp only [go_sem, ↓reduceIte, zA, zB, zC, zD, zE, zF, reduceCtorEq, zG, zH, zI, zJ, zK, zL, zM, zN, zO, zP]) (by simp only [go_sem, ↓reduceIte, zA, zB, zC, zD, zE, zF, reduceCtorEq, zG, zH, zI, zJ, zK, zL, zM, zN, zO, zP, List.all_cons, List.all_nil]) (by simp) ?_; simp only [Wx_c, Wx_ops, Wx_blk, Wx_lp, Wx_pn, PAN, PanK, go_sem, ↓reduceIte, zA, zB, zC, zD, zE, zF, reduceCtorEq, zG, zH, zI, zJ, zK, zL, zM, zN, zO, zP]
  | cons f l =>
  obtain ⟨hk, hx, hd⟩ := dropI_cons hl
  have hf0 : 0 ≤ f := h0 f (by rw [← hx]; simp [List.getD, hk])
  rw [hl] at hF
  by_cases hf7 : f ≤ 7
  case neg =>
    rw [pNodes_one _ _ _ _ _ hf7] at hF
    subst hF
    simp only [rTail]
    have hT := rcount_triX (G := G) xs (1 + 3 * i) 7 hk (by omega) (by rw [hx]; exact hf7)
    refine W_callxo [0, 1] (hT) rfl (by simp only [argRs, argR, List.map_cons, List.map_nil, go_sem, ↓reduceIte, zA, zB, zC, zD, zE, zF, reduceCtorEq, zG, zH, zI, zJ, zK, zL, zM, zN, zO, zP]) (by decide) (by simp only [go_sem, ↓reduceIte, zA, zB, zC, zD, zE, zF, reduceCtorEq, zG, zH, zI, zJ, zK, zL, zM, zN, zO, zP]) (by simp only [go_sem, ↓reduceIte, zA, zB, zC, zD, zE, zF, reduceCtorEq, zG, zH, zI, zJ, zK, zL, zM, zN, zO, zP, List.all_cons, List.all_nil]) (by simp) ?_; simp only [Wx_c, Wx_ops, Wx_blk, Wx_lp, Wx_pn, PAN, PanK, go_sem, ↓reduceIte, zA, zB, zC, zD, zE, zF, reduceCtorEq, zG, zH, zI, zJ, zK, zL, zM, zN, zO, zP]
  have hT := rcount_tri (G := G) xs (1 + 3 * i) 7 hk (by omega) (by rw [hx]; exact hf7)
  rw [hx] at hT
  refine W_callo [0, 1] (hT) rfl (by simp only [argRs, argR, List.map_cons, List.map_nil, go_sem, ↓reduceIte, zA, zB, zC, zD, zE, zF, reduceCtorEq, zG, zH, zI, zJ, zK, zL, zM, zN, zO, zP]) (by decide) (by simp only [go_sem, ↓reduceIte, zA, zB, zC, zD, zE, zF, reduceCtorEq, zG, zH, zI, zJ, zK, zL, zM, zN, zO, zP]) (by simp only [go_sem, ↓reduceIte, zA, zB, zC, zD, zE, zF, reduceCtorEq, zG, zH, zI, zJ, zK, zL, zM, zN, zO, zP, List.all_cons, List.all_nil]) (by simp) ?_; simp only [go_sem, ↓reduceIte, zA, zB, zC, zD, zE, zF, reduceCtorEq, zG, zH, zI, zJ, zK, zL, zM, zN, zO, zP]
  cases hl2 : l with
  | nil =>
    rw [hl2] at hF hd
    have hk2 := dropI_nil hd (by omega)
    rw [pNodes_f _ _ _ _ hf7] at hF
    subst hF
    simp only [rTail]
    have hT2 := rnext_triX (G := G) xs
    rw [← hk2] at hT2
    refine WD_callxo [0, 1] (hT2) rfl (by simp only [argRs, argR, List.map_cons, List.map_nil, go_sem, ↓reduceIte, zA, zB, zC, zD, zE, zF, reduceCtorEq, zG, zH, zI, zJ, zK, zL, zM, zN, zO, zP]) (by decide) (by simp only [go_sem, ↓reduceIte, zA, zB, zC, zD, zE, zF, reduceCtorEq, zG, zH, zI, zJ, zK, zL, zM, zN, zO, zP]) (by simp only [go_sem, ↓reduceIte, zA, zB, zC, zD, zE, zF, reduceCtorEq, zG, zH, zI, zJ, zK, zL, zM, zN, zO, zP, List.all_cons, List.all_nil]) (by simp) ?_ ?_
    · simp only [Wx_c, Wx_ops, Wx_blk, Wx_lp, Wx_pn, PAN, PanK, go_sem, ↓reduceIte, zA, zB, zC, zD, zE, zF, reduceCtorEq, zG, zH, zI, zJ, zK, zL, zM, zN, zO, zP]
    · (repeat' (first | rw [W_opsP_dead (by decide)] | rw [W_opsP_mv (by decide)])) <;> rw [W_opsP_nil] <;> exact ⟨by decide, by decide⟩
  | cons v l2 =>
  rw [hl2] at hF hd
  obtain ⟨hk2, hx2, hd2⟩ := dropI_cons hd
  have hT2 := rnext_tri (G := G) xs (1 + 3 * i + 1) hk2 (by omega)
  rw [hx2] at hT2
  refine WD_callo [0, 1] (hT2) rfl (by simp only [argRs, argR, List.map_cons, List.map_nil, go_sem, ↓reduceIte, zA, zB, zC, zD, zE, zF, reduceCtorEq, zG, zH, zI, zJ, zK, zL, zM, zN, zO, zP]) (by decide) (by simp only [go_sem, ↓reduceIte, zA, zB, zC, zD, zE, zF, reduceCtorEq, zG, zH, zI, zJ, zK, zL, zM, zN, zO, zP]) (by simp only [go_sem, ↓reduceIte, zA, zB, zC, zD, zE, zF, reduceCtorEq, zG, zH, zI, zJ, zK, zL, zM, zN, zO, zP, List.all_cons, List.all_nil]) (by simp) ?_; simp only [go_sem, ↓reduceIte, zA, zB, zC, zD, zE, zF, reduceCtorEq, zG, zH, zI, zJ, zK, zL, zM, zN, zO, zP]
  cases hl3 : l2 with
  | nil =>
    rw [hl3] at hF hd2
    have hk3 := dropI_nil hd2 (by omega)
    rw [pNodes_fv _ _ _ _ _ hf7] at hF
    subst hF
    simp only [rTail]
    have hT3 := rnext_triX (G := G) xs
    rw [← hk3] at hT3
    refine WD_callxo [0, 1] (hT3) rfl (by simp only [argRs, argR, List.map_cons, List.map_nil, go_sem, ↓reduceIte, zA, zB, zC, zD, zE, zF, reduceCtorEq, zG, zH, zI, zJ, zK, zL, zM, zN, zO, zP]) (by decide) (by simp only [go_sem, ↓reduceIte, zA, zB, zC, zD, zE, zF, reduceCtorEq, zG, zH, zI, zJ, zK, zL, zM, zN, zO, zP]) (by simp only [go_sem, ↓reduceIte, zA, zB, zC, zD, zE, zF, reduceCtorEq, zG, zH, zI, zJ, zK, zL, zM, zN, zO, zP, List.all_cons, List.all_nil]) (by simp) ?_ ?_
    · simp only [Wx_c, Wx_ops, Wx_blk, Wx_lp, Wx_pn, PAN, PanK, go_sem, ↓reduceIte, zA, zB, zC, zD, zE, zF, reduceCtorEq, zG, zH, zI, zJ, zK, zL, zM, zN, zO, zP]
    · (repeat' (first | rw [W_opsP_dead (by decide)] | rw [W_opsP_mv (by decide)])) <;> rw [W_opsP_nil] <;> exact ⟨by decide, by decide⟩
  | cons j l3 =>
  rw [hl3] at hF hd2
  obtain ⟨hk3, hx3, hd3⟩ := dropI_cons hd2
  have hT3 := rnext_tri (G := G) xs (1 + 3 * i + 1 + 1) hk3 (by omega)
  rw [hx3] at hT3
  rw [pNodes_fvj _ _ _ _ _ _ _ hf7] at hF
  refine WD_callo [0, 1] (hT3) rfl (by simp only [argRs, argR, List.map_cons, List.map_nil, go_sem, ↓reduceIte, zA, zB, zC, zD, zE, zF, reduceCtorEq, zG, zH, zI, zJ, zK, zL, zM, zN, zO, zP]) (by decide) (by simp only [go_sem, ↓reduceIte, zA, zB, zC, zD, zE, zF, reduceCtorEq, zG, zH, zI, zJ, zK, zL, zM, zN, zO, zP]) (by simp only [go_sem, ↓reduceIte, zA, zB, zC, zD, zE, zF, reduceCtorEq, zG, zH, zI, zJ, zK, zL, zM, zN, zO, zP, List.all_cons, List.all_nil]) (by simp) ?_; simp only [go_sem, ↓reduceIte, zA, zB, zC, zD, zE, zF, reduceCtorEq, zG, zH, zI, zJ, zK, zL, zM, zN, zO, zP]
  have e1 : (andI .i64 f 1 != 0) = hasB f 0 ∧ (andI .i64 f 2 != 0) = hasB f 1 ∧ (andI .i64 f 4 != 0) = hasB f 2 := by
    have : f = 0 ∨ f = 1 ∨ f = 2 ∨ f = 3 ∨ f = 4 ∨ f = 5 ∨ f = 6 ∨ f = 7 := by omega
    rcases this with rfl | rfl | rfl | rfl | rfl | rfl | rfl | rfl <;> decide
  obtain ⟨e1, e2, e3⟩ := e1
  have happ : ∀ row : List DV, (List.map nodeR ns ++ [row]).length * 24 ≤ 70368744177664 := fun row => by simp only [List.length_append, List.length_map, List.length_cons, List.length_nil]; omega
  simp only [hln, e1, e2, e3, if_pos (happ _), go_sem, ↓reduceIte, zA, zB, zC, zD, zE, zF, reduceCtorEq, zG, zH, zI, zJ, zK, zL, zM, zN, zO, zP]
  refine W_opsD_end (by decide) ?_
  simp only [go_sem, ↓reduceIte, zA, zB, zC, zD, zE, zF, reduceCtorEq, zG, zH, zI, zJ, zK, zL, zM, zN, zO, zP]
  refine W_lpI (ns ++ [nodeF f v j]) ?_ ?_ ⟨by simp; omega, by simp; omega, ?_⟩ (by simp; omega)
  · simp only [go_sem, ↓reduceIte, zA, zB, zC, zD, zE, zF, reduceCtorEq, zG, zH, zI, zJ, zK, zL, zM, zN, zO, zP]
  · simp only [stN, List.length_append, List.map_append, nodeF, hln, wrap_succ (show i < 9223372036854775807 by omega), show 1 + 3 * (i + 1) = 1 + 3 * i + 1 + 1 + 1 by omega, go_sem, ↓reduceIte, zA, zB, zC, zD, zE, zF, reduceCtorEq, zG, zH, zI, zJ, zK, zL, zM, zN, zO, zP]
  · simp only [List.length_append, List.length_cons, List.length_nil, hln, show 1 + 3 * (i + (0 + 1)) = 1 + 3 * i + 1 + 1 + 1 by omega]
    rw [hd3]; exact hF
theorem state_tri (xs : List Int) (s : StateD) (h400 : xs.length ≤ 400) (h0 : ∀ x ∈ xs, 0 ≤ x) (h : pState xs = .ok s) : Tri Tryd.prog G 25 [.ptr 0 0] (rdO xs 0) (.agg [.sl 2 s.nodes.length 5 0 s.nodes.length, .sl 3 s.jobs.length 12 0 s.jobs.length, .int s.goal, .int s.prior, .int s.mode, .int s.term]) (rdO xs xs.length ++ [.dat 50 5 (s.nodes.map nodeR), .dat 47 12 (s.jobs.map jobR)]) := by
  have hw := state_walk (G := G) xs h400 h0
  rw [h] at hw
  exact tri_W Tryd.func25 (by decide) irOk25 (Nat.le_of_ble_eq_true rfl) hw
theorem state_triX (xs : List Int) (k : Nat) (h400 : xs.length ≤ 400) (h0 : ∀ x ∈ xs, 0 ≤ x) (h : pState xs = .error k) : TriX Tryd.prog G 25 [.ptr 0 0] (rdO xs 0) noneV (rdO xs k) := by
  have hw := state_walk (G := G) xs h400 h0
  rw [h] at hw
  exact tri_X Tryd.func25 (by decide) irOk25 (Nat.le_of_ble_eq_true rfl) rfl (by simp only [go_sem, ↓reduceIte, zA, zB, zC, zD, zE, zF, reduceCtorEq, zG, zH, zI, zJ, zK, zL, zM, zN, zO, zP]) hw
end Dv
