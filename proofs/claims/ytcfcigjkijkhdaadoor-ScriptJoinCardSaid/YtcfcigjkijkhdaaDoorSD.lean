/- The logical machine and its plain laws: parts S9, S10, S11, S12, S13, S12b, S12c, proved sound. -/
import Derived.Test.YtcfcigjkijkhdaaDoorSA
import Derived.Test.YtcfcigjkijkhdaaDoorSC
import Derived.Lib.Builder
import Derived.WalkKit
import Derived.Lib.UnsafeStr
import Derived.RangeFuncNested
import Derived.RangeFuncBound
import Derived.RangeFuncCalls
import Derived.RangeFuncLeaves
import Derived.RangeFuncWrites
import Derived.RangeFuncBox
import Derived.Shelf.Abstract
import Derived.Shelf.RegionOpen
import Derived.OwnWalkIn
import Derived.TacticsInMore
import Derived.LoopNIn
import Derived.LoopIn
set_option linter.unusedVariables false
set_option linter.unusedSimpArgs false
namespace Go.Proofs
open Go.RowKit Go.Shelf

set_option maxHeartbeats 1000000 in
set_option maxRecDepth 100000 in
theorem check_used (b : Nat) (w : World) (h0 : w.cell? ⟨b, 0, none⟩ = some (.pointer (some ⟨b, 0, none⟩))) :
    Calls Tryd.prog 50 #[.pointer (some ⟨b, 0, none⟩)] w fun e w' => e = .returned (.tuple #[]) ∧ w' = w := by
  obtain ⟨j, hj, _⟩ := Option.map_eq_some_iff.1 (show (Tryd.prog.info? 64).map (·.size) = some 2 by kernel_rfl)
  go_enter Tryd.func50, Tryd.ntmps50
  go_wp2
  rw [Lib.run_neq_ptr_same w _ Tryd.underlying61 hj]
  go_wp2
  go_end0
  exact ⟨rfl, rfl⟩

set_option maxHeartbeats 1000000 in
set_option maxRecDepth 100000 in
theorem check_fresh (b : Nat) (w : World) (h0 : w.cell? ⟨b, 0, none⟩ = some (.pointer none)) (hsh : w.shape? b = some (64, 2)) (hfz : w.frozen? ⟨b, 0, none⟩ = false) :
    Calls Tryd.prog 50 #[.pointer (some ⟨b, 0, none⟩)] w fun e w' => e = .returned (.tuple #[]) ∧ w' = w.setCell ⟨b, 0, none⟩ (.pointer (some ⟨b, 0, none⟩)) := by
  obtain ⟨j, hj, hjs⟩ := Option.map_eq_some_iff.1 (show (Tryd.prog.info? 64).map (·.size) = some 2 by kernel_rfl)
  go_enter Tryd.func50, Tryd.ntmps50
  go_wp2
  rw [Lib.run_to_unsafe w ⟨b, 0, none⟩ Tryd.underlying61 Tryd.underlying83 hj (by rw [hjs]; decide) hsh (Nat.zero_lt_succ 1)]
  simp only [Result.andThen]
  rw [Oper.upon_value]
  go_wp2
  rw [run_callFunc_extern Tryd.func56 (by kernel_rfl) (by kernel_rfl) (by kernel_rfl) (e := Extern.AbiNoEscape.same) (by kernel_rfl)]
  rw [Lib.run_noEscape]
  simp only [Result.andThen]
  rw [Oper.upon_value]
  go_wp2
  rw [Lib.run_from_unsafe w ⟨b, 0, none⟩ Tryd.underlying83 Tryd.underlying61 hj hsh (by kernel_rfl)]
  simp only [Result.andThen]
  rw [Oper.upon_value]
  go_wp2
  go_end0
  exact ⟨rfl, rfl⟩
end Go.Proofs

namespace Dv
open Go Go.Proofs
open Nat renaming reduceEqDiff → zA, reduceAdd → zB, reduceSub → zC, reduceMul → zD, reduceLT → zE, reduceLeDiff → zF
open Int renaming reduceLE → zG, reduceLT → zH, reduceToNat → zI, reduceBEq → zJ, reduceBNe → zK, reduceEq → zL, reduceAdd → zM, reduceSub → zN, reduceMul → zO, reduceNeg → zP
attribute [local go_sem] argEnv W_nil W_seq W_skip W_ret W_exit W_scope W_block W_blk W_reg W_regD W_cond WC_t WC_f WC_any Wx_c Wx_ops Wx_lp Wx_blk W_ops_nil W_opsD_q W_guard W_guardD WG_tt WG_ff WG_tf WG_ft WG_u WGD_tt WGD_ff WGD_tf WGD_ft WGD_u WE_some WED_some W_more W_mv W_pick W_new W_box W_build W_bsl W_ld1 W_ldn W_st W_nck W_bin W_eqb W_not W_cvt W_fad W_fld1 W_fldn W_ixa W_ixr W_ix1 W_ixs W_len W_lens W_mkf W_ext W_app W_min W_isnp W_isns W_eqs W_neg W_ixn W_sli W_sls WD_more WD_mv WD_pick WD_new WD_box WD_build WD_bsl WD_ld1 WD_ldn WD_st WD_nck WD_bin WD_eqb WD_not WD_cvt WD_fad WD_fld1 WD_fldn WD_ixa WD_ixr WD_ix1 WD_ixs WD_len WD_lens WD_mkf WD_ext WD_app WD_min WD_isnp WD_isns WD_eqs WD_neg WD_ixn WD_sli WD_sls effF effM bytesOf Opd.ev getE putE binV LV.int LV.bool LV.undef Go.undef LV.cells LV.toD LV.toDs splice fillL rowsOf boxOf srcRows updL objL Eff.owned nwp St.get St.obj St.put Value.oneCell' Ends adopt Ad.ap isNil St.keep St.okKeep okObj idl idlL idlO RVs.of RV.of oneOr Ends0 EndsO_iff frzs rn rnL rnO piOf eqCells eqV boundV Option.map_some Option.map_none List.append_nil List.nil_append List.cons_append List.map_nil List.map_cons List.length_nil List.length_cons List.set_cons_zero List.set_cons_succ List.take_succ_cons List.take_zero List.take_nil List.drop_succ_cons List.drop_zero List.drop_nil List.getElem?_cons_zero List.getElem?_cons_succ List.getElem?_nil List.isEmpty_nil List.isEmpty_cons List.all_cons List.all_nil List.isEmpty_nil cond_true cond_false Bool.true_and Bool.false_and Bool.and_true Bool.and_false Bool.not_true Bool.not_false Bool.or_true Bool.true_or Bool.or_false Bool.false_or true_and and_true true_or or_true Option.some.injEq LV.d.injEq DV.val.injEq Value.bool.injEq Value.int.injEq decide_true decide_false and_self Nat.zero_add Nat.add_zero if_true if_false Int.toNat_zero beq_self_eq_true Nat.zero_lt_succ Int.toNat_natCast Int.natCast_nonneg List.length_map i64 bl List.zip_cons_cons List.zip_nil_left List.zip_nil_right nwp confV stateV nodeV jobV nodesV jobsV opV msgV nodeR jobR opR msgR zeroOp zeroMsg msgsV
variable {G : Nat → Option (List DV)}

/-- strings.Builder.WriteString -/
def ir36 : Nat × C × List RV := (19,
(.seq (.reg [⟨(some 4), .mv (.c (.val (.int .i64 0))), none, []⟩,
 ⟨(some 5), .mv (.c (.val .nilIface)), none, []⟩])
 (.seq (.reg [⟨(some 6), .mv (.t 0), none, []⟩,
 ⟨(some 7), .call (.f 50) [(.t 6)], none, []⟩])
 (.seq (.reg [⟨(some 8), .mv (.t 0), none, []⟩,
 ⟨(some 9), .mv (.t 0), none, []⟩,
 ⟨(some 10), .nck (.t 9), none, []⟩,
 ⟨(some 11), .fad 1 (.t 10), none, []⟩,
 ⟨(some 12), .ld1 (.t 11), none, []⟩,
 ⟨(some 13), .mv (.t 1), none, []⟩,
 ⟨(some 14), .app 5 1 1 (.t 12) (.t 13), none, []⟩,
 ⟨(some 15), .nck (.t 8), none, []⟩,
 ⟨(some 16), .fad 1 (.t 15), none, []⟩,
 ⟨none, .st 1 (.t 16) (.t 14), none, []⟩])
 (.seq (.reg [⟨(some 17), .mv (.t 1), none, []⟩,
 ⟨(some 18), .lens (.t 17), none, []⟩,
 ⟨(some 4), .mv (.t 18), none, []⟩,
 ⟨(some 5), .mv (.c (.val .nilIface)), none, []⟩])
 .ret)))),
[(.t 4), (.t 5)])
theorem irOk36 : convFn Tryd.prog Tryd.f36 = some ir36 := by kernel_rfl
/-- script.Text -/
def ir16 : Nat × C × List RV := (22,
(.seq (.reg [⟨(some 2), .mv (.c (.val (.string ⟨#[]⟩))), none, []⟩])
 (.seq (.reg [⟨(some 3), .new 64 [(.val (.pointer none)), (.val (.slice none 0 0))], none, []⟩])
 (.seq (.seq (.reg [⟨(some 7), .mv (.t 0), none, []⟩,
 ⟨(some 8), .len (.t 7), none, []⟩,
 ⟨(some 9), .mv (.c (.val (.int .i64 0))), none, []⟩])
 (.block 0 (.loop (.seq (.reg [⟨(some 10), .bin .lss (.t 9) (.t 8), none, []⟩])
 (.seq (.cond (.t 10) .skip
 (.exit 0))
 (.seq (.block 1 (.seq (.reg [⟨(some 11), .ixa 10 (.t 7) (.t 9), none, []⟩,
 ⟨(some 12), .ldn 10 (.t 11), none, []⟩,
 ⟨(some 5), .new 25 [(.val (.int .i64 0)), (.val (.int .i64 0)), (.val (.int .i64 0)), (.val (.int .i64 0)), (.val (.int .i64 0)), (.val (.int .i64 0)), (.val (.int .i64 0)), (.val (.int .i64 0)), (.val (.int .i64 0)), (.val (.int .i64 0))], none, []⟩,
 ⟨none, .st 10 (.t 5) (.t 12), none, []⟩])
 (.seq (.reg [⟨(some 13), .ldn 10 (.t 5), none, []⟩,
 ⟨(some 14), .call (.f 12) [(.t 13)], none, []⟩,
 ⟨(some 6), .mv (.t 14), none, []⟩])
 (.seq (.reg [⟨(some 15), .mv (.t 6), none, []⟩,
 ⟨(some 16), .bin .neq (.t 15) (.c (.val (.string ⟨#[]⟩))), none, []⟩])
 (.cond (.t 16) (.reg [⟨(some 17), .mv (.t 6), none, []⟩,
 ⟨(some 18), .bin .add (.t 17) (.c (.val (.string ⟨#[10]⟩))), none, []⟩,
 ⟨(some 19), .call (.f 36) [(.t 3), (.t 18)], none, []⟩])
 .skip)))))
 (.reg [⟨(some 20), .bin .add (.t 9) (.c (.val (.int .i64 1))), none, []⟩,
 ⟨(some 9), .mv (.t 20), none, []⟩])))))))
 (.seq (.reg [⟨(some 21), .call (.f 37) [(.t 3)], none, []⟩,
 ⟨(some 2), .mv (.t 21), none, []⟩])
 .ret)))),
[(.t 2)])
theorem irOk16 : convFn Tryd.prog Tryd.f16 = some ir16 := by kernel_rfl


def addrOk (a : LV) : Prop := a = .d (.val (.pointer none)) ∨ a = .ptr 0 0
theorem check_tri (a buf : LV) (ob : LObj) (ha : addrOk a) : Tri Tryd.prog G 50 [.ptr 0 0] [.box 64 [a, buf], ob] (.tup []) [.box 64 [.ptr 0 0, buf], ob] := by
  refine ⟨by decide, fun J ι w vs S hR => ?_⟩
  obtain ⟨vl⟩ := vs
  match vl, hR with
  | [v], ⟨⟨b, hb, hv⟩, _⟩ =>
  subst hv
  have ho : objL (List.map some [LObj.box 64 [a, buf], ob]) 0 = .live (.box 64 [a, buf]) := rfl
  have h0 := S.rep 0
  rw [ho] at h0
  obtain ⟨⟨b', C, m1, m2, m3⟩, _⟩ := h0
  rw [hb] at m1; cases m1
  obtain ⟨C⟩ := C
  match C, m3 with
  | [c0, c1], ⟨hc0, hr0, hc1, hr1, _⟩ =>
  have hcell : w.cell? ⟨b, 0, none⟩ = some c0 := by simp [World.cell?, m2]
  rcases ha with rfl | rfl
  · have hr0 : c0 = .pointer none := hr0
    subst hr0
    refine (check_fresh b w hcell (by simp [World.shape?, m2]) (by simp [World.frozen?, m2])).mono fun e w' h => ?_
    obtain ⟨rfl, rfl⟩ := h
    obtain ⟨b2, k1, k2, J', ι', k3, _, k4⟩ := After.setBox S (col := 0) (cs := [.ptr 0 0]) (vs := [.pointer (some ⟨b, 0, none⟩)]) ho ⟨rfl, ⟨b, hb, rfl⟩, trivial⟩ (by simp)
    rw [hb] at k1; cases k1
    have e1 : (fun k => if k = 0 then OSt.live (.box 64 (splice [LV.d (.val (.pointer none)), buf] 0 [.ptr 0 0])) else objL (List.map some [LObj.box 64 [.d (.val (.pointer none)), buf], ob]) k) = objL (List.map some [LObj.box 64 [.ptr 0 0, buf], ob]) := by
      funext k
      match k with
      | 0 => rfl
      | 1 => rfl
      | k + 2 => rfl
    rw [e1] at k3 k4
    exact ⟨_, rfl, J', ι', k3, ⟨_, rfl, trivial⟩, k4⟩
  · obtain ⟨b2, hb2, hr0⟩ := hr0
    rw [hb] at hb2; cases hb2
    subst hr0
    refine (check_used b w hcell).mono fun e w' h => ?_
    obtain ⟨rfl, rfl⟩ := h
    exact ⟨_, rfl, After.stay S ⟨_, rfl, trivial⟩⟩
def strRows (s : ByteArray) : List (List DV) := s.data.toList.map fun b => [.val (.int .u8 b.toNat)]
theorem strRows_len (s : ByteArray) : (strRows s).length = s.size := by rw [strRows, List.length_map]; rfl
set_option maxHeartbeats 1000000 in
theorem write0_tri (rows : List (List DV)) (s : ByteArray) (hl : rows.length + s.size ≤ 70368744177664) : Tri Tryd.prog G 36 [.ptr 0 0, .d (.val (.string s))] [.box 64 [.d (.val (.pointer none)), .sl 1 rows.length 1 0 rows.length], .dat 5 1 rows] (.tup [.int s.size, .d (.val .nilIface)]) [.box 64 [.ptr 0 0, .sl 1 (rows.length + s.size) 1 0 (rows.length + s.size)], .dat 5 1 (rows ++ strRows s)] := by
  have h1 : (strRows s).length = s.size := strRows_len s
  have h2 : s.data.toList.length = s.size := rfl
  refine tri_WP Tryd.func36 (by decide) irOk36 (Nat.le_of_ble_eq_true rfl) rfl rfl rfl ?_
  simp only [ir36, go_sem, ↓reduceIte, zA, zB, zC, zD, zE, zF, reduceCtorEq, zG, zH, zI, zJ, zK, zL, zM, zN, zO, zP]
  refine W_callo [0, 1] (check_tri (.d (.val (.pointer none))) (.sl 1 rows.length 1 0 rows.length) (.dat 5 1 rows) (.inl rfl)) rfl (by simp only [argRs, argR, List.map_cons, List.map_nil, go_sem, ↓reduceIte, zA, zB, zC, zD, zE, zF, reduceCtorEq, zG, zH, zI, zJ, zK, zL, zM, zN, zO, zP]) (by decide) (by simp only [go_sem, ↓reduceIte, zA, zB, zC, zD, zE, zF, reduceCtorEq, zG, zH, zI, zJ, zK, zL, zM, zN, zO, zP]) (by simp only [go_sem, ↓reduceIte, zA, zB, zC, zD, zE, zF, reduceCtorEq, zG, zH, zI, zJ, zK, zL, zM, zN, zO, zP, List.all_cons, List.all_nil]) (by simp) ?_; simp only [go_sem, ↓reduceIte, zA, zB, zC, zD, zE, zF, reduceCtorEq, zG, zH, zI, zJ, zK, zL, zM, zN, zO, zP]
  rw [show (List.map (fun b : UInt8 => [DV.val (Value.int IntKind.u8 ↑b.toNat)]) s.data.toList) = strRows s from rfl, h2]
  rw [if_pos (by rw [List.length_append, h1]; omega)]
  simp only [h1, go_sem, ↓reduceIte, zA, zB, zC, zD, zE, zF, reduceCtorEq, zG, zH, zI, zJ, zK, zL, zM, zN, zO, zP]
set_option maxHeartbeats 1000000 in
theorem write1_tri (rows : List (List DV)) (s : ByteArray) (hl : rows.length + s.size ≤ 70368744177664) : Tri Tryd.prog G 36 [.ptr 0 0, .d (.val (.string s))] [.box 64 [.ptr 0 0, .sl 1 rows.length 1 0 rows.length], .dat 5 1 rows] (.tup [.int s.size, .d (.val .nilIface)]) [.box 64 [.ptr 0 0, .sl 1 (rows.length + s.size) 1 0 (rows.length + s.size)], .dat 5 1 (rows ++ strRows s)] := by
  have h1 : (strRows s).length = s.size := strRows_len s
  have h2 : s.data.toList.length = s.size := rfl
  refine tri_WP Tryd.func36 (by decide) irOk36 (Nat.le_of_ble_eq_true rfl) rfl rfl rfl ?_
  simp only [ir36, go_sem, ↓reduceIte, zA, zB, zC, zD, zE, zF, reduceCtorEq, zG, zH, zI, zJ, zK, zL, zM, zN, zO, zP]
  refine W_callo [0, 1] (check_tri (.ptr 0 0) (.sl 1 rows.length 1 0 rows.length) (.dat 5 1 rows) (.inr rfl)) rfl (by simp only [argRs, argR, List.map_cons, List.map_nil, go_sem, ↓reduceIte, zA, zB, zC, zD, zE, zF, reduceCtorEq, zG, zH, zI, zJ, zK, zL, zM, zN, zO, zP]) (by decide) (by simp only [go_sem, ↓reduceIte, zA, zB, zC, zD, zE, zF, reduceCtorEq, zG, zH, zI, zJ, zK, zL, zM, zN, zO, zP]) (by simp only [go_sem, ↓reduceIte, zA, zB, zC, zD, zE, zF, reduceCtorEq, zG, zH, zI, zJ, zK, zL, zM, zN, zO, zP, List.all_cons, List.all_nil]) (by simp) ?_; simp only [go_sem, ↓reduceIte, zA, zB, zC, zD, zE, zF, reduceCtorEq, zG, zH, zI, zJ, zK, zL, zM, zN, zO, zP]
  rw [show (List.map (fun b : UInt8 => [DV.val (Value.int IntKind.u8 ↑b.toNat)]) s.data.toList) = strRows s from rfl, h2]
  rw [if_pos (by rw [List.length_append, h1]; omega)]
  simp only [h1, go_sem, ↓reduceIte, zA, zB, zC, zD, zE, zF, reduceCtorEq, zG, zH, zI, zJ, zK, zL, zM, zN, zO, zP]
end Dv

namespace Go.Proofs
open Go.RowKit Go.Shelf
set_option maxHeartbeats 2000000 in
set_option maxRecDepth 100000 in
/-- (*strings.Builder).String at a builder that holds bytes: these, frozen in its row. -/
theorem string_full (b g cap : Nat) (p : Value) (l : List UInt8) (C : Array Value) (w : World) (h0 : l ≠ []) (hbk : w.heap[b]? = some (.cells #[p, .slice (some ⟨g, 0, none⟩) l.length cap] 64 (0, 0))) (hg : w.heap[g]? = some (.cells C 5 (0, 0)))
    (hcap : l.length ≤ cap) (hcs : cap ≤ C.size) (hlim : l.length ≤ 9223372036854775807) (hcell : ∀ (j : Nat) x, l[j]? = some x → w.cell? ⟨g, j, none⟩ = some (.int .u8 x.toNat)) :
    Calls Tryd.prog 37 #[.pointer (some ⟨b, 0, none⟩)] w fun e w' => e = .returned (.string ⟨l.toArray⟩) ∧ w' = w.drew.freeze ⟨g, 0, none⟩ l.length := by
  have hl0 : l.length ≠ 0 := by simpa using h0
  have c1 : w.drew.cell? ⟨b, 1, none⟩ = some (.slice (some ⟨g, 0, none⟩) l.length cap) := by
    have : w.drew.heap[b]? = some (.cells #[p, .slice (some ⟨g, 0, none⟩) l.length cap] 64 (0, 0)) := hbk
    rw [Lib.cell_of_heap this]; rfl
  have hSD : (Builtin.unsafeSliceData_ #[62] 78 #[.slice (some ⟨g, 0, none⟩) l.length cap]).run Tryd.prog w.drew = .ok (.pointer (some ⟨g, 0, none⟩)) w.drew :=
    Lib.run_unsafeSliceData_row _ _ _ _ _ _ (by omega)
  have hUS : (Builtin.unsafeString_ #[78, 3] 9 #[.pointer (some ⟨g, 0, none⟩), .int .i64 l.length]).run Tryd.prog w.drew = .ok (.string ⟨l.toArray⟩) (w.drew.freeze ⟨g, 0, none⟩ l.length) := by
    refine Lib.run_unsafeString_row w.drew 78 3 9 5 Tryd.underlying78 (by kernel_rfl) g C.size (by have hg' : w.drew.heap[g]? = some (.cells C 5 (0, 0)) := hg; simp [World.shape?, hg']) l h0 (by omega) hlim ?_
    intro j x hx
    have := hcell j x hx
    have e : ((⟨g, 0, none⟩ : Addr).add j) = ⟨g, j, none⟩ := by
      cases j with
      | zero => rfl
      | succ j => simp [Addr.add]
    rw [e]
    exact this
  have mixed : Tryd.prog.follows .mixedOrders = true := by kernel_rfl
  go_enter Tryd.func37, Tryd.ntmps37
  go_wp2
  go_region_o
  all_goals (go_wp2; go_ret; exact ⟨rfl, rfl⟩)
end Go.Proofs

namespace Go.Proofs
theorem string_nil (b : Nat) (p : Value) (w : World) (hbk : w.heap[b]? = some (.cells #[p, .slice none 0 0] 64 (0, 0))) :
    Calls Tryd.prog 37 #[.pointer (some ⟨b, 0, none⟩)] w fun e w' => e = .returned (.string ⟨#[]⟩) ∧ Go.RowKit.Below w.heap.size w w' := Any.Builder_String_nil Tryd.lays169 Tryd.Builder_Extra_169 w.heap.size b p w hbk
end Go.Proofs
namespace Dv
open Go Go.Proofs
open Nat renaming reduceEqDiff → zA, reduceAdd → zB, reduceSub → zC, reduceMul → zD, reduceLT → zE, reduceLeDiff → zF
open Int renaming reduceLE → zG, reduceLT → zH, reduceToNat → zI, reduceBEq → zJ, reduceBNe → zK, reduceEq → zL, reduceAdd → zM, reduceSub → zN, reduceMul → zO, reduceNeg → zP
attribute [local go_sem] argEnv W_nil W_seq W_skip W_ret W_exit W_scope W_block W_blk W_reg W_regD W_cond WC_t WC_f WC_any Wx_c Wx_ops Wx_lp Wx_blk W_ops_nil W_opsD_q W_guard W_guardD WG_tt WG_ff WG_tf WG_ft WG_u WGD_tt WGD_ff WGD_tf WGD_ft WGD_u WE_some WED_some W_more W_mv W_pick W_new W_box W_build W_bsl W_ld1 W_ldn W_st W_nck W_bin W_eqb W_not W_cvt W_fad W_fld1 W_fldn W_ixa W_ixr W_ix1 W_ixs W_len W_lens W_mkf W_ext W_app W_min W_isnp W_isns W_eqs W_neg W_ixn W_sli W_sls WD_more WD_mv WD_pick WD_new WD_box WD_build WD_bsl WD_ld1 WD_ldn WD_st WD_nck WD_bin WD_eqb WD_not WD_cvt WD_fad WD_fld1 WD_fldn WD_ixa WD_ixr WD_ix1 WD_ixs WD_len WD_lens WD_mkf WD_ext WD_app WD_min WD_isnp WD_isns WD_eqs WD_neg WD_ixn WD_sli WD_sls effF effM bytesOf Opd.ev getE putE binV LV.int LV.bool LV.undef Go.undef LV.cells LV.toD LV.toDs splice fillL rowsOf boxOf srcRows updL objL Eff.owned nwp St.get St.obj St.put Value.oneCell' Ends adopt Ad.ap isNil St.keep St.okKeep okObj idl idlL idlO RVs.of RV.of oneOr Ends0 EndsO_iff frzs rn rnL rnO piOf eqCells eqV boundV Option.map_some Option.map_none List.append_nil List.nil_append List.cons_append List.map_nil List.map_cons List.length_nil List.length_cons List.set_cons_zero List.set_cons_succ List.take_succ_cons List.take_zero List.take_nil List.drop_succ_cons List.drop_zero List.drop_nil List.getElem?_cons_zero List.getElem?_cons_succ List.getElem?_nil List.isEmpty_nil List.isEmpty_cons List.all_cons List.all_nil List.isEmpty_nil cond_true cond_false Bool.true_and Bool.false_and Bool.and_true Bool.and_false Bool.not_true Bool.not_false Bool.or_true Bool.true_or Bool.or_false Bool.false_or true_and and_true true_or or_true Option.some.injEq LV.d.injEq DV.val.injEq Value.bool.injEq Value.int.injEq decide_true decide_false and_self Nat.zero_add Nat.add_zero if_true if_false Int.toNat_zero beq_self_eq_true Nat.zero_lt_succ Int.toNat_natCast Int.natCast_nonneg List.length_map i64 bl List.zip_cons_cons List.zip_nil_left List.zip_nil_right nwp confV stateV nodeV jobV nodesV jobsV opV msgV nodeR jobR opR msgR zeroOp zeroMsg msgsV
variable {G : Nat → Option (List DV)}
@[reducible] def nilBox : LObj := .box 64 [.d (.val (.pointer none)), .d (.val (.slice none 0 0))]
theorem check0_tri : Tri Tryd.prog G 50 [.ptr 0 0] [nilBox] (.tup []) [.box 64 [.ptr 0 0, .d (.val (.slice none 0 0))]] := by
  refine ⟨by decide, fun J ι w vs S hR => ?_⟩
  obtain ⟨vl⟩ := vs
  match vl, hR with
  | [v], ⟨⟨b, hb, hv⟩, _⟩ =>
  subst hv
  have ho : objL (List.map some [nilBox]) 0 = .live nilBox := rfl
  have h0 := S.rep 0
  rw [ho] at h0
  obtain ⟨⟨b', C, m1, m2, m3⟩, _⟩ := h0
  rw [hb] at m1; cases m1
  obtain ⟨C⟩ := C
  match C, m3 with
  | [c0, c1], ⟨hc0, hr0, hc1, hr1, _⟩ =>
  have hcell : w.cell? ⟨b, 0, none⟩ = some c0 := by simp [World.cell?, m2]
  have hr0 : c0 = .pointer none := hr0
  subst hr0
  refine (check_fresh b w hcell (by simp [World.shape?, m2]) (by simp [World.frozen?, m2])).mono fun e w' h => ?_
  obtain ⟨rfl, rfl⟩ := h
  obtain ⟨b2, k1, k2, J', ι', k3, _, k4⟩ := After.setBox S (col := 0) (cs := [.ptr 0 0]) (vs := [.pointer (some ⟨b, 0, none⟩)]) ho ⟨rfl, ⟨b, hb, rfl⟩, trivial⟩ (by simp)
  rw [hb] at k1; cases k1
  have e1 : (fun k => if k = 0 then OSt.live (.box 64 (splice [LV.d (.val (.pointer none)), LV.d (.val (.slice none 0 0))] 0 [.ptr 0 0])) else objL (List.map some [nilBox]) k) = objL (List.map some [LObj.box 64 [.ptr 0 0, .d (.val (.slice none 0 0))]]) := by
    funext k
    match k with
    | 0 => rfl
    | k + 1 => rfl
  rw [e1] at k3 k4
  exact ⟨_, rfl, J', ι', k3, ⟨_, rfl, trivial⟩, k4⟩
set_option maxHeartbeats 1000000 in
theorem write0n_tri (s : ByteArray) (hl : s.size ≤ 70368744177664) : Tri Tryd.prog G 36 [.ptr 0 0, .d (.val (.string s))] [nilBox] (.tup [.int s.size, .d (.val .nilIface)]) [.box 64 [.ptr 0 0, .sl 1 s.size 1 0 s.size], .dat 5 1 (strRows s)] := by
  have h1 : (strRows s).length = s.size := strRows_len s
  have h2 : s.data.toList.length = s.size := rfl
  refine tri_W Tryd.func36 (by decide) irOk36 (Nat.le_of_ble_eq_true rfl) ?_
  simp only [ir36, go_sem, ↓reduceIte, zA, zB, zC, zD, zE, zF, reduceCtorEq, zG, zH, zI, zJ, zK, zL, zM, zN, zO, zP]
  refine W_callo [0] (check0_tri) rfl (by simp only [argRs, argR, List.map_cons, List.map_nil, go_sem, ↓reduceIte, zA, zB, zC, zD, zE, zF, reduceCtorEq, zG, zH, zI, zJ, zK, zL, zM, zN, zO, zP]) (by decide) (by simp only [go_sem, ↓reduceIte, zA, zB, zC, zD, zE, zF, reduceCtorEq, zG, zH, zI, zJ, zK, zL, zM, zN, zO, zP]) (by simp only [go_sem, ↓reduceIte, zA, zB, zC, zD, zE, zF, reduceCtorEq, zG, zH, zI, zJ, zK, zL, zM, zN, zO, zP, List.all_cons, List.all_nil]) (by simp) ?_; simp only [go_sem, ↓reduceIte, zA, zB, zC, zD, zE, zF, reduceCtorEq, zG, zH, zI, zJ, zK, zL, zM, zN, zO, zP]
  rw [show (List.map (fun b : UInt8 => [DV.val (Value.int IntKind.u8 ↑b.toNat)]) s.data.toList) = strRows s from rfl]
  rw [if_pos (by rw [h2]; omega)]
  simp only [h1, h2, go_sem, ↓reduceIte, zA, zB, zC, zD, zE, zF, reduceCtorEq, zG, zH, zI, zJ, zK, zL, zM, zN, zO, zP]
  refine BackR [] [0, 1] [] (vs := [.int s.size, .d (.val .nilIface)]) rfl rfl (by decide) (by simp) (by simp) ?_ ?_ ?_
  · simp [St.obj, objL, adopt, rnO, rnL, rn, piOf]
  · simp [idlO, idlL, idl, h1]
  · simp [oneOr, argR, argRs, adopt, St.obj, objL, LV.int]
theorem string0_tri : Tri Tryd.prog G 37 [.ptr 0 0] [nilBox] (.d (.val (.string ⟨#[]⟩))) [nilBox] := by
  refine ⟨by decide, fun J ι w vs S hR => ?_⟩
  obtain ⟨vl⟩ := vs
  match vl, hR with
  | [v], ⟨⟨b, hb, hv⟩, _⟩ =>
  subst hv
  have ho : objL (List.map some [nilBox]) 0 = .live nilBox := rfl
  have h0 := S.rep 0
  rw [ho] at h0
  obtain ⟨⟨b', C, m1, m2, m3⟩, _⟩ := h0
  rw [hb] at m1; cases m1
  obtain ⟨C⟩ := C
  match C, m3 with
  | [c0, c1], ⟨hc0, hr0, hc1, hr1, _⟩ =>
  have hr1 : c1 = .slice none 0 0 := hr1
  subst hr1
  refine (string_nil b c0 w m2).mono fun e w' h => ?_
  obtain ⟨rfl, hB⟩ := h
  exact ⟨_, rfl, After.ofBelow S hB (fun _ _ _ => rfl)⟩
theorem rows_vals {J : Nat → Prop} {w : World} {g : Nat} : ∀ (l : List UInt8) (off : Nat), (∀ (j : Nat) x, l[j]? = some x → w.cell? ⟨g, off + j, none⟩ = some (.int .u8 x.toNat)) → RowsD J w 1 (l.map fun b => [DV.val (.int .u8 b.toNat)]) g off
  | [], _, _ => trivial
  | x :: l, off, h => ⟨rfl, ⟨⟨_, by simpa using h 0 x rfl, rfl, rfl⟩, trivial⟩, rows_vals l (off + 1) (fun j y hy => by
      have := h (j + 1) y (by simpa using hy)
      rw [show off + 1 + j = off + (j + 1) by omega]; exact this)⟩
theorem freeze_facts (w : World) (g n : Nat) (C : Array Value) (t : TypeId) (hg : w.heap[g]? = some (.cells C t (0, 0))) (hn : n ≠ 0) : (∀ k, k ≠ g → (w.freeze ⟨g, 0, none⟩ n).heap[k]? = w.heap[k]?) ∧ (∃ fr, (w.freeze ⟨g, 0, none⟩ n).heap[g]? = some (.cells C t fr)) ∧
    (w.freeze ⟨g, 0, none⟩ n).os = w.os ∧ (w.freeze ⟨g, 0, none⟩ n).tape = w.tape ∧ (w.freeze ⟨g, 0, none⟩ n).output = w.output ∧ (w.freeze ⟨g, 0, none⟩ n).heap.size = w.heap.size := by
  unfold World.freeze
  rw [if_neg hn]
  refine ⟨fun k hk => ?_, ?_, rfl, rfl, rfl, by simp⟩
  · simp only [Array.getElem?_modify]
    rw [if_neg (fun e => hk e.symm)]
  · simp only [Array.getElem?_modify, if_true, hg, Option.map_some]
    exact ⟨_, rfl⟩
theorem string1_tri (s : ByteArray) (h0 : s.size ≠ 0) (hl : s.size ≤ 1000000000) : Tri Tryd.prog G 37 [.ptr 0 0] [.box 64 [.ptr 0 0, .sl 1 s.size 1 0 s.size], .dat 5 1 (strRows s)] (.d (.val (.string s))) [.box 64 [.ptr 0 0, .sl 1 s.size 1 0 s.size], .frz 5 1 (strRows s)] := by
  have hrl : (strRows s).length = s.size := strRows_len s
  have hbl : s.data.toList.length = s.size := rfl
  refine ⟨by decide, fun J ι w vs S hR => ?_⟩
  obtain ⟨vl⟩ := vs
  match vl, hR with
  | [v], ⟨⟨b, hb, hv⟩, _⟩ =>
  subst hv
  have ho : objL (List.map some [LObj.box 64 [.ptr 0 0, .sl 1 s.size 1 0 s.size], .dat 5 1 (strRows s)]) 0 = .live (.box 64 [.ptr 0 0, .sl 1 s.size 1 0 s.size]) := rfl
  have ho1 : objL (List.map some [LObj.box 64 [.ptr 0 0, .sl 1 s.size 1 0 s.size], .dat 5 1 (strRows s)]) 1 = .live (.dat 5 1 (strRows s)) := rfl
  have h0' := S.rep 0
  rw [ho] at h0'
  obtain ⟨⟨b', C, m1, m2, m3⟩, _⟩ := h0'
  rw [hb] at m1; cases m1
  obtain ⟨C⟩ := C
  match C, m3 with
  | [c0, c1], ⟨hc0, hr0, hc1, hr1, _⟩ =>
  rcases hr1 with ⟨hz, _⟩ | ⟨g, cap, et, sz, hg, hv, hcap, hsh, hsz⟩
  · exact absurd hz h0
  subst hv
  have h1' := S.rep 1
  rw [ho1] at h1'
  obtain ⟨⟨_, hrow⟩, hno⟩ := h1'
  obtain ⟨⟨C5, n2⟩, n3⟩ := hrow g (by rw [hrl]; exact hg)
  have hC5 : sz = C5.size := by
    simp [World.shape?, n2] at hsh
    exact hsh.2.symm
  have hcell : ∀ (j : Nat) x, s.data.toList[j]? = some x → w.cell? ⟨g, j, none⟩ = some (.int .u8 x.toNat) := fun j x hx => by
    have hj : (strRows s)[j]? = some [.val (.int .u8 x.toNat)] := by rw [strRows, List.getElem?_map, hx]; rfl
    obtain ⟨_, hr⟩ := RowsD.get n3 hj
    obtain ⟨v, k1, _, k3⟩ := hr.get (i := 0) rfl
    have k3 : v = .int .u8 x.toNat := k3
    rw [k3] at k1
    simpa using k1
  refine (string_full b g cap c0 s.data.toList C5 w (fun e => h0 (by rw [← hbl, e]; rfl)) (by rw [hbl]; simpa using m2) n2 (by omega) (by omega) (by omega) hcell).mono fun e w' h => ?_
  obtain ⟨rfl, rfl⟩ := h
  obtain ⟨hother, ⟨fr, hgg⟩, hos⟩ := freeze_facts w.drew g s.data.toList.length C5 5 n2 (by rw [hbl]; exact h0)
  generalize w.drew.freeze ⟨g, 0, none⟩ s.data.toList.length = w' at *
  replace hother : ∀ k, k ≠ g → w'.heap[k]? = w.heap[k]? := hother
  replace hos : w'.os = w.os ∧ w'.tape = w.tape ∧ w'.output = w.output ∧ w'.heap.size = w.heap.size := hos
  obtain ⟨ho1', ho2', ho3', ho4'⟩ := hos
  have hown1 : (objL (List.map some [LObj.box 64 [.ptr 0 0, .sl 1 s.size 1 0 s.size], .dat 5 1 (strRows s)]) 1).own ι 1 g := by
    show ι 1 (strRows s).length = some g
    rw [hrl]; exact hg
  have hbg : b ≠ g := fun e => by
    have := S.inj 0 1 b hb (by rw [e]; exact hown1)
    cases this
  have hJg : ¬ J g := S.disj 1 g hown1
  have hshape : ∀ k, w'.shape? k = w.shape? k := fun k => by
    by_cases hk : k = g
    · subst hk; simp only [World.shape?, hgg, n2]
    · simp only [World.shape?, hother k hk]
  have hcell' : ∀ (j : Nat) x, s.data.toList[j]? = some x → w'.cell? ⟨g, 0 + j, none⟩ = some (.int .u8 x.toNat) := fun j x hx => by
    have := hcell j x hx
    simp only [World.cell?, n2] at this
    simp only [World.cell?, hgg, Nat.zero_add]
    exact this
  have hjm : ∀ k, J k → w'.heap[k]? = w.heap[k]? := fun k hk => hother k (fun e => hJg (e ▸ hk))
  have hown' : ∀ o k, (objL (List.map some [LObj.box 64 [.ptr 0 0, .sl 1 s.size 1 0 s.size], .frz 5 1 (strRows s)]) o).own ι o k → o = 0 ∧ k = b := fun o k hk => by
    match o, hk with
    | 0, hk =>
      have hk : ι 0 0 = some k := hk
      rw [hb] at hk; cases hk; exact ⟨rfl, rfl⟩
    | 1, hk => exact hk.elim
    | o + 2, hk => exact hk.elim
  have hbown : Own ι (objL (List.map some [LObj.box 64 [.ptr 0 0, .sl 1 s.size 1 0 s.size], .dat 5 1 (strRows s)])) b := ⟨0, hb⟩
  refine ⟨_, rfl, fun k => J k ∨ k = g, ι, ⟨fun o => ?_, fun o o' k h1 h2 => by rw [(hown' o k h1).1, (hown' o' k h2).1], fun o k h1 => ?_, fun k hk => ?_, fun q row hq => ?_⟩, rfl, ⟨⟨ho1', ho2', ho3', by omega, fun k hk hn => hother k (fun e => hn ⟨1, e ▸ hown1⟩), fun k _ => hshape k, fun k hk => .inl hk, fun k hk => ?_, fun _ _ _ h => h⟩, fun k hk => .inl ?_⟩⟩
  · match o with
    | 0 => exact ⟨⟨b, ⟨[c0, .slice (some ⟨g, 0 * 1, none⟩) s.size cap]⟩, hb, by rw [hother b hbg]; exact m2, RepC.mono (fun k h => .inl h) hjm (fun _ _ _ h => h) (fun k _ => hshape k) _ _ ⟨hc0, hr0, hc1, .inr ⟨g, cap, et, sz, hg, rfl, hcap, hsh, hsz⟩, trivial⟩⟩, trivial⟩
    | 1 => exact ⟨⟨.inr (by rw [hrl, hg]; rfl), fun k hk => by
        rw [hrl, hg] at hk; cases hk
        exact ⟨.inr rfl, rows_vals s.data.toList 0 hcell'⟩⟩, trivial⟩
    | o + 2 => exact S.rep (o + 2)
  · obtain ⟨rfl, rfl⟩ := hown' o k h1
    rintro (hk | hk)
    · exact S.disj 0 k hb hk
    · exact hbg hk
  · rcases hk with hk | rfl
    · rw [hjm k hk]; exact S.jcell k hk
    · exact ⟨C5, _, fr, hgg⟩
  · obtain ⟨q1, q2, q3⟩ := S.glob q row hq
    exact ⟨.inl q1, RowD.mono (fun k h => .inl h) hjm _ _ _ (hjm q q1) q2, by rw [hshape]; exact q3⟩
  · rcases hk with hk | rfl
    · exact .inl hk
    · exact .inr (.inr ⟨1, hown1⟩)
  · obtain ⟨o, ho'⟩ := hk
    obtain ⟨_, rfl⟩ := hown' o k ho'
    exact hbown
end Dv

namespace Dv
open Go Go.Proofs
open Nat renaming reduceEqDiff → zA, reduceAdd → zB, reduceSub → zC, reduceMul → zD, reduceLT → zE, reduceLeDiff → zF
open Int renaming reduceLE → zG, reduceLT → zH, reduceToNat → zI, reduceBEq → zJ, reduceBNe → zK, reduceEq → zL, reduceAdd → zM, reduceSub → zN, reduceMul → zO, reduceNeg → zP
attribute [local go_sem] argEnv W_nil W_seq W_skip W_ret W_exit W_scope W_block W_blk W_reg W_regD W_cond WC_t WC_f WC_any Wx_c Wx_ops Wx_lp Wx_blk W_ops_nil W_opsD_q W_guard W_guardD WG_tt WG_ff WG_tf WG_ft WG_u WGD_tt WGD_ff WGD_tf WGD_ft WGD_u WE_some WED_some W_more W_mv W_pick W_new W_box W_build W_bsl W_ld1 W_ldn W_st W_nck W_bin W_eqb W_not W_cvt W_fad W_fld1 W_fldn W_ixa W_ixr W_ix1 W_ixs W_len W_lens W_mkf W_ext W_app W_min W_isnp W_isns W_eqs W_neg W_ixn W_sli W_sls WD_more WD_mv WD_pick WD_new WD_box WD_build WD_bsl WD_ld1 WD_ldn WD_st WD_nck WD_bin WD_eqb WD_not WD_cvt WD_fad WD_fld1 WD_fldn WD_ixa WD_ixr WD_ix1 WD_ixs WD_len WD_lens WD_mkf WD_ext WD_app WD_min WD_isnp WD_isns WD_eqs WD_neg WD_ixn WD_sli WD_sls effF effM bytesOf Opd.ev getE putE binV LV.int LV.bool LV.undef Go.undef LV.cells LV.toD LV.toDs splice fillL rowsOf boxOf srcRows updL objL Eff.owned nwp St.get St.obj St.put Value.oneCell' Ends adopt Ad.ap isNil St.keep St.okKeep okObj idl idlL idlO RVs.of RV.of oneOr Ends0 EndsO_iff frzs rn rnL rnO piOf eqCells eqV boundV Option.map_some Option.map_none List.append_nil List.nil_append List.cons_append List.map_nil List.map_cons List.length_nil List.length_cons List.set_cons_zero List.set_cons_succ List.take_succ_cons List.take_zero List.take_nil List.drop_succ_cons List.drop_zero List.drop_nil List.getElem?_cons_zero List.getElem?_cons_succ List.getElem?_nil List.isEmpty_nil List.isEmpty_cons List.all_cons List.all_nil List.isEmpty_nil cond_true cond_false Bool.true_and Bool.false_and Bool.and_true Bool.and_false Bool.not_true Bool.not_false Bool.or_true Bool.true_or Bool.or_false Bool.false_or true_and and_true true_or or_true Option.some.injEq LV.d.injEq DV.val.injEq Value.bool.injEq Value.int.injEq decide_true decide_false and_self Nat.zero_add Nat.add_zero if_true if_false Int.toNat_zero beq_self_eq_true Nat.zero_lt_succ Int.toNat_natCast Int.natCast_nonneg List.length_map i64 bl List.zip_cons_cons List.zip_nil_left List.zip_nil_right nwp confV stateV nodeV jobV nodesV jobsV opV msgV nodeR jobR opR msgR zeroOp zeroMsg msgsV
variable {G : Nat → Option (List DV)}
attribute [local go_sem] entsV

theorem Imp.le {m m' : Nat} {s s' : St} (h : m ≤ m') (k : Imp G m' s s') : Imp G m s s' := fun D N obj0 J0 ι0 w0 a w hm hA => k D N obj0 J0 ι0 w0 a w (fun o n b hb => Nat.lt_of_lt_of_le (hm o n b hb) h) hA
/-- the row that a callee made is the second object from now on. -/
theorem Imp.move {T : TypeId} {n : Nat} {rows : List (List DV)} {x : Option LObj} {env : List (Nat × LV)} (ts : List Nat) (hts : (ts.all fun t => idl 1 (getE env t)) = true) :
    Imp G 1 ⟨env, [some (.box T [.ptr 0 0, .sl 2 n 1 0 n]), x, some (.dat 5 1 rows)]⟩ ⟨ts.map fun t => (t, getE env t), [some (.box T [.ptr 0 0, .sl 1 n 1 0 n]), some (.dat 5 1 rows)]⟩ := by
  intro D N obj0 J0 ι0 w0 a w hm hA
  obtain ⟨J, ι, S, E⟩ := hA.ex
  let ι' : Nat → Nat → Option Nat := fun o k => if o = 0 then ι 0 k else if o = 1 then ι 2 k else none
  have hown : ∀ o b, (objL [some (.box T [.ptr 0 0, .sl 1 n 1 0 n]), some (.dat 5 1 rows)] o).own ι' o b → (o = 0 ∧ ι 0 0 = some b) ∨ (o = 1 ∧ ι 2 rows.length = some b) := fun o b hb => by
    match o, hb with
    | 0, hb => exact .inl ⟨rfl, hb⟩
    | 1, hb => exact .inr ⟨rfl, hb⟩
    | o + 2, hb => exact hb.elim
  have ho0 : ∀ b, ι 0 0 = some b → (St.obj ⟨env, [some (.box T [.ptr 0 0, .sl 2 n 1 0 n]), x, some (.dat 5 1 rows)]⟩ 0).own ι 0 b := fun b h => h
  have ho2 : ∀ b, ι 2 rows.length = some b → (St.obj ⟨env, [some (.box T [.ptr 0 0, .sl 2 n 1 0 n]), x, some (.dat 5 1 rows)]⟩ 2).own ι 2 b := fun b h => h
  refine ⟨J, ι', ⟨⟨fun o => ?_, fun o o' b h1 h2 => ?_, fun o b h1 => ?_, S.store.jcell, S.store.glob⟩, fun t => ?_, S.size, S.defers⟩, ?_, ?_⟩
  · match o with
    | 0 =>
      obtain ⟨⟨b, C, k1, k2, k3⟩, _⟩ := S.store.rep 0
      obtain ⟨C⟩ := C
      match C, k3 with
      | [c0, c1], ⟨q0, q1, q2, q3, _⟩ =>
      obtain ⟨b', r1, r2⟩ := q1
      refine ⟨⟨b, ⟨[c0, c1]⟩, k1, k2, q0, ⟨b', r1, r2⟩, q2, ?_, trivial⟩, trivial⟩
      rcases q3 with q3 | ⟨b3, cap, et, sz, r3, r4⟩
      · exact .inl q3
      · exact .inr ⟨b3, cap, et, sz, r3, r4⟩
    | 1 =>
      obtain ⟨⟨k1, k2⟩, k3⟩ := S.store.rep 2
      exact ⟨⟨k1, k2⟩, k3⟩
    | o + 2 => exact fun n => rfl
  · rcases hown o b h1 with ⟨rfl, g1⟩ | ⟨rfl, g1⟩ <;> rcases hown o' b h2 with ⟨rfl, g2⟩ | ⟨rfl, g2⟩
    · rfl
    · have := S.store.inj 0 2 b (ho0 b g1) (ho2 b g2); cases this
    · have := S.store.inj 2 0 b (ho2 b g1) (ho0 b g2); cases this
    · rfl
  · rcases hown o b h1 with ⟨rfl, g1⟩ | ⟨rfl, g1⟩
    · exact S.store.disj 0 b (ho0 b g1)
    · exact S.store.disj 2 b (ho2 b g1)
  · show Rep J w ι' (getE (ts.map fun t => (t, getE env t)) t) _
    rw [getE_map]
    split
    · rename_i ht
      rw [List.all_eq_true] at hts
      exact Rep.rn (ι := ι) (ι' := ι') (k0 := 1) (π := fun i => i) (fun o n b ho hb => by
        obtain rfl : o = 0 := by omega
        exact hb) _ _ (hts t ht) (by rw [rn_id.1]; exact S.env t)
    · trivial
  · have hE := E.ev
    exact ⟨hE.os, hE.tape, hE.output, hE.size, hE.same, hE.shape, hE.jmono, hE.jnew, fun o n b hb => by
      have := hm o n b hb
      obtain rfl : o = 0 := by omega
      exact hE.imono 0 n b hb⟩
  · rintro b ⟨o, hb⟩
    rcases hown o b hb with ⟨rfl, g1⟩ | ⟨rfl, g1⟩
    · exact E.own b ⟨0, ho0 b g1⟩
    · exact E.own b ⟨2, ho2 b g1⟩
def txS (l : List EntD) (p : Nat × ByteArray × Bool) : St := ⟨[(3, .ptr 0 0), (7, entsV l), (8, .int l.length), (9, .int p.1)], match p.2.2 with
  | false => [some nilBox]
  | true => [some (.box 64 [.ptr 0 0, .sl 1 p.2.1.size 1 0 p.2.1.size]), some (.dat 5 1 (strRows p.2.1))]⟩
theorem wordE_ne {k : Int} (h : 1 ≤ k ∧ k ≤ 14) : (wordE k).size ≠ 0 := by
  have : ∀ i, i < 15 → 1 ≤ i → (wordsK.getD i ⟨#[]⟩).size ≠ 0 := by decide +kernel
  unfold wordE; rw [if_pos h]; exact this k.toNat (by omega) (by omega)
theorem textL_ge : ∀ (l : List Int) (acc : ByteArray), acc.size ≤ (textL acc l).size
  | [], acc => Nat.le_refl _
  | n :: l, acc => by
    have := textL_ge l (acc ++ (sepB ++ itoaB n))
    rw [ByteArray.size_append] at this
    rw [textL]; omega
theorem wordsE_ne {e : EntD} (h : entOkB e = true) : (wordsE e).size ≠ 0 := by
  obtain ⟨hk, _⟩ := entOk_rng h
  have h1 := wordE_ne hk
  have h2 := textL_ge (numsE e) (wordE e.kind)
  unfold wordsE wordsB
  rw [if_pos h]
  split
  · rw [ByteArray.size_append]; omega
  · omega
theorem strRows_app (a b : ByteArray) : strRows (a ++ b) = strRows a ++ strRows b := by simp [strRows]
theorem write1s_tri (a s : ByteArray) (hl : a.size + s.size ≤ 1000000000) : Tri Tryd.prog G 36 [.ptr 0 0, .d (.val (.string s))] [.box 64 [.ptr 0 0, .sl 1 a.size 1 0 a.size], .dat 5 1 (strRows a)] (.tup [.int s.size, .d (.val .nilIface)]) [.box 64 [.ptr 0 0, .sl 1 (a.size + s.size) 1 0 (a.size + s.size)], .dat 5 1 (strRows (a ++ s))] := by
  have hl1 : (strRows a).length = a.size := strRows_len a
  have := write1_tri (G := G) (strRows a) s (by omega)
  rwa [hl1, ← strRows_app] at this
theorem wordsE_nil {e : EntD} (h : entOkB e = false) : wordsE e = ⟨#[]⟩ := by
  unfold wordsE; rw [if_neg (by rw [h]; decide)]
set_option maxHeartbeats 4000000 in
theorem text_triE (h : OG G) (l : List EntD) (hl : l.length ≤ 100000) : Tri Tryd.prog G 16 [entsV l] [] (.d (.val (.string (textE l)))) [] := by
  have hnl := entRows_len l
  refine tri_W Tryd.func16 (by decide) irOk16 (Nat.le_of_ble_eq_true rfl) ?_
  simp only [ir16, go_sem, ↓reduceIte, zA, zB, zC, zD, zE, zF, reduceCtorEq, zG, zH, zI, zJ, zK, zL, zM, zN, zO, zP]
  generalize hq : textE l = q
  unfold textE at hq
  refine W_loopI [3, 7, 8, 9] [] (fun p : Nat × ByteArray × Bool => p.1 ≤ l.length ∧ p.2.1.size ≤ 201 * p.1 ∧ p.2.2 = decide (p.2.1.size ≠ 0) ∧ textGo (l.drop p.1) p.2.1 = q) (fun p => l.length - p.1) (txS l) (0, ⟨#[]⟩, false) ?_ ⟨Nat.zero_le _, Nat.zero_le _, rfl, hq⟩ ?_
  · simp only [txS, hnl, Int.natCast_zero, go_sem, ↓reduceIte, zA, zB, zC, zD, zE, zF, reduceCtorEq, zG, zH, zI, zJ, zK, zL, zM, zN, zO, zP]
  rintro ⟨i, acc, used⟩ ⟨hi, hsz, hu, hF⟩
  dsimp only at hi hsz hF hu
  cases used with
  | false =>
    have hu0 : acc.size = 0 := by
      have := of_decide_eq_false hu.symm
      omega
    have hacc : acc = ⟨#[]⟩ := data_ext (List.eq_nil_of_length_eq_zero (by rw [bs_len]; exact hu0))
    subst hacc
    simp only [txS, hnl, go_sem, ↓reduceIte, zA, zB, zC, zD, zE, zF, reduceCtorEq, zG, zH, zI, zJ, zK, zL, zM, zN, zO, zP]
    by_cases hlt : i < l.length
    case neg =>
      rw [List.drop_eq_nil_of_le (by omega), textGo] at hF
      subst hF
      simp only [decide_eq_false (show ¬ ((i : Nat) : Int) < ((l.length : Nat) : Int) by omega), go_sem, ↓reduceIte, zA, zB, zC, zD, zE, zF, reduceCtorEq, zG, zH, zI, zJ, zK, zL, zM, zN, zO, zP]
      refine W_callo [0] (string0_tri) rfl (by simp only [argRs, argR, List.map_cons, List.map_nil, go_sem, ↓reduceIte, zA, zB, zC, zD, zE, zF, reduceCtorEq, zG, zH, zI, zJ, zK, zL, zM, zN, zO, zP]) (by decide) (by simp only [go_sem, ↓reduceIte, zA, zB, zC, zD, zE, zF, reduceCtorEq, zG, zH, zI, zJ, zK, zL, zM, zN, zO, zP]) (by simp only [go_sem, ↓reduceIte, zA, zB, zC, zD, zE, zF, reduceCtorEq, zG, zH, zI, zJ, zK, zL, zM, zN, zO, zP, List.all_cons, List.all_nil]) (by simp) ?_; simp only [go_sem, ↓reduceIte, zA, zB, zC, zD, zE, zF, reduceCtorEq, zG, zH, zI, zJ, zK, zL, zM, zN, zO, zP]
      exact BackS (objs' := []) ⟨rfl, rfl⟩ rfl rfl rfl
    have hg := get_mapD (f := entR) zeroEnt hlt
    have hd := dropD_cons l i zeroEnt hlt
    rw [hd, textGo] at hF
    have hwz := wordsE_size (l.getD i zeroEnt)
    have hwn := @wordsE_ne (l.getD i zeroEnt)
    have hw0 := @wordsE_nil (l.getD i zeroEnt)
    generalize l.getD i zeroEnt = e at *
    have hgb : (entRows l)[i]? = some (entR e) := hg
    simp only [entR] at hgb
    simp only [decide_eq_true (show ((i : Nat) : Int) < ((l.length : Nat) : Int) by omega), hgb, go_sem, ↓reduceIte, zA, zB, zC, zD, zE, zF, reduceCtorEq, zG, zH, zI, zJ, zK, zL, zM, zN, zO, zP]
    refine W_calld (entWords_tri h e) rfl rfl rfl rfl ?_; simp only [go_sem, ↓reduceIte, zA, zB, zC, zD, zE, zF, reduceCtorEq, zG, zH, zI, zJ, zK, zL, zM, zN, zO, zP]
    cases hr : entOkB e with
    | false =>
      rw [if_neg (by rw [hr]; decide)] at hF
      have hw := hw0 hr
      simp only [hw, go_sem, ↓reduceIte, zA, zB, zC, zD, zE, zF, reduceCtorEq, zG, zH, zI, zJ, zK, zL, zM, zN, zO, zP]
      refine W_lpI (i + 1, ⟨#[]⟩, false) ?_ ?_ ⟨by dsimp only; omega, Nat.zero_le _, rfl, hF⟩ (by dsimp only; omega)
      · simp only [go_sem, ↓reduceIte, zA, zB, zC, zD, zE, zF, reduceCtorEq, zG, zH, zI, zJ, zK, zL, zM, zN, zO, zP]
      · simp only [txS, wrap_succ (show i < 9223372036854775807 by omega), go_sem, ↓reduceIte, zA, zB, zC, zD, zE, zF, reduceCtorEq, zG, zH, zI, zJ, zK, zL, zM, zN, zO, zP]
    | true =>
    rw [if_pos hr, ← ByteArray.append_assoc] at hF
    have hne : wordsE e ≠ ⟨#[]⟩ := fun h => hwn hr (by rw [h]; rfl)
    have hnl2 : ((wordsE e).toList == (⟨#[]⟩ : ByteArray).toList) = false := by rw [str_eq]; exact decide_eq_false hne
    have u1 : (wordsE e).size + (#[10] : Array UInt8).size ≤ 9223372036854775807 := by
      show (wordsE e).size + 1 ≤ _
      omega
    simp only [hnl2, u1, if_true, Bool.not_false, go_sem, ↓reduceIte, zA, zB, zC, zD, zE, zF, reduceCtorEq, zG, zH, zI, zJ, zK, zL, zM, zN, zO, zP]
    refine W_callo [0] (write0n_tri (wordsE e ++ ⟨#[10]⟩) (by rw [ByteArray.size_append]; show (wordsE e).size + 1 ≤ _; omega)) rfl (by simp only [argRs, argR, List.map_cons, List.map_nil, go_sem, ↓reduceIte, zA, zB, zC, zD, zE, zF, reduceCtorEq, zG, zH, zI, zJ, zK, zL, zM, zN, zO, zP]) (by decide) (by simp only [go_sem, ↓reduceIte, zA, zB, zC, zD, zE, zF, reduceCtorEq, zG, zH, zI, zJ, zK, zL, zM, zN, zO, zP]) (by simp only [go_sem, ↓reduceIte, zA, zB, zC, zD, zE, zF, reduceCtorEq, zG, zH, zI, zJ, zK, zL, zM, zN, zO, zP, List.all_cons, List.all_nil]) (by simp) ?_; simp only [go_sem, ↓reduceIte, zA, zB, zC, zD, zE, zF, reduceCtorEq, zG, zH, zI, zJ, zK, zL, zM, zN, zO, zP]
    obtain ⟨v, hv⟩ : ∃ v, wordsE e ++ ⟨#[10]⟩ = v := ⟨_, rfl⟩
    have hvs : (wordsE e).size + (#[10] : Array UInt8).size = v.size := by rw [← hv, ByteArray.size_append]; rfl
    simp only [hv, hvs]
    rw [ByteArray.append_assoc, hv, show (⟨#[]⟩ : ByteArray) ++ v = v from ByteArray.empty_append] at hF
    have hvw : v.size = (wordsE e).size + 1 := hvs.symm
    refine W_lpR (i + 1, v, true) ?_ ⟨by dsimp only; omega, by dsimp only; omega, by dsimp only; rw [decide_eq_true (show v.size ≠ 0 by omega)], hF⟩ (by dsimp only; omega)
    refine Eq.mpr (congrArg (Imp G 1 _) (?_ : txS l (i + 1, v, true) = _)) (Imp.move [3, 7, 8, 9] ?_)
    · simp only [txS, wrap_succ (show i < 9223372036854775807 by omega), List.map, go_sem, ↓reduceIte, zA, zB, zC, zD, zE, zF, reduceCtorEq, zG, zH, zI, zJ, zK, zL, zM, zN, zO, zP]
    · simp only [List.all, go_sem, ↓reduceIte, zA, zB, zC, zD, zE, zF, reduceCtorEq, zG, zH, zI, zJ, zK, zL, zM, zN, zO, zP]
  | true =>
    simp only [txS, hnl, go_sem, ↓reduceIte, zA, zB, zC, zD, zE, zF, reduceCtorEq, zG, zH, zI, zJ, zK, zL, zM, zN, zO, zP]
    by_cases hlt : i < l.length
    case neg =>
      rw [List.drop_eq_nil_of_le (by omega), textGo] at hF
      subst hF
      have hu1 : acc.size ≠ 0 := of_decide_eq_true hu.symm
      simp only [decide_eq_false (show ¬ ((i : Nat) : Int) < ((l.length : Nat) : Int) by omega), go_sem, ↓reduceIte, zA, zB, zC, zD, zE, zF, reduceCtorEq, zG, zH, zI, zJ, zK, zL, zM, zN, zO, zP]
      refine W_callo [0, 1] (string1_tri acc hu1 (by omega)) rfl (by simp only [argRs, argR, List.map_cons, List.map_nil, go_sem, ↓reduceIte, zA, zB, zC, zD, zE, zF, reduceCtorEq, zG, zH, zI, zJ, zK, zL, zM, zN, zO, zP]) (by decide) (by simp only [go_sem, ↓reduceIte, zA, zB, zC, zD, zE, zF, reduceCtorEq, zG, zH, zI, zJ, zK, zL, zM, zN, zO, zP]) (by simp only [go_sem, ↓reduceIte, zA, zB, zC, zD, zE, zF, reduceCtorEq, zG, zH, zI, zJ, zK, zL, zM, zN, zO, zP, List.all_cons, List.all_nil]) (by simp) ?_; simp only [go_sem, ↓reduceIte, zA, zB, zC, zD, zE, zF, reduceCtorEq, zG, zH, zI, zJ, zK, zL, zM, zN, zO, zP]
      exact BackS (objs' := []) ⟨rfl, rfl⟩ rfl rfl rfl
    have hu1 : acc.size ≠ 0 := of_decide_eq_true hu.symm
    have hg := get_mapD (f := entR) zeroEnt hlt
    have hd := dropD_cons l i zeroEnt hlt
    rw [hd, textGo] at hF
    have hwz := wordsE_size (l.getD i zeroEnt)
    have hwn := @wordsE_ne (l.getD i zeroEnt)
    have hw0 := @wordsE_nil (l.getD i zeroEnt)
    generalize l.getD i zeroEnt = e at *
    have hgb : (entRows l)[i]? = some (entR e) := hg
    simp only [entR] at hgb
    simp only [decide_eq_true (show ((i : Nat) : Int) < ((l.length : Nat) : Int) by omega), hgb, go_sem, ↓reduceIte, zA, zB, zC, zD, zE, zF, reduceCtorEq, zG, zH, zI, zJ, zK, zL, zM, zN, zO, zP]
    refine W_calld (entWords_tri h e) rfl rfl rfl rfl ?_; simp only [go_sem, ↓reduceIte, zA, zB, zC, zD, zE, zF, reduceCtorEq, zG, zH, zI, zJ, zK, zL, zM, zN, zO, zP]
    cases hr : entOkB e with
    | false =>
      rw [if_neg (by rw [hr]; decide)] at hF
      have hw := hw0 hr
      simp only [hw, go_sem, ↓reduceIte, zA, zB, zC, zD, zE, zF, reduceCtorEq, zG, zH, zI, zJ, zK, zL, zM, zN, zO, zP]
      refine W_lpR (i + 1, acc, true) ?_ ⟨by dsimp only; omega, by dsimp only; omega, hu, hF⟩ (by dsimp only; omega)
      refine Eq.mpr (congrArg (Imp G 1 _) (?_ : txS l (i + 1, acc, true) = _)) (Imp.le (m' := 2) (by decide) (Imp.keep (ts := [3, 7, 8, 9]) (m := 2) ?_))
      case refine_2 => simp only [go_sem, ↓reduceIte, zA, zB, zC, zD, zE, zF, reduceCtorEq, zG, zH, zI, zJ, zK, zL, zM, zN, zO, zP]
      · simp only [txS, wrap_succ (show i < 9223372036854775807 by omega), go_sem, ↓reduceIte, zA, zB, zC, zD, zE, zF, reduceCtorEq, zG, zH, zI, zJ, zK, zL, zM, zN, zO, zP]
    | true =>
    rw [if_pos hr] at hF
    have hne : wordsE e ≠ ⟨#[]⟩ := fun h => hwn hr (by rw [h]; rfl)
    have hnl2 : ((wordsE e).toList == (⟨#[]⟩ : ByteArray).toList) = false := by rw [str_eq]; exact decide_eq_false hne
    have u1 : (wordsE e).size + (#[10] : Array UInt8).size ≤ 9223372036854775807 := by
      show (wordsE e).size + 1 ≤ _
      omega
    simp only [hnl2, u1, if_true, Bool.not_false, go_sem, ↓reduceIte, zA, zB, zC, zD, zE, zF, reduceCtorEq, zG, zH, zI, zJ, zK, zL, zM, zN, zO, zP]
    obtain ⟨v, hv⟩ : ∃ v, wordsE e ++ ⟨#[10]⟩ = v := ⟨_, rfl⟩
    have hvs : (wordsE e).size + (#[10] : Array UInt8).size = v.size := by rw [← hv, ByteArray.size_append]; rfl
    have hvw : v.size = (wordsE e).size + 1 := hvs.symm
    simp only [hv]
    rw [hv] at hF
    refine W_callo [0, 1] (write1s_tri acc v (by omega)) rfl (by simp only [argRs, argR, List.map_cons, List.map_nil, go_sem, ↓reduceIte, zA, zB, zC, zD, zE, zF, reduceCtorEq, zG, zH, zI, zJ, zK, zL, zM, zN, zO, zP]) (by decide) (by simp only [go_sem, ↓reduceIte, zA, zB, zC, zD, zE, zF, reduceCtorEq, zG, zH, zI, zJ, zK, zL, zM, zN, zO, zP]) (by simp only [go_sem, ↓reduceIte, zA, zB, zC, zD, zE, zF, reduceCtorEq, zG, zH, zI, zJ, zK, zL, zM, zN, zO, zP, List.all_cons, List.all_nil]) (by simp) ?_; simp only [go_sem, ↓reduceIte, zA, zB, zC, zD, zE, zF, reduceCtorEq, zG, zH, zI, zJ, zK, zL, zM, zN, zO, zP]
    refine W_lpR (i + 1, acc ++ v, true) ?_ ⟨by dsimp only; omega, by dsimp only; rw [ByteArray.size_append]; omega, by dsimp only; rw [ByteArray.size_append, decide_eq_true (show acc.size + v.size ≠ 0 by omega)], hF⟩ (by dsimp only; omega)
    refine Eq.mpr (congrArg (Imp G 1 _) (?_ : txS l (i + 1, acc ++ v, true) = _)) (Imp.le (m' := 2) (by decide) (Imp.keep (ts := [3, 7, 8, 9]) (m := 2) ?_))
    case refine_2 => simp only [go_sem, ↓reduceIte, zA, zB, zC, zD, zE, zF, reduceCtorEq, zG, zH, zI, zJ, zK, zL, zM, zN, zO, zP]
    · simp only [txS, ByteArray.size_append, strRows_app, wrap_succ (show i < 9223372036854775807 by omega), go_sem, ↓reduceIte, zA, zB, zC, zD, zE, zF, reduceCtorEq, zG, zH, zI, zJ, zK, zL, zM, zN, zO, zP]
end Dv

namespace Go.Proofs
open Go.RowKit Go.Shelf

/-- what a caller keeps while the loop's book is kept, and the variable in block B is turned. -/
def OwnB {α : Type} (B N : Nat) (I : List α → World → Prop) : Prop :=
  ∀ s A A' row, I s A → A.grownBy A' row → (∀ r, row = some r → r = B ∨ (N ≤ r ∧ ∃ o : Obj, A.heap[r]? = some o ∧ o.isCells = false)) → I s A'

theorem wpIn_rangeFunc_box {F : Fence} {n : Nat} {P : Program} {α : Type} {g : Operand} {ps : Array Tmp} {assign body : Code} {Q : Exit → Act → World → Prop} {a : Act} {w : World}
    (hro : F.round = none) (h1 : 1 ≤ n) {gf : Nat} {lb : Array Value} (hg : a.eval g = .func (.func gf) #[] lb) (hFg : F.fn gf) (eg : ∀ args w, (callFunc gf args).run P w = .ok (.enter gf args) w)
    {encs : α → Array Value} {B N : Nat} {Px : α → Prop} {xs : List α} (hB : B < w.heap.size) (hps : ∀ x, (encs x).size = ps.size)
    (I : List α → World → Prop) (hI : OwnB B w.heap.size I) (h0 : I [] w) (a₁ : α → Act)
    (hseq : ∀ (l : Nat) (J : List α → World → Prop) (W : World), (∀ s A A' row, J s A → A.grownBy A' row → (∀ r, row = some r → r = B) → J s A') → (∀ s A, J s A → I s A) →
      (∀ pre x W, J pre W → pre.length < N → Px x → YieldAt F (n - 1 - 1) P l (encs x) W fun e W' => e = .returned (.bool true) ∧ J (pre ++ [x]) W' ∧ W'.heap[B]? = W.heap[B]?) →
      (∀ k, k < w.heap.size → W.heap[k]? = w.heap[k]?) → J [] W →
      CallsIn F (n - 1) P gf (#[.func (.yield l) #[] #[]] ++ lb) W fun e W' => (∃ v, e = .returned v) ∧ J xs W')
    (hassign : ∀ (l : Nat) (x : α) (W : World) (K : Act → World → Prop), K (a₁ x) W →
      assign.wpIn (F.inRound l) (n - 1 - 1) P (Exit.then K (fun _ _ _ => False)) { tmps := (ps.zip (encs x)).foldl (fun t (p, v) => t.setIfInBounds p v) a.tmps, defers := [] } W)
    (hbody : ∀ (l : Nat) (pre : List α) (x : α) (W : World), I pre W → pre.length < N → Px x → body.wpIn (F.inRound l) (n - 1 - 1) P (fun e _ W' => e = .normal ∧ KeepsFrom w.heap.size W W' ∧ W'.heap[B]? = W.heap[B]? ∧ I (pre ++ [x]) W') (a₁ x) W)
    (hdone : ∀ (D : Nat) (W : World), w.heap.size ≤ D → I xs W → W.heap[D]? = some (.deferred (some [])) → Q .normal { a with defers := { target := .collected D, args := #[] } :: a.defers } W) :
    (Code.rangeFunc g ps assign body).wpIn F n P Q a w := by
  refine wpIn_rangeFunc fun fn hfn => ?_
  rw [hro]
  -- the loop's record, and the block for what rounds defer
  let rc : LoopState → Loop := fun st => { state := st, pending := none, fn, tmps := a.tmps, params := ps, assign, body, defers := w.heap.size }
  let W1 := (w.alloc (.deferred (some []))).alloc (.loop (rc .ready))
  have sz1 : W1.heap.size = w.heap.size + 2 := by simp [W1]
  have hL1 : W1.heap[w.heap.size + 1]? = some (.loop (rc .ready)) := by
    have := World.alloc_heap_new (w.alloc (.deferred (some []))) (.loop (rc .ready)); rwa [World.size_alloc] at this
  have hD1 : W1.heap[w.heap.size]? = some (.deferred (some [])) := (Below.heap_alloc _ _ _ (by simp)).trans (World.alloc_heap_new w _)
  have hI1 : I [] W1 := hI _ _ _ none (hI _ _ _ none h0 (World.grownBy_alloc w _ none) (fun r e => by cases e)) (World.grownBy_alloc _ _ none) (fun r e => by cases e)
  have hold : ∀ k, k < w.heap.size → W1.heap[k]? = w.heap[k]? := fun k hk => (Below.heap_alloc _ _ _ (by simp; omega)).trans (Below.heap_alloc _ _ _ hk)
  have put : ∀ {s A} (l : Nat) (o o' : Obj), I s A → w.heap.size ≤ l → A.heap[l]? = some o → o.isCells = false → I s (A.putObj l o') := fun l o o' hi hl ho hc =>
    hI _ _ _ (some l) hi (grownBy_putObj' _ l o') (fun r e => by cases e; exact .inr ⟨hl, o, ho, hc⟩)
  have far : ∀ {A A' : World} {row : Option Nat} (k : Nat) (o : Obj), A.grownBy A' row → (∀ r, row = some r → r = B) → w.heap.size ≤ k → A.heap[k]? = some o → A'.heap[k]? = some o := fun k o hg' hr hk ho =>
    (hg'.block k (Array.getElem?_eq_some_iff.1 ho).1 (fun e => by have := hr k e.symm; omega)).trans ho
  refine ⟨w.heap.size + 1, [{ target := .collected w.heap.size, args := #[] }], W1, { target := .fn (.func gf) lb, args := #[.func (.yield (w.heap.size + 1)) #[] #[]] }, W1, gf,
    #[.func (.yield (w.heap.size + 1)) #[] #[]] ++ lb, W1, run_enterLoop_outer _ _ _ _ _, ?_, ?_, ?_, fun _ => h1, ?_⟩
  · simp only [resolve, hg]
    simp [go_sem]
  · intro f' hf'; simp [Target.leads] at hf'; subst hf'; exact hFg
  · simp [invoke, go_sem, eg]
  refine (hseq (w.heap.size + 1) (fun pre W => I pre W ∧ W.heap[w.heap.size + 1]? = some (.loop (rc .ready)) ∧ W.heap[w.heap.size]? = some (.deferred (some []))) W1
    (fun s A A' row hs hg' hr => ⟨hI s A A' row hs.1 hg' (fun r e => .inl (hr r e)), far _ _ hg' hr (by omega) hs.2.1, far _ _ hg' hr (by omega) hs.2.2⟩) (fun s A hs => hs.1) ?_ hold ⟨hI1, hL1, hD1⟩).mono ?_
  · rintro pre x W ⟨hi, hl, hd⟩ hlen hpx
    have hlt := (Array.getElem?_eq_some_iff.1 hl).1
    refine ⟨fn, _, assign, body, run_yield (P := P) (args := encs x) hl (hps x), roundIn_of_wpIn hfn (hassign _ x W _ ⟨_, run_beginRound hl rfl, ?_⟩)⟩
    have hl2 : (W.putObj (w.heap.size + 1) (.loop (rc .busy))).heap[w.heap.size + 1]? = some (.loop (rc .busy)) := World.putObj_heap_same hlt
    have hd2 : (W.putObj (w.heap.size + 1) (.loop (rc .busy))).heap[w.heap.size]? = some (.deferred (some [])) := (World.putObj_heap_other (by omega)).trans hd
    refine wpIn_mono (hbody _ pre x _ (put _ _ _ hi (by omega) hl rfl) hlen hpx) ?_
    rintro e a3 W3 ⟨rfl, hk3, hb3, hi3⟩
    have hl3 := hk3.same _ _ (by omega) hl2 rfl
    have hd3 := hk3.same _ _ (Nat.le_refl _) hd2 rfl
    refine ⟨_, _, run_endRound (P := P) none hl3, ⟨rfl, ⟨put _ _ _ hi3 (by omega) hl3 rfl, World.putObj_heap_same (Array.getElem?_eq_some_iff.1 hl3).1, (World.putObj_heap_other (by omega)).trans hd3⟩, ?_⟩⟩
    exact (World.putObj_heap_other (by omega)).trans (hb3.trans (World.putObj_heap_other (by omega)))
  · rintro e W2 ⟨⟨v, rfl⟩, hi, hl, hd⟩
    exact ⟨none, _, run_endLoop (P := P) hl (by simp [rc]), hdone _ _ (Nat.le_refl _) (put _ _ _ hi (by omega) hl rfl) ((World.putObj_heap_other (by omega)).trans hd)⟩
end Go.Proofs

namespace Dv
open Go Go.Proofs
theorem cutS_less (s : ByteArray) (c : UInt8) (h : s.size ≠ 0) : (cutS s c).2.1.size < s.size := by
  have hb := bs_len s
  show (⟨(Lib.cut s.data.toList [c]).2.1.toArray⟩ : ByteArray).size < _
  rw [arr_size, ← hb]
  unfold Lib.cut
  split
  · dsimp only; rw [List.length_drop]; simp only [List.length_cons, List.length_nil]; omega
  · dsimp only; rw [List.length_nil]; omega
def linesF : Nat → Nat → ByteArray → List (Nat × ByteArray)
  | 0, _, _ => []
  | f + 1, k, t => if t.size = 0 then [] else (k, (cutS t 10).1) :: linesF f (k + 1) (cutS t 10).2.1
theorem linesF_fuel : ∀ (f g k : Nat) (t : ByteArray), t.size ≤ f → t.size ≤ g → linesF f k t = linesF g k t
  | 0, 0, _, _, _, _ => rfl
  | 0, g + 1, k, t, h, _ => by rw [linesF, linesF, if_pos (by omega)]
  | f + 1, 0, k, t, _, h => by rw [linesF, linesF, if_pos (by omega)]
  | f + 1, g + 1, k, t, h1, h2 => by
    rw [linesF, linesF]
    split
    · rfl
    · rename_i h
      have := cutS_less t 10 h
      rw [linesF_fuel f g (k + 1) _ (by omega) (by omega)]
def linesT (k : Nat) (t : ByteArray) : List (Nat × ByteArray) := linesF t.size k t
theorem linesT_nil (k : Nat) (t : ByteArray) (h : t.size = 0) : linesT k t = [] := by
  unfold linesT; rw [h]; rfl
theorem linesT_cons (k : Nat) (t : ByteArray) (h : t.size ≠ 0) : linesT k t = (k, (cutS t 10).1) :: linesT (k + 1) (cutS t 10).2.1 := by
  have hl := cutS_less t 10 h
  unfold linesT
  rw [linesF_fuel t.size ((t.size - 1) + 1) k t (Nat.le_refl _) (by omega), linesF, if_neg h, linesF_fuel (t.size - 1) _ (k + 1) _ (by omega) (Nat.le_refl _)]
/-- a contract over data, as plain words. -/
theorem Tri.plain {P : Program} {G : Nat → Option (List DV)} {f : Nat} {args : List LV} {r : LV} (h : Tri P G f args [] r []) {J : Nat → Prop} {ι : Nat → Nat → Option Nat} {w : World} {vs : Array Value} (S : Store G J w ι (objL [])) (hR : RepL J w ι args vs.toList) :
    Calls P f vs w fun e w' => ∃ v, e = .returned v ∧ (∃ J' ι', Store G J' w' ι' (objL []) ∧ Rep J' w' ι' r v ∧ ∀ k, J k → J' k) ∧ RowKit.Below w.heap.size w w' := by
  refine (h.2 J ι w vs S hR).mono fun e w' hh => ?_
  obtain ⟨v, he, J', ι', S', hr, hE⟩ := hh
  refine ⟨v, he, ⟨J', ι', S', hr, hE.ev.jmono⟩, ⟨hE.ev.os, hE.ev.tape, hE.ev.output, hE.ev.size, fun k hk => hE.ev.same k hk ?_⟩⟩
  rintro ⟨o, hb⟩
  simp [objL, OSt.own] at hb
theorem cut_calls {G : Nat → Option (List DV)} (h : OG G) {J : Nat → Prop} {ι : Nat → Nat → Option Nat} {w : World} (S : Store G J w ι (objL [])) (t : ByteArray) (c : UInt8) (ht : t.size ≤ 1000000) :
    Calls Tryd.prog 20 #[.string t, .string ⟨#[c]⟩] w fun e w' => e = .returned (.tuple #[.string (cutS t c).1, .string (cutS t c).2.1, .bool (cutS t c).2.2]) ∧ RowKit.Below w.heap.size w w' := by
  refine ((cut_tri h t c ht).plain S (vs := #[.string t, .string ⟨#[c]⟩]) ⟨rfl, rfl, trivial⟩).mono fun e w' hh => ?_
  obtain ⟨v, rfl, ⟨J', ι', _, hr, _⟩, hB⟩ := hh
  obtain ⟨us, rfl, hr⟩ := hr
  obtain ⟨us⟩ := us
  match us, hr with
  | [a, b, d], ⟨h1, h2, h3, _⟩ =>
    have h1 : a = .string _ := h1
    have h2 : b = .string _ := h2
    have h3 : d = .bool _ := h3
    subst h1 h2 h3
    exact ⟨rfl, hB⟩
end Dv

namespace Go.Proofs
open Go.RowKit Go.Shelf
attribute [local go_sem] Oper.semAt_some
set_option maxRecDepth 100000 in
set_option maxHeartbeats 1000000 in
theorem lines1_in {G : Nat → Option (List Dv.DV)} (h : Dv.OG G) (n : Nat) (hn : 1 ≤ n) (l Bn : Nat) (s : ByteArray) (hs : s.size ≤ 900000) (J : List (Nat × ByteArray) → World → Prop)
    (hJ : ∀ pre A A' row, J pre A → A.grownBy A' row → (∀ r, row = some r → r = Bn) → J pre A') (hst : ∀ pre A, J pre A → ∃ J0 ι0, Dv.Store G J0 A ι0 (Dv.objL []))
    (hY : ∀ pre x W, J pre W → pre.length < s.size → x.2.size ≤ s.size → YieldAt Fence.wide (n - 1) Tryd.prog l #[.int .i64 (x.1 : Nat), .string x.2] W fun e W' => e = .returned (.bool true) ∧ J (pre ++ [x]) W' ∧ W'.heap[Bn]? = W.heap[Bn]?)
    (W : World) (hB : Boxed W Bn 9 (.string s)) (h0 : J [] W) :
    CallsIn Fence.wide n Tryd.prog 49 #[.func (.yield l) #[] #[], .pointer (some ⟨Bn, 0, none⟩)] W fun e W' => (∃ v, e = .returned v) ∧ J (Dv.linesT 1 s) W' := by
  refine callsIn_of_wp Tryd.func49 rfl trivial ?_ rfl
  simp only [Tryd.ntmps49, List.size_toArray, List.length_cons, List.length_nil, Nat.reduceAdd, Nat.reduceSub, Array.replicate_succ, Array.replicate_zero, List.push_toArray, List.append_toArray, List.nil_append, List.cons_append]
  gi_wp2
  gi_loopw [3] (fun p wr => ∃ (k : Nat) (t : ByteArray) (pre : List (Nat × ByteArray)), p = .int .i64 k ∧ Boxed wr Bn 9 (.string t) ∧ J pre wr ∧ k = pre.length + 1 ∧ pre.length + t.size ≤ s.size ∧ pre ++ Dv.linesT k t = Dv.linesT 1 s)
    (fun p wr => match wr.cell? ⟨Bn, 0, none⟩ with | some (.string t) => t.size | _ => 0)
  case atStart =>
    exact ⟨1, s, [], rfl, hB, h0, rfl, by simp, rfl⟩
  case round =>
    obtain ⟨k, t, pre, rfl, hb, hj, hk, hsz, hl⟩ := hrel
    have hc := hb.cell
    have hf := hb.frozen
    by_cases ht : t.size = 0
    · obtain rfl : t = ⟨#[]⟩ := Dv.data_ext (List.eq_nil_of_length_eq_zero (by rw [Dv.bs_len]; exact ht))
      gi_wp2
      go_end0
      rw [Dv.linesT_nil _ _ rfl, List.append_nil] at hl
      exact ⟨⟨_, rfl⟩, hl ▸ hj⟩
    · have htn : t ≠ ⟨#[]⟩ := fun e => ht (by rw [e]; rfl)
      obtain ⟨J0, ι0, S0⟩ := hst pre wr hj
      gi_wp2
      · refine ⟨trivial, ?_⟩
        refine CallsIn.mono (callsIn_wide.2 (Dv.cut_calls h S0 t 10 (by omega))) ?_
        rintro e w' ⟨rfl, hB'⟩
        have hb' : Boxed w' Bn 9 (.string t) := (hB'.block Bn hb.lt).trans hb
        have hc' := hb'.cell
        have hf' := hb'.frozen
        have hj' : J pre w' := hJ _ _ _ none hj ⟨hB'.os, hB'.tape, hB'.output, hB'.size, fun k hk _ => hB'.block k hk⟩ (fun r e => by cases e)
        have hj2 : J pre (w'.setCell ⟨Bn, 0, none⟩ (.string (Dv.cutS t 10).2.1)) := hJ _ _ _ (some Bn) hj' (grownBy_setCell' _ _ _) (fun r e => by cases e; rfl)
        have hb2 := hb'.set (.string (Dv.cutS t 10).2.1)
        have hlt : pre.length < s.size := by omega
        obtain ⟨fn, tmps, assign, body, hy, hR⟩ := hY pre (k, (Dv.cutS t 10).1) _ hj2 hlt (by have := (Dv.cutS_size t 10).1; dsimp only; omega)
        subst hk
        push_cast at hy
        gi_wp2
        refine hR.mono ?_
        rintro e W3 ⟨rfl, hJ3, hk3⟩
        have hb3 : Boxed W3 Bn 9 (.string (Dv.cutS t 10).2.1) := hk3.trans hb2
        have hc3 := hb3.cell
        gi_wp2
        have hless := Dv.cutS_less t 10 ht
        rw [Dv.linesT_cons _ _ ht] at hl
        refine ⟨⟨pre.length + 1 + 1, (Dv.cutS t 10).2.1, pre ++ [(pre.length + 1, (Dv.cutS t 10).1)], by push_cast; rfl, hb3, hJ3, by simp, by simp only [List.length_append, List.length_cons, List.length_nil]; omega, by rw [List.append_assoc]; exact hl⟩, ?_⟩
        rw [hc3, hc]
        exact hless
      · rename_i hx
        have hem : t.toList.isEmpty = false := by
          have h2 := Dv.nil_eqb t
          rw [decide_eq_false ht, beq_eq_false_iff_ne] at h2
          cases h3 : t.toList with
          | nil => exact absurd (h3.trans (by rw [ByteArray.toList_eq])) h2
          | cons a b => rfl
        simp [hem] at hx
end Go.Proofs

namespace Dv
open Go Go.Proofs
theorem rowD_vals {J : Nat → Prop} {w : World} {g : Nat} : ∀ (cs : List Value) (off : Nat), (∀ (j : Nat) x, cs[j]? = some x → w.cell? ⟨g, off + j, none⟩ = some x ∧ x.oneCell' = true) → RowD J w (cs.map DV.val) g off
  | [], _, _ => trivial
  | x :: l, off, h => ⟨⟨x, (h 0 x rfl).1, (h 0 x rfl).2, rfl⟩, rowD_vals l (off + 1) (fun j y hy => by
      have := h (j + 1) y (by simpa using hy)
      rw [show off + 1 + j = off + (j + 1) by omega]; exact this)⟩
theorem rowsD_vals {J : Nat → Prop} {w : World} {g esz : Nat} : ∀ (rows : List (List Value)) (off : Nat), (∀ r ∈ rows, r.length = esz) → (∀ (j : Nat) x, rows.flatten[j]? = some x → w.cell? ⟨g, off + j, none⟩ = some x ∧ x.oneCell' = true) → RowsD J w esz (rows.map fun r => r.map DV.val) g off
  | [], _, _, _ => trivial
  | r :: l, off, hl, h => by
    have hr := hl r (by simp)
    refine ⟨by simp [hr], rowD_vals r off (fun j x hx => h j x ?_), rowsD_vals l (off + esz) (fun r' h' => hl r' (by simp [h'])) (fun j x hx => ?_)⟩
    · have hj : j < r.length := (List.getElem?_eq_some_iff.1 hx).1
      rw [List.flatten_cons, List.getElem?_append_left hj]; exact hx
    · rw [show off + esz + j = off + (esz + j) by omega]
      refine h _ x ?_
      rw [List.flatten_cons, List.getElem?_append_right (by omega), hr, Nat.add_sub_cancel_left]; exact hx
theorem own_nil (ι : Nat → Nat → Option Nat) (o b : Nat) : ¬ (objL [] o).own ι o b := by
  rw [objL_free (by simp)]; exact fun h => h.elim
theorem row_rep {J : Nat → Prop} {w : World} {n0 : Nat} {e : TypeId} {esz : Nat} {v : Value} {rows : List (List Value)} (h : w.ownsRow n0 e esz v rows.length rows.flatten) (hl : ∀ r ∈ rows, r.length = esz ∧ ∀ x ∈ r, x.oneCell' = true) (hj : ∀ b, v.ownBlock = some b → J b) :
    RepD J w (.lst esz (rows.map fun r => r.map DV.val)) v := by
  rcases h.2 with ⟨rfl, h0⟩ | ⟨g, cap, cur, rfl, _, hg, hc, _, _, hx⟩
  · exact ⟨none, 0, 0, rfl, by simp [h0], Nat.le_refl _, .inl (by rw [List.eq_nil_of_length_eq_zero h0]; rfl)⟩
  · refine ⟨_, _, _, rfl, by simp, hc, .inr ⟨g, 0, rfl, hj g rfl, rowsD_vals rows 0 (fun r hr => (hl r hr).1) (fun j x hjx => ⟨?_, ?_⟩)⟩⟩
    · have h1 : (cur.toList.take (rows.length * esz))[j]? = some x := by rw [hx]; exact hjx
      have hlt := (List.getElem?_eq_some_iff.1 h1).1
      rw [List.length_take] at hlt
      rw [List.getElem?_take, if_pos (by omega)] at h1
      rw [Nat.zero_add]
      simp only [World.cell?, hg]
      simpa using h1
    · have hm := List.mem_of_getElem? hjx
      obtain ⟨r, hr, hxr⟩ := List.mem_flatten.1 hm
      exact (hl r hr).2 x hxr
theorem own_ge {w : World} {n0 : Nat} {e : TypeId} {esz k : Nat} {v : Value} {xs : List Value} (h : w.ownsRow n0 e esz v k xs) (b : Nat) (hb : v.ownBlock = some b) : n0 ≤ b ∧ ∃ C t f, w.heap[b]? = some (.cells C t f) := by
  rcases h.2 with ⟨rfl, h0⟩ | ⟨g, cap, cur, rfl, hge, hg, _⟩
  · simp [Value.ownBlock] at hb
  · simp only [Value.ownBlock, Option.some.injEq] at hb
    subst hb
    exact ⟨hge, _, _, _, hg⟩
theorem after_two {G : Nat → Option (List DV)} {J : Nat → Prop} {ι : Nat → Nat → Option Nat} {w W : World} (S : Store G J w ι (objL [])) (hB : RowKit.Below w.heap.size w W) {n0 : Nat} (hn : w.heap.size ≤ n0) {e1 e2 : TypeId} {z1 z2 : Nat} {v u : Value} {r1 r2 : List (List Value)}
    (h1 : W.ownsRow n0 e1 z1 v r1.length r1.flatten) (h2 : W.ownsRow n0 e2 z2 u r2.length r2.flatten) (l1 : ∀ r ∈ r1, r.length = z1 ∧ ∀ x ∈ r, x.oneCell' = true) (l2 : ∀ r ∈ r2, r.length = z2 ∧ ∀ x ∈ r, x.oneCell' = true) :
    After G (objL []) (objL []) J ι w (.tup [.d (.lst z1 (r1.map fun r => r.map DV.val)), .d (.lst z2 (r2.map fun r => r.map DV.val))]) (.tuple #[v, u]) W := by
  have S1 : Store G J W ι (objL []) := S.still (fun b h => hB.block b (S.jlt b h)) (fun b h => hB.block b (S.own_lt h)) (fun b h => shape_of_heap (hB.block b (shape_lt h)))
  refine ⟨fun b => J b ∨ v.ownBlock = some b ∨ u.ownBlock = some b, ι, ⟨fun o => ?_, fun o o' b h => absurd h (own_nil ι o b), fun o b h => absurd h (own_nil ι o b), fun b hb => ?_, fun q row hq => ?_⟩, ⟨_, rfl, row_rep h1 l1 (fun b hb => .inr (.inl hb)), row_rep h2 l2 (fun b hb => .inr (.inr hb)), trivial⟩,
    ⟨⟨hB.os, hB.tape, hB.output, hB.size, fun b hb _ => hB.block b hb, fun b hb => shape_of_heap (hB.block b hb), fun b hb => .inl hb, fun b hb => ?_, fun _ _ _ h => h⟩, fun b hb => ?_⟩⟩
  · have := S1.rep o
    rw [objL_free (by simp)] at this ⊢
    exact this
  · rcases hb with hb | hb | hb
    · exact S1.jcell b hb
    · exact (own_ge h1 b hb).2
    · exact (own_ge h2 b hb).2
  · obtain ⟨q1, q2, q3⟩ := S1.glob q row hq
    exact ⟨.inl q1, RowD.mono (fun k h => .inl h) (fun _ _ => rfl) _ _ _ rfl q2, q3⟩
  · rcases hb with hb | hb | hb
    · exact .inl hb
    · exact .inr (.inl (Nat.le_trans hn (own_ge h1 b hb).1))
    · exact .inr (.inl (Nat.le_trans hn (own_ge h2 b hb).1))
  · obtain ⟨o, h⟩ := hb
    exact absurd h (own_nil ι o b)
end Dv

namespace Go.Proofs
open Go.RowKit Go.Shelf
theorem cells_new (W : World) (C : Array Value) (t : TypeId) (b : Nat) (hb : b = W.heap.size) (j : Nat) (u : Value) (h : C.toList[j]? = some u) : (W.alloc (.cells C t)).cell? ((⟨b, 0, none⟩ : Addr).add j) = some u := by
  subst hb
  have e : ((⟨W.heap.size, 0, none⟩ : Addr).add j) = ⟨W.heap.size, j, none⟩ := by
    cases j with
    | zero => rfl
    | succ j => simp [Addr.add]
  rw [e]
  simp only [World.cell?, World.alloc_heap_new]
  simpa using h
theorem ownsRow_less {W : World} {n0 n1 : Nat} {e : TypeId} {size : Nat} {v : Value} {k : Nat} {xs : List Value} (h : W.ownsRow n0 e size v k xs) (hn : n1 ≤ n0) : W.ownsRow n1 e size v k xs := by
  refine ⟨h.1, ?_⟩
  rcases h.2 with h | ⟨g, cap, cur, h1, h2, h3⟩
  · exact .inl h
  · exact .inr ⟨g, cap, cur, h1, by omega, h3⟩
theorem ownsRow_apart {W : World} {n0 n1 : Nat} {e1 e2 : TypeId} {s1 s2 : Nat} {v u : Value} {k1 k2 : Nat} {xs ys : List Value} (h : W.ownsRow n0 e1 s1 v k1 xs) (h2 : W.ownsRow n1 e2 s2 u k2 ys) (he : e1 ≠ e2) : v = .slice none 0 0 ∨ v.ownBlock ≠ u.ownBlock := by
  rcases h.2 with ⟨rfl, _⟩ | ⟨g, cap, cur, rfl, _, hg, _⟩
  · exact .inl rfl
  · rcases h2.2 with ⟨rfl, _⟩ | ⟨g2, cap2, cur2, rfl, _, hg2, _⟩
    · exact .inr (by simp [Value.ownBlock])
    · refine .inr fun e => ?_
      obtain rfl : g = g2 := by simpa [Value.ownBlock] using e
      rw [hg] at hg2
      simp at hg2
      exact he hg2.2
theorem box_append {W w3 : World} {n0 B : Nat} {t e : TypeId} {size : Nat} {v v' : Value} {k m : Nat} {xs ys : List Value} {tmp : Obj} (hv : Boxed W B t v) (hte : t ≠ e) (hrow : W.ownsRow n0 e size v k xs) (hn : n0 ≤ W.heap.size) (hB : B < n0)
    (hown : w3.ownsRow n0 e size v' m ys) (hg : (W.alloc tmp).grownBy w3 v.ownBlock) :
    Boxed w3 B t v ∧ Boxed (w3.setCell ⟨B, 0, none⟩ v') B t v' ∧ (w3.setCell ⟨B, 0, none⟩ v').ownsRow n0 e size v' m ys ∧ KeepsOthers W (w3.setCell ⟨B, 0, none⟩ v') ∧ (∀ b, b ≤ B → Below b W (w3.setCell ⟨B, 0, none⟩ v')) ∧
      (∀ j, j < n0 → j ≠ B → (w3.setCell ⟨B, 0, none⟩ v').heap[j]? = W.heap[j]?) ∧
      (∀ (e2 : TypeId) (s2 : Nat) (u : Value) (k2 : Nat) (zs : List Value), W.ownsRow n0 e2 s2 u k2 zs → e2 ≠ e → (w3.setCell ⟨B, 0, none⟩ v').ownsRow n0 e2 s2 u k2 zs) := by
  obtain ⟨a1, a2, a3, a4, a5⟩ := Boxed.appended hv hte (ownsRow_less hrow (Nat.le_of_lt hB)) (by omega) (Nat.le_refl _) (ownsRow_less hown (Nat.le_of_lt hB)) hg
  have ho : ∀ j, j < n0 → w3.heap[j]? = W.heap[j]? := fun j hj => by
    refine (hg.block j (by simp; omega) (fun e => ?_)).trans (Below.heap_alloc _ _ j (by omega))
    have := (Dv.own_ge hrow j e.symm).1
    omega
  refine ⟨a1, a2, ?_, a4, fun b hb => ?_, fun j hj hjB => (Below.heap_setCell _ _ _ j hjB).trans (ho j hj), fun e2 s2 u k2 zs hu he => ?_⟩
  · refine hown.kept (grownBy_setCell' _ _ _) ?_
    rcases hown.2 with ⟨rfl, _⟩ | ⟨g, cap, cur, rfl, hge, _⟩
    · exact .inl rfl
    · refine .inr fun e' => ?_
      have : g = B := by simpa [Value.ownBlock] using e'
      omega
  · exact ⟨a5.os, a5.tape, a5.output, a5.size, fun j hj => (Below.heap_setCell _ _ _ j (by show j ≠ B; omega)).trans (ho j (by omega))⟩
  · have h3 := (hu.alloc tmp).kept hg ((ownsRow_apart (hu.alloc tmp) (hrow.alloc tmp) he).imp (fun h => by rw [h]; rfl) id)
    refine h3.kept (grownBy_setCell' _ _ _) ?_
    rcases h3.2 with ⟨rfl, _⟩ | ⟨g, cap, cur, rfl, hge, _⟩
    · exact .inl rfl
    · refine .inr fun e' => ?_
      have : g = B := by simpa [Value.ownBlock] using e'
      omega
end Go.Proofs
