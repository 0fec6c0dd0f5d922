/- The logical machine and its plain laws: parts D9, D10, D11, D12, D13, D14, proved sound. -/
import Derived.Test.YtcanhhnmfkdclaaD7
import Derived.Test.YtcanhhnmfkdclaaPA
set_option linter.unusedVariables false
set_option linter.unusedSimpArgs false
namespace Dv
open Go Go.Proofs
variable {G : Nat → Option (List DV)}



@[reducible] def noP : LV := .d (.val (.pointer none))

end Dv

namespace Dv
open Go Go.Proofs
open Nat renaming reduceEqDiff → zA, reduceAdd → zB, reduceSub → zC, reduceMul → zD, reduceLT → zE, reduceLeDiff → zF
open Int renaming reduceLE → zG, reduceLT → zH, reduceToNat → zI, reduceBEq → zJ, reduceBNe → zK, reduceEq → zL, reduceAdd → zM, reduceSub → zN, reduceMul → zO, reduceNeg → zP
attribute [local go_sem] argEnv W_nil W_seq W_skip W_ret W_exit W_scope W_block W_blk W_reg W_regD W_cond WC_t WC_f WC_any Wx_c Wx_ops Wx_lp Wx_blk W_ops_nil W_opsD_q W_guard W_guardD WG_tt WG_ff WG_tf WG_ft WG_u WGD_tt WGD_ff WGD_tf WGD_ft WGD_u WE_some WED_some W_more W_mv W_pick W_new W_box W_build W_bsl W_ld1 W_ldn W_st W_nck W_bin W_eqb W_not W_cvt W_fad W_fld1 W_fldn W_ixa W_ixr W_ix1 W_ixs W_len W_lens W_mkf W_ext W_app W_min W_max W_isnp W_isns W_eqs W_neg W_ixn W_sli W_sls WD_more WD_mv WD_pick WD_new WD_box WD_build WD_bsl WD_ld1 WD_ldn WD_st WD_nck WD_bin WD_eqb WD_not WD_cvt WD_fad WD_fld1 WD_fldn WD_ixa WD_ixr WD_ix1 WD_ixs WD_len WD_lens WD_mkf WD_ext WD_app WD_min WD_max WD_isnp WD_isns WD_eqs WD_neg WD_ixn WD_sli WD_sls effF effM bytesOf Opd.ev getE putE binV LV.int LV.bool LV.undef Go.undef LV.cells LV.toD LV.toDs splice fillL rowsOf boxOf srcRows updL objL Eff.owned nwp St.get St.obj St.put Value.oneCell' Ends adopt Ad.ap isNil St.keep St.okKeep okObj idl idlL idlO RVs.of RV.of oneOr Ends0 EndsO_iff frzs rn rnL rnO piOf eqCells eqV boundV Option.map_some Option.map_none List.append_nil List.nil_append List.cons_append List.map_nil List.map_cons List.length_nil List.length_cons List.set_cons_zero List.set_cons_succ List.take_succ_cons List.take_zero List.take_nil List.drop_succ_cons List.drop_zero List.drop_nil List.getElem?_cons_zero List.getElem?_cons_succ List.getElem?_nil List.isEmpty_nil List.isEmpty_cons List.all_cons List.all_nil List.isEmpty_nil cond_true cond_false Bool.true_and Bool.false_and Bool.and_true Bool.and_false Bool.not_true Bool.not_false Bool.or_true Bool.true_or Bool.or_false Bool.false_or true_and and_true true_or or_true Option.some.injEq LV.d.injEq DV.val.injEq Value.bool.injEq Value.int.injEq decide_true decide_false and_self Nat.zero_add Nat.add_zero if_true if_false Int.toNat_zero beq_self_eq_true Nat.zero_lt_succ Int.toNat_natCast Int.natCast_nonneg List.length_map i64 bl List.zip_cons_cons List.zip_nil_left List.zip_nil_right nwp confV stateV nodeV jobV nodesV jobsV opV msgV nodeR jobR opR msgR zeroOp zeroMsg msgsV
variable {G : Nat → Option (List DV)}

/-- book.Free -/
def ir42 : Nat × C × List RV := (20,
(.seq (.reg [⟨(some 1), .box 37 (.t 0), none, []⟩,
 ⟨(some 2), .mv (.c (.val (.bool false))), none, []⟩])
 (.seq (.reg [⟨(some 3), .fad 0 (.t 1), none, []⟩,
 ⟨(some 4), .ld1 (.t 3), none, []⟩,
 ⟨(some 5), .mv (.t 4), none, []⟩,
 ⟨(some 6), .fad 1 (.t 1), (some (5, true)), []⟩,
 ⟨(some 7), .ld1 (.t 6), (some (5, true)), []⟩,
 ⟨(some 8), .not (.t 7), (some (5, true)), []⟩,
 ⟨(some 9), .pick (.t 5) (.t 8) (.c (.val (.bool false))), none, []⟩,
 ⟨(some 10), .mv (.t 9), none, []⟩,
 ⟨(some 11), .fad 2 (.t 1), (some (10, true)), []⟩,
 ⟨(some 12), .ld1 (.t 11), (some (10, true)), []⟩,
 ⟨(some 13), .not (.t 12), (some (10, true)), []⟩,
 ⟨(some 14), .pick (.t 10) (.t 13) (.c (.val (.bool false))), none, []⟩,
 ⟨(some 15), .mv (.t 14), none, []⟩,
 ⟨(some 16), .fad 4 (.t 1), (some (15, true)), []⟩,
 ⟨(some 17), .ld1 (.t 16), (some (15, true)), []⟩,
 ⟨(some 18), .bin .eql (.t 17) (.c (.val (.int .i64 0))), (some (15, true)), []⟩,
 ⟨(some 19), .pick (.t 15) (.t 18) (.c (.val (.bool false))), none, []⟩,
 ⟨(some 2), .mv (.t 19), none, []⟩])
 .ret)),
[(.t 2)])
theorem irOk42 : convFn Try.prog Try.f42 = some ir42 := by kernel_rfl


def fitsS0 (s : StateD) (j : JobD) (nodes : Int) (f : Nat) (kv : Nat × Int) : St := ⟨[(2, .int nodes), (3, .fn (.func f) [] []), (9, .int kv.2), (36, nodesV s.nodes), (37, .int s.nodes.length), (38, .int kv.1)], [some (.box 27 [nodesV s.nodes, jobsV s.jobs, .int s.goal, .int s.prior, .int s.mode, .int s.term]), some (.box 39 [.int j.queue, .int j.prio, .int j.min, .int j.max, .int j.work, .int j.pin, .int j.phase, .int j.inc, .int j.nodes, .int j.since, .int j.til, .int j.epoch])]⟩
theorem fits0_tri (s : StateD) (j : JobD) (nodes : Int) (f : Nat) (takes : NodeD → Bool) (hn : s.nodes.length ≤ 6) (hT : ∀ n, Tri Try.prog G f [nodeV n] [] (.bool (takes n)) []) :
    Tri Try.prog G 34 [stateV s, jobV j, .int nodes, .fn (.func f) [] []] [] (.bool (fitsB s.nodes j nodes takes)) [] := by
  refine tri_W0 Try.func34 (by decide) irOk34 (Nat.le_of_ble_eq_true rfl) rfl ?_
  have hp : (2 : Int) ^ s.nodes.length ≤ 64 ∧ 1 ≤ (2 : Int) ^ s.nodes.length := by
    have : s.nodes.length = 0 ∨ s.nodes.length = 1 ∨ s.nodes.length = 2 ∨ s.nodes.length = 3 ∨ s.nodes.length = 4 ∨ s.nodes.length = 5 ∨ s.nodes.length = 6 := by omega
    rcases this with h | h | h | h | h | h | h <;> rw [h] <;> decide
  have hw := shl_one s.nodes.length hn
  simp only [ir34, go_sem, ↓reduceIte, zA, zB, zC, zD, zE, zF, reduceCtorEq, zG, zH, zI, zJ, zK, zL, zM, zN, zO, zP, hw]
  unfold fitsB
  have none : ∀ {x y : Prop} [Decidable x] [Decidable y] {b : Bool}, x ∨ y → (if x ∨ y then false else b) = false := fun h => by rw [if_pos h]
  refine WGD_split (fun h1 => ?_) (fun h1 => ?_) <;> simp only [h1, go_sem, ↓reduceIte, zA, zB, zC, zD, zE, zF, reduceCtorEq, zG, zH, zI, zJ, zK, zL, zM, zN, zO, zP] <;> (try simp only [beq_iff_eq, beq_eq_false_iff_ne, bne_iff_ne, ne_eq, decide_eq_true_eq, decide_eq_false_iff_not, Bool.not_true, Bool.not_false, Bool.not_eq_true, Bool.not_eq_false, bne_eq_false_iff_eq, Decidable.not_not] at h1)
  · simp only [hw]
    refine WGD_split (fun h2 => ?_) (fun h2 => ?_) <;> simp only [h2, go_sem, ↓reduceIte, zA, zB, zC, zD, zE, zF, reduceCtorEq, zG, zH, zI, zJ, zK, zL, zM, zN, zO, zP] <;> (try simp only [beq_iff_eq, beq_eq_false_iff_ne, bne_iff_ne, ne_eq, decide_eq_true_eq, decide_eq_false_iff_not, Bool.not_true, Bool.not_false, Bool.not_eq_true, Bool.not_eq_false, bne_eq_false_iff_eq, Decidable.not_not] at h2)
    · obtain ⟨m, rfl⟩ := Int.eq_ofNat_of_zero_le (show 0 ≤ nodes by omega)
      have hm : m < 64 := by omega
      have hwu : IntKind.u64.wrap (m : Int) = m := by simp [IntKind.wrap, IntKind.bits, IntKind.signed]; omega
      rw [if_neg (by omega)]
      simp only [hwu]
      refine WD_calld (ones_tri m hm) rfl rfl rfl rfl ?_; simp only [go_sem, ↓reduceIte, zA, zB, zC, zD, zE, zF, reduceCtorEq, zG, zH, zI, zJ, zK, zL, zM, zN, zO, zP]
      refine WD_calld (within_tri _ _ _) rfl rfl rfl rfl ?_; simp only [go_sem, ↓reduceIte, zA, zB, zC, zD, zE, zF, reduceCtorEq, zG, zH, zI, zJ, zK, zL, zM, zN, zO, zP]
      cases hb : withinB (many m) j.min j.max with
      | false => simp only [go_sem, ↓reduceIte, zA, zB, zC, zD, zE, zF, reduceCtorEq, zG, zH, zI, zJ, zK, zL, zM, zN, zO, zP]
      | true =>
        simp only [go_sem, ↓reduceIte, zA, zB, zC, zD, zE, zF, reduceCtorEq, zG, zH, zI, zJ, zK, zL, zM, zN, zO, zP]
        generalize hF0 : fitsLoop m takes s.nodes 0 j.pin = r
        refine W_loopI [2, 3, 9, 36, 37, 38] [] (fun kv : Nat × Int => kv.1 ≤ s.nodes.length ∧ fitsLoop m takes (s.nodes.drop kv.1) kv.1 kv.2 = r) (fun kv => s.nodes.length - kv.1) (fitsS0 s j m f) (0, j.pin) ?_ ⟨Nat.zero_le _, hF0⟩ ?_
        · simp only [fitsS0, go_sem, ↓reduceIte, zA, zB, zC, zD, zE, zF, reduceCtorEq, zG, zH, zI, zJ, zK, zL, zM, zN, zO, zP, Int.natCast_zero]
        rintro ⟨k, v⟩ ⟨hk, hF⟩
        dsimp only at hk hF
        simp only [fitsS0, go_sem, ↓reduceIte, zA, zB, zC, zD, zE, zF, reduceCtorEq, zG, zH, zI, zJ, zK, zL, zM, zN, zO, zP]
        refine WC_split (fun h => ?_) (fun h => ?_)
        · have h := lt_of_dec h
          rw [List.drop_eq_getElem_cons h] at hF
          unfold fitsLoop at hF
          simp only [get_map h, go_sem, ↓reduceIte, zA, zB, zC, zD, zE, zF, reduceCtorEq, zG, zH, zI, zJ, zK, zL, zM, zN, zO, zP, bit_eq0 (m : Int) k (by omega)]
          have go : ∀ v', fitsLoop m takes (s.nodes.drop (k + 1)) (k + 1) v' = r → (k + 1, v').1 ≤ s.nodes.length ∧ fitsLoop m takes (s.nodes.drop (k + 1, v').1) (k + 1, v').1 (k + 1, v').2 = r := fun v' h' => ⟨h, h'⟩
          cases hb1 : hasB (m : Int) k with
          | false =>
            rw [if_pos hb1] at hF
            simp only [go_sem, ↓reduceIte, zA, zB, zC, zD, zE, zF, reduceCtorEq, zG, zH, zI, zJ, zK, zL, zM, zN, zO, zP]
            refine W_lpI (k + 1, v) ?_ ?_ (go _ hF) (by dsimp only; omega)
            · simp only [go_sem, ↓reduceIte, zA, zB, zC, zD, zE, zF, reduceCtorEq, zG, zH, zI, zJ, zK, zL, zM, zN, zO, zP]
            · simp only [fitsS0, go_sem, ↓reduceIte, zA, zB, zC, zD, zE, zF, reduceCtorEq, zG, zH, zI, zJ, zK, zL, zM, zN, zO, zP, wrap_succ (show k < 9223372036854775807 by omega)]
          | true =>
            rw [if_neg (by simp [hb1])] at hF
            simp only [go_sem, ↓reduceIte, zA, zB, zC, zD, zE, zF, reduceCtorEq, zG, zH, zI, zJ, zK, zL, zM, zN, zO, zP]
            refine WC_split (fun hv => ?_) (fun hv => ?_) <;> simp only [hv, go_sem, ↓reduceIte, zA, zB, zC, zD, zE, zF, reduceCtorEq, zG, zH, zI, zJ, zK, zL, zM, zN, zO, zP] <;> (try simp only [beq_iff_eq, beq_eq_false_iff_ne, bne_iff_ne, ne_eq, decide_eq_true_eq, decide_eq_false_iff_not, Bool.not_true, Bool.not_false, Bool.not_eq_true, Bool.not_eq_false, bne_eq_false_iff_eq, Decidable.not_not] at hv)
            · rw [if_pos hv] at hF
              refine W_calld (hT s.nodes[k]) rfl rfl rfl rfl ?_; simp only [go_sem, ↓reduceIte, zA, zB, zC, zD, zE, zF, reduceCtorEq, zG, zH, zI, zJ, zK, zL, zM, zN, zO, zP]
              cases ht : takes s.nodes[k] with
              | false =>
                rw [if_neg (by simp [ht])] at hF
                simp only [go_sem, ↓reduceIte, zA, zB, zC, zD, zE, zF, reduceCtorEq, zG, zH, zI, zJ, zK, zL, zM, zN, zO, zP, ← hF]
              | true =>
                by_cases hq : s.nodes[k].version = s.nodes[k].version
                · rw [if_pos ⟨ht, hq⟩] at hF
                  have hq1 : (s.nodes[k].version != s.nodes[k].version) = false := by simp [← hq]
                  simp only [go_sem, ↓reduceIte, zA, zB, zC, zD, zE, zF, reduceCtorEq, zG, zH, zI, zJ, zK, zL, zM, zN, zO, zP, hq1]
                  refine W_lpI (k + 1, s.nodes[k].version) ?_ ?_ (go _ hF) (by dsimp only; omega)
                  · simp only [go_sem, ↓reduceIte, zA, zB, zC, zD, zE, zF, reduceCtorEq, zG, zH, zI, zJ, zK, zL, zM, zN, zO, zP]
                  · simp only [fitsS0, go_sem, ↓reduceIte, zA, zB, zC, zD, zE, zF, reduceCtorEq, zG, zH, zI, zJ, zK, zL, zM, zN, zO, zP, wrap_succ (show k < 9223372036854775807 by omega)]
                · rw [if_neg (fun h' => hq h'.2)] at hF
                  have hq1 : (s.nodes[k].version != s.nodes[k].version) = true := bne_iff_ne.2 hq
                  simp only [go_sem, ↓reduceIte, zA, zB, zC, zD, zE, zF, reduceCtorEq, zG, zH, zI, zJ, zK, zL, zM, zN, zO, zP, hq1, ← hF]
            · rw [if_neg hv] at hF
              refine W_calld (hT s.nodes[k]) rfl rfl rfl rfl ?_; simp only [go_sem, ↓reduceIte, zA, zB, zC, zD, zE, zF, reduceCtorEq, zG, zH, zI, zJ, zK, zL, zM, zN, zO, zP]
              cases ht : takes s.nodes[k] with
              | false =>
                rw [if_neg (by simp [ht])] at hF
                simp only [go_sem, ↓reduceIte, zA, zB, zC, zD, zE, zF, reduceCtorEq, zG, zH, zI, zJ, zK, zL, zM, zN, zO, zP, ← hF]
              | true =>
                by_cases hq : s.nodes[k].version = v
                · rw [if_pos ⟨ht, hq⟩] at hF
                  have hq1 : (s.nodes[k].version != v) = false := by simp [← hq]
                  simp only [go_sem, ↓reduceIte, zA, zB, zC, zD, zE, zF, reduceCtorEq, zG, zH, zI, zJ, zK, zL, zM, zN, zO, zP, hq1]
                  refine W_lpI (k + 1, v) ?_ ?_ (go _ hF) (by dsimp only; omega)
                  · simp only [go_sem, ↓reduceIte, zA, zB, zC, zD, zE, zF, reduceCtorEq, zG, zH, zI, zJ, zK, zL, zM, zN, zO, zP]
                  · simp only [fitsS0, go_sem, ↓reduceIte, zA, zB, zC, zD, zE, zF, reduceCtorEq, zG, zH, zI, zJ, zK, zL, zM, zN, zO, zP, wrap_succ (show k < 9223372036854775807 by omega)]
                · rw [if_neg (fun h' => hq h'.2)] at hF
                  have hq1 : (s.nodes[k].version != v) = true := bne_iff_ne.2 hq
                  simp only [go_sem, ↓reduceIte, zA, zB, zC, zD, zE, zF, reduceCtorEq, zG, zH, zI, zJ, zK, zL, zM, zN, zO, zP, hq1, ← hF]
        · obtain rfl := eq_of_dec h hk
          rw [List.drop_length] at hF
          simp only [go_sem, ↓reduceIte, zA, zB, zC, zD, zE, zF, reduceCtorEq, zG, zH, zI, zJ, zK, zL, zM, zN, zO, zP, ← hF, fitsLoop]
    · rw [if_pos (.inr h2)]
  · rw [if_pos (.inl h1)]

theorem free_tri (n : NodeD) : Tri Try.prog G 42 [nodeV n] [] (.bool (freeB n)) [] := by
  refine tri_W0 Try.func42 (by decide) irOk42 (Nat.le_of_ble_eq_true rfl) rfl ?_
  simp only [ir42, go_sem, ↓reduceIte, zA, zB, zC, zD, zE, zF, reduceCtorEq, zG, zH, zI, zJ, zK, zL, zM, zN, zO, zP]
  unfold freeB
  cases h1 : n.up <;> cases h2 : n.cordon <;> cases h3 : n.moving <;> simp only [h1, h2, h3, go_sem, ↓reduceIte, zA, zB, zC, zD, zE, zF, reduceCtorEq, zG, zH, zI, zJ, zK, zL, zM, zN, zO, zP] <;> rfl

section
variable (c : ConfD) (s : StateD) (o : OpD) (i : Nat) (hi : i < s.nodes.length) (ha : o.a = i)
include hi ha
end
end Dv

namespace Dv
open Go Go.Proofs
variable {G : Nat → Option (List DV)}

end Dv

namespace Dv
open Go Go.Proofs
variable {G : Nat → Option (List DV)}



theorem less_eq (m b : Nat) (hm : m < 64) (hb : b < 6) : andNotI .i64 (m : Int) (2 ^ b) = lessD m b := by
  have : ∀ m : Nat, m < 64 → ∀ b : Nat, b < 6 → andNotI .i64 (m : Int) (2 ^ b) = lessD m b := by decide +kernel
  exact this m hm b hb
end Dv

namespace Dv
open Go Go.Proofs
variable {G : Nat → Option (List DV)}



def numsL (o : OpD) : List Int := [o.a, o.b, o.c, o.d, o.e, o.f]
def opOkL (m : Nat) : List Int → Nat → Bool
  | [], _ => true
  | n :: l, i => numOk n (decide (i < m)) && opOkL m l (i + 1)
theorem opOkB_eq (o : OpD) : opOkB o = (decide (1 ≤ o.kind ∧ o.kind ≤ 21) && opOkL (manyK o.kind) (numsL o) 0) := by
  unfold opOkB numsL
  simp only [opOkL, Bool.and_true, Bool.and_assoc]
/-- the package's tables -/
def manyL : List Int := [0, 6, 1, 1, 0, 0, 0, 1, 2, 2, 2, 1, 2, 2, 1, 1, 1, 1, 1, 2, 2, 0]
def namesL : List ByteArray := [⟨#[]⟩, ⟨#[115, 117, 98, 109, 105, 116]⟩, ⟨#[99, 97, 110, 99, 101, 108]⟩, ⟨#[116, 97, 114, 103, 101, 116]⟩, ⟨#[112, 97, 117, 115, 101]⟩, ⟨#[114, 101, 115, 117, 109, 101]⟩, ⟨#[97, 98, 111, 114, 116]⟩, ⟨#[100, 111, 119, 110]⟩, ⟨#[117, 112]⟩, ⟨#[104, 111, 108, 100]⟩, ⟨#[115, 116, 97, 114, 116]⟩, ⟨#[117, 110, 104, 111, 108, 100]⟩, ⟨#[100, 114, 97, 105, 110]⟩, ⟨#[115, 97, 118, 101, 100]⟩, ⟨#[101, 118, 105, 99, 116]⟩, ⟨#[100, 111, 110, 101]⟩, ⟨#[99, 111, 114, 100, 111, 110]⟩, ⟨#[117, 110, 99, 111, 114, 100, 111, 110]⟩, ⟨#[109, 111, 118, 101]⟩, ⟨#[109, 111, 118, 101, 100]⟩, ⟨#[115, 104, 114, 105, 110, 107]⟩, ⟨#[110, 101, 119, 116, 101, 114, 109]⟩]
def manyR : List DV := manyL.map i64
def namesR : List DV := namesL.map fun s => .val (.string s)
theorem many_at (k : Int) (h : 1 ≤ k ∧ k ≤ 21) : manyR[k.toNat]? = some (i64 (manyK k : Nat)) := by
  have h : k = 1 ∨ k = 2 ∨ k = 3 ∨ k = 4 ∨ k = 5 ∨ k = 6 ∨ k = 7 ∨ k = 8 ∨ k = 9 ∨ k = 10 ∨ k = 11 ∨ k = 12 ∨ k = 13 ∨ k = 14 ∨ k = 15 ∨ k = 16 ∨ k = 17 ∨ k = 18 ∨ k = 19 ∨ k = 20 ∨ k = 21 := by omega
  rcases h with h | h | h | h | h | h | h | h | h | h | h | h | h | h | h | h | h | h | h | h | h <;> subst h <;> rfl
def nameOf (k : Int) : ByteArray := if 1 ≤ k ∧ k ≤ 21 then namesL.getD k.toNat ⟨#[]⟩ else ⟨#[]⟩
theorem name_at (k : Int) (h : 0 ≤ k ∧ k ≤ 21) : namesR[k.toNat]? = some (.val (.string (nameOf k))) := by
  have h : k = 0 ∨ k = 1 ∨ k = 2 ∨ k = 3 ∨ k = 4 ∨ k = 5 ∨ k = 6 ∨ k = 7 ∨ k = 8 ∨ k = 9 ∨ k = 10 ∨ k = 11 ∨ k = 12 ∨ k = 13 ∨ k = 14 ∨ k = 15 ∨ k = 16 ∨ k = 17 ∨ k = 18 ∨ k = 19 ∨ k = 20 ∨ k = 21 := by omega
  rcases h with h | h | h | h | h | h | h | h | h | h | h | h | h | h | h | h | h | h | h | h | h | h <;> subst h <;> rfl
theorem name_none (k : Int) (h : ¬ (1 ≤ k ∧ k ≤ 21)) : nameOf k = ⟨#[]⟩ := by unfold nameOf; rw [if_neg h]
theorem name_some (k : Int) (h : 1 ≤ k ∧ k ≤ 21) : ((nameOf k).toList == (⟨#[]⟩ : ByteArray).toList) = false := by
  have h : k = 1 ∨ k = 2 ∨ k = 3 ∨ k = 4 ∨ k = 5 ∨ k = 6 ∨ k = 7 ∨ k = 8 ∨ k = 9 ∨ k = 10 ∨ k = 11 ∨ k = 12 ∨ k = 13 ∨ k = 14 ∨ k = 15 ∨ k = 16 ∨ k = 17 ∨ k = 18 ∨ k = 19 ∨ k = 20 ∨ k = 21 := by omega
  rcases h with h | h | h | h | h | h | h | h | h | h | h | h | h | h | h | h | h | h | h | h | h <;> subst h <;> decide +kernel

theorem numOk_eq (n : Int) (k m : Nat) : numOk n (decide (k < m)) = !(decide (n < 0) || decide (n > 1000000) || (decide ((k : Int) ≥ (m : Int)) && (n != 0))) := by
  unfold numOk
  rw [Bool.eq_iff_iff]
  by_cases h4 : n = 0
  · subst h4; simp
  · have e : (n != 0) = true := by simpa using h4
    simp only [e, h4, Bool.and_eq_true, Bool.or_eq_true, decide_eq_true_eq, Bool.not_eq_true', Bool.or_eq_false_iff, Bool.and_eq_false_iff, decide_eq_false_iff_not, decide_false, Bool.or_false, Bool.and_true]
    omega
/-! the document's -/
def numsR (o : OpD) : List (List DV) := (numsL o).map fun n => [i64 n]
def deedV (f : Option Nat) (j n : Bool) : List LV := [match f with | some k => .d (.fn (.func k) [] []) | none => .d (.val .nilFunc), .bool j, .bool n]
end Dv

namespace Dv
open Go Go.Proofs
variable {G : Nat → Option (List DV)}



theorem app_none {c : ConfD} {s : StateD} {o : OpD} (hr : rightB c s = true) (h : opOkB o = true) (h1 : jobK o.kind = false) (h2 : nodeK o.kind = false) : applyD c s o = deedD c s o := by
  unfold applyD appD
  rw [if_neg (by simp [hr]), if_neg (by simp [h]), if_neg (by simp [h1]), if_neg (by simp [h2])]
theorem app_job {c : ConfD} {s : StateD} {o : OpD} (hr : rightB c s = true) (h : opOkB o = true) (h1 : jobK o.kind = true) (h2 : nodeK o.kind = false) : applyD c s o = if o.a < 1 ∨ (s.jobs.length : Int) < o.a then (s, 4) else deedD c s o := by
  unfold applyD appD
  rw [if_neg (by simp [hr]), if_neg (by simp [h])]
  by_cases hq : o.a < 1 ∨ (s.jobs.length : Int) < o.a
  · rw [if_pos ⟨h1, hq⟩, if_pos hq]
  · rw [if_neg (fun h => hq h.2), if_neg (by simp [h2]), if_neg hq]
theorem app_node {c : ConfD} {s : StateD} {o : OpD} (hr : rightB c s = true) (h : opOkB o = true) (h1 : jobK o.kind = false) (h2 : nodeK o.kind = true) : applyD c s o = if (s.nodes.length : Int) ≤ o.a then (s, 4) else deedD c s o := by
  unfold applyD appD
  rw [if_neg (by simp [hr]), if_neg (by simp [h]), if_neg (by simp [h1])]
  by_cases hq : (s.nodes.length : Int) ≤ o.a
  · rw [if_pos ⟨h2, hq⟩, if_pos hq]
  · rw [if_neg (fun h => hq h.2), if_neg hq]
def ErrSame (s : StateD) (p : StateD × Int) : Prop := p.2 ≠ 0 → p.1 = s
theorem err_ite {s : StateD} {P : Prop} [Decidable P] {a b : StateD × Int} (h1 : ErrSame s a) (h2 : ErrSame s b) : ErrSame s (if P then a else b) := by
  split
  · exact h1
  · exact h2
theorem err_same (s : StateD) (e : Int) : ErrSame s (s, e) := fun _ => rfl
theorem err_ok (s t : StateD) : ErrSame s (t, 0) := fun h => absurd rfl h
/-- an error leaves the state as it was -/
theorem deed_err (c : ConfD) (s : StateD) (o : OpD) : ErrSame s (deedD c s o) := by
  unfold deedD submitD cancelD targetD turnD downD upD holdD startD unholdD drainD savedD evictD doneD cordonD uncordonD moveD movedD shrinkD newtermD
  repeat' (first | exact err_same _ _ | exact err_ok _ _ | apply err_ite)
theorem opOk_nums {o : OpD} (h : opOkB o = true) : (1 ≤ o.kind ∧ o.kind ≤ 21) ∧ (0 ≤ o.a ∧ o.a ≤ 1000000) ∧ (0 ≤ o.b ∧ o.b ≤ 1000000) := by
  unfold opOkB numOk at h
  simp only [Bool.and_eq_true, decide_eq_true_eq] at h
  exact ⟨h.1.1.1.1.1.1, h.1.1.1.1.1.2.1, h.1.1.1.1.2.1⟩

end Dv
