/- image.Get: its body behind the deferred call's laying, walked. -/
import Derived.Test.YtbhdfmgphcelhaaDoorI3
import Derived.Test.YtbhdfmgphcelhaaDoorI4
import Derived.Test.YtbhdfmgphcelhaaDoorI5
import Derived.Test.YtbhdfmgphcelhaaDoorD4
set_option linter.unusedVariables false
set_option linter.unusedSimpArgs false
namespace Dv
open Go Go.Proofs
open Nat renaming reduceEqDiff → zA, reduceAdd → zB, reduceSub → zC, reduceMul → zD, reduceLT → zE, reduceLeDiff → zF
open Int renaming reduceLE → zG, reduceLT → zH, reduceToNat → zI, reduceBEq → zJ, reduceBNe → zK, reduceEq → zL, reduceAdd → zM, reduceSub → zN, reduceMul → zO, reduceNeg → zP
attribute [local go_sem] argEnv W_nil W_seq W_skip W_ret W_exit W_scope W_block W_blk W_reg W_regD W_cond WC_t WC_f WC_any Wx_c Wx_ops Wx_lp Wx_blk W_ops_nil W_opsD_q W_guard W_guardD WG_tt WG_ff WG_tf WG_ft WG_u WGD_tt WGD_ff WGD_tf WGD_ft WGD_u WE_some WED_some W_mv W_pick W_new W_box W_build W_bsl W_ld1 W_ldn W_st W_nck W_bin W_eqb W_not W_cvt W_fad W_fld1 W_fldn W_ixa W_ixr W_ix1 W_ixs W_len W_lens W_mkf W_ext W_app W_min W_isnp W_isns W_eqs W_neg W_ixn W_sli W_sls WD_mv WD_pick WD_new WD_box WD_build WD_bsl WD_ld1 WD_ldn WD_st WD_nck WD_bin WD_eqb WD_not WD_cvt WD_fad WD_fld1 WD_fldn WD_ixa WD_ixr WD_ix1 WD_ixs WD_len WD_lens WD_mkf WD_ext WD_app WD_min WD_isnp WD_isns WD_eqs WD_neg WD_ixn WD_sli WD_sls effF Opd.ev getE putE binV LV.int LV.bool LV.undef Go.undef LV.cells LV.toD LV.toDs splice fillL rowsOf srcRows updL objL Eff.owned nwp St.get St.obj St.put Value.oneCell' Ends adopt Ad.ap isNil St.keep St.okKeep okObj idl idlL idlO RVs.of RV.of oneOr Ends0 EndsO_iff frzs rn rnL rnO piOf eqCells eqV boundV Option.map_some Option.map_none List.append_nil List.nil_append List.cons_append List.map_nil List.map_cons List.length_nil List.length_cons List.set_cons_zero List.set_cons_succ List.take_succ_cons List.take_zero List.take_nil List.drop_succ_cons List.drop_zero List.drop_nil List.getElem?_cons_zero List.getElem?_cons_succ List.getElem?_nil List.isEmpty_nil List.isEmpty_cons List.all_cons List.all_nil List.isEmpty_nil cond_true cond_false Bool.true_and Bool.false_and Bool.and_true Bool.and_false Bool.not_true Bool.not_false Bool.or_true Bool.true_or Bool.or_false Bool.false_or true_and and_true true_or or_true Option.some.injEq LV.d.injEq DV.val.injEq Value.bool.injEq Value.int.injEq decide_true decide_false and_self Nat.zero_add Nat.add_zero if_true if_false Int.toNat_zero beq_self_eq_true Nat.zero_lt_succ Int.toNat_natCast Int.natCast_nonneg List.length_map i64 bl List.zip_cons_cons List.zip_nil_left List.zip_nil_right nwp confV stateV nodeV jobV nodesV jobsV opV msgV nodeR jobR opR msgR zeroOp zeroMsg msgsV
variable {G : Nat → Option (List DV)}
attribute [local go_sem] rdO intR bytesV byteR u8 numR nilV
attribute [local simp] rdO

def getA : C := (.reg [⟨(some 2), .box 23 (.t 0), none, []⟩, ⟨(some 4), .new 27 [(.val (.slice none 0 0)), (.val (.slice none 0 0)), (.val (.int .i64 0)), (.val (.int .i64 0)), (.val (.int .i64 0)), (.val (.int .i64 0))], none, []⟩, ⟨(some 5), .new 4 [(.val (.bool false))], none, []⟩])
def getB : C := (.seq (.reg [⟨(some 11), .mv (.t 1), none, []⟩, ⟨(some 12), .call (.f 23) [(.t 11), (.c (.val (.int .i64 0))), (.c (.val (.int .i64 400)))], none, []⟩, ⟨(some 10), .mv (.t 12), none, []⟩, ⟨(some 13), .ext (.t 10) 0, none, []⟩, ⟨(some 14), .ext (.t 10) 1, none, []⟩, ⟨(some 15), .ext (.t 10) 2, none, []⟩, ⟨(some 6), .mv (.t 13), none, []⟩, ⟨(some 7), .mv (.t 14), none, []⟩, ⟨(some 8), .mv (.t 15), none, []⟩])
 (.seq (.reg [⟨(some 16), .mv (.t 8), none, []⟩, ⟨(some 17), .mv (.t 16), none, []⟩, ⟨(some 18), .mv (.t 7), (some (17, true)), []⟩, ⟨(some 19), .mv (.t 1), (some (17, true)), []⟩, ⟨(some 20), .len (.t 19), (some (17, true)), []⟩, ⟨(some 21), .bin .eql (.t 18) (.t 20), (some (17, true)), []⟩, ⟨(some 22), .pick (.t 17) (.t 21) (.c (.val (.bool false))), none, []⟩, ⟨(some 23), .call (.f 24) [(.t 22)], none, []⟩])
 (.seq (.reg [⟨(some 24), .mv (.t 6), none, []⟩, ⟨(some 25), .build [(.val (.slice none 0 0))] [(0, 1, (.t 24))], none, []⟩, ⟨(some 26), .box 76 (.t 25), none, []⟩, ⟨(some 27), .call (.f 25) [(.t 26)], none, []⟩, ⟨none, .st 6 (.t 4) (.t 27), none, []⟩])
 (.seq (.reg [⟨(some 28), .ldn 9 (.t 2), none, []⟩, ⟨(some 29), .ldn 6 (.t 4), none, []⟩, ⟨(some 30), .call (.f 5) [(.t 28), (.t 29)], none, []⟩, ⟨(some 31), .call (.f 24) [(.t 30)], none, []⟩])
 (.seq (.reg [⟨(some 32), .ldn 6 (.t 4), none, []⟩, ⟨none, .st 6 (.t 4) (.t 32), none, []⟩, ⟨none, .st 1 (.t 5) (.c (.val (.bool true))), none, []⟩])
 .ret)))))
def headOf : Option Code → Code
  | some (.seq a _) => a
  | _ => .skip
def restOf : Option Code → Code
  | some (.seq _ (.seq _ b)) => b
  | _ => .skip
theorem getA_ok : convC Tryd.prog 33 (headOf Tryd.f11.body) = some getA := by kernel_rfl
theorem getB_ok : convC Tryd.prog 33 (restOf Tryd.f11.body) = some getB := by kernel_rfl

/-- where the body ends well -/
def gFin (c : ConfD) (b : List Int) : Option StateD → St → Prop
  | some s => fun st => st.get 4 = .ptr 1 0 ∧ st.get 5 = .ptr 2 0 ∧ st.obj 2 = .live (.box 4 [.bool true]) ∧ ∃ cells Z, st.obj 1 = .live (.box 27 cells) ∧ cells.length = 6 ∧ (∀ z ∈ Z, ∃ et e rows, st.obj z = .live (.dat et e rows) ∨ st.obj z = .live (.frz et e rows)) ∧ argR st.obj [] Z (.agg cells) (stateV s)
  | none => fun _ => False
/-- where it panics -/
def gPan (st : St) : Prop := st.get PAN = .d (.val noneV) ∧ st.get 4 = .ptr 1 0 ∧ st.get 5 = .ptr 2 0 ∧ ∃ cells x, st.obj 1 = .live (.box 27 cells) ∧ cells.length = 6 ∧ st.obj 2 = .live (.box 4 [x])
def gTail : Option StateD → List It
  | some _ => []
  | none => [.pn gPan]
def getS (c : ConfD) (b : List Int) : St := ⟨[(5, .ptr 2 0), (4, .ptr 1 0), (2, .ptr 0 0), (0, confV c), (1, bytesV b)], [some (.box 23 [.int c.nodes, .int c.queues, .int c.quota, .int c.wave, .int c.lease, .int c.retry, .int c.deadline, .int c.room, .int c.disk]), some (.box 27 [nilV, nilV, .int 0, .int 0, .int 0, .int 0]), some (.box 4 [.bool false])]⟩

theorem get_walk (c : ConfD) (b : List Int) (hb : ∀ x ∈ b, 0 ≤ x ∧ x ≤ 255) (hl : b.length ≤ 1000000) : W Tryd.prog G (gFin c b (getI c b)) (.c getB :: gTail (getI c b)) (getS c b) := by
  generalize hq : getI c b = q
  unfold getI at hq
  simp only [getB, getS, go_sem, ↓reduceIte, zA, zB, zC, zD, zE, zF, reduceCtorEq, zG, zH, zI, zJ, zK, zL, zM, zN, zO, zP]
  cases hL : getL b 0 400 with
  | none =>
    rw [hL] at hq
    subst hq
    refine W_calld (getList_none_tri b hb hl 400 (by decide) hL) rfl rfl rfl rfl ?_
    simp only [gTail, go_sem, ↓reduceIte, zA, zB, zC, zD, zE, zF, reduceCtorEq, zG, zH, zI, zJ, zK, zL, zM, zN, zO, zP]
    refine W_callxd must_triX rfl rfl rfl ?_
    simp only [Wx_c, Wx_ops, Wx_blk, Wx_lp, Wx_pn, PAN, gPan, go_sem, ↓reduceIte, zA, zB, zC, zD, zE, zF, reduceCtorEq, zG, zH, zI, zJ, zK, zL, zM, zN, zO, zP]
    exact ⟨_, _, rfl, rfl, rfl⟩
  | some p =>
  obtain ⟨xs, e⟩ := p
  obtain ⟨h1, h2, h3⟩ := getL_rng (fun c hc => (hb c hc).1) hL
  rw [hL] at hq
  dsimp only at hq
  refine W_calln (getList_tri b hb hl 400 (by decide) xs e hL) rfl rfl rfl ?_
  simp only [go_sem, ↓reduceIte, zA, zB, zC, zD, zE, zF, reduceCtorEq, zG, zH, zI, zJ, zK, zL, zM, zN, zO, zP]
  by_cases he : e = b.length
  case neg =>
    rw [if_neg he] at hq
    subst hq
    have he2 : (((e : Nat) : Int) == ((b.length : Nat) : Int)) = false := by simp; omega
    simp only [gTail, he2, go_sem, ↓reduceIte, zA, zB, zC, zD, zE, zF, reduceCtorEq, zG, zH, zI, zJ, zK, zL, zM, zN, zO, zP]
    refine W_callxd must_triX rfl rfl rfl ?_
    simp only [Wx_c, Wx_ops, Wx_blk, Wx_lp, Wx_pn, PAN, gPan, go_sem, ↓reduceIte, zA, zB, zC, zD, zE, zF, reduceCtorEq, zG, zH, zI, zJ, zK, zL, zM, zN, zO, zP]
    exact ⟨_, _, rfl, rfl, rfl⟩
  rw [if_pos he] at hq
  have he2 : (((e : Nat) : Int) == ((b.length : Nat) : Int)) = true := by simp; omega
  simp only [he2, go_sem, ↓reduceIte, zA, zB, zC, zD, zE, zF, reduceCtorEq, zG, zH, zI, zJ, zK, zL, zM, zN, zO, zP]
  refine W_calld (must_tri) rfl rfl rfl rfl ?_; simp only [go_sem, ↓reduceIte, zA, zB, zC, zD, zE, zF, reduceCtorEq, zG, zH, zI, zJ, zK, zL, zM, zN, zO, zP]
  have h0 : ∀ x ∈ xs, 0 ≤ x := fun x hx => (h2 x hx).1
  cases hp : pState xs with
  | error k =>
    rw [hp] at hq
    dsimp only at hq
    subst hq
    simp only [gTail]
    refine W_callxo [4, 3] (state_triX xs k h1 h0 hp) rfl (by simp only [argRs, argR, List.map_cons, List.map_nil, go_sem, ↓reduceIte, zA, zB, zC, zD, zE, zF, reduceCtorEq, zG, zH, zI, zJ, zK, zL, zM, zN, zO, zP]) (by decide) (by simp only [Nat.sub_zero, go_sem, ↓reduceIte, zA, zB, zC, zD, zE, zF, reduceCtorEq, zG, zH, zI, zJ, zK, zL, zM, zN, zO, zP]) (by simp only [go_sem, ↓reduceIte, zA, zB, zC, zD, zE, zF, reduceCtorEq, zG, zH, zI, zJ, zK, zL, zM, zN, zO, zP, List.all_cons, List.all_nil]) (by simp) ?_
    simp only [Wx_c, Wx_ops, Wx_blk, Wx_lp, Wx_pn, PAN, gPan, go_sem, ↓reduceIte, zA, zB, zC, zD, zE, zF, reduceCtorEq, zG, zH, zI, zJ, zK, zL, zM, zN, zO, zP]
    exact ⟨_, _, rfl, rfl, rfl⟩
  | ok s =>
  rw [hp] at hq
  dsimp only at hq
  refine W_callo [4, 3] (state_tri xs s h1 h0 hp) rfl (by simp only [argRs, argR, List.map_cons, List.map_nil, go_sem, ↓reduceIte, zA, zB, zC, zD, zE, zF, reduceCtorEq, zG, zH, zI, zJ, zK, zL, zM, zN, zO, zP]) (by decide) (by simp only [Nat.sub_zero, go_sem, ↓reduceIte, zA, zB, zC, zD, zE, zF, reduceCtorEq, zG, zH, zI, zJ, zK, zL, zM, zN, zO, zP]) (by simp only [go_sem, ↓reduceIte, zA, zB, zC, zD, zE, zF, reduceCtorEq, zG, zH, zI, zJ, zK, zL, zM, zN, zO, zP, List.all_cons, List.all_nil]) (by simp) ?_
  simp only [go_sem, ↓reduceIte, zA, zB, zC, zD, zE, zF, reduceCtorEq, zG, zH, zI, zJ, zK, zL, zM, zN, zO, zP]
  have ht1 : List.take s.nodes.length (s.nodes.map nodeR) = s.nodes.map nodeR := List.take_of_length_le (by simp)
  have ht2 : List.take s.jobs.length (s.jobs.map jobR) = s.jobs.map jobR := List.take_of_length_le (by simp)
  refine W_callz [5, 6] (right_tri c s) rfl (by simp [argRs, argR, rowsAt, objL, ht1, ht2, go_sem, ↓reduceIte, zA, zB, zC, zD, zE, zF, reduceCtorEq, zG, zH, zI, zJ, zK, zL, zM, zN, zO, zP]) (by simp [objL]) rfl rfl ?_; simp only [go_sem, ↓reduceIte, zA, zB, zC, zD, zE, zF, reduceCtorEq, zG, zH, zI, zJ, zK, zL, zM, zN, zO, zP]
  cases hr : rightB c s with
  | false =>
    rw [hr, if_neg (by decide)] at hq
    subst hq
    simp only [gTail, go_sem, ↓reduceIte, zA, zB, zC, zD, zE, zF, reduceCtorEq, zG, zH, zI, zJ, zK, zL, zM, zN, zO, zP]
    refine W_callxd must_triX rfl rfl rfl ?_
    simp only [Wx_c, Wx_ops, Wx_blk, Wx_lp, Wx_pn, PAN, gPan, go_sem, ↓reduceIte, zA, zB, zC, zD, zE, zF, reduceCtorEq, zG, zH, zI, zJ, zK, zL, zM, zN, zO, zP]
    exact ⟨_, _, rfl, rfl, rfl⟩
  | true =>
    rw [hr, if_pos rfl] at hq
    subst hq
    refine W_calld (must_tri) rfl rfl rfl rfl ?_; simp only [go_sem, ↓reduceIte, zA, zB, zC, zD, zE, zF, reduceCtorEq, zG, zH, zI, zJ, zK, zL, zM, zN, zO, zP]
    simp only [gFin]
    refine ⟨rfl, rfl, rfl, _, [5, 6], rfl, rfl, ?_, ?_⟩
    · intro z hz
      simp only [List.mem_cons, List.not_mem_nil, or_false] at hz
      rcases hz with rfl | rfl
      · exact ⟨_, _, _, .inl rfl⟩
      · exact ⟨_, _, _, .inl rfl⟩
    · simp [St.obj, objL, argR, argRs, rowsAt, LV.int, stateV, nodesV, jobsV, List.take_of_length_le]
end Dv
