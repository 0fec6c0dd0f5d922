/- The logical machine and its plain laws: parts T4, T5, T6, T7, proved sound. -/
import Derived.Test.YtcanhhnmfkdclaaGreatDoorSR
import Derived.Test.YtcanhhnmfkdclaaGreatDoorQA
import Derived.Test.YtcanhhnmfkdclaaGreatDoorTA
import Derived.Test.YtcanhhnmfkdclaaGreatDoorVD
set_option linter.unusedVariables false
set_option linter.unusedSimpArgs false
namespace Dv
open Go Go.Proofs Go.Sort Go.Shelf
open Nat renaming reduceEqDiff → zA, reduceAdd → zB, reduceSub → zC, reduceMul → zD, reduceLT → zE, reduceLeDiff → zF
open Int renaming reduceLE → zG, reduceLT → zH, reduceToNat → zI, reduceBEq → zJ, reduceBNe → zK, reduceEq → zL, reduceAdd → zM, reduceSub → zN, reduceMul → zO, reduceNeg → zP
attribute [local go_sem] argEnv W_nil W_seq W_skip W_ret W_exit W_scope W_block W_blk W_reg W_regD W_cond WC_t WC_f WC_any Wx_c Wx_ops Wx_lp Wx_blk W_ops_nil W_opsD_q W_guard W_guardD WG_tt WG_ff WG_tf WG_ft WG_u WGD_tt WGD_ff WGD_tf WGD_ft WGD_u WE_some WED_some W_more W_mv W_pick W_new W_box W_build W_bsl W_ld1 W_ldn W_st W_nck W_bin W_eqb W_not W_cvt W_fad W_fld1 W_fldn W_ixa W_ixr W_ix1 W_ixs W_len W_lens W_mkf W_ext W_app W_min W_max W_isnp W_isns W_eqs W_neg W_ixn W_sli W_sls WD_more WD_mv WD_pick WD_new WD_box WD_build WD_bsl WD_ld1 WD_ldn WD_st WD_nck WD_bin WD_eqb WD_not WD_cvt WD_fad WD_fld1 WD_fldn WD_ixa WD_ixr WD_ix1 WD_ixs WD_len WD_lens WD_mkf WD_ext WD_app WD_min WD_max WD_isnp WD_isns WD_eqs WD_neg WD_ixn WD_sli WD_sls effF effM bytesOf Opd.ev getE putE binV LV.int LV.bool LV.undef Go.undef LV.cells LV.toD LV.toDs splice fillL rowsOf boxOf srcRows updL objL Eff.owned nwp St.get St.obj St.put Value.oneCell' Ends adopt Ad.ap isNil St.keep St.okKeep okObj idl idlL idlO RVs.of RV.of oneOr Ends0 EndsO_iff frzs rn rnL rnO piOf eqCells eqV boundV Option.map_some Option.map_none List.append_nil List.nil_append List.cons_append List.map_nil List.map_cons List.length_nil List.length_cons List.set_cons_zero List.set_cons_succ List.take_succ_cons List.take_zero List.take_nil List.drop_succ_cons List.drop_zero List.drop_nil List.getElem?_cons_zero List.getElem?_cons_succ List.getElem?_nil List.isEmpty_nil List.isEmpty_cons List.all_cons List.all_nil List.isEmpty_nil cond_true cond_false Bool.true_and Bool.false_and Bool.and_true Bool.and_false Bool.not_true Bool.not_false Bool.or_true Bool.true_or Bool.or_false Bool.false_or true_and and_true true_or or_true Option.some.injEq LV.d.injEq DV.val.injEq Value.bool.injEq Value.int.injEq decide_true decide_false and_self Nat.zero_add Nat.add_zero if_true if_false Int.toNat_zero beq_self_eq_true Nat.zero_lt_succ Int.toNat_natCast Int.natCast_nonneg List.length_map i64 bl List.zip_cons_cons List.zip_nil_left List.zip_nil_right nwp confV stateV nodeV jobV nodesV jobsV opV msgV nodeR jobR opR msgR zeroOp zeroMsg msgsV
variable {G : Nat → Option (List DV)}

/-- rank.order -/
def ir81 : Nat × C × List RV := (34,
(.seq (.reg [⟨some 3,.box 27 (.t 0),none,[]⟩,
 ⟨some 6,.mv (.c (.val (.int .i64 0))),none,[]⟩])
 (.seq (.regD [⟨some 9,.fad 1 (.t 3),none,[]⟩,
 ⟨some 10,.ld1 (.t 9),none,[0]⟩,
 ⟨some 11,.mv (.t 1),none,[]⟩,
 ⟨some 12,.bin .sub (.t 11) (.c (.val (.int .i64 1))),none,[2]⟩,
 ⟨some 13,.ixa 12 (.t 10) (.t 12),none,[1,0,3,2]⟩,
 ⟨some 14,.ldn 12 (.t 13),none,[4,1,0,3,2]⟩,
 ⟨some 15,.fad 1 (.t 3),none,[]⟩,
 ⟨some 16,.ld1 (.t 15),none,[6]⟩,
 ⟨some 17,.mv (.t 2),none,[]⟩,
 ⟨some 18,.bin .sub (.t 17) (.c (.val (.int .i64 1))),none,[8]⟩,
 ⟨some 19,.ixa 12 (.t 16) (.t 18),none,[7,6,9,8]⟩,
 ⟨some 20,.ldn 12 (.t 19),none,[10,7,6,9,8]⟩,
 ⟨some 7,.new 47 [(.val (.int .i64 0)),(.val (.int .i64 0)),(.val (.int .i64 0)),(.val (.int .i64 0)),(.val (.int .i64 0)),(.val (.int .i64 0)),(.val (.int .i64 0)),(.val (.int .i64 0)),(.val (.int .i64 0)),(.val (.int .i64 0)),(.val (.int .i64 0)),(.val (.int .i64 0))],none,[]⟩,
 ⟨some 8,.new 47 [(.val (.int .i64 0)),(.val (.int .i64 0)),(.val (.int .i64 0)),(.val (.int .i64 0)),(.val (.int .i64 0)),(.val (.int .i64 0)),(.val (.int .i64 0)),(.val (.int .i64 0)),(.val (.int .i64 0)),(.val (.int .i64 0)),(.val (.int .i64 0)),(.val (.int .i64 0))],none,[]⟩,
 ⟨none,.st 12 (.t 7) (.t 14),none,[12,5,4,1,0,3,2,13]⟩,
 ⟨none,.st 12 (.t 8) (.t 20),none,[13,11,10,7,6,9,8,14,12,5,4,1,0,3,2]⟩])
 (.seq (.seq (.reg [⟨some 21,.fad 1 (.t 7),none,[]⟩,
 ⟨some 22,.ld1 (.t 21),none,[]⟩,
 ⟨some 23,.fad 1 (.t 8),none,[]⟩,
 ⟨some 24,.ld1 (.t 23),none,[]⟩,
 ⟨some 25,.bin .neq (.t 22) (.t 24),none,[]⟩])
 (.cond (.t 25) (.seq (.reg [⟨some 26,.fad 1 (.t 8),none,[]⟩,
 ⟨some 27,.ld1 (.t 26),none,[]⟩,
 ⟨some 28,.fad 1 (.t 7),none,[]⟩,
 ⟨some 29,.ld1 (.t 28),none,[]⟩,
 ⟨some 30,.bin .sub (.t 27) (.t 29),none,[]⟩,
 ⟨some 6,.mv (.t 30),none,[]⟩])
 .ret)
 .skip))
 (.seq (.reg [⟨some 31,.mv (.t 1),none,[]⟩,
 ⟨some 32,.mv (.t 2),none,[]⟩,
 ⟨some 33,.bin .sub (.t 31) (.t 32),none,[]⟩,
 ⟨some 6,.mv (.t 33),none,[]⟩])
 .ret)))),
[(.t 6)])
theorem irOk81 : convFn Tryz.prog Tryz.f81 = some ir81 := by kernel_rfl
/-- rank.Line -/
def ir61 : Nat × C × List RV := (27,
(.seq (.reg [⟨some 1,.box 27 (.t 0),none,[]⟩,
 ⟨some 2,.mv (.c (.val (.slice none 0 0))),none,[]⟩])
 (.seq (.reg [⟨some 3,.mv (.c (.val (.slice none 0 0))),none,[]⟩])
 (.seq (.seq (.reg [⟨some 6,.fad 1 (.t 1),none,[]⟩,
 ⟨some 7,.ld1 (.t 6),none,[]⟩,
 ⟨some 8,.len (.t 7),none,[]⟩,
 ⟨some 9,.mv (.c (.val (.int .i64 0))),none,[]⟩])
 (.block 0 (.loop (.seq (.reg [⟨some 10,.bin .lss (.t 9) (.t 8),none,[]⟩])
 (.seq (.cond (.t 10) .skip
 (.exit 0))
 (.seq (.block 1 (.seq (.reg [⟨some 11,.mv (.t 9),none,[]⟩,
 ⟨some 12,.ixa 12 (.t 7) (.t 9),none,[]⟩,
 ⟨some 13,.ldn 12 (.t 12),none,[]⟩,
 ⟨some 5,.new 47 [(.val (.int .i64 0)),(.val (.int .i64 0)),(.val (.int .i64 0)),(.val (.int .i64 0)),(.val (.int .i64 0)),(.val (.int .i64 0)),(.val (.int .i64 0)),(.val (.int .i64 0)),(.val (.int .i64 0)),(.val (.int .i64 0)),(.val (.int .i64 0)),(.val (.int .i64 0))],none,[]⟩,
 ⟨some 4,.mv (.t 11),none,[]⟩,
 ⟨none,.st 12 (.t 5) (.t 13),none,[]⟩])
 (.seq (.reg [⟨some 14,.fad 6 (.t 5),none,[]⟩,
 ⟨some 15,.ld1 (.t 14),none,[]⟩,
 ⟨some 16,.bin .eql (.t 15) (.c (.val (.int .i64 0))),none,[]⟩])
 (.cond (.t 16) (.reg [⟨some 17,.mv (.t 3),none,[]⟩,
 ⟨some 18,.mv (.t 4),none,[]⟩,
 ⟨some 19,.bin .add (.t 18) (.c (.val (.int .i64 1))),none,[]⟩,
 ⟨some 20,.bsl 3 1 [(.t 19)],none,[]⟩,
 ⟨some 21,.app 3 1 8 (.t 17) (.t 20),none,[]⟩,
 ⟨some 3,.mv (.t 21),none,[]⟩])
 .skip))))
 (.reg [⟨some 22,.bin .add (.t 9) (.c (.val (.int .i64 1))),none,[]⟩,
 ⟨some 9,.mv (.t 22),none,[]⟩])))))))
 (.seq (.reg [⟨some 23,.mv (.t 3),none,[]⟩,
 ⟨some 24,.mkf (.func 80) [] [(.t 1)],none,[]⟩,
 ⟨some 25,.call (.f 79) [(.t 23),(.t 24)],none,[]⟩])
 (.seq (.reg [⟨some 26,.mv (.t 3),none,[]⟩,
 ⟨some 2,.mv (.t 26),none,[]⟩])
 .ret))))),
[(.t 2)])
theorem irOk61 : convFn Tryz.prog Tryz.f61 = some ir61 := by kernel_rfl
def ordI (s : StateD) (i j : Nat) : Int := if prioAt s i = prioAt s j then (i : Int) - j else prioAt s j - prioAt s i
theorem ord_lt (s : StateD) (i j : Nat) : decide (ordI s i j < 0) = ahB s i j := by
  unfold ordI ahB
  rw [Bool.eq_iff_iff, decide_eq_true_eq, decide_eq_true_eq]
  split <;> omega
/-- priorities that may be. -/
def Prios (s : StateD) : Prop := ∀ i, i < s.jobs.length → 0 ≤ prioAt s i ∧ prioAt s i ≤ 1000000
set_option maxHeartbeats 4000000 in
theorem order_calls (s : StateD) (hl : s.jobs.length ≤ 1000000) (hp : Prios s) (i j : Nat) (hi : i < s.jobs.length) (hj : j < s.jobs.length) {J : Nat → Prop} {ι : Nat → Nat → Option Nat} {w : World} {vs : Array Value} (S : Store G J w ι (objL [])) (hargs : RepL J w ι [stateV s, .int ((i + 1 : Nat) : Int), .int ((j + 1 : Nat) : Int)] vs.toList) :
    Calls Tryz.prog 81 vs w (fun e w' => ∃ v, e = .returned v ∧ After G (objL []) (objL []) J ι w (.int (ordI s i j)) v w' ∧ w.drawn ≤ w'.drawn) := by
  refine tri_Q Tryz.func81 (by decide) irOk81 (Nat.le_of_ble_eq_true rfl) rfl (by kernel_rfl) ?_ J ι w vs S hargs
  have hgi := get_mapD (f := jobR) zeroJob hi
  have hgj := get_mapD (f := jobR) zeroJob hj
  have hpi := hp i hi
  have hpj := hp j hj
  have e1 : IntKind.i64.wrap (((i + 1 : Nat) : Int) - 1) = (i : Int) := by rw [wrap_in (by omega) (by omega)]; omega
  have e2 : IntKind.i64.wrap (((j + 1 : Nat) : Int) - 1) = (j : Int) := by rw [wrap_in (by omega) (by omega)]; omega
  have e3 : IntKind.i64.wrap (((i + 1 : Nat) : Int) - ((j + 1 : Nat) : Int)) = (i : Int) - j := by rw [wrap_in (by omega) (by omega)]; omega
  have e4 : IntKind.i64.wrap (prioAt s j - prioAt s i) = prioAt s j - prioAt s i := wrap_in (by omega) (by omega)
  unfold ordI
  unfold prioAt at *
  generalize s.jobs.getD i zeroJob = x at *
  generalize s.jobs.getD j zeroJob = y at *
  simp only [jobR] at hgi hgj
  simp only [ir81,e1,e2,e3,hgi,hgj,go_sem,↓reduceIte,zA,zB,zC,zD,zE,zF,reduceCtorEq,zG,zH,zI,zJ,zK,zL,zM,zN,zO,zP]
  refine W_opsD_end rfl ?_
  simp only [go_sem,↓reduceIte,zA,zB,zC,zD,zE,zF,reduceCtorEq,zG,zH,zI,zJ,zK,zL,zM,zN,zO,zP]
  by_cases h : x.prio = y.prio
  · simp only [h,bne_self_eq_false,e3,go_sem,↓reduceIte,zA,zB,zC,zD,zE,zF,reduceCtorEq,zG,zH,zI,zJ,zK,zL,zM,zN,zO,zP]
  · simp only [show (x.prio != y.prio) = true from bne_iff_ne.2 h,h,e4,go_sem,↓reduceIte,zA,zB,zC,zD,zE,zF,reduceCtorEq,zG,zH,zI,zJ,zK,zL,zM,zN,zO,zP]
theorem grow_of_after {G : Nat → Option (List DV)} {J : Nat → Prop} {ι : Nat → Nat → Option Nat} {w w' : World} {r : LV} {v : Value} (h : After G (objL []) (objL []) J ι w r v w') (hd : w.drawn ≤ w'.drawn) : ∃ q os', w' = grow (w.drewN q) os' := by
  obtain ⟨J', ι', _, _, E⟩ := h
  have hno : ∀ b, ¬ Own ι (objL []) b := fun b ⟨o, ho⟩ => by simp [objL,OSt.own] at ho
  have hh : w'.heap = w.heap ++ w'.heap.extract w.heap.size w'.heap.size := by
    apply Array.ext_getElem?
    intro i
    rw [Array.getElem?_append]
    split
    · rename_i hi; exact E.ev.same i hi (hno i)
    · rename_i hi
      rw [Array.getElem?_extract]
      have := E.ev.size
      split
      · congr 1; omega
      · exact Array.getElem?_eq_none (by omega)
  refine ⟨w'.drawn - w.drawn, w'.heap.extract w.heap.size w'.heap.size, ?_⟩
  have e1 := E.ev.os
  have e2 := E.ev.tape
  have e3 := E.ev.output
  clear E hno
  cases w' with
  | mk h0 t0 d0 o0 u0 =>
    simp only at e1 e2 e3 hh hd
    subst e1 e2 e3
    simp only [grow,World.drewN,Nat.add_sub_cancel' hd]
    rw [← hh]
set_option maxHeartbeats 4000000 in
theorem line1_calls (s : StateD) (hl : s.jobs.length ≤ 1000000) (hp : Prios s) (i j : Nat) (hi : i < s.jobs.length) (hj : j < s.jobs.length) {J : Nat → Prop} {ι : Nat → Nat → Option Nat} {w : World} (S : Store G J w ι (objL [])) {bs : Nat} {C : Array Value} {et : TypeId} (hb : w.heap[bs]? = some (.cells C et (0, 0)))
    (hC : RepC J w ι [nodesV s.nodes, jobsV s.jobs, .int s.goal, .int s.prior, .int s.mode, .int s.term] C.toList) :
    Calls Tryz.prog 80 #[.int .i64 ((i + 1 : Nat) : Int), .int .i64 ((j + 1 : Nat) : Int), .pointer (some ⟨bs, 0, none⟩)] w (fun e w' => e = .returned (.int .i64 (ordI s i j)) ∧ ∃ q os', w' = grow (w.drewN q) os') := by
  obtain ⟨cl⟩ := C
  match cl, hC with
  | [x0, x1, x2, x3, x4, x5], ⟨o0, r0, o1, r1, o2, r2, o3, r3, o4, r4, o5, r5, _⟩ =>
  have hcs : ∀ k v, ([x0, x1, x2, x3, x4, x5] : List Value)[k]? = some v → w.cell? ⟨bs, k, none⟩ = some v := fun k v hk => by
    simp only [World.cell?,hb]
    simpa using hk
  have c0 := hcs 0 x0 rfl
  have c1 := hcs 1 x1 rfl
  have c2 := hcs 2 x2 rfl
  have c3 := hcs 3 x3 rfl
  have c4 := hcs 4 x4 rfl
  have c5 := hcs 5 x5 rfl
  have hO := order_calls (w := w) (vs := #[.agg #[x0, x1, x2, x3, x4, x5], .int .i64 ((i + 1 : Nat) : Int), .int .i64 ((j + 1 : Nat) : Int)]) s hl hp i j hi hj S ⟨⟨_, rfl, o0, r0, o1, r1, o2, r2, o3, r3, o4, r4, o5, r5, trivial⟩, rfl, rfl, trivial⟩
  clear hcs hb r0 r1 r2 r3 r4 r5
  generalize ((i + 1 : Nat) : Int) = a at *
  generalize ((j + 1 : Nat) : Int) = b at *
  generalize ordI s i j = r at *
  go_enter Tryz.func80, Tryz.ntmps80
  go_wp2_with (go_at_call 81; refine hO.mono ?_; rintro e w' ⟨v, rfl, hA, hd⟩; obtain ⟨q, os', rfl⟩ := grow_of_after hA hd; obtain ⟨_, _, _, hv, _⟩ := hA; obtain rfl : v = .int .i64 r := hv)
  go_ret
  exact ⟨rfl, q, os', rfl⟩
end Dv

namespace Dv
open Go Go.Proofs Go.Sort Go.Shelf
variable {G : Nat → Option (List DV)}

def idxR {n : Nat} (l : List (Fin n)) : List (List DV) := l.map fun i => [i64 ((i.val + 1 : Nat) : Int)]
def encF {n : Nat} (i : Fin n) : Value := .int .i64 ((i.val + 1 : Nat) : Int)
theorem rowsD_cells {J : Nat → Prop} {w : World} {n : Nat} : ∀ (l : List (Fin n)) (b off : Nat), (∀ k x, l[k]? = some x → w.cell? ⟨b, off + k, none⟩ = some (encF x)) → RowsD J w 1 (idxR l) b off
  | [], _, _, _ => trivial
  | x :: l, b, off, h => ⟨rfl, ⟨⟨encF x, h 0 x rfl, rfl, rfl⟩, trivial⟩, rowsD_cells l b (off + 1) (fun k y hk => by
      have := h (k + 1) y hk
      rwa [show off + (k + 1) = off + 1 + k by omega] at this)⟩
section
variable {α : Type} [Inhabited α] (enc : α → Value) (w : World) (blk m : Nat) (d : Array α) (os : Array Obj)
theorem sw_other (hb : blk < w.heap.size) {k : Nat} (hk : k < w.heap.size) (hne : k ≠ blk) : (sortWorld enc w blk 0 m d os).heap[k]? = w.heap[k]? := by
  unfold sortWorld
  rw [heap_grow_old _ _ (by rw [Go.Sort.size_putRow]; exact hk)]
  unfold putRow mapBlock
  show (w.heap.modify blk _)[k]? = _
  rw [Array.getElem?_modify]
  rw [if_neg (fun e => hne e.symm)]
theorem sw_blk {C : Array Value} {t : TypeId} {f : Nat × Nat} (hb : w.heap[blk]? = some (.cells C t f)) : (sortWorld enc w blk 0 m d os).heap[blk]? = some (.cells (putCells enc 0 d C) t f) := by
  have hlt := (Array.getElem?_eq_some_iff.1 hb).1
  unfold sortWorld
  rw [heap_grow_old _ _ (by rw [Go.Sort.size_putRow]; exact hlt)]
  unfold putRow mapBlock
  show (w.heap.modify blk _)[blk]? = _
  rw [Array.getElem?_modify, if_pos rfl, hb]
  rfl
theorem sw_size : w.heap.size ≤ (sortWorld enc w blk 0 m d os).heap.size := by
  unfold sortWorld grow
  simp [Go.Sort.size_putRow,Sort.ahead]
theorem sw_shape {C : Array Value} {t : TypeId} {f : Nat × Nat} (hb : w.heap[blk]? = some (.cells C t f)) {k : Nat} (hk : k < w.heap.size) : (sortWorld enc w blk 0 m d os).shape? k = w.shape? k := by
  by_cases e : k = blk
  · subst e
    unfold World.shape?
    rw [sw_blk enc w k m d os hb, hb]
    simp [putCells]
  · exact shape_of_heap (sw_other enc w blk m d os (Array.getElem?_eq_some_iff.1 hb).1 hk e)
end
theorem swoL (s : StateD) : SWO (ltOf (fun x y : Fin s.jobs.length => ordI s x.val y.val)) where
  irrefl x := by unfold ltOf; rw [ord_lt]; exact ah_irr s _
  trans x y z h1 h2 := by unfold ltOf at *; rw [ord_lt] at *; exact ah_trans h1 h2
  ntrans x y z h1 h2 := by
    unfold ltOf at *; rw [ord_lt] at *
    cases h : ahB s x.val z.val with
    | false => rfl
    | true =>
      by_cases e : y.val = x.val
      · rw [← e] at h; rw [h] at h2; exact h2
      · rcases ah_total (s := s) (fun h => e h.symm) with k | k
        · rw [k] at h1; exact h1
        · have := ah_trans k h; rw [this] at h2; exact h2
theorem totL (s : StateD) (x y : Fin s.jobs.length) (h1 : ltOf (fun x y : Fin s.jobs.length => ordI s x.val y.val) x y = false) (h2 : ltOf (fun x y : Fin s.jobs.length => ordI s x.val y.val) y x = false) : x = y := by
  unfold ltOf at *; rw [ord_lt] at *
  by_cases e : x.val = y.val
  · exact Fin.ext e
  · rcases ah_total (s := s) e with k | k
    · rw [k] at h1; cases h1
    · rw [k] at h2; cases h2
set_option maxRecDepth 100000 in
set_option maxHeartbeats 2000000 in
theorem sort_tri (s : StateD) (hl : s.jobs.length ≤ 1000000) (hp : Prios s) (l : List (Fin s.jobs.length)) (hll : l.length ≤ 1000000) :
    Tri Tryz.prog G 79 [.sl 0 l.length 1 0 l.length, .fn (.func 80) [] [.ptr 1 0]] [.dat 3 1 (idxR l), boxS s] (.tup []) [.dat 3 1 (idxR (l.mergeSort fun x y => !ahB s y.val x.val)), boxS s] := by
  refine ⟨by decide, fun J ι w vs S hR => ?_⟩
  obtain ⟨vl⟩ := vs
  match vl, hR with
  | [v0, v1], ⟨h0, h1, _⟩ =>
  obtain ⟨fs, cs, rfl, hfs, hcs⟩ := h1
  obtain ⟨fl⟩ := fs
  obtain ⟨cl⟩ := cs
  match fl, hfs, cl, hcs with
  | [], _, [p], ⟨⟨bs, hbs, hpv⟩, _⟩ =>
  subst hpv
  by_cases hnil : l = []
  · subst hnil
    rw [List.mergeSort_nil]
    obtain ⟨p, cap, rfl⟩ : ∃ p cap, v0 = .slice p 0 cap := by
      rcases h0 with ⟨_, a, rfl⟩ | ⟨b, cap, et, C, _, rfl, _⟩
      · exact ⟨a, 0, rfl⟩
      · exact ⟨_, cap, rfl⟩
    have hc := AnyF.slices_SortFunc_none (P := Tryz.prog) (ρ := Tryz.sortL_ren) { Tryz.sortL with } p cap (.func (.func 80) #[] #[.pointer (some ⟨bs, 0, none⟩)]) w
    change Calls Tryz.prog 79 _ _ _ at hc
    refine hc.mono ?_
    rintro e w' ⟨rfl, rfl⟩
    exact ⟨.tuple #[], rfl, After.stay S (show Rep J _ ι (.tup []) (.tuple #[]) from ⟨#[], rfl, trivial⟩)⟩
  obtain ⟨x0, _⟩ := List.exists_mem_of_ne_nil l hnil
  haveI : Inhabited (Fin s.jobs.length) := ⟨x0⟩
  have hpos : 0 < l.length := List.length_pos_iff.2 hnil
  obtain ⟨b, cap, et', C', hb, rfl, hcap, _, _⟩ := h0.resolve_left (fun h => by omega)
  have hrep0 := S.rep 0
  have hrep1 := S.rep 1
  obtain ⟨⟨_, hdat⟩, hkey⟩ := hrep0
  have hlen : (idxR l).length = l.length := List.length_map _
  rw [hlen] at hdat
  obtain ⟨⟨C, hC⟩, hrows⟩ := hdat b hb
  obtain ⟨⟨bs', B, hbs', hB, hBc⟩, _⟩ := hrep1
  rw [hbs] at hbs'; cases hbs'
  have hblt := (Array.getElem?_eq_some_iff.1 hC).1
  have hown0 : (objL (List.map some [LObj.dat 3 1 (idxR l), boxS s]) 0).own ι 0 b := by show ι 0 (idxR l).length = some b; rw [hlen]; exact hb
  have hown1 : (objL (List.map some [LObj.dat 3 1 (idxR l), boxS s]) 1).own ι 1 bs := hbs
  have hne : bs ≠ b := fun e => by
    have := S.inj 1 0 b (by rw [← e]; exact hown1) hown0
    cases this
  have hnJ : ∀ k, J k → k ≠ b := fun k hk e => S.disj 0 b hown0 (e ▸ hk)
  have hcell : ∀ k x, l[k]? = some x → w.cell? ⟨b, k, none⟩ = some (encF x) := fun k x hk => by
    have hr : (idxR l)[k]? = some [i64 ((x.val + 1 : Nat) : Int)] := by unfold idxR; rw [List.getElem?_map, hk]; rfl
    obtain ⟨_, h⟩ := hrows.get hr
    obtain ⟨v, h1, _, h3⟩ := h.get (i := 0) rfl
    have h3 : v = encF x := h3
    rw [h3] at h1
    simpa using h1
  have hH : Holds encF w b 0 l.toArray := fun j hj => by
    have hj' : j < l.length := by simpa using hj
    have hx : l[j]? = some l[j] := List.getElem?_eq_getElem hj'
    have e : l.toArray[j]! = l[j] := by simp [hj']
    rw [e, Nat.zero_add]
    exact ⟨hcell j _ hx, by simp [World.frozen?,hC]⟩
  obtain ⟨S0, _⟩ := S.sub (ρ := []) (Z := []) (fobjs := []) (base := 0) List.nodup_nil (fun _ h => by cases h) rfl (fun i o h => by simp at h) rfl
  have hcmp : CmpLays1 Tryz.prog 80 #[.pointer (some ⟨bs, 0, none⟩)] encF (fun x y : Fin s.jobs.length => ordI s x.val y.val) b 0 l.toArray.size w := fun m os dk hs x y => by
    have hds := toDs_rep (ds := [.lst 5 (s.nodes.map nodeR), .lst 12 (s.jobs.map jobR), i64 s.goal, i64 s.prior, i64 s.mode, i64 s.term]) rfl hBc.toL
    have hJ' : ∀ k, (J k ∨ OwnZ ι (objL (List.map some [LObj.dat 3 1 (idxR l), boxS s])) [] k) → J k := fun k h => h.resolve_right (fun ⟨z, hz, _⟩ => by cases hz)
    have hsame : ∀ k, J k → (sortWorld encF w b 0 m dk os).heap[k]? = w.heap[k]? := fun k hk => sw_other encF w b m dk os hblt (S.jlt k hk) (hnJ k hk)
    have hst := S0.still (w' := sortWorld encF w b 0 m dk os) (fun k hk => hsame k (hJ' k hk)) (fun k hk => by
      obtain ⟨o, ho⟩ := hk
      simp [objL,OSt.own] at ho) (fun k hk => sw_shape encF w b m dk os hC (shape_lt hk))
    refine line1_calls s hl hp x.val y.val x.isLt y.isLt hst (C := B) (et := 27) ((sw_other encF w b m dk os hblt (Array.getElem?_eq_some_iff.1 hB).1 hne).trans hB) ?_
    exact RepDL.mapC (RepDL.mono (fun k hk => .inl hk) hsame _ _ hds) hBc.one
  have hc := Any.slices_SortFunc_total Tryz.sortL encF (fun _ => rfl) (fun x y : Fin s.jobs.length => ordI s x.val y.val) (swoL s) 80 #[.pointer (some ⟨bs, 0, none⟩)] b 0 cap l.toArray w (enters_of Tryz.func80 (by kernel_rfl) rfl) hcmp hH hblt (by simp; omega) (totL s)
  change Calls Tryz.prog 79 _ _ _ at hc
  simp only [List.size_toArray,Nat.zero_mul] at hc ⊢
  refine hc.mono ?_
  rintro e w' ⟨rfl, m, os, rfl⟩
  refine ⟨_, rfl, ?_⟩
  have elt : (fun x y : Fin s.jobs.length => !ltOf (fun x y : Fin s.jobs.length => ordI s x.val y.val) y x) = fun x y => !ahB s y.val x.val := by
    funext x y
    unfold ltOf
    rw [ord_lt]
  rw [elt]
  generalize hl' : (l.mergeSort fun x y => !ahB s y.val x.val) = l'
  have hlen' : l'.length = l.length := by rw [← hl']; exact List.length_mergeSort _
  have hSW : SW encF w b 0 l'.toArray (sortWorld encF w b 0 m l'.toArray os) := ⟨m, os, rfl⟩
  have hH' := hSW.holds hblt hH (by simpa using hlen')
  have hcell' : ∀ k x, l'[k]? = some x → (sortWorld encF w b 0 m l'.toArray os).cell? ⟨b, k, none⟩ = some (encF x) := fun k x hk => by
    obtain ⟨hk1, hk2⟩ := List.getElem?_eq_some_iff.1 hk
    have := (hH' k (by simpa using hk1)).1
    have e : l'.toArray[k]! = x := by simp [hk1,hk2]
    rw [e, Nat.zero_add] at this
    exact this
  have E : Ev (Own ι (objL (List.map some [LObj.dat 3 1 (idxR l), boxS s]))) J J ι ι w (sortWorld encF w b 0 m l'.toArray os) :=
    ⟨rfl, rfl, rfl, sw_size encF w b m _ os, fun k hk hn => sw_other encF w b m _ os hblt hk (fun e => hn ⟨0, e ▸ hown0⟩), fun k hk => sw_shape encF w b m _ os hC hk, fun _ h => h, fun _ h => .inl h, fun _ _ _ h => h⟩
  obtain ⟨S1, E1⟩ := S.turn 0 (.live (.dat 3 1 (idxR l'))) E (fun _ _ _ => rfl) (fun k hk hn => sw_other encF w b m _ os hblt hk (fun e => hn (e ▸ hown0))) (by
    have hlr : (idxR l').length = l.length := by unfold idxR; rw [List.length_map, hlen']
    refine ⟨⟨.inr (by rw [hlr, hb]; rfl), fun k hk => ?_⟩, fun n hn => hkey n (by rw [hlen]; rw [hlr] at hn; exact hn)⟩
    rw [hlr, hb] at hk
    cases hk
    exact ⟨⟨_, sw_blk encF w b m _ os hC⟩, rowsD_cells l' b 0 (fun k x hk => by rw [Nat.zero_add]; exact hcell' k x hk)⟩) (fun k hk => by
    have hlr : (idxR l').length = l.length := by unfold idxR; rw [List.length_map, hlen']
    have hk : ι 0 (idxR l').length = some k := hk
    rw [hlr, hb] at hk
    cases hk
    exact .inl hown0)
  have e : (fun o => if o = 0 then OSt.live (LObj.dat 3 1 (idxR l')) else objL (List.map some [LObj.dat 3 1 (idxR l), boxS s]) o) = objL (List.map some [LObj.dat 3 1 (idxR l'), boxS s]) := by
    funext o
    cases o <;> rfl
  rw [e] at S1 E1
  exact ⟨J, ι, S1, ⟨#[], rfl, trivial⟩, E1⟩
end Dv

namespace Dv
open Go Go.Proofs
open Nat renaming reduceEqDiff → zA, reduceAdd → zB, reduceSub → zC, reduceMul → zD, reduceLT → zE, reduceLeDiff → zF
open Int renaming reduceLE → zG, reduceLT → zH, reduceToNat → zI, reduceBEq → zJ, reduceBNe → zK, reduceEq → zL, reduceAdd → zM, reduceSub → zN, reduceMul → zO, reduceNeg → zP
attribute [local go_sem] argEnv W_nil W_seq W_skip W_ret W_exit W_scope W_block W_blk W_reg W_regD W_cond WC_t WC_f WC_any Wx_c Wx_ops Wx_lp Wx_blk W_ops_nil W_opsD_q W_guard W_guardD WG_tt WG_ff WG_tf WG_ft WG_u WGD_tt WGD_ff WGD_tf WGD_ft WGD_u WE_some WED_some W_more W_mv W_pick W_new W_box W_build W_bsl W_ld1 W_ldn W_st W_nck W_bin W_eqb W_not W_cvt W_fad W_fld1 W_fldn W_ixa W_ixr W_ix1 W_ixs W_len W_lens W_mkf W_ext W_app W_min W_max W_isnp W_isns W_eqs W_neg W_ixn W_sli W_sls WD_more WD_mv WD_pick WD_new WD_box WD_build WD_bsl WD_ld1 WD_ldn WD_st WD_nck WD_bin WD_eqb WD_not WD_cvt WD_fad WD_fld1 WD_fldn WD_ixa WD_ixr WD_ix1 WD_ixs WD_len WD_lens WD_mkf WD_ext WD_app WD_min WD_max WD_isnp WD_isns WD_eqs WD_neg WD_ixn WD_sli WD_sls effF effM bytesOf Opd.ev getE putE binV LV.int LV.bool LV.undef Go.undef LV.cells LV.toD LV.toDs splice fillL rowsOf boxOf srcRows updL objL Eff.owned nwp St.get St.obj St.put Value.oneCell' Ends adopt Ad.ap isNil St.keep St.okKeep okObj idl idlL idlO RVs.of RV.of oneOr Ends0 EndsO_iff frzs rn rnL rnO piOf eqCells eqV boundV Option.map_some Option.map_none List.append_nil List.nil_append List.cons_append List.map_nil List.map_cons List.length_nil List.length_cons List.set_cons_zero List.set_cons_succ List.take_succ_cons List.take_zero List.take_nil List.drop_succ_cons List.drop_zero List.drop_nil List.getElem?_cons_zero List.getElem?_cons_succ List.getElem?_nil List.isEmpty_nil List.isEmpty_cons List.all_cons List.all_nil List.isEmpty_nil cond_true cond_false Bool.true_and Bool.false_and Bool.and_true Bool.and_false Bool.not_true Bool.not_false Bool.or_true Bool.true_or Bool.or_false Bool.false_or true_and and_true true_or or_true Option.some.injEq LV.d.injEq DV.val.injEq Value.bool.injEq Value.int.injEq decide_true decide_false and_self Nat.zero_add Nat.add_zero if_true if_false Int.toNat_zero beq_self_eq_true Nat.zero_lt_succ Int.toNat_natCast Int.natCast_nonneg List.length_map i64 bl List.zip_cons_cons List.zip_nil_left List.zip_nil_right nwp confV stateV nodeV jobV nodesV jobsV opV msgV nodeR jobR opR msgR zeroOp zeroMsg msgsV
variable {G : Nat → Option (List DV)}

def natR (l : List Nat) : List (List DV) := l.map fun i => [i64 ((i + 1 : Nat) : Int)]
def queuedTo (s : StateD) (k : Nat) : List Nat := (List.range k).filter (qB s)
theorem queuedTo_succ (s : StateD) (k : Nat) : queuedTo s (k + 1) = queuedTo s k ++ (if qB s k = true then [k] else []) := by
  unfold queuedTo
  rw [List.range_succ, List.filter_append]
  simp only [List.filter_cons,List.filter_nil]
theorem queuedTo_len (s : StateD) (k : Nat) : (queuedTo s k).length ≤ k := by
  have := List.length_filter_le (qB s) (List.range k)
  simpa [queuedTo] using this
def qF (s : StateD) : List (Fin s.jobs.length) := (queued s).pmap (fun i h => ⟨i, h⟩) (fun i hi => (mem_queued.1 hi).1)
theorem qF_val (s : StateD) : (qF s).map (·.val) = queued s := by
  unfold qF
  rw [List.map_pmap, List.pmap_eq_map, List.map_id']
theorem idxR_val {n : Nat} (l : List (Fin n)) : idxR l = natR (l.map (·.val)) := by
  unfold idxR natR
  rw [List.map_map]; rfl
theorem qF_sort (s : StateD) : ((qF s).mergeSort fun x y => !ahB s y.val x.val).map (·.val) = lineN s := by
  unfold lineN
  rw [← qF_val s]
  exact List.map_mergeSort (fun _ _ _ _ => rfl)
def lnS (s : StateD) (k : Nat) : St := ⟨[(1, .ptr 0 0), (3, .sl 1 (queuedTo s k).length 1 0 (queuedTo s k).length), (7, jobsV s.jobs), (8, .int s.jobs.length), (9, .int k)], [some (boxS s), some (.dat 3 1 (natR (queuedTo s k)))]⟩
set_option maxHeartbeats 4000000 in
theorem line_tri (s : StateD) (hn : s.jobs.length ≤ 1000) (hp : Prios s) : Tri Tryz.prog G 61 [stateV s] [] (.d (.lst 1 (natR (lineN s)))) [] := by
  refine tri_W Tryz.func61 (by decide) irOk61 (Nat.le_of_ble_eq_true rfl) ?_
  simp only [ir61,go_sem,↓reduceIte,zA,zB,zC,zD,zE,zF,reduceCtorEq,zG,zH,zI,zJ,zK,zL,zM,zN,zO,zP]
  refine W_loopI [1, 3, 7, 8, 9] [.t 3 3 1] (fun k : Nat => k ≤ s.jobs.length) (fun k => s.jobs.length - k) (lnS s) 0 ?_ (Nat.zero_le _) (fun k hk => ?_)
  · simp only [lnS,boxS,go_sem,↓reduceIte,zA,zB,zC,zD,zE,zF,reduceCtorEq,zG,zH,zI,zJ,zK,zL,zM,zN,zO,zP,queuedTo,List.range_zero,List.filter_nil,natR,Int.natCast_zero]
  simp only [lnS,boxS,go_sem,↓reduceIte,zA,zB,zC,zD,zE,zF,reduceCtorEq,zG,zH,zI,zJ,zK,zL,zM,zN,zO,zP]
  by_cases hlt : k < s.jobs.length
  · have hg := get_mapD (f := jobR) zeroJob hlt
    have hk2 := queuedTo_succ s k
    have hlen := queuedTo_len s k
    have hbd : ((queuedTo s k).length + 1) * 8 ≤ 70368744177664 := by omega
    have hq : qB s k = decide ((s.jobs.getD k zeroJob).phase = 0) := rfl
    generalize s.jobs.getD k zeroJob = j at *
    simp only [jobR] at hg
    simp only [decide_eq_true (show ((k : Nat) : Int) < ((s.jobs.length : Nat) : Int) by omega),hg,go_sem,↓reduceIte,zA,zB,zC,zD,zE,zF,reduceCtorEq,zG,zH,zI,zJ,zK,zL,zM,zN,zO,zP]
    by_cases hb : j.phase = 0
    · rw [hq, decide_eq_true hb, if_pos rfl] at hk2
      simp only [show (j.phase == 0) = true from beq_iff_eq.2 hb,natR,List.length_append,hbd,wrap_succ (show k < 9223372036854775807 by omega),go_sem,↓reduceIte,zA,zB,zC,zD,zE,zF,reduceCtorEq,zG,zH,zI,zJ,zK,zL,zM,zN,zO,zP]
      refine W_lpI (k + 1) ?_ ?_ (by omega) (by omega)
      · simp only [go_sem,↓reduceIte,zA,zB,zC,zD,zE,zF,reduceCtorEq,zG,zH,zI,zJ,zK,zL,zM,zN,zO,zP]
      · simp only [lnS,boxS,hk2,natR,List.map_append,List.length_append,go_sem,↓reduceIte,zA,zB,zC,zD,zE,zF,reduceCtorEq,zG,zH,zI,zJ,zK,zL,zM,zN,zO,zP,wrap_succ (show k < 9223372036854775807 by omega)]
    · rw [hq, decide_eq_false hb, if_neg (by decide), List.append_nil] at hk2
      simp only [show (j.phase == 0) = false from beq_eq_false_iff_ne.2 hb,go_sem,↓reduceIte,zA,zB,zC,zD,zE,zF,reduceCtorEq,zG,zH,zI,zJ,zK,zL,zM,zN,zO,zP]
      refine W_lpI (k + 1) ?_ ?_ (by omega) (by omega)
      · simp only [go_sem,↓reduceIte,zA,zB,zC,zD,zE,zF,reduceCtorEq,zG,zH,zI,zJ,zK,zL,zM,zN,zO,zP]
      · simp only [lnS,boxS,hk2,natR,List.map_append,List.length_append,go_sem,↓reduceIte,zA,zB,zC,zD,zE,zF,reduceCtorEq,zG,zH,zI,zJ,zK,zL,zM,zN,zO,zP,wrap_succ (show k < 9223372036854775807 by omega)]
  · obtain rfl : k = s.jobs.length := by omega
    simp only [decide_eq_false (show ¬ ((s.jobs.length : Nat) : Int) < ((s.jobs.length : Nat) : Int) by omega),go_sem,↓reduceIte,zA,zB,zC,zD,zE,zF,reduceCtorEq,zG,zH,zI,zJ,zK,zL,zM,zN,zO,zP]
    have hqe : queuedTo s s.jobs.length = queued s := rfl
    have hS := sort_tri (G := G) s (by omega) hp (qF s) (by
      have := queuedTo_len s s.jobs.length
      have e := congrArg List.length (qF_val s)
      rw [List.length_map] at e
      rw [e, ← hqe]; omega)
    have hlq : (qF s).length = (queuedTo s s.jobs.length).length := by rw [hqe, ← qF_val s, List.length_map]
    rw [idxR_val, idxR_val, qF_val, qF_sort, hlq, ← hqe] at hS
    have hl2 : (queuedTo s s.jobs.length).length = (lineN s).length := by rw [hqe]; exact ((lineN_perm s).length_eq).symm
    generalize queuedTo s s.jobs.length = Q at *
    generalize lineN s = L at *
    rw [hl2] at hS ⊢
    refine W_callo [1, 0] (hS) rfl (by simp only [argRs,argR,List.map_cons,List.map_nil,go_sem,↓reduceIte,zA,zB,zC,zD,zE,zF,reduceCtorEq,zG,zH,zI,zJ,zK,zL,zM,zN,zO,zP,boxS]) (by decide) (by simp only [go_sem,↓reduceIte,zA,zB,zC,zD,zE,zF,reduceCtorEq,zG,zH,zI,zJ,zK,zL,zM,zN,zO,zP,boxS]) (by simp only [go_sem,↓reduceIte,zA,zB,zC,zD,zE,zF,reduceCtorEq,zG,zH,zI,zJ,zK,zL,zM,zN,zO,zP,List.all_cons,List.all_nil,boxS]) (by simp) ?_; simp only [go_sem,↓reduceIte,zA,zB,zC,zD,zE,zF,reduceCtorEq,zG,zH,zI,zJ,zK,zL,zM,zN,zO,zP,boxS]
    exact BackZ [1] rfl (by simp [St.obj,objL]) (by simp [St.obj,objL,oneOr,St.get,getE,argR,rowsAt,natR,List.take_of_length_le])
end Dv

namespace Dv
open Go Go.Proofs
open Nat renaming reduceEqDiff → zA, reduceAdd → zB, reduceSub → zC, reduceMul → zD, reduceLT → zE, reduceLeDiff → zF
open Int renaming reduceLE → zG, reduceLT → zH, reduceToNat → zI, reduceBEq → zJ, reduceBNe → zK, reduceEq → zL, reduceAdd → zM, reduceSub → zN, reduceMul → zO, reduceNeg → zP
attribute [local go_sem] argEnv W_nil W_seq W_skip W_ret W_exit W_scope W_block W_blk W_reg W_regD W_cond WC_t WC_f WC_any Wx_c Wx_ops Wx_lp Wx_blk W_ops_nil W_opsD_q W_guard W_guardD WG_tt WG_ff WG_tf WG_ft WG_u WGD_tt WGD_ff WGD_tf WGD_ft WGD_u WE_some WED_some W_more W_mv W_pick W_new W_box W_build W_bsl W_ld1 W_ldn W_st W_nck W_bin W_eqb W_not W_cvt W_fad W_fld1 W_fldn W_ixa W_ixr W_ix1 W_ixs W_len W_lens W_mkf W_ext W_app W_min W_max W_isnp W_isns W_eqs W_neg W_ixn W_sli W_sls WD_more WD_mv WD_pick WD_new WD_box WD_build WD_bsl WD_ld1 WD_ldn WD_st WD_nck WD_bin WD_eqb WD_not WD_cvt WD_fad WD_fld1 WD_fldn WD_ixa WD_ixr WD_ix1 WD_ixs WD_len WD_lens WD_mkf WD_ext WD_app WD_min WD_max WD_isnp WD_isns WD_eqs WD_neg WD_ixn WD_sli WD_sls effF effM bytesOf Opd.ev getE putE binV LV.int LV.bool LV.undef Go.undef LV.cells LV.toD LV.toDs splice fillL rowsOf boxOf srcRows updL objL Eff.owned nwp St.get St.obj St.put Value.oneCell' Ends adopt Ad.ap isNil St.keep St.okKeep okObj idl idlL idlO RVs.of RV.of oneOr Ends0 EndsO_iff frzs rn rnL rnO piOf eqCells eqV boundV Option.map_some Option.map_none List.append_nil List.nil_append List.cons_append List.map_nil List.map_cons List.length_nil List.length_cons List.set_cons_zero List.set_cons_succ List.take_succ_cons List.take_zero List.take_nil List.drop_succ_cons List.drop_zero List.drop_nil List.getElem?_cons_zero List.getElem?_cons_succ List.getElem?_nil List.isEmpty_nil List.isEmpty_cons List.all_cons List.all_nil List.isEmpty_nil cond_true cond_false Bool.true_and Bool.false_and Bool.and_true Bool.and_false Bool.not_true Bool.not_false Bool.or_true Bool.true_or Bool.or_false Bool.false_or true_and and_true true_or or_true Option.some.injEq LV.d.injEq DV.val.injEq Value.bool.injEq Value.int.injEq decide_true decide_false and_self Nat.zero_add Nat.add_zero if_true if_false Int.toNat_zero beq_self_eq_true Nat.zero_lt_succ Int.toNat_natCast Int.natCast_nonneg List.length_map i64 bl List.zip_cons_cons List.zip_nil_left List.zip_nil_right nwp confV stateV nodeV jobV nodesV jobsV opV msgV nodeR jobR opR msgR zeroOp zeroMsg msgsV
variable {G : Nat → Option (List DV)}

theorem succ_pred (i : Nat) (h : i ≤ 1000) : IntKind.i64.wrap (((i + 1 : Nat) : Int) - 1) = (i : Int) := by rw [wrap_in (by omega) (by omega)]; omega
/-! the line, by places -/
end Dv
