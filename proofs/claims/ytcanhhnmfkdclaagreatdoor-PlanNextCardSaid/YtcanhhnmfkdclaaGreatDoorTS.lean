/- The logical machine and its plain laws: parts T4, T5, T6, T7, proved sound. -/
import Derived.Test.YtcanhhnmfkdclaaGreatDoorSR
import Derived.Test.YtcanhhnmfkdclaaGreatDoorQA
import Derived.Test.YtcanhhnmfkdclaaGreatDoorTA
import Derived.Test.YtcanhhnmfkdclaaGreatDoorVD
set_option linter.unusedVariables false
set_option linter.unusedSimpArgs false
namespace Dv
open Go Go.Proofs Go.Sort Go.Shelf
variable {G : Nat → Option (List DV)}

def ir81 : Nat × C × List RV := (34,
(.seq (.reg [qo 3 (.box 27 (.t 0)),
 qo 6 (.mv (qk 0))])
 (.seq (.regD [qo 9 (.fad 1 (.t 3)),
 qd 10 (.ld1 (.t 9)) [0],
 qm 11 1,
 qd 12 (.bin .sub (.t 11) (qk 1)) [2],
 qd 13 (.ixa 12 (.t 10) (.t 12)) [1,0,3,2],
 qd 14 (.ldn 12 (.t 13)) [4,1,0,3,2],
 qo 15 (.fad 1 (.t 3)),
 qd 16 (.ld1 (.t 15)) [6],
 qm 17 2,
 qd 18 (.bin .sub (.t 17) (qk 1)) [8],
 qd 19 (.ixa 12 (.t 16) (.t 18)) [7,6,9,8],
 qd 20 (.ldn 12 (.t 19)) [10,7,6,9,8],
 qo 7 (.new 47 [q0,q0,q0,q0,q0,q0,q0,q0,q0,q0,q0,q0]),
 qo 8 (.new 47 [q0,q0,q0,q0,q0,q0,q0,q0,q0,q0,q0,q0]),
 ql (.st 12 (.t 7) (.t 14)) [12,5,4,1,0,3,2,13],
 ql (.st 12 (.t 8) (.t 20)) [13,11,10,7,6,9,8,14,12,5,4,1,0,3,2]])
 (.seq (.seq (.reg [qo 21 (.fad 1 (.t 7)),
 qo 22 (.ld1 (.t 21)),
 qo 23 (.fad 1 (.t 8)),
 qo 24 (.ld1 (.t 23)),
 qo 25 (.bin .neq (.t 22) (.t 24))])
 (.cond (.t 25) (.seq (.reg [qo 26 (.fad 1 (.t 8)),
 qo 27 (.ld1 (.t 26)),
 qo 28 (.fad 1 (.t 7)),
 qo 29 (.ld1 (.t 28)),
 qo 30 (.bin .sub (.t 27) (.t 29)),
 qm 6 30])
 .ret)
 .skip))
 (.seq (.reg [qm 31 1,
 qm 32 2,
 qo 33 (.bin .sub (.t 31) (.t 32)),
 qm 6 33])
 .ret)))),
[(.t 6)])
theorem irOk81 : convFn Tryz.prog Tryz.f81 = some ir81 := by kernel_rfl
def ir61 : Nat × C × List RV := (27,
(.seq (.reg [qo 1 (.box 27 (.t 0)),
 qo 2 (.mv (.c (.val (.slice none 0 0))))])
 (.seq (.reg [qo 3 (.mv (.c (.val (.slice none 0 0))))])
 (.seq (.seq (.reg [qo 6 (.fad 1 (.t 1)),
 qo 7 (.ld1 (.t 6)),
 qo 8 (.len (.t 7)),
 qo 9 (.mv (qk 0))])
 (.block 0 (.loop (.seq (.reg [qo 10 (.bin .lss (.t 9) (.t 8))])
 (.seq (.cond (.t 10) .skip
 (.exit 0))
 (.seq (.block 1 (.seq (.reg [qm 11 9,
 qo 12 (.ixa 12 (.t 7) (.t 9)),
 qo 13 (.ldn 12 (.t 12)),
 qo 5 (.new 47 [q0,q0,q0,q0,q0,q0,q0,q0,q0,q0,q0,q0]),
 qm 4 11,
 qn (.st 12 (.t 5) (.t 13))])
 (.seq (.reg [qo 14 (.fad 6 (.t 5)),
 qo 15 (.ld1 (.t 14)),
 qo 16 (.bin .eql (.t 15) (qk 0))])
 (.cond (.t 16) (.reg [qm 17 3,
 qm 18 4,
 qo 19 (.bin .add (.t 18) (qk 1)),
 qo 20 (.bsl 3 1 [(.t 19)]),
 qo 21 (.app 3 1 8 (.t 17) (.t 20)),
 qm 3 21])
 .skip))))
 (.reg [qo 22 (.bin .add (.t 9) (qk 1)),
 qm 9 22])))))))
 (.seq (.reg [qm 23 3,
 qo 24 (.mkf (.func 80) [] [(.t 1)]),
 qo 25 (.call (.f 79) [(.t 23),(.t 24)])])
 (.seq (.reg [qm 26 3,
 qm 2 26])
 .ret))))),
[(.t 2)])
theorem irOk61 : convFn Tryz.prog Tryz.f61 = some ir61 := by kernel_rfl
def ordI (s : StateD) (i j : Nat) : Int := if prioAt s i = prioAt s j then (i : Int) - j else prioAt s j - prioAt s i
theorem ord_lt (s : StateD) (i j : Nat) : decide (ordI s i j < 0) = ahB s i j := by
  unfold ordI ahB
  rw [Bool.eq_iff_iff, decide_eq_true_eq, decide_eq_true_eq]
  split <;> omega
def Prios (s : StateD) : Prop := ∀ i, i < s.jobs.length → 0 ≤ prioAt s i ∧ prioAt s i ≤ 1000000
set_option maxHeartbeats 4000000 in
theorem order_calls (s : StateD) (hl : s.jobs.length ≤ 1000000) (hp : Prios s) (i j : Nat) (hi : i < s.jobs.length) (hj : j < s.jobs.length) {J : Nat → Prop} {ι : Nat → Nat → Option Nat} {w : World} {vs : Array Value} (S : Store G J w ι (objL [])) (hargs : RepL J w ι [stateV s, .int ((i + 1 : Nat) : Int), .int ((j + 1 : Nat) : Int)] vs.toList) :
    Calls Tryz.prog 81 vs w (fun e w' => ∃ v, e = .returned v ∧ After G (objL []) (objL []) J ι w (.int (ordI s i j)) v w' ∧ w.drawn ≤ w'.drawn) := by
  refine tri_Q Tryz.func81 (by decide) irOk81 (Nat.le_of_ble_eq_true rfl) rfl (by kernel_rfl) ?_ J ι w vs S hargs
  have hgi := get_mapD (f := jobR) zeroJob hi
  have hgj := get_mapD (f := jobR) zeroJob hj
  have hpi := hp i hi
  have hpj := hp j hj
  have e1 : IntKind.i64.wrap (((i + 1 : Nat) : Int) - 1) = (i : Int) := by rw [wrap_in (by omega) (by omega)]; omega
  have e2 : IntKind.i64.wrap (((j + 1 : Nat) : Int) - 1) = (j : Int) := by rw [wrap_in (by omega) (by omega)]; omega
  have e3 : IntKind.i64.wrap (((i + 1 : Nat) : Int) - ((j + 1 : Nat) : Int)) = (i : Int) - j := by rw [wrap_in (by omega) (by omega)]; omega
  have e4 : IntKind.i64.wrap (prioAt s j - prioAt s i) = prioAt s j - prioAt s i := wrap_in (by omega) (by omega)
  unfold ordI
  unfold prioAt at *
  generalize s.jobs.getD i zeroJob = x at *
  generalize s.jobs.getD j zeroJob = y at *
  simp only [jobR] at hgi hgj
  simp only [ir81,e1,e2,e3,hgi,hgj,go_sem,simprocAttr]
  refine W_opsD_end rfl ?_
  simp only [go_sem,simprocAttr]
  by_cases h : x.prio = y.prio
  · simp only [h,bne_self_eq_false,e3,go_sem,simprocAttr]
  · simp only [show (x.prio != y.prio) = true from bne_iff_ne.2 h,h,e4,go_sem,simprocAttr]
theorem grow_of_after {G : Nat → Option (List DV)} {J : Nat → Prop} {ι : Nat → Nat → Option Nat} {w w' : World} {r : LV} {v : Value} (h : After G (objL []) (objL []) J ι w r v w') (hd : w.drawn ≤ w'.drawn) : ∃ q os', w' = grow (w.drewN q) os' := by
  obtain ⟨J', ι', _, _, E⟩ := h
  have hno : ∀ b, ¬ Own ι (objL []) b := fun b ⟨o, ho⟩ => by simp [objL,OSt.own] at ho
  have hh : w'.heap = w.heap ++ w'.heap.extract w.heap.size w'.heap.size := by
    apply Array.ext_getElem?
    intro i
    rw [Array.getElem?_append]
    split
    · rename_i hi; exact E.ev.same i hi (hno i)
    · rename_i hi
      rw [Array.getElem?_extract]
      have := E.ev.size
      split
      · congr 1; omega
      · exact Array.getElem?_eq_none (by omega)
  refine ⟨w'.drawn - w.drawn, w'.heap.extract w.heap.size w'.heap.size, ?_⟩
  have e1 := E.ev.os
  have e2 := E.ev.tape
  have e3 := E.ev.output
  clear E hno
  cases w' with
  | mk h0 t0 d0 o0 u0 =>
    simp only at e1 e2 e3 hh hd
    subst e1 e2 e3
    simp only [grow,World.drewN,Nat.add_sub_cancel' hd]
    rw [← hh]
set_option maxHeartbeats 4000000 in
theorem line1_calls (s : StateD) (hl : s.jobs.length ≤ 1000000) (hp : Prios s) (i j : Nat) (hi : i < s.jobs.length) (hj : j < s.jobs.length) {J : Nat → Prop} {ι : Nat → Nat → Option Nat} {w : World} (S : Store G J w ι (objL [])) {bs : Nat} {C : Array Value} {et : TypeId} (hb : w.heap[bs]? = some (.cells C et (0, 0)))
    (hC : RepC J w ι [nodesV s.nodes, jobsV s.jobs, .int s.goal, .int s.prior, .int s.mode, .int s.term] C.toList) :
    Calls Tryz.prog 80 #[.int .i64 ((i + 1 : Nat) : Int), .int .i64 ((j + 1 : Nat) : Int), .pointer (some ⟨bs, 0, none⟩)] w (fun e w' => e = .returned (.int .i64 (ordI s i j)) ∧ ∃ q os', w' = grow (w.drewN q) os') := by
  obtain ⟨cl⟩ := C
  match cl, hC with
  | [x0, x1, x2, x3, x4, x5], ⟨o0, r0, o1, r1, o2, r2, o3, r3, o4, r4, o5, r5, _⟩ =>
  have hcs : ∀ k v, ([x0, x1, x2, x3, x4, x5] : List Value)[k]? = some v → w.cell? ⟨bs, k, none⟩ = some v := fun k v hk => by
    simp only [World.cell?,hb]
    simpa using hk
  have c0 := hcs 0 x0 rfl
  have c1 := hcs 1 x1 rfl
  have c2 := hcs 2 x2 rfl
  have c3 := hcs 3 x3 rfl
  have c4 := hcs 4 x4 rfl
  have c5 := hcs 5 x5 rfl
  have hO := order_calls (w := w) (vs := #[.agg #[x0, x1, x2, x3, x4, x5], .int .i64 ((i + 1 : Nat) : Int), .int .i64 ((j + 1 : Nat) : Int)]) s hl hp i j hi hj S ⟨⟨_, rfl, o0, r0, o1, r1, o2, r2, o3, r3, o4, r4, o5, r5, trivial⟩, rfl, rfl, trivial⟩
  clear hcs hb r0 r1 r2 r3 r4 r5
  generalize ((i + 1 : Nat) : Int) = a at *
  generalize ((j + 1 : Nat) : Int) = b at *
  generalize ordI s i j = r at *
  go_enter Tryz.func80, Tryz.ntmps80
  go_wp2_with (go_at_call 81; refine hO.mono ?_; rintro e w' ⟨v, rfl, hA, hd⟩; obtain ⟨q, os', rfl⟩ := grow_of_after hA hd; obtain ⟨_, _, _, hv, _⟩ := hA; obtain rfl : v = .int .i64 r := hv)
  go_ret
  exact ⟨rfl, q, os', rfl⟩
end Dv

namespace Dv
open Go Go.Proofs Go.Sort Go.Shelf
variable {G : Nat → Option (List DV)}

def idxR {n : Nat} (l : List (Fin n)) : List (List DV) := l.map fun i => [i64 ((i.val + 1 : Nat) : Int)]
def encF {n : Nat} (i : Fin n) : Value := .int .i64 ((i.val + 1 : Nat) : Int)
theorem rowsD_cells {J : Nat → Prop} {w : World} {n : Nat} : ∀ (l : List (Fin n)) (b off : Nat), (∀ k x, l[k]? = some x → w.cell? ⟨b, off + k, none⟩ = some (encF x)) → RowsD J w 1 (idxR l) b off
  | [], _, _, _ => trivial
  | x :: l, b, off, h => ⟨rfl, ⟨⟨encF x, h 0 x rfl, rfl, rfl⟩, trivial⟩, rowsD_cells l b (off + 1) (fun k y hk => by
      have := h (k + 1) y hk
      rwa [show off + (k + 1) = off + 1 + k by omega] at this)⟩
section
variable {α : Type} [Inhabited α] (enc : α → Value) (w : World) (blk m : Nat) (d : Array α) (os : Array Obj)
theorem sw_other (hb : blk < w.heap.size) {k : Nat} (hk : k < w.heap.size) (hne : k ≠ blk) : (sortWorld enc w blk 0 m d os).heap[k]? = w.heap[k]? := by
  unfold sortWorld
  rw [heap_grow_old _ _ (by rw [Go.Sort.size_putRow]; exact hk)]
  unfold putRow mapBlock
  show (w.heap.modify blk _)[k]? = _
  rw [Array.getElem?_modify]
  rw [if_neg (fun e => hne e.symm)]
theorem sw_blk {C : Array Value} {t : TypeId} {f : Nat × Nat} (hb : w.heap[blk]? = some (.cells C t f)) : (sortWorld enc w blk 0 m d os).heap[blk]? = some (.cells (putCells enc 0 d C) t f) := by
  have hlt := (Array.getElem?_eq_some_iff.1 hb).1
  unfold sortWorld
  rw [heap_grow_old _ _ (by rw [Go.Sort.size_putRow]; exact hlt)]
  unfold putRow mapBlock
  show (w.heap.modify blk _)[blk]? = _
  rw [Array.getElem?_modify, if_pos rfl, hb]
  rfl
theorem sw_size : w.heap.size ≤ (sortWorld enc w blk 0 m d os).heap.size := by
  unfold sortWorld grow
  simp [Go.Sort.size_putRow,Sort.ahead]
theorem sw_shape {C : Array Value} {t : TypeId} {f : Nat × Nat} (hb : w.heap[blk]? = some (.cells C t f)) {k : Nat} (hk : k < w.heap.size) : (sortWorld enc w blk 0 m d os).shape? k = w.shape? k := by
  by_cases e : k = blk
  · subst e
    unfold World.shape?
    rw [sw_blk enc w k m d os hb, hb]
    simp [putCells]
  · exact shape_of_heap (sw_other enc w blk m d os (Array.getElem?_eq_some_iff.1 hb).1 hk e)
end
theorem swoL (s : StateD) : SWO (ltOf (fun x y : Fin s.jobs.length => ordI s x.val y.val)) where
  irrefl x := by unfold ltOf; rw [ord_lt]; exact ah_irr s _
  trans x y z h1 h2 := by unfold ltOf at *; rw [ord_lt] at *; exact ah_trans h1 h2
  ntrans x y z h1 h2 := by
    unfold ltOf at *; rw [ord_lt] at *
    cases h : ahB s x.val z.val with
    | false => rfl
    | true =>
      by_cases e : y.val = x.val
      · rw [← e] at h; rw [h] at h2; exact h2
      · rcases ah_total (s := s) (fun h => e h.symm) with k | k
        · rw [k] at h1; exact h1
        · have := ah_trans k h; rw [this] at h2; exact h2
theorem totL (s : StateD) (x y : Fin s.jobs.length) (h1 : ltOf (fun x y : Fin s.jobs.length => ordI s x.val y.val) x y = false) (h2 : ltOf (fun x y : Fin s.jobs.length => ordI s x.val y.val) y x = false) : x = y := by
  unfold ltOf at *; rw [ord_lt] at *
  by_cases e : x.val = y.val
  · exact Fin.ext e
  · rcases ah_total (s := s) e with k | k
    · rw [k] at h1; cases h1
    · rw [k] at h2; cases h2
set_option maxRecDepth 100000 in
set_option maxHeartbeats 2000000 in
theorem sort_tri (s : StateD) (hl : s.jobs.length ≤ 1000000) (hp : Prios s) (l : List (Fin s.jobs.length)) (hll : l.length ≤ 1000000) :
    Tri Tryz.prog G 79 [.sl 0 l.length 1 0 l.length, .fn (.func 80) [] [.ptr 1 0]] [.dat 3 1 (idxR l), boxS s] (.tup []) [.dat 3 1 (idxR (l.mergeSort fun x y => !ahB s y.val x.val)), boxS s] := by
  refine ⟨by decide, fun J ι w vs S hR => ?_⟩
  obtain ⟨vl⟩ := vs
  match vl, hR with
  | [v0, v1], ⟨h0, h1, _⟩ =>
  obtain ⟨fs, cs, rfl, hfs, hcs⟩ := h1
  obtain ⟨fl⟩ := fs
  obtain ⟨cl⟩ := cs
  match fl, hfs, cl, hcs with
  | [], _, [p], ⟨⟨bs, hbs, hpv⟩, _⟩ =>
  subst hpv
  by_cases hnil : l = []
  · subst hnil
    rw [List.mergeSort_nil]
    obtain ⟨p, cap, rfl⟩ : ∃ p cap, v0 = .slice p 0 cap := by
      rcases h0 with ⟨_, a, rfl⟩ | ⟨b, cap, et, C, _, rfl, _⟩
      · exact ⟨a, 0, rfl⟩
      · exact ⟨_, cap, rfl⟩
    have hc := AnyF.slices_SortFunc_none (P := Tryz.prog) (ρ := Tryz.sortL_ren) { Tryz.sortL with } p cap (.func (.func 80) #[] #[.pointer (some ⟨bs, 0, none⟩)]) w
    change Calls Tryz.prog 79 _ _ _ at hc
    refine hc.mono ?_
    rintro e w' ⟨rfl, rfl⟩
    exact ⟨.tuple #[], rfl, After.stay S (show Rep J _ ι (.tup []) (.tuple #[]) from ⟨#[], rfl, trivial⟩)⟩
  obtain ⟨x0, _⟩ := List.exists_mem_of_ne_nil l hnil
  haveI : Inhabited (Fin s.jobs.length) := ⟨x0⟩
  have hpos : 0 < l.length := List.length_pos_iff.2 hnil
  obtain ⟨b, cap, et', C', hb, rfl, hcap, _, _⟩ := h0.resolve_left (fun h => by omega)
  have hrep0 := S.rep 0
  have hrep1 := S.rep 1
  obtain ⟨⟨_, hdat⟩, hkey⟩ := hrep0
  have hlen : (idxR l).length = l.length := List.length_map _
  rw [hlen] at hdat
  obtain ⟨⟨C, hC⟩, hrows⟩ := hdat b hb
  obtain ⟨⟨bs', B, hbs', hB, hBc⟩, _⟩ := hrep1
  rw [hbs] at hbs'; cases hbs'
  have hblt := (Array.getElem?_eq_some_iff.1 hC).1
  have hown0 : (objL (List.map some [LObj.dat 3 1 (idxR l), boxS s]) 0).own ι 0 b := by show ι 0 (idxR l).length = some b; rw [hlen]; exact hb
  have hown1 : (objL (List.map some [LObj.dat 3 1 (idxR l), boxS s]) 1).own ι 1 bs := hbs
  have hne : bs ≠ b := fun e => by
    have := S.inj 1 0 b (by rw [← e]; exact hown1) hown0
    cases this
  have hnJ : ∀ k, J k → k ≠ b := fun k hk e => S.disj 0 b hown0 (e ▸ hk)
  have hcell : ∀ k x, l[k]? = some x → w.cell? ⟨b, k, none⟩ = some (encF x) := fun k x hk => by
    have hr : (idxR l)[k]? = some [i64 ((x.val + 1 : Nat) : Int)] := by unfold idxR; rw [List.getElem?_map, hk]; rfl
    obtain ⟨_, h⟩ := hrows.get hr
    obtain ⟨v, h1, _, h3⟩ := h.get (i := 0) rfl
    have h3 : v = encF x := h3
    rw [h3] at h1
    simpa using h1
  have hH : Holds encF w b 0 l.toArray := fun j hj => by
    have hj' : j < l.length := by simpa using hj
    have hx : l[j]? = some l[j] := List.getElem?_eq_getElem hj'
    have e : l.toArray[j]! = l[j] := by simp [hj']
    rw [e, Nat.zero_add]
    exact ⟨hcell j _ hx, by simp [World.frozen?,hC]⟩
  obtain ⟨S0, _⟩ := S.sub (ρ := []) (Z := []) (fobjs := []) (base := 0) List.nodup_nil (fun _ h => by cases h) rfl (fun i o h => by simp at h) rfl
  have hcmp : CmpLays1 Tryz.prog 80 #[.pointer (some ⟨bs, 0, none⟩)] encF (fun x y : Fin s.jobs.length => ordI s x.val y.val) b 0 l.toArray.size w := fun m os dk hs x y => by
    have hds := toDs_rep (ds := [.lst 5 (s.nodes.map nodeR), .lst 12 (s.jobs.map jobR), i64 s.goal, i64 s.prior, i64 s.mode, i64 s.term]) rfl hBc.toL
    have hJ' : ∀ k, (J k ∨ OwnZ ι (objL (List.map some [LObj.dat 3 1 (idxR l), boxS s])) [] k) → J k := fun k h => h.resolve_right (fun ⟨z, hz, _⟩ => by cases hz)
    have hsame : ∀ k, J k → (sortWorld encF w b 0 m dk os).heap[k]? = w.heap[k]? := fun k hk => sw_other encF w b m dk os hblt (S.jlt k hk) (hnJ k hk)
    have hst := S0.still (w' := sortWorld encF w b 0 m dk os) (fun k hk => hsame k (hJ' k hk)) (fun k hk => by
      obtain ⟨o, ho⟩ := hk
      simp [objL,OSt.own] at ho) (fun k hk => sw_shape encF w b m dk os hC (shape_lt hk))
    refine line1_calls s hl hp x.val y.val x.isLt y.isLt hst (C := B) (et := 27) ((sw_other encF w b m dk os hblt (Array.getElem?_eq_some_iff.1 hB).1 hne).trans hB) ?_
    exact RepDL.mapC (RepDL.mono (fun k hk => .inl hk) hsame _ _ hds) hBc.one
  have hc := Any.slices_SortFunc_total Tryz.sortL encF (fun _ => rfl) (fun x y : Fin s.jobs.length => ordI s x.val y.val) (swoL s) 80 #[.pointer (some ⟨bs, 0, none⟩)] b 0 cap l.toArray w (enters_of Tryz.func80 (by kernel_rfl) rfl) hcmp hH hblt (by simp; omega) (totL s)
  change Calls Tryz.prog 79 _ _ _ at hc
  simp only [List.size_toArray,Nat.zero_mul] at hc ⊢
  refine hc.mono ?_
  rintro e w' ⟨rfl, m, os, rfl⟩
  refine ⟨_, rfl, ?_⟩
  have elt : (fun x y : Fin s.jobs.length => !ltOf (fun x y : Fin s.jobs.length => ordI s x.val y.val) y x) = fun x y => !ahB s y.val x.val := by
    funext x y
    unfold ltOf
    rw [ord_lt]
  rw [elt]
  generalize hl' : (l.mergeSort fun x y => !ahB s y.val x.val) = l'
  have hlen' : l'.length = l.length := by rw [← hl']; exact List.length_mergeSort _
  have hSW : SW encF w b 0 l'.toArray (sortWorld encF w b 0 m l'.toArray os) := ⟨m, os, rfl⟩
  have hH' := hSW.holds hblt hH (by simpa using hlen')
  have hcell' : ∀ k x, l'[k]? = some x → (sortWorld encF w b 0 m l'.toArray os).cell? ⟨b, k, none⟩ = some (encF x) := fun k x hk => by
    obtain ⟨hk1, hk2⟩ := List.getElem?_eq_some_iff.1 hk
    have := (hH' k (by simpa using hk1)).1
    have e : l'.toArray[k]! = x := by simp [hk1,hk2]
    rw [e, Nat.zero_add] at this
    exact this
  have E : Ev (Own ι (objL (List.map some [LObj.dat 3 1 (idxR l), boxS s]))) J J ι ι w (sortWorld encF w b 0 m l'.toArray os) :=
    ⟨rfl, rfl, rfl, sw_size encF w b m _ os, fun k hk hn => sw_other encF w b m _ os hblt hk (fun e => hn ⟨0, e ▸ hown0⟩), fun k hk => sw_shape encF w b m _ os hC hk, fun _ h => h, fun _ h => .inl h, fun _ _ _ h => h⟩
  obtain ⟨S1, E1⟩ := S.turn 0 (.live (.dat 3 1 (idxR l'))) E (fun _ _ _ => rfl) (fun k hk hn => sw_other encF w b m _ os hblt hk (fun e => hn (e ▸ hown0))) (by
    have hlr : (idxR l').length = l.length := by unfold idxR; rw [List.length_map, hlen']
    refine ⟨⟨.inr (by rw [hlr, hb]; rfl), fun k hk => ?_⟩, fun n hn => hkey n (by rw [hlen]; rw [hlr] at hn; exact hn)⟩
    rw [hlr, hb] at hk
    cases hk
    exact ⟨⟨_, sw_blk encF w b m _ os hC⟩, rowsD_cells l' b 0 (fun k x hk => by rw [Nat.zero_add]; exact hcell' k x hk)⟩) (fun k hk => by
    have hlr : (idxR l').length = l.length := by unfold idxR; rw [List.length_map, hlen']
    have hk : ι 0 (idxR l').length = some k := hk
    rw [hlr, hb] at hk
    cases hk
    exact .inl hown0)
  have e : (fun o => if o = 0 then OSt.live (LObj.dat 3 1 (idxR l')) else objL (List.map some [LObj.dat 3 1 (idxR l), boxS s]) o) = objL (List.map some [LObj.dat 3 1 (idxR l'), boxS s]) := by
    funext o
    cases o <;> rfl
  rw [e] at S1 E1
  exact ⟨J, ι, S1, ⟨#[], rfl, trivial⟩, E1⟩
end Dv

namespace Dv
open Go Go.Proofs
variable {G : Nat → Option (List DV)}

def ir45 : Nat × C × List RV := (30,
(.seq (.reg [qo 1 (.box 27 (.t 0)),
 qo 2 (.mv (.c (.val (.slice none 0 0))))])
 (.seq (.reg [qo 3 (.mv (.c (.val (.slice none 0 0))))])
 (.seq (.seq (.reg [qo 4 (.mv (qk 0))])
 (.block 0 (.loop (.seq (.seq (.reg [qm 6 4,
 qo 7 (.fad 1 (.t 1)),
 qo 8 (.ld1 (.t 7)),
 qo 9 (.len (.t 8)),
 qo 10 (.bin .lss (.t 6) (.t 9))])
 (.cond (.t 10) .skip
 (.exit 0)))
 (.seq (.block 1 (.seq (.reg [qo 5 (.mv (qk 1))])
 (.block 2 (.loop (.seq (.seq (.reg [qm 13 5,
 qo 14 (.fad 1 (.t 1)),
 qo 15 (.ld1 (.t 14)),
 qo 16 (.len (.t 15)),
 qo 17 (.bin .leq (.t 13) (.t 16))])
 (.cond (.t 17) .skip
 (.exit 2)))
 (.seq (.block 3 (.seq (.reg [qo 20 (.ldn 6 (.t 1)),
 qm 21 5,
 qo 22 (.call (.f 66) [(.t 20),(.t 21)]),
 qm 23 4,
 qo 24 (.bin .eql (.t 22) (.t 23))])
 (.cond (.t 24) (.reg [qm 25 3,
 qm 26 5,
 qo 27 (.bsl 3 1 [(.t 26)]),
 qo 28 (.app 3 1 8 (.t 25) (.t 27)),
 qm 3 28])
 .skip)))
 (.reg [qm 18 5,
 qo 19 (.bin .add (.t 18) (qk 1)),
 qm 5 19])))))))
 (.reg [qm 11 4,
 qo 12 (.bin .add (.t 11) (qk 1)),
 qm 4 12]))))))
 (.seq (.reg [qm 29 3,
 qm 2 29])
 .ret)))),
[(.t 2)])
theorem irOk45 : convFn Tryz.prog Tryz.f45 = some ir45 := by kernel_rfl
def ir66 : Nat × C × List RV := (50,
(.seq (.reg [qo 2 (.box 27 (.t 0)),
 qo 4 (.mv (qk 0))])
 (.seq (.seq (.reg [qm 7 1,
 qo 8 (.bin .lss (.t 7) (qk 1)),
 qm 9 8,
 qg 10 (.mv (.t 1)) 9 false,
 qg 11 (.fad 1 (.t 2)) 9 false,
 qg 12 (.ld1 (.t 11)) 9 false,
 qg 13 (.len (.t 12)) 9 false,
 qg 14 (.bin .gtr (.t 10) (.t 13)) 9 false,
 qo 15 (.pick (.t 9) qt (.t 14)),
 qm 16 15,
 qg 17 (.fad 1 (.t 2)) 16 false,
 qg 18 (.ld1 (.t 17)) 16 false,
 qg 19 (.mv (.t 1)) 16 false,
 qg 20 (.bin .sub (.t 19) (qk 1)) 16 false,
 qg 21 (.ixa 12 (.t 18) (.t 20)) 16 false,
 qg 22 (.fad 6 (.t 21)) 16 false,
 qg 23 (.ld1 (.t 22)) 16 false,
 qg 24 (.bin .neq (.t 23) (qk 0)) 16 false,
 qo 25 (.pick (.t 16) qt (.t 24))])
 (.cond (.t 25) (.seq (.reg [qo 4 (.mv (.c (.val (.int .i64 (-1)))))])
 .ret)
 .skip))
 (.seq (.reg [qo 5 (.mv (qk 0))])
 (.seq (.seq (.reg [qo 6 (.mv (qk 1))])
 (.block 0 (.loop (.seq (.seq (.reg [qm 26 6,
 qo 27 (.fad 1 (.t 2)),
 qo 28 (.ld1 (.t 27)),
 qo 29 (.len (.t 28)),
 qo 30 (.bin .leq (.t 26) (.t 29))])
 (.cond (.t 30) .skip
 (.exit 0)))
 (.seq (.block 1 (.seq (.reg [qo 33 (.fad 1 (.t 2)),
 qo 34 (.ld1 (.t 33)),
 qm 35 6,
 qo 36 (.bin .sub (.t 35) (qk 1)),
 qo 37 (.ixa 12 (.t 34) (.t 36)),
 qo 38 (.fad 6 (.t 37)),
 qo 39 (.ld1 (.t 38)),
 qo 40 (.bin .eql (.t 39) (qk 0)),
 qm 41 40,
 qg 42 (.ldn 6 (.t 2)) 41 true,
 qg 43 (.mv (.t 6)) 41 true,
 qg 44 (.mv (.t 1)) 41 true,
 qg 45 (.call (.f 86) [(.t 42),(.t 43),(.t 44)]) 41 true,
 qo 46 (.pick (.t 41) (.t 45) qf)])
 (.cond (.t 46) (.reg [qm 47 5,
 qo 48 (.bin .add (.t 47) (qk 1)),
 qm 5 48])
 .skip)))
 (.reg [qm 31 6,
 qo 32 (.bin .add (.t 31) (qk 1)),
 qm 6 32]))))))
 (.seq (.reg [qm 49 5,
 qm 4 49])
 .ret))))),
[(.t 4)])
theorem irOk66 : convFn Tryz.prog Tryz.f66 = some ir66 := by kernel_rfl
def ir86 : Nat × C × List RV := (56,
(.seq (.reg [qo 3 (.box 27 (.t 0)),
 qo 6 (.mv qf)])
 (.seq (.seq (.reg [qm 9 1,
 qo 10 (.bin .lss (.t 9) (qk 1)),
 qm 11 10,
 qg 12 (.mv (.t 2)) 11 false,
 qg 13 (.bin .lss (.t 12) (qk 1)) 11 false,
 qo 14 (.pick (.t 11) qt (.t 13)),
 qm 15 14,
 qg 16 (.mv (.t 1)) 15 false,
 qg 17 (.fad 1 (.t 3)) 15 false,
 qg 18 (.ld1 (.t 17)) 15 false,
 qg 19 (.len (.t 18)) 15 false,
 qg 20 (.bin .gtr (.t 16) (.t 19)) 15 false,
 qo 21 (.pick (.t 15) qt (.t 20)),
 qm 22 21,
 qg 23 (.mv (.t 2)) 22 false,
 qg 24 (.fad 1 (.t 3)) 22 false,
 qg 25 (.ld1 (.t 24)) 22 false,
 qg 26 (.len (.t 25)) 22 false,
 qg 27 (.bin .gtr (.t 23) (.t 26)) 22 false,
 qo 28 (.pick (.t 22) qt (.t 27))])
 (.cond (.t 28) (.seq (.reg [qo 6 (.mv qf)])
 .ret)
 .skip))
 (.seq (.regD [qo 29 (.fad 1 (.t 3)),
 qd 30 (.ld1 (.t 29)) [0],
 qm 31 1,
 qd 32 (.bin .sub (.t 31) (qk 1)) [2],
 qd 33 (.ixa 12 (.t 30) (.t 32)) [1,0,3,2],
 qd 34 (.fad 1 (.t 33)) [4,1,0,3,2],
 qd 35 (.ld1 (.t 34)) [5,4,1,0,3,2],
 qo 36 (.fad 1 (.t 3)),
 qd 37 (.ld1 (.t 36)) [7],
 qm 38 2,
 qd 39 (.bin .sub (.t 38) (qk 1)) [9],
 qd 40 (.ixa 12 (.t 37) (.t 39)) [8,7,10,9],
 qd 41 (.fad 1 (.t 40)) [11,8,7,10,9],
 qd 42 (.ld1 (.t 41)) [12,11,8,7,10,9],
 qd 7 (.mv (.t 35)) [6,5,4,1,0,3,2],
 qd 8 (.mv (.t 42)) [13,12,11,8,7,10,9,14,6,5,4,1,0,3,2]])
 (.seq (.reg [qm 43 7,
 qm 44 8,
 qo 45 (.bin .gtr (.t 43) (.t 44)),
 qm 46 45,
 qg 47 (.mv (.t 7)) 46 false,
 qg 48 (.mv (.t 8)) 46 false,
 qg 49 (.bin .eql (.t 47) (.t 48)) 46 false,
 qg 50 (.mv (.t 49)) 46 false,
 qg 51 (.mv (.t 1)) 50 true,
 qg 52 (.mv (.t 2)) 50 true,
 qg 53 (.bin .lss (.t 51) (.t 52)) 50 true,
 qg 54 (.pick (.t 50) (.t 53) qf) 46 false,
 qo 55 (.pick (.t 46) qt (.t 54)),
 qm 6 55])
 .ret)))),
[(.t 6)])
theorem irOk86 : convFn Tryz.prog Tryz.f86 = some ir86 := by kernel_rfl


def natR (l : List Nat) : List (List DV) := l.map fun i => [i64 ((i + 1 : Nat) : Int)]
def queuedTo (s : StateD) (k : Nat) : List Nat := (List.range k).filter (qB s)
theorem queuedTo_succ (s : StateD) (k : Nat) : queuedTo s (k + 1) = queuedTo s k ++ (if qB s k = true then [k] else []) := by
  unfold queuedTo
  rw [List.range_succ, List.filter_append]
  simp only [List.filter_cons,List.filter_nil]
theorem queuedTo_len (s : StateD) (k : Nat) : (queuedTo s k).length ≤ k := by
  have := List.length_filter_le (qB s) (List.range k)
  simpa [queuedTo] using this
def qF (s : StateD) : List (Fin s.jobs.length) := (queued s).pmap (fun i h => ⟨i, h⟩) (fun i hi => (mem_queued.1 hi).1)
theorem qF_val (s : StateD) : (qF s).map (·.val) = queued s := by
  unfold qF
  rw [List.map_pmap, List.pmap_eq_map, List.map_id']
theorem idxR_val {n : Nat} (l : List (Fin n)) : idxR l = natR (l.map (·.val)) := by
  unfold idxR natR
  rw [List.map_map]; rfl
theorem qF_sort (s : StateD) : ((qF s).mergeSort fun x y => !ahB s y.val x.val).map (·.val) = lineN s := by
  unfold lineN
  rw [← qF_val s]
  exact List.map_mergeSort (fun _ _ _ _ => rfl)
def lnS (s : StateD) (k : Nat) : St := ⟨[(1, .ptr 0 0), (3, .sl 1 (queuedTo s k).length 1 0 (queuedTo s k).length), (7, jobsV s.jobs), (8, .int s.jobs.length), (9, .int k)], [some (boxS s), some (.dat 3 1 (natR (queuedTo s k)))]⟩
set_option maxHeartbeats 4000000 in
theorem line_tri (s : StateD) (hn : s.jobs.length ≤ 1000) (hp : Prios s) : Tri Tryz.prog G 61 [stateV s] [] (.d (.lst 1 (natR (lineN s)))) [] := by
  refine tri_W Tryz.func61 (by decide) irOk61 (Nat.le_of_ble_eq_true rfl) ?_
  simp only [ir61,go_sem,simprocAttr]
  refine W_loopI [1, 3, 7, 8, 9] [.t 3 3 1] (fun k : Nat => k ≤ s.jobs.length) (fun k => s.jobs.length - k) (lnS s) 0 ?_ (Nat.zero_le _) (fun k hk => ?_)
  · simp only [lnS,boxS,go_sem,simprocAttr,queuedTo,List.range_zero,List.filter_nil,natR,Int.natCast_zero]
  simp only [lnS,boxS,go_sem,simprocAttr]
  by_cases hlt : k < s.jobs.length
  · have hg := get_mapD (f := jobR) zeroJob hlt
    have hk2 := queuedTo_succ s k
    have hlen := queuedTo_len s k
    have hbd : ((queuedTo s k).length + 1) * 8 ≤ 70368744177664 := by omega
    have hq : qB s k = decide ((s.jobs.getD k zeroJob).phase = 0) := rfl
    generalize s.jobs.getD k zeroJob = j at *
    simp only [jobR] at hg
    simp only [decide_eq_true (show ((k : Nat) : Int) < ((s.jobs.length : Nat) : Int) by omega),hg,go_sem,simprocAttr]
    by_cases hb : j.phase = 0
    · rw [hq, decide_eq_true hb, if_pos rfl] at hk2
      simp only [show (j.phase == 0) = true from beq_iff_eq.2 hb,natR,List.length_append,hbd,wrap_succ (show k < 9223372036854775807 by omega),go_sem,simprocAttr]
      refine W_lpI (k + 1) ?_ ?_ (by omega) (by omega)
      · simp only [go_sem,simprocAttr]
      · simp only [lnS,boxS,hk2,natR,List.map_append,List.length_append,go_sem,simprocAttr,wrap_succ (show k < 9223372036854775807 by omega)]
    · rw [hq, decide_eq_false hb, if_neg (by decide), List.append_nil] at hk2
      simp only [show (j.phase == 0) = false from beq_eq_false_iff_ne.2 hb,go_sem,simprocAttr]
      refine W_lpI (k + 1) ?_ ?_ (by omega) (by omega)
      · simp only [go_sem,simprocAttr]
      · simp only [lnS,boxS,hk2,natR,List.map_append,List.length_append,go_sem,simprocAttr,wrap_succ (show k < 9223372036854775807 by omega)]
  · obtain rfl : k = s.jobs.length := by omega
    simp only [decide_eq_false (show ¬ ((s.jobs.length : Nat) : Int) < ((s.jobs.length : Nat) : Int) by omega),go_sem,simprocAttr]
    have hqe : queuedTo s s.jobs.length = queued s := rfl
    have hS := sort_tri (G := G) s (by omega) hp (qF s) (by
      have := queuedTo_len s s.jobs.length
      have e := congrArg List.length (qF_val s)
      rw [List.length_map] at e
      rw [e, ← hqe]; omega)
    have hlq : (qF s).length = (queuedTo s s.jobs.length).length := by rw [hqe, ← qF_val s, List.length_map]
    rw [idxR_val, idxR_val, qF_val, qF_sort, hlq, ← hqe] at hS
    have hl2 : (queuedTo s s.jobs.length).length = (lineN s).length := by rw [hqe]; exact ((lineN_perm s).length_eq).symm
    generalize queuedTo s s.jobs.length = Q at *
    generalize lineN s = L at *
    rw [hl2] at hS ⊢
    refine W_callo [1, 0] (hS) rfl (by simp only [argRs,argR,List.map_cons,List.map_nil,go_sem,simprocAttr,boxS]) (by decide) (by simp only [go_sem,simprocAttr,boxS]) (by simp only [go_sem,simprocAttr,List.all_cons,List.all_nil,boxS]) (by simp) ?_; simp only [go_sem,simprocAttr,boxS]
    exact BackZ [1] rfl (by simp [St.obj,objL]) (by simp [St.obj,objL,oneOr,St.get,getE,argR,rowsAt,natR,List.take_of_length_le])
end Dv

namespace Dv
open Go Go.Proofs
variable {G : Nat → Option (List DV)}

theorem succ_pred (i : Nat) (h : i ≤ 1000) : IntKind.i64.wrap (((i + 1 : Nat) : Int) - 1) = (i : Int) := by rw [wrap_in (by omega) (by omega)]; omega
set_option maxHeartbeats 4000000 in
theorem ahead14_tri (s : StateD) (i j : Nat) (hn : s.jobs.length ≤ 1000) (hi : i < s.jobs.length) (hj : j < s.jobs.length) : Tri Tryz.prog G 86 [stateV s, .int ((i + 1 : Nat) : Int), .int ((j + 1 : Nat) : Int)] [] (.bool (ahB s i j)) [] := by
  refine tri_W0 Tryz.func86 (by decide) irOk86 (Nat.le_of_ble_eq_true rfl) rfl ?_
  simp only [ir86,go_sem,simprocAttr]
  have hgi := get_mapD (f := jobR) zeroJob hi
  have hgj := get_mapD (f := jobR) zeroJob hj
  have e1 := succ_pred i (by omega)
  have e2 := succ_pred j (by omega)
  unfold ahB prioAt
  generalize s.jobs.getD i zeroJob = x at *
  generalize s.jobs.getD j zeroJob = y at *
  simp only [jobR] at hgi hgj
  simp only [decide_eq_false (show ¬ ((i + 1 : Nat) : Int) < 1 by omega),decide_eq_false (show ¬ ((j + 1 : Nat) : Int) < 1 by omega),decide_eq_false (show ¬ ((i + 1 : Nat) : Int) > (s.jobs.length : Int) by omega),decide_eq_false (show ¬ ((j + 1 : Nat) : Int) > (s.jobs.length : Int) by omega),List.length_map,go_sem,simprocAttr]
  simp only [e1,e2,hgi,hgj,go_sem,simprocAttr]
  by_cases h1 : y.prio < x.prio
  · simp only [decide_eq_true (show x.prio > y.prio from h1),h1,true_or,decide_true,go_sem,simprocAttr]
  · simp only [decide_eq_false (show ¬ x.prio > y.prio from h1),h1,false_or,go_sem,simprocAttr]
    by_cases h2 : x.prio = y.prio
    · by_cases h3 : i < j
      · simp only [show (x.prio == y.prio) = true from beq_iff_eq.2 h2,decide_eq_true (show ((i + 1 : Nat) : Int) < ((j + 1 : Nat) : Int) by omega),h2,h3,and_self,decide_true,go_sem,simprocAttr]
      · simp only [show (x.prio == y.prio) = true from beq_iff_eq.2 h2,decide_eq_false (show ¬ ((i + 1 : Nat) : Int) < ((j + 1 : Nat) : Int) by omega),h2,h3,and_false,decide_false,go_sem,simprocAttr]
    · simp only [show (x.prio == y.prio) = false from beq_eq_false_iff_ne.2 h2,h2,false_and,decide_false,go_sem,simprocAttr]

def placeTo (s : StateD) (i k : Nat) : Nat := (queuedTo s k).countP (fun x => ahB s x i)
theorem placeTo_succ (s : StateD) (i k : Nat) : placeTo s i (k + 1) = placeTo s i k + (if qB s k = true ∧ ahB s k i = true then 1 else 0) := by
  unfold placeTo
  rw [queuedTo_succ, List.countP_append]
  congr 1
  by_cases h : qB s k = true
  · rw [if_pos h]
    by_cases h2 : ahB s k i = true
    · rw [if_pos ⟨h, h2⟩]; simp [h2]
    · rw [if_neg (fun h => h2 h.2)]; simp [h2]
  · rw [if_neg h, if_neg (fun h' => h h'.1)]; rfl
theorem placeTo_le (s : StateD) (i k : Nat) : placeTo s i k ≤ k := Nat.le_trans List.countP_le_length (queuedTo_len s k)
def plS (s : StateD) (i k : Nat) : St := ⟨[(1, .int ((i + 1 : Nat) : Int)), (2, .ptr 0 0), (5, .int (placeTo s i k)), (6, .int ((k + 1 : Nat) : Int))], [some (boxS s)]⟩
set_option maxHeartbeats 4000000 in
theorem place14_tri (s : StateD) (job : Int) (hn : s.jobs.length ≤ 1000) : Tri Tryz.prog G 66 [stateV s, .int job] [] (.int (placeI s job)) [] := by
  refine tri_W0 Tryz.func66 (by decide) irOk66 (Nat.le_of_ble_eq_true rfl) rfl ?_
  simp only [ir66,go_sem,simprocAttr]
  unfold placeI
  by_cases h1 : job < 1
  · simp only [decide_eq_true h1,h1,true_or,if_true,go_sem,simprocAttr]
  simp only [decide_eq_false h1,h1,false_or,List.length_map,go_sem,simprocAttr]
  by_cases h2 : (s.jobs.length : Int) < job
  · simp only [decide_eq_true (show job > (s.jobs.length : Int) from h2),h2,true_or,if_true,go_sem,simprocAttr]
  simp only [decide_eq_false (show ¬ job > (s.jobs.length : Int) from h2),h2,false_or,go_sem,simprocAttr]
  obtain ⟨i, rfl⟩ : ∃ i : Nat, job = ((i + 1 : Nat) : Int) := ⟨(job - 1).toNat, by omega⟩
  have hi : i < s.jobs.length := by omega
  have e1 := succ_pred i (by omega)
  have e0 : (((i + 1 : Nat) : Int) - 1).toNat = i := by omega
  have hgi := get_mapD (f := jobR) zeroJob hi
  generalize hx : s.jobs.getD i zeroJob = x at hgi
  simp only [jobR] at hgi
  simp only [e0,e1,hx,hgi,go_sem,simprocAttr]
  by_cases h3 : x.phase = 0
  case neg => simp only [show (x.phase != 0) = true from bne_iff_ne.2 h3,h3,ne_eq,not_false_eq_true,if_true,go_sem,simprocAttr]
  simp only [h3,bne_self_eq_false,ne_eq,not_true,if_false,go_sem,simprocAttr]
  refine W_loopI [1, 2, 5, 6] [] (fun k : Nat => k ≤ s.jobs.length) (fun k => s.jobs.length - k) (plS s i) 0 ?_ (Nat.zero_le _) (fun k hk => ?_)
  · simp only [plS,boxS,placeTo,queuedTo,List.range_zero,List.filter_nil,List.countP_nil,Int.natCast_zero,Nat.zero_add,Int.natCast_one,go_sem,simprocAttr]
  simp only [plS,boxS,List.length_map,go_sem,simprocAttr]
  by_cases hlt : k < s.jobs.length
  · have e2 := succ_pred k (by omega)
    have hg := get_mapD (f := jobR) zeroJob hlt
    have hp := placeTo_succ s i k
    have hle := placeTo_le s i k
    have hq : qB s k = decide ((s.jobs.getD k zeroJob).phase = 0) := rfl
    generalize s.jobs.getD k zeroJob = j at hg hq
    simp only [jobR] at hg
    simp only [decide_eq_true (show ((k + 1 : Nat) : Int) ≤ ((s.jobs.length : Nat) : Int) by omega),e2,hg,go_sem,simprocAttr]
    by_cases hb : j.phase = 0
    · rw [hq, decide_eq_true hb] at hp
      simp only [hb,beq_self_eq_true,go_sem,simprocAttr]
      refine W_calld (ahead14_tri s k i hn hlt hi) rfl rfl rfl rfl ?_; simp only [go_sem,simprocAttr]
      cases ha : ahB s k i with
      | true =>
        rw [ha, if_pos ⟨rfl, rfl⟩] at hp
        simp only [go_sem,simprocAttr]
        refine W_lpI (k + 1) ?_ ?_ (by omega) (by omega)
        · simp only [go_sem,simprocAttr]
        · simp only [plS,boxS,hp,wrap_succ (show placeTo s i k < 9223372036854775807 by omega),wrap_succ (show k + 1 < 9223372036854775807 by omega),go_sem,simprocAttr]
      | false =>
        rw [ha, if_neg (fun h => by cases h.2)] at hp
        simp only [go_sem,simprocAttr]
        refine W_lpI (k + 1) ?_ ?_ (by omega) (by omega)
        · simp only [go_sem,simprocAttr]
        · simp only [plS,boxS,hp,Nat.add_zero,wrap_succ (show k + 1 < 9223372036854775807 by omega),go_sem,simprocAttr]
    · rw [hq, decide_eq_false hb, if_neg (fun h => by cases h.1)] at hp
      simp only [show (j.phase == 0) = false from beq_eq_false_iff_ne.2 hb,go_sem,simprocAttr]
      refine W_lpI (k + 1) ?_ ?_ (by omega) (by omega)
      · simp only [go_sem,simprocAttr]
      · simp only [plS,boxS,hp,Nat.add_zero,wrap_succ (show k + 1 < 9223372036854775807 by omega),go_sem,simprocAttr]
  · obtain rfl : k = s.jobs.length := by omega
    have e : placeTo s i s.jobs.length = placeN s i := rfl
    simp only [decide_eq_false (show ¬ ((s.jobs.length + 1 : Nat) : Int) ≤ ((s.jobs.length : Nat) : Int) by omega),e,go_sem,simprocAttr]


def atTo (s : StateD) (p k : Nat) : List Nat := (List.range k).filter (fun i => qB s i && decide (placeN s i = p))
theorem atTo_succ (s : StateD) (p k : Nat) : atTo s p (k + 1) = atTo s p k ++ (if (qB s k && decide (placeN s k = p)) = true then [k] else []) := by
  unfold atTo
  rw [List.range_succ, List.filter_append]
  simp only [List.filter_cons,List.filter_nil]
theorem atTo_len (s : StateD) (p k : Nat) : (atTo s p k).length ≤ k := by
  have := List.length_filter_le (fun i => qB s i && decide (placeN s i = p)) (List.range k)
  simpa [atTo] using this
def lineTo (s : StateD) (p : Nat) : List Nat := (List.range p).flatMap (atPlace s)
theorem lineTo_succ (s : StateD) (p : Nat) : lineTo s (p + 1) = lineTo s p ++ atTo s p s.jobs.length := by
  unfold lineTo
  rw [List.range_succ, List.flatMap_append]
  simp [atPlace,atTo]
theorem lineTo_len (s : StateD) : ∀ p : Nat, (lineTo s p).length ≤ p * s.jobs.length
  | 0 => by simp [lineTo]
  | p + 1 => by
    have := lineTo_len s p
    have := atTo_len s p s.jobs.length
    rw [lineTo_succ, List.length_append, Nat.add_mul]
    omega
theorem placeI_at (s : StateD) (p k : Nat) (hk : k < s.jobs.length) : (placeI s ((k + 1 : Nat) : Int) == (p : Int)) = (qB s k && decide (placeN s k = p)) := by
  unfold placeI qB
  have e0 : (((k + 1 : Nat) : Int) - 1).toNat = k := by omega
  rw [e0]
  by_cases h : (s.jobs.getD k zeroJob).phase = 0
  · rw [if_neg (by rintro (h1 | h1 | h1); omega; omega; exact h1 h), decide_eq_true h, Bool.true_and]
    rw [Bool.eq_iff_iff, beq_iff_eq, decide_eq_true_eq]
    omega
  · rw [if_pos (.inr (.inr h)), decide_eq_false h, Bool.false_and, beq_eq_false_iff_ne]
    omega
def l14O (s : StateD) (p : Nat) : St := ⟨[(1, .ptr 0 0), (3, .sl 1 (lineTo s p).length 1 0 (lineTo s p).length), (4, .int p)], [some (boxS s), some (.dat 3 1 (natR (lineTo s p)))]⟩
def l14I (s : StateD) (p k : Nat) : St := ⟨[(1, .ptr 0 0), (3, .sl 1 (lineTo s p ++ atTo s p k).length 1 0 (lineTo s p ++ atTo s p k).length), (4, .int p), (5, .int ((k + 1 : Nat) : Int))], [some (boxS s), some (.dat 3 1 (natR (lineTo s p ++ atTo s p k)))]⟩
set_option maxHeartbeats 4000000 in
theorem line14_tri (s : StateD) (hn : s.jobs.length ≤ 1000) : Tri Tryz.prog G 45 [stateV s] [] (.d (.lst 1 (natR (lineN s)))) [] := by
  refine tri_W Tryz.func45 (by decide) irOk45 (Nat.le_of_ble_eq_true rfl) ?_
  simp only [ir45,go_sem,simprocAttr]
  refine W_loopI [1, 3, 4] [.t 3 3 1] (fun p : Nat => p ≤ s.jobs.length) (fun p => s.jobs.length - p) (l14O s) 0 ?_ (Nat.zero_le _) (fun p hp => ?_)
  · simp only [l14O,boxS,go_sem,simprocAttr,lineTo,List.range_zero,List.flatMap_nil,natR,Int.natCast_zero]
  simp only [l14O,boxS,List.length_map,go_sem,simprocAttr]
  by_cases hlt : p < s.jobs.length
  · simp only [decide_eq_true (show ((p : Nat) : Int) < ((s.jobs.length : Nat) : Int) by omega),go_sem,simprocAttr]
    have hls := lineTo_succ s p
    have hll := lineTo_len s p
    have hpn : p * s.jobs.length ≤ 1000 * 1000 := Nat.mul_le_mul (by omega) hn
    refine W_loopI [1, 3, 4, 5] [] (fun k : Nat => k ≤ s.jobs.length) (fun k => s.jobs.length - k) (l14I s p) 0 ?_ (Nat.zero_le _) (fun k hk => ?_)
    · simp only [l14I,boxS,go_sem,simprocAttr,atTo,List.range_zero,List.filter_nil,Nat.zero_add,Int.natCast_one]
    simp only [l14I,boxS,List.length_map,go_sem,simprocAttr]
    by_cases hkt : k < s.jobs.length
    · simp only [decide_eq_true (show ((k + 1 : Nat) : Int) ≤ ((s.jobs.length : Nat) : Int) by omega),go_sem,simprocAttr]
      have ha := atTo_succ s p k
      have hal := atTo_len s p k
      have hpa := placeI_at s p k hkt
      have hbd : ((lineTo s p).length + (atTo s p k).length + 1) * 8 ≤ 70368744177664 := by omega
      refine W_calld (place14_tri s ((k + 1 : Nat) : Int) hn) rfl rfl rfl rfl ?_; simp only [go_sem,simprocAttr]
      cases hq : (qB s k && decide (placeN s k = p)) with
      | true =>
        rw [hq, if_pos rfl] at ha
        rw [hq] at hpa
        simp only [hpa,natR,List.length_append,hbd,go_sem,simprocAttr]
        refine W_lpI (k + 1) ?_ ?_ (by omega) (by omega)
        · simp only [go_sem,simprocAttr]
        · simp only [l14I,boxS,ha,natR,List.map_append,List.length_append,← List.append_assoc,Nat.add_assoc,wrap_succ (show k + 1 < 9223372036854775807 by omega),go_sem,simprocAttr]
      | false =>
        rw [hq, if_neg (by decide), List.append_nil] at ha
        rw [hq] at hpa
        simp only [hpa,go_sem,simprocAttr]
        refine W_lpI (k + 1) ?_ ?_ (by omega) (by omega)
        · simp only [go_sem,simprocAttr]
        · simp only [l14I,boxS,ha,wrap_succ (show k + 1 < 9223372036854775807 by omega),go_sem,simprocAttr]
    · obtain rfl : k = s.jobs.length := by omega
      simp only [decide_eq_false (show ¬ ((s.jobs.length + 1 : Nat) : Int) ≤ ((s.jobs.length : Nat) : Int) by omega),← hls,go_sem,simprocAttr]
      refine W_lpI (p + 1) ?_ ?_ (by omega) (by omega)
      · simp only [go_sem,simprocAttr]
      · simp only [l14O,boxS,wrap_succ (show p < 9223372036854775807 by omega),go_sem,simprocAttr]
  · obtain rfl : p = s.jobs.length := by omega
    have e : lineTo s s.jobs.length = lineN s := by rw [← lineR_eq]; rfl
    simp only [decide_eq_false (show ¬ ((s.jobs.length : Nat) : Int) < ((s.jobs.length : Nat) : Int) by omega),e,go_sem,simprocAttr]
    exact BackZ [1] rfl (by simp [St.obj,objL]) (by simp [St.obj,objL,oneOr,St.get,getE,argR,rowsAt,natR,List.take_of_length_le])
end Dv
