/- plan.steps: its iterator. -/
import Derived.Test.YtcanhhnmfkdclaaGreatDoorU2
import Derived.Test.YtcanhhnmfkdclaaGreatDoorT18
import Derived.Test.YtcanhhnmfkdclaaGreatDoorDA
import Derived.Test.YtcanhhnmfkdclaaGreatDoorL3
set_option linter.unusedVariables false
set_option linter.unusedSimpArgs false
namespace Dv
open Go
abbrev El := OpD × StateD × List Value
def chainP (c : ConfD) (now : Int) : StateD → List El → StateD → Prop
  | s, [], t => s = t
  | s, x :: l, t => planO c s now = some x.1 ∧ applyD c s x.1 = (x.2.1, 0) ∧ chainP c now x.2.1 l t
theorem chain_snoc {c : ConfD} {now : Int} {x : El} : ∀ {l : List El} {s u : StateD}, chainP c now s l u → planO c u now = some x.1 → applyD c u x.1 = (x.2.1, 0) → chainP c now s (l ++ [x]) x.2.1
  | [], s, u, h, h1, h2 => by obtain rfl : s = u := h; exact ⟨h1, h2, rfl⟩
  | y :: l, s, u, ⟨h0, h3, h⟩, h1, h2 => ⟨h0, h3, chain_snoc h h1 h2⟩
def stopP (c : ConfD) (now : Int) (s : StateD) : Prop := planO c s now = none ∨ ∃ o, planO c s now = some o ∧ (applyD c s o).2 ≠ 0
theorem conf_arg {J : Nat → Prop} {w : World} {ι : Nat → Nat → Option Nat} {c : ConfD} : Rep J w ι (confV c) (.agg (confV9 c)) := ⟨_, rfl, rfl, rfl, rfl, rfl, rfl, rfl, rfl, rfl, rfl, rfl, rfl, rfl, rfl, rfl, rfl, rfl, rfl, rfl, trivial⟩
theorem op_arg {J : Nat → Prop} {w : World} {ι : Nat → Nat → Option Nat} {o : OpD} : Rep J w ι (opV o) (.agg (opV7 o)) := ⟨_, rfl, rfl, rfl, rfl, rfl, rfl, rfl, rfl, rfl, rfl, rfl, rfl, rfl, rfl, rfl, trivial⟩
end Dv
namespace Go.Proofs
open Go.RowKit Go.Shelf
attribute [local go_sem] Oper.semAt_some
def OutB (B2 : Nat) (W : World) (k : Nat) : Prop := ∃ v, W.cell? ⟨B2, 0, none⟩ = some v ∧ v.ownBlock = some k
structure KpOs (B1 B2 : Nat) (W W' : World) : Prop where
  os : W'.os = W.os
  tape : W'.tape = W.tape
  output : W'.output = W.output
  size : W.heap.size ≤ W'.heap.size
  same : ∀ (k : Nat) C t f, k ≠ B1 → k ≠ B2 → ¬ OutB B2 W k → W.heap[k]? = some (.cells C t f) → W'.heap[k]? = some (.cells C t f)
  out : ∀ k, OutB B2 W' k → OutB B2 W k ∨ W.heap.size ≤ k
def KpO (B1 B2 : Nat) (W W' : World) : Prop := B2 < W.heap.size → KpOs B1 B2 W W'
theorem KpO.trans {B1 B2 : Nat} {X Y Z : World} (h : KpO B1 B2 X Y) (k : KpO B1 B2 Y Z) : KpO B1 B2 X Z := fun hB => by
  have h := h hB
  have k := k (Nat.lt_of_lt_of_le hB h.size)
  refine ⟨k.os.trans h.os, k.tape.trans h.tape, k.output.trans h.output, Nat.le_trans h.size k.size, fun i C t f h1 h2 h3 hi => ?_, fun i hi => ?_⟩
  · refine k.same i C t f h1 h2 (fun ho => ?_) (h.same i C t f h1 h2 h3 hi)
    rcases h.out i ho with ho | ho
    · exact h3 ho
    · have := (Array.getElem?_eq_some_iff.1 hi).1; omega
  · rcases k.out i hi with hi | hi
    · exact h.out i hi
    · exact .inr (Nat.le_trans h.size hi)
theorem KpO.grown {B1 B2 : Nat} (A A' : World) (h : A.grownBy A' none) : KpO B1 B2 A A' := fun hB =>
  ⟨h.os, h.tape, h.output, h.size, fun k C t f _ _ _ hk => (h.block k (Array.getElem?_eq_some_iff.1 hk).1 (by simp)).trans hk,
   fun k ⟨v, hv, ho⟩ => .inl ⟨v, by rw [← hv]; exact (Dv.cell_of_heap (h.block B2 hB (by simp))).symm, ho⟩⟩
theorem KpO.put {B1 B2 : Nat} (W : World) (l : Nat) (o o' : Obj) (hl : W.heap[l]? = some o) (ho : o.isCells = false) (hB : B2 ≠ l) : KpO B1 B2 W (W.putObj l o') := fun _ => by
  have hne : ∀ k, k ≠ l → (W.putObj l o').heap[k]? = W.heap[k]? := fun k hk => World.putObj_heap_other hk
  refine ⟨rfl, rfl, rfl, (grownBy_putObj' W l o').size, fun k C t f _ _ _ hk => ?_, fun k ⟨v, hv, hq⟩ => .inl ⟨v, by rw [← hv]; exact (Dv.cell_of_heap (hne B2 hB)).symm, hq⟩⟩
  rw [hne k (by rintro rfl; rw [hl] at hk; cases hk; simp [Obj.isCells] at ho)]; exact hk
theorem OutB.back {B2 : Nat} {W W' : World} {k : Nat} (hg : W.grownBy W' none) (hB : B2 < W.heap.size) (h : OutB B2 W' k) : OutB B2 W k := by
  obtain ⟨v, hv, ho⟩ := h
  exact ⟨v, by rw [← hv]; exact (Dv.cell_of_heap (hg.block B2 hB (by simp))).symm, ho⟩
def lenAt (B2 : Nat) (W : World) : Nat := match W.cell? ⟨B2, 0, none⟩ with
  | some (.slice _ n _) => n
  | _ => 0
structure StI (G : Nat → Option (List Dv.DV)) (ι : Nat → Nat → Option Nat) (c : Dv.ConfD) (now : Int) (s0 : Dv.StateD) (J0 : Nat → Prop) (mB bc bs bn B1 B2 : Nat) (pre : List Dv.El) (sk : Dv.StateD) (zs : List Value) (Js : Nat → Prop) (W : World) : Prop where
  right : Dv.RightP c sk
  chain : Dv.chainP c now s0 pre sk
  box : W.heap[bs]? = some (.cells ⟨zs⟩ 27 (0, 0))
  conf : W.heap[bc]? = some (.cells (Dv.confV9 c) 23 (0, 0))
  time : Boxed W bn 3 (.int .i64 now)
  rep : Dv.StRep G Js W ι sk zs
  off : ∀ k, Js k → k ≠ B1 ∧ k ≠ B2 ∧ k ≠ bs ∧ ¬ OutB B2 W k
  sub : (∀ k, J0 k → Js k) ∧ ∀ k, Js k → J0 k ∨ mB ≤ k
theorem StI.grown {G : Nat → Option (List Dv.DV)} {ι : Nat → Nat → Option Nat} {c : Dv.ConfD} {now : Int} {s0 : Dv.StateD} {J0 : Nat → Prop} {mB bc bs bn B1 B2 : Nat} {pre : List Dv.El} {sk : Dv.StateD} {zs : List Value} {Js : Nat → Prop} {W W' : World} (h : StI G ι c now s0 J0 mB bc bs bn B1 B2 pre sk zs Js W) (hg : W.grownBy W' none) (hB : B2 < W.heap.size) : StI G ι c now s0 J0 mB bc bs bn B1 B2 pre sk zs Js W' :=
  ⟨h.right, h.chain, (hg.block _ (Array.getElem?_eq_some_iff.1 h.box).1 (by simp)).trans h.box, (hg.block _ (Array.getElem?_eq_some_iff.1 h.conf).1 (by simp)).trans h.conf, h.time.kept hg (by simp),
   h.rep.kept (fun k hk => hg.block k (h.rep.st.jlt k hk) (by simp)), fun k hk => ⟨(h.off k hk).1, (h.off k hk).2.1, (h.off k hk).2.2.1, fun ho => (h.off k hk).2.2.2 (ho.back hg hB)⟩, h.sub⟩
theorem StI.cells {G : Nat → Option (List Dv.DV)} {ι : Nat → Nat → Option Nat} {c : Dv.ConfD} {now : Int} {s0 : Dv.StateD} {J0 : Nat → Prop} {mB bc bs bn B1 B2 : Nat} {pre : List Dv.El} {sk : Dv.StateD} {z0 z1 z2 z3 z4 z5 : Value} {Js : Nat → Prop} {wr : World} (h : StI G ι c now s0 J0 mB bc bs bn B1 B2 pre sk [z0, z1, z2, z3, z4, z5] Js wr) :
    (wr.cell? ⟨bs, 0, none⟩ = some z0 ∧ wr.cell? ⟨bs, 1, none⟩ = some z1 ∧ wr.cell? ⟨bs, 2, none⟩ = some z2 ∧ wr.cell? ⟨bs, 3, none⟩ = some z3 ∧ wr.cell? ⟨bs, 4, none⟩ = some z4 ∧ wr.cell? ⟨bs, 5, none⟩ = some z5) ∧
    (wr.cell? ⟨bc, 0, none⟩ = some (.int .i64 c.nodes) ∧ wr.cell? ⟨bc, 1, none⟩ = some (.int .i64 c.queues) ∧ wr.cell? ⟨bc, 2, none⟩ = some (.int .i64 c.quota) ∧ wr.cell? ⟨bc, 3, none⟩ = some (.int .i64 c.wave) ∧ wr.cell? ⟨bc, 4, none⟩ = some (.int .i64 c.lease) ∧ wr.cell? ⟨bc, 5, none⟩ = some (.int .i64 c.retry) ∧ wr.cell? ⟨bc, 6, none⟩ = some (.int .i64 c.deadline) ∧ wr.cell? ⟨bc, 7, none⟩ = some (.int .i64 c.room) ∧ wr.cell? ⟨bc, 8, none⟩ = some (.int .i64 c.disk)) := by
  have hbx := h.box
  have hcf := h.conf
  refine ⟨⟨?_, ?_, ?_, ?_, ?_, ?_⟩, ?_, ?_, ?_, ?_, ?_, ?_, ?_, ?_, ?_⟩ <;> simp [World.cell?,hbx,hcf,Dv.confV9]
theorem grown_of_below {A A' : World} (h : Below A.heap.size A A') : A.grownBy A' none := ⟨h.os, h.tape, h.output, h.size, fun k hk _ => h.block k hk⟩
theorem grown_trans {A B C : World} (h : A.grownBy B none) (k : B.grownBy C none) : A.grownBy C none :=
  ⟨k.os.trans h.os, k.tape.trans h.tape, k.output.trans h.output, Nat.le_trans h.size k.size, fun i hi hn => (k.block i (Nat.lt_of_lt_of_le hi h.size) hn).trans (h.block i hi hn)⟩
theorem grown_alloc {A B : World} (h : A.grownBy B none) (o : Obj) : A.grownBy (B.alloc o) none := grown_trans h (World.grownBy_alloc B o none)
theorem op_cells {W : World} {b : Nat} {v0 v1 v2 v3 v4 v5 v6 : Value} (h : W.heap[b]? = some (.cells #[v0, v1, v2, v3, v4, v5, v6] 32 (0, 0))) : W.cell? ⟨b, 0, none⟩ = some v0 ∧ W.cell? ⟨b, 1, none⟩ = some v1 ∧ W.cell? ⟨b, 2, none⟩ = some v2 ∧ W.cell? ⟨b, 3, none⟩ = some v3 ∧ W.cell? ⟨b, 4, none⟩ = some v4 ∧ W.cell? ⟨b, 5, none⟩ = some v5 ∧ W.cell? ⟨b, 6, none⟩ = some v6 := by
  refine ⟨?_, ?_, ?_, ?_, ?_, ?_, ?_⟩ <;> simp [World.cell?,h]
theorem st_cells {W : World} {b : Nat} {v0 v1 v2 v3 v4 v5 : Value} (h : W.heap[b]? = some (.cells #[v0, v1, v2, v3, v4, v5] 27 (0, 0))) : W.cell? ⟨b, 0, none⟩ = some v0 ∧ W.cell? ⟨b, 1, none⟩ = some v1 ∧ W.cell? ⟨b, 2, none⟩ = some v2 ∧ W.cell? ⟨b, 3, none⟩ = some v3 ∧ W.cell? ⟨b, 4, none⟩ = some v4 ∧ W.cell? ⟨b, 5, none⟩ = some v5 := by
  refine ⟨?_, ?_, ?_, ?_, ?_, ?_⟩ <;> simp [World.cell?,h]
theorem setCells_os (b : Nat) : ∀ (vs : List Value) (o : Nat) (W : World), (W.setCells b o vs).os = W.os ∧ (W.setCells b o vs).tape = W.tape ∧ (W.setCells b o vs).output = W.output
  | [], _, _ => ⟨rfl, rfl, rfl⟩
  | v :: r, o, W => by
    rw [World.setCells]
    exact setCells_os b r (o + 1) (W.setCell ⟨b, o, none⟩ v)
theorem set6_box {W : World} {b : Nat} {v0 v1 v2 v3 v4 v5 : Value} (h : W.heap[b]? = some (.cells #[v0, v1, v2, v3, v4, v5] 27 (0, 0))) (u0 u1 u2 u3 u4 u5 : Value) :
    W.grownBy ((((((W.setCell ⟨b, 0, none⟩ u0).setCell ⟨b, 1, none⟩ u1).setCell ⟨b, 2, none⟩ u2).setCell ⟨b, 3, none⟩ u3).setCell ⟨b, 4, none⟩ u4).setCell ⟨b, 5, none⟩ u5) (some b) ∧
    ((((((W.setCell ⟨b, 0, none⟩ u0).setCell ⟨b, 1, none⟩ u1).setCell ⟨b, 2, none⟩ u2).setCell ⟨b, 3, none⟩ u3).setCell ⟨b, 4, none⟩ u4).setCell ⟨b, 5, none⟩ u5).heap[b]? = some (.cells #[u0, u1, u2, u3, u4, u5] 27 (0, 0)) ∧
    ∀ k, ((((((W.setCell ⟨b, 0, none⟩ u0).setCell ⟨b, 1, none⟩ u1).setCell ⟨b, 2, none⟩ u2).setCell ⟨b, 3, none⟩ u3).setCell ⟨b, 4, none⟩ u4).setCell ⟨b, 5, none⟩ u5).shape? k = W.shape? k := by
  have e : ((((((W.setCell ⟨b, 0, none⟩ u0).setCell ⟨b, 1, none⟩ u1).setCell ⟨b, 2, none⟩ u2).setCell ⟨b, 3, none⟩ u3).setCell ⟨b, 4, none⟩ u4).setCell ⟨b, 5, none⟩ u5) = W.setCells b 0 [u0, u1, u2, u3, u4, u5] := by simp only [World.setCells,Nat.zero_add,Nat.reduceAdd]
  rw [e]
  refine ⟨⟨(setCells_os b _ 0 W).1, (setCells_os b _ 0 W).2.1, (setCells_os b _ 0 W).2.2, by rw [Dv.size_setCells]; exact Nat.le_refl _, fun k hk hn => Dv.heap_setCells_other (fun h => hn (by rw [h])) _ _ _⟩, ?_, fun k => Dv.shape_setCells b _ 0 W k⟩
  obtain ⟨C', hC, hl⟩ := Dv.heap_setCells [u0, u1, u2, u3, u4, u5] 0 W _ h (by simp)
  have hl2 : C'.toList = [u0, u1, u2, u3, u4, u5] := by rw [hl]; simp [Dv.splice]
  obtain ⟨cl⟩ := C'
  simp only at hl2
  subst hl2
  exact hC
def PxS (G : Nat → Option (List Dv.DV)) (ι : Nat → Nat → Option Nat) (c : Dv.ConfD) (now : Int) (s0 : Dv.StateD) (J0 : Nat → Prop) (mB bs B1 B2 : Nat) (pre : List Dv.El) (x : Dv.El) (W : World) : Prop :=
  ∃ sk J', Dv.chainP c now s0 pre sk ∧ Dv.planO c sk now = some x.1 ∧ Dv.applyD c sk x.1 = (x.2.1, 0) ∧ Dv.RightP c x.2.1 ∧ Dv.StRep G J' W ι x.2.1 x.2.2 ∧ ((∀ k, J0 k → J' k) ∧ ∀ k, J' k → J0 k ∨ mB ≤ k) ∧ ∀ k, J' k → k ≠ B1 ∧ k ≠ B2 ∧ k ≠ bs ∧ ¬ OutB B2 W k
def encE (x : Dv.El) : Array Value := #[.agg (Dv.opV7 x.1), .agg ⟨x.2.2⟩]
set_option maxRecDepth 100000 in
set_option maxHeartbeats 4000000 in
theorem steps1_in {ι : Nat → Nat → Option Nat} (c : Dv.ConfD) (s0 : Dv.StateD) (now most : Int) (h0 : Dv.TimeR now) (n : Nat) (J0 : Nat → Prop) (mB l bc bs bn B1 B2 N0 : Nat) (W : World) (hm0 : mB ≤ W.heap.size) (zs : List Value) (Js : Nat → Prop)
    (hS : StI Dv.bookG ι c now s0 J0 mB bc bs bn B1 B2 [] s0 zs Js W)
    (hc : bc ≠ B1 ∧ bc ≠ B2 ∧ bc ≠ bs ∧ bc < N0) (hn : bn ≠ B1 ∧ bn ≠ B2 ∧ bn ≠ bs ∧ bn < N0) (hs : bs ≠ B1 ∧ bs ≠ B2 ∧ bs < N0) (hB : B1 < W.heap.size ∧ B2 < W.heap.size)
    (J Jx : List Dv.El → World → Prop) (hJ : ∀ s A A' row, J s A → A.grownBy A' row → (∀ r, row = some r → r = bs) → J s A')
    (hJo : ∀ pre A k, J pre A → OutB B2 A k → N0 ≤ k ∧ k < A.heap.size) (hJl : ∀ pre A, J pre A → (pre.length : Int) < most ∧ lenAt B2 A = pre.length)
    (hY : ∀ pre x A, J pre A → PxS Dv.bookG ι c now s0 J0 mB bs B1 B2 pre x A → YieldAt Fence.wide n Tryz.prog l (encE x) A fun e A' => (e = .returned (.bool true) ∧ J (pre ++ [x]) A' ∧ KpO B1 B2 A A') ∨ (e = .returned (.bool false) ∧ Jx (pre ++ [x]) A'))
    (hJ0 : J [] W) :
    CallsIn Fence.wide (n + 1) Tryz.prog 50 #[.func (.yield l) #[] #[], .pointer (some ⟨bc, 0, none⟩), .pointer (some ⟨bs, 0, none⟩), .pointer (some ⟨bn, 0, none⟩)] W fun e W' => (∃ v, e = .returned v) ∧
      ((∃ ys, (∃ sk, Dv.chainP c now s0 ys sk ∧ Dv.stopP c now sk) ∧ J ys W') ∨ (∃ pre, Jx pre W')) := by
  have hYb : ∀ pre x A, J pre A → PxS Dv.bookG ι c now s0 J0 mB bs B1 B2 pre x A → YieldAt Fence.wide n Tryz.prog l (encE x) A fun e A' => ∃ b : Bool, e = .returned (.bool b) ∧ (b = true → J (pre ++ [x]) A' ∧ KpO B1 B2 A A') ∧ (b = false → Jx (pre ++ [x]) A') := fun pre x A h1 h2 =>
    (hY pre x A h1 h2).mono (fun e W' h => yes_or (A := fun W' => J (pre ++ [x]) W' ∧ KpO B1 B2 A W') (B := fun W' => Jx (pre ++ [x]) W') e W' h)
  clear hY
  refine callsIn_of_wp Tryz.func50 rfl trivial ?_ rfl
  simp only [Tryz.ntmps50,List.size_toArray,List.length_cons,List.length_nil,Nat.reduceAdd,Nat.reduceSub,Array.replicate_succ,Array.replicate_zero,List.push_toArray,List.append_toArray,List.nil_append,List.cons_append]
  gi_wp2
  gi_loopw [6] (fun p wr => ∃ pre sk zs Js, StI Dv.bookG ι c now s0 J0 mB bc bs bn B1 B2 pre sk zs Js wr ∧ J pre wr ∧ W.heap.size ≤ wr.heap.size)
    (fun _ wr => most.toNat - lenAt B2 wr)
  case atStart => exact ⟨[], s0, zs, Js, hS, hJ0, Nat.le_refl _⟩
  case round =>
    obtain ⟨pre, sk, zs, Js, hI, hJr, hsz⟩ := hrel
    obtain ⟨z0, z1, z2, z3, z4, z5, rfl⟩ := hI.rep.six
    have hbx := hI.box
    have hcf := hI.conf
    have hN := (Dv.plan_tri (G := Dv.bookG) c sk hI.right now h0).opt hI.rep.st (vs := #[.agg (Dv.confV9 c), .agg #[z0, z1, z2, z3, z4, z5], .int .i64 now]) ⟨Dv.conf_arg, hI.rep.arg, rfl, trivial⟩
    have hn0 := hI.time.cell
    obtain ⟨⟨a0, a1, a2, a3, a4, a5⟩, d0, d1, d2, d3, d4, d5, d6, d7, d8⟩ := hI.cells
    have hB2r : B2 < wr.heap.size := by omega
    simp only [Dv.confV9] at hN
    cases hp : Dv.planO c sk now with
    | none =>
      rw [hp] at hN
      simp only [Option.getD_none,Option.isSome_none,Dv.opV7,Dv.zeroOp] at hN
      gi_wp2_with (refine ⟨trivial, ?_⟩; gi_at_call 10; refine (callsIn_wide.2 hN).mono ?_; rintro e w2 ⟨rfl, hb2⟩)
      refine bodyPost_ret (results_none rfl _ _ _) rfl ?_
      exact ⟨⟨_, rfl⟩, .inl ⟨pre, ⟨sk, hI.chain, .inl hp⟩, hJ _ _ _ none hJr (grown_of_below (hb2.alloc hb2.size _)) (fun r e => by cases e)⟩⟩
    | some o =>
      rw [hp] at hN
      simp only [Option.getD_some,Option.isSome_some,Dv.opV7] at hN
      have hAt := fun (A : World) (R : Dv.StRep Dv.bookG Js A ι sk [z0, z1, z2, z3, z4, z5]) => (Dv.apply_tri c sk o).stat R.st (vs := #[.agg (Dv.confV9 c), .agg #[z0, z1, z2, z3, z4, z5], .agg (Dv.opV7 o)]) ⟨Dv.conf_arg, R.arg, Dv.op_arg, trivial⟩
      have hRt := Dv.apply_right hI.right o
      generalize hap : Dv.applyD c sk o = p at hAt hRt
      obtain ⟨t, r⟩ := p
      simp only [Dv.confV9,Dv.opV7] at hAt
      by_cases hr : r = 0
      case neg =>
        have hrb : (r != 0) = true := bne_iff_ne.2 hr
        gi_wp2_with (first
          | (refine ⟨trivial, ?_⟩; gi_at_call 10; refine (callsIn_wide.2 hN).mono ?_; rintro e w2 ⟨rfl, hb2⟩; have g2 := grown_of_below (hb2.alloc hb2.size (.cells #[.int .i64 o.kind, .int .i64 o.a, .int .i64 o.b, .int .i64 o.c, .int .i64 o.d, .int .i64 o.e, .int .i64 o.f] 32)); have hI2 := hI.grown g2 hB2r; have hA := hAt _ hI2.rep; obtain ⟨⟨b0, b1, b2, b3, b4, b5⟩, e0, e1, e2, e3, e4, e5, e6, e7, e8⟩ := hI2.cells)
          | (refine ⟨trivial, ?_⟩; gi_at_call 51; refine (callsIn_wide.2 hA).mono ?_; rintro e w4 ⟨ys, J', rfl, hb4, hR4, hm4, hn4⟩; have g4 := grown_trans g2 (grown_of_below hb4); obtain ⟨p0, m0, k0, p1, m1, k1, rfl⟩ := hR4.ex))
        all_goals (refine ⟨(by intro f h; cases h), ?_⟩)
        gi_wp2
        refine bodyPost_ret (results_none rfl _ _ _) rfl ?_
        exact ⟨⟨_, rfl⟩, .inl ⟨pre, ⟨sk, hI.chain, .inr ⟨o, hp, by rw [hap]; exact hr⟩⟩, hJ _ _ _ none hJr (grown_alloc g4 _) (fun r e => by cases e)⟩⟩
      case pos =>
        subst hr
        have hbs0 : bs < wr.heap.size := (Array.getElem?_eq_some_iff.1 hbx).1
        have hPx : ∀ (w2 w4 : World) (ys : List Value) (J' : Nat → Prop), wr.grownBy w2 none → w2.grownBy w4 none → Dv.StRep Dv.bookG J' w4 ι t ys → (∀ k, Js k → J' k) → (∀ k, J' k → Js k ∨ w2.heap.size ≤ k) → ∀ A, w4.grownBy A none → PxS Dv.bookG ι c now s0 J0 mB bs B1 B2 pre (o, t, ys) A := fun w2 w4 ys J' h2 h4 hR hm' hn' A hA =>
          ⟨sk, J', hI.chain, hp, hap, hRt, hR.kept (fun k hk => hA.block k (hR.st.jlt k hk) (by simp)), ⟨fun k hk => hm' k (hI.sub.1 k hk), fun k hk => (hn' k hk).elim (hI.sub.2 k) (fun h => .inr (by have := h2.size; omega))⟩, fun k hk => by
            have hout : ¬ OutB B2 wr k → ¬ OutB B2 A k := fun h ho => h (ho.back (grown_trans (grown_trans h2 h4) hA) hB2r)
            rcases hn' k hk with hk | hk
            · obtain ⟨q1, q2, q3, q4⟩ := hI.off k hk
              exact ⟨q1, q2, q3, hout q4⟩
            · have := h2.size
              exact ⟨by omega, by omega, by omega, hout (fun ho => by have := (hJo pre wr k hJr ho).2; omega)⟩⟩
        gi_wp2_with (first
          | (refine ⟨trivial, ?_⟩; gi_at_call 10; refine (callsIn_wide.2 hN).mono ?_; rintro e w2 ⟨rfl, hb2⟩; have g2 := grown_of_below (hb2.alloc hb2.size (.cells #[.int .i64 o.kind, .int .i64 o.a, .int .i64 o.b, .int .i64 o.c, .int .i64 o.d, .int .i64 o.e, .int .i64 o.f] 32)); have hI2 := hI.grown g2 hB2r; have hA := hAt _ hI2.rep; obtain ⟨⟨b0, b1, b2, b3, b4, b5⟩, e0, e1, e2, e3, e4, e5, e6, e7, e8⟩ := hI2.cells; have hop2 := World.alloc_heap_new w2 (.cells #[.int .i64 o.kind, .int .i64 o.a, .int .i64 o.b, .int .i64 o.c, .int .i64 o.d, .int .i64 o.e, .int .i64 o.f] 32))
          | (refine ⟨trivial, ?_⟩; gi_at_call 51; refine (callsIn_wide.2 hA).mono ?_; rintro e w4 ⟨ys, J', rfl, hb4, hR4, hm4, hn4⟩; have g24 := grown_of_below hb4; have g4 := grown_trans g2 g24; have hop4 := (hb4.block _ (by simp)).trans hop2;  obtain ⟨p0, m0, k0, p1, m1, k1, rfl⟩ := hR4.ex; have hP := hPx _ _ _ _ g2 g24 hR4 hm4 hn4 _ (World.grownBy_alloc w4 (.cells #[.slice p0 m0 k0, .slice p1 m1 k1, .int .i64 t.goal, .int .i64 t.prior, .int .i64 t.mode, .int .i64 t.term] 27) none); have hJ5 := hJ _ _ _ none hJr (grown_alloc g4 (.cells #[.slice p0 m0 k0, .slice p1 m1 k1, .int .i64 t.goal, .int .i64 t.prior, .int .i64 t.mode, .int .i64 t.term] 27)) (fun r e => by cases e); have hop5 := ((World.grownBy_alloc w4 (.cells #[.slice p0 m0 k0, .slice p1 m1 k1, .int .i64 t.goal, .int .i64 t.prior, .int .i64 t.mode, .int .i64 t.term] 27) none).block _ (Array.getElem?_eq_some_iff.1 hop4).1 (by simp)).trans hop4; obtain ⟨f0, f1, f2, f3, f4, f5, f6⟩ := op_cells hop5; have hst5 := World.alloc_heap_new w4 (.cells #[.slice p0 m0 k0, .slice p1 m1 k1, .int .i64 t.goal, .int .i64 t.prior, .int .i64 t.mode, .int .i64 t.term] 27); obtain ⟨r0, r1, r2, r3, r4, r5⟩ := st_cells hst5; have hY5 := hYb _ _ _ hJ5 hP; simp only [encE,Dv.opV7] at hY5; obtain ⟨fn, tmps, assign, body, hy, hYR⟩ := hY5))
        refine hYR.mono ?_
        rintro e w6 ⟨b, rfl, hyes, hno⟩
        cases b with
        | true =>
          obtain ⟨hJ6, hK6⟩ := hyes rfl
          have hK6 := hK6 (by have := (grown_alloc g4 (.cells #[.slice p0 m0 k0, .slice p1 m1 k1, .int .i64 t.goal, .int .i64 t.prior, .int .i64 t.mode, .int .i64 t.term] 27)).size; omega)
          have hst6 := hK6.same _ _ _ _ (by have := g4.size; omega) (by have := g4.size; omega) (fun ho => by have := (hJo pre wr _ hJr (ho.back (grown_alloc g4 _) hB2r)).2; have := g4.size; omega) hst5
          obtain ⟨s0', s1', s2', s3', s4', s5'⟩ := st_cells hst6
          have g5 := grown_alloc g4 (.cells #[.slice p0 m0 k0, .slice p1 m1 k1, .int .i64 t.goal, .int .i64 t.prior, .int .i64 t.mode, .int .i64 t.term] 27)
          have nOut : ∀ k, k < N0 → ¬ OutB B2 (w4.alloc (.cells #[.slice p0 m0 k0, .slice p1 m1 k1, .int .i64 t.goal, .int .i64 t.prior, .int .i64 t.mode, .int .i64 t.term] 27)) k := fun k hk ho => by have := (hJo pre wr k hJr (ho.back g5 hB2r)).1; omega
          have hI5 := hI.grown g5 hB2r
          have hbs6 := hK6.same _ _ _ _ hs.1 hs.2.1 (nOut _ hs.2.2) hI5.box
          have hbsf : ∀ i, w6.frozen? ⟨bs, i, none⟩ = false := fun i => by simp [World.frozen?,hbs6]
          have hbsc := st_cells hbs6
          obtain ⟨t0, t1, t2, t3, t4, t5⟩ := hbsc
          gi_wp2
          obtain ⟨g7, hb7, hsh7⟩ := set6_box hbs6 (.slice p0 m0 k0) (.slice p1 m1 k1) (.int .i64 t.goal) (.int .i64 t.prior) (.int .i64 t.mode) (.int .i64 t.term)
          generalize (((((w6.setCell ⟨bs, 0, none⟩ (.slice p0 m0 k0)).setCell ⟨bs, 1, none⟩ (.slice p1 m1 k1)).setCell ⟨bs, 2, none⟩ (.int .i64 t.goal)).setCell ⟨bs, 3, none⟩ (.int .i64 t.prior)).setCell ⟨bs, 4, none⟩ (.int .i64 t.mode)).setCell ⟨bs, 5, none⟩ (.int .i64 t.term) = w7 at g7 hb7 hsh7 ⊢
          have hJ7 := hJ _ _ _ _ hJ6 g7 (fun r e => by cases e; rfl)
          have hne : ∀ k, k < N0 → k ≠ bs → ∀ C tt f, k ≠ B1 → k ≠ B2 → (w4.alloc (.cells #[.slice p0 m0 k0, .slice p1 m1 k1, .int .i64 t.goal, .int .i64 t.prior, .int .i64 t.mode, .int .i64 t.term] 27)).heap[k]? = some (.cells C tt f) → w7.heap[k]? = some (.cells C tt f) := fun k hk hkb C tt f h1 h2 h => by
            have := hK6.same k C tt f h1 h2 (nOut k hk) h
            exact (g7.block k (Array.getElem?_eq_some_iff.1 this).1 (by simpa using hkb)).trans this
          have hmem : ∀ k, J' k → k < w4.heap.size := fun k hk => hR4.st.jlt k hk
          have hoff4 : ∀ k, J' k → k ≠ B1 ∧ k ≠ B2 ∧ k ≠ bs ∧ ¬ OutB B2 (w4.alloc (.cells #[.slice p0 m0 k0, .slice p1 m1 k1, .int .i64 t.goal, .int .i64 t.prior, .int .i64 t.mode, .int .i64 t.term] 27)) k := fun k hk => by
            rcases hn4 k hk with hk | hk
            · obtain ⟨q1, q2, q3, q4⟩ := hI.off k hk
              exact ⟨q1, q2, q3, fun ho => q4 (ho.back g5 hB2r)⟩
            · have := g2.size
              exact ⟨by omega, by omega, by omega, fun ho => by have := (hJo pre wr k hJr (ho.back g5 hB2r)).2; omega⟩
          have hout7 : ∀ k, OutB B2 w7 k → OutB B2 w6 k := fun k ⟨v, hv, ho⟩ => ⟨v, by rw [← hv]; exact (Dv.cell_of_heap (g7.block B2 (by have := hK6.size; have := g5.size; omega) (by simp; exact hs.2.1.symm))).symm, ho⟩
          have hsame7 : ∀ k, J' k → w7.heap[k]? = w4.heap[k]? := fun k hk => by
            obtain ⟨q1, q2, q3, q4⟩ := hoff4 k hk
            obtain ⟨C, tt, f, hc⟩ := hR4.st.jcell k hk
            have hc5 := ((World.grownBy_alloc w4 (.cells #[.slice p0 m0 k0, .slice p1 m1 k1, .int .i64 t.goal, .int .i64 t.prior, .int .i64 t.mode, .int .i64 t.term] 27) none).block k (hmem k hk) (by simp)).trans hc
            have hc6 := hK6.same k C tt f q1 q2 q4 hc5
            rw [hc]
            exact (g7.block k (Array.getElem?_eq_some_iff.1 hc6).1 (by simpa using q3)).trans hc6
          have hsz7 : W.heap.size ≤ w7.heap.size := Nat.le_trans hsz (Nat.le_trans g5.size (Nat.le_trans hK6.size g7.size))
          have hI7 : StI Dv.bookG ι c now s0 J0 mB bc bs bn B1 B2 (pre ++ [(o, t, [.slice p0 m0 k0, .slice p1 m1 k1, .int .i64 t.goal, .int .i64 t.prior, .int .i64 t.mode, .int .i64 t.term])]) t [.slice p0 m0 k0, .slice p1 m1 k1, .int .i64 t.goal, .int .i64 t.prior, .int .i64 t.mode, .int .i64 t.term] J' w7 :=
            ⟨hRt, Dv.chain_snoc hI.chain hp hap, hb7, hne bc hc.2.2.2 hc.2.2.1 _ _ _ hc.1 hc.2.1 hI5.conf, hne bn hn.2.2.2 hn.2.2.1 _ _ _ hn.1 hn.2.1 hI5.time, hR4.kept hsame7, fun k hk => by
              obtain ⟨q1, q2, q3, q4⟩ := hoff4 k hk
              refine ⟨q1, q2, q3, fun ho => ?_⟩
              rcases hK6.out k (hout7 k ho) with h | h
              · exact q4 h
              · have := hmem k hk
                simp at h
                omega, ⟨fun k hk => hm4 k (hI.sub.1 k hk), fun k hk => (hn4 k hk).elim (hI.sub.2 k) (fun h => .inr (by have := g2.size; omega))⟩⟩
          have hl7 := hJl _ _ hJ7
          have hlr := hJl _ _ hJr
          refine ⟨⟨_, t, _, J', hI7, hJ7, hsz7⟩, ?_⟩
          rw [hl7.2, hlr.2]
          have := hl7.1
          simp at this ⊢
          omega
        | false =>
          gi_wp2
          refine bodyPost_ret (results_none rfl _ _ _) rfl ?_
          exact ⟨⟨_, rfl⟩, .inr ⟨_, by first | exact hno rfl | exact hno | simpa using hno⟩⟩
end Go.Proofs
