/- contracts over data as plain words: states and ops that come back. -/
import Derived.Test.YtcanhhnmfkdclaaGreatDoorT8
import Derived.Test.YtcanhhnmfkdclaaGreatDoorU1
import Derived.Test.YtcanhhnmfkdclaaGreatDoorD5
set_option linter.unusedVariables false
set_option linter.unusedSimpArgs false
namespace Dv
open Go Go.Proofs
def sDs (s : StateD) : List DV := [.lst 5 (s.nodes.map nodeR), .lst 12 (s.jobs.map jobR), i64 s.goal, i64 s.prior, i64 s.mode, i64 s.term]
def opV7 (o : OpD) : Array Value := #[.int .i64 o.kind, .int .i64 o.a, .int .i64 o.b, .int .i64 o.c, .int .i64 o.d, .int .i64 o.e, .int .i64 o.f]
def confV9 (c : ConfD) : Array Value := #[.int .i64 c.nodes, .int .i64 c.queues, .int .i64 c.quota, .int .i64 c.wave, .int .i64 c.lease, .int .i64 c.retry, .int .i64 c.deadline, .int .i64 c.room, .int .i64 c.disk]
theorem Store.none {G : Nat → Option (List DV)} {J : Nat → Prop} {w : World} {ι : Nat → Nat → Option Nat} (S : Store G J w ι (objL [])) : ι = fun _ _ => none := by
  funext o n
  have := S.rep o
  rw [objL_free (by simp)] at this
  exact this n
theorem Store.any {G : Nat → Option (List DV)} {J J' : Nat → Prop} {w w' : World} {ι ι' : Nat → Nat → Option Nat} (S' : Store G J' w' ι' (objL [])) (S : Store G J w ι (objL [])) : Store G J' w' ι (objL []) := by
  rw [S.none, ← S'.none]
  exact S'
structure StRep (G : Nat → Option (List DV)) (J : Nat → Prop) (w : World) (ι : Nat → Nat → Option Nat) (s : StateD) (ys : List Value) : Prop where
  st : Store G J w ι (objL [])
  rep : RepDL J w (sDs s) ys
  one : ∀ v ∈ ys, v.oneCell' = true
theorem StRep.six {G : Nat → Option (List DV)} {J : Nat → Prop} {w : World} {ι : Nat → Nat → Option Nat} {s : StateD} {ys : List Value} (h : StRep G J w ι s ys) : ∃ y0 y1 y2 y3 y4 y5, ys = [y0, y1, y2, y3, y4, y5] := by
  have := h.rep
  match ys, this with
  | [y0, y1, y2, y3, y4, y5], _ => exact ⟨_, _, _, _, _, _, rfl⟩
theorem StRep.ex {G : Nat → Option (List DV)} {J : Nat → Prop} {w : World} {ι : Nat → Nat → Option Nat} {s : StateD} {ys : List Value} (h : StRep G J w ι s ys) : ∃ p0 n0 c0 p1 n1 c1, ys = [.slice p0 n0 c0, .slice p1 n1 c1, .int .i64 s.goal, .int .i64 s.prior, .int .i64 s.mode, .int .i64 s.term] := by
  have := h.rep
  match ys, this with
  | [y0, y1, y2, y3, y4, y5], ⟨⟨p0, n0, c0, e0, _⟩, ⟨p1, n1, c1, e1, _⟩, e2, e3, e4, e5, _⟩ =>
    simp only [RepD] at e2 e3 e4 e5
    subst e0 e1 e2 e3 e4 e5
    exact ⟨_, _, _, _, _, _, rfl⟩
theorem StRep.arg {G : Nat → Option (List DV)} {J : Nat → Prop} {w : World} {ι : Nat → Nat → Option Nat} {s : StateD} {ys : List Value} (h : StRep G J w ι s ys) : Rep J w ι (stateV s) (.agg ⟨ys⟩) :=
  ⟨⟨ys⟩, rfl, RepDL.mapC h.rep h.one⟩
theorem StRep.kept {G : Nat → Option (List DV)} {J : Nat → Prop} {w w' : World} {ι : Nat → Nat → Option Nat} {s : StateD} {ys : List Value} (h : StRep G J w ι s ys) (hJ : ∀ k, J k → w'.heap[k]? = w.heap[k]?) : StRep G J w' ι s ys := by
  have nil : ∀ o b, ¬ (objL [] o).own ι o b := fun o b => by rw [objL_free (by simp)]; exact fun h => h.elim
  refine ⟨⟨fun o => ?_, fun o o' b h => absurd h (nil o b), fun o b h => absurd h (nil o b), fun b hb => ?_, fun q row hq => ?_⟩, RepDL.mono (fun _ h => h) hJ _ _ h.rep, h.one⟩
  · have := h.st.rep o
    rw [objL_free (by simp)] at this ⊢
    exact this
  · rw [hJ b hb]; exact h.st.jcell b hb
  · obtain ⟨q1, q2, q3⟩ := h.st.glob q row hq
    exact ⟨q1, RowD.mono (fun k h => h) hJ _ _ _ (hJ q q1) q2, by rw [shape_of_heap (hJ q q1)]; exact q3⟩
theorem rep_sDs {J : Nat → Prop} {w : World} {ι : Nat → Nat → Option Nat} {s : StateD} {v : Value} (h : Rep J w ι (stateV s) v) : ∃ ys : List Value, v = .agg ⟨ys⟩ ∧ RepDL J w (sDs s) ys ∧ ∀ x ∈ ys, x.oneCell' = true := by
  obtain ⟨cs, rfl, hcs⟩ := h
  obtain ⟨cl⟩ := cs
  exact ⟨cl, rfl, toDs_rep (ds := sDs s) rfl hcs.toL, hcs.one⟩
theorem Tri.stat {P : Program} {G : Nat → Option (List DV)} {f : Nat} {args : List LV} {t : StateD} {r : Int} (h : Tri P G f args [] (.tup [stateV t, .int r]) []) {J : Nat → Prop} {ι : Nat → Nat → Option Nat} {w : World} {vs : Array Value} (S : Store G J w ι (objL [])) (hR : RepL J w ι args vs.toList) :
    Calls P f vs w fun e w' => ∃ (ys : List Value) (J' : Nat → Prop), e = .returned (.tuple #[.agg ⟨ys⟩, .int .i64 r]) ∧ RowKit.Below w.heap.size w w' ∧ StRep G J' w' ι t ys ∧ (∀ k, J k → J' k) ∧ (∀ k, J' k → J k ∨ w.heap.size ≤ k) := by
  refine (h.2 J ι w vs S hR).mono fun e w' hh => ?_
  obtain ⟨v, he, J', ι', S', hr, hE⟩ := hh
  have hB : RowKit.Below w.heap.size w w' := ⟨hE.ev.os, hE.ev.tape, hE.ev.output, hE.ev.size, fun k hk => hE.ev.same k hk (by rintro ⟨o, hb⟩; simp [objL,OSt.own] at hb)⟩
  obtain ⟨xs, rfl, hx⟩ := hr
  obtain ⟨xl⟩ := xs
  match xl, hx with
  | [x0, x1], ⟨h0, h1, _⟩ =>
  obtain ⟨ys, rfl, hy, ho⟩ := rep_sDs h0
  obtain rfl : x1 = .int .i64 r := h1
  refine ⟨ys, J', he, hB, ⟨S'.any S, hy, ho⟩, hE.ev.jmono, fun k hk => ?_⟩
  rcases hE.ev.jnew k hk with h | h | ⟨o, hb⟩
  · exact .inl h
  · exact .inr h
  · simp [objL,OSt.own] at hb
theorem Tri.opt {P : Program} {G : Nat → Option (List DV)} {f : Nat} {args : List LV} {o : Option OpD} (h : Tri P G f args [] (optV o) []) {J : Nat → Prop} {ι : Nat → Nat → Option Nat} {w : World} {vs : Array Value} (S : Store G J w ι (objL [])) (hR : RepL J w ι args vs.toList) :
    Calls P f vs w fun e w' => e = .returned (.tuple #[.agg (opV7 (o.getD zeroOp)), .bool o.isSome]) ∧ RowKit.Below w.heap.size w w' := by
  refine (h.2 J ι w vs S hR).mono fun e w' hh => ?_
  obtain ⟨v, he, J', ι', S', hr, hE⟩ := hh
  have hB : RowKit.Below w.heap.size w w' := ⟨hE.ev.os, hE.ev.tape, hE.ev.output, hE.ev.size, fun k hk => hE.ev.same k hk (by rintro ⟨o, hb⟩; simp [objL,OSt.own] at hb)⟩
  obtain ⟨xs, rfl, hx⟩ := hr
  obtain ⟨xl⟩ := xs
  match xl, hx with
  | [x0, x1], ⟨h0, h1, _⟩ =>
  obtain rfl : x1 = .bool o.isSome := h1
  obtain ⟨cs, rfl, hcs⟩ := h0
  obtain ⟨cl⟩ := cs
  match cl, hcs with
  | [c0, c1, c2, c3, c4, c5, c6], ⟨_, e0, _, e1, _, e2, _, e3, _, e4, _, e5, _, e6, _⟩ =>
  simp only [LV.int,Rep,RepD] at e0 e1 e2 e3 e4 e5 e6
  subst e0 e1 e2 e3 e4 e5 e6
  exact ⟨he, hB⟩
end Dv
namespace Go.Proofs
open Go.RowKit Go.Shelf
attribute [local go_sem] Oper.semAt_some
theorem steps_in (n : Nat) (cs ys : List Value) (now : Int) (w : World) :
    CallsIn Fence.wide n Tryz.prog 30 #[.agg ⟨cs⟩, .agg ⟨ys⟩, .int .i64 now] w fun e w' =>
      e = .returned (.func (.func 50) #[] #[.pointer (some ⟨w.heap.size, 0, none⟩), .pointer (some ⟨w.heap.size + 1, 0, none⟩), .pointer (some ⟨w.heap.size + 1 + 1, 0, none⟩)]) ∧
      w' = ((w.alloc (.cells ⟨cs⟩ 23)).alloc (.cells ⟨ys⟩ 27)).alloc (.cells #[.int .i64 now] 3) := by
  refine callsIn_of_wp Tryz.func30 rfl trivial ?_ rfl
  simp only [Tryz.ntmps30,List.size_toArray,List.length_cons,List.length_nil,Nat.reduceAdd,Nat.reduceSub,Array.replicate_succ,Array.replicate_zero,List.push_toArray,List.append_toArray,List.nil_append,List.cons_append]
  gi_wp2
  go_ret
  exact ⟨rfl, rfl⟩
end Go.Proofs
