/- plan.Run. -/
import Derived.Test.YtcanhhnmfkdclaaGreatDoorU4
set_option linter.unusedVariables false
set_option linter.unusedSimpArgs false
namespace Dv
open Go
theorem rowD_vals7 {J : Nat → Prop} {w : World} {g : Nat} : ∀ (cs : List Value) (off : Nat), (∀ (j : Nat) x, cs[j]? = some x → w.cell? ⟨g, off + j, none⟩ = some x ∧ x.oneCell' = true) → RowD J w (cs.map DV.val) g off
  | [], _, _ => trivial
  | x :: l, off, h => ⟨⟨x, (h 0 x rfl).1, (h 0 x rfl).2, rfl⟩, rowD_vals7 l (off + 1) (fun j y hy => by
      have := h (j + 1) y (by simpa using hy)
      rw [show off + 1 + j = off + (j + 1) by omega]; exact this)⟩
theorem rowsD_vals7 {J : Nat → Prop} {w : World} {g esz : Nat} : ∀ (rows : List (List Value)) (off : Nat), (∀ r ∈ rows, r.length = esz) → (∀ (j : Nat) x, rows.flatten[j]? = some x → w.cell? ⟨g, off + j, none⟩ = some x ∧ x.oneCell' = true) → RowsD J w esz (rows.map fun r => r.map DV.val) g off
  | [], _, _, _ => trivial
  | r :: l, off, hl, h => by
    have hr := hl r (by simp)
    refine ⟨by simp [hr], rowD_vals7 r off (fun j x hx => h j x ?_), rowsD_vals7 l (off + esz) (fun r' h' => hl r' (by simp [h'])) (fun j x hx => ?_)⟩
    · have hj : j < r.length := (List.getElem?_eq_some_iff.1 hx).1
      rw [List.flatten_cons, List.getElem?_append_left hj]; exact hx
    · rw [show off + esz + j = off + (esz + j) by omega]
      refine h _ x ?_
      rw [List.flatten_cons, List.getElem?_append_right (by omega), hr, Nat.add_sub_cancel_left]; exact hx
theorem row_rep7 {J : Nat → Prop} {w : World} {n0 : Nat} {e : TypeId} {esz : Nat} {v : Value} {rows : List (List Value)} (h : w.ownsRow n0 e esz v rows.length rows.flatten) (hl : ∀ r ∈ rows, r.length = esz ∧ ∀ x ∈ r, x.oneCell' = true) (hj : ∀ b, v.ownBlock = some b → J b) :
    RepD J w (.lst esz (rows.map fun r => r.map DV.val)) v := by
  rcases h.2 with ⟨rfl, h0⟩ | ⟨g, cap, cur, rfl, _, hg, hc, _, _, hx⟩
  · exact ⟨none, 0, 0, rfl, by simp [h0], Nat.le_refl _, .inl (by rw [List.eq_nil_of_length_eq_zero h0]; rfl)⟩
  · refine ⟨_, _, _, rfl, by simp, hc, .inr ⟨g, 0, rfl, hj g rfl, rowsD_vals7 rows 0 (fun r hr => (hl r hr).1) (fun j x hjx => ⟨?_, ?_⟩)⟩⟩
    · have h1 : (cur.toList.take (rows.length * esz))[j]? = some x := by rw [hx]; exact hjx
      have hlt := (List.getElem?_eq_some_iff.1 h1).1
      rw [List.length_take] at hlt
      rw [List.getElem?_take, if_pos (by omega)] at h1
      rw [Nat.zero_add]
      simp only [World.cell?,hg]
      simpa using h1
    · have hm := List.mem_of_getElem? hjx
      obtain ⟨r, hr, hxr⟩ := List.mem_flatten.1 hm
      exact (hl r hr).2 x hxr
theorem chain_run {c : ConfD} {now : Int} : ∀ (l : List El) (s t : StateD) (n : Nat) (acc : List OpD), chainP c now s l t → l.length ≤ n → (n = l.length ∨ stopP c now t) → runTo c now n s acc = (t, acc ++ l.map (·.1))
  | [], s, t, n, acc, h, hn, he => by
    obtain rfl : s = t := h
    rcases he with rfl | he
    · simp [runTo]
    · cases n with
      | zero => simp [runTo]
      | succ n =>
        unfold runTo
        rcases he with he | ⟨o, he, h2⟩
        · rw [he]; simp
        · rw [he]
          simp only
          rw [if_neg h2]; simp
  | x :: l, s, t, n, acc, ⟨h1, h2, h3⟩, hn, he => by
    cases n with
    | zero => simp at hn
    | succ n =>
      unfold runTo
      rw [h1]
      simp only
      rw [h2, if_pos rfl, chain_run l x.2.1 t n (acc ++ [x.1]) h3 (by simpa using hn) (by rcases he with he | he; exact .inl (by simpa using he); exact .inr he)]
      simp
end Dv
namespace Go.Proofs
open Go.RowKit Go.Shelf
attribute [local go_sem] Oper.semAt_some
def opsV (l : List Dv.OpD) : List Value := l.flatMap fun o => (Dv.opV7 o).toList
def opsE (l : List Dv.El) : List Dv.OpD := l.map (·.1)
theorem row_away {A A' : World} {row : Option Nat} {n0 : Nat} {e : TypeId} {size : Nat} {v : Value} {k : Nat} {xs : List Value} (hr : A.ownsRow n0 e size v k xs) (hg : A.grownBy A' row) (h : ∀ r, row = some r → r < n0 ∨ ∃ o : Obj, A.heap[r]? = some o ∧ o.isCells = false) : A'.ownsRow n0 e size v k xs := by
  refine ⟨hr.1, ?_⟩
  rcases hr.2 with hn | ⟨g, cap, cur, hv, hbg, hc, rest⟩
  · exact .inl hn
  · refine .inr ⟨g, cap, cur, hv, hbg, (hg.block g (Array.getElem?_eq_some_iff.1 hc).1 (fun e => ?_)).trans hc, rest⟩
    rcases h g e.symm with h | ⟨o, ho, hoc⟩
    · omega
    · rw [hc] at ho; cases ho; simp [Obj.isCells] at hoc
theorem conf_cells {W : World} {b : Nat} {c : Dv.ConfD} (h : W.heap[b]? = some (.cells (Dv.confV9 c) 23 (0, 0))) : W.cell? ⟨b, 0, none⟩ = some (.int .i64 c.nodes) ∧ W.cell? ⟨b, 1, none⟩ = some (.int .i64 c.queues) ∧ W.cell? ⟨b, 2, none⟩ = some (.int .i64 c.quota) ∧ W.cell? ⟨b, 3, none⟩ = some (.int .i64 c.wave) ∧ W.cell? ⟨b, 4, none⟩ = some (.int .i64 c.lease) ∧ W.cell? ⟨b, 5, none⟩ = some (.int .i64 c.retry) ∧ W.cell? ⟨b, 6, none⟩ = some (.int .i64 c.deadline) ∧ W.cell? ⟨b, 7, none⟩ = some (.int .i64 c.room) ∧ W.cell? ⟨b, 8, none⟩ = some (.int .i64 c.disk) := by
  refine ⟨?_, ?_, ?_, ?_, ?_, ?_, ?_, ?_, ?_⟩ <;> simp [World.cell?,h,Dv.confV9]
structure RunI (ι : Nat → Nat → Option Nat) (c : Dv.ConfD) (now most : Int) (s0 : Dv.StateD) (J : Nat → Prop) (w : World) (B2 bs N0 : Nat) (pre : List Dv.El) (W : World) : Prop where
  st : ∃ sk zs Js, Dv.chainP c now s0 pre sk ∧ Dv.RightP c sk ∧ W.heap[w.heap.size + 1]? = some (.cells ⟨zs⟩ 27 (0, 0)) ∧ Dv.StRep Dv.bookG Js W ι sk zs ∧ ((∀ k, J k → Js k) ∧ ∀ k, Js k → J k ∨ w.heap.size + 4 ≤ k) ∧ ∀ k, Js k → k ≠ w.heap.size + 1 ∧ k ≠ B2 ∧ k ≠ bs ∧ ¬ OutB B2 W k
  out : ∃ v, Boxed W B2 39 v ∧ W.ownsRow N0 32 7 v pre.length (opsV (opsE pre))
  most : Boxed W (w.heap.size + 1 + 1) 3 (.int .i64 most)
  zero : W.heap[w.heap.size + 1 + 1 + 1]? = some (.cells #[.slice none 0 0, .slice none 0 0, .int .i64 0, .int .i64 0, .int .i64 0, .int .i64 0] 27 (0, 0))
  below : Below w.heap.size w W
  size : N0 ≤ W.heap.size
theorem RunI.own {ι : Nat → Nat → Option Nat} {c : Dv.ConfD} {now most : Int} {s0 : Dv.StateD} {J : Nat → Prop} {w : World} {B2 bs N0 : Nat} {pre : List Dv.El} (h1 : w.heap.size + 1 + 1 + 1 < B2) (h2 : B2 < bs) (h3 : bs < N0) : OwnV bs N0 (RunI ι c now most s0 J w B2 bs N0 pre) := by
  intro A A' row h hg hr
  have ne : ∀ (k : Nat) C t f, k ≠ bs → A.heap[k]? = some (.cells C t f) → A'.heap[k]? = some (.cells C t f) := fun k C t f hk hc => by
    refine (hg.block k (Array.getElem?_eq_some_iff.1 hc).1 (fun e => ?_)).trans hc
    rcases hr k e.symm with h | ⟨_, o, ho, hoc⟩
    · exact hk h
    · rw [hc] at ho; cases ho; simp [Obj.isCells] at hoc
  obtain ⟨sk, zs, Js, c1, c2, c3, c4, c6, c5⟩ := h.st
  obtain ⟨v, o1, o2⟩ := h.out
  have hb2 : A'.heap[B2]? = some (.cells #[v] 39 (0, 0)) := ne _ _ _ _ (by omega) o1
  have hout : ∀ k, OutB B2 A' k → OutB B2 A k := fun k ⟨u, hu, ho⟩ => ⟨u, by rw [← hu]; exact (Dv.cell_of_heap (hb2.trans o1.symm)).symm, ho⟩
  refine ⟨⟨sk, zs, Js, c1, c2, ne _ _ _ _ (by omega) c3, c4.kept (fun k hk => ?_), c6, fun k hk => ⟨(c5 k hk).1, (c5 k hk).2.1, (c5 k hk).2.2.1, fun ho => (c5 k hk).2.2.2 (hout k ho)⟩⟩, ⟨v, hb2, row_away o2 hg (fun r e => ?_)⟩, ne _ _ _ _ (by omega) h.most, ne _ _ _ _ (by omega) h.zero, ?_, Nat.le_trans h.size hg.size⟩
  · obtain ⟨C, t, f, hc⟩ := c4.st.jcell k hk
    rw [hc]; exact ne k C t f (c5 k hk).2.2.1 hc
  · rcases hr r e with rfl | ⟨_, ho⟩
    · exact .inl h3
    · exact .inr ho
  · refine h.below.grown hg h.below.size (fun r e => ?_)
    rcases hr r e with rfl | ⟨h, _⟩ <;> omega
theorem RunI.outs {ι : Nat → Nat → Option Nat} {c : Dv.ConfD} {now most : Int} {s0 : Dv.StateD} {J : Nat → Prop} {w : World} {B2 bs N0 : Nat} {pre : List Dv.El} {W : World} (h : RunI ι c now most s0 J w B2 bs N0 pre W) : (∀ k, OutB B2 W k → N0 ≤ k ∧ k < W.heap.size) ∧ lenAt B2 W = pre.length := by
  obtain ⟨v, o1, o2⟩ := h.out
  have hc : W.cell? ⟨B2, 0, none⟩ = some v := o1.cell
  rcases o2.2 with ⟨rfl, hn⟩ | ⟨g, cap, cur, rfl, hbg, hcg, rest⟩
  · refine ⟨fun k ⟨u, hu, ho⟩ => ?_, ?_⟩
    · rw [hc] at hu; cases hu; simp [Value.ownBlock] at ho
    · unfold lenAt; rw [hc]; exact hn.symm
  · refine ⟨fun k ⟨u, hu, ho⟩ => ?_, ?_⟩
    · rw [hc] at hu; cases hu
      simp only [Value.ownBlock,Option.some.injEq] at ho
      subst ho
      exact ⟨hbg, (Array.getElem?_eq_some_iff.1 hcg).1⟩
    · unfold lenAt; rw [hc]
theorem after_run {G : Nat → Option (List Dv.DV)} {J Js : Nat → Prop} {ι : Nat → Nat → Option Nat} {w W : World} {t : Dv.StateD} {zs : List Value} {v : Value} {rows : List (List Value)} {N0 : Nat} {e : TypeId} (S : Dv.Store G J w ι (Dv.objL [])) (hB : Below w.heap.size w W) (hR : Dv.StRep G Js W ι t zs) (hsub : (∀ k, J k → Js k) ∧ ∀ k, Js k → J k ∨ w.heap.size ≤ k)
    (hN : w.heap.size ≤ N0) (hrow : W.ownsRow N0 e 7 v rows.length rows.flatten) (hl : ∀ r ∈ rows, r.length = 7 ∧ ∀ x ∈ r, x.oneCell' = true) :
    Dv.After G (Dv.objL []) (Dv.objL []) J ι w (.tup [Dv.stateV t, .d (.lst 7 (rows.map fun r => r.map Dv.DV.val))]) (.tuple #[.agg ⟨zs⟩, v]) W := by
  have nil : ∀ o b, ¬ (Dv.objL [] o).own ι o b := fun o b => by rw [Dv.objL_free (by simp)]; exact fun h => h.elim
  have hj : ∀ b, v.ownBlock = some b → Js b ∨ v.ownBlock = some b := fun b h => .inr h
  refine ⟨fun b => Js b ∨ v.ownBlock = some b, ι, ⟨fun o => ?_, fun o o' b h => absurd h (nil o b), fun o b h => absurd h (nil o b), fun b hb => ?_, fun q row hq => ?_⟩, ⟨_, rfl, ⟨⟨zs⟩, rfl, Dv.RepDL.mapC (Dv.RepDL.mono (fun _ h => .inl h) (fun _ _ => rfl) _ _ hR.rep) hR.one⟩, Dv.row_rep7 hrow hl (fun b hb => .inr hb), trivial⟩,
    ⟨⟨hB.os, hB.tape, hB.output, hB.size, fun b hb _ => hB.block b hb, fun b hb => Dv.shape_of_heap (hB.block b hb), fun b hb => .inl (hsub.1 b hb), fun b hb => ?_, fun _ _ _ h => h⟩, fun b hb => ?_⟩⟩
  · have := hR.st.rep o
    rw [Dv.objL_free (by simp)] at this ⊢
    exact this
  · rcases hb with hb | hb
    · exact hR.st.jcell b hb
    · exact (Dv.row_ge hrow b hb).2
  · obtain ⟨q1, q2, q3⟩ := hR.st.glob q row hq
    exact ⟨.inl q1, Dv.RowD.mono (fun k h => .inl h) (fun _ _ => rfl) _ _ _ rfl q2, q3⟩
  · rcases hb with hb | hb
    · exact (hsub.2 b hb).elim .inl (fun h => .inr (.inl h))
    · exact .inr (.inl (Nat.le_trans hN (Dv.row_ge hrow b hb).1))
  · obtain ⟨o, h⟩ := hb
    exact absurd h (nil o b)
theorem chain_fun {c : Dv.ConfD} {now : Int} : ∀ {l : List Dv.El} {s t u : Dv.StateD}, Dv.chainP c now s l t → Dv.chainP c now s l u → t = u
  | [], s, t, u, h, k => Eq.trans (Eq.symm h) k
  | x :: l, s, t, u, h, k => chain_fun h.2.2 k.2.2
theorem run_end {ι : Nat → Nat → Option Nat} {c : Dv.ConfD} {now most : Int} {s sk : Dv.StateD} {J Js : Nat → Prop} {w W Wf : World} {N0 : Nat} {xs : List Dv.El} {zs : List Value} {v : Value} (S : Dv.Store Dv.bookG J w ι (Dv.objL [])) (hN : w.heap.size + 4 ≤ N0) (c1 : Dv.chainP c now s xs sk) (c4 : Dv.StRep Dv.bookG Js W ι sk zs)
    (c6 : (∀ k, J k → Js k) ∧ ∀ k, Js k → J k ∨ w.heap.size + 4 ≤ k) (o2 : W.ownsRow N0 32 7 v xs.length (opsV (opsE xs))) (hB : Below w.heap.size w Wf) (hs : ∀ (k : Nat) C t f, k ≠ w.heap.size + 1 + 1 + 1 → W.heap[k]? = some (.cells C t f) → Wf.heap[k]? = some (.cells C t f))
    (he : (xs.length : Int) ≤ most ∧ ((xs.length : Int) = most ∨ Dv.stopP c now sk)) :
    Dv.After Dv.bookG (Dv.objL []) (Dv.objL []) J ι w (.tup [Dv.stateV (Dv.runD c s now most).1, .d (.lst 7 ((Dv.runD c s now most).2.map Dv.opR))]) (.tuple #[.agg ⟨zs⟩, v]) Wf := by
  have hrun : Dv.runD c s now most = (sk, opsE xs) := by
    unfold Dv.runD
    rw [Dv.chain_run xs s sk most.toNat [] c1 (by omega) (he.2.elim (fun h => .inl (by omega)) .inr)]
    rfl
  rw [hrun]
  have hrow : Wf.ownsRow N0 32 7 v ((opsE xs).map fun o => (Dv.opV7 o).toList).length ((opsE xs).map fun o => (Dv.opV7 o).toList).flatten := by
    have el : ((opsE xs).map fun o => (Dv.opV7 o).toList).length = xs.length := by simp [opsE]
    have ef : ((opsE xs).map fun o => (Dv.opV7 o).toList).flatten = opsV (opsE xs) := by unfold opsV; rw [List.flatMap_def]
    rw [el, ef]
    refine ⟨o2.1, ?_⟩
    rcases o2.2 with hn | ⟨g, cap, cur, hv, hbg, hc, rest⟩
    · exact .inl hn
    · exact .inr ⟨g, cap, cur, hv, hbg, hs g _ _ _ (by omega) hc, rest⟩
  have hY := c4.kept (w' := Wf) (fun k hk => by
    obtain ⟨C, t, f, hc⟩ := c4.st.jcell k hk
    rw [hc]
    refine hs k C t f ?_ hc
    rcases c6.2 k hk with h | h
    · have := S.jlt k h; omega
    · omega)
  have := after_run S hB hY ⟨c6.1, fun k hk => (c6.2 k hk).elim .inl (fun h => .inr (by omega))⟩ (show w.heap.size ≤ N0 by omega) hrow (fun r hr => by
    obtain ⟨o, _, rfl⟩ := List.mem_map.1 hr
    exact ⟨rfl, fun x hx => by simp [Dv.opV7] at hx; rcases hx with rfl | rfl | rfl | rfl | rfl | rfl | rfl <;> rfl⟩)
  rw [List.map_map] at this
  exact this
theorem set1_box {W : World} {b : Nat} {ty : TypeId} {v : Value} (h : Boxed W b ty v) (u : Value) (hu : W.heap[b]? = some (.cells #[v] ty (0, 0))) : W.grownBy (W.setCell ⟨b, 0, none⟩ u) (some b) ∧ (W.setCell ⟨b, 0, none⟩ u).heap[b]? = some (.cells #[u] ty (0, 0)) := by
  have e : W.setCell ⟨b, 0, none⟩ u = W.setCells b 0 [u] := by simp only [World.setCells]
  rw [e]
  refine ⟨⟨(setCells_os b _ 0 W).1, (setCells_os b _ 0 W).2.1, (setCells_os b _ 0 W).2.2, by rw [Dv.size_setCells]; exact Nat.le_refl _, fun k hk hn => Dv.heap_setCells_other (fun h => hn (by rw [h])) _ _ _⟩, ?_⟩
  obtain ⟨C', hC, hl⟩ := Dv.heap_setCells [u] 0 W _ hu (by simp)
  have hl2 : C'.toList = [u] := by rw [hl]; simp [Dv.splice]
  obtain ⟨cl⟩ := C'
  simp only at hl2
  subst hl2
  exact hC
theorem operIn_append {F : Fence} {n : Nat} {P : Program} {o : Oper} {a : Act} {w : World} {K : Act → World → Prop} {Q : Exit → Act → World → Prop} (s x : Operand) (t : TypeId) (ho : o.op = .call { callee := .builtin .append, args := #[s, x], argTypes := #[t, t] }) {v y v' : Value} {w' : World} (hs : a.eval s = v) (hx : a.eval x = y) (hr : (Builtin.append_ #[t, t] o.type #[v, y]).run P w = .ok v' w') (hK : K (a.put o.dst v') w') : o.wpIn F n P a w K Q := by
  unfold Oper.wpIn
  refine ⟨by simp [Oper.about,ho,resolve,Target.leads,Sem.run_pure], ?_⟩
  rw [Oper.semAt_plain F _ _ (by rw [ho]; intro c hc'; cases hc')]
  simp [execOp,ho,resolve,invoke,builtin,hs,hx,hr,Result.andThen]
  exact hK
theorem rdy1 {F : Fence} {n : Nat} {P : Program} {md : Region.Mode} {ops : Array Oper} {Q : Exit → Act → World → Prop} {fuel : Nat} {listed : Array Bool} {a : Act} {w : World} {i : Nat} {o : Oper} (hr : Region.ready md ops listed = [i]) (hi : ops[i]? = some o)
    (h1 : ∀ K' : Act → World → Prop, (∀ a w, wpAnyIn F n P md ops Q fuel (listed.setIfInBounds i true) a w → K' a w) → if Region.wanted o (yielded ops a.tmps) = true then Oper.wpIn F n P o a w K' Q else (∀ f, o.about P w a.eval = some f → F.fn f) ∧ K' (a.put o.dst undef) w) : wpAnyIn F n P md ops Q (fuel + 1) listed a w :=
  wpAnyIn_ready hr (by simp) (AllReadyIn.cons hi h1 AllReadyIn.nil)
theorem rdy2 {F : Fence} {n : Nat} {P : Program} {md : Region.Mode} {ops : Array Oper} {Q : Exit → Act → World → Prop} {fuel : Nat} {listed : Array Bool} {a : Act} {w : World} {i j : Nat} {o p : Oper} (hr : Region.ready md ops listed = [i, j]) (hi : ops[i]? = some o) (hj : ops[j]? = some p)
    (h1 : ∀ K' : Act → World → Prop, (∀ a w, wpAnyIn F n P md ops Q fuel (listed.setIfInBounds i true) a w → K' a w) → if Region.wanted o (yielded ops a.tmps) = true then Oper.wpIn F n P o a w K' Q else (∀ f, o.about P w a.eval = some f → F.fn f) ∧ K' (a.put o.dst undef) w)
    (h2 : ∀ K' : Act → World → Prop, (∀ a w, wpAnyIn F n P md ops Q fuel (listed.setIfInBounds j true) a w → K' a w) → if Region.wanted p (yielded ops a.tmps) = true then Oper.wpIn F n P p a w K' Q else (∀ f, p.about P w a.eval = some f → F.fn f) ∧ K' (a.put p.dst undef) w) : wpAnyIn F n P md ops Q (fuel + 1) listed a w :=
  wpAnyIn_ready hr (by simp) (AllReadyIn.cons hi h1 (AllReadyIn.cons hj h2 AllReadyIn.nil))
theorem rdy3 {F : Fence} {n : Nat} {P : Program} {md : Region.Mode} {ops : Array Oper} {Q : Exit → Act → World → Prop} {fuel : Nat} {listed : Array Bool} {a : Act} {w : World} {i j k : Nat} {o p q : Oper} (hr : Region.ready md ops listed = [i, j, k]) (hi : ops[i]? = some o) (hj : ops[j]? = some p) (hk : ops[k]? = some q)
    (h1 : ∀ K' : Act → World → Prop, (∀ a w, wpAnyIn F n P md ops Q fuel (listed.setIfInBounds i true) a w → K' a w) → if Region.wanted o (yielded ops a.tmps) = true then Oper.wpIn F n P o a w K' Q else (∀ f, o.about P w a.eval = some f → F.fn f) ∧ K' (a.put o.dst undef) w)
    (h2 : ∀ K' : Act → World → Prop, (∀ a w, wpAnyIn F n P md ops Q fuel (listed.setIfInBounds j true) a w → K' a w) → if Region.wanted p (yielded ops a.tmps) = true then Oper.wpIn F n P p a w K' Q else (∀ f, p.about P w a.eval = some f → F.fn f) ∧ K' (a.put p.dst undef) w)
    (h3 : ∀ K' : Act → World → Prop, (∀ a w, wpAnyIn F n P md ops Q fuel (listed.setIfInBounds k true) a w → K' a w) → if Region.wanted q (yielded ops a.tmps) = true then Oper.wpIn F n P q a w K' Q else (∀ f, q.about P w a.eval = some f → F.fn f) ∧ K' (a.put q.dst undef) w) : wpAnyIn F n P md ops Q (fuel + 1) listed a w :=
  wpAnyIn_ready hr (by simp) (AllReadyIn.cons hi h1 (AllReadyIn.cons hj h2 (AllReadyIn.cons hk h3 AllReadyIn.nil)))
theorem region_fin {F : Fence} {n : Nat} {P : Program} {id : Nat} {ops : Array Oper} {Q : Exit → Act → World → Prop} {a a' : Act} {w w' : World} (hm : P.follows .mixedOrders = true) (h : ∀ Q' : Exit → Act → World → Prop, Q' .normal a' w' → wpAnyIn F n P .any ops Q' ops.size (Array.replicate ops.size false) a w.drew) (hQ : Q .normal a' w') : (Code.region id ops true).wpIn F n P Q a w :=
  wpIn_region_any hm (h Q hQ)
set_option maxRecDepth 100000 in
set_option maxHeartbeats 4000000 in
theorem run_tri (c : Dv.ConfD) (s : Dv.StateD) (hr : Dv.RightP c s) (now most : Int) (h0 : Dv.TimeR now) (hm : most ≤ 90) :
    Dv.Tri Tryz.prog Dv.bookG 15 [Dv.confV c, Dv.stateV s, .int now, .int most] [] (.tup [Dv.stateV (Dv.runD c s now most).1, .d (.lst 7 ((Dv.runD c s now most).2.map Dv.opR))]) [] := by
  refine ⟨by decide, fun J ι w vs S hR => ?_⟩
  obtain ⟨vl⟩ := vs
  match vl, hR with
  | [vc, va, vn, vm], ⟨hc, ha, hn, hmo, _⟩ =>
  have hn : vn = .int .i64 now := hn
  have hmo : vm = .int .i64 most := hmo
  subst hn hmo
  obtain ⟨cs, rfl, hcs⟩ := hc
  obtain ⟨cl⟩ := cs
  match cl, hcs with
  | [c0, c1, c2, c3, c4, c5, c6, c7, c8], ⟨_, e0, _, e1, _, e2, _, e3, _, e4, _, e5, _, e6, _, e7, _, e8, _⟩ =>
  simp only [Dv.LV.int,Dv.Rep,Dv.RepD] at e0 e1 e2 e3 e4 e5 e6 e7 e8
  subst e0 e1 e2 e3 e4 e5 e6 e7 e8
  obtain ⟨xl, rfl, hxr, hxo⟩ := Dv.rep_sDs ha
  have hX : Dv.StRep Dv.bookG J w ι s xl := ⟨S, hxr, hxo⟩
  obtain ⟨x0, x1, x2, x3, x4, x5, rfl⟩ := hX.ex
  have hlen := hr.len
  have hjobs := hr.jobs
  have hCp := fun (A : World) (R : Dv.StRep Dv.bookG J A ι s _) => (Dv.copyD_tri (G := Dv.bookG) s (by omega) (by omega)).stat1 R.st (vs := #[.agg #[.slice x0 x1 x2, .slice x3 x4 x5, .int .i64 s.goal, .int .i64 s.prior, .int .i64 s.mode, .int .i64 s.term]]) ⟨R.arg, trivial⟩
  refine (callsIn_wide (n := 8)).1 ?_
  refine callsIn_of_wp_marks Tryz.func15 rfl trivial ?_ rfl
  simp only [Tryz.ntmps15,List.size_toArray,List.length_cons,List.length_nil,Nat.reduceAdd,Nat.reduceSub,Array.replicate_succ,Array.replicate_zero,List.push_toArray,List.append_toArray,List.nil_append,List.cons_append]
  gi_wp2
  obtain ⟨W0, hW0⟩ : ∃ W0, ((((w.alloc (Obj.cells ⟨[.int .i64 c.nodes, .int .i64 c.queues, .int .i64 c.quota, .int .i64 c.wave, .int .i64 c.lease, .int .i64 c.retry, .int .i64 c.deadline, .int .i64 c.room, .int .i64 c.disk]⟩ 23)).alloc (Obj.cells ⟨[.slice x0 x1 x2, .slice x3 x4 x5, .int .i64 s.goal, .int .i64 s.prior, .int .i64 s.mode, .int .i64 s.term]⟩ 27)).alloc (Obj.cells #[.int .i64 most] 3)).alloc (Obj.cells #[.slice none 0 0, .slice none 0 0, .int .i64 0, .int .i64 0, .int .i64 0, .int .i64 0] 27)) = W0 := ⟨_, rfl⟩
  have hsz : W0.heap.size = w.heap.size + 4 := by rw [← hW0]; simp
  have hB0 : Below w.heap.size w W0 := by
    rw [← hW0]
    exact ((((Below.refl _ w).alloc (Nat.le_refl _) _).alloc (by simp) _).alloc (by simp; omega) _).alloc (by simp; omega) _
  have hat : ∀ k o, w.heap.size ≤ k → [Obj.cells ⟨[.int .i64 c.nodes, .int .i64 c.queues, .int .i64 c.quota, .int .i64 c.wave, .int .i64 c.lease, .int .i64 c.retry, .int .i64 c.deadline, .int .i64 c.room, .int .i64 c.disk]⟩ 23, Obj.cells ⟨[.slice x0 x1 x2, .slice x3 x4 x5, .int .i64 s.goal, .int .i64 s.prior, .int .i64 s.mode, .int .i64 s.term]⟩ 27, Obj.cells #[.int .i64 most] 3, Obj.cells #[.slice none 0 0, .slice none 0 0, .int .i64 0, .int .i64 0, .int .i64 0, .int .i64 0] 27][k - w.heap.size]? = some o → W0.heap[k]? = some o := fun k o hk ho => by
    have := heap_allocs _ w _ o ho
    rw [Nat.add_sub_cancel' hk] at this
    rw [← hW0]
    exact this
  rw [hW0]
  have k0 := hat (w.heap.size) _ (by omega) (by rw [Nat.sub_self]; rfl)
  have k1 := hat (w.heap.size + 1) _ (by omega) (by rw [show w.heap.size + 1 - w.heap.size = 1 by omega]; rfl)
  have k2 := hat (w.heap.size + 1 + 1) _ (by omega) (by rw [show w.heap.size + 1 + 1 - w.heap.size = 2 by omega]; rfl)
  have k3 := hat (w.heap.size + 1 + 1 + 1) _ (by omega) (by rw [show w.heap.size + 1 + 1 + 1 - w.heap.size = 3 by omega]; rfl)
  clear hat hW0
  have hX0 := hX.kept (w' := W0) (fun k hk => hB0.block k (S.jlt k hk))
  have hC0 := hCp W0 hX0
  gi_wp2
  refine ⟨trivial, ?_⟩
  refine (callsIn_wide.2 hC0).mono ?_
  rintro e w1 ⟨ys, Js, rfl, hb1, hY, hmn, hnw⟩
  obtain ⟨y0, y1, y2, y3, y4, y5, rfl⟩ := hY.ex
  have k1' := (hb1.block _ (by omega)).trans k1
  obtain ⟨t0, t1, t2, t3, t4, t5⟩ := st_cells k1'
  have k3' := (hb1.block _ (by omega)).trans k3
  obtain ⟨u0, u1, u2, u3, u4, u5⟩ := st_cells k3'
  have k2' : Boxed w1 (w.heap.size + 1 + 1) 3 (.int .i64 most) := (hb1.block _ (by omega)).trans k2
  have cm := k2'.cell
  obtain ⟨g2, hb2, -⟩ := set6_box k1' (.slice y0 y1 y2) (.slice y3 y4 y5) (.int .i64 s.goal) (.int .i64 s.prior) (.int .i64 s.mode) (.int .i64 s.term)
  have hs1 := hb1.size
  have f1 : ∀ i, w1.frozen? ⟨w.heap.size + 1, i, none⟩ = false := fun i => by simp [World.frozen?,k1']
  have gA := World.grownBy_alloc ((((((w1.setCell ⟨w.heap.size + 1, 0, none⟩ (.slice y0 y1 y2)).setCell ⟨w.heap.size + 1, 1, none⟩ (.slice y3 y4 y5)).setCell ⟨w.heap.size + 1, 2, none⟩ (.int .i64 s.goal)).setCell ⟨w.heap.size + 1, 3, none⟩ (.int .i64 s.prior)).setCell ⟨w.heap.size + 1, 4, none⟩ (.int .i64 s.mode)).setCell ⟨w.heap.size + 1, 5, none⟩ (.int .i64 s.term)) (Obj.cells #[.slice none 0 0] 39) none
  have sA : w1.heap.size ≤ ((((((w1.setCell ⟨w.heap.size + 1, 0, none⟩ (.slice y0 y1 y2)).setCell ⟨w.heap.size + 1, 1, none⟩ (.slice y3 y4 y5)).setCell ⟨w.heap.size + 1, 2, none⟩ (.int .i64 s.goal)).setCell ⟨w.heap.size + 1, 3, none⟩ (.int .i64 s.prior)).setCell ⟨w.heap.size + 1, 4, none⟩ (.int .i64 s.mode)).setCell ⟨w.heap.size + 1, 5, none⟩ (.int .i64 s.term)).heap.size := g2.size
  have b2A := (gA.block (w.heap.size + 1) (by omega) (by simp)).trans hb2
  have k2A : (((((((w1.setCell ⟨w.heap.size + 1, 0, none⟩ (.slice y0 y1 y2)).setCell ⟨w.heap.size + 1, 1, none⟩ (.slice y3 y4 y5)).setCell ⟨w.heap.size + 1, 2, none⟩ (.int .i64 s.goal)).setCell ⟨w.heap.size + 1, 3, none⟩ (.int .i64 s.prior)).setCell ⟨w.heap.size + 1, 4, none⟩ (.int .i64 s.mode)).setCell ⟨w.heap.size + 1, 5, none⟩ (.int .i64 s.term)).alloc (Obj.cells #[.slice none 0 0] 39)).heap[w.heap.size + 1 + 1]? = some (.cells #[.int .i64 most] 3 (0, 0)) := (gA.block _ (by omega) (by simp)).trans ((g2.block _ (by omega) (by simp <;> omega)).trans k2')
  have k3A : (((((((w1.setCell ⟨w.heap.size + 1, 0, none⟩ (.slice y0 y1 y2)).setCell ⟨w.heap.size + 1, 1, none⟩ (.slice y3 y4 y5)).setCell ⟨w.heap.size + 1, 2, none⟩ (.int .i64 s.goal)).setCell ⟨w.heap.size + 1, 3, none⟩ (.int .i64 s.prior)).setCell ⟨w.heap.size + 1, 4, none⟩ (.int .i64 s.mode)).setCell ⟨w.heap.size + 1, 5, none⟩ (.int .i64 s.term)).alloc (Obj.cells #[.slice none 0 0] 39)).heap[w.heap.size + 1 + 1 + 1]? = _ := (gA.block _ (by omega) (by simp)).trans ((g2.block _ (by omega) (by simp <;> omega)).trans k3')
  have cmA : (((((((w1.setCell ⟨w.heap.size + 1, 0, none⟩ (.slice y0 y1 y2)).setCell ⟨w.heap.size + 1, 1, none⟩ (.slice y3 y4 y5)).setCell ⟨w.heap.size + 1, 2, none⟩ (.int .i64 s.goal)).setCell ⟨w.heap.size + 1, 3, none⟩ (.int .i64 s.prior)).setCell ⟨w.heap.size + 1, 4, none⟩ (.int .i64 s.mode)).setCell ⟨w.heap.size + 1, 5, none⟩ (.int .i64 s.term)).alloc (Obj.cells #[.slice none 0 0] 39)).cell? ⟨w.heap.size + 1 + 1, 0, none⟩ = some (.int .i64 most) := by simp only [World.cell?,k2A]; rfl
  have f3 : ∀ i, (((((((w1.setCell ⟨w.heap.size + 1, 0, none⟩ (.slice y0 y1 y2)).setCell ⟨w.heap.size + 1, 1, none⟩ (.slice y3 y4 y5)).setCell ⟨w.heap.size + 1, 2, none⟩ (.int .i64 s.goal)).setCell ⟨w.heap.size + 1, 3, none⟩ (.int .i64 s.prior)).setCell ⟨w.heap.size + 1, 4, none⟩ (.int .i64 s.mode)).setCell ⟨w.heap.size + 1, 5, none⟩ (.int .i64 s.term)).alloc (Obj.cells #[.slice none 0 0] 39)).frozen? ⟨w.heap.size + 1 + 1 + 1, i, none⟩ = false := fun i => by simp [World.frozen?,k3A]
  obtain ⟨v0, v1, v2, v3, v4, v5⟩ := st_cells b2A
  obtain ⟨z0, z1, z2, z3, z4, z5⟩ := st_cells k3A
  clear cm u0 u1 u2 u3 u4 u5
  have hBw1 : Below w.heap.size w w1 := hB0.trans (hb1.mono hB0.size)
  have hBA : Below w.heap.size w (((((((w1.setCell ⟨w.heap.size + 1, 0, none⟩ (.slice y0 y1 y2)).setCell ⟨w.heap.size + 1, 1, none⟩ (.slice y3 y4 y5)).setCell ⟨w.heap.size + 1, 2, none⟩ (.int .i64 s.goal)).setCell ⟨w.heap.size + 1, 3, none⟩ (.int .i64 s.prior)).setCell ⟨w.heap.size + 1, 4, none⟩ (.int .i64 s.mode)).setCell ⟨w.heap.size + 1, 5, none⟩ (.int .i64 s.term)).alloc (Obj.cells #[.slice none 0 0] 39)) := (hBw1.grown g2 hBw1.size (fun r e => by cases e; omega)).alloc (Nat.le_trans hBw1.size sA) _
  have hJn : ∀ k, Js k → k < w.heap.size ∨ w.heap.size + 4 ≤ k := fun k hk => (hnw k hk).elim (fun h => .inl (S.jlt k h)) (fun h => .inr (by omega))
  have hsub : (∀ k, J k → Js k) ∧ ∀ k, Js k → J k ∨ w.heap.size ≤ k := ⟨hmn, fun k hk => (hnw k hk).elim .inl (fun h => .inr (by omega))⟩
  have hYA := hY.kept (w' := (((((((w1.setCell ⟨w.heap.size + 1, 0, none⟩ (.slice y0 y1 y2)).setCell ⟨w.heap.size + 1, 1, none⟩ (.slice y3 y4 y5)).setCell ⟨w.heap.size + 1, 2, none⟩ (.int .i64 s.goal)).setCell ⟨w.heap.size + 1, 3, none⟩ (.int .i64 s.prior)).setCell ⟨w.heap.size + 1, 4, none⟩ (.int .i64 s.mode)).setCell ⟨w.heap.size + 1, 5, none⟩ (.int .i64 s.term)).alloc (Obj.cells #[.slice none 0 0] 39))) (fun k hk => by
    have h1 := hY.st.jlt k hk
    have h2 := hJn k hk
    exact (gA.block k (by omega) (by simp)).trans (g2.block k h1 (by simp; omega)))
  by_cases hm1 : most < 1
  case pos =>
    gi_wp2
    obtain ⟨g3, hb3, -⟩ := set6_box k3A (.slice y0 y1 y2) (.slice y3 y4 y5) (.int .i64 s.goal) (.int .i64 s.prior) (.int .i64 s.mode) (.int .i64 s.term)
    have hB3 := hBA.grown g3 hBA.size (fun r e => by cases e; omega)
    have hY3 := hYA.kept (fun k hk => g3.block k (hYA.st.jlt k hk) (by have := hJn k hk; simp; omega))
    obtain ⟨r0, r1, r2, r3, r4, r5⟩ := st_cells hb3
    have hrun : Dv.runD c s now most = (s, []) := by unfold Dv.runD; rw [show most.toNat = 0 by omega]; rfl
    rw [hrun]
    refine ⟨.tuple #[.agg #[.slice y0 y1 y2, .slice y3 y4 y5, .int .i64 s.goal, .int .i64 s.prior, .int .i64 s.mode, .int .i64 s.term], .slice none 0 0], ?_, _, rfl, ?_⟩
    · simp [results,Tryz.f15,go_sem,r0,r1,r2,r3,r4,r5]
    · exact after_run (rows := []) (N0 := w.heap.size) (e := 32) S hB3 hY3 hsub (Nat.le_refl _) ⟨rfl, .inl ⟨rfl, rfl⟩⟩ (fun r hr => by cases hr)
  case neg =>
    have k0A : (((((((w1.setCell ⟨w.heap.size + 1, 0, none⟩ (.slice y0 y1 y2)).setCell ⟨w.heap.size + 1, 1, none⟩ (.slice y3 y4 y5)).setCell ⟨w.heap.size + 1, 2, none⟩ (.int .i64 s.goal)).setCell ⟨w.heap.size + 1, 3, none⟩ (.int .i64 s.prior)).setCell ⟨w.heap.size + 1, 4, none⟩ (.int .i64 s.mode)).setCell ⟨w.heap.size + 1, 5, none⟩ (.int .i64 s.term)).alloc (Obj.cells #[.slice none 0 0] 39)).heap[w.heap.size]? = some (.cells (Dv.confV9 c) 23 (0, 0)) := (gA.block _ (by omega) (by simp)).trans ((g2.block _ (by omega) (by simp)).trans ((hb1.block _ (by omega)).trans k0))
    obtain ⟨p0, p1, p2, p3, p4, p5, p6, p7, p8⟩ := conf_cells k0A
    iterate 32 (first | gi_step | gi_upon | simp only [])
    have oA : (((((((w1.setCell ⟨w.heap.size + 1, 0, none⟩ (.slice y0 y1 y2)).setCell ⟨w.heap.size + 1, 1, none⟩ (.slice y3 y4 y5)).setCell ⟨w.heap.size + 1, 2, none⟩ (.int .i64 s.goal)).setCell ⟨w.heap.size + 1, 3, none⟩ (.int .i64 s.prior)).setCell ⟨w.heap.size + 1, 4, none⟩ (.int .i64 s.mode)).setCell ⟨w.heap.size + 1, 5, none⟩ (.int .i64 s.term)).alloc (Obj.cells #[.slice none 0 0] 39)).heap[w1.heap.size]? = some (.cells #[.slice none 0 0] 39 (0, 0)) := by
      have e : ((((((w1.setCell ⟨w.heap.size + 1, 0, none⟩ (.slice y0 y1 y2)).setCell ⟨w.heap.size + 1, 1, none⟩ (.slice y3 y4 y5)).setCell ⟨w.heap.size + 1, 2, none⟩ (.int .i64 s.goal)).setCell ⟨w.heap.size + 1, 3, none⟩ (.int .i64 s.prior)).setCell ⟨w.heap.size + 1, 4, none⟩ (.int .i64 s.mode)).setCell ⟨w.heap.size + 1, 5, none⟩ (.int .i64 s.term)).heap.size = w1.heap.size := by simp [World.setCell]
      rw [← e]
      exact World.alloc_heap_new _ _
    have zA : (((((((w1.setCell ⟨w.heap.size + 1, 0, none⟩ (.slice y0 y1 y2)).setCell ⟨w.heap.size + 1, 1, none⟩ (.slice y3 y4 y5)).setCell ⟨w.heap.size + 1, 2, none⟩ (.int .i64 s.goal)).setCell ⟨w.heap.size + 1, 3, none⟩ (.int .i64 s.prior)).setCell ⟨w.heap.size + 1, 4, none⟩ (.int .i64 s.mode)).setCell ⟨w.heap.size + 1, 5, none⟩ (.int .i64 s.term)).alloc (Obj.cells #[.slice none 0 0] 39)).heap.size = w1.heap.size + 1 := by simp [World.setCell]
    have e5 : ((((((w1.setCell ⟨w.heap.size + 1, 0, none⟩ (.slice y0 y1 y2)).setCell ⟨w.heap.size + 1, 1, none⟩ (.slice y3 y4 y5)).setCell ⟨w.heap.size + 1, 2, none⟩ (.int .i64 s.goal)).setCell ⟨w.heap.size + 1, 3, none⟩ (.int .i64 s.prior)).setCell ⟨w.heap.size + 1, 4, none⟩ (.int .i64 s.mode)).setCell ⟨w.heap.size + 1, 5, none⟩ (.int .i64 s.term)).heap.size = w1.heap.size := by simp [World.setCell]
    try rw [e5]
    clear gA g2 hb2 sA e5
    generalize (((((((w1.setCell ⟨w.heap.size + 1, 0, none⟩ (.slice y0 y1 y2)).setCell ⟨w.heap.size + 1, 1, none⟩ (.slice y3 y4 y5)).setCell ⟨w.heap.size + 1, 2, none⟩ (.int .i64 s.goal)).setCell ⟨w.heap.size + 1, 3, none⟩ (.int .i64 s.prior)).setCell ⟨w.heap.size + 1, 4, none⟩ (.int .i64 s.mode)).setCell ⟨w.heap.size + 1, 5, none⟩ (.int .i64 s.term)).alloc (Obj.cells #[.slice none 0 0] 39)) = WA at *
    repeat (first | gi_step | gi_upon | simp only [])
    refine ⟨trivial, ?_⟩
    refine (steps_in 7 [.int .i64 c.nodes, .int .i64 c.queues, .int .i64 c.quota, .int .i64 c.wave, .int .i64 c.lease, .int .i64 c.retry, .int .i64 c.deadline, .int .i64 c.room, .int .i64 c.disk] [.slice y0 y1 y2, .slice y3 y4 y5, .int .i64 s.goal, .int .i64 s.prior, .int .i64 s.mode, .int .i64 s.term] now _).mono ?_
    rintro e w' ⟨rfl, rfl⟩
    obtain ⟨WL, hWL⟩ : ∃ WL, (((WA.alloc (Obj.cells ⟨[.int .i64 c.nodes, .int .i64 c.queues, .int .i64 c.quota, .int .i64 c.wave, .int .i64 c.lease, .int .i64 c.retry, .int .i64 c.deadline, .int .i64 c.room, .int .i64 c.disk]⟩ 23)).alloc (Obj.cells ⟨[.slice y0 y1 y2, .slice y3 y4 y5, .int .i64 s.goal, .int .i64 s.prior, .int .i64 s.mode, .int .i64 s.term]⟩ 27)).alloc (Obj.cells #[.int .i64 now] 3)) = WL := ⟨_, rfl⟩
    have lsz : WL.heap.size = WA.heap.size + 3 := by rw [← hWL]; simp
    have gL : WA.grownBy WL none := by
      rw [← hWL]
      exact grown_alloc (grown_alloc (World.grownBy_alloc WA _ none) _) _
    have hat : ∀ k o, WA.heap.size ≤ k → [Obj.cells ⟨[.int .i64 c.nodes, .int .i64 c.queues, .int .i64 c.quota, .int .i64 c.wave, .int .i64 c.lease, .int .i64 c.retry, .int .i64 c.deadline, .int .i64 c.room, .int .i64 c.disk]⟩ 23, Obj.cells ⟨[.slice y0 y1 y2, .slice y3 y4 y5, .int .i64 s.goal, .int .i64 s.prior, .int .i64 s.mode, .int .i64 s.term]⟩ 27, Obj.cells #[.int .i64 now] 3][k - WA.heap.size]? = some o → WL.heap[k]? = some o := fun k o hk ho => by
      have := heap_allocs _ WA _ o ho
      rw [Nat.add_sub_cancel' hk] at this
      rw [← hWL]
      exact this
    rw [hWL]
    have lc := hat WA.heap.size _ (by omega) (by rw [Nat.sub_self]; rfl)
    have ls := hat (WA.heap.size + 1) _ (by omega) (by rw [show WA.heap.size + 1 - WA.heap.size = 1 by omega]; rfl)
    have ln := hat (WA.heap.size + 1 + 1) _ (by omega) (by rw [show WA.heap.size + 1 + 1 - WA.heap.size = 2 by omega]; rfl)
    clear hat hWL
    have hBL : Below w.heap.size w WL := ⟨gL.os.trans hBA.os, gL.tape.trans hBA.tape, gL.output.trans hBA.output, Nat.le_trans hBA.size gL.size, fun k hk => (gL.block k (by omega) (by simp)).trans (hBA.block k hk)⟩
    have hYL := hYA.kept (fun k hk => gL.block k (hYA.st.jlt k hk) (by simp))
    have b2L := (gL.block _ (by omega) (by simp)).trans b2A
    have k2L : Boxed WL (w.heap.size + 1 + 1) 3 (.int .i64 most) := (gL.block _ (by omega) (by simp)).trans k2A
    have k3L := (gL.block _ (by omega) (by simp)).trans k3A
    have oL : Boxed WL w1.heap.size 39 (.slice none 0 0) := (gL.block _ (by omega) (by simp)).trans oA
    repeat (first | gi_step | gi_upon | simp only [])
    have hs1A := hY.st
    have hsub4 : (∀ k, J k → Js k) ∧ ∀ k, Js k → J k ∨ w.heap.size + 4 ≤ k := ⟨hmn, fun k hk => (hnw k hk).elim .inl (fun h => .inr (by omega))⟩
    have hoff : ∀ k, Js k → k ≠ w.heap.size + 1 ∧ k ≠ w1.heap.size ∧ k ≠ WA.heap.size + 1 ∧ ¬ OutB w1.heap.size WL k := fun k hk => by
      have q1 := hs1A.jlt k hk
      have q2 := hJn k hk
      refine ⟨by omega, by omega, by omega, fun ⟨v, hv, ho⟩ => ?_⟩
      have := oL.cell
      rw [this] at hv
      cases hv
      simp [Value.ownBlock] at ho
    have hSI : StI Dv.bookG ι c now s J (w.heap.size + 4) WA.heap.size (WA.heap.size + 1) (WA.heap.size + 1 + 1) (w.heap.size + 1) w1.heap.size [] s [.slice y0 y1 y2, .slice y3 y4 y5, .int .i64 s.goal, .int .i64 s.prior, .int .i64 s.mode, .int .i64 s.term] Js WL := ⟨hr, rfl, ls, lc, ln, hYL, hoff, hsub4⟩
    have hR0 : RunI ι c now most s J w w1.heap.size (WA.heap.size + 1) WL.heap.size [] WL := ⟨⟨s, [.slice y0 y1 y2, .slice y3 y4 y5, .int .i64 s.goal, .int .i64 s.prior, .int .i64 s.mode, .int .i64 s.term], Js, rfl, hr, b2L, hYL, hsub4, hoff⟩, ⟨.slice none 0 0, oL, ⟨rfl, .inl ⟨rfl, rfl⟩⟩⟩, k2L, k3L, hBL, Nat.le_refl _⟩
    refine wpIn_rangeFunc_stop (n := 8) rfl (by decide) (gf := 50) (lb := #[.pointer (some ⟨WA.heap.size, 0, none⟩), .pointer (some ⟨WA.heap.size + 1, 0, none⟩), .pointer (some ⟨WA.heap.size + 1 + 1, 0, none⟩)]) rfl trivial (enters_of Tryz.func50 (by kernel_rfl) rfl)
      (encs := encE) (B := WA.heap.size + 1) (PxS Dv.bookG ι c now s J (w.heap.size + 4) (WA.heap.size + 1) (w.heap.size + 1) w1.heap.size) (fun ys => ∃ sk, Dv.chainP c now s ys sk ∧ Dv.stopP c now sk) (KpO (w.heap.size + 1) w1.heap.size) (fun _ => rfl)
      (fun h k => h.trans k) KpO.grown (fun W l o o' hl ho hc => KpO.put W l o o' ho hc (by omega))
      (fun pre W => RunI ι c now most s J w w1.heap.size (WA.heap.size + 1) WL.heap.size pre W ∧ (pre.length : Int) < most)
      (fun pre W => RunI ι c now most s J w w1.heap.size (WA.heap.size + 1) WL.heap.size pre W ∧ (pre.length : Int) = most)
      (fun pre A A' row h hg hr => ⟨RunI.own (by omega) (by omega) (by omega) A A' row h.1 hg hr, h.2⟩) (fun pre A A' row h hg hr => ⟨RunI.own (by omega) (by omega) (by omega) A A' row h.1 hg hr, h.2⟩) ⟨hR0, by simp; omega⟩
      (fun x W => { tmps := #[.agg ⟨[.int .i64 c.nodes, .int .i64 c.queues, .int .i64 c.quota, .int .i64 c.wave, .int .i64 c.lease, .int .i64 c.retry, .int .i64 c.deadline, .int .i64 c.room, .int .i64 c.disk]⟩, .agg ⟨[.slice x0 x1 x2, .slice x3 x4 x5, .int .i64 s.goal, .int .i64 s.prior, .int .i64 s.mode, .int .i64 s.term]⟩, .int .i64 now, .int .i64 most, .pointer (some ⟨w.heap.size, 0, none⟩), .pointer (some ⟨w.heap.size + 1, 0, none⟩), undef, .pointer (some ⟨w.heap.size + 1 + 1, 0, none⟩), .pointer (some ⟨w.heap.size + 1 + 1 + 1, 0, none⟩), .slice none 0 0, .pointer (some ⟨w1.heap.size, 0, none⟩), .pointer (some ⟨W.heap.size, 0, none⟩), .pointer (some ⟨W.heap.size + 1, 0, none⟩), .agg #[.slice x0 x1 x2, .slice x3 x4 x5, .int .i64 s.goal, .int .i64 s.prior, .int .i64 s.mode, .int .i64 s.term], .agg ⟨[.slice y0 y1 y2, .slice y3 y4 y5, .int .i64 s.goal, .int .i64 s.prior, .int .i64 s.mode, .int .i64 s.term]⟩, .int .i64 most, .bool false, undef, .agg #[.int .i64 c.nodes, .int .i64 c.queues, .int .i64 c.quota, .int .i64 c.wave, .int .i64 c.lease, .int .i64 c.retry, .int .i64 c.deadline, .int .i64 c.room, .int .i64 c.disk], .agg #[.slice y0 y1 y2, .slice y3 y4 y5, .int .i64 s.goal, .int .i64 s.prior, .int .i64 s.mode, .int .i64 s.term], .int .i64 now, .func (.func 50) #[] #[.pointer (some ⟨WA.heap.size, 0, none⟩), .pointer (some ⟨WA.heap.size + 1, 0, none⟩), .pointer (some ⟨WA.heap.size + 1 + 1, 0, none⟩)], .agg (Dv.opV7 x.1), .agg ⟨x.2.2⟩, undef, undef, undef, undef, undef, undef, undef, undef, undef, undef, undef], defers := [] })
      (fun x W => (W.alloc (.cells (Dv.opV7 x.1) 32)).alloc (.cells ⟨x.2.2⟩ 27)) (fun x W => grown_alloc (World.grownBy_alloc W _ none) _) (by omega)
      (fun l I Jx W hJt hJI hYd hWg hW0 => ?seq) ?assign ?body ?done ?stop
    case seq =>
      have hWs := hWg.size
      exact steps1_in c s now most h0 6 J (w.heap.size + 4) l WA.heap.size (WA.heap.size + 1) (WA.heap.size + 1 + 1) (w.heap.size + 1) w1.heap.size WL.heap.size W (by omega) [.slice y0 y1 y2, .slice y3 y4 y5, .int .i64 s.goal, .int .i64 s.prior, .int .i64 s.mode, .int .i64 s.term] Js (hSI.grown hWg (by omega)) ⟨by omega, by omega, by omega, by omega⟩ ⟨by omega, by omega, by omega, by omega⟩ ⟨by omega, by omega, by omega⟩ ⟨by omega, by omega⟩ I Jx hJt
        (fun pre A k hA ho => (hJI pre A hA).1.outs.1 k ho) (fun pre A hA => ⟨(hJI pre A hA).2, (hJI pre A hA).1.outs.2⟩) hYd hW0
    case assign =>
      rintro l pre ⟨o, t, ys⟩ W K ⟨sk', J', -, -, -, -, hR', -, -⟩ hK
      dsimp only at hR'
      obtain ⟨q0, q1, q2, q3, q4, q5, rfl⟩ := hR'.ex
      simp only [encE,Dv.opV7] at hK ⊢
      gi_wp2
      first
      | exact hK
      | (simp only [zA] at hK; exact hK)
    case body =>
      rintro l rc pre ⟨o, t, ys⟩ W hl1 hl2 ⟨hRI, hlt⟩ ⟨sk', J', p1, p2, p3, p4, hR', p5, p6⟩ ⟨hRb, -⟩ hKb
      dsimp only at p2 p3 p4 hR'
      have mixed : Tryz.prog.follows .mixedOrders = true := by kernel_rfl
      obtain ⟨q0, q1, q2, q3, q4, q5, rfl⟩ := hR'.ex
      simp only [Dv.opV7] at hRb hKb ⊢
      obtain ⟨Wb, hWb⟩ : ∃ Wb, (((W.alloc (Obj.cells #[.int .i64 o.kind, .int .i64 o.a, .int .i64 o.b, .int .i64 o.c, .int .i64 o.d, .int .i64 o.e, .int .i64 o.f] 32)).alloc (Obj.cells ⟨[.slice q0 q1 q2, .slice q3 q4 q5, .int .i64 t.goal, .int .i64 t.prior, .int .i64 t.mode, .int .i64 t.term]⟩ 27)).putObj l rc) = Wb := ⟨_, rfl⟩
      have w11 : Wb.heap[W.heap.size]? = some (.cells #[.int .i64 o.kind, .int .i64 o.a, .int .i64 o.b, .int .i64 o.c, .int .i64 o.d, .int .i64 o.e, .int .i64 o.f] 32 (0, 0)) := by
        rw [← hWb]
        exact (World.putObj_heap_other (by omega)).trans (((World.grownBy_alloc _ _ none).block _ (by simp) (by simp)).trans (World.alloc_heap_new W _))
      have w12 : Wb.heap[W.heap.size + 1]? = some (.cells #[.slice q0 q1 q2, .slice q3 q4 q5, .int .i64 t.goal, .int .i64 t.prior, .int .i64 t.mode, .int .i64 t.term] 27 (0, 0)) := by
        rw [← hWb]
        have := World.alloc_heap_new (W.alloc (Obj.cells #[.int .i64 o.kind, .int .i64 o.a, .int .i64 o.b, .int .i64 o.c, .int .i64 o.d, .int .i64 o.e, .int .i64 o.f] 32)) (Obj.cells ⟨[.slice q0 q1 q2, .slice q3 q4 q5, .int .i64 t.goal, .int .i64 t.prior, .int .i64 t.mode, .int .i64 t.term]⟩ 27)
        rw [World.size_alloc] at this
        exact (World.putObj_heap_other (by omega)).trans this
      rw [hWb] at hRb hKb ⊢
      clear hWb
      obtain ⟨sk0, zs, Jz, c1, c2, c3, c4, c6, c5⟩ := hRb.st
      obtain ⟨y0', y1', y2', y3', y4', y5', rfl⟩ := c4.ex
      obtain ⟨v, o1, o2⟩ := hRb.out
      have ov := o1.cell
      have ofr := o1.frozen
      have omo := hRb.most.cell
      obtain ⟨r0, r1, r2, r3, r4, r5⟩ := st_cells c3
      have fz : ∀ i, Wb.frozen? ⟨w.heap.size + 1, i, none⟩ = false := fun i => by simp [World.frozen?,c3]
      obtain ⟨g0, g1', g2', g3', g4', g5', g6'⟩ := op_cells w11
      obtain ⟨j0, j1, j2, j3, j4, j5⟩ := st_cells w12
      obtain ⟨i0, z0, e1, e2, e3, e4, e5, _⟩ := Dv.elemT_spec (P := Tryz.prog) (e := 32) (n := 7) (b := 56) (by kernel_rfl)
      have hsWb := hRb.size
      have o2d : (Wb.drew.alloc (Obj.cells #[.int .i64 o.kind, .int .i64 o.a, .int .i64 o.b, .int .i64 o.c, .int .i64 o.d, .int .i64 o.e, .int .i64 o.f] 32)).ownsRow WL.heap.size 32 7 v pre.length (opsV (opsE pre)) := row_away o2 (row := none) ⟨rfl, rfl, rfl, by simp, fun k hk _ => (World.grownBy_alloc Wb.drew (Obj.cells #[.int .i64 o.kind, .int .i64 o.a, .int .i64 o.b, .int .i64 o.c, .int .i64 o.d, .int .i64 o.e, .int .i64 o.f] 32) none).block k hk (by simp)⟩ (fun r e => by cases e)
      obtain ⟨v', w', hrun, ho', hg', hnil', hat'⟩ := run_append_own_at (P := Tryz.prog) (w := Wb.drew.alloc (Obj.cells #[.int .i64 o.kind, .int .i64 o.a, .int .i64 o.b, .int .i64 o.c, .int .i64 o.d, .int .i64 o.e, .int .i64 o.f] 32)) WL.heap.size 39 39 32 i0 z0 7 56 Tryz.underlying39 e1 e2 e3 e4 (e5.trans e3) (by decide) v pre.length _ o2d ⟨Wb.heap.size, 0, none⟩ 1 1 [.int .i64 o.kind, .int .i64 o.a, .int .i64 o.b, .int .i64 o.c, .int .i64 o.d, .int .i64 o.e, .int .i64 o.f] rfl (fun j u hj => Dv.cells_newN Wb.drew _ _ _ rfl j u hj) (by simp [Value.oneCell']) (by simp only [Go.maxLen]; omega) (by omega) (by simp; omega)
      obtain ⟨vp, vc, rfl⟩ : ∃ p c, v' = .slice p (pre.length + 1) c := by
        rcases ho'.2 with ⟨rfl, hz0⟩ | ⟨g, cap, cur, rfl, -⟩
        · omega
        · exact ⟨_, _, rfl⟩
      repeat (first | gi_step | gi_upon | simp only [])
      have hgA : Wb.grownBy (Wb.drew.alloc (Obj.cells #[.int .i64 o.kind, .int .i64 o.a, .int .i64 o.b, .int .i64 o.c, .int .i64 o.d, .int .i64 o.e, .int .i64 o.f] 32)) none := ⟨rfl, rfl, rfl, by simp, fun k hk _ => (World.grownBy_alloc Wb.drew (Obj.cells #[.int .i64 o.kind, .int .i64 o.a, .int .i64 o.b, .int .i64 o.c, .int .i64 o.d, .int .i64 o.e, .int .i64 o.f] 32) none).block k hk (by simp)⟩
      have hown : ∀ b, v.ownBlock = some b → WL.heap.size ≤ b ∧ ∃ C, Wb.heap[b]? = some (.cells C 32 (0, 0)) := fun b hb => by
        rcases o2.2 with ⟨rfl, hn0⟩ | ⟨g, cap, cur, rfl, hbg, hcg, rest⟩
        · simp [Value.ownBlock] at hb
        · simp only [Value.ownBlock,Option.some.injEq] at hb
          subst hb
          exact ⟨hbg, _, hcg⟩
      have hk' : ∀ (k : Nat) C t f, (∀ b, v.ownBlock = some b → k ≠ b) → Wb.heap[k]? = some (.cells C t f) → w'.heap[k]? = some (.cells C t f) := fun k C t f hne hk => by
        have hlt := (Array.getElem?_eq_some_iff.1 hk).1
        exact (hg'.block k (by simp; omega) (fun e => hne k e.symm rfl)).trans ((hgA.block k hlt (by simp)).trans hk)
      have hB1 : w1.heap.size < WL.heap.size := by omega
      have c3' := hk' _ _ _ _ (fun b hb => by have := (hown b hb).1; omega) c3
      have o1' : Boxed w' w1.heap.size 39 v := hk' _ _ _ _ (fun b hb => by have := (hown b hb).1; omega) o1
      have w12' := hk' _ _ _ _ (fun b hb => by
        obtain ⟨-, C, hC⟩ := hown b hb
        rintro rfl
        rw [w12] at hC
        cases hC) w12
      obtain ⟨sa0, sa1, sa2, sa3, sa4, sa5⟩ := st_cells c3'
      obtain ⟨sb0, sb1, sb2, sb3, sb4, sb5⟩ := st_cells w12'
      have ov' := o1'.cell
      have ofr' := o1'.frozen
      have fz' : ∀ i, w'.frozen? ⟨w.heap.size + 1, i, none⟩ = false := fun i => by simp [World.frozen?,c3']
      have hne1 : w1.heap.size ≠ w.heap.size + 1 := by omega
      have hne2 : w.heap.size + 1 ≠ w1.heap.size := by omega
      have hxa : ∀ (k : Nat) C t f, Wb.heap[k]? = some (.cells C t f) → ((Wb.alloc (Obj.cells #[.int .i64 o.kind, .int .i64 o.a, .int .i64 o.b, .int .i64 o.c, .int .i64 o.d, .int .i64 o.e, .int .i64 o.f] 32)).drew).heap[k]? = some (.cells C t f) := fun k C t f hk => (hgA.block k (Array.getElem?_eq_some_iff.1 hk).1 (by simp)).trans hk
      have ovA := (show Boxed ((Wb.alloc (Obj.cells #[.int .i64 o.kind, .int .i64 o.a, .int .i64 o.b, .int .i64 o.c, .int .i64 o.d, .int .i64 o.e, .int .i64 o.f] 32)).drew) w1.heap.size 39 v from hxa _ _ _ _ o1).cell
      obtain ⟨sc0, sc1, sc2, sc3, sc4, sc5⟩ := st_cells (hxa _ _ _ _ w12)
      obtain ⟨gS, hbS, -⟩ := set6_box c3' (.slice q0 q1 q2) (.slice q3 q4 q5) (.int .i64 t.goal) (.int .i64 t.prior) (.int .i64 t.mode) (.int .i64 t.term)
      have oS : Boxed ((((((w'.setCell ⟨w.heap.size + 1, 0, none⟩ (.slice q0 q1 q2)).setCell ⟨w.heap.size + 1, 1, none⟩ (.slice q3 q4 q5)).setCell ⟨w.heap.size + 1, 2, none⟩ (.int .i64 t.goal)).setCell ⟨w.heap.size + 1, 3, none⟩ (.int .i64 t.prior)).setCell ⟨w.heap.size + 1, 4, none⟩ (.int .i64 t.mode)).setCell ⟨w.heap.size + 1, 5, none⟩ (.int .i64 t.term)) w1.heap.size 39 v := (gS.block _ (Array.getElem?_eq_some_iff.1 o1').1 (by simp; omega)).trans o1'
      have ovS := oS.cell
      have ofS := oS.frozen
      refine region_fin (a' := ?aa) (w' := ?ww) mixed ?walk ?fin
      case walk =>
        intro Q' hQ'
        refine rdy3 (i := 0) (j := 1) (k := 2) (by kernel_rfl) rfl rfl rfl (fun K hK => ?_) (fun K hK => ?_) (fun K hK => ?_)
        · go_simp; refine hK _ _ ?_; clear hK K
          refine rdy2 (i := 1) (j := 2) (by kernel_rfl) rfl rfl (fun K hK => ?_) (fun K hK => ?_)
          · go_simp; refine hK _ _ ?_; clear hK K
            refine rdy1 (i := 2) (by kernel_rfl) rfl (fun K hK => ?_)
            go_simp; refine hK _ _ ?_; clear hK K
            refine rdy1 (i := 3) (by kernel_rfl) rfl (fun K hK => ?_)
            go_simp; refine hK _ _ ?_; clear hK K
            refine rdy1 (i := 4) (by kernel_rfl) rfl (fun K hK => ?_)
            rw [if_pos (by rfl)]; refine operIn_append (.tmp 25) (.tmp 27) 39 rfl rfl rfl hrun ?_; refine hK _ _ ?_; clear hK K; simp only [Act.put,List.setIfInBounds_toArray,List.set_cons_zero,List.set_cons_succ]
            refine rdy1 (i := 5) (by kernel_rfl) rfl (fun K hK => ?_)
            go_simp; refine hK _ _ ?_; clear hK K
            refine rdy1 (i := 6) (by kernel_rfl) rfl (fun K hK => ?_)
            go_simp; refine hK _ _ ?_; clear hK K
            exact wpAnyIn_done (by kernel_rfl) hQ' _
          · go_simp; refine hK _ _ ?_; clear hK K
            refine rdy2 (i := 1) (j := 3) (by kernel_rfl) rfl rfl (fun K hK => ?_) (fun K hK => ?_)
            · go_simp; refine hK _ _ ?_; clear hK K
              refine rdy1 (i := 3) (by kernel_rfl) rfl (fun K hK => ?_)
              go_simp; refine hK _ _ ?_; clear hK K
              refine rdy1 (i := 4) (by kernel_rfl) rfl (fun K hK => ?_)
              rw [if_pos (by rfl)]; refine operIn_append (.tmp 25) (.tmp 27) 39 rfl rfl rfl hrun ?_; refine hK _ _ ?_; clear hK K; simp only [Act.put,List.setIfInBounds_toArray,List.set_cons_zero,List.set_cons_succ]
              refine rdy1 (i := 5) (by kernel_rfl) rfl (fun K hK => ?_)
              go_simp; refine hK _ _ ?_; clear hK K
              refine rdy1 (i := 6) (by kernel_rfl) rfl (fun K hK => ?_)
              go_simp; refine hK _ _ ?_; clear hK K
              exact wpAnyIn_done (by kernel_rfl) hQ' _
            · go_simp; refine hK _ _ ?_; clear hK K
              refine rdy1 (i := 1) (by kernel_rfl) rfl (fun K hK => ?_)
              go_simp; refine hK _ _ ?_; clear hK K
              refine rdy1 (i := 4) (by kernel_rfl) rfl (fun K hK => ?_)
              rw [if_pos (by rfl)]; refine operIn_append (.tmp 25) (.tmp 27) 39 rfl rfl rfl hrun ?_; refine hK _ _ ?_; clear hK K; simp only [Act.put,List.setIfInBounds_toArray,List.set_cons_zero,List.set_cons_succ]
              refine rdy1 (i := 5) (by kernel_rfl) rfl (fun K hK => ?_)
              go_simp; refine hK _ _ ?_; clear hK K
              refine rdy1 (i := 6) (by kernel_rfl) rfl (fun K hK => ?_)
              go_simp; refine hK _ _ ?_; clear hK K
              exact wpAnyIn_done (by kernel_rfl) hQ' _
        · go_simp; refine hK _ _ ?_; clear hK K
          refine rdy2 (i := 0) (j := 2) (by kernel_rfl) rfl rfl (fun K hK => ?_) (fun K hK => ?_)
          · go_simp; refine hK _ _ ?_; clear hK K
            refine rdy1 (i := 2) (by kernel_rfl) rfl (fun K hK => ?_)
            go_simp; refine hK _ _ ?_; clear hK K
            refine rdy1 (i := 3) (by kernel_rfl) rfl (fun K hK => ?_)
            go_simp; refine hK _ _ ?_; clear hK K
            refine rdy1 (i := 4) (by kernel_rfl) rfl (fun K hK => ?_)
            rw [if_pos (by rfl)]; refine operIn_append (.tmp 25) (.tmp 27) 39 rfl rfl rfl hrun ?_; refine hK _ _ ?_; clear hK K; simp only [Act.put,List.setIfInBounds_toArray,List.set_cons_zero,List.set_cons_succ]
            refine rdy1 (i := 5) (by kernel_rfl) rfl (fun K hK => ?_)
            go_simp; refine hK _ _ ?_; clear hK K
            refine rdy1 (i := 6) (by kernel_rfl) rfl (fun K hK => ?_)
            go_simp; refine hK _ _ ?_; clear hK K
            exact wpAnyIn_done (by kernel_rfl) hQ' _
          · go_simp; refine hK _ _ ?_; clear hK K
            refine rdy2 (i := 0) (j := 3) (by kernel_rfl) rfl rfl (fun K hK => ?_) (fun K hK => ?_)
            · go_simp; refine hK _ _ ?_; clear hK K
              refine rdy1 (i := 3) (by kernel_rfl) rfl (fun K hK => ?_)
              go_simp; refine hK _ _ ?_; clear hK K
              refine rdy1 (i := 4) (by kernel_rfl) rfl (fun K hK => ?_)
              rw [if_pos (by rfl)]; refine operIn_append (.tmp 25) (.tmp 27) 39 rfl rfl rfl hrun ?_; refine hK _ _ ?_; clear hK K; simp only [Act.put,List.setIfInBounds_toArray,List.set_cons_zero,List.set_cons_succ]
              refine rdy1 (i := 5) (by kernel_rfl) rfl (fun K hK => ?_)
              go_simp; refine hK _ _ ?_; clear hK K
              refine rdy1 (i := 6) (by kernel_rfl) rfl (fun K hK => ?_)
              go_simp; refine hK _ _ ?_; clear hK K
              exact wpAnyIn_done (by kernel_rfl) hQ' _
            · go_simp; refine hK _ _ ?_; clear hK K
              refine rdy2 (i := 0) (j := 4) (by kernel_rfl) rfl rfl (fun K hK => ?_) (fun K hK => ?_)
              · go_simp; refine hK _ _ ?_; clear hK K
                refine rdy1 (i := 4) (by kernel_rfl) rfl (fun K hK => ?_)
                rw [if_pos (by rfl)]; refine operIn_append (.tmp 25) (.tmp 27) 39 rfl rfl rfl hrun ?_; refine hK _ _ ?_; clear hK K; simp only [Act.put,List.setIfInBounds_toArray,List.set_cons_zero,List.set_cons_succ]
                refine rdy1 (i := 5) (by kernel_rfl) rfl (fun K hK => ?_)
                go_simp; refine hK _ _ ?_; clear hK K
                refine rdy1 (i := 6) (by kernel_rfl) rfl (fun K hK => ?_)
                go_simp; refine hK _ _ ?_; clear hK K
                exact wpAnyIn_done (by kernel_rfl) hQ' _
              · rw [if_pos (by rfl)]; refine operIn_append (.tmp 25) (.tmp 27) 39 rfl rfl rfl hrun ?_; refine hK _ _ ?_; clear hK K; simp only [Act.put,List.setIfInBounds_toArray,List.set_cons_zero,List.set_cons_succ]
                refine rdy1 (i := 0) (by kernel_rfl) rfl (fun K hK => ?_)
                go_simp; refine hK _ _ ?_; clear hK K
                refine rdy1 (i := 5) (by kernel_rfl) rfl (fun K hK => ?_)
                go_simp; refine hK _ _ ?_; clear hK K
                refine rdy1 (i := 6) (by kernel_rfl) rfl (fun K hK => ?_)
                go_simp; refine hK _ _ ?_; clear hK K
                exact wpAnyIn_done (by kernel_rfl) hQ' _
        · go_simp; refine hK _ _ ?_; clear hK K
          refine rdy3 (i := 0) (j := 1) (k := 3) (by kernel_rfl) rfl rfl rfl (fun K hK => ?_) (fun K hK => ?_) (fun K hK => ?_)
          · go_simp; refine hK _ _ ?_; clear hK K
            refine rdy2 (i := 1) (j := 3) (by kernel_rfl) rfl rfl (fun K hK => ?_) (fun K hK => ?_)
            · go_simp; refine hK _ _ ?_; clear hK K
              refine rdy1 (i := 3) (by kernel_rfl) rfl (fun K hK => ?_)
              go_simp; refine hK _ _ ?_; clear hK K
              refine rdy1 (i := 4) (by kernel_rfl) rfl (fun K hK => ?_)
              rw [if_pos (by rfl)]; refine operIn_append (.tmp 25) (.tmp 27) 39 rfl rfl rfl hrun ?_; refine hK _ _ ?_; clear hK K; simp only [Act.put,List.setIfInBounds_toArray,List.set_cons_zero,List.set_cons_succ]
              refine rdy1 (i := 5) (by kernel_rfl) rfl (fun K hK => ?_)
              go_simp; refine hK _ _ ?_; clear hK K
              refine rdy1 (i := 6) (by kernel_rfl) rfl (fun K hK => ?_)
              go_simp; refine hK _ _ ?_; clear hK K
              exact wpAnyIn_done (by kernel_rfl) hQ' _
            · go_simp; refine hK _ _ ?_; clear hK K
              refine rdy1 (i := 1) (by kernel_rfl) rfl (fun K hK => ?_)
              go_simp; refine hK _ _ ?_; clear hK K
              refine rdy1 (i := 4) (by kernel_rfl) rfl (fun K hK => ?_)
              rw [if_pos (by rfl)]; refine operIn_append (.tmp 25) (.tmp 27) 39 rfl rfl rfl hrun ?_; refine hK _ _ ?_; clear hK K; simp only [Act.put,List.setIfInBounds_toArray,List.set_cons_zero,List.set_cons_succ]
              refine rdy1 (i := 5) (by kernel_rfl) rfl (fun K hK => ?_)
              go_simp; refine hK _ _ ?_; clear hK K
              refine rdy1 (i := 6) (by kernel_rfl) rfl (fun K hK => ?_)
              go_simp; refine hK _ _ ?_; clear hK K
              exact wpAnyIn_done (by kernel_rfl) hQ' _
          · go_simp; refine hK _ _ ?_; clear hK K
            refine rdy2 (i := 0) (j := 3) (by kernel_rfl) rfl rfl (fun K hK => ?_) (fun K hK => ?_)
            · go_simp; refine hK _ _ ?_; clear hK K
              refine rdy1 (i := 3) (by kernel_rfl) rfl (fun K hK => ?_)
              go_simp; refine hK _ _ ?_; clear hK K
              refine rdy1 (i := 4) (by kernel_rfl) rfl (fun K hK => ?_)
              rw [if_pos (by rfl)]; refine operIn_append (.tmp 25) (.tmp 27) 39 rfl rfl rfl hrun ?_; refine hK _ _ ?_; clear hK K; simp only [Act.put,List.setIfInBounds_toArray,List.set_cons_zero,List.set_cons_succ]
              refine rdy1 (i := 5) (by kernel_rfl) rfl (fun K hK => ?_)
              go_simp; refine hK _ _ ?_; clear hK K
              refine rdy1 (i := 6) (by kernel_rfl) rfl (fun K hK => ?_)
              go_simp; refine hK _ _ ?_; clear hK K
              exact wpAnyIn_done (by kernel_rfl) hQ' _
            · go_simp; refine hK _ _ ?_; clear hK K
              refine rdy2 (i := 0) (j := 4) (by kernel_rfl) rfl rfl (fun K hK => ?_) (fun K hK => ?_)
              · go_simp; refine hK _ _ ?_; clear hK K
                refine rdy1 (i := 4) (by kernel_rfl) rfl (fun K hK => ?_)
                rw [if_pos (by rfl)]; refine operIn_append (.tmp 25) (.tmp 27) 39 rfl rfl rfl hrun ?_; refine hK _ _ ?_; clear hK K; simp only [Act.put,List.setIfInBounds_toArray,List.set_cons_zero,List.set_cons_succ]
                refine rdy1 (i := 5) (by kernel_rfl) rfl (fun K hK => ?_)
                go_simp; refine hK _ _ ?_; clear hK K
                refine rdy1 (i := 6) (by kernel_rfl) rfl (fun K hK => ?_)
                go_simp; refine hK _ _ ?_; clear hK K
                exact wpAnyIn_done (by kernel_rfl) hQ' _
              · rw [if_pos (by rfl)]; refine operIn_append (.tmp 25) (.tmp 27) 39 rfl rfl rfl hrun ?_; refine hK _ _ ?_; clear hK K; simp only [Act.put,List.setIfInBounds_toArray,List.set_cons_zero,List.set_cons_succ]
                refine rdy1 (i := 0) (by kernel_rfl) rfl (fun K hK => ?_)
                go_simp; refine hK _ _ ?_; clear hK K
                refine rdy1 (i := 5) (by kernel_rfl) rfl (fun K hK => ?_)
                go_simp; refine hK _ _ ?_; clear hK K
                refine rdy1 (i := 6) (by kernel_rfl) rfl (fun K hK => ?_)
                go_simp; refine hK _ _ ?_; clear hK K
                exact wpAnyIn_done (by kernel_rfl) hQ' _
          · go_simp; refine hK _ _ ?_; clear hK K
            refine rdy2 (i := 0) (j := 1) (by kernel_rfl) rfl rfl (fun K hK => ?_) (fun K hK => ?_)
            · go_simp; refine hK _ _ ?_; clear hK K
              refine rdy1 (i := 1) (by kernel_rfl) rfl (fun K hK => ?_)
              go_simp; refine hK _ _ ?_; clear hK K
              refine rdy1 (i := 4) (by kernel_rfl) rfl (fun K hK => ?_)
              rw [if_pos (by rfl)]; refine operIn_append (.tmp 25) (.tmp 27) 39 rfl rfl rfl hrun ?_; refine hK _ _ ?_; clear hK K; simp only [Act.put,List.setIfInBounds_toArray,List.set_cons_zero,List.set_cons_succ]
              refine rdy1 (i := 5) (by kernel_rfl) rfl (fun K hK => ?_)
              go_simp; refine hK _ _ ?_; clear hK K
              refine rdy1 (i := 6) (by kernel_rfl) rfl (fun K hK => ?_)
              go_simp; refine hK _ _ ?_; clear hK K
              exact wpAnyIn_done (by kernel_rfl) hQ' _
            · go_simp; refine hK _ _ ?_; clear hK K
              refine rdy2 (i := 0) (j := 4) (by kernel_rfl) rfl rfl (fun K hK => ?_) (fun K hK => ?_)
              · go_simp; refine hK _ _ ?_; clear hK K
                refine rdy1 (i := 4) (by kernel_rfl) rfl (fun K hK => ?_)
                rw [if_pos (by rfl)]; refine operIn_append (.tmp 25) (.tmp 27) 39 rfl rfl rfl hrun ?_; refine hK _ _ ?_; clear hK K; simp only [Act.put,List.setIfInBounds_toArray,List.set_cons_zero,List.set_cons_succ]
                refine rdy1 (i := 5) (by kernel_rfl) rfl (fun K hK => ?_)
                go_simp; refine hK _ _ ?_; clear hK K
                refine rdy1 (i := 6) (by kernel_rfl) rfl (fun K hK => ?_)
                go_simp; refine hK _ _ ?_; clear hK K
                exact wpAnyIn_done (by kernel_rfl) hQ' _
              · rw [if_pos (by rfl)]; refine operIn_append (.tmp 25) (.tmp 27) 39 rfl rfl rfl hrun ?_; refine hK _ _ ?_; clear hK K; simp only [Act.put,List.setIfInBounds_toArray,List.set_cons_zero,List.set_cons_succ]
                refine rdy1 (i := 0) (by kernel_rfl) rfl (fun K hK => ?_)
                go_simp; refine hK _ _ ?_; clear hK K
                refine rdy1 (i := 5) (by kernel_rfl) rfl (fun K hK => ?_)
                go_simp; refine hK _ _ ?_; clear hK K
                refine rdy1 (i := 6) (by kernel_rfl) rfl (fun K hK => ?_)
                go_simp; refine hK _ _ ?_; clear hK K
                exact wpAnyIn_done (by kernel_rfl) hQ' _
      case fin =>
        obtain ⟨gT, hbT⟩ := set1_box oS (.slice vp (pre.length + 1) vc) oS
        generalize ((((((w'.setCell ⟨w.heap.size + 1, 0, none⟩ (.slice q0 q1 q2)).setCell ⟨w.heap.size + 1, 1, none⟩ (.slice q3 q4 q5)).setCell ⟨w.heap.size + 1, 2, none⟩ (.int .i64 t.goal)).setCell ⟨w.heap.size + 1, 3, none⟩ (.int .i64 t.prior)).setCell ⟨w.heap.size + 1, 4, none⟩ (.int .i64 t.mode)).setCell ⟨w.heap.size + 1, 5, none⟩ (.int .i64 t.term)) = WS at gS hbS oS gT hbT ovS ofS ⊢
        generalize WS.setCell ⟨w1.heap.size, 0, none⟩ (.slice vp (pre.length + 1) vc) = W9 at gT hbT ⊢
        have hk9 : ∀ (k : Nat) ob, (∀ b, v.ownBlock = some b → k ≠ b) → k ≠ w.heap.size + 1 → k ≠ w1.heap.size → Wb.heap[k]? = some ob → W9.heap[k]? = some ob := fun k ob hne h1 h2 hk => by
          have hlt := (Array.getElem?_eq_some_iff.1 hk).1
          have e1 : w'.heap[k]? = some ob := (hg'.block k (by simp; omega) (fun e => hne k e.symm rfl)).trans ((hgA.block k hlt (by simp)).trans hk)
          have e2 : WS.heap[k]? = some ob := (gS.block k (Array.getElem?_eq_some_iff.1 e1).1 (by simpa using h1)).trans e1
          exact (gT.block k (Array.getElem?_eq_some_iff.1 e2).1 (by simpa using h2)).trans e2
        have hlow : ∀ k, k < WL.heap.size → ∀ b, v.ownBlock = some b → k ≠ b := fun k hk b hb => by have := (hown b hb).1; omega
        have hmo9 : Boxed W9 (w.heap.size + 1 + 1) 3 (.int .i64 most) := hk9 _ _ (hlow _ (by omega)) (by omega) (by omega) hRb.most
        have hmoc := hmo9.cell
        have hout9 := (show Boxed W9 w1.heap.size 39 (.slice vp (pre.length + 1) vc) from hbT)
        have houtc := hout9.cell
        have hB2b : w1.heap.size < W.heap.size := by omega
        have hWsz : W.heap.size ≤ Wb.heap.size := by
          have := (hKb hB2b).size
          exact this
        have hsz9 : Wb.heap.size ≤ W9.heap.size := by
          have h1 := hgA.size
          have h2 := hg'.size
          have h3 := gS.size
          have h4 := gT.size
          omega
        have hOb : ∀ b, v.ownBlock = some b → OutB w1.heap.size Wb b := fun b hb => ⟨v, o1.cell, hb⟩
        have hO9 : ∀ k, OutB w1.heap.size W9 k → OutB w1.heap.size Wb k ∨ Wb.heap.size ≤ k := fun k ⟨u, hu, ho⟩ => by
          have hc9 := hout9.cell
          rw [hc9] at hu
          cases hu
          rcases hat' with e | e
          · exact .inl (hOb k (e ▸ ho))
          · rw [e] at ho
            cases ho
            exact .inr (by simp)
        have hK9 : KeepsFrom WL.heap.size Wb W9 := ⟨hsz9, fun k ob hk hob hoc => hk9 k ob (fun b hb => by
            obtain ⟨-, C, hC⟩ := hown b hb
            rintro rfl
            rw [hC] at hob
            cases hob
            simp [Obj.isCells] at hoc) (by omega) (by omega) hob⟩
        have hos : W9.os = Wb.os ∧ W9.tape = Wb.tape ∧ W9.output = Wb.output := ⟨gT.os.trans (gS.os.trans (hg'.os.trans hgA.os)), gT.tape.trans (gS.tape.trans (hg'.tape.trans hgA.tape)), gT.output.trans (gS.output.trans (hg'.output.trans hgA.output))⟩
        have hP9 : KpO (w.heap.size + 1) w1.heap.size Wb W9 := fun _ => ⟨hos.1, hos.2.1, hos.2.2, hsz9, fun k C ty f h1 h2 h3 hk => hk9 k _ (fun b hb e => h3 (e ▸ hOb b hb)) h1 h2 hk, hO9⟩
        have hJ9 : ∀ k, J' k → W9.heap[k]? = W.heap[k]? ∧ k ≠ w.heap.size + 1 ∧ k ≠ w1.heap.size ∧ k ≠ WA.heap.size + 1 ∧ ¬ OutB w1.heap.size W9 k := fun k hk => by
          obtain ⟨n1, n2, n3, n4⟩ := p6 k hk
          obtain ⟨C, ty, f, hc⟩ := hR'.st.jcell k hk
          have hlt := (Array.getElem?_eq_some_iff.1 hc).1
          have hb := (hKb hB2b).same k C ty f n1 n2 n4 hc
          have nOb : ¬ OutB w1.heap.size Wb k := fun ho => by
            rcases (hKb hB2b).out k ho with h | h
            · exact n4 h
            · omega
          refine ⟨?_, n1, n2, n3, fun ho => ?_⟩
          · rw [hc]
            exact hk9 k _ (fun b hb' e => nOb (e ▸ hOb b hb')) n1 n2 hb
          · rcases hO9 k ho with h | h
            · exact nOb h
            · omega
        have hbe9 : Below w.heap.size w W9 := by
          have b1 := hRb.below.grown hgA hRb.below.size (fun r e => by cases e)
          have b2 := b1.grown hg' b1.size (fun r e => by
            have := (hown r e).1
            omega)
          have b3 := b2.grown gS b2.size (fun r e => by cases e; omega)
          exact b3.grown gT b3.size (fun r e => by cases e; omega)
        have hR9 : RunI ι c now most s J w w1.heap.size (WA.heap.size + 1) WL.heap.size (pre ++ [(o, t, ([.slice q0 q1 q2, .slice q3 q4 q5, .int .i64 t.goal, .int .i64 t.prior, .int .i64 t.mode, .int .i64 t.term] : List Value))]) W9 := by
          refine ⟨⟨t, _, J', Dv.chain_snoc p1 p2 p3, p4, ?_, hR'.kept (fun k hk => (hJ9 k hk).1), p5, fun k hk => (hJ9 k hk).2⟩, ⟨_, hout9, ?_⟩, hmo9, hk9 _ _ (hlow _ (by omega)) (by omega) (by omega) hRb.zero, hbe9, by omega⟩
          · exact (gT.block _ (Array.getElem?_eq_some_iff.1 hbS).1 (by simp; omega)).trans hbS
          · have e1 : (pre ++ [(o, t, ([.slice q0 q1 q2, .slice q3 q4 q5, .int .i64 t.goal, .int .i64 t.prior, .int .i64 t.mode, .int .i64 t.term] : List Value))]).length = pre.length + 1 := by simp
            have e2 : opsV (opsE (pre ++ [(o, t, ([.slice q0 q1 q2, .slice q3 q4 q5, .int .i64 t.goal, .int .i64 t.prior, .int .i64 t.mode, .int .i64 t.term] : List Value))])) = opsV (opsE pre) ++ [.int .i64 o.kind, .int .i64 o.a, .int .i64 o.b, .int .i64 o.c, .int .i64 o.d, .int .i64 o.e, .int .i64 o.f] := by simp [opsV,opsE,Dv.opV7]
            rw [e1, e2]
            exact row_away (row_away ho' gS (fun r e => by cases e; exact .inl (by omega))) gT (fun r e => by cases e; exact .inl (by omega))
        rename_i K0 hK0
        refine hK0 _ _ ?_
        clear hK0 K0 ovS ofS sa0 sa1 sa2 sa3 sa4 sa5 sb0 sb1 sb2 sb3 sb4 sb5 sc0 sc1 sc2 sc3 sc4 sc5 ovA ov' ofr' fz' fz j0 j1 j2 j3 j4 j5 g0 g1' g2' g3' g4' g5' g6' r0 r1 r2 r3 r4 r5 ov ofr omo hrun
        repeat (first | gi_step | gi_upon | simp only [])
        · rename_i h9
          refine .inr ⟨trivial, hK9, hR9, ?_⟩
          simp at h9 ⊢
          omega
        · rename_i h9
          gi_wp2
          refine ⟨?_, ?_, ?_⟩
          · simpa only [lsz, zA] using hK9
          · simpa only [lsz, zA] using hR9
          · simp at h9 ⊢
            omega
    case done =>
      rintro D xs W hD ⟨sk, hch, hst⟩ ⟨hRI, hlt⟩ hK
      have mixed : Tryz.prog.follows .mixedOrders = true := by kernel_rfl
      obtain ⟨sk', zs, Jz, c1, c2, c3, c4, c6, c5⟩ := hRI.st
      obtain ⟨q0, q1, q2, q3, q4, q5, rfl⟩ := c4.ex
      obtain ⟨v, o1, o2⟩ := hRI.out
      have ov := o1.cell
      have hz := hRI.zero
      obtain ⟨r0, r1, r2, r3, r4, r5⟩ := st_cells c3
      obtain ⟨z0', z1', z2', z3', z4', z5'⟩ := st_cells hz
      have fz : ∀ i, W.frozen? ⟨w.heap.size + 1 + 1 + 1, i, none⟩ = false := fun i => by simp [World.frozen?,hz]
      repeat (first | gi_step | gi_upon | simp only [])
      refine wpIn_calm ?_
      gi_region_with_o (fail)
      all_goals simp only [CalmQ]
      all_goals repeat (first | gi_step | gi_upon | simp only [])
      all_goals simp only [Act.put,List.setIfInBounds_toArray,List.set_cons_zero,List.set_cons_succ,List.getElem_toArray,List.getElem_cons_zero,List.getElem_cons_succ]
      all_goals
        obtain ⟨g3, hb3, -⟩ := set6_box hz (.slice q0 q1 q2) (.slice q3 q4 q5) (.int .i64 sk'.goal) (.int .i64 sk'.prior) (.int .i64 sk'.mode) (.int .i64 sk'.term)
        obtain ⟨A, hA⟩ : ∃ A, ((((((W.setCell ⟨w.heap.size + 1 + 1 + 1, 0, none⟩ (.slice q0 q1 q2)).setCell ⟨w.heap.size + 1 + 1 + 1, 1, none⟩ (.slice q3 q4 q5)).setCell ⟨w.heap.size + 1 + 1 + 1, 2, none⟩ (.int .i64 sk'.goal)).setCell ⟨w.heap.size + 1 + 1 + 1, 3, none⟩ (.int .i64 sk'.prior)).setCell ⟨w.heap.size + 1 + 1 + 1, 4, none⟩ (.int .i64 sk'.mode)).setCell ⟨w.heap.size + 1 + 1 + 1, 5, none⟩ (.int .i64 sk'.term)) = A := ⟨_, rfl⟩
        rw [hA] at g3 hb3 ⊢
        have hD2 := (Array.getElem?_eq_some_iff.1 hK).1
        have hK3 : A.drew.heap[D]? = some (.deferred (some [])) := (g3.block D hD2 (by simp; omega)).trans hK
        refine ⟨by simp, .inl ⟨_, _, rfl, run_takeDeferred hK3, ?_⟩⟩
        have hs3 : ∀ (k : Nat) C t f, k ≠ w.heap.size + 1 + 1 + 1 → W.heap[k]? = some (.cells C t f) → (A.drew.putObj D (.deferred none)).heap[k]? = some (.cells C t f) := fun k C t f hk hc => by
          have hkD : k ≠ D := by rintro rfl; rw [hc] at hK; cases hK
          exact (World.putObj_heap_other hkD).trans ((g3.block k (Array.getElem?_eq_some_iff.1 hc).1 (by simpa using hk)).trans hc)
        have hb4 : (A.drew.putObj D (.deferred none)).heap[w.heap.size + 1 + 1 + 1]? = _ := (World.putObj_heap_other (by omega)).trans hb3
        obtain ⟨j0, j1, j2, j3, j4, j5⟩ := st_cells hb4
        have hBA3 := hRI.below.grown g3 hRI.below.size (fun r e => by cases e; omega)
        have hBd : Below w.heap.size w A.drew := ⟨hBA3.os, hBA3.tape, hBA3.output, hBA3.size, hBA3.block⟩
        have hB4 : Below w.heap.size w (A.drew.putObj D (.deferred none)) := hBd.grown (grownBy_putObj' A.drew D (.deferred none)) hBd.size (fun k e => by cases e; omega)
        refine ⟨.tuple #[.agg #[.slice q0 q1 q2, .slice q3 q4 q5, .int .i64 sk'.goal, .int .i64 sk'.prior, .int .i64 sk'.mode, .int .i64 sk'.term], v], ?_, _, rfl, ?_⟩
        · simp [results,Tryz.f15,go_sem,j0,j1,j2,j3,j4,j5]
        · exact run_end S (by omega) c1 c4 c6 o2 hB4 hs3 ⟨by omega, .inr (chain_fun hch c1 ▸ hst)⟩
    case stop =>
      rintro D xs W hD ⟨hRI, hlt⟩ hK
      have mixed : Tryz.prog.follows .mixedOrders = true := by kernel_rfl
      obtain ⟨sk', zs, Jz, c1, c2, c3, c4, c6, c5⟩ := hRI.st
      obtain ⟨q0, q1, q2, q3, q4, q5, rfl⟩ := c4.ex
      obtain ⟨v, o1, o2⟩ := hRI.out
      have ov := o1.cell
      have hz := hRI.zero
      obtain ⟨r0, r1, r2, r3, r4, r5⟩ := st_cells c3
      obtain ⟨z0', z1', z2', z3', z4', z5'⟩ := st_cells hz
      have fz : ∀ i, W.frozen? ⟨w.heap.size + 1 + 1 + 1, i, none⟩ = false := fun i => by simp [World.frozen?,hz]
      repeat (first | gi_step | gi_upon | simp only [])
      refine wpIn_calm ?_
      gi_region_with_o (fail)
      all_goals simp only [CalmQ]
      all_goals repeat (first | gi_step | gi_upon | simp only [])
      all_goals simp only [Act.put,List.setIfInBounds_toArray,List.set_cons_zero,List.set_cons_succ,List.getElem_toArray,List.getElem_cons_zero,List.getElem_cons_succ]
      all_goals
        obtain ⟨g3, hb3, -⟩ := set6_box hz (.slice q0 q1 q2) (.slice q3 q4 q5) (.int .i64 sk'.goal) (.int .i64 sk'.prior) (.int .i64 sk'.mode) (.int .i64 sk'.term)
        obtain ⟨A, hA⟩ : ∃ A, ((((((W.setCell ⟨w.heap.size + 1 + 1 + 1, 0, none⟩ (.slice q0 q1 q2)).setCell ⟨w.heap.size + 1 + 1 + 1, 1, none⟩ (.slice q3 q4 q5)).setCell ⟨w.heap.size + 1 + 1 + 1, 2, none⟩ (.int .i64 sk'.goal)).setCell ⟨w.heap.size + 1 + 1 + 1, 3, none⟩ (.int .i64 sk'.prior)).setCell ⟨w.heap.size + 1 + 1 + 1, 4, none⟩ (.int .i64 sk'.mode)).setCell ⟨w.heap.size + 1 + 1 + 1, 5, none⟩ (.int .i64 sk'.term)) = A := ⟨_, rfl⟩
        rw [hA] at g3 hb3 ⊢
        have hD2 := (Array.getElem?_eq_some_iff.1 hK).1
        have hK3 : A.drew.heap[D]? = some (.deferred (some [])) := (g3.block D hD2 (by simp; omega)).trans hK
        refine ⟨by simp, .inl ⟨_, _, rfl, run_takeDeferred hK3, ?_⟩⟩
        have hs3 : ∀ (k : Nat) C t f, k ≠ w.heap.size + 1 + 1 + 1 → W.heap[k]? = some (.cells C t f) → (A.drew.putObj D (.deferred none)).heap[k]? = some (.cells C t f) := fun k C t f hk hc => by
          have hkD : k ≠ D := by rintro rfl; rw [hc] at hK; cases hK
          exact (World.putObj_heap_other hkD).trans ((g3.block k (Array.getElem?_eq_some_iff.1 hc).1 (by simpa using hk)).trans hc)
        have hb4 : (A.drew.putObj D (.deferred none)).heap[w.heap.size + 1 + 1 + 1]? = _ := (World.putObj_heap_other (by omega)).trans hb3
        obtain ⟨j0, j1, j2, j3, j4, j5⟩ := st_cells hb4
        have hBA3 := hRI.below.grown g3 hRI.below.size (fun r e => by cases e; omega)
        have hBd : Below w.heap.size w A.drew := ⟨hBA3.os, hBA3.tape, hBA3.output, hBA3.size, hBA3.block⟩
        have hB4 : Below w.heap.size w (A.drew.putObj D (.deferred none)) := hBd.grown (grownBy_putObj' A.drew D (.deferred none)) hBd.size (fun k e => by cases e; omega)
        refine ⟨.tuple #[.agg #[.slice q0 q1 q2, .slice q3 q4 q5, .int .i64 sk'.goal, .int .i64 sk'.prior, .int .i64 sk'.mode, .int .i64 sk'.term], v], ?_, _, rfl, ?_⟩
        · simp [results,Tryz.f15,go_sem,j0,j1,j2,j3,j4,j5]
        · exact run_end S (by omega) c1 c4 c6 o2 hB4 hs3 ⟨by omega, .inl hlt⟩
end Go.Proofs
