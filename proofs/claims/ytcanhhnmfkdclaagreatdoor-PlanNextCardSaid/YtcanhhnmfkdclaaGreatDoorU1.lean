/- a loop over an iterator that turns a variable of its own, and that the body may leave. -/
import Derived.Test.YtcanhhnmfkdclaaGreatDoorDB
import Derived.Test.YtcanhhnmfkdclaaGreatDoorVD
import Derived.RangeFuncNested
import Derived.RangeFuncBound
import Derived.RangeFuncCalls
import Derived.RangeFuncLeaves
import Derived.RangeFuncWrites
import Derived.RangeFuncBox
import Derived.Shelf.Abstract
import Derived.Shelf.RegionOpen
import Derived.WalkKit
import Derived.OwnWalkIn
import Derived.TacticsInMore
import Derived.LoopNIn
import Derived.LoopIn
set_option linter.unusedVariables false
set_option linter.unusedSimpArgs false
namespace Go.Proofs
open Go.RowKit Go.Shelf

def OwnV (B N : Nat) (I : World → Prop) : Prop :=
  ∀ A A' row, I A → A.grownBy A' row → (∀ r, row = some r → r = B ∨ (N ≤ r ∧ ∃ o : Obj, A.heap[r]? = some o ∧ o.isCells = false)) → I A'

theorem wpIn_rangeFunc_stop {F : Fence} {n : Nat} {P : Program} {α : Type} {g : Operand} {ps : Array Tmp} {assign body : Code} {Q : Exit → Act → World → Prop} {a : Act} {w : World}
    (hro : F.round = none) (h1 : 1 ≤ n) {gf : Nat} {lb : Array Value} (hg : a.eval g = .func (.func gf) #[] lb) (hFg : F.fn gf) (eg : ∀ args w, (callFunc gf args).run P w = .ok (.enter gf args) w)
    {encs : α → Array Value} {B : Nat} (Px : List α → α → World → Prop) (S : List α → Prop) (Kp : World → World → Prop) (hps : ∀ x, (encs x).size = ps.size)
    (hKt : ∀ {A B C : World}, Kp A B → Kp B C → Kp A C) (hKn : ∀ A A' : World, A.grownBy A' none → Kp A A') (hKb : ∀ (W : World) (l : Nat) (o o' : Obj), w.heap.size ≤ l → W.heap[l]? = some o → o.isCells = false → Kp W (W.putObj l o'))
    (I Ix : List α → World → Prop) (hI : ∀ pre, OwnV B w.heap.size (I pre)) (hIx : ∀ pre, OwnV B w.heap.size (Ix pre)) (h0 : I [] w) (a₁ : α → World → Act) (w₁ : α → World → World) (hw₁ : ∀ (x : α) (W : World), W.grownBy (w₁ x W) none) (hB : B < w.heap.size)
    (hseq : ∀ (l : Nat) (J Jx : List α → World → Prop) (W : World), (∀ s A A' row, J s A → A.grownBy A' row → (∀ r, row = some r → r = B) → J s A') → (∀ s A, J s A → I s A) →
      (∀ pre x W, J pre W → Px pre x W → YieldAt F (n - 1 - 1) P l (encs x) W fun e W' => (e = .returned (.bool true) ∧ J (pre ++ [x]) W' ∧ Kp W W') ∨ (e = .returned (.bool false) ∧ Jx (pre ++ [x]) W')) →
      w.grownBy W none → J [] W →
      CallsIn F (n - 1) P gf (#[.func (.yield l) #[] #[]] ++ lb) W fun e W' => (∃ v, e = .returned v) ∧ ((∃ xs, S xs ∧ J xs W') ∨ ∃ xs, Jx xs W'))
    (hassign : ∀ (l : Nat) (pre : List α) (x : α) (W : World) (K : Act → World → Prop), Px pre x W → K (a₁ x W) (w₁ x W) →
      assign.wpIn (F.inRound l) (n - 1 - 1) P (Exit.then K (fun _ _ _ => False)) { tmps := (ps.zip (encs x)).foldl (fun t (p, v) => t.setIfInBounds p v) a.tmps, defers := [] } W)
    (hbody : ∀ (l : Nat) (rc : Obj) (pre : List α) (x : α) (W : World), w.heap.size ≤ l → l < W.heap.size → I pre W → Px pre x W → I pre ((w₁ x W).putObj l rc) → Kp W ((w₁ x W).putObj l rc) → body.wpIn (F.inRound l) (n - 1 - 1) P (fun e _ W' =>
      (e = .normal ∧ KeepsFrom w.heap.size ((w₁ x W).putObj l rc) W' ∧ Kp ((w₁ x W).putObj l rc) W' ∧ I (pre ++ [x]) W') ∨ (e = .exit 0 ∧ KeepsFrom w.heap.size ((w₁ x W).putObj l rc) W' ∧ Ix (pre ++ [x]) W')) (a₁ x W) ((w₁ x W).putObj l rc))
    (hdone : ∀ (D : Nat) (xs : List α) (W : World), w.heap.size ≤ D → S xs → I xs W → W.heap[D]? = some (.deferred (some [])) → Q .normal { a with defers := { target := .collected D, args := #[] } :: a.defers } W)
    (hstop : ∀ (D : Nat) (xs : List α) (W : World), w.heap.size ≤ D → Ix xs W → W.heap[D]? = some (.deferred (some [])) → (Code.exit 0).wpIn F n P Q { a with defers := { target := .collected D, args := #[] } :: a.defers } W) :
    (Code.rangeFunc g ps assign body).wpIn F n P Q a w := by
  refine wpIn_rangeFunc fun fn hfn => ?_
  rw [hro]
  -- the loop's record, and the block for what rounds defer
  let rc : LoopState → Option Code → Loop := fun st pe => { state := st, pending := pe, fn, tmps := a.tmps, params := ps, assign, body, defers := w.heap.size }
  let W1 := (w.alloc (.deferred (some []))).alloc (.loop (rc .ready none))
  have sz1 : W1.heap.size = w.heap.size + 2 := by simp [W1]
  have hL1 : W1.heap[w.heap.size + 1]? = some (.loop (rc .ready none)) := by
    have := World.alloc_heap_new (w.alloc (.deferred (some []))) (.loop (rc .ready none)); rwa [World.size_alloc] at this
  have hD1 : W1.heap[w.heap.size]? = some (.deferred (some [])) := (Below.heap_alloc _ _ _ (by simp)).trans (World.alloc_heap_new w _)
  have g1 : w.grownBy W1 none := ⟨rfl, rfl, rfl, by simp [W1]; omega, fun k hk _ => (Below.heap_alloc _ _ _ (by simp; omega)).trans (Below.heap_alloc _ _ _ hk)⟩
  have hI1 : I [] W1 := hI _ _ _ none h0 g1 (fun r e => by cases e)
  have put : ∀ {R : World → Prop} {A : World} (l : Nat) (o o' : Obj), OwnV B w.heap.size R → R A → w.heap.size ≤ l → A.heap[l]? = some o → o.isCells = false → R (A.putObj l o') := fun l o o' hR hi hl ho hc =>
    hR _ _ (some l) hi (grownBy_putObj' _ l o') (fun r e => by cases e; exact .inr ⟨hl, o, ho, hc⟩)
  have far : ∀ {A A' : World} {row : Option Nat} (k : Nat) (o : Obj), A.grownBy A' row → (∀ r, row = some r → r = B) → k ≠ B → A.heap[k]? = some o → A'.heap[k]? = some o := fun k o hg' hr hk ho =>
    (hg'.block k (Array.getElem?_eq_some_iff.1 ho).1 (fun e => hk (hr k e.symm))).trans ho
  refine ⟨w.heap.size + 1, [{ target := .collected w.heap.size, args := #[] }], W1, { target := .fn (.func gf) lb, args := #[.func (.yield (w.heap.size + 1)) #[] #[]] }, W1, gf,
    #[.func (.yield (w.heap.size + 1)) #[] #[]] ++ lb, W1, run_enterLoop_outer _ _ _ _ _, ?_, ?_, ?_, fun _ => h1, ?_⟩
  · simp only [resolve,hg]
    simp [go_sem]
  · intro f' hf'; simp [Target.leads] at hf'; subst hf'; exact hFg
  · simp [invoke,go_sem,eg]
  refine (hseq (w.heap.size + 1) (fun pre W => I pre W ∧ W.heap[w.heap.size + 1]? = some (.loop (rc .ready none)) ∧ W.heap[w.heap.size]? = some (.deferred (some [])))
    (fun pre W => Ix pre W ∧ W.heap[w.heap.size + 1]? = some (.loop (rc .done (some (.exit 0)))) ∧ W.heap[w.heap.size]? = some (.deferred (some []))) W1
    (fun s A A' row hs hg' hr => ⟨hI s A A' row hs.1 hg' (fun r e => .inl (hr r e)), far _ _ hg' hr (by omega) hs.2.1, far _ _ hg' hr (by omega) hs.2.2⟩) (fun s A hs => hs.1) ?_ g1 ⟨hI1, hL1, hD1⟩).mono ?_
  · rintro pre x W ⟨hi, hl, hd⟩ hpx
    have hgw := hw₁ x W
    have hltW := (Array.getElem?_eq_some_iff.1 hl).1
    have hltD := (Array.getElem?_eq_some_iff.1 hd).1
    have hl1 : (w₁ x W).heap[w.heap.size + 1]? = some (.loop (rc .ready none)) := (hgw.block _ hltW (by simp)).trans hl
    have hd1 : (w₁ x W).heap[w.heap.size]? = some (.deferred (some [])) := (hgw.block _ hltD (by simp)).trans hd
    have hlt := (Array.getElem?_eq_some_iff.1 hl1).1
    refine ⟨fn, _, assign, body, run_yield (P := P) (args := encs x) hl (hps x), roundIn_of_wpIn hfn (hassign _ pre x W _ hpx ⟨_, run_beginRound hl1 rfl, ?_⟩)⟩
    have hl2 : ((w₁ x W).putObj (w.heap.size + 1) (.loop (rc .busy none))).heap[w.heap.size + 1]? = some (.loop (rc .busy none)) := World.putObj_heap_same hlt
    have hd2 : ((w₁ x W).putObj (w.heap.size + 1) (.loop (rc .busy none))).heap[w.heap.size]? = some (.deferred (some [])) := (World.putObj_heap_other (by omega)).trans hd1
    have hi1 : I pre (w₁ x W) := hI _ _ _ none hi hgw (fun r e => by cases e)
    have hk1 : Kp W ((w₁ x W).putObj (w.heap.size + 1) (.loop (rc .busy none))) := hKt (hKn _ _ hgw) (hKb _ _ _ _ (by omega) hl1 rfl)
    refine wpIn_mono (hbody _ (.loop (rc .busy none)) pre x W (by omega) hltW hi hpx (put _ _ _ (hI _) hi1 (by omega) hl1 rfl) hk1) ?_
    rintro e a3 W3 (⟨rfl, hk3, hp3, hi3⟩ | ⟨rfl, hk3, hi3⟩)
    · have hl3 := hk3.same _ _ (by omega) hl2 rfl
      have hd3 := hk3.same _ _ (Nat.le_refl _) hd2 rfl
      exact ⟨_, _, run_endRound (P := P) none hl3, .inl ⟨rfl, ⟨put _ _ _ (hI _) hi3 (by omega) hl3 rfl, World.putObj_heap_same (Array.getElem?_eq_some_iff.1 hl3).1, (World.putObj_heap_other (by omega)).trans hd3⟩, hKt (hKt hk1 hp3) (hKb _ _ _ _ (by omega) hl3 rfl)⟩⟩
    · have hl3 := hk3.same _ _ (by omega) hl2 rfl
      have hd3 := hk3.same _ _ (Nat.le_refl _) hd2 rfl
      exact ⟨_, _, run_endRound (P := P) (some (.exit 0)) hl3, .inr ⟨rfl, put _ _ _ (hIx _) hi3 (by omega) hl3 rfl, World.putObj_heap_same (Array.getElem?_eq_some_iff.1 hl3).1, (World.putObj_heap_other (by omega)).trans hd3⟩⟩
  · rintro e W2 ⟨⟨v, rfl⟩, (⟨xs, hS, hi, hl, hd⟩ | ⟨xs, hi, hl, hd⟩)⟩
    · exact ⟨none, _, run_endLoop (P := P) hl (by simp [rc]), hdone _ xs _ (Nat.le_refl _) hS (put _ _ _ (hI _) hi (by omega) hl rfl) ((World.putObj_heap_other (by omega)).trans hd)⟩
    · exact ⟨some (.exit 0), _, run_endLoop (P := P) hl (by simp [rc]), hstop _ xs _ (Nat.le_refl _) (put _ _ _ (hIx _) hi (by omega) hl rfl) ((World.putObj_heap_other (by omega)).trans hd)⟩
end Go.Proofs
