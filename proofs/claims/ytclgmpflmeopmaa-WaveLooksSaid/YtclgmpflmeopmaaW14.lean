import Derived.Test.YtclgmpflmeopmaaW13
import Derived.OwnWalk
set_option linter.unusedVariables false
set_option linter.unusedSimpArgs false
namespace Go.Proofs.Ytclgmpflmeopmaa
open Go.RowKit Dun

theorem infoInt : (Try.prog.info? 3).map (fun i => (i.zero, i.size, i.bytes)) = some (some (.int .i64 0), 1, 8) := by kernel_rfl

/-- the numbers of the nodes that are behind, of the first so many -/
def behTo (s : StateD) : Nat → List Int
  | 0 => []
  | k + 1 => if behindB s (s.nodes.getD k zeroNode) = true then behTo s k ++ [(k : Int)] else behTo s k
theorem behTo_le (s : StateD) : ∀ k, (behTo s k).length ≤ k
  | 0 => Nat.le_refl _
  | k + 1 => by
    have := behTo_le s k
    unfold behTo
    split
    · simp; omega
    · omega

theorem ownsRow_below {w w' : World} {base : Nat} {e : TypeId} {size : Nat} {v : Value} {n : Nat} {xs : List Value} (h : w.ownsRow base e size v n xs) {K : Nat} (hb : Below K w w') (hK : w.heap.size ≤ K) : w'.ownsRow base e size v n xs := by
  obtain ⟨h1, h2⟩ := h
  refine ⟨h1, ?_⟩
  rcases h2 with h2 | ⟨g, cap, cur, hv, hg, hh, r⟩
  · exact Or.inl h2
  · have hlt : g < w.heap.size := by
      rcases Nat.lt_or_ge g w.heap.size with h | h
      · exact h
      · simp [Array.getElem?_eq_none h] at hh
    exact Or.inr ⟨g, cap, cur, hv, hg, by rw [hb.block g (by omega)]; exact hh, r⟩

/-- a slice of ints that the call has made -/
def OwnInts (w : World) (xs : List Int) (e : Ending) (w' : World) : Prop :=
  ∃ v, e = .returned v ∧ w'.ownsRow w.heap.size 3 1 v xs.length (xs.map (Value.int .i64)) ∧ Below w.heap.size w w'

set_option maxHeartbeats 2000000 in
set_option maxRecDepth 100000 in
theorem behindL_any (s : StateD) (a1 a2 : Option Addr) (c1 c2 : Nat) (w : World) (hS : StateAt w s a1 a2) (hn : s.nodes.length ≤ 1000000) :
    Calls Try.prog 17 #[stateV s a1 a2 c1 c2] w (OwnInts w (behTo s s.nodes.length)) := by
  obtain ⟨i0, hi, hz0, hz1, hz2⟩ := info_parts infoInt
  have HS := Lib.hid hS
  clear hS
  go_enter Try.func17, Try.ntmps17
  go_wp2
  go_loopw [3, 9] (fun v x wr => ∃ k : Nat, k ≤ s.nodes.length ∧ x = .int .i64 k ∧ wr.ownsRow (w.heap.size + 1) 3 1 v (behTo s k).length ((behTo s k).map (Value.int .i64)) ∧ Below (w.heap.size + 1) (w.alloc (.cells #[.slice a1 s.nodes.length c1, .slice a2 s.jobs.length c2, .int .i64 s.goal, .int .i64 s.prior, .int .i64 s.mode, .int .i64 s.term] 33)) wr) (fun _ x _ => s.nodes.length - (intOf x).toNat)
  case atStart => exact ⟨0, Nat.zero_le _, rfl, World.ownsRow_nil _ _ _ _, Below.refl _ _⟩
  case round =>
    obtain ⟨k, hk, rfl, hown, hB⟩ := hrel
    have HOW := Lib.hid hown
    clear hown
    have hsz := hB.size
    simp only [World.size_alloc] at hsz
    have hs0 : w.heap.size < wr.heap.size := by omega
    have hcr : ∀ o, wr.cell? ⟨w.heap.size, o, none⟩ = (w.alloc (.cells #[.slice a1 s.nodes.length c1, .slice a2 s.jobs.length c2, .int .i64 s.goal, .int .i64 s.prior, .int .i64 s.mode, .int .i64 s.term] 33)).cell? ⟨w.heap.size, o, none⟩ := fun o => hB.cell (p := ⟨w.heap.size, o, none⟩) (Nat.lt_succ_self _)
    have hBr : Below w.heap.size w wr := ((by repeat (first | (with_reducible exact Below.refl _ _) | ((with_reducible refine Below.setCell ?_ ?_ _); rotate_left 1; focus (first | omega | (simp; done) | (simp; omega))) | ((with_reducible refine Below.alloc ?_ ?_ _); rotate_left 1; focus (first | omega | (simp; done) | (simp; omega))) | (with_reducible refine Below.drew ?_) | (with_reducible refine Below.draws ?_ _) | assumption)) : Below w.heap.size w _).trans (hB.mono (by omega))
    by_cases hlt : k < s.nodes.length
    · have hk2 : ¬ s.nodes.length ≤ k := by omega
      obtain ⟨b, o, nd, HM, hb, hix, d0, d1, d2, d3, d4⟩ := node_at (HS.out.below hBr (Nat.le_refl _)).nodes hlt
      obtain ⟨bh, hbh⟩ : ∃ b, behindB s nd = b := ⟨_, rfl⟩
      have hst : behTo s (k + 1) = if bh = true then behTo s k ++ [(k : Int)] else behTo s k := by rw [← hbh, HM.out]; rfl
      have HST := Lib.hid hst
      have HBH := Lib.hid hbh
      have hle := behTo_le s k
      clear hst hbh
      obtain ⟨e0, e1, e2, e3, e4⟩ := nd
      dsimp only at *
      go_wp2_with fail
      refine (behind_any s a1 a2 c1 c2 ⟨e0, e1, e2, e3, e4⟩ _ bh HBH.out).mono ?_
      rintro e w2 ⟨rfl, hb2⟩
      have hB2 : Below (w.heap.size + 1) wr w2 := ((by repeat (first | (with_reducible exact Below.refl _ _) | ((with_reducible refine Below.setCell ?_ ?_ _); rotate_left 1; focus (first | omega | (simp; done) | (simp; omega))) | ((with_reducible refine Below.alloc ?_ ?_ _); rotate_left 1; focus (first | omega | (simp; done) | (simp; omega))) | (with_reducible refine Below.drew ?_) | (with_reducible refine Below.draws ?_ _) | assumption)) : Below (w.heap.size + 1) wr _).trans (hb2.mono (by first | omega | (simp; done) | (simp; omega)))
      have HOW2 := Lib.hid (ownsRow_below (HOW.out.alloc _) hb2 (Nat.le_refl _))
      have hz := hb2.size
      simp only [World.size_alloc] at hz
      cases bh with
      | false =>
        go_wp2
        go_roundw
        case rel => exact ⟨k + 1, by omega, by go_num, by rw [HST.out]; exact HOW2.out, hB.trans hB2⟩
        case measure => simp [intOf]; omega
      | true =>
        have hown2 := HOW2.out
        go_wp2_with (first
          | (at_builtin; refine wpList_append_own _ rfl _ _ 23 rfl (w.heap.size + 1) 3 i0 (.int .i64 0) 1 8 Try.underlying23 hi hz0 hz1 hz2 rfl (by decide) _ _ _ rfl (hown2.alloc _) ⟨w2.heap.size, 0, none⟩ 1 1 [.int .i64 (k : Int)] rfl rfl ?c1 ?c2 ?c3 ?c4 ?c5 ?_)
          | go_in)
        case c1 =>
          intro j u hj
          match j, hj with
          | 0, hj => simp at hj; subst hj; simp [Addr.add]
        case c2 => intro u hu; simp at hu; subst hu; rfl
        case c3 => unfold maxLen; omega
        case c4 => omega
        case c5 => simp; omega
        intro v' w3 hown3 hgrow _
        have hl3 := hown2.lt
        have hB3 : Below (w.heap.size + 1) w2 w3 := Below.grown (by repeat (first | (with_reducible exact Below.refl _ _) | ((with_reducible refine Below.setCell ?_ ?_ _); rotate_left 1; focus (first | omega | (simp; done) | (simp; omega))) | ((with_reducible refine Below.alloc ?_ ?_ _); rotate_left 1; focus (first | omega | (simp; done) | (simp; omega))) | (with_reducible refine Below.drew ?_) | (with_reducible refine Below.draws ?_ _) | assumption)) hgrow (by first | omega | (simp; done) | (simp; omega)) (fun j hj => (hl3 j hj).1)
        have HOW3 := Lib.hid hown3
        clear hown3 hgrow hl3 hown2
        go_wp2
        go_roundw
        case rel => exact ⟨k + 1, by omega, by go_num, by rw [HST.out]; simpa using HOW3.out, hB.trans (hB2.trans hB3)⟩
        case measure => simp [intOf]; omega
    · obtain rfl : k = s.nodes.length := by omega
      go_wp2
      go_ret
      obtain ⟨h1, h2⟩ := HOW.out
      refine ⟨_, rfl, ⟨h1, ?_⟩, hBr⟩
      rcases h2 with h2 | ⟨g, cap, cur, hv, hg, r⟩
      · exact Or.inl h2
      · exact Or.inr ⟨g, cap, cur, hv, by omega, r⟩
end Go.Proofs.Ytclgmpflmeopmaa
