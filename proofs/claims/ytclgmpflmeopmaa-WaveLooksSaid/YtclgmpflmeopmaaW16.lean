import Derived.Test.YtclgmpflmeopmaaW14
set_option linter.unusedVariables false
set_option linter.unusedSimpArgs false
namespace Go.Proofs.Ytclgmpflmeopmaa
open Go.RowKit Dun

theorem stateAt_one (W : World) (B : Nat) (hB : B < W.heap.size) (nd : NodeD) (g p m t : Int)
    (h : ∀ i v, (nodeVals nd)[i]? = some v → W.cell? ⟨B, i, none⟩ = some v) : StateAt W ⟨[nd], [], g, p, m, t⟩ (some ⟨B, 0, none⟩) none := by
  refine ⟨fun k hk => ?_, fun k hk => by simp at hk⟩
  have hk0 : k = 0 := by simpa using hk
  subst hk0
  exact ⟨B, 0, rfl, hB, fun i v hv => by have := h i v hv; simpa using this⟩

def aC : ConfD := ⟨1, 1, 0, 1, 2, 1, 1, 0, 2000⟩
def aS (b : Bool) : StateD := ⟨[⟨true, b, false, 1, 0⟩], [], 2, 1, 0, 0⟩
theorem aOk (b : Bool) : Okay aC (aS b) := right_ok (by cases b <;> decide)

theorem next1 (B : Nat) (W : World) (hB : B < W.heap.size) (h : ∀ i v, (nodeVals ⟨true, false, false, 1, 0⟩)[i]? = some v → W.cell? ⟨B, i, none⟩ = some v) :
    Calls Try.prog 25 #[.agg #[.int .i64 1, .int .i64 1, .int .i64 0, .int .i64 1, .int .i64 2, .int .i64 1, .int .i64 1, .int .i64 0, .int .i64 2000], .agg #[.slice (some ⟨B, 0, none⟩) 1 1, .slice none 0 0, .int .i64 2, .int .i64 1, .int .i64 0, .int .i64 0], .int .i64 0] W (Ret W (opOkV ⟨16, 0, 0, 0, 0, 0, 0⟩ true)) :=
  next_any aC (aS false) (some ⟨B, 0, none⟩) none 1 0 0 W (some ⟨16, 0, 0, 0, 0, 0, 0⟩) (by decide) (aOk false) (stateAt_one W B hB _ 2 1 0 0 h) (by omega)
theorem next2 (B : Nat) (W : World) (hB : B < W.heap.size) (h : ∀ i v, (nodeVals ⟨true, true, false, 1, 0⟩)[i]? = some v → W.cell? ⟨B, i, none⟩ = some v) :
    Calls Try.prog 25 #[.agg #[.int .i64 1, .int .i64 1, .int .i64 0, .int .i64 1, .int .i64 2, .int .i64 1, .int .i64 1, .int .i64 0, .int .i64 2000], .agg #[.slice (some ⟨B, 0, none⟩) 1 1, .slice none 0 0, .int .i64 2, .int .i64 1, .int .i64 0, .int .i64 0], .int .i64 0] W (Ret W (opOkV ⟨18, 0, 0, 0, 0, 0, 0⟩ true)) :=
  next_any aC (aS true) (some ⟨B, 0, none⟩) none 1 0 0 W (some ⟨18, 0, 0, 0, 0, 0, 0⟩) (by decide) (aOk true) (stateAt_one W B hB _ 2 1 0 0 h) (by omega)
abbrev aV (B : Nat) : Value := .agg #[.slice (some ⟨B, 0, none⟩) 1 1, .slice none 0 0, .int .i64 2, .int .i64 1, .int .i64 0, .int .i64 0]
theorem wave1 (B : Nat) (W : World) (hB : B < W.heap.size) (h : ∀ i v, (nodeVals ⟨true, true, false, 1, 0⟩)[i]? = some v → W.cell? ⟨B, i, none⟩ = some v) :
    Calls Try.prog 20 #[aV B] W (Ret W (.int .i64 1)) :=
  wave_any (aS true) (some ⟨B, 0, none⟩) none 1 0 W (stateAt_one W B hB _ 2 1 0 0 h) (by decide)
theorem behind1 (B : Nat) (W : World) (hB : B < W.heap.size) (h : ∀ i v, (nodeVals ⟨true, true, false, 1, 0⟩)[i]? = some v → W.cell? ⟨B, i, none⟩ = some v) :
    Calls Try.prog 17 #[aV B] W fun e w' => ∃ a cap, e = .returned (.slice a 1 cap) ∧ Below W.heap.size W w' :=
  (behindL_any (aS true) (some ⟨B, 0, none⟩) none 1 0 W (stateAt_one W B hB _ 2 1 0 0 h) (by decide)).mono (by
    rintro e w' ⟨v, rfl, ho, hb⟩
    have he : behTo (aS true) (aS true).nodes.length = [0] := by decide
    rw [he] at ho
    rcases ho.2 with ⟨_, h0⟩ | ⟨g, cap, _, rfl, _⟩
    · simp at h0
    · exact ⟨_, cap, rfl, hb⟩)
theorem done1 (B : Nat) (W : World) (hB : B < W.heap.size) (h : ∀ i v, (nodeVals ⟨true, true, false, 1, 0⟩)[i]? = some v → W.cell? ⟨B, i, none⟩ = some v) :
    Calls Try.prog 22 #[aV B] W (Ret W (.bool false)) :=
  done_any aC (aS true) (some ⟨B, 0, none⟩) none 1 0 W false (by decide) (aOk true) (stateAt_one W B hB _ 2 1 0 0 h)
theorem alone1 (B : Nat) (W : World) (hB : B < W.heap.size) (h : ∀ i v, (nodeVals ⟨true, true, false, 1, 0⟩)[i]? = some v → W.cell? ⟨B, i, none⟩ = some v) :
    Calls Try.prog 18 #[aV B, .int .i64 0] W (Ret W (.bool false)) :=
  alone_any aC (aS true) (some ⟨B, 0, none⟩) none 1 0 0 W false (by decide) (aOk true) (stateAt_one W B hB _ 2 1 0 0 h)

theorem node_row {W : World} {B : Nat} {nd : NodeD} (h0 : W.cell? ⟨B, 0, none⟩ = some (.bool nd.up)) (h1 : W.cell? ⟨B, 1, none⟩ = some (.bool nd.cordon)) (h2 : W.cell? ⟨B, 2, none⟩ = some (.bool nd.moving)) (h3 : W.cell? ⟨B, 3, none⟩ = some (.int .i64 nd.version)) (h4 : W.cell? ⟨B, 4, none⟩ = some (.int .i64 nd.job)) :
    ∀ i v, (nodeVals nd)[i]? = some v → W.cell? ⟨B, i, none⟩ = some v := by
  intro i v hv
  match i, hv with
  | 0, hv => simp [nodeVals] at hv; subst hv; exact h0
  | 1, hv => simp [nodeVals] at hv; subst hv; exact h1
  | 2, hv => simp [nodeVals] at hv; subst hv; exact h2
  | 3, hv => simp [nodeVals] at hv; subst hv; exact h3
  | 4, hv => simp [nodeVals] at hv; subst hv; exact h4
  | n + 5, hv => simp [nodeVals] at hv

set_option maxHeartbeats 8000000 in
theorem alive_any (w : World) : Calls Try.prog 13 #[] w (Ret w (.bool true)) := by
  go_enter Try.func13, Try.ntmps13
  go_wp2_with fail
  refine Calls.mono (next1 (w.heap.size + 1) _ ?_ ?_) ?_
  · first | omega | (simp; done) | (simp; omega)
  · exact node_row (by go_simp) (by go_simp) (by go_simp) (by go_simp) (by go_simp)
  rintro e w2 ⟨rfl, hb2⟩
  have hB2 : Below w.heap.size w w2 := ((by repeat (first | (with_reducible exact Below.refl _ _) | ((with_reducible refine Below.setCell ?_ ?_ _); rotate_left 1; focus (first | omega | (simp; done) | (simp; omega))) | ((with_reducible refine Below.alloc ?_ ?_ _); rotate_left 1; focus (first | omega | (simp; done) | (simp; omega))) | (with_reducible refine Below.drew ?_) | (with_reducible refine Below.draws ?_ _) | assumption)) : Below w.heap.size w _).trans (hb2.mono (by first | omega | (simp; done) | (simp; omega)))
  have hz2 : w.heap.size + 1 + 1 < w2.heap.size := by have := hb2.size; simp only [World.size_alloc] at this; omega
  have hz2a : w.heap.size + 1 < w2.heap.size := by omega
  have hz2b : w.heap.size < w2.heap.size := by omega
  have n0a : w2.cell? ⟨w.heap.size + 1, 0, none⟩ = some (.bool true) := (hb2.cell (p := ⟨w.heap.size + 1, 0, none⟩) (by show w.heap.size + 1 < _; first | omega | (simp; done) | (simp; omega))).trans (by go_simp)
  have n1a : w2.cell? ⟨w.heap.size + 1, 1, none⟩ = some (.bool false) := (hb2.cell (p := ⟨w.heap.size + 1, 1, none⟩) (by show w.heap.size + 1 < _; first | omega | (simp; done) | (simp; omega))).trans (by go_simp)
  have n2a : w2.cell? ⟨w.heap.size + 1, 2, none⟩ = some (.bool false) := (hb2.cell (p := ⟨w.heap.size + 1, 2, none⟩) (by show w.heap.size + 1 < _; first | omega | (simp; done) | (simp; omega))).trans (by go_simp)
  have n3a : w2.cell? ⟨w.heap.size + 1, 3, none⟩ = some (.int .i64 1) := (hb2.cell (p := ⟨w.heap.size + 1, 3, none⟩) (by show w.heap.size + 1 < _; first | omega | (simp; done) | (simp; omega))).trans (by go_simp)
  have n4a : w2.cell? ⟨w.heap.size + 1, 4, none⟩ = some (.int .i64 0) := (hb2.cell (p := ⟨w.heap.size + 1, 4, none⟩) (by show w.heap.size + 1 < _; first | omega | (simp; done) | (simp; omega))).trans (by go_simp)
  have s0a : w2.cell? ⟨w.heap.size + 1 + 1, 0, none⟩ = some (.slice (some ⟨w.heap.size + 1, 0, none⟩) 1 1) := (hb2.cell (p := ⟨w.heap.size + 1 + 1, 0, none⟩) (by show w.heap.size + 1 + 1 < _; first | omega | (simp; done) | (simp; omega))).trans (by go_simp)
  have s1a : w2.cell? ⟨w.heap.size + 1 + 1, 1, none⟩ = some (.slice none 0 0) := (hb2.cell (p := ⟨w.heap.size + 1 + 1, 1, none⟩) (by show w.heap.size + 1 + 1 < _; first | omega | (simp; done) | (simp; omega))).trans (by go_simp)
  have s2a : w2.cell? ⟨w.heap.size + 1 + 1, 2, none⟩ = some (.int .i64 2) := (hb2.cell (p := ⟨w.heap.size + 1 + 1, 2, none⟩) (by show w.heap.size + 1 + 1 < _; first | omega | (simp; done) | (simp; omega))).trans (by go_simp)
  have s3a : w2.cell? ⟨w.heap.size + 1 + 1, 3, none⟩ = some (.int .i64 1) := (hb2.cell (p := ⟨w.heap.size + 1 + 1, 3, none⟩) (by show w.heap.size + 1 + 1 < _; first | omega | (simp; done) | (simp; omega))).trans (by go_simp)
  have s4a : w2.cell? ⟨w.heap.size + 1 + 1, 4, none⟩ = some (.int .i64 0) := (hb2.cell (p := ⟨w.heap.size + 1 + 1, 4, none⟩) (by show w.heap.size + 1 + 1 < _; first | omega | (simp; done) | (simp; omega))).trans (by go_simp)
  have s5a : w2.cell? ⟨w.heap.size + 1 + 1, 5, none⟩ = some (.int .i64 0) := (hb2.cell (p := ⟨w.heap.size + 1 + 1, 5, none⟩) (by show w.heap.size + 1 + 1 < _; first | omega | (simp; done) | (simp; omega))).trans (by go_simp)
  have c0a : w2.cell? ⟨w.heap.size, 0, none⟩ = some (.int .i64 1) := (hb2.cell (p := ⟨w.heap.size, 0, none⟩) (by show w.heap.size < _; first | omega | (simp; done) | (simp; omega))).trans (by go_simp)
  have c1a : w2.cell? ⟨w.heap.size, 1, none⟩ = some (.int .i64 1) := (hb2.cell (p := ⟨w.heap.size, 1, none⟩) (by show w.heap.size < _; first | omega | (simp; done) | (simp; omega))).trans (by go_simp)
  have c2a : w2.cell? ⟨w.heap.size, 2, none⟩ = some (.int .i64 0) := (hb2.cell (p := ⟨w.heap.size, 2, none⟩) (by show w.heap.size < _; first | omega | (simp; done) | (simp; omega))).trans (by go_simp)
  have c3a : w2.cell? ⟨w.heap.size, 3, none⟩ = some (.int .i64 1) := (hb2.cell (p := ⟨w.heap.size, 3, none⟩) (by show w.heap.size < _; first | omega | (simp; done) | (simp; omega))).trans (by go_simp)
  have c4a : w2.cell? ⟨w.heap.size, 4, none⟩ = some (.int .i64 2) := (hb2.cell (p := ⟨w.heap.size, 4, none⟩) (by show w.heap.size < _; first | omega | (simp; done) | (simp; omega))).trans (by go_simp)
  have c5a : w2.cell? ⟨w.heap.size, 5, none⟩ = some (.int .i64 1) := (hb2.cell (p := ⟨w.heap.size, 5, none⟩) (by show w.heap.size < _; first | omega | (simp; done) | (simp; omega))).trans (by go_simp)
  have c6a : w2.cell? ⟨w.heap.size, 6, none⟩ = some (.int .i64 1) := (hb2.cell (p := ⟨w.heap.size, 6, none⟩) (by show w.heap.size < _; first | omega | (simp; done) | (simp; omega))).trans (by go_simp)
  have c7a : w2.cell? ⟨w.heap.size, 7, none⟩ = some (.int .i64 0) := (hb2.cell (p := ⟨w.heap.size, 7, none⟩) (by show w.heap.size < _; first | omega | (simp; done) | (simp; omega))).trans (by go_simp)
  have c8a : w2.cell? ⟨w.heap.size, 8, none⟩ = some (.int .i64 2000) := (hb2.cell (p := ⟨w.heap.size, 8, none⟩) (by show w.heap.size < _; first | omega | (simp; done) | (simp; omega))).trans (by go_simp)
  have fz : ∀ i, w2.frozen? ⟨w.heap.size + 1, i, none⟩ = false := fun i => (hb2.frozen (p := ⟨w.heap.size + 1, i, none⟩) (by show w.heap.size + 1 < _; first | omega | (simp; done) | (simp; omega))).trans (by go_simp)
  clear hb2
  go_wp2_with fail
  refine Calls.mono (next2 (w.heap.size + 1) _ ?_ ?_) ?_
  · first | omega | (simp; done) | (simp; omega)
  · exact node_row (by go_simp) (by go_simp) (by go_simp) (by go_simp) (by go_simp)
  rintro e w3 ⟨rfl, hb3⟩
  have hB3 : Below w.heap.size w w3 := hB2.trans (((by repeat (first | (with_reducible exact Below.refl _ _) | ((with_reducible refine Below.setCell ?_ ?_ _); rotate_left 1; focus (first | omega | (simp; done) | (simp; omega))) | ((with_reducible refine Below.alloc ?_ ?_ _); rotate_left 1; focus (first | omega | (simp; done) | (simp; omega))) | (with_reducible refine Below.drew ?_) | (with_reducible refine Below.draws ?_ _) | assumption)) : Below w.heap.size w2 _).trans (hb3.mono (by first | omega | (simp; done) | (simp; omega))))
  have hz3 : w.heap.size + 1 + 1 < w3.heap.size := by have := hb3.size; simp only [World.size_alloc, World.size_setCell] at this; omega
  have hz3a : w.heap.size + 1 < w3.heap.size := by omega
  have hz3b : w.heap.size < w3.heap.size := by omega
  have hz23 : w2.heap.size < w3.heap.size := by have := hb3.size; simp only [World.size_alloc, World.size_setCell] at this; omega
  have n0b : w3.cell? ⟨w.heap.size + 1, 0, none⟩ = some (.bool true) := (hb3.cell (p := ⟨w.heap.size + 1, 0, none⟩) (by show w.heap.size + 1 < _; first | omega | (simp; done) | (simp; omega))).trans (by go_simp)
  have n1b : w3.cell? ⟨w.heap.size + 1, 1, none⟩ = some (.bool true) := (hb3.cell (p := ⟨w.heap.size + 1, 1, none⟩) (by show w.heap.size + 1 < _; first | omega | (simp; done) | (simp; omega))).trans (by go_simp)
  have n2b : w3.cell? ⟨w.heap.size + 1, 2, none⟩ = some (.bool false) := (hb3.cell (p := ⟨w.heap.size + 1, 2, none⟩) (by show w.heap.size + 1 < _; first | omega | (simp; done) | (simp; omega))).trans (by go_simp)
  have n3b : w3.cell? ⟨w.heap.size + 1, 3, none⟩ = some (.int .i64 1) := (hb3.cell (p := ⟨w.heap.size + 1, 3, none⟩) (by show w.heap.size + 1 < _; first | omega | (simp; done) | (simp; omega))).trans (by go_simp)
  have n4b : w3.cell? ⟨w.heap.size + 1, 4, none⟩ = some (.int .i64 0) := (hb3.cell (p := ⟨w.heap.size + 1, 4, none⟩) (by show w.heap.size + 1 < _; first | omega | (simp; done) | (simp; omega))).trans (by go_simp)
  have s0b : w3.cell? ⟨w.heap.size + 1 + 1, 0, none⟩ = some (.slice (some ⟨w.heap.size + 1, 0, none⟩) 1 1) := (hb3.cell (p := ⟨w.heap.size + 1 + 1, 0, none⟩) (by show w.heap.size + 1 + 1 < _; first | omega | (simp; done) | (simp; omega))).trans (by go_simp)
  have s1b : w3.cell? ⟨w.heap.size + 1 + 1, 1, none⟩ = some (.slice none 0 0) := (hb3.cell (p := ⟨w.heap.size + 1 + 1, 1, none⟩) (by show w.heap.size + 1 + 1 < _; first | omega | (simp; done) | (simp; omega))).trans (by go_simp)
  have s2b : w3.cell? ⟨w.heap.size + 1 + 1, 2, none⟩ = some (.int .i64 2) := (hb3.cell (p := ⟨w.heap.size + 1 + 1, 2, none⟩) (by show w.heap.size + 1 + 1 < _; first | omega | (simp; done) | (simp; omega))).trans (by go_simp)
  have s3b : w3.cell? ⟨w.heap.size + 1 + 1, 3, none⟩ = some (.int .i64 1) := (hb3.cell (p := ⟨w.heap.size + 1 + 1, 3, none⟩) (by show w.heap.size + 1 + 1 < _; first | omega | (simp; done) | (simp; omega))).trans (by go_simp)
  have s4b : w3.cell? ⟨w.heap.size + 1 + 1, 4, none⟩ = some (.int .i64 0) := (hb3.cell (p := ⟨w.heap.size + 1 + 1, 4, none⟩) (by show w.heap.size + 1 + 1 < _; first | omega | (simp; done) | (simp; omega))).trans (by go_simp)
  have s5b : w3.cell? ⟨w.heap.size + 1 + 1, 5, none⟩ = some (.int .i64 0) := (hb3.cell (p := ⟨w.heap.size + 1 + 1, 5, none⟩) (by show w.heap.size + 1 + 1 < _; first | omega | (simp; done) | (simp; omega))).trans (by go_simp)
  have o0 : w3.cell? ⟨w2.heap.size, 0, none⟩ = some (.int .i64 16) := (hb3.cell (p := ⟨w2.heap.size, 0, none⟩) (by show w2.heap.size < _; simp)).trans (by go_simp)
  have o1 : w3.cell? ⟨w2.heap.size, 1, none⟩ = some (.int .i64 0) := (hb3.cell (p := ⟨w2.heap.size, 1, none⟩) (by show w2.heap.size < _; simp)).trans (by go_simp)
  have o2 : w3.cell? ⟨w2.heap.size, 2, none⟩ = some (.int .i64 0) := (hb3.cell (p := ⟨w2.heap.size, 2, none⟩) (by show w2.heap.size < _; simp)).trans (by go_simp)
  have o3 : w3.cell? ⟨w2.heap.size, 3, none⟩ = some (.int .i64 0) := (hb3.cell (p := ⟨w2.heap.size, 3, none⟩) (by show w2.heap.size < _; simp)).trans (by go_simp)
  have o4 : w3.cell? ⟨w2.heap.size, 4, none⟩ = some (.int .i64 0) := (hb3.cell (p := ⟨w2.heap.size, 4, none⟩) (by show w2.heap.size < _; simp)).trans (by go_simp)
  have o5 : w3.cell? ⟨w2.heap.size, 5, none⟩ = some (.int .i64 0) := (hb3.cell (p := ⟨w2.heap.size, 5, none⟩) (by show w2.heap.size < _; simp)).trans (by go_simp)
  have o6 : w3.cell? ⟨w2.heap.size, 6, none⟩ = some (.int .i64 0) := (hb3.cell (p := ⟨w2.heap.size, 6, none⟩) (by show w2.heap.size < _; simp)).trans (by go_simp)
  clear n0a n1a n2a n3a n4a s0a s1a s2a s3a s4a s5a c0a c1a c2a c3a c4a c5a c6a c7a c8a
  clear hb3 fz
  go_wp2_with fail
  refine Calls.mono (wave1 (w.heap.size + 1) _ ?_ ?_) ?_
  · first | omega | (simp; done) | (simp; omega)
  · exact node_row (by go_simp) (by go_simp) (by go_simp) (by go_simp) (by go_simp)
  rintro e w4 ⟨rfl, hb4⟩
  have hB4 : Below w.heap.size w w4 := hB3.trans (((by repeat (first | (with_reducible exact Below.refl _ _) | ((with_reducible refine Below.setCell ?_ ?_ _); rotate_left 1; focus (first | omega | (simp; done) | (simp; omega))) | ((with_reducible refine Below.alloc ?_ ?_ _); rotate_left 1; focus (first | omega | (simp; done) | (simp; omega))) | (with_reducible refine Below.drew ?_) | (with_reducible refine Below.draws ?_ _) | assumption)) : Below w.heap.size w3 _).trans (hb4.mono (by first | omega | (simp; done) | (simp; omega))))
  have hz4 : w.heap.size + 1 + 1 < w4.heap.size := by have := hb4.size; (try simp only [World.size_alloc, World.size_setCell] at this); omega
  have hz4a : w.heap.size + 1 < w4.heap.size := by omega
  have hz4b : w.heap.size < w4.heap.size := by omega
  have n0c : w4.cell? ⟨w.heap.size + 1, 0, none⟩ = some (.bool true) := (hb4.cell (p := ⟨w.heap.size + 1, 0, none⟩) (by show w.heap.size + 1 < _; first | omega | (simp; done) | (simp; omega))).trans (by go_simp)
  have n1c : w4.cell? ⟨w.heap.size + 1, 1, none⟩ = some (.bool true) := (hb4.cell (p := ⟨w.heap.size + 1, 1, none⟩) (by show w.heap.size + 1 < _; first | omega | (simp; done) | (simp; omega))).trans (by go_simp)
  have n2c : w4.cell? ⟨w.heap.size + 1, 2, none⟩ = some (.bool false) := (hb4.cell (p := ⟨w.heap.size + 1, 2, none⟩) (by show w.heap.size + 1 < _; first | omega | (simp; done) | (simp; omega))).trans (by go_simp)
  have n3c : w4.cell? ⟨w.heap.size + 1, 3, none⟩ = some (.int .i64 1) := (hb4.cell (p := ⟨w.heap.size + 1, 3, none⟩) (by show w.heap.size + 1 < _; first | omega | (simp; done) | (simp; omega))).trans (by go_simp)
  have n4c : w4.cell? ⟨w.heap.size + 1, 4, none⟩ = some (.int .i64 0) := (hb4.cell (p := ⟨w.heap.size + 1, 4, none⟩) (by show w.heap.size + 1 < _; first | omega | (simp; done) | (simp; omega))).trans (by go_simp)
  have s0c : w4.cell? ⟨w.heap.size + 1 + 1, 0, none⟩ = some (.slice (some ⟨w.heap.size + 1, 0, none⟩) 1 1) := (hb4.cell (p := ⟨w.heap.size + 1 + 1, 0, none⟩) (by show w.heap.size + 1 + 1 < _; first | omega | (simp; done) | (simp; omega))).trans (by go_simp)
  have s1c : w4.cell? ⟨w.heap.size + 1 + 1, 1, none⟩ = some (.slice none 0 0) := (hb4.cell (p := ⟨w.heap.size + 1 + 1, 1, none⟩) (by show w.heap.size + 1 + 1 < _; first | omega | (simp; done) | (simp; omega))).trans (by go_simp)
  have s2c : w4.cell? ⟨w.heap.size + 1 + 1, 2, none⟩ = some (.int .i64 2) := (hb4.cell (p := ⟨w.heap.size + 1 + 1, 2, none⟩) (by show w.heap.size + 1 + 1 < _; first | omega | (simp; done) | (simp; omega))).trans (by go_simp)
  have s3c : w4.cell? ⟨w.heap.size + 1 + 1, 3, none⟩ = some (.int .i64 1) := (hb4.cell (p := ⟨w.heap.size + 1 + 1, 3, none⟩) (by show w.heap.size + 1 + 1 < _; first | omega | (simp; done) | (simp; omega))).trans (by go_simp)
  have s4c : w4.cell? ⟨w.heap.size + 1 + 1, 4, none⟩ = some (.int .i64 0) := (hb4.cell (p := ⟨w.heap.size + 1 + 1, 4, none⟩) (by show w.heap.size + 1 + 1 < _; first | omega | (simp; done) | (simp; omega))).trans (by go_simp)
  have s5c : w4.cell? ⟨w.heap.size + 1 + 1, 5, none⟩ = some (.int .i64 0) := (hb4.cell (p := ⟨w.heap.size + 1 + 1, 5, none⟩) (by show w.heap.size + 1 + 1 < _; first | omega | (simp; done) | (simp; omega))).trans (by go_simp)
  clear n0b n1b n2b n3b n4b s0b s1b s2b s3b s4b s5b
  clear hb4
  go_wp2_with fail
  refine Calls.mono (behind1 (w.heap.size + 1) _ ?_ ?_) ?_
  · first | omega | (simp; done) | (simp; omega)
  · exact node_row (by go_simp) (by go_simp) (by go_simp) (by go_simp) (by go_simp)
  rintro e w5 ⟨sa, sc, rfl, hb5⟩
  have hB5 : Below w.heap.size w w5 := hB4.trans (((by repeat (first | (with_reducible exact Below.refl _ _) | ((with_reducible refine Below.setCell ?_ ?_ _); rotate_left 1; focus (first | omega | (simp; done) | (simp; omega))) | ((with_reducible refine Below.alloc ?_ ?_ _); rotate_left 1; focus (first | omega | (simp; done) | (simp; omega))) | (with_reducible refine Below.drew ?_) | (with_reducible refine Below.draws ?_ _) | assumption)) : Below w.heap.size w4 _).trans (hb5.mono (by first | omega | (simp; done) | (simp; omega))))
  have hz5 : w.heap.size + 1 + 1 < w5.heap.size := by have := hb5.size; (try simp only [World.size_alloc, World.size_setCell] at this); omega
  have hz5a : w.heap.size + 1 < w5.heap.size := by omega
  have hz5b : w.heap.size < w5.heap.size := by omega
  have n0d : w5.cell? ⟨w.heap.size + 1, 0, none⟩ = some (.bool true) := (hb5.cell (p := ⟨w.heap.size + 1, 0, none⟩) (by show w.heap.size + 1 < _; first | omega | (simp; done) | (simp; omega))).trans (by go_simp)
  have n1d : w5.cell? ⟨w.heap.size + 1, 1, none⟩ = some (.bool true) := (hb5.cell (p := ⟨w.heap.size + 1, 1, none⟩) (by show w.heap.size + 1 < _; first | omega | (simp; done) | (simp; omega))).trans (by go_simp)
  have n2d : w5.cell? ⟨w.heap.size + 1, 2, none⟩ = some (.bool false) := (hb5.cell (p := ⟨w.heap.size + 1, 2, none⟩) (by show w.heap.size + 1 < _; first | omega | (simp; done) | (simp; omega))).trans (by go_simp)
  have n3d : w5.cell? ⟨w.heap.size + 1, 3, none⟩ = some (.int .i64 1) := (hb5.cell (p := ⟨w.heap.size + 1, 3, none⟩) (by show w.heap.size + 1 < _; first | omega | (simp; done) | (simp; omega))).trans (by go_simp)
  have n4d : w5.cell? ⟨w.heap.size + 1, 4, none⟩ = some (.int .i64 0) := (hb5.cell (p := ⟨w.heap.size + 1, 4, none⟩) (by show w.heap.size + 1 < _; first | omega | (simp; done) | (simp; omega))).trans (by go_simp)
  have s0d : w5.cell? ⟨w.heap.size + 1 + 1, 0, none⟩ = some (.slice (some ⟨w.heap.size + 1, 0, none⟩) 1 1) := (hb5.cell (p := ⟨w.heap.size + 1 + 1, 0, none⟩) (by show w.heap.size + 1 + 1 < _; first | omega | (simp; done) | (simp; omega))).trans (by go_simp)
  have s1d : w5.cell? ⟨w.heap.size + 1 + 1, 1, none⟩ = some (.slice none 0 0) := (hb5.cell (p := ⟨w.heap.size + 1 + 1, 1, none⟩) (by show w.heap.size + 1 + 1 < _; first | omega | (simp; done) | (simp; omega))).trans (by go_simp)
  have s2d : w5.cell? ⟨w.heap.size + 1 + 1, 2, none⟩ = some (.int .i64 2) := (hb5.cell (p := ⟨w.heap.size + 1 + 1, 2, none⟩) (by show w.heap.size + 1 + 1 < _; first | omega | (simp; done) | (simp; omega))).trans (by go_simp)
  have s3d : w5.cell? ⟨w.heap.size + 1 + 1, 3, none⟩ = some (.int .i64 1) := (hb5.cell (p := ⟨w.heap.size + 1 + 1, 3, none⟩) (by show w.heap.size + 1 + 1 < _; first | omega | (simp; done) | (simp; omega))).trans (by go_simp)
  have s4d : w5.cell? ⟨w.heap.size + 1 + 1, 4, none⟩ = some (.int .i64 0) := (hb5.cell (p := ⟨w.heap.size + 1 + 1, 4, none⟩) (by show w.heap.size + 1 + 1 < _; first | omega | (simp; done) | (simp; omega))).trans (by go_simp)
  have s5d : w5.cell? ⟨w.heap.size + 1 + 1, 5, none⟩ = some (.int .i64 0) := (hb5.cell (p := ⟨w.heap.size + 1 + 1, 5, none⟩) (by show w.heap.size + 1 + 1 < _; first | omega | (simp; done) | (simp; omega))).trans (by go_simp)
  clear n0c n1c n2c n3c n4c s0c s1c s2c s3c s4c s5c
  clear hb5
  go_wp2_with fail
  refine Calls.mono (done1 (w.heap.size + 1) _ ?_ ?_) ?_
  · first | omega | (simp; done) | (simp; omega)
  · exact node_row (by go_simp) (by go_simp) (by go_simp) (by go_simp) (by go_simp)
  rintro e w6 ⟨rfl, hb6⟩
  have hB6 : Below w.heap.size w w6 := hB5.trans (((by repeat (first | (with_reducible exact Below.refl _ _) | ((with_reducible refine Below.setCell ?_ ?_ _); rotate_left 1; focus (first | omega | (simp; done) | (simp; omega))) | ((with_reducible refine Below.alloc ?_ ?_ _); rotate_left 1; focus (first | omega | (simp; done) | (simp; omega))) | (with_reducible refine Below.drew ?_) | (with_reducible refine Below.draws ?_ _) | assumption)) : Below w.heap.size w5 _).trans (hb6.mono (by first | omega | (simp; done) | (simp; omega))))
  have hz6 : w.heap.size + 1 + 1 < w6.heap.size := by have := hb6.size; (try simp only [World.size_alloc, World.size_setCell] at this); omega
  have hz6a : w.heap.size + 1 < w6.heap.size := by omega
  have hz6b : w.heap.size < w6.heap.size := by omega
  have n0e : w6.cell? ⟨w.heap.size + 1, 0, none⟩ = some (.bool true) := (hb6.cell (p := ⟨w.heap.size + 1, 0, none⟩) (by show w.heap.size + 1 < _; first | omega | (simp; done) | (simp; omega))).trans (by go_simp)
  have n1e : w6.cell? ⟨w.heap.size + 1, 1, none⟩ = some (.bool true) := (hb6.cell (p := ⟨w.heap.size + 1, 1, none⟩) (by show w.heap.size + 1 < _; first | omega | (simp; done) | (simp; omega))).trans (by go_simp)
  have n2e : w6.cell? ⟨w.heap.size + 1, 2, none⟩ = some (.bool false) := (hb6.cell (p := ⟨w.heap.size + 1, 2, none⟩) (by show w.heap.size + 1 < _; first | omega | (simp; done) | (simp; omega))).trans (by go_simp)
  have n3e : w6.cell? ⟨w.heap.size + 1, 3, none⟩ = some (.int .i64 1) := (hb6.cell (p := ⟨w.heap.size + 1, 3, none⟩) (by show w.heap.size + 1 < _; first | omega | (simp; done) | (simp; omega))).trans (by go_simp)
  have n4e : w6.cell? ⟨w.heap.size + 1, 4, none⟩ = some (.int .i64 0) := (hb6.cell (p := ⟨w.heap.size + 1, 4, none⟩) (by show w.heap.size + 1 < _; first | omega | (simp; done) | (simp; omega))).trans (by go_simp)
  have s0e : w6.cell? ⟨w.heap.size + 1 + 1, 0, none⟩ = some (.slice (some ⟨w.heap.size + 1, 0, none⟩) 1 1) := (hb6.cell (p := ⟨w.heap.size + 1 + 1, 0, none⟩) (by show w.heap.size + 1 + 1 < _; first | omega | (simp; done) | (simp; omega))).trans (by go_simp)
  have s1e : w6.cell? ⟨w.heap.size + 1 + 1, 1, none⟩ = some (.slice none 0 0) := (hb6.cell (p := ⟨w.heap.size + 1 + 1, 1, none⟩) (by show w.heap.size + 1 + 1 < _; first | omega | (simp; done) | (simp; omega))).trans (by go_simp)
  have s2e : w6.cell? ⟨w.heap.size + 1 + 1, 2, none⟩ = some (.int .i64 2) := (hb6.cell (p := ⟨w.heap.size + 1 + 1, 2, none⟩) (by show w.heap.size + 1 + 1 < _; first | omega | (simp; done) | (simp; omega))).trans (by go_simp)
  have s3e : w6.cell? ⟨w.heap.size + 1 + 1, 3, none⟩ = some (.int .i64 1) := (hb6.cell (p := ⟨w.heap.size + 1 + 1, 3, none⟩) (by show w.heap.size + 1 + 1 < _; first | omega | (simp; done) | (simp; omega))).trans (by go_simp)
  have s4e : w6.cell? ⟨w.heap.size + 1 + 1, 4, none⟩ = some (.int .i64 0) := (hb6.cell (p := ⟨w.heap.size + 1 + 1, 4, none⟩) (by show w.heap.size + 1 + 1 < _; first | omega | (simp; done) | (simp; omega))).trans (by go_simp)
  have s5e : w6.cell? ⟨w.heap.size + 1 + 1, 5, none⟩ = some (.int .i64 0) := (hb6.cell (p := ⟨w.heap.size + 1 + 1, 5, none⟩) (by show w.heap.size + 1 + 1 < _; first | omega | (simp; done) | (simp; omega))).trans (by go_simp)
  clear n0d n1d n2d n3d n4d s0d s1d s2d s3d s4d s5d
  clear hb6
  go_wp2_with fail
  refine Calls.mono (alone1 (w.heap.size + 1) _ ?_ ?_) ?_
  · first | omega | (simp; done) | (simp; omega)
  · exact node_row (by go_simp) (by go_simp) (by go_simp) (by go_simp) (by go_simp)
  rintro e w7 ⟨rfl, hb7⟩
  have hB7 : Below w.heap.size w w7 := hB6.trans (((by repeat (first | (with_reducible exact Below.refl _ _) | ((with_reducible refine Below.setCell ?_ ?_ _); rotate_left 1; focus (first | omega | (simp; done) | (simp; omega))) | ((with_reducible refine Below.alloc ?_ ?_ _); rotate_left 1; focus (first | omega | (simp; done) | (simp; omega))) | (with_reducible refine Below.drew ?_) | (with_reducible refine Below.draws ?_ _) | assumption)) : Below w.heap.size w6 _).trans (hb7.mono (by first | omega | (simp; done) | (simp; omega))))
  go_wp2
  go_ret
  exact ⟨rfl, hB7.trans (by repeat (first | (with_reducible exact Below.refl _ _) | ((with_reducible refine Below.setCell ?_ ?_ _); rotate_left 1; focus (first | omega | (simp; done) | (simp; omega))) | ((with_reducible refine Below.alloc ?_ ?_ _); rotate_left 1; focus (first | omega | (simp; done) | (simp; omega))) | (with_reducible refine Below.drew ?_) | (with_reducible refine Below.draws ?_ _) | assumption))⟩
end Go.Proofs.Ytclgmpflmeopmaa
