import Derived.Test.YtclgmpflmeopmaaW16
import Derived.BigGuardPart
namespace Go.Proofs.Ytclgmpflmeopmaa
open Go.RowKit Dun

theorem time17_any (n : Int) (w : World) (r : Bool) (hr : Hid (decide (0 ≤ n ∧ n ≤ 1000000) = r)) :
    Calls Try.prog 24 #[.int .i64 n] w (Ret w (.bool r)) := by
  go_enter Try.func24, Try.ntmps24
  go_wp2
  all_goals (go_ret; refine ⟨ret_bool ?_, (by repeat (first | (with_reducible exact Below.refl _ _) | ((with_reducible refine Below.setCell ?_ ?_ _); rotate_left 1; focus (first | omega | (simp; done) | (simp; omega))) | ((with_reducible refine Below.alloc ?_ ?_ _); rotate_left 1; focus (first | omega | (simp; done) | (simp; omega))) | (with_reducible refine Below.drew ?_) | (with_reducible refine Below.draws ?_ _) | assumption))⟩; rw [← hr.out]; first | rfl | (rw [Bool.eq_iff_iff]; simp; omega) | (simp; omega))

set_option maxHeartbeats 4000000 in
theorem law_waveNext (c : ConfD) (s : StateD) (a1 a2 : Option Addr) (c1 c2 : Nat) (now : Int) (w : World) (hS : StateAt w s a1 a2) (hn1 : s.nodes.length ≤ 9223372036854775807) (hn2 : s.jobs.length ≤ 9223372036854775807) :
    Calls Try.prog 5 #[confV c, stateV s a1 a2 c1 c2, .int .i64 now] w (Ret w (.bool true)) := by
  have HS := Lib.hid hS
  clear hS
  obtain ⟨rb, hrb⟩ : ∃ b, rightB c s = b := ⟨_, rfl⟩
  obtain ⟨tb, htb⟩ : ∃ b, decide (0 ≤ now ∧ now ≤ 1000000) = b := ⟨_, rfl⟩
  obtain ⟨nx, hnx⟩ : ∃ b, nextW c s now = b := ⟨_, rfl⟩
  have HR := Lib.hid hrb
  have HT := Lib.hid htb
  have HX := Lib.hid hnx
  clear hrb htb hnx
  go_enter Try.func5, Try.ntmps5
  go_wp2_with fail
  refine Calls.mono (alive_any _) ?_
  rintro e w1 ⟨rfl, hb1⟩
  have hB1 : Below w.heap.size w w1 := ((by repeat (first | (with_reducible exact Below.refl _ _) | ((with_reducible refine Below.setCell ?_ ?_ _); rotate_left 1; focus (first | omega | (simp; done) | (simp; omega))) | ((with_reducible refine Below.alloc ?_ ?_ _); rotate_left 1; focus (first | omega | (simp; done) | (simp; omega))) | (with_reducible refine Below.drew ?_) | (with_reducible refine Below.draws ?_ _) | assumption)) : Below w.heap.size w _).trans (hb1.mono (by first | omega | (simp; done) | (simp; omega)))
  have hz1 : w.heap.size + 1 < w1.heap.size := by have := hb1.size; simp only [World.size_alloc] at this; omega
  have hz1a : w.heap.size < w1.heap.size := by omega
  have c0a : w1.cell? ⟨w.heap.size, 0, none⟩ = some (.int .i64 c.nodes) := (hb1.cell (p := ⟨w.heap.size, 0, none⟩) (by show w.heap.size < _; first | omega | (simp; done) | (simp; omega))).trans (by go_simp)
  have c1a : w1.cell? ⟨w.heap.size, 1, none⟩ = some (.int .i64 c.queues) := (hb1.cell (p := ⟨w.heap.size, 1, none⟩) (by show w.heap.size < _; first | omega | (simp; done) | (simp; omega))).trans (by go_simp)
  have c2a : w1.cell? ⟨w.heap.size, 2, none⟩ = some (.int .i64 c.quota) := (hb1.cell (p := ⟨w.heap.size, 2, none⟩) (by show w.heap.size < _; first | omega | (simp; done) | (simp; omega))).trans (by go_simp)
  have c3a : w1.cell? ⟨w.heap.size, 3, none⟩ = some (.int .i64 c.wave) := (hb1.cell (p := ⟨w.heap.size, 3, none⟩) (by show w.heap.size < _; first | omega | (simp; done) | (simp; omega))).trans (by go_simp)
  have c4a : w1.cell? ⟨w.heap.size, 4, none⟩ = some (.int .i64 c.lease) := (hb1.cell (p := ⟨w.heap.size, 4, none⟩) (by show w.heap.size < _; first | omega | (simp; done) | (simp; omega))).trans (by go_simp)
  have c5a : w1.cell? ⟨w.heap.size, 5, none⟩ = some (.int .i64 c.retry) := (hb1.cell (p := ⟨w.heap.size, 5, none⟩) (by show w.heap.size < _; first | omega | (simp; done) | (simp; omega))).trans (by go_simp)
  have c6a : w1.cell? ⟨w.heap.size, 6, none⟩ = some (.int .i64 c.deadline) := (hb1.cell (p := ⟨w.heap.size, 6, none⟩) (by show w.heap.size < _; first | omega | (simp; done) | (simp; omega))).trans (by go_simp)
  have c7a : w1.cell? ⟨w.heap.size, 7, none⟩ = some (.int .i64 c.room) := (hb1.cell (p := ⟨w.heap.size, 7, none⟩) (by show w.heap.size < _; first | omega | (simp; done) | (simp; omega))).trans (by go_simp)
  have c8a : w1.cell? ⟨w.heap.size, 8, none⟩ = some (.int .i64 c.disk) := (hb1.cell (p := ⟨w.heap.size, 8, none⟩) (by show w.heap.size < _; first | omega | (simp; done) | (simp; omega))).trans (by go_simp)
  have s0a : w1.cell? ⟨w.heap.size + 1, 0, none⟩ = some (.slice a1 s.nodes.length c1) := (hb1.cell (p := ⟨w.heap.size + 1, 0, none⟩) (by show w.heap.size + 1 < _; first | omega | (simp; done) | (simp; omega))).trans (by go_simp)
  have s1a : w1.cell? ⟨w.heap.size + 1, 1, none⟩ = some (.slice a2 s.jobs.length c2) := (hb1.cell (p := ⟨w.heap.size + 1, 1, none⟩) (by show w.heap.size + 1 < _; first | omega | (simp; done) | (simp; omega))).trans (by go_simp)
  have s2a : w1.cell? ⟨w.heap.size + 1, 2, none⟩ = some (.int .i64 s.goal) := (hb1.cell (p := ⟨w.heap.size + 1, 2, none⟩) (by show w.heap.size + 1 < _; first | omega | (simp; done) | (simp; omega))).trans (by go_simp)
  have s3a : w1.cell? ⟨w.heap.size + 1, 3, none⟩ = some (.int .i64 s.prior) := (hb1.cell (p := ⟨w.heap.size + 1, 3, none⟩) (by show w.heap.size + 1 < _; first | omega | (simp; done) | (simp; omega))).trans (by go_simp)
  have s4a : w1.cell? ⟨w.heap.size + 1, 4, none⟩ = some (.int .i64 s.mode) := (hb1.cell (p := ⟨w.heap.size + 1, 4, none⟩) (by show w.heap.size + 1 < _; first | omega | (simp; done) | (simp; omega))).trans (by go_simp)
  have s5a : w1.cell? ⟨w.heap.size + 1, 5, none⟩ = some (.int .i64 s.term) := (hb1.cell (p := ⟨w.heap.size + 1, 5, none⟩) (by show w.heap.size + 1 < _; first | omega | (simp; done) | (simp; omega))).trans (by go_simp)
  clear hb1
  go_wp2_with fail
  refine Calls.mono (right_any c s a1 a2 c1 c2 _ rb HR.out ?_ hn1 hn2) ?_
  · exact HS.out.below (B := w.heap.size) (hB1.trans (by repeat (first | (with_reducible exact Below.refl _ _) | ((with_reducible refine Below.setCell ?_ ?_ _); rotate_left 1; focus (first | omega | (simp; done) | (simp; omega))) | ((with_reducible refine Below.alloc ?_ ?_ _); rotate_left 1; focus (first | omega | (simp; done) | (simp; omega))) | (with_reducible refine Below.drew ?_) | (with_reducible refine Below.draws ?_ _) | assumption))) (by omega)
  rintro e w2 ⟨rfl, hb2⟩
  have hB2 : Below w.heap.size w w2 := hB1.trans (hb2.mono (by omega))
  have hz2 : w.heap.size + 1 < w2.heap.size := by have := hb2.size; omega
  have hz2a : w.heap.size < w2.heap.size := by omega
  have c0b : w2.cell? ⟨w.heap.size, 0, none⟩ = some (.int .i64 c.nodes) := (hb2.cell (p := ⟨w.heap.size, 0, none⟩) (by show w.heap.size < _; first | omega | (simp; done) | (simp; omega))).trans (by exact c0a)
  have c1b : w2.cell? ⟨w.heap.size, 1, none⟩ = some (.int .i64 c.queues) := (hb2.cell (p := ⟨w.heap.size, 1, none⟩) (by show w.heap.size < _; first | omega | (simp; done) | (simp; omega))).trans (by exact c1a)
  have c2b : w2.cell? ⟨w.heap.size, 2, none⟩ = some (.int .i64 c.quota) := (hb2.cell (p := ⟨w.heap.size, 2, none⟩) (by show w.heap.size < _; first | omega | (simp; done) | (simp; omega))).trans (by exact c2a)
  have c3b : w2.cell? ⟨w.heap.size, 3, none⟩ = some (.int .i64 c.wave) := (hb2.cell (p := ⟨w.heap.size, 3, none⟩) (by show w.heap.size < _; first | omega | (simp; done) | (simp; omega))).trans (by exact c3a)
  have c4b : w2.cell? ⟨w.heap.size, 4, none⟩ = some (.int .i64 c.lease) := (hb2.cell (p := ⟨w.heap.size, 4, none⟩) (by show w.heap.size < _; first | omega | (simp; done) | (simp; omega))).trans (by exact c4a)
  have c5b : w2.cell? ⟨w.heap.size, 5, none⟩ = some (.int .i64 c.retry) := (hb2.cell (p := ⟨w.heap.size, 5, none⟩) (by show w.heap.size < _; first | omega | (simp; done) | (simp; omega))).trans (by exact c5a)
  have c6b : w2.cell? ⟨w.heap.size, 6, none⟩ = some (.int .i64 c.deadline) := (hb2.cell (p := ⟨w.heap.size, 6, none⟩) (by show w.heap.size < _; first | omega | (simp; done) | (simp; omega))).trans (by exact c6a)
  have c7b : w2.cell? ⟨w.heap.size, 7, none⟩ = some (.int .i64 c.room) := (hb2.cell (p := ⟨w.heap.size, 7, none⟩) (by show w.heap.size < _; first | omega | (simp; done) | (simp; omega))).trans (by exact c7a)
  have c8b : w2.cell? ⟨w.heap.size, 8, none⟩ = some (.int .i64 c.disk) := (hb2.cell (p := ⟨w.heap.size, 8, none⟩) (by show w.heap.size < _; first | omega | (simp; done) | (simp; omega))).trans (by exact c8a)
  have s0b : w2.cell? ⟨w.heap.size + 1, 0, none⟩ = some (.slice a1 s.nodes.length c1) := (hb2.cell (p := ⟨w.heap.size + 1, 0, none⟩) (by show w.heap.size + 1 < _; first | omega | (simp; done) | (simp; omega))).trans (by exact s0a)
  have s1b : w2.cell? ⟨w.heap.size + 1, 1, none⟩ = some (.slice a2 s.jobs.length c2) := (hb2.cell (p := ⟨w.heap.size + 1, 1, none⟩) (by show w.heap.size + 1 < _; first | omega | (simp; done) | (simp; omega))).trans (by exact s1a)
  have s2b : w2.cell? ⟨w.heap.size + 1, 2, none⟩ = some (.int .i64 s.goal) := (hb2.cell (p := ⟨w.heap.size + 1, 2, none⟩) (by show w.heap.size + 1 < _; first | omega | (simp; done) | (simp; omega))).trans (by exact s2a)
  have s3b : w2.cell? ⟨w.heap.size + 1, 3, none⟩ = some (.int .i64 s.prior) := (hb2.cell (p := ⟨w.heap.size + 1, 3, none⟩) (by show w.heap.size + 1 < _; first | omega | (simp; done) | (simp; omega))).trans (by exact s3a)
  have s4b : w2.cell? ⟨w.heap.size + 1, 4, none⟩ = some (.int .i64 s.mode) := (hb2.cell (p := ⟨w.heap.size + 1, 4, none⟩) (by show w.heap.size + 1 < _; first | omega | (simp; done) | (simp; omega))).trans (by exact s4a)
  have s5b : w2.cell? ⟨w.heap.size + 1, 5, none⟩ = some (.int .i64 s.term) := (hb2.cell (p := ⟨w.heap.size + 1, 5, none⟩) (by show w.heap.size + 1 < _; first | omega | (simp; done) | (simp; omega))).trans (by exact s5a)
  clear c0a c1a c2a c3a c4a c5a c6a c7a c8a s0a s1a s2a s3a s4a s5a
  clear hz1 hz1a hB1 hb2
  cases rb with
  | false =>
    go_wp2_with fail
    all_goals (go_ret; exact ⟨rfl, hB2.trans (by repeat (first | (with_reducible exact Below.refl _ _) | ((with_reducible refine Below.setCell ?_ ?_ _); rotate_left 1; focus (first | omega | (simp; done) | (simp; omega))) | ((with_reducible refine Below.alloc ?_ ?_ _); rotate_left 1; focus (first | omega | (simp; done) | (simp; omega))) | (with_reducible refine Below.drew ?_) | (with_reducible refine Below.draws ?_ _) | assumption))⟩)
  | true =>
    have hO : Okay c s := right_ok HR.out
    have HO := Lib.hid hO
    clear hO
    go_wp2_with fail
    refine Calls.mono (time17_any now _ tb HT) ?_
    rintro e w3 ⟨rfl, hb3⟩
    have hB3 : Below w.heap.size w w3 := hB2.trans (hb3.mono (by omega))
    have hz3 : w.heap.size + 1 < w3.heap.size := by have := hb3.size; omega
    have hz3a : w.heap.size < w3.heap.size := by omega
    have c0d : w3.cell? ⟨w.heap.size, 0, none⟩ = some (.int .i64 c.nodes) := (hb3.cell (p := ⟨w.heap.size, 0, none⟩) (by show w.heap.size < _; first | omega | (simp; done) | (simp; omega))).trans (by exact c0b)
    have c1d : w3.cell? ⟨w.heap.size, 1, none⟩ = some (.int .i64 c.queues) := (hb3.cell (p := ⟨w.heap.size, 1, none⟩) (by show w.heap.size < _; first | omega | (simp; done) | (simp; omega))).trans (by exact c1b)
    have c2d : w3.cell? ⟨w.heap.size, 2, none⟩ = some (.int .i64 c.quota) := (hb3.cell (p := ⟨w.heap.size, 2, none⟩) (by show w.heap.size < _; first | omega | (simp; done) | (simp; omega))).trans (by exact c2b)
    have c3d : w3.cell? ⟨w.heap.size, 3, none⟩ = some (.int .i64 c.wave) := (hb3.cell (p := ⟨w.heap.size, 3, none⟩) (by show w.heap.size < _; first | omega | (simp; done) | (simp; omega))).trans (by exact c3b)
    have c4d : w3.cell? ⟨w.heap.size, 4, none⟩ = some (.int .i64 c.lease) := (hb3.cell (p := ⟨w.heap.size, 4, none⟩) (by show w.heap.size < _; first | omega | (simp; done) | (simp; omega))).trans (by exact c4b)
    have c5d : w3.cell? ⟨w.heap.size, 5, none⟩ = some (.int .i64 c.retry) := (hb3.cell (p := ⟨w.heap.size, 5, none⟩) (by show w.heap.size < _; first | omega | (simp; done) | (simp; omega))).trans (by exact c5b)
    have c6d : w3.cell? ⟨w.heap.size, 6, none⟩ = some (.int .i64 c.deadline) := (hb3.cell (p := ⟨w.heap.size, 6, none⟩) (by show w.heap.size < _; first | omega | (simp; done) | (simp; omega))).trans (by exact c6b)
    have c7d : w3.cell? ⟨w.heap.size, 7, none⟩ = some (.int .i64 c.room) := (hb3.cell (p := ⟨w.heap.size, 7, none⟩) (by show w.heap.size < _; first | omega | (simp; done) | (simp; omega))).trans (by exact c7b)
    have c8d : w3.cell? ⟨w.heap.size, 8, none⟩ = some (.int .i64 c.disk) := (hb3.cell (p := ⟨w.heap.size, 8, none⟩) (by show w.heap.size < _; first | omega | (simp; done) | (simp; omega))).trans (by exact c8b)
    have s0d : w3.cell? ⟨w.heap.size + 1, 0, none⟩ = some (.slice a1 s.nodes.length c1) := (hb3.cell (p := ⟨w.heap.size + 1, 0, none⟩) (by show w.heap.size + 1 < _; first | omega | (simp; done) | (simp; omega))).trans (by exact s0b)
    have s1d : w3.cell? ⟨w.heap.size + 1, 1, none⟩ = some (.slice a2 s.jobs.length c2) := (hb3.cell (p := ⟨w.heap.size + 1, 1, none⟩) (by show w.heap.size + 1 < _; first | omega | (simp; done) | (simp; omega))).trans (by exact s1b)
    have s2d : w3.cell? ⟨w.heap.size + 1, 2, none⟩ = some (.int .i64 s.goal) := (hb3.cell (p := ⟨w.heap.size + 1, 2, none⟩) (by show w.heap.size + 1 < _; first | omega | (simp; done) | (simp; omega))).trans (by exact s2b)
    have s3d : w3.cell? ⟨w.heap.size + 1, 3, none⟩ = some (.int .i64 s.prior) := (hb3.cell (p := ⟨w.heap.size + 1, 3, none⟩) (by show w.heap.size + 1 < _; first | omega | (simp; done) | (simp; omega))).trans (by exact s3b)
    have s4d : w3.cell? ⟨w.heap.size + 1, 4, none⟩ = some (.int .i64 s.mode) := (hb3.cell (p := ⟨w.heap.size + 1, 4, none⟩) (by show w.heap.size + 1 < _; first | omega | (simp; done) | (simp; omega))).trans (by exact s4b)
    have s5d : w3.cell? ⟨w.heap.size + 1, 5, none⟩ = some (.int .i64 s.term) := (hb3.cell (p := ⟨w.heap.size + 1, 5, none⟩) (by show w.heap.size + 1 < _; first | omega | (simp; done) | (simp; omega))).trans (by exact s5b)
    clear c0b c1b c2b c3b c4b c5b c6b c7b c8b s0b s1b s2b s3b s4b s5b
    clear hz2 hz2a hB2 hb3
    cases tb with
    | false =>
      go_wp2_with fail
      all_goals (go_ret; exact ⟨rfl, hB3.trans (by repeat (first | (with_reducible exact Below.refl _ _) | ((with_reducible refine Below.setCell ?_ ?_ _); rotate_left 1; focus (first | omega | (simp; done) | (simp; omega))) | ((with_reducible refine Below.alloc ?_ ?_ _); rotate_left 1; focus (first | omega | (simp; done) | (simp; omega))) | (with_reducible refine Below.drew ?_) | (with_reducible refine Below.draws ?_ _) | assumption))⟩)
    | true =>
      have hnow : 0 ≤ now ∧ now ≤ 1000000 := by simpa using HT.out
      have HN := Lib.hid hnow
      clear hnow
      go_wp2_with fail
      refine Calls.mono (next_any c s a1 a2 c1 c2 now _ nx HX.out HO.out ?_ HN.out) ?_
      · exact HS.out.below (B := w.heap.size) (hB3.trans (by repeat (first | (with_reducible exact Below.refl _ _) | ((with_reducible refine Below.setCell ?_ ?_ _); rotate_left 1; focus (first | omega | (simp; done) | (simp; omega))) | ((with_reducible refine Below.alloc ?_ ?_ _); rotate_left 1; focus (first | omega | (simp; done) | (simp; omega))) | (with_reducible refine Below.drew ?_) | (with_reducible refine Below.draws ?_ _) | assumption))) (by omega)
      rintro e w4 ⟨rfl, hb4⟩
      have hB4 : Below w.heap.size w w4 := hB3.trans (hb4.mono (by omega))
      have hz4 : w.heap.size + 1 < w4.heap.size := by have := hb4.size; omega
      have hz4a : w.heap.size < w4.heap.size := by omega
      have c0e : w4.cell? ⟨w.heap.size, 0, none⟩ = some (.int .i64 c.nodes) := (hb4.cell (p := ⟨w.heap.size, 0, none⟩) (by show w.heap.size < _; first | omega | (simp; done) | (simp; omega))).trans (by exact c0d)
      have c1e : w4.cell? ⟨w.heap.size, 1, none⟩ = some (.int .i64 c.queues) := (hb4.cell (p := ⟨w.heap.size, 1, none⟩) (by show w.heap.size < _; first | omega | (simp; done) | (simp; omega))).trans (by exact c1d)
      have c2e : w4.cell? ⟨w.heap.size, 2, none⟩ = some (.int .i64 c.quota) := (hb4.cell (p := ⟨w.heap.size, 2, none⟩) (by show w.heap.size < _; first | omega | (simp; done) | (simp; omega))).trans (by exact c2d)
      have c3e : w4.cell? ⟨w.heap.size, 3, none⟩ = some (.int .i64 c.wave) := (hb4.cell (p := ⟨w.heap.size, 3, none⟩) (by show w.heap.size < _; first | omega | (simp; done) | (simp; omega))).trans (by exact c3d)
      have c4e : w4.cell? ⟨w.heap.size, 4, none⟩ = some (.int .i64 c.lease) := (hb4.cell (p := ⟨w.heap.size, 4, none⟩) (by show w.heap.size < _; first | omega | (simp; done) | (simp; omega))).trans (by exact c4d)
      have c5e : w4.cell? ⟨w.heap.size, 5, none⟩ = some (.int .i64 c.retry) := (hb4.cell (p := ⟨w.heap.size, 5, none⟩) (by show w.heap.size < _; first | omega | (simp; done) | (simp; omega))).trans (by exact c5d)
      have c6e : w4.cell? ⟨w.heap.size, 6, none⟩ = some (.int .i64 c.deadline) := (hb4.cell (p := ⟨w.heap.size, 6, none⟩) (by show w.heap.size < _; first | omega | (simp; done) | (simp; omega))).trans (by exact c6d)
      have c7e : w4.cell? ⟨w.heap.size, 7, none⟩ = some (.int .i64 c.room) := (hb4.cell (p := ⟨w.heap.size, 7, none⟩) (by show w.heap.size < _; first | omega | (simp; done) | (simp; omega))).trans (by exact c7d)
      have c8e : w4.cell? ⟨w.heap.size, 8, none⟩ = some (.int .i64 c.disk) := (hb4.cell (p := ⟨w.heap.size, 8, none⟩) (by show w.heap.size < _; first | omega | (simp; done) | (simp; omega))).trans (by exact c8d)
      have s0e : w4.cell? ⟨w.heap.size + 1, 0, none⟩ = some (.slice a1 s.nodes.length c1) := (hb4.cell (p := ⟨w.heap.size + 1, 0, none⟩) (by show w.heap.size + 1 < _; first | omega | (simp; done) | (simp; omega))).trans (by exact s0d)
      have s1e : w4.cell? ⟨w.heap.size + 1, 1, none⟩ = some (.slice a2 s.jobs.length c2) := (hb4.cell (p := ⟨w.heap.size + 1, 1, none⟩) (by show w.heap.size + 1 < _; first | omega | (simp; done) | (simp; omega))).trans (by exact s1d)
      have s2e : w4.cell? ⟨w.heap.size + 1, 2, none⟩ = some (.int .i64 s.goal) := (hb4.cell (p := ⟨w.heap.size + 1, 2, none⟩) (by show w.heap.size + 1 < _; first | omega | (simp; done) | (simp; omega))).trans (by exact s2d)
      have s3e : w4.cell? ⟨w.heap.size + 1, 3, none⟩ = some (.int .i64 s.prior) := (hb4.cell (p := ⟨w.heap.size + 1, 3, none⟩) (by show w.heap.size + 1 < _; first | omega | (simp; done) | (simp; omega))).trans (by exact s3d)
      have s4e : w4.cell? ⟨w.heap.size + 1, 4, none⟩ = some (.int .i64 s.mode) := (hb4.cell (p := ⟨w.heap.size + 1, 4, none⟩) (by show w.heap.size + 1 < _; first | omega | (simp; done) | (simp; omega))).trans (by exact s4d)
      have s5e : w4.cell? ⟨w.heap.size + 1, 5, none⟩ = some (.int .i64 s.term) := (hb4.cell (p := ⟨w.heap.size + 1, 5, none⟩) (by show w.heap.size + 1 < _; first | omega | (simp; done) | (simp; omega))).trans (by exact s5d)
      clear c0d c1d c2d c3d c4d c5d c6d c7d c8d s0d s1d s2d s3d s4d s5d
      clear hz3 hz3a hB3 hb4
      obtain ⟨o, b, hob⟩ : ∃ o b, optV nx = opOkV o b := by cases nx <;> exact ⟨_, _, rfl⟩
      have HOB := Lib.hid hob
      rw [hob]
      clear hob
      obtain ⟨k0, k1, k2, k3, k4, k5, k6⟩ := o
      go_wp2_with fail
      refine Calls.mono (nextR_any c s a1 a2 c1 c2 now _ nx HX.out HO.out ?_ HN.out) ?_
      · exact HS.out.below (B := w.heap.size) (hB4.trans (by repeat (first | (with_reducible exact Below.refl _ _) | ((with_reducible refine Below.setCell ?_ ?_ _); rotate_left 1; focus (first | omega | (simp; done) | (simp; omega))) | ((with_reducible refine Below.alloc ?_ ?_ _); rotate_left 1; focus (first | omega | (simp; done) | (simp; omega))) | (with_reducible refine Below.drew ?_) | (with_reducible refine Below.draws ?_ _) | assumption))) (by omega)
      rintro e w5 ⟨rfl, hb5⟩
      rw [HOB.out]
      have hB5 : Below w.heap.size w w5 := (hB4.trans (by repeat (first | (with_reducible exact Below.refl _ _) | ((with_reducible refine Below.setCell ?_ ?_ _); rotate_left 1; focus (first | omega | (simp; done) | (simp; omega))) | ((with_reducible refine Below.alloc ?_ ?_ _); rotate_left 1; focus (first | omega | (simp; done) | (simp; omega))) | (with_reducible refine Below.drew ?_) | (with_reducible refine Below.draws ?_ _) | assumption)) : Below w.heap.size w _).trans (hb5.mono (by first | omega | (simp; omega)))
      have hz5 : w4.heap.size < w5.heap.size := by have := hb5.size; first | omega | (simp at this; omega)
      have o0 : w5.cell? ⟨w4.heap.size, 0, none⟩ = some (.int .i64 k0) := (hb5.cell (p := ⟨w4.heap.size, 0, none⟩) (by show w4.heap.size < _; first | omega | (simp; done) | (simp; omega))).trans (by go_simp)
      have o1 : w5.cell? ⟨w4.heap.size, 1, none⟩ = some (.int .i64 k1) := (hb5.cell (p := ⟨w4.heap.size, 1, none⟩) (by show w4.heap.size < _; first | omega | (simp; done) | (simp; omega))).trans (by go_simp)
      have o2 : w5.cell? ⟨w4.heap.size, 2, none⟩ = some (.int .i64 k2) := (hb5.cell (p := ⟨w4.heap.size, 2, none⟩) (by show w4.heap.size < _; first | omega | (simp; done) | (simp; omega))).trans (by go_simp)
      have o3 : w5.cell? ⟨w4.heap.size, 3, none⟩ = some (.int .i64 k3) := (hb5.cell (p := ⟨w4.heap.size, 3, none⟩) (by show w4.heap.size < _; first | omega | (simp; done) | (simp; omega))).trans (by go_simp)
      have o4 : w5.cell? ⟨w4.heap.size, 4, none⟩ = some (.int .i64 k4) := (hb5.cell (p := ⟨w4.heap.size, 4, none⟩) (by show w4.heap.size < _; first | omega | (simp; done) | (simp; omega))).trans (by go_simp)
      have o5 : w5.cell? ⟨w4.heap.size, 5, none⟩ = some (.int .i64 k5) := (hb5.cell (p := ⟨w4.heap.size, 5, none⟩) (by show w4.heap.size < _; first | omega | (simp; done) | (simp; omega))).trans (by go_simp)
      have o6 : w5.cell? ⟨w4.heap.size, 6, none⟩ = some (.int .i64 k6) := (hb5.cell (p := ⟨w4.heap.size, 6, none⟩) (by show w4.heap.size < _; first | omega | (simp; done) | (simp; omega))).trans (by go_simp)
      go_wp2_with fail
      all_goals (go_ret; exact ⟨rfl, hB5.trans (by repeat (first | (with_reducible exact Below.refl _ _) | ((with_reducible refine Below.setCell ?_ ?_ _); rotate_left 1; focus (first | omega | (simp; done) | (simp; omega))) | ((with_reducible refine Below.alloc ?_ ?_ _); rotate_left 1; focus (first | omega | (simp; done) | (simp; omega))) | (with_reducible refine Below.drew ?_) | (with_reducible refine Below.draws ?_ _) | assumption))⟩)
end Go.Proofs.Ytclgmpflmeopmaa
