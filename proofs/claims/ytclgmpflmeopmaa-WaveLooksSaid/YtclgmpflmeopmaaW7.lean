import Derived.Test.YtclgmpflmeopmaaW6
set_option linter.unusedVariables false
set_option linter.unusedSimpArgs false
namespace Go.Proofs.Ytclgmpflmeopmaa
open Go.RowKit Dun

def optV : Option OpD → Value
  | some o => opOkV o true
  | none => opOkV zeroOp false

set_option maxHeartbeats 4000000 in
theorem clear_c (c : ConfD) (s : StateD) (a1 a2 : Option Addr) (c1 c2 : Nat) (now : Int) (k : Nat) (hk : k < s.nodes.length) (w : World) (hO : Okay c s) (hS : StateAt w s a1 a2) (hnow : 0 ≤ now ∧ now ≤ 1000000) (hco : (s.nodes.getD k zeroNode).cordon = false) :
    Calls Try.prog 41 #[viewV c s a1 a2 c1 c2 now, .int .i64 (k : Int)] w (Ret w (opOkV zeroOp false)) := by
  have hn6 : s.nodes.length ≤ 6 := by have := hO.nodes; have := hO.conf; omega
  have hk2 : ¬ s.nodes.length ≤ k := by omega
  have HO := Lib.hid hO
  have HS := Lib.hid hS
  obtain ⟨b, o, nd, HM, hb, hix, d0, d1, d2, d3, d4⟩ := node_at hS.nodes hk
  have hb0 : b ≠ w.heap.size := by omega
  rw [← HM.out] at hco
  clear hO hS HO HS
  obtain ⟨e0, e1, e2, e3, e4⟩ := nd
  dsimp only at *
  subst hco
  go_enter Try.func41, Try.ntmps41
  go_wp2
  exact bodyPost_ret (v := opOkV zeroOp false) (by simp [results, Try.results41, go_sem, zeroOp]) rfl ⟨rfl, (by repeat (first | (with_reducible exact Below.refl _ _) | ((with_reducible refine Below.setCell ?_ ?_ _); rotate_left 1; focus (first | omega | (simp; done) | (simp; omega))) | ((with_reducible refine Below.alloc ?_ ?_ _); rotate_left 1; focus (first | omega | (simp; done) | (simp; omega))) | (with_reducible refine Below.drew ?_) | (with_reducible refine Below.draws ?_ _) | assumption))⟩

set_option maxHeartbeats 4000000 in
theorem clear_b (c : ConfD) (s : StateD) (a1 a2 : Option Addr) (c1 c2 : Nat) (now : Int) (k : Nat) (hk : k < s.nodes.length) (w : World) (hO : Okay c s) (hS : StateAt w s a1 a2) (hnow : 0 ≤ now ∧ now ≤ 1000000) (hco : (s.nodes.getD k zeroNode).cordon = true) (hbh : behindB s (s.nodes.getD k zeroNode) = false) :
    Calls Try.prog 41 #[viewV c s a1 a2 c1 c2 now, .int .i64 (k : Int)] w (Ret w (opOkV zeroOp false)) := by
  have hn6 : s.nodes.length ≤ 6 := by have := hO.nodes; have := hO.conf; omega
  have hk2 : ¬ s.nodes.length ≤ k := by omega
  have HO := Lib.hid hO
  have HS := Lib.hid hS
  obtain ⟨b, o, nd, HM, hb, hix, d0, d1, d2, d3, d4⟩ := node_at hS.nodes hk
  have hb0 : b ≠ w.heap.size := by omega
  rw [← HM.out] at hco hbh
  have HBH := Lib.hid hbh
  clear hO hS hbh
  obtain ⟨e0, e1, e2, e3, e4⟩ := nd
  dsimp only at *
  subst hco
  have OB0 : OpBox (((w.alloc (.cells #[.int .i64 c.nodes, .int .i64 c.queues, .int .i64 c.quota, .int .i64 c.wave, .int .i64 c.lease, .int .i64 c.retry, .int .i64 c.deadline, .int .i64 c.room, .int .i64 c.disk, .slice a1 s.nodes.length c1, .slice a2 s.jobs.length c2, .int .i64 s.goal, .int .i64 s.prior, .int .i64 s.mode, .int .i64 s.term, .int .i64 now] 64)).alloc (.cells #[.int .i64 0, .int .i64 0, .int .i64 0, .int .i64 0, .int .i64 0, .int .i64 0, .int .i64 0] 42)).alloc (.cells #[.bool e0, .bool true, .bool e2, .int .i64 e3, .int .i64 e4] 55)) (w.heap.size + 1) zeroOp := OpBox.kept (K := w.heap.size + 1 + 1) (by have := OpBox.new (w.alloc (.cells #[.int .i64 c.nodes, .int .i64 c.queues, .int .i64 c.quota, .int .i64 c.wave, .int .i64 c.lease, .int .i64 c.retry, .int .i64 c.deadline, .int .i64 c.room, .int .i64 c.disk, .slice a1 s.nodes.length c1, .slice a2 s.jobs.length c2, .int .i64 s.goal, .int .i64 s.prior, .int .i64 s.mode, .int .i64 s.term, .int .i64 now] 64)); simpa using this) (Below.alloc (Below.refl _ _) (by simp) _) (by omega)
  go_enter Try.func41, Try.ntmps41
  go_wp2_with fail
  refine (behind_any s a1 a2 c1 c2 ⟨e0, true, e2, e3, e4⟩ _ false HBH.out).mono ?_
  rintro e w2 ⟨rfl, hb2⟩
  obtain ⟨hc2, hf2⟩ := bcell hb2
  have hB2 : Below w.heap.size w w2 := ((by repeat (first | (with_reducible exact Below.refl _ _) | ((with_reducible refine Below.setCell ?_ ?_ _); rotate_left 1; focus (first | omega | (simp; done) | (simp; omega))) | ((with_reducible refine Below.alloc ?_ ?_ _); rotate_left 1; focus (first | omega | (simp; done) | (simp; omega))) | (with_reducible refine Below.drew ?_) | (with_reducible refine Below.draws ?_ _) | assumption)) : Below w.heap.size w _).trans (hb2.mono (by first | omega | (simp; done) | (simp; omega)))
  have hz := hb2.size
  simp only [World.size_alloc] at hz
  have hs2 : w.heap.size < w2.heap.size := by omega
  have hs3 : w.heap.size + 1 < w2.heap.size := by omega
  have hs4 : w.heap.size + 1 + 1 < w2.heap.size := by omega
  have OB := OB0.kept hb2 (by simp)
  go_wp2
  exact bodyPost_ret (v := opOkV zeroOp false) (res_opok rfl _ _ (w.heap.size + 1) zeroOp false rfl (OB.set zeroOp) rfl) rfl ⟨rfl, hB2.trans (by repeat (first | (with_reducible exact Below.refl _ _) | ((with_reducible refine Below.setCell ?_ ?_ _); rotate_left 1; focus (first | omega | (simp; done) | (simp; omega))) | ((with_reducible refine Below.alloc ?_ ?_ _); rotate_left 1; focus (first | omega | (simp; done) | (simp; omega))) | (with_reducible refine Below.drew ?_) | (with_reducible refine Below.draws ?_ _) | assumption))⟩

set_option maxHeartbeats 4000000 in
theorem clear_a (c : ConfD) (s : StateD) (a1 a2 : Option Addr) (c1 c2 : Nat) (now : Int) (k : Nat) (hk : k < s.nodes.length) (w : World) (hO : Okay c s) (hS : StateAt w s a1 a2) (hnow : 0 ≤ now ∧ now ≤ 1000000) (hco : (s.nodes.getD k zeroNode).cordon = true) (hbh : behindB s (s.nodes.getD k zeroNode) = true) (hal : aloneN s (s.nodes.getD k zeroNode) = true) :
    Calls Try.prog 41 #[viewV c s a1 a2 c1 c2 now, .int .i64 (k : Int)] w (Ret w (opOkV zeroOp false)) := by
  have hn6 : s.nodes.length ≤ 6 := by have := hO.nodes; have := hO.conf; omega
  have hk2 : ¬ s.nodes.length ≤ k := by omega
  have HO := Lib.hid hO
  have HS := Lib.hid hS
  obtain ⟨b, o, nd, HM, hb, hix, d0, d1, d2, d3, d4⟩ := node_at hS.nodes hk
  have hb0 : b ≠ w.heap.size := by omega
  rw [← HM.out] at hco hbh hal
  have HBH := Lib.hid hbh
  have HAL := Lib.hid hal
  clear hO hS hbh hal
  obtain ⟨e0, e1, e2, e3, e4⟩ := nd
  dsimp only at *
  subst hco
  have OB0 : OpBox (((w.alloc (.cells #[.int .i64 c.nodes, .int .i64 c.queues, .int .i64 c.quota, .int .i64 c.wave, .int .i64 c.lease, .int .i64 c.retry, .int .i64 c.deadline, .int .i64 c.room, .int .i64 c.disk, .slice a1 s.nodes.length c1, .slice a2 s.jobs.length c2, .int .i64 s.goal, .int .i64 s.prior, .int .i64 s.mode, .int .i64 s.term, .int .i64 now] 64)).alloc (.cells #[.int .i64 0, .int .i64 0, .int .i64 0, .int .i64 0, .int .i64 0, .int .i64 0, .int .i64 0] 42)).alloc (.cells #[.bool e0, .bool true, .bool e2, .int .i64 e3, .int .i64 e4] 55)) (w.heap.size + 1) zeroOp := OpBox.kept (K := w.heap.size + 1 + 1) (by have := OpBox.new (w.alloc (.cells #[.int .i64 c.nodes, .int .i64 c.queues, .int .i64 c.quota, .int .i64 c.wave, .int .i64 c.lease, .int .i64 c.retry, .int .i64 c.deadline, .int .i64 c.room, .int .i64 c.disk, .slice a1 s.nodes.length c1, .slice a2 s.jobs.length c2, .int .i64 s.goal, .int .i64 s.prior, .int .i64 s.mode, .int .i64 s.term, .int .i64 now] 64)); simpa using this) (Below.alloc (Below.refl _ _) (by simp) _) (by omega)
  go_enter Try.func41, Try.ntmps41
  go_wp2_with fail
  refine (behind_any s a1 a2 c1 c2 ⟨e0, true, e2, e3, e4⟩ _ true HBH.out).mono ?_
  rintro e w2 ⟨rfl, hb2⟩
  obtain ⟨hc2, hf2⟩ := bcell hb2
  have hB2 : Below w.heap.size w w2 := ((by repeat (first | (with_reducible exact Below.refl _ _) | ((with_reducible refine Below.setCell ?_ ?_ _); rotate_left 1; focus (first | omega | (simp; done) | (simp; omega))) | ((with_reducible refine Below.alloc ?_ ?_ _); rotate_left 1; focus (first | omega | (simp; done) | (simp; omega))) | (with_reducible refine Below.drew ?_) | (with_reducible refine Below.draws ?_ _) | assumption)) : Below w.heap.size w _).trans (hb2.mono (by first | omega | (simp; done) | (simp; omega)))
  have hz := hb2.size
  simp only [World.size_alloc] at hz
  have hs2 : w.heap.size < w2.heap.size := by omega
  have hs3 : w.heap.size + 1 < w2.heap.size := by omega
  have hs4 : w.heap.size + 1 + 1 < w2.heap.size := by omega
  have OB := OB0.kept hb2 (by simp)
  go_wp2_with fail
  refine Calls.mono (alone_at c s a1 a2 c1 c2 k hk _ true (by rw [← HM.out]; exact HAL.out) HO.out ?_) ?_
  · exact HS.out.below hB2 (Nat.le_refl _)
  rintro e w3 ⟨rfl, hb3⟩
  obtain ⟨hc3, hf3⟩ := bcell hb3
  have hB3 : Below w.heap.size w w3 := hB2.trans (hb3.mono (by omega))
  have hz3 := hb3.size
  have hs5 : w.heap.size < w3.heap.size := by omega
  have hs6 : w.heap.size + 1 < w3.heap.size := by omega
  have hs7 : w.heap.size + 1 + 1 < w3.heap.size := by omega
  have OB3 := OB.kept hb3 hs3
  go_wp2
  exact bodyPost_ret (v := opOkV zeroOp false) (res_opok rfl _ _ (w.heap.size + 1) zeroOp false rfl (OB3.set zeroOp) rfl) rfl ⟨rfl, hB3.trans (by repeat (first | (with_reducible exact Below.refl _ _) | ((with_reducible refine Below.setCell ?_ ?_ _); rotate_left 1; focus (first | omega | (simp; done) | (simp; omega))) | ((with_reducible refine Below.alloc ?_ ?_ _); rotate_left 1; focus (first | omega | (simp; done) | (simp; omega))) | (with_reducible refine Below.drew ?_) | (with_reducible refine Below.draws ?_ _) | assumption))⟩

set_option maxHeartbeats 4000000 in
theorem clear_0 (c : ConfD) (s : StateD) (a1 a2 : Option Addr) (c1 c2 : Nat) (now : Int) (k : Nat) (hk : k < s.nodes.length) (w : World) (hO : Okay c s) (hS : StateAt w s a1 a2) (hnow : 0 ≤ now ∧ now ≤ 1000000) (hco : (s.nodes.getD k zeroNode).cordon = true) (hbh : behindB s (s.nodes.getD k zeroNode) = true) (hal : aloneN s (s.nodes.getD k zeroNode) = false) (hj0 : (s.nodes.getD k zeroNode).job = 0) :
    Calls Try.prog 41 #[viewV c s a1 a2 c1 c2 now, .int .i64 (k : Int)] w (Ret w (opOkV ⟨18, k, 0, 0, 0, 0, 0⟩ true)) := by
  have hn6 : s.nodes.length ≤ 6 := by have := hO.nodes; have := hO.conf; omega
  have hk2 : ¬ s.nodes.length ≤ k := by omega
  have HO := Lib.hid hO
  have HS := Lib.hid hS
  obtain ⟨b, o, nd, HM, hb, hix, d0, d1, d2, d3, d4⟩ := node_at hS.nodes hk
  have hb0 : b ≠ w.heap.size := by omega
  rw [← HM.out] at hco hbh hal hj0
  have HBH := Lib.hid hbh
  have HAL := Lib.hid hal
  clear hO hS hbh hal
  obtain ⟨e0, e1, e2, e3, e4⟩ := nd
  dsimp only at *
  subst hco
  subst hj0
  have OB0 : OpBox (((w.alloc (.cells #[.int .i64 c.nodes, .int .i64 c.queues, .int .i64 c.quota, .int .i64 c.wave, .int .i64 c.lease, .int .i64 c.retry, .int .i64 c.deadline, .int .i64 c.room, .int .i64 c.disk, .slice a1 s.nodes.length c1, .slice a2 s.jobs.length c2, .int .i64 s.goal, .int .i64 s.prior, .int .i64 s.mode, .int .i64 s.term, .int .i64 now] 64)).alloc (.cells #[.int .i64 0, .int .i64 0, .int .i64 0, .int .i64 0, .int .i64 0, .int .i64 0, .int .i64 0] 42)).alloc (.cells #[.bool e0, .bool true, .bool e2, .int .i64 e3, .int .i64 0] 55)) (w.heap.size + 1) zeroOp := OpBox.kept (K := w.heap.size + 1 + 1) (by have := OpBox.new (w.alloc (.cells #[.int .i64 c.nodes, .int .i64 c.queues, .int .i64 c.quota, .int .i64 c.wave, .int .i64 c.lease, .int .i64 c.retry, .int .i64 c.deadline, .int .i64 c.room, .int .i64 c.disk, .slice a1 s.nodes.length c1, .slice a2 s.jobs.length c2, .int .i64 s.goal, .int .i64 s.prior, .int .i64 s.mode, .int .i64 s.term, .int .i64 now] 64)); simpa using this) (Below.alloc (Below.refl _ _) (by simp) _) (by omega)
  go_enter Try.func41, Try.ntmps41
  go_wp2_with fail
  refine (behind_any s a1 a2 c1 c2 ⟨e0, true, e2, e3, 0⟩ _ true HBH.out).mono ?_
  rintro e w2 ⟨rfl, hb2⟩
  obtain ⟨hc2, hf2⟩ := bcell hb2
  have hB2 : Below w.heap.size w w2 := ((by repeat (first | (with_reducible exact Below.refl _ _) | ((with_reducible refine Below.setCell ?_ ?_ _); rotate_left 1; focus (first | omega | (simp; done) | (simp; omega))) | ((with_reducible refine Below.alloc ?_ ?_ _); rotate_left 1; focus (first | omega | (simp; done) | (simp; omega))) | (with_reducible refine Below.drew ?_) | (with_reducible refine Below.draws ?_ _) | assumption)) : Below w.heap.size w _).trans (hb2.mono (by first | omega | (simp; done) | (simp; omega)))
  have hz := hb2.size
  simp only [World.size_alloc] at hz
  have hs2 : w.heap.size < w2.heap.size := by omega
  have hs3 : w.heap.size + 1 < w2.heap.size := by omega
  have hs4 : w.heap.size + 1 + 1 < w2.heap.size := by omega
  have OB := OB0.kept hb2 (by simp)
  go_wp2_with fail
  refine Calls.mono (alone_at c s a1 a2 c1 c2 k hk _ false (by rw [← HM.out]; exact HAL.out) HO.out ?_) ?_
  · exact HS.out.below hB2 (Nat.le_refl _)
  rintro e w3 ⟨rfl, hb3⟩
  obtain ⟨hc3, hf3⟩ := bcell hb3
  have hB3 : Below w.heap.size w w3 := hB2.trans (hb3.mono (by omega))
  have hz3 := hb3.size
  have hs5 : w.heap.size < w3.heap.size := by omega
  have hs6 : w.heap.size + 1 < w3.heap.size := by omega
  have hs7 : w.heap.size + 1 + 1 < w3.heap.size := by omega
  have OB3 := OB.kept hb3 hs3
  go_wp2
  exact bodyPost_ret (v := opOkV ⟨18, k, 0, 0, 0, 0, 0⟩ true) (res_opok rfl _ _ (w.heap.size + 1) ⟨18, k, 0, 0, 0, 0, 0⟩ true rfl (OB3.set ⟨18, k, 0, 0, 0, 0, 0⟩) rfl) rfl ⟨rfl, hB3.trans (by repeat (first | (with_reducible exact Below.refl _ _) | ((with_reducible refine Below.setCell ?_ ?_ _); rotate_left 1; focus (first | omega | (simp; done) | (simp; omega))) | ((with_reducible refine Below.alloc ?_ ?_ _); rotate_left 1; focus (first | omega | (simp; done) | (simp; omega))) | (with_reducible refine Below.drew ?_) | (with_reducible refine Below.draws ?_ _) | assumption))⟩

end Go.Proofs.Ytclgmpflmeopmaa
