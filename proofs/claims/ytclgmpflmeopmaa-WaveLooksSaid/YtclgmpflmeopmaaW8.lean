import Derived.Test.YtclgmpflmeopmaaW7
set_option linter.unusedVariables false
set_option linter.unusedSimpArgs false
namespace Go.Proofs.Ytclgmpflmeopmaa
open Go.RowKit Dun

theorem OpBox.alloc {W : World} {B : Nat} {o : OpD} (h : OpBox W B o) (hB : B < W.heap.size) (X : Obj) : OpBox (W.alloc X) B o :=
  fun i v hv => by rw [World.cell?_alloc_lt _ _ _ (by exact hB)]; exact h i v hv
theorem OpBox.drawsN {W : World} {B : Nat} {o : OpD} (h : OpBox W B o) (n : Nat) : OpBox (W.drewN n) B o := h
theorem OpBox.draw {W : World} {B : Nat} {o : OpD} (h : OpBox W B o) : OpBox W.drew B o := h

set_option maxHeartbeats 4000000 in
theorem clear_1 (c : ConfD) (s : StateD) (a1 a2 : Option Addr) (c1 c2 : Nat) (now : Int) (k : Nat) (hk : k < s.nodes.length) (w : World) (hO : Okay c s) (hS : StateAt w s a1 a2) (hnow : 0 ≤ now ∧ now ≤ 1000000) (q : Nat) (hql : q < s.jobs.length) (hco : (s.nodes.getD k zeroNode).cordon = true) (hbh : behindB s (s.nodes.getD k zeroNode) = true) (hal : aloneN s (s.nodes.getD k zeroNode) = false) (hjq : (s.nodes.getD k zeroNode).job = (q : Int) + 1) (hp : (s.jobs.getD q zeroJob).phase = 1) :
    Calls Try.prog 41 #[viewV c s a1 a2 c1 c2 now, .int .i64 (k : Int)] w (Ret w (opOkV ⟨11, q + 1, 0, 0, 0, 0, 0⟩ true)) := by
  have hn6 : s.nodes.length ≤ 6 := by have := hO.nodes; have := hO.conf; omega
  have hk2 : ¬ s.nodes.length ≤ k := by omega
  have HO := Lib.hid hO
  have HS := Lib.hid hS
  obtain ⟨b, o, nd, HM, hb, hix, d0, d1, d2, d3, d4⟩ := node_at hS.nodes hk
  have hb0 : b ≠ w.heap.size := by omega
  rw [← HM.out] at hco hbh hal hjq
  have HBH := Lib.hid hbh
  have HAL := Lib.hid hal
  have hl24 := hO.jobs
  have hcf := hO.conf
  have hpb := hO.job hql
  have hbits := hO.bits hql
  obtain ⟨jj, hjj⟩ : ∃ j, j = s.jobs.getD q zeroJob := ⟨_, rfl⟩
  rw [← hjj] at hpb hbits hp
  have HJJ := Lib.hid hjj
  clear hO hS hbh hal hjj
  obtain ⟨e0, e1, e2, e3, e4⟩ := nd
  dsimp only at *
  subst hco
  subst hjq
  have hj0 : ((q : Int) + 1 == 0) = false := by simp; omega
  have hq1 : (q : Int) + 1 - 1 = q := by omega
  have OB0 : OpBox (((w.alloc (.cells #[.int .i64 c.nodes, .int .i64 c.queues, .int .i64 c.quota, .int .i64 c.wave, .int .i64 c.lease, .int .i64 c.retry, .int .i64 c.deadline, .int .i64 c.room, .int .i64 c.disk, .slice a1 s.nodes.length c1, .slice a2 s.jobs.length c2, .int .i64 s.goal, .int .i64 s.prior, .int .i64 s.mode, .int .i64 s.term, .int .i64 now] 64)).alloc (.cells #[.int .i64 0, .int .i64 0, .int .i64 0, .int .i64 0, .int .i64 0, .int .i64 0, .int .i64 0] 42)).alloc (.cells #[.bool e0, .bool true, .bool e2, .int .i64 e3, .int .i64 ((q : Int) + 1)] 55)) (w.heap.size + 1) zeroOp := OpBox.kept (K := w.heap.size + 1 + 1) (by have := OpBox.new (w.alloc (.cells #[.int .i64 c.nodes, .int .i64 c.queues, .int .i64 c.quota, .int .i64 c.wave, .int .i64 c.lease, .int .i64 c.retry, .int .i64 c.deadline, .int .i64 c.room, .int .i64 c.disk, .slice a1 s.nodes.length c1, .slice a2 s.jobs.length c2, .int .i64 s.goal, .int .i64 s.prior, .int .i64 s.mode, .int .i64 s.term, .int .i64 now] 64)); simpa using this) (Below.alloc (Below.refl _ _) (by simp) _) (by omega)
  go_enter Try.func41, Try.ntmps41
  go_wp2_with fail
  refine (behind_any s a1 a2 c1 c2 ⟨e0, true, e2, e3, (q : Int) + 1⟩ _ true HBH.out).mono ?_
  rintro e w2 ⟨rfl, hb2⟩
  obtain ⟨hc2, hf2⟩ := bcell hb2
  have hB2 : Below w.heap.size w w2 := ((by repeat (first | (with_reducible exact Below.refl _ _) | ((with_reducible refine Below.setCell ?_ ?_ _); rotate_left 1; focus (first | omega | (simp; done) | (simp; omega))) | ((with_reducible refine Below.alloc ?_ ?_ _); rotate_left 1; focus (first | omega | (simp; done) | (simp; omega))) | (with_reducible refine Below.drew ?_) | (with_reducible refine Below.draws ?_ _) | assumption)) : Below w.heap.size w _).trans (hb2.mono (by first | omega | (simp; done) | (simp; omega)))
  have hz := hb2.size
  simp only [World.size_alloc] at hz
  have hs2 : w.heap.size < w2.heap.size := by omega
  have hs3 : w.heap.size + 1 < w2.heap.size := by omega
  have hs4 : w.heap.size + 1 + 1 < w2.heap.size := by omega
  have OB := OB0.kept hb2 (by simp)
  go_wp2_with fail
  refine Calls.mono (alone_at c s a1 a2 c1 c2 k hk _ false (by rw [← HM.out]; exact HAL.out) HO.out ?_) ?_
  · exact HS.out.below hB2 (Nat.le_refl _)
  rintro e w3 ⟨rfl, hb3⟩
  obtain ⟨hc3, hf3⟩ := bcell hb3
  have hB3 : Below w.heap.size w w3 := hB2.trans (hb3.mono (by omega))
  have hz3 := hb3.size
  have hs5 : w.heap.size < w3.heap.size := by omega
  have hs6 : w.heap.size + 1 < w3.heap.size := by omega
  have hs7 : w.heap.size + 1 + 1 < w3.heap.size := by omega
  have OB3 := OB.kept hb3 hs3
  obtain ⟨bj, oj, j, HJ, hbj, hixj, j0, j1, j2, j3, j4, j5, j6, j7, j8, j9, j10, j11⟩ := job_at (HS.out.below hB3 (Nat.le_refl _)).jobs hql
  obtain rfl : j = jj := by rw [HJ.out, HJJ.out]
  clear HJ HJJ
  have hbj0 : bj ≠ w3.heap.size := by omega
  obtain ⟨y0, y1, y2, y3, y4, y5, y6, y7, y8, y9, y10, y11⟩ := j
  dsimp only at *
  subst hp
  go_wp2
  exact bodyPost_ret (v := opOkV ⟨11, q + 1, 0, 0, 0, 0, 0⟩ true) (res_opok rfl _ _ (w.heap.size + 1) ⟨11, q + 1, 0, 0, 0, 0, 0⟩ true rfl (by show OpBox _ _ _; repeat (first | (with_reducible exact OB3) | (with_reducible refine OpBox.set (o := zeroOp) ?_ ⟨11, q + 1, 0, 0, 0, 0, 0⟩) | ((with_reducible refine OpBox.alloc ?_ ?_ _); rotate_left 1; focus (first | omega | (simp; done) | (simp; omega))) | (with_reducible refine OpBox.drawsN ?_ _) | (with_reducible refine OpBox.draw ?_))) rfl) rfl ⟨rfl, hB3.trans (by repeat (first | (with_reducible exact Below.refl _ _) | ((with_reducible refine Below.setCell ?_ ?_ _); rotate_left 1; focus (first | omega | (simp; done) | (simp; omega))) | ((with_reducible refine Below.alloc ?_ ?_ _); rotate_left 1; focus (first | omega | (simp; done) | (simp; omega))) | (with_reducible refine Below.drew ?_) | (with_reducible refine Below.draws ?_ _) | assumption))⟩

set_option maxHeartbeats 4000000 in
theorem clear_n (c : ConfD) (s : StateD) (a1 a2 : Option Addr) (c1 c2 : Nat) (now : Int) (k : Nat) (hk : k < s.nodes.length) (w : World) (hO : Okay c s) (hS : StateAt w s a1 a2) (hnow : 0 ≤ now ∧ now ≤ 1000000) (q : Nat) (hql : q < s.jobs.length) (hco : (s.nodes.getD k zeroNode).cordon = true) (hbh : behindB s (s.nodes.getD k zeroNode) = true) (hal : aloneN s (s.nodes.getD k zeroNode) = false) (hjq : (s.nodes.getD k zeroNode).job = (q : Int) + 1) (hp1 : (s.jobs.getD q zeroJob).phase ≠ 1) (hp2 : (s.jobs.getD q zeroJob).phase ≠ 2) :
    Calls Try.prog 41 #[viewV c s a1 a2 c1 c2 now, .int .i64 (k : Int)] w (Ret w (opOkV zeroOp false)) := by
  have hn6 : s.nodes.length ≤ 6 := by have := hO.nodes; have := hO.conf; omega
  have hk2 : ¬ s.nodes.length ≤ k := by omega
  have HO := Lib.hid hO
  have HS := Lib.hid hS
  obtain ⟨b, o, nd, HM, hb, hix, d0, d1, d2, d3, d4⟩ := node_at hS.nodes hk
  have hb0 : b ≠ w.heap.size := by omega
  rw [← HM.out] at hco hbh hal hjq
  have HBH := Lib.hid hbh
  have HAL := Lib.hid hal
  have hl24 := hO.jobs
  have hcf := hO.conf
  have hpb := hO.job hql
  have hbits := hO.bits hql
  obtain ⟨jj, hjj⟩ : ∃ j, j = s.jobs.getD q zeroJob := ⟨_, rfl⟩
  rw [← hjj] at hpb hbits hp1 hp2
  have HJJ := Lib.hid hjj
  clear hO hS hbh hal hjj
  obtain ⟨e0, e1, e2, e3, e4⟩ := nd
  dsimp only at *
  subst hco
  subst hjq
  have hj0 : ((q : Int) + 1 == 0) = false := by simp; omega
  have hq1 : (q : Int) + 1 - 1 = q := by omega
  have OB0 : OpBox (((w.alloc (.cells #[.int .i64 c.nodes, .int .i64 c.queues, .int .i64 c.quota, .int .i64 c.wave, .int .i64 c.lease, .int .i64 c.retry, .int .i64 c.deadline, .int .i64 c.room, .int .i64 c.disk, .slice a1 s.nodes.length c1, .slice a2 s.jobs.length c2, .int .i64 s.goal, .int .i64 s.prior, .int .i64 s.mode, .int .i64 s.term, .int .i64 now] 64)).alloc (.cells #[.int .i64 0, .int .i64 0, .int .i64 0, .int .i64 0, .int .i64 0, .int .i64 0, .int .i64 0] 42)).alloc (.cells #[.bool e0, .bool true, .bool e2, .int .i64 e3, .int .i64 ((q : Int) + 1)] 55)) (w.heap.size + 1) zeroOp := OpBox.kept (K := w.heap.size + 1 + 1) (by have := OpBox.new (w.alloc (.cells #[.int .i64 c.nodes, .int .i64 c.queues, .int .i64 c.quota, .int .i64 c.wave, .int .i64 c.lease, .int .i64 c.retry, .int .i64 c.deadline, .int .i64 c.room, .int .i64 c.disk, .slice a1 s.nodes.length c1, .slice a2 s.jobs.length c2, .int .i64 s.goal, .int .i64 s.prior, .int .i64 s.mode, .int .i64 s.term, .int .i64 now] 64)); simpa using this) (Below.alloc (Below.refl _ _) (by simp) _) (by omega)
  go_enter Try.func41, Try.ntmps41
  go_wp2_with fail
  refine (behind_any s a1 a2 c1 c2 ⟨e0, true, e2, e3, (q : Int) + 1⟩ _ true HBH.out).mono ?_
  rintro e w2 ⟨rfl, hb2⟩
  obtain ⟨hc2, hf2⟩ := bcell hb2
  have hB2 : Below w.heap.size w w2 := ((by repeat (first | (with_reducible exact Below.refl _ _) | ((with_reducible refine Below.setCell ?_ ?_ _); rotate_left 1; focus (first | omega | (simp; done) | (simp; omega))) | ((with_reducible refine Below.alloc ?_ ?_ _); rotate_left 1; focus (first | omega | (simp; done) | (simp; omega))) | (with_reducible refine Below.drew ?_) | (with_reducible refine Below.draws ?_ _) | assumption)) : Below w.heap.size w _).trans (hb2.mono (by first | omega | (simp; done) | (simp; omega)))
  have hz := hb2.size
  simp only [World.size_alloc] at hz
  have hs2 : w.heap.size < w2.heap.size := by omega
  have hs3 : w.heap.size + 1 < w2.heap.size := by omega
  have hs4 : w.heap.size + 1 + 1 < w2.heap.size := by omega
  have OB := OB0.kept hb2 (by simp)
  go_wp2_with fail
  refine Calls.mono (alone_at c s a1 a2 c1 c2 k hk _ false (by rw [← HM.out]; exact HAL.out) HO.out ?_) ?_
  · exact HS.out.below hB2 (Nat.le_refl _)
  rintro e w3 ⟨rfl, hb3⟩
  obtain ⟨hc3, hf3⟩ := bcell hb3
  have hB3 : Below w.heap.size w w3 := hB2.trans (hb3.mono (by omega))
  have hz3 := hb3.size
  have hs5 : w.heap.size < w3.heap.size := by omega
  have hs6 : w.heap.size + 1 < w3.heap.size := by omega
  have hs7 : w.heap.size + 1 + 1 < w3.heap.size := by omega
  have OB3 := OB.kept hb3 hs3
  obtain ⟨bj, oj, j, HJ, hbj, hixj, j0, j1, j2, j3, j4, j5, j6, j7, j8, j9, j10, j11⟩ := job_at (HS.out.below hB3 (Nat.le_refl _)).jobs hql
  obtain rfl : j = jj := by rw [HJ.out, HJJ.out]
  clear HJ HJJ
  have hbj0 : bj ≠ w3.heap.size := by omega
  obtain ⟨y0, y1, y2, y3, y4, y5, y6, y7, y8, y9, y10, y11⟩ := j
  dsimp only at *
  have hp1' : (y6 == 1) = false := by simpa using hp1
  have hp2' : (y6 == 2) = false := by simpa using hp2
  clear hp1 hp2
  go_wp2_with fail
  go_quiet (fail)
  go_wp2_with fail
  go_quiet (fail)
  go_wp2
  exact bodyPost_ret (v := opOkV zeroOp false) (res_opok rfl _ _ (w.heap.size + 1) ⟨0, 0, 0, 0, 0, 0, 0⟩ false rfl (by show OpBox _ _ _; repeat (first | (with_reducible exact OB3) | (with_reducible refine OpBox.set (o := zeroOp) ?_ ⟨0, 0, 0, 0, 0, 0, 0⟩) | ((with_reducible refine OpBox.alloc ?_ ?_ _); rotate_left 1; focus (first | omega | (simp; done) | (simp; omega))) | (with_reducible refine OpBox.drawsN ?_ _) | (with_reducible refine OpBox.draw ?_))) rfl) rfl ⟨rfl, hB3.trans (by repeat (first | (with_reducible exact Below.refl _ _) | ((with_reducible refine Below.setCell ?_ ?_ _); rotate_left 1; focus (first | omega | (simp; done) | (simp; omega))) | ((with_reducible refine Below.alloc ?_ ?_ _); rotate_left 1; focus (first | omega | (simp; done) | (simp; omega))) | (with_reducible refine Below.drew ?_) | (with_reducible refine Below.draws ?_ _) | assumption))⟩

set_option maxHeartbeats 4000000 in
theorem clear_m (c : ConfD) (s : StateD) (a1 a2 : Option Addr) (c1 c2 : Nat) (now : Int) (k : Nat) (hk : k < s.nodes.length) (w : World) (hO : Okay c s) (hS : StateAt w s a1 a2) (hnow : 0 ≤ now ∧ now ≤ 1000000) (q : Nat) (hql : q < s.jobs.length) (hco : (s.nodes.getD k zeroNode).cordon = true) (hbh : behindB s (s.nodes.getD k zeroNode) = true) (hal : aloneN s (s.nodes.getD k zeroNode) = false) (hjq : (s.nodes.getD k zeroNode).job = (q : Int) + 1) (hp : (s.jobs.getD q zeroJob).phase = 2) (hm : (s.jobs.getD q zeroJob).min < many ((s.jobs.getD q zeroJob).nodes % 64)) :
    Calls Try.prog 41 #[viewV c s a1 a2 c1 c2 now, .int .i64 (k : Int)] w (Ret w (opOkV ⟨20, q + 1, k, 0, 0, 0, 0⟩ true)) := by
  have hn6 : s.nodes.length ≤ 6 := by have := hO.nodes; have := hO.conf; omega
  have hk2 : ¬ s.nodes.length ≤ k := by omega
  have HO := Lib.hid hO
  have HS := Lib.hid hS
  obtain ⟨b, o, nd, HM, hb, hix, d0, d1, d2, d3, d4⟩ := node_at hS.nodes hk
  have hb0 : b ≠ w.heap.size := by omega
  rw [← HM.out] at hco hbh hal hjq
  have HBH := Lib.hid hbh
  have HAL := Lib.hid hal
  have hl24 := hO.jobs
  have hcf := hO.conf
  have hpb := hO.job hql
  have hbits := hO.bits hql
  obtain ⟨jj, hjj⟩ : ∃ j, j = s.jobs.getD q zeroJob := ⟨_, rfl⟩
  rw [← hjj] at hpb hbits hp hm
  have HJJ := Lib.hid hjj
  clear hO hS hbh hal hjj
  obtain ⟨e0, e1, e2, e3, e4⟩ := nd
  dsimp only at *
  subst hco
  subst hjq
  have hj0 : ((q : Int) + 1 == 0) = false := by simp; omega
  have hq1 : (q : Int) + 1 - 1 = q := by omega
  have OB0 : OpBox (((w.alloc (.cells #[.int .i64 c.nodes, .int .i64 c.queues, .int .i64 c.quota, .int .i64 c.wave, .int .i64 c.lease, .int .i64 c.retry, .int .i64 c.deadline, .int .i64 c.room, .int .i64 c.disk, .slice a1 s.nodes.length c1, .slice a2 s.jobs.length c2, .int .i64 s.goal, .int .i64 s.prior, .int .i64 s.mode, .int .i64 s.term, .int .i64 now] 64)).alloc (.cells #[.int .i64 0, .int .i64 0, .int .i64 0, .int .i64 0, .int .i64 0, .int .i64 0, .int .i64 0] 42)).alloc (.cells #[.bool e0, .bool true, .bool e2, .int .i64 e3, .int .i64 ((q : Int) + 1)] 55)) (w.heap.size + 1) zeroOp := OpBox.kept (K := w.heap.size + 1 + 1) (by have := OpBox.new (w.alloc (.cells #[.int .i64 c.nodes, .int .i64 c.queues, .int .i64 c.quota, .int .i64 c.wave, .int .i64 c.lease, .int .i64 c.retry, .int .i64 c.deadline, .int .i64 c.room, .int .i64 c.disk, .slice a1 s.nodes.length c1, .slice a2 s.jobs.length c2, .int .i64 s.goal, .int .i64 s.prior, .int .i64 s.mode, .int .i64 s.term, .int .i64 now] 64)); simpa using this) (Below.alloc (Below.refl _ _) (by simp) _) (by omega)
  go_enter Try.func41, Try.ntmps41
  go_wp2_with fail
  refine (behind_any s a1 a2 c1 c2 ⟨e0, true, e2, e3, (q : Int) + 1⟩ _ true HBH.out).mono ?_
  rintro e w2 ⟨rfl, hb2⟩
  obtain ⟨hc2, hf2⟩ := bcell hb2
  have hB2 : Below w.heap.size w w2 := ((by repeat (first | (with_reducible exact Below.refl _ _) | ((with_reducible refine Below.setCell ?_ ?_ _); rotate_left 1; focus (first | omega | (simp; done) | (simp; omega))) | ((with_reducible refine Below.alloc ?_ ?_ _); rotate_left 1; focus (first | omega | (simp; done) | (simp; omega))) | (with_reducible refine Below.drew ?_) | (with_reducible refine Below.draws ?_ _) | assumption)) : Below w.heap.size w _).trans (hb2.mono (by first | omega | (simp; done) | (simp; omega)))
  have hz := hb2.size
  simp only [World.size_alloc] at hz
  have hs2 : w.heap.size < w2.heap.size := by omega
  have hs3 : w.heap.size + 1 < w2.heap.size := by omega
  have hs4 : w.heap.size + 1 + 1 < w2.heap.size := by omega
  have OB := OB0.kept hb2 (by simp)
  go_wp2_with fail
  refine Calls.mono (alone_at c s a1 a2 c1 c2 k hk _ false (by rw [← HM.out]; exact HAL.out) HO.out ?_) ?_
  · exact HS.out.below hB2 (Nat.le_refl _)
  rintro e w3 ⟨rfl, hb3⟩
  obtain ⟨hc3, hf3⟩ := bcell hb3
  have hB3 : Below w.heap.size w w3 := hB2.trans (hb3.mono (by omega))
  have hz3 := hb3.size
  have hs5 : w.heap.size < w3.heap.size := by omega
  have hs6 : w.heap.size + 1 < w3.heap.size := by omega
  have hs7 : w.heap.size + 1 + 1 < w3.heap.size := by omega
  have OB3 := OB.kept hb3 hs3
  obtain ⟨bj, oj, j, HJ, hbj, hixj, j0, j1, j2, j3, j4, j5, j6, j7, j8, j9, j10, j11⟩ := job_at (HS.out.below hB3 (Nat.le_refl _)).jobs hql
  obtain rfl : j = jj := by rw [HJ.out, HJJ.out]
  clear HJ HJJ
  have hbj0 : bj ≠ w3.heap.size := by omega
  obtain ⟨y0, y1, y2, y3, y4, y5, y6, y7, y8, y9, y10, y11⟩ := j
  dsimp only at *
  subst hp
  have hmd : decide (y2 < many (y8 % 64)) = true := by simpa using hm
  go_wp2_with fail
  go_quiet ((go_at_call 54; exact Calls.qs (count_any _ _ (by omega) (by omega))))
  go_wp2
  exact bodyPost_ret (v := opOkV ⟨20, q + 1, k, 0, 0, 0, 0⟩ true) (res_opok rfl _ _ (w.heap.size + 1) ⟨20, q + 1, k, 0, 0, 0, 0⟩ true rfl (by show OpBox _ _ _; repeat (first | (with_reducible exact OB3) | (with_reducible refine OpBox.set (o := zeroOp) ?_ ⟨20, q + 1, k, 0, 0, 0, 0⟩) | ((with_reducible refine OpBox.alloc ?_ ?_ _); rotate_left 1; focus (first | omega | (simp; done) | (simp; omega))) | (with_reducible refine OpBox.drawsN ?_ _) | (with_reducible refine OpBox.draw ?_))) rfl) rfl ⟨rfl, hB3.trans (by repeat (first | (with_reducible exact Below.refl _ _) | ((with_reducible refine Below.setCell ?_ ?_ _); rotate_left 1; focus (first | omega | (simp; done) | (simp; omega))) | ((with_reducible refine Below.alloc ?_ ?_ _); rotate_left 1; focus (first | omega | (simp; done) | (simp; omega))) | (with_reducible refine Below.drew ?_) | (with_reducible refine Below.draws ?_ _) | assumption))⟩

end Go.Proofs.Ytclgmpflmeopmaa
