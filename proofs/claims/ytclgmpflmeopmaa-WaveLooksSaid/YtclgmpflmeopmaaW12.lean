import Derived.Test.YtclgmpflmeopmaaW11
set_option linter.unusedVariables false
set_option linter.unusedSimpArgs false
namespace Go.Proofs.Ytclgmpflmeopmaa
open Go.RowKit Dun

set_option maxHeartbeats 1000000 in
theorem drainsR_any (s : StateD) (a1 a2 : Option Addr) (c1 c2 : Nat) (q : Int) (w : World) (hS : StateAt w s a1 a2) (hn : s.jobs.length ≤ 1000000) :
    Calls Try.prog 56 #[stateV s a1 a2 c1 c2, .int .i64 q] w (Ret w (.int .i64 (drainsL s.jobs q))) := by
  have hJ := hS.jobs
  clear hS
  obtain ⟨ns, js, g, p, m, t⟩ := s
  dsimp only [stateV] at hJ hn ⊢
  have HJ := Lib.hid hJ
  clear hJ
  obtain ⟨r, hr⟩ : ∃ r, r = drainsL js q := ⟨_, rfl⟩
  rw [← hr]
  have HR := Lib.hid hr
  clear hr
  obtain ⟨n, hnn⟩ : ∃ n, n = js.length := ⟨_, rfl⟩
  rw [← hnn] at hn ⊢
  have HN := Lib.hid hnn
  clear hnn
  go_enter Try.func56, Try.ntmps56
  go_wp2
  go_loopw [5, 6] (fun x i wr => ∃ k : Nat, k ≤ n ∧ i = .int .i64 k ∧ x = .int .i64 (drainsL (js.take k) q) ∧ Below (w.heap.size + 1) (w.alloc (.cells #[.slice a1 ns.length c1, .slice a2 n c2, .int .i64 g, .int .i64 p, .int .i64 m, .int .i64 t] 33)) wr) (fun _ i _ => n - (intOf i).toNat)
  case atStart => exact ⟨0, Nat.zero_le _, rfl, by simp [drainsL], Below.refl _ _⟩
  case round =>
    obtain ⟨k, hk, rfl, rfl, hB⟩ := hrel
    have hd := drainsL_le (js.take k) q
    have hd2 : (js.take k).length ≤ k := List.length_take_le _ _
    have hcr : ∀ o, wr.cell? ⟨w.heap.size, o, none⟩ = (w.alloc (.cells #[.slice a1 ns.length c1, .slice a2 n c2, .int .i64 g, .int .i64 p, .int .i64 m, .int .i64 t] 33)).cell? ⟨w.heap.size, o, none⟩ := fun o => hB.cell (p := ⟨w.heap.size, o, none⟩) (Nat.lt_succ_self _)
    by_cases hlt : k < n
    · have hsn := drainsL_snoc (js.take k) (js.getD k zeroJob) q
      rw [← take_snoc js k zeroJob (by have := HN.out; omega)] at hsn
      have HS := Lib.hid hsn
      clear hsn
      have hsz := hB.size
      simp only [World.size_alloc] at hsz
      have hJr : RowsAt wr a2 12 n (fun k => jobVals (js.getD k zeroJob)) := HN.out ▸ HJ.out.below (((by repeat (first | (with_reducible exact Below.refl _ _) | ((with_reducible refine Below.setCell ?_ ?_ _); rotate_left 1; focus (first | omega | (simp; done) | (simp; omega))) | ((with_reducible refine Below.alloc ?_ ?_ _); rotate_left 1; focus (first | omega | (simp; done) | (simp; omega))) | (with_reducible refine Below.drew ?_) | (with_reducible refine Below.draws ?_ _) | assumption)) : Below w.heap.size w _).trans (hB.mono (by omega))) (Nat.le_refl _)
      obtain ⟨b, o, j, HM, hb, hix, d0, d1, d2, d3, d4, d5, d6, d7, d8, d9, d10, d11⟩ := job_at hJr hlt
      clear hJr
      rw [← HM.out] at HS
      clear HM
      obtain ⟨y0, y1, y2, y3, y4, y5, y6, y7, y8, y9, y10, y11⟩ := j
      dsimp only at *
      go_wp2
      all_goals
        go_roundw
        case rel => exact ⟨k + 1, by omega, by go_num, by rw [HS.out]; simp_all, by exact hB.trans (by repeat (first | (with_reducible exact Below.refl _ _) | ((with_reducible refine Below.setCell ?_ ?_ _); rotate_left 1; focus (first | omega | (simp; done) | (simp; omega))) | ((with_reducible refine Below.alloc ?_ ?_ _); rotate_left 1; focus (first | omega | (simp; done) | (simp; omega))) | (with_reducible refine Below.drew ?_) | (with_reducible refine Below.draws ?_ _) | assumption))⟩
        case measure => simp [intOf]; omega
    · obtain rfl : k = n := by omega
      go_wp2
      go_ret
      exact ⟨ret_int (by rw [HR.out, HN.out, List.take_length]), ((by repeat (first | (with_reducible exact Below.refl _ _) | ((with_reducible refine Below.setCell ?_ ?_ _); rotate_left 1; focus (first | omega | (simp; done) | (simp; omega))) | ((with_reducible refine Below.alloc ?_ ?_ _); rotate_left 1; focus (first | omega | (simp; done) | (simp; omega))) | (with_reducible refine Below.drew ?_) | (with_reducible refine Below.draws ?_ _) | assumption)) : Below w.heap.size w _).trans (hB.mono (by omega))⟩
set_option maxHeartbeats 4000000 in
theorem sec_0 (c : ConfD) (s : StateD) (a1 a2 : Option Addr) (c1 c2 : Nat) (now : Int) (k : Nat) (hk : k < s.nodes.length) (w : World) (hO : Okay c s) (hS : StateAt w s a1 a2) (hnow : 0 ≤ now ∧ now ≤ 1000000) (hj0 : (s.nodes.getD k zeroNode).job = 0) :
    Calls Try.prog 43 #[confV c, stateV s a1 a2 c1 c2, .int .i64 (k : Int), .int .i64 now] w (Ret w (opOkV ⟨18, k, 0, 0, 0, 0, 0⟩ true)) := by
  have hn6 : s.nodes.length ≤ 6 := by have := hO.nodes; have := hO.conf; omega
  have hk2 : ¬ s.nodes.length ≤ k := by omega
  have HO := Lib.hid hO
  have HS := Lib.hid hS
  obtain ⟨b, o, nd, HM, hb, hix, d0, d1, d2, d3, d4⟩ := node_at hS.nodes hk
  have hb0 : b ≠ w.heap.size := by omega
  have hba : b < w.heap.size + 1 := by omega
  have hbb : b < w.heap.size + 1 + 1 := by omega
  have hbc : b < w.heap.size + 1 + 1 + 1 := by omega
  rw [← HM.out] at hj0
  clear hO hS HO HS HM
  obtain ⟨e0, e1, e2, e3, e4⟩ := nd
  dsimp only at *
  subst hj0
  go_enter Try.func43, Try.ntmps43
  go_wp2
  exact bodyPost_ret (v := opOkV ⟨18, k, 0, 0, 0, 0, 0⟩ true) (by simp [results, Try.results43, go_sem]) rfl ⟨rfl, (by repeat (first | (with_reducible exact Below.refl _ _) | ((with_reducible refine Below.setCell ?_ ?_ _); rotate_left 1; focus (first | omega | (simp; done) | (simp; omega))) | ((with_reducible refine Below.alloc ?_ ?_ _); rotate_left 1; focus (first | omega | (simp; done) | (simp; omega))) | (with_reducible refine Below.drew ?_) | (with_reducible refine Below.draws ?_ _) | assumption))⟩
set_option maxHeartbeats 4000000 in
theorem sec_1 (c : ConfD) (s : StateD) (a1 a2 : Option Addr) (c1 c2 : Nat) (now : Int) (k : Nat) (hk : k < s.nodes.length) (w : World) (hO : Okay c s) (hS : StateAt w s a1 a2) (hnow : 0 ≤ now ∧ now ≤ 1000000) (q : Nat) (hql : q < s.jobs.length) (hjq : (s.nodes.getD k zeroNode).job = (q : Int) + 1) (hp : (s.jobs.getD q zeroJob).phase = 1) :
    Calls Try.prog 43 #[confV c, stateV s a1 a2 c1 c2, .int .i64 (k : Int), .int .i64 now] w (Ret w (opOkV ⟨11, q + 1, 0, 0, 0, 0, 0⟩ true)) := by
  have hn6 : s.nodes.length ≤ 6 := by have := hO.nodes; have := hO.conf; omega
  have hk2 : ¬ s.nodes.length ≤ k := by omega
  have HO := Lib.hid hO
  have HS := Lib.hid hS
  obtain ⟨b, o, nd, HM, hb, hix, d0, d1, d2, d3, d4⟩ := node_at hS.nodes hk
  have hb0 : b ≠ w.heap.size := by omega
  have hba : b < w.heap.size + 1 := by omega
  have hbb : b < w.heap.size + 1 + 1 := by omega
  have hbc : b < w.heap.size + 1 + 1 + 1 := by omega
  rw [← HM.out] at hjq
  have hl24 := hO.jobs
  have hcf := hO.conf
  have hbits := hO.bits hql
  obtain ⟨bj, oj, j, HJ, hbj, hixj, j0, j1, j2, j3, j4, j5, j6, j7, j8, j9, j10, j11⟩ := job_at hS.jobs hql
  rw [← HJ.out] at hbits hp
  clear hO hS HJ HM
  have hbj0 : bj ≠ w.heap.size := by omega
  have hbja : bj < w.heap.size + 1 := by omega
  have hbjb : bj < w.heap.size + 1 + 1 := by omega
  have hbjc : bj < w.heap.size + 1 + 1 + 1 := by omega
  have hbjd : bj < w.heap.size + 1 + 1 + 1 + 1 := by omega
  obtain ⟨e0, e1, e2, e3, e4⟩ := nd
  obtain ⟨y0, y1, y2, y3, y4, y5, y6, y7, y8, y9, y10, y11⟩ := j
  dsimp only at *
  subst hjq
  have hj0 : ((q : Int) + 1 == 0) = false := by simp; omega
  have hq1 : (q : Int) + 1 - 1 = q := by omega
  subst hp
  go_enter Try.func43, Try.ntmps43
  go_wp2
  exact bodyPost_ret (v := opOkV ⟨11, q + 1, 0, 0, 0, 0, 0⟩ true) (by simp [results, Try.results43, go_sem]) rfl ⟨rfl, (by repeat (first | (with_reducible exact Below.refl _ _) | ((with_reducible refine Below.setCell ?_ ?_ _); rotate_left 1; focus (first | omega | (simp; done) | (simp; omega))) | ((with_reducible refine Below.alloc ?_ ?_ _); rotate_left 1; focus (first | omega | (simp; done) | (simp; omega))) | (with_reducible refine Below.drew ?_) | (with_reducible refine Below.draws ?_ _) | assumption))⟩

set_option maxHeartbeats 4000000 in
theorem sec_n (c : ConfD) (s : StateD) (a1 a2 : Option Addr) (c1 c2 : Nat) (now : Int) (k : Nat) (hk : k < s.nodes.length) (w : World) (hO : Okay c s) (hS : StateAt w s a1 a2) (hnow : 0 ≤ now ∧ now ≤ 1000000) (q : Nat) (hql : q < s.jobs.length) (hjq : (s.nodes.getD k zeroNode).job = (q : Int) + 1) (hp1 : (s.jobs.getD q zeroJob).phase ≠ 1) (hp2 : (s.jobs.getD q zeroJob).phase ≠ 2) :
    Calls Try.prog 43 #[confV c, stateV s a1 a2 c1 c2, .int .i64 (k : Int), .int .i64 now] w (Ret w (opOkV zeroOp false)) := by
  have hn6 : s.nodes.length ≤ 6 := by have := hO.nodes; have := hO.conf; omega
  have hk2 : ¬ s.nodes.length ≤ k := by omega
  have HO := Lib.hid hO
  have HS := Lib.hid hS
  obtain ⟨b, o, nd, HM, hb, hix, d0, d1, d2, d3, d4⟩ := node_at hS.nodes hk
  have hb0 : b ≠ w.heap.size := by omega
  have hba : b < w.heap.size + 1 := by omega
  have hbb : b < w.heap.size + 1 + 1 := by omega
  have hbc : b < w.heap.size + 1 + 1 + 1 := by omega
  rw [← HM.out] at hjq
  have hl24 := hO.jobs
  have hcf := hO.conf
  have hbits := hO.bits hql
  obtain ⟨bj, oj, j, HJ, hbj, hixj, j0, j1, j2, j3, j4, j5, j6, j7, j8, j9, j10, j11⟩ := job_at hS.jobs hql
  rw [← HJ.out] at hbits hp1 hp2
  clear hO hS HJ HM
  have hbj0 : bj ≠ w.heap.size := by omega
  have hbja : bj < w.heap.size + 1 := by omega
  have hbjb : bj < w.heap.size + 1 + 1 := by omega
  have hbjc : bj < w.heap.size + 1 + 1 + 1 := by omega
  have hbjd : bj < w.heap.size + 1 + 1 + 1 + 1 := by omega
  obtain ⟨e0, e1, e2, e3, e4⟩ := nd
  obtain ⟨y0, y1, y2, y3, y4, y5, y6, y7, y8, y9, y10, y11⟩ := j
  dsimp only at *
  subst hjq
  have hj0 : ((q : Int) + 1 == 0) = false := by simp; omega
  have hq1 : (q : Int) + 1 - 1 = q := by omega
  have hp1' : (y6 == 1) = false := by simpa using hp1
  have hp2' : (y6 != 2) = true := by simpa using hp2
  clear hp1 hp2
  go_enter Try.func43, Try.ntmps43
  go_wp2
  exact bodyPost_ret (v := opOkV zeroOp false) (by simp [results, Try.results43, go_sem, zeroOp]) rfl ⟨rfl, (by repeat (first | (with_reducible exact Below.refl _ _) | ((with_reducible refine Below.setCell ?_ ?_ _); rotate_left 1; focus (first | omega | (simp; done) | (simp; omega))) | ((with_reducible refine Below.alloc ?_ ?_ _); rotate_left 1; focus (first | omega | (simp; done) | (simp; omega))) | (with_reducible refine Below.drew ?_) | (with_reducible refine Below.draws ?_ _) | assumption))⟩

set_option maxHeartbeats 4000000 in
theorem sec_m (c : ConfD) (s : StateD) (a1 a2 : Option Addr) (c1 c2 : Nat) (now : Int) (k : Nat) (hk : k < s.nodes.length) (w : World) (hO : Okay c s) (hS : StateAt w s a1 a2) (hnow : 0 ≤ now ∧ now ≤ 1000000) (q : Nat) (hql : q < s.jobs.length) (hjq : (s.nodes.getD k zeroNode).job = (q : Int) + 1) (hp : (s.jobs.getD q zeroJob).phase = 2) (hm : (s.jobs.getD q zeroJob).min < many (s.jobs.getD q zeroJob).nodes) :
    Calls Try.prog 43 #[confV c, stateV s a1 a2 c1 c2, .int .i64 (k : Int), .int .i64 now] w (Ret w (opOkV ⟨20, q + 1, k, 0, 0, 0, 0⟩ true)) := by
  have hn6 : s.nodes.length ≤ 6 := by have := hO.nodes; have := hO.conf; omega
  have hk2 : ¬ s.nodes.length ≤ k := by omega
  have HO := Lib.hid hO
  have HS := Lib.hid hS
  obtain ⟨b, o, nd, HM, hb, hix, d0, d1, d2, d3, d4⟩ := node_at hS.nodes hk
  have hb0 : b ≠ w.heap.size := by omega
  have hba : b < w.heap.size + 1 := by omega
  have hbb : b < w.heap.size + 1 + 1 := by omega
  have hbc : b < w.heap.size + 1 + 1 + 1 := by omega
  rw [← HM.out] at hjq
  have hl24 := hO.jobs
  have hcf := hO.conf
  have hbits := hO.bits hql
  obtain ⟨bj, oj, j, HJ, hbj, hixj, j0, j1, j2, j3, j4, j5, j6, j7, j8, j9, j10, j11⟩ := job_at hS.jobs hql
  rw [← HJ.out] at hbits hp hm
  clear hO hS HJ HM
  have hbj0 : bj ≠ w.heap.size := by omega
  have hbja : bj < w.heap.size + 1 := by omega
  have hbjb : bj < w.heap.size + 1 + 1 := by omega
  have hbjc : bj < w.heap.size + 1 + 1 + 1 := by omega
  have hbjd : bj < w.heap.size + 1 + 1 + 1 + 1 := by omega
  obtain ⟨e0, e1, e2, e3, e4⟩ := nd
  obtain ⟨y0, y1, y2, y3, y4, y5, y6, y7, y8, y9, y10, y11⟩ := j
  dsimp only at *
  subst hjq
  have hj0 : ((q : Int) + 1 == 0) = false := by simp; omega
  have hq1 : (q : Int) + 1 - 1 = q := by omega
  subst hp
  have hmd : decide (y2 < many y8) = true := by simpa using hm
  have OB : OpBox (((((w.alloc (.cells #[.int .i64 c.nodes, .int .i64 c.queues, .int .i64 c.quota, .int .i64 c.wave, .int .i64 c.lease, .int .i64 c.retry, .int .i64 c.deadline, .int .i64 c.room, .int .i64 c.disk] 29)).alloc (.cells #[.slice a1 s.nodes.length c1, .slice a2 s.jobs.length c2, .int .i64 s.goal, .int .i64 s.prior, .int .i64 s.mode, .int .i64 s.term] 33)).alloc (.cells #[.int .i64 0, .int .i64 0, .int .i64 0, .int .i64 0, .int .i64 0, .int .i64 0, .int .i64 0] 42)).alloc (.cells #[.bool e0, .bool e1, .bool e2, .int .i64 e3, .int .i64 ((q : Int) + 1)] 55)).alloc (.cells #[.int .i64 y0, .int .i64 y1, .int .i64 y2, .int .i64 y3, .int .i64 y4, .int .i64 y5, .int .i64 2, .int .i64 y7, .int .i64 y8, .int .i64 y9, .int .i64 y10, .int .i64 y11] 47)) (w.heap.size + 1 + 1) zeroOp := OpBox.alloc (OpBox.alloc (by have := OpBox.new ((w.alloc (.cells #[.int .i64 c.nodes, .int .i64 c.queues, .int .i64 c.quota, .int .i64 c.wave, .int .i64 c.lease, .int .i64 c.retry, .int .i64 c.deadline, .int .i64 c.room, .int .i64 c.disk] 29)).alloc (.cells #[.slice a1 s.nodes.length c1, .slice a2 s.jobs.length c2, .int .i64 s.goal, .int .i64 s.prior, .int .i64 s.mode, .int .i64 s.term] 33)); simpa using this) (by first | omega | (simp; done) | (simp; omega)) _) (by first | omega | (simp; done) | (simp; omega)) _
  go_enter Try.func43, Try.ntmps43
  go_wp2_with fail
  go_quiet ((go_at_call 55; exact Calls.qs (many_any _ _)))
  go_wp2

  exact bodyPost_ret (v := opOkV ⟨20, q + 1, k, 0, 0, 0, 0⟩ true) (res_opok rfl _ _ (w.heap.size + 1 + 1) ⟨20, q + 1, k, 0, 0, 0, 0⟩ true rfl (by show OpBox _ _ _; repeat (first | (with_reducible exact OB) | (with_reducible apply OpBox.set (o' := ⟨20, q + 1, k, 0, 0, 0, 0⟩)) | ((with_reducible apply OpBox.alloc); rotate_left 1; focus (first | omega | (simp; done) | (simp; omega))) | (with_reducible apply OpBox.drawsN) | (with_reducible apply OpBox.draw))) rfl) rfl ⟨rfl, (by repeat (first | (with_reducible exact Below.refl _ _) | ((with_reducible refine Below.setCell ?_ ?_ _); rotate_left 1; focus (first | omega | (simp; done) | (simp; omega))) | ((with_reducible refine Below.alloc ?_ ?_ _); rotate_left 1; focus (first | omega | (simp; done) | (simp; omega))) | (with_reducible refine Below.drew ?_) | (with_reducible refine Below.draws ?_ _) | assumption))⟩

set_option maxHeartbeats 4000000 in
theorem sec_q (c : ConfD) (s : StateD) (a1 a2 : Option Addr) (c1 c2 : Nat) (now : Int) (k : Nat) (hk : k < s.nodes.length) (w : World) (hO : Okay c s) (hS : StateAt w s a1 a2) (hnow : 0 ≤ now ∧ now ≤ 1000000) (q : Nat) (hql : q < s.jobs.length) (hjq : (s.nodes.getD k zeroNode).job = (q : Int) + 1) (hp : (s.jobs.getD q zeroJob).phase = 2) (hm : ¬ (s.jobs.getD q zeroJob).min < many (s.jobs.getD q zeroJob).nodes) (hd : ¬ drainsL s.jobs (s.jobs.getD q zeroJob).queue < c.quota) :
    Calls Try.prog 43 #[confV c, stateV s a1 a2 c1 c2, .int .i64 (k : Int), .int .i64 now] w (Ret w (opOkV zeroOp false)) := by
  have hn6 : s.nodes.length ≤ 6 := by have := hO.nodes; have := hO.conf; omega
  have hk2 : ¬ s.nodes.length ≤ k := by omega
  have HO := Lib.hid hO
  have HS := Lib.hid hS
  obtain ⟨b, o, nd, HM, hb, hix, d0, d1, d2, d3, d4⟩ := node_at hS.nodes hk
  have hb0 : b ≠ w.heap.size := by omega
  have hba : b < w.heap.size + 1 := by omega
  have hbb : b < w.heap.size + 1 + 1 := by omega
  have hbc : b < w.heap.size + 1 + 1 + 1 := by omega
  rw [← HM.out] at hjq
  have hl24 := hO.jobs
  have hcf := hO.conf
  have hbits := hO.bits hql
  obtain ⟨bj, oj, j, HJ, hbj, hixj, j0, j1, j2, j3, j4, j5, j6, j7, j8, j9, j10, j11⟩ := job_at hS.jobs hql
  rw [← HJ.out] at hbits hp hm hd
  clear hO hS HJ HM
  have hbj0 : bj ≠ w.heap.size := by omega
  have hbja : bj < w.heap.size + 1 := by omega
  have hbjb : bj < w.heap.size + 1 + 1 := by omega
  have hbjc : bj < w.heap.size + 1 + 1 + 1 := by omega
  have hbjd : bj < w.heap.size + 1 + 1 + 1 + 1 := by omega
  obtain ⟨e0, e1, e2, e3, e4⟩ := nd
  obtain ⟨y0, y1, y2, y3, y4, y5, y6, y7, y8, y9, y10, y11⟩ := j
  dsimp only at *
  subst hjq
  have hj0 : ((q : Int) + 1 == 0) = false := by simp; omega
  have hq1 : (q : Int) + 1 - 1 = q := by omega
  subst hp
  have hdd : decide (c.quota ≤ drainsL s.jobs y0) = true := by simp; omega
  have hmd : decide (y2 < many y8) = false := by simpa using hm
  have OB : OpBox (((((w.alloc (.cells #[.int .i64 c.nodes, .int .i64 c.queues, .int .i64 c.quota, .int .i64 c.wave, .int .i64 c.lease, .int .i64 c.retry, .int .i64 c.deadline, .int .i64 c.room, .int .i64 c.disk] 29)).alloc (.cells #[.slice a1 s.nodes.length c1, .slice a2 s.jobs.length c2, .int .i64 s.goal, .int .i64 s.prior, .int .i64 s.mode, .int .i64 s.term] 33)).alloc (.cells #[.int .i64 0, .int .i64 0, .int .i64 0, .int .i64 0, .int .i64 0, .int .i64 0, .int .i64 0] 42)).alloc (.cells #[.bool e0, .bool e1, .bool e2, .int .i64 e3, .int .i64 ((q : Int) + 1)] 55)).alloc (.cells #[.int .i64 y0, .int .i64 y1, .int .i64 y2, .int .i64 y3, .int .i64 y4, .int .i64 y5, .int .i64 2, .int .i64 y7, .int .i64 y8, .int .i64 y9, .int .i64 y10, .int .i64 y11] 47)) (w.heap.size + 1 + 1) zeroOp := OpBox.alloc (OpBox.alloc (by have := OpBox.new ((w.alloc (.cells #[.int .i64 c.nodes, .int .i64 c.queues, .int .i64 c.quota, .int .i64 c.wave, .int .i64 c.lease, .int .i64 c.retry, .int .i64 c.deadline, .int .i64 c.room, .int .i64 c.disk] 29)).alloc (.cells #[.slice a1 s.nodes.length c1, .slice a2 s.jobs.length c2, .int .i64 s.goal, .int .i64 s.prior, .int .i64 s.mode, .int .i64 s.term] 33)); simpa using this) (by first | omega | (simp; done) | (simp; omega)) _) (by first | omega | (simp; done) | (simp; omega)) _
  obtain ⟨V, hV⟩ : ∃ V, V = ((((w.alloc (.cells #[.int .i64 c.nodes, .int .i64 c.queues, .int .i64 c.quota, .int .i64 c.wave, .int .i64 c.lease, .int .i64 c.retry, .int .i64 c.deadline, .int .i64 c.room, .int .i64 c.disk] 29)).alloc (.cells #[.slice a1 s.nodes.length c1, .slice a2 s.jobs.length c2, .int .i64 s.goal, .int .i64 s.prior, .int .i64 s.mode, .int .i64 s.term] 33)).alloc (.cells #[.int .i64 0, .int .i64 0, .int .i64 0, .int .i64 0, .int .i64 0, .int .i64 0, .int .i64 0] 42)).alloc (.cells #[.bool e0, .bool e1, .bool e2, .int .i64 e3, .int .i64 ((q : Int) + 1)] 55)).alloc (.cells #[.int .i64 y0, .int .i64 y1, .int .i64 y2, .int .i64 y3, .int .i64 y4, .int .i64 y5, .int .i64 2, .int .i64 y7, .int .i64 y8, .int .i64 y9, .int .i64 y10, .int .i64 y11] 47) := ⟨_, rfl⟩
  have g0 : V.cell? ⟨w.heap.size, 2, none⟩ = some (.int .i64 c.quota) := by rw [hV]; go_simp
  have g1 : V.cell? ⟨w.heap.size + 1, 0, none⟩ = some (.slice a1 s.nodes.length c1) := by rw [hV]; go_simp
  have g2 : V.cell? ⟨w.heap.size + 1, 1, none⟩ = some (.slice a2 s.jobs.length c2) := by rw [hV]; go_simp
  have g3 : V.cell? ⟨w.heap.size + 1, 2, none⟩ = some (.int .i64 s.goal) := by rw [hV]; go_simp
  have g4 : V.cell? ⟨w.heap.size + 1, 3, none⟩ = some (.int .i64 s.prior) := by rw [hV]; go_simp
  have g5 : V.cell? ⟨w.heap.size + 1, 4, none⟩ = some (.int .i64 s.mode) := by rw [hV]; go_simp
  have g6 : V.cell? ⟨w.heap.size + 1, 5, none⟩ = some (.int .i64 s.term) := by rw [hV]; go_simp
  have g7 : V.cell? ⟨w.heap.size + 1 + 1 + 1 + 1, 0, none⟩ = some (.int .i64 y0) := by rw [hV]; go_simp
  have g8 : V.cell? ⟨w.heap.size, 6, none⟩ = some (.int .i64 c.deadline) := by rw [hV]; go_simp
  have g9 : V.cell? ⟨w.heap.size + 1 + 1 + 1, 4, none⟩ = some (.int .i64 ((q : Int) + 1)) := by rw [hV]; go_simp
  have g10 : ∀ i, V.frozen? ⟨w.heap.size + 1 + 1, i, none⟩ = false := fun i => by rw [hV]; go_simp
  have HG := Lib.hid (And.intro g8 (And.intro g9 g10))
  have HG2 := Lib.hid (And.intro g0 (And.intro g1 (And.intro g2 (And.intro g3 (And.intro g4 (And.intro g5 (And.intro g6 g7)))))))
  have hVs : Hid (V.heap.size = w.heap.size + 1 + 1 + 1 + 1 + 1) := Lib.hid (by rw [hV]; simp)
  have hVB : Hid (Below w.heap.size w V) := Lib.hid (by rw [hV]; exact (by repeat (first | (with_reducible exact Below.refl _ _) | ((with_reducible refine Below.setCell ?_ ?_ _); rotate_left 1; focus (first | omega | (simp; done) | (simp; omega))) | ((with_reducible refine Below.alloc ?_ ?_ _); rotate_left 1; focus (first | omega | (simp; done) | (simp; omega))) | (with_reducible refine Below.drew ?_) | (with_reducible refine Below.draws ?_ _) | assumption)))
  have HV := Lib.hid hV
  rw [← hV] at OB
  clear hV g0 g1 g2 g3 g4 g5 g6 g7 g8 g9 g10
  go_enter Try.func43, Try.ntmps43
  go_wp2_with fail
  go_quiet ((go_at_call 55; exact Calls.qs (many_any _ _)))
  go_wp2_with fail
  rw [← HV.out]
  refine wp_region_held_drew (S := (fun w' => w'.cell? ⟨w.heap.size, 2, none⟩ = some (.int .i64 c.quota) ∧ w'.cell? ⟨w.heap.size + 1, 0, none⟩ = some (.slice a1 s.nodes.length c1) ∧ w'.cell? ⟨w.heap.size + 1, 1, none⟩ = some (.slice a2 s.jobs.length c2) ∧ w'.cell? ⟨w.heap.size + 1, 2, none⟩ = some (.int .i64 s.goal) ∧ w'.cell? ⟨w.heap.size + 1, 3, none⟩ = some (.int .i64 s.prior) ∧ w'.cell? ⟨w.heap.size + 1, 4, none⟩ = some (.int .i64 s.mode) ∧ w'.cell? ⟨w.heap.size + 1, 5, none⟩ = some (.int .i64 s.term) ∧ w'.cell? ⟨w.heap.size + 1 + 1 + 1 + 1, 0, none⟩ = some (.int .i64 y0))) (by kernel_rfl) ?_ (fun hHeld => ?_)
  · exact HG2.out
  (refine wpAnyH_take (i := 0) (v := ?_) rfl (by kernel_rfl) (by kernel_rfl) (by kernel_rfl) (fun _ _ _ h => h) (Or.inl ⟨by rfl, ?_⟩) (by assumption) ?_); rotate_left 1; (focus (intro w hSw; (try dsimp only at hSw); go_simp; try (with_reducible rfl))); (try simp only [List.getElem_toArray, List.getElem_cons_zero, List.getElem_cons_succ, Act.put, List.setIfInBounds_toArray, List.set_cons_zero, List.set_cons_succ])
  (refine wpAnyH_take (i := 1) (v := ?_) rfl (by kernel_rfl) (by kernel_rfl) (by kernel_rfl) (fun _ _ _ h => h) (Or.inl ⟨by rfl, ?_⟩) (by assumption) ?_); rotate_left 1; (focus (intro w hSw; (try dsimp only at hSw); go_simp; try (with_reducible rfl))); (try simp only [List.getElem_toArray, List.getElem_cons_zero, List.getElem_cons_succ, Act.put, List.setIfInBounds_toArray, List.set_cons_zero, List.set_cons_succ])
  (refine wpAnyH_take (i := 2) (v := ?_) rfl (by kernel_rfl) (by kernel_rfl) (by kernel_rfl) (fun _ _ _ h => h) (Or.inl ⟨by rfl, ?_⟩) (by assumption) ?_); rotate_left 1; (focus (intro w hSw; (try dsimp only at hSw); go_simp; try (with_reducible rfl))); (try simp only [List.getElem_toArray, List.getElem_cons_zero, List.getElem_cons_succ, Act.put, List.setIfInBounds_toArray, List.set_cons_zero, List.set_cons_succ])
  (refine wpAnyH_take (i := 4) (v := ?_) rfl (by kernel_rfl) (by kernel_rfl) (by kernel_rfl) (fun _ _ _ h => h) (Or.inl ⟨by rfl, ?_⟩) (by assumption) ?_); rotate_left 1; (focus (intro w hSw; (try dsimp only at hSw); go_simp; try (with_reducible rfl))); (try simp only [List.getElem_toArray, List.getElem_cons_zero, List.getElem_cons_succ, Act.put, List.setIfInBounds_toArray, List.set_cons_zero, List.set_cons_succ])
  (refine wpAnyH_take (i := 5) (v := ?_) rfl (by kernel_rfl) (by kernel_rfl) (by kernel_rfl) (fun _ _ _ h => h) (Or.inl ⟨by rfl, ?_⟩) (by assumption) ?_); rotate_left 1; (focus (intro w hSw; (try dsimp only at hSw); go_simp; try (with_reducible rfl))); (try simp only [List.getElem_toArray, List.getElem_cons_zero, List.getElem_cons_succ, Act.put, List.setIfInBounds_toArray, List.set_cons_zero, List.set_cons_succ])
  (refine wpAnyH_ready (rs := [3]) (by kernel_rfl) (by simp) ?_); (refine AllReadyH.cons rfl (fun K hK => ?_) AllReadyH.nil); go_simp
  (go_at_call 56; refine Calls.mono (drainsR_any s a1 a2 c1 c2 y0 _ ?_ (by omega)) ?_; (focus exact HS.out.below (hVB.out.trans (by repeat (first | (with_reducible exact Below.refl _ _) | ((with_reducible refine Below.setCell ?_ ?_ _); rotate_left 1; focus (first | omega | (simp; done) | (simp; omega))) | ((with_reducible refine Below.alloc ?_ ?_ _); rotate_left 1; focus (first | omega | (simp; done) | (simp; omega))) | (with_reducible refine Below.drew ?_) | (with_reducible refine Below.draws ?_ _) | assumption))) (Nat.le_refl _)); rintro e w4 ⟨rfl, hb4⟩; obtain ⟨hcd, hfd⟩ := bcell hb4; have hz4 := hb4.size; have hvs := hVs.out)
  (refine hK.out _ _ ?_ (fun hHeld => ?_)); (focus (first | ((try dsimp only at hHeld); (try dsimp only); (try simp only [cdN, World.cell?_drew] at hHeld); (repeat' apply And.intro) <;> (rw [hcd _ _ (by first | omega | (simp; done) | (simp; omega))]; (try simp only [cdN, World.cell?_drew]); (first | (simp only [hHeld]; done) | (exact hHeld.1) | (exact hHeld.2.1) | (exact hHeld.2.2.1) | (exact hHeld.2.2.2.1) | (exact hHeld.2.2.2.2.1) | (exact hHeld.2.2.2.2.2.1) | (exact hHeld.2.2.2.2.2.2.1) | (exact hHeld.2.2.2.2.2.2.2.1) | (exact hHeld.2.2.2.2.2.2.2.2.1) | (exact hHeld.2.2.2.2.2.2.2.2.2.1) | (exact hHeld.2.2.2.2.2.2.2.2.2.2.1) | (exact hHeld.2.2.2.2.2.2.2.2.2.2.2.1) | (exact hHeld.2) | (exact hHeld.2.2) | (exact hHeld.2.2.2) | (exact hHeld.2.2.2.2) | (exact hHeld.2.2.2.2.2) | (exact hHeld.2.2.2.2.2.2) | (exact hHeld.2.2.2.2.2.2.2) | (exact hHeld.2.2.2.2.2.2.2.2) | (exact hHeld.2.2.2.2.2.2.2.2.2) | (exact hHeld.2.2.2.2.2.2.2.2.2.2) | (exact hHeld.2.2.2.2.2.2.2.2.2.2.2)))) | (first | (go_keep; done) | ((try dsimp only); (repeat' apply And.intro) <;> (first | (go_keep; done) | (simp [hcd, lt2, lt3, lt4, lt5, cell_a2, cell_a3, cell_a4, cell_a5]; done) | (simp [cell_n2, cell_n3, cell_n12, cell_a2, cell_a3, cell_a4]; done) | (simp [cell_n2, cell_n3, hcd]; done) | (simp [cell_n12, hcd]; done)))))); clear hK K; (try simp only [List.getElem_toArray, List.getElem_cons_zero, List.getElem_cons_succ, Act.put, List.setIfInBounds_toArray, List.set_cons_zero, List.set_cons_succ])
  (refine wpAnyH_take (i := 6) (v := ?_) rfl (by kernel_rfl) (by kernel_rfl) (by kernel_rfl) (fun _ _ _ h => h) (Or.inl ⟨by rfl, ?_⟩) (by assumption) ?_); rotate_left 1; (focus (intro w hSw; (try dsimp only at hSw); go_simp; try (with_reducible rfl))); (try simp only [List.getElem_toArray, List.getElem_cons_zero, List.getElem_cons_succ, Act.put, List.setIfInBounds_toArray, List.set_cons_zero, List.set_cons_succ])
  refine wpAnyH_done (by kernel_rfl) ?_ _
  have hB34 : Below V.heap.size V w4 := ((by repeat (first | (with_reducible exact Below.refl _ _) | ((with_reducible refine Below.setCell ?_ ?_ _); rotate_left 1; focus (first | omega | (simp; done) | (simp; omega))) | ((with_reducible refine Below.alloc ?_ ?_ _); rotate_left 1; focus (first | omega | (simp; done) | (simp; omega))) | (with_reducible refine Below.drew ?_) | (with_reducible refine Below.draws ?_ _) | assumption)) : Below V.heap.size V _).trans hb4
  have hB4 : Below w.heap.size w w4 := hVB.out.trans (hB34.mono (by omega))
  have OB4 := OB.kept hB34 (by omega)
  have hz := hB34.size
  have hs8 : w.heap.size < w4.heap.size := by omega
  have hs9 : w.heap.size + 1 + 1 < w4.heap.size := by omega
  have hs10 : w.heap.size + 1 + 1 + 1 < w4.heap.size := by omega
  have m8 := (hB34.cell (p := ⟨w.heap.size, 6, none⟩) (by show w.heap.size < _; omega)).trans HG.out.1
  have m9 := (hB34.cell (p := ⟨w.heap.size + 1 + 1 + 1, 4, none⟩) (by show w.heap.size + 1 + 1 + 1 < _; omega)).trans HG.out.2.1
  have f4 : ∀ i, w4.frozen? ⟨w.heap.size + 1 + 1, i, none⟩ = false := fun i => (hB34.frozen (p := ⟨w.heap.size + 1 + 1, i, none⟩) (by show w.heap.size + 1 + 1 < _; omega)).trans (HG.out.2.2 i)
  obtain ⟨r0, r1, r2, r3, r4, r5, r6⟩ := OB4.cells
  dsimp only [zeroOp] at r0 r1 r2 r3 r4 r5 r6
  clear hcd hfd hHeld hvs
  go_wp2
  exact bodyPost_ret (v := opOkV ⟨0, 0, 0, 0, 0, 0, 0⟩ false) (res_opok rfl _ _ (w.heap.size + 1 + 1) ⟨0, 0, 0, 0, 0, 0, 0⟩ false rfl (by show OpBox _ _ _; repeat (first | (with_reducible exact OB4) | (with_reducible apply OpBox.set (o' := ⟨0, 0, 0, 0, 0, 0, 0⟩)) | ((with_reducible apply OpBox.alloc); rotate_left 1; focus (first | omega | (simp; done) | (simp; omega))) | (with_reducible apply OpBox.drawsN) | (with_reducible apply OpBox.draw))) rfl) rfl ⟨rfl, hB4.trans (by repeat (first | (with_reducible exact Below.refl _ _) | ((with_reducible refine Below.setCell ?_ ?_ _); rotate_left 1; focus (first | omega | (simp; done) | (simp; omega))) | ((with_reducible refine Below.alloc ?_ ?_ _); rotate_left 1; focus (first | omega | (simp; done) | (simp; omega))) | (with_reducible refine Below.drew ?_) | (with_reducible refine Below.draws ?_ _) | assumption))⟩

set_option maxHeartbeats 4000000 in
theorem sec_d (c : ConfD) (s : StateD) (a1 a2 : Option Addr) (c1 c2 : Nat) (now : Int) (k : Nat) (hk : k < s.nodes.length) (w : World) (hO : Okay c s) (hS : StateAt w s a1 a2) (hnow : 0 ≤ now ∧ now ≤ 1000000) (q : Nat) (hql : q < s.jobs.length) (hjq : (s.nodes.getD k zeroNode).job = (q : Int) + 1) (u : Int) (hu : Hid (u = if 1000000 < now + c.deadline then 1000000 else now + c.deadline)) (hp : (s.jobs.getD q zeroJob).phase = 2) (hm : ¬ (s.jobs.getD q zeroJob).min < many (s.jobs.getD q zeroJob).nodes) (hd : drainsL s.jobs (s.jobs.getD q zeroJob).queue < c.quota) :
    Calls Try.prog 43 #[confV c, stateV s a1 a2 c1 c2, .int .i64 (k : Int), .int .i64 now] w (Ret w (opOkV ⟨12, q + 1, u, 0, 0, 0, 0⟩ true)) := by
  have hn6 : s.nodes.length ≤ 6 := by have := hO.nodes; have := hO.conf; omega
  have hk2 : ¬ s.nodes.length ≤ k := by omega
  have HO := Lib.hid hO
  have HS := Lib.hid hS
  obtain ⟨b, o, nd, HM, hb, hix, d0, d1, d2, d3, d4⟩ := node_at hS.nodes hk
  have hb0 : b ≠ w.heap.size := by omega
  have hba : b < w.heap.size + 1 := by omega
  have hbb : b < w.heap.size + 1 + 1 := by omega
  have hbc : b < w.heap.size + 1 + 1 + 1 := by omega
  rw [← HM.out] at hjq
  have hl24 := hO.jobs
  have hcf := hO.conf
  have hbits := hO.bits hql
  obtain ⟨bj, oj, j, HJ, hbj, hixj, j0, j1, j2, j3, j4, j5, j6, j7, j8, j9, j10, j11⟩ := job_at hS.jobs hql
  rw [← HJ.out] at hbits hp hm hd
  clear hO hS HJ HM
  have hbj0 : bj ≠ w.heap.size := by omega
  have hbja : bj < w.heap.size + 1 := by omega
  have hbjb : bj < w.heap.size + 1 + 1 := by omega
  have hbjc : bj < w.heap.size + 1 + 1 + 1 := by omega
  have hbjd : bj < w.heap.size + 1 + 1 + 1 + 1 := by omega
  obtain ⟨e0, e1, e2, e3, e4⟩ := nd
  obtain ⟨y0, y1, y2, y3, y4, y5, y6, y7, y8, y9, y10, y11⟩ := j
  dsimp only at *
  subst hjq
  have hj0 : ((q : Int) + 1 == 0) = false := by simp; omega
  have hq1 : (q : Int) + 1 - 1 = q := by omega
  subst hp
  have HU := hu
  clear hu
  have hdd : decide (c.quota ≤ drainsL s.jobs y0) = false := by simp; omega
  have hmd : decide (y2 < many y8) = false := by simpa using hm
  have OB : OpBox (((((w.alloc (.cells #[.int .i64 c.nodes, .int .i64 c.queues, .int .i64 c.quota, .int .i64 c.wave, .int .i64 c.lease, .int .i64 c.retry, .int .i64 c.deadline, .int .i64 c.room, .int .i64 c.disk] 29)).alloc (.cells #[.slice a1 s.nodes.length c1, .slice a2 s.jobs.length c2, .int .i64 s.goal, .int .i64 s.prior, .int .i64 s.mode, .int .i64 s.term] 33)).alloc (.cells #[.int .i64 0, .int .i64 0, .int .i64 0, .int .i64 0, .int .i64 0, .int .i64 0, .int .i64 0] 42)).alloc (.cells #[.bool e0, .bool e1, .bool e2, .int .i64 e3, .int .i64 ((q : Int) + 1)] 55)).alloc (.cells #[.int .i64 y0, .int .i64 y1, .int .i64 y2, .int .i64 y3, .int .i64 y4, .int .i64 y5, .int .i64 2, .int .i64 y7, .int .i64 y8, .int .i64 y9, .int .i64 y10, .int .i64 y11] 47)) (w.heap.size + 1 + 1) zeroOp := OpBox.alloc (OpBox.alloc (by have := OpBox.new ((w.alloc (.cells #[.int .i64 c.nodes, .int .i64 c.queues, .int .i64 c.quota, .int .i64 c.wave, .int .i64 c.lease, .int .i64 c.retry, .int .i64 c.deadline, .int .i64 c.room, .int .i64 c.disk] 29)).alloc (.cells #[.slice a1 s.nodes.length c1, .slice a2 s.jobs.length c2, .int .i64 s.goal, .int .i64 s.prior, .int .i64 s.mode, .int .i64 s.term] 33)); simpa using this) (by first | omega | (simp; done) | (simp; omega)) _) (by first | omega | (simp; done) | (simp; omega)) _
  obtain ⟨V, hV⟩ : ∃ V, V = ((((w.alloc (.cells #[.int .i64 c.nodes, .int .i64 c.queues, .int .i64 c.quota, .int .i64 c.wave, .int .i64 c.lease, .int .i64 c.retry, .int .i64 c.deadline, .int .i64 c.room, .int .i64 c.disk] 29)).alloc (.cells #[.slice a1 s.nodes.length c1, .slice a2 s.jobs.length c2, .int .i64 s.goal, .int .i64 s.prior, .int .i64 s.mode, .int .i64 s.term] 33)).alloc (.cells #[.int .i64 0, .int .i64 0, .int .i64 0, .int .i64 0, .int .i64 0, .int .i64 0, .int .i64 0] 42)).alloc (.cells #[.bool e0, .bool e1, .bool e2, .int .i64 e3, .int .i64 ((q : Int) + 1)] 55)).alloc (.cells #[.int .i64 y0, .int .i64 y1, .int .i64 y2, .int .i64 y3, .int .i64 y4, .int .i64 y5, .int .i64 2, .int .i64 y7, .int .i64 y8, .int .i64 y9, .int .i64 y10, .int .i64 y11] 47) := ⟨_, rfl⟩
  have g0 : V.cell? ⟨w.heap.size, 2, none⟩ = some (.int .i64 c.quota) := by rw [hV]; go_simp
  have g1 : V.cell? ⟨w.heap.size + 1, 0, none⟩ = some (.slice a1 s.nodes.length c1) := by rw [hV]; go_simp
  have g2 : V.cell? ⟨w.heap.size + 1, 1, none⟩ = some (.slice a2 s.jobs.length c2) := by rw [hV]; go_simp
  have g3 : V.cell? ⟨w.heap.size + 1, 2, none⟩ = some (.int .i64 s.goal) := by rw [hV]; go_simp
  have g4 : V.cell? ⟨w.heap.size + 1, 3, none⟩ = some (.int .i64 s.prior) := by rw [hV]; go_simp
  have g5 : V.cell? ⟨w.heap.size + 1, 4, none⟩ = some (.int .i64 s.mode) := by rw [hV]; go_simp
  have g6 : V.cell? ⟨w.heap.size + 1, 5, none⟩ = some (.int .i64 s.term) := by rw [hV]; go_simp
  have g7 : V.cell? ⟨w.heap.size + 1 + 1 + 1 + 1, 0, none⟩ = some (.int .i64 y0) := by rw [hV]; go_simp
  have g8 : V.cell? ⟨w.heap.size, 6, none⟩ = some (.int .i64 c.deadline) := by rw [hV]; go_simp
  have g9 : V.cell? ⟨w.heap.size + 1 + 1 + 1, 4, none⟩ = some (.int .i64 ((q : Int) + 1)) := by rw [hV]; go_simp
  have g10 : ∀ i, V.frozen? ⟨w.heap.size + 1 + 1, i, none⟩ = false := fun i => by rw [hV]; go_simp
  have HG := Lib.hid (And.intro g8 (And.intro g9 g10))
  have HG2 := Lib.hid (And.intro g0 (And.intro g1 (And.intro g2 (And.intro g3 (And.intro g4 (And.intro g5 (And.intro g6 g7)))))))
  have hVs : Hid (V.heap.size = w.heap.size + 1 + 1 + 1 + 1 + 1) := Lib.hid (by rw [hV]; simp)
  have hVB : Hid (Below w.heap.size w V) := Lib.hid (by rw [hV]; exact (by repeat (first | (with_reducible exact Below.refl _ _) | ((with_reducible refine Below.setCell ?_ ?_ _); rotate_left 1; focus (first | omega | (simp; done) | (simp; omega))) | ((with_reducible refine Below.alloc ?_ ?_ _); rotate_left 1; focus (first | omega | (simp; done) | (simp; omega))) | (with_reducible refine Below.drew ?_) | (with_reducible refine Below.draws ?_ _) | assumption)))
  have HV := Lib.hid hV
  rw [← hV] at OB
  clear hV g0 g1 g2 g3 g4 g5 g6 g7 g8 g9 g10
  go_enter Try.func43, Try.ntmps43
  go_wp2_with fail
  go_quiet ((go_at_call 55; exact Calls.qs (many_any _ _)))
  go_wp2_with fail
  rw [← HV.out]
  refine wp_region_held_drew (S := (fun w' => w'.cell? ⟨w.heap.size, 2, none⟩ = some (.int .i64 c.quota) ∧ w'.cell? ⟨w.heap.size + 1, 0, none⟩ = some (.slice a1 s.nodes.length c1) ∧ w'.cell? ⟨w.heap.size + 1, 1, none⟩ = some (.slice a2 s.jobs.length c2) ∧ w'.cell? ⟨w.heap.size + 1, 2, none⟩ = some (.int .i64 s.goal) ∧ w'.cell? ⟨w.heap.size + 1, 3, none⟩ = some (.int .i64 s.prior) ∧ w'.cell? ⟨w.heap.size + 1, 4, none⟩ = some (.int .i64 s.mode) ∧ w'.cell? ⟨w.heap.size + 1, 5, none⟩ = some (.int .i64 s.term) ∧ w'.cell? ⟨w.heap.size + 1 + 1 + 1 + 1, 0, none⟩ = some (.int .i64 y0))) (by kernel_rfl) ?_ (fun hHeld => ?_)
  · exact HG2.out
  (refine wpAnyH_take (i := 0) (v := ?_) rfl (by kernel_rfl) (by kernel_rfl) (by kernel_rfl) (fun _ _ _ h => h) (Or.inl ⟨by rfl, ?_⟩) (by assumption) ?_); rotate_left 1; (focus (intro w hSw; (try dsimp only at hSw); go_simp; try (with_reducible rfl))); (try simp only [List.getElem_toArray, List.getElem_cons_zero, List.getElem_cons_succ, Act.put, List.setIfInBounds_toArray, List.set_cons_zero, List.set_cons_succ])
  (refine wpAnyH_take (i := 1) (v := ?_) rfl (by kernel_rfl) (by kernel_rfl) (by kernel_rfl) (fun _ _ _ h => h) (Or.inl ⟨by rfl, ?_⟩) (by assumption) ?_); rotate_left 1; (focus (intro w hSw; (try dsimp only at hSw); go_simp; try (with_reducible rfl))); (try simp only [List.getElem_toArray, List.getElem_cons_zero, List.getElem_cons_succ, Act.put, List.setIfInBounds_toArray, List.set_cons_zero, List.set_cons_succ])
  (refine wpAnyH_take (i := 2) (v := ?_) rfl (by kernel_rfl) (by kernel_rfl) (by kernel_rfl) (fun _ _ _ h => h) (Or.inl ⟨by rfl, ?_⟩) (by assumption) ?_); rotate_left 1; (focus (intro w hSw; (try dsimp only at hSw); go_simp; try (with_reducible rfl))); (try simp only [List.getElem_toArray, List.getElem_cons_zero, List.getElem_cons_succ, Act.put, List.setIfInBounds_toArray, List.set_cons_zero, List.set_cons_succ])
  (refine wpAnyH_take (i := 4) (v := ?_) rfl (by kernel_rfl) (by kernel_rfl) (by kernel_rfl) (fun _ _ _ h => h) (Or.inl ⟨by rfl, ?_⟩) (by assumption) ?_); rotate_left 1; (focus (intro w hSw; (try dsimp only at hSw); go_simp; try (with_reducible rfl))); (try simp only [List.getElem_toArray, List.getElem_cons_zero, List.getElem_cons_succ, Act.put, List.setIfInBounds_toArray, List.set_cons_zero, List.set_cons_succ])
  (refine wpAnyH_take (i := 5) (v := ?_) rfl (by kernel_rfl) (by kernel_rfl) (by kernel_rfl) (fun _ _ _ h => h) (Or.inl ⟨by rfl, ?_⟩) (by assumption) ?_); rotate_left 1; (focus (intro w hSw; (try dsimp only at hSw); go_simp; try (with_reducible rfl))); (try simp only [List.getElem_toArray, List.getElem_cons_zero, List.getElem_cons_succ, Act.put, List.setIfInBounds_toArray, List.set_cons_zero, List.set_cons_succ])
  (refine wpAnyH_ready (rs := [3]) (by kernel_rfl) (by simp) ?_); (refine AllReadyH.cons rfl (fun K hK => ?_) AllReadyH.nil); go_simp
  (go_at_call 56; refine Calls.mono (drainsR_any s a1 a2 c1 c2 y0 _ ?_ (by omega)) ?_; (focus exact HS.out.below (hVB.out.trans (by repeat (first | (with_reducible exact Below.refl _ _) | ((with_reducible refine Below.setCell ?_ ?_ _); rotate_left 1; focus (first | omega | (simp; done) | (simp; omega))) | ((with_reducible refine Below.alloc ?_ ?_ _); rotate_left 1; focus (first | omega | (simp; done) | (simp; omega))) | (with_reducible refine Below.drew ?_) | (with_reducible refine Below.draws ?_ _) | assumption))) (Nat.le_refl _)); rintro e w4 ⟨rfl, hb4⟩; obtain ⟨hcd, hfd⟩ := bcell hb4; have hz4 := hb4.size; have hvs := hVs.out)
  (refine hK.out _ _ ?_ (fun hHeld => ?_)); (focus (first | ((try dsimp only at hHeld); (try dsimp only); (try simp only [cdN, World.cell?_drew] at hHeld); (repeat' apply And.intro) <;> (rw [hcd _ _ (by first | omega | (simp; done) | (simp; omega))]; (try simp only [cdN, World.cell?_drew]); (first | (simp only [hHeld]; done) | (exact hHeld.1) | (exact hHeld.2.1) | (exact hHeld.2.2.1) | (exact hHeld.2.2.2.1) | (exact hHeld.2.2.2.2.1) | (exact hHeld.2.2.2.2.2.1) | (exact hHeld.2.2.2.2.2.2.1) | (exact hHeld.2.2.2.2.2.2.2.1) | (exact hHeld.2.2.2.2.2.2.2.2.1) | (exact hHeld.2.2.2.2.2.2.2.2.2.1) | (exact hHeld.2.2.2.2.2.2.2.2.2.2.1) | (exact hHeld.2.2.2.2.2.2.2.2.2.2.2.1) | (exact hHeld.2) | (exact hHeld.2.2) | (exact hHeld.2.2.2) | (exact hHeld.2.2.2.2) | (exact hHeld.2.2.2.2.2) | (exact hHeld.2.2.2.2.2.2) | (exact hHeld.2.2.2.2.2.2.2) | (exact hHeld.2.2.2.2.2.2.2.2) | (exact hHeld.2.2.2.2.2.2.2.2.2) | (exact hHeld.2.2.2.2.2.2.2.2.2.2) | (exact hHeld.2.2.2.2.2.2.2.2.2.2.2)))) | (first | (go_keep; done) | ((try dsimp only); (repeat' apply And.intro) <;> (first | (go_keep; done) | (simp [hcd, lt2, lt3, lt4, lt5, cell_a2, cell_a3, cell_a4, cell_a5]; done) | (simp [cell_n2, cell_n3, cell_n12, cell_a2, cell_a3, cell_a4]; done) | (simp [cell_n2, cell_n3, hcd]; done) | (simp [cell_n12, hcd]; done)))))); clear hK K; (try simp only [List.getElem_toArray, List.getElem_cons_zero, List.getElem_cons_succ, Act.put, List.setIfInBounds_toArray, List.set_cons_zero, List.set_cons_succ])
  (refine wpAnyH_take (i := 6) (v := ?_) rfl (by kernel_rfl) (by kernel_rfl) (by kernel_rfl) (fun _ _ _ h => h) (Or.inl ⟨by rfl, ?_⟩) (by assumption) ?_); rotate_left 1; (focus (intro w hSw; (try dsimp only at hSw); go_simp; try (with_reducible rfl))); (try simp only [List.getElem_toArray, List.getElem_cons_zero, List.getElem_cons_succ, Act.put, List.setIfInBounds_toArray, List.set_cons_zero, List.set_cons_succ])
  refine wpAnyH_done (by kernel_rfl) ?_ _
  have hB34 : Below V.heap.size V w4 := ((by repeat (first | (with_reducible exact Below.refl _ _) | ((with_reducible refine Below.setCell ?_ ?_ _); rotate_left 1; focus (first | omega | (simp; done) | (simp; omega))) | ((with_reducible refine Below.alloc ?_ ?_ _); rotate_left 1; focus (first | omega | (simp; done) | (simp; omega))) | (with_reducible refine Below.drew ?_) | (with_reducible refine Below.draws ?_ _) | assumption)) : Below V.heap.size V _).trans hb4
  have hB4 : Below w.heap.size w w4 := hVB.out.trans (hB34.mono (by omega))
  have OB4 := OB.kept hB34 (by omega)
  have hz := hB34.size
  have hs8 : w.heap.size < w4.heap.size := by omega
  have hs9 : w.heap.size + 1 + 1 < w4.heap.size := by omega
  have hs10 : w.heap.size + 1 + 1 + 1 < w4.heap.size := by omega
  have m8 := (hB34.cell (p := ⟨w.heap.size, 6, none⟩) (by show w.heap.size < _; omega)).trans HG.out.1
  have m9 := (hB34.cell (p := ⟨w.heap.size + 1 + 1 + 1, 4, none⟩) (by show w.heap.size + 1 + 1 + 1 < _; omega)).trans HG.out.2.1
  have f4 : ∀ i, w4.frozen? ⟨w.heap.size + 1 + 1, i, none⟩ = false := fun i => (hB34.frozen (p := ⟨w.heap.size + 1 + 1, i, none⟩) (by show w.heap.size + 1 + 1 < _; omega)).trans (HG.out.2.2 i)
  obtain ⟨r0, r1, r2, r3, r4, r5, r6⟩ := OB4.cells
  dsimp only [zeroOp] at r0 r1 r2 r3 r4 r5 r6
  clear hcd hfd hHeld hvs
  by_cases hmx : 1000000 < now + c.deadline
  · obtain rfl : u = 1000000 := by have := HU.out; rw [if_pos hmx] at this; exact this
    go_wp2
    exact bodyPost_ret (v := opOkV ⟨12, q + 1, 1000000, 0, 0, 0, 0⟩ true) (res_opok rfl _ _ (w.heap.size + 1 + 1) ⟨12, q + 1, 1000000, 0, 0, 0, 0⟩ true rfl (by show OpBox _ _ _; repeat (first | (with_reducible exact OB4) | (with_reducible apply OpBox.set (o' := ⟨12, q + 1, 1000000, 0, 0, 0, 0⟩)) | ((with_reducible apply OpBox.alloc); rotate_left 1; focus (first | omega | (simp; done) | (simp; omega))) | (with_reducible apply OpBox.drawsN) | (with_reducible apply OpBox.draw))) rfl) rfl ⟨rfl, hB4.trans (by repeat (first | (with_reducible exact Below.refl _ _) | ((with_reducible refine Below.setCell ?_ ?_ _); rotate_left 1; focus (first | omega | (simp; done) | (simp; omega))) | ((with_reducible refine Below.alloc ?_ ?_ _); rotate_left 1; focus (first | omega | (simp; done) | (simp; omega))) | (with_reducible refine Below.drew ?_) | (with_reducible refine Below.draws ?_ _) | assumption))⟩
  · obtain rfl : u = now + c.deadline := by have := HU.out; rw [if_neg hmx] at this; exact this
    go_wp2
    exact bodyPost_ret (v := opOkV ⟨12, q + 1, now + c.deadline, 0, 0, 0, 0⟩ true) (res_opok rfl _ _ (w.heap.size + 1 + 1) ⟨12, q + 1, now + c.deadline, 0, 0, 0, 0⟩ true rfl (by show OpBox _ _ _; repeat (first | (with_reducible exact OB4) | (with_reducible apply OpBox.set (o' := ⟨12, q + 1, now + c.deadline, 0, 0, 0, 0⟩)) | ((with_reducible apply OpBox.alloc); rotate_left 1; focus (first | omega | (simp; done) | (simp; omega))) | (with_reducible apply OpBox.drawsN) | (with_reducible apply OpBox.draw))) rfl) rfl ⟨rfl, hB4.trans (by repeat (first | (with_reducible exact Below.refl _ _) | ((with_reducible refine Below.setCell ?_ ?_ _); rotate_left 1; focus (first | omega | (simp; done) | (simp; omega))) | ((with_reducible refine Below.alloc ?_ ?_ _); rotate_left 1; focus (first | omega | (simp; done) | (simp; omega))) | (with_reducible refine Below.drew ?_) | (with_reducible refine Below.draws ?_ _) | assumption))⟩

end Go.Proofs.Ytclgmpflmeopmaa
