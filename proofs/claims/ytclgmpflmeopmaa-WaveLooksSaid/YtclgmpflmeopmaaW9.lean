import Derived.Test.YtclgmpflmeopmaaW8
set_option linter.unusedVariables false
set_option linter.unusedSimpArgs false
namespace Go.Proofs.Ytclgmpflmeopmaa
open Go.RowKit Dun

theorem cdN (w : World) (n : Nat) (a : Addr) : (w.drewN n).cell? a = w.cell? a := rfl

set_option maxHeartbeats 4000000 in
theorem clear_d (u : Int) (c : ConfD) (s : StateD) (a1 a2 : Option Addr) (c1 c2 : Nat) (now : Int) (k : Nat) (hk : k < s.nodes.length) (w : World) (hO : Okay c s) (hS : StateAt w s a1 a2) (hnow : 0 ≤ now ∧ now ≤ 1000000) (q : Nat) (hql : q < s.jobs.length) (hco : (s.nodes.getD k zeroNode).cordon = true) (hbh : behindB s (s.nodes.getD k zeroNode) = true) (hal : aloneN s (s.nodes.getD k zeroNode) = false) (hjq : (s.nodes.getD k zeroNode).job = (q : Int) + 1) (hp : (s.jobs.getD q zeroJob).phase = 2) (hm : ¬ (s.jobs.getD q zeroJob).min < many ((s.jobs.getD q zeroJob).nodes % 64)) (hu : Hid (u = if 1000000 ≤ now + c.deadline then 1000000 else now + c.deadline)) (hd : drainsL s.jobs (s.jobs.getD q zeroJob).queue < c.quota) :
    Calls Try.prog 41 #[viewV c s a1 a2 c1 c2 now, .int .i64 (k : Int)] w (Ret w (opOkV ⟨12, q + 1, u, 0, 0, 0, 0⟩ true)) := by
  have hn6 : s.nodes.length ≤ 6 := by have := hO.nodes; have := hO.conf; omega
  have hk2 : ¬ s.nodes.length ≤ k := by omega
  have HO := Lib.hid hO
  have HS := Lib.hid hS
  obtain ⟨b, o, nd, HM, hb, hix, d0, d1, d2, d3, d4⟩ := node_at hS.nodes hk
  have hb0 : b ≠ w.heap.size := by omega
  rw [← HM.out] at hco hbh hal hjq
  have HBH := Lib.hid hbh
  have HAL := Lib.hid hal
  have hl24 := hO.jobs
  have hcf := hO.conf
  have hpb := hO.job hql
  have hbits := hO.bits hql
  obtain ⟨jj, hjj⟩ : ∃ j, j = s.jobs.getD q zeroJob := ⟨_, rfl⟩
  rw [← hjj] at hpb hbits hp hm hd
  have HJJ := Lib.hid hjj
  clear hO hS hbh hal hjj
  obtain ⟨e0, e1, e2, e3, e4⟩ := nd
  dsimp only at *
  subst hco
  subst hjq
  have hj0 : ((q : Int) + 1 == 0) = false := by simp; omega
  have hq1 : (q : Int) + 1 - 1 = q := by omega
  have OB0 : OpBox (((w.alloc (.cells #[.int .i64 c.nodes, .int .i64 c.queues, .int .i64 c.quota, .int .i64 c.wave, .int .i64 c.lease, .int .i64 c.retry, .int .i64 c.deadline, .int .i64 c.room, .int .i64 c.disk, .slice a1 s.nodes.length c1, .slice a2 s.jobs.length c2, .int .i64 s.goal, .int .i64 s.prior, .int .i64 s.mode, .int .i64 s.term, .int .i64 now] 64)).alloc (.cells #[.int .i64 0, .int .i64 0, .int .i64 0, .int .i64 0, .int .i64 0, .int .i64 0, .int .i64 0] 42)).alloc (.cells #[.bool e0, .bool true, .bool e2, .int .i64 e3, .int .i64 ((q : Int) + 1)] 55)) (w.heap.size + 1) zeroOp := OpBox.kept (K := w.heap.size + 1 + 1) (by have := OpBox.new (w.alloc (.cells #[.int .i64 c.nodes, .int .i64 c.queues, .int .i64 c.quota, .int .i64 c.wave, .int .i64 c.lease, .int .i64 c.retry, .int .i64 c.deadline, .int .i64 c.room, .int .i64 c.disk, .slice a1 s.nodes.length c1, .slice a2 s.jobs.length c2, .int .i64 s.goal, .int .i64 s.prior, .int .i64 s.mode, .int .i64 s.term, .int .i64 now] 64)); simpa using this) (Below.alloc (Below.refl _ _) (by simp) _) (by omega)
  go_enter Try.func41, Try.ntmps41
  go_wp2_with fail
  refine (behind_any s a1 a2 c1 c2 ⟨e0, true, e2, e3, (q : Int) + 1⟩ _ true HBH.out).mono ?_
  rintro e w2 ⟨rfl, hb2⟩
  obtain ⟨hc2, hf2⟩ := bcell hb2
  have hB2 : Below w.heap.size w w2 := ((by repeat (first | (with_reducible exact Below.refl _ _) | ((with_reducible refine Below.setCell ?_ ?_ _); rotate_left 1; focus (first | omega | (simp; done) | (simp; omega))) | ((with_reducible refine Below.alloc ?_ ?_ _); rotate_left 1; focus (first | omega | (simp; done) | (simp; omega))) | (with_reducible refine Below.drew ?_) | (with_reducible refine Below.draws ?_ _) | assumption)) : Below w.heap.size w _).trans (hb2.mono (by first | omega | (simp; done) | (simp; omega)))
  have hz := hb2.size
  simp only [World.size_alloc] at hz
  have hs2 : w.heap.size < w2.heap.size := by omega
  have hs3 : w.heap.size + 1 < w2.heap.size := by omega
  have hs4 : w.heap.size + 1 + 1 < w2.heap.size := by omega
  have OB := OB0.kept hb2 (by simp)
  go_wp2_with fail
  refine Calls.mono (alone_at c s a1 a2 c1 c2 k hk _ false (by rw [← HM.out]; exact HAL.out) HO.out ?_) ?_
  · exact HS.out.below hB2 (Nat.le_refl _)
  rintro e w3 ⟨rfl, hb3⟩
  obtain ⟨hc3, hf3⟩ := bcell hb3
  have hB3 : Below w.heap.size w w3 := hB2.trans (hb3.mono (by omega))
  have hz3 := hb3.size
  have hs5 : w.heap.size < w3.heap.size := by omega
  have hs6 : w.heap.size + 1 < w3.heap.size := by omega
  have hs7 : w.heap.size + 1 + 1 < w3.heap.size := by omega
  have OB3 := OB.kept hb3 hs3
  obtain ⟨bj, oj, j, HJ, hbj, hixj, j0, j1, j2, j3, j4, j5, j6, j7, j8, j9, j10, j11⟩ := job_at (HS.out.below hB3 (Nat.le_refl _)).jobs hql
  obtain rfl : j = jj := by rw [HJ.out, HJJ.out]
  clear HJ HJJ
  have hbj0 : bj ≠ w3.heap.size := by omega
  obtain ⟨y0, y1, y2, y3, y4, y5, y6, y7, y8, y9, y10, y11⟩ := j
  dsimp only at *
  subst hp
  have hdd : decide (drainsL s.jobs y0 < c.quota) = true := by simpa using hd
  have HU := hu
  clear hu
  have hmd : decide (y2 < many (y8 % 64)) = false := by simpa using hm
  have HJS := Lib.hid (HS.out.below hB3 (Nat.le_refl _))
  have k0 : w3.cell? ⟨w.heap.size, 2, none⟩ = some (.int .i64 c.quota) := by go_simp
  have k1 : w3.cell? ⟨w.heap.size, 9, none⟩ = some (.slice a1 s.nodes.length c1) := by go_simp
  have k2 : w3.cell? ⟨w.heap.size, 10, none⟩ = some (.slice a2 s.jobs.length c2) := by go_simp
  have k3 : w3.cell? ⟨w.heap.size, 11, none⟩ = some (.int .i64 s.goal) := by go_simp
  have k4 : w3.cell? ⟨w.heap.size, 12, none⟩ = some (.int .i64 s.prior) := by go_simp
  have k5 : w3.cell? ⟨w.heap.size, 13, none⟩ = some (.int .i64 s.mode) := by go_simp
  have k6 : w3.cell? ⟨w.heap.size, 14, none⟩ = some (.int .i64 s.term) := by go_simp
  have k7 : w3.cell? ⟨w.heap.size, 15, none⟩ = some (.int .i64 now) := by go_simp
  have k8 : w3.cell? ⟨w.heap.size, 6, none⟩ = some (.int .i64 c.deadline) := by go_simp
  have k9 : w3.cell? ⟨w.heap.size + 1 + 1, 4, none⟩ = some (.int .i64 ((q : Int) + 1)) := by go_simp
  have k10 : ∀ i, w3.frozen? ⟨w.heap.size + 1, i, none⟩ = false := fun i => by go_simp
  go_wp2_with fail
  go_quiet ((go_at_call 54; exact Calls.qs (count_any _ _ (by omega) (by omega))))
  go_wp2_with fail
  refine wp_region_held_drew (S := (fun w' => w'.cell? ⟨w.heap.size, 2, none⟩ = some (.int .i64 c.quota) ∧ w'.cell? ⟨w.heap.size, 9, none⟩ = some (.slice a1 s.nodes.length c1) ∧ w'.cell? ⟨w.heap.size, 10, none⟩ = some (.slice a2 s.jobs.length c2) ∧ w'.cell? ⟨w.heap.size, 11, none⟩ = some (.int .i64 s.goal) ∧ w'.cell? ⟨w.heap.size, 12, none⟩ = some (.int .i64 s.prior) ∧ w'.cell? ⟨w.heap.size, 13, none⟩ = some (.int .i64 s.mode) ∧ w'.cell? ⟨w.heap.size, 14, none⟩ = some (.int .i64 s.term) ∧ w'.cell? ⟨w3.heap.size, 6, none⟩ = some (.int .i64 2) ∧ w'.cell? ⟨w3.heap.size, 0, none⟩ = some (.int .i64 y0))) (by kernel_rfl) ?_ (fun hHeld => ?_)
  · (try dsimp only); (repeat' apply And.intro) <;> first | (show (World.alloc _ _).cell? _ = _; rw [World.cell?_alloc_old _ _ _ (by first | omega | (simp; done) | (simp; omega))]; assumption) | (show (World.alloc _ _).cell? _ = _; exact World.cell?_alloc_new ..)
  (refine wpAnyH_take (i := 0) (v := ?_) rfl (by kernel_rfl) (by kernel_rfl) (by kernel_rfl) (fun _ _ _ h => h) (Or.inl ⟨by rfl, ?_⟩) (by assumption) ?_); rotate_left 1; (focus (intro w hSw; (try dsimp only at hSw); go_simp; try (with_reducible rfl))); (try simp only [List.getElem_toArray, List.getElem_cons_zero, List.getElem_cons_succ, Act.put, List.setIfInBounds_toArray, List.set_cons_zero, List.set_cons_succ])
  (refine wpAnyH_take (i := 1) (v := ?_) rfl (by kernel_rfl) (by kernel_rfl) (by kernel_rfl) (fun _ _ _ h => h) (Or.inl ⟨by rfl, ?_⟩) (by assumption) ?_); rotate_left 1; (focus (intro w hSw; (try dsimp only at hSw); go_simp; try (with_reducible rfl))); (try simp only [List.getElem_toArray, List.getElem_cons_zero, List.getElem_cons_succ, Act.put, List.setIfInBounds_toArray, List.set_cons_zero, List.set_cons_succ])
  (refine wpAnyH_take (i := 2) (v := ?_) rfl (by kernel_rfl) (by kernel_rfl) (by kernel_rfl) (fun _ _ _ h => h) (Or.inl ⟨by rfl, ?_⟩) (by assumption) ?_); rotate_left 1; (focus (intro w hSw; (try dsimp only at hSw); go_simp; try (with_reducible rfl))); (try simp only [List.getElem_toArray, List.getElem_cons_zero, List.getElem_cons_succ, Act.put, List.setIfInBounds_toArray, List.set_cons_zero, List.set_cons_succ])
  (refine wpAnyH_take (i := 3) (v := ?_) rfl (by kernel_rfl) (by kernel_rfl) (by kernel_rfl) (fun _ _ _ h => h) (Or.inl ⟨by rfl, ?_⟩) (by assumption) ?_); rotate_left 1; (focus (intro w hSw; (try dsimp only at hSw); go_simp; try (with_reducible rfl))); (try simp only [List.getElem_toArray, List.getElem_cons_zero, List.getElem_cons_succ, Act.put, List.setIfInBounds_toArray, List.set_cons_zero, List.set_cons_succ])
  (refine wpAnyH_take (i := 4) (v := ?_) rfl (by kernel_rfl) (by kernel_rfl) (by kernel_rfl) (fun _ _ _ h => h) (Or.inl ⟨by rfl, ?_⟩) (by assumption) ?_); rotate_left 1; (focus (intro w hSw; (try dsimp only at hSw); go_simp; try (with_reducible rfl))); (try simp only [List.getElem_toArray, List.getElem_cons_zero, List.getElem_cons_succ, Act.put, List.setIfInBounds_toArray, List.set_cons_zero, List.set_cons_succ])
  (refine wpAnyH_take (i := 5) (v := ?_) rfl (by kernel_rfl) (by kernel_rfl) (by kernel_rfl) (fun _ _ _ h => h) (Or.inl ⟨by rfl, ?_⟩) (by assumption) ?_); rotate_left 1; (focus (intro w hSw; (try dsimp only at hSw); go_simp; try (with_reducible rfl))); (try simp only [List.getElem_toArray, List.getElem_cons_zero, List.getElem_cons_succ, Act.put, List.setIfInBounds_toArray, List.set_cons_zero, List.set_cons_succ])
  (refine wpAnyH_take (i := 6) (v := ?_) rfl (by kernel_rfl) (by kernel_rfl) (by kernel_rfl) (fun _ _ _ h => h) (Or.inl ⟨by rfl, ?_⟩) (by assumption) ?_); rotate_left 1; (focus (intro w hSw; (try dsimp only at hSw); go_simp; try (with_reducible rfl))); (try simp only [List.getElem_toArray, List.getElem_cons_zero, List.getElem_cons_succ, Act.put, List.setIfInBounds_toArray, List.set_cons_zero, List.set_cons_succ])
  (refine wpAnyH_take (i := 7) (v := ?_) rfl (by kernel_rfl) (by kernel_rfl) (by kernel_rfl) (fun _ _ _ h => h) (Or.inl ⟨by rfl, ?_⟩) (by assumption) ?_); rotate_left 1; (focus (intro w hSw; (try dsimp only at hSw); go_simp; try (with_reducible rfl))); (try simp only [List.getElem_toArray, List.getElem_cons_zero, List.getElem_cons_succ, Act.put, List.setIfInBounds_toArray, List.set_cons_zero, List.set_cons_succ])
  (refine wpAnyH_take (i := 9) (v := ?_) rfl (by kernel_rfl) (by kernel_rfl) (by kernel_rfl) (fun _ _ _ h => h) (Or.inl ⟨by rfl, ?_⟩) (by assumption) ?_); rotate_left 1; (focus (intro w hSw; (try dsimp only at hSw); go_simp; try (with_reducible rfl))); (try simp only [List.getElem_toArray, List.getElem_cons_zero, List.getElem_cons_succ, Act.put, List.setIfInBounds_toArray, List.set_cons_zero, List.set_cons_succ])
  (refine wpAnyH_take (i := 10) (v := ?_) rfl (by kernel_rfl) (by kernel_rfl) (by kernel_rfl) (fun _ _ _ h => h) (Or.inl ⟨by rfl, ?_⟩) (by assumption) ?_); rotate_left 1; (focus (intro w hSw; (try dsimp only at hSw); go_simp; try (with_reducible rfl))); (try simp only [List.getElem_toArray, List.getElem_cons_zero, List.getElem_cons_succ, Act.put, List.setIfInBounds_toArray, List.set_cons_zero, List.set_cons_succ])
  (refine wpAnyH_take (i := 11) (v := ?_) rfl (by kernel_rfl) (by kernel_rfl) (by kernel_rfl) (fun _ _ _ h => h) (Or.inl ⟨by rfl, ?_⟩) (by assumption) ?_); rotate_left 1; (focus (intro w hSw; (try dsimp only at hSw); go_simp; try (with_reducible rfl))); (try simp only [List.getElem_toArray, List.getElem_cons_zero, List.getElem_cons_succ, Act.put, List.setIfInBounds_toArray, List.set_cons_zero, List.set_cons_succ])
  (refine wpAnyH_ready (rs := [8]) (by kernel_rfl) (by simp) ?_); (refine AllReadyH.cons rfl (fun K hK => ?_) AllReadyH.nil); go_simp
  (go_at_call 37; refine Calls.mono (drains_any s a1 a2 c1 c2 y0 _ ?_ (by omega)) ?_; (focus exact HJS.out.below (by repeat (first | (with_reducible exact Below.refl _ _) | ((with_reducible refine Below.setCell ?_ ?_ _); rotate_left 1; focus (first | omega | (simp; done) | (simp; omega))) | ((with_reducible refine Below.alloc ?_ ?_ _); rotate_left 1; focus (first | omega | (simp; done) | (simp; omega))) | (with_reducible refine Below.drew ?_) | (with_reducible refine Below.draws ?_ _) | assumption)) (Nat.le_refl _)); rintro e w4 ⟨rfl, hb4⟩; obtain ⟨hcd, hfd⟩ := bcell hb4; have hz4 := hb4.size; have hs8 : w3.heap.size < w4.heap.size := (by (try simp at hz4); omega); have hs9 : w.heap.size < w4.heap.size := (by (try simp at hz4); omega))
  (refine hK.out _ _ ?_ (fun hHeld => ?_)); (focus (first | ((try dsimp only at hHeld); (try dsimp only); (try simp only [cdN, World.cell?_drew] at hHeld); (repeat' apply And.intro) <;> (rw [hcd _ _ (by first | omega | (simp; done) | (simp; omega))]; (try simp only [cdN, World.cell?_drew]); (first | (simp only [hHeld]; done) | (exact hHeld.1) | (exact hHeld.2.1) | (exact hHeld.2.2.1) | (exact hHeld.2.2.2.1) | (exact hHeld.2.2.2.2.1) | (exact hHeld.2.2.2.2.2.1) | (exact hHeld.2.2.2.2.2.2.1) | (exact hHeld.2.2.2.2.2.2.2.1) | (exact hHeld.2.2.2.2.2.2.2.2.1) | (exact hHeld.2.2.2.2.2.2.2.2.2.1) | (exact hHeld.2.2.2.2.2.2.2.2.2.2.1) | (exact hHeld.2.2.2.2.2.2.2.2.2.2.2.1) | (exact hHeld.2) | (exact hHeld.2.2) | (exact hHeld.2.2.2) | (exact hHeld.2.2.2.2) | (exact hHeld.2.2.2.2.2) | (exact hHeld.2.2.2.2.2.2) | (exact hHeld.2.2.2.2.2.2.2) | (exact hHeld.2.2.2.2.2.2.2.2) | (exact hHeld.2.2.2.2.2.2.2.2.2) | (exact hHeld.2.2.2.2.2.2.2.2.2.2) | (exact hHeld.2.2.2.2.2.2.2.2.2.2.2)))) | (first | (go_keep; done) | ((try dsimp only); (repeat' apply And.intro) <;> (first | (go_keep; done) | (simp [hcd, lt2, lt3, lt4, lt5, cell_a2, cell_a3, cell_a4, cell_a5]; done) | (simp [cell_n2, cell_n3, cell_n12, cell_a2, cell_a3, cell_a4]; done) | (simp [cell_n2, cell_n3, hcd]; done) | (simp [cell_n12, hcd]; done)))))); clear hK K; (try simp only [List.getElem_toArray, List.getElem_cons_zero, List.getElem_cons_succ, Act.put, List.setIfInBounds_toArray, List.set_cons_zero, List.set_cons_succ])
  (refine wpAnyH_take (i := 12) (v := ?_) rfl (by kernel_rfl) (by kernel_rfl) (by kernel_rfl) (fun _ _ _ h => h) (Or.inl ⟨by rfl, ?_⟩) (by assumption) ?_); rotate_left 1; (focus (intro w hSw; (try dsimp only at hSw); go_simp; try (with_reducible rfl))); (try simp only [List.getElem_toArray, List.getElem_cons_zero, List.getElem_cons_succ, Act.put, List.setIfInBounds_toArray, List.set_cons_zero, List.set_cons_succ])
  (refine wpAnyH_take (i := 13) (v := ?_) rfl (by kernel_rfl) (by kernel_rfl) (by kernel_rfl) (fun _ _ _ h => h) (Or.inl ⟨by rfl, ?_⟩) (by assumption) ?_); rotate_left 1; (focus (intro w hSw; (try dsimp only at hSw); go_simp; try (with_reducible rfl))); (try simp only [List.getElem_toArray, List.getElem_cons_zero, List.getElem_cons_succ, Act.put, List.setIfInBounds_toArray, List.set_cons_zero, List.set_cons_succ])
  (refine wpAnyH_take (i := 14) (v := ?_) rfl (by kernel_rfl) (by kernel_rfl) (by kernel_rfl) (fun _ _ _ h => h) (Or.inl ⟨by rfl, ?_⟩) (by assumption) ?_); rotate_left 1; (focus (intro w hSw; (try dsimp only at hSw); go_simp; try (with_reducible rfl))); (try simp only [List.getElem_toArray, List.getElem_cons_zero, List.getElem_cons_succ, Act.put, List.setIfInBounds_toArray, List.set_cons_zero, List.set_cons_succ])
  refine wpAnyH_done (by kernel_rfl) ?_ _
  have hB34 : Below w3.heap.size w3 w4 := ((by repeat (first | (with_reducible exact Below.refl _ _) | ((with_reducible refine Below.setCell ?_ ?_ _); rotate_left 1; focus (first | omega | (simp; done) | (simp; omega))) | ((with_reducible refine Below.alloc ?_ ?_ _); rotate_left 1; focus (first | omega | (simp; done) | (simp; omega))) | (with_reducible refine Below.drew ?_) | (with_reducible refine Below.draws ?_ _) | assumption)) : Below w3.heap.size w3 _).trans (hb4.mono (by first | omega | (simp; done) | (simp; omega)))
  have OB4 := OB3.kept hB34 hs6
  have hB4 : Below w.heap.size w w4 := hB3.trans (hB34.mono (by omega))
  have hs10 : w.heap.size + 1 < w4.heap.size := by have := hB34.size; omega
  have hs11 : w.heap.size + 1 + 1 < w4.heap.size := by have := hB34.size; omega
  have m7 : w4.cell? ⟨w.heap.size, 15, none⟩ = some (.int .i64 now) := (hB34.cell (p := ⟨w.heap.size, 15, none⟩) hs5).trans k7
  have m8 : w4.cell? ⟨w.heap.size, 6, none⟩ = some (.int .i64 c.deadline) := (hB34.cell (p := ⟨w.heap.size, 6, none⟩) hs5).trans k8
  have m9 : w4.cell? ⟨w.heap.size + 1 + 1, 4, none⟩ = some (.int .i64 ((q : Int) + 1)) := (hB34.cell (p := ⟨w.heap.size + 1 + 1, 4, none⟩) hs7).trans k9
  have f4 : ∀ i, w4.frozen? ⟨w.heap.size + 1, i, none⟩ = false := fun i => (hB34.frozen (p := ⟨w.heap.size + 1, i, none⟩) hs6).trans (k10 i)
  obtain ⟨r0, r1, r2, r3, r4, r5, r6⟩ := OB4.cells
  dsimp only [zeroOp] at r0 r1 r2 r3 r4 r5 r6
  clear hcd hfd hc2 hf2 hc3 hf3 hHeld
  by_cases hmx : 1000000 ≤ now + c.deadline
  · obtain rfl : u = 1000000 := by have := HU.out; rw [if_pos hmx] at this; exact this
    go_wp2
    exact bodyPost_ret (v := opOkV ⟨12, q + 1, 1000000, 0, 0, 0, 0⟩ true) (res_opok rfl _ _ (w.heap.size + 1) ⟨12, q + 1, 1000000, 0, 0, 0, 0⟩ true rfl (by show OpBox _ _ _; repeat (first | (with_reducible exact OB4) | (with_reducible refine OpBox.set (o := zeroOp) ?_ ⟨12, q + 1, 1000000, 0, 0, 0, 0⟩) | ((with_reducible refine OpBox.alloc ?_ ?_ _); rotate_left 1; focus (first | omega | (simp; done) | (simp; omega))) | (with_reducible refine OpBox.drawsN ?_ _) | (with_reducible refine OpBox.draw ?_))) rfl) rfl ⟨rfl, hB4.trans (by repeat (first | (with_reducible exact Below.refl _ _) | ((with_reducible refine Below.setCell ?_ ?_ _); rotate_left 1; focus (first | omega | (simp; done) | (simp; omega))) | ((with_reducible refine Below.alloc ?_ ?_ _); rotate_left 1; focus (first | omega | (simp; done) | (simp; omega))) | (with_reducible refine Below.drew ?_) | (with_reducible refine Below.draws ?_ _) | assumption))⟩
  · obtain rfl : u = now + c.deadline := by have := HU.out; rw [if_neg hmx] at this; exact this
    go_wp2
    exact bodyPost_ret (v := opOkV ⟨12, q + 1, now + c.deadline, 0, 0, 0, 0⟩ true) (res_opok rfl _ _ (w.heap.size + 1) ⟨12, q + 1, now + c.deadline, 0, 0, 0, 0⟩ true rfl (by show OpBox _ _ _; repeat (first | (with_reducible exact OB4) | (with_reducible refine OpBox.set (o := zeroOp) ?_ ⟨12, q + 1, now + c.deadline, 0, 0, 0, 0⟩) | ((with_reducible refine OpBox.alloc ?_ ?_ _); rotate_left 1; focus (first | omega | (simp; done) | (simp; omega))) | (with_reducible refine OpBox.drawsN ?_ _) | (with_reducible refine OpBox.draw ?_))) rfl) rfl ⟨rfl, hB4.trans (by repeat (first | (with_reducible exact Below.refl _ _) | ((with_reducible refine Below.setCell ?_ ?_ _); rotate_left 1; focus (first | omega | (simp; done) | (simp; omega))) | ((with_reducible refine Below.alloc ?_ ?_ _); rotate_left 1; focus (first | omega | (simp; done) | (simp; omega))) | (with_reducible refine Below.drew ?_) | (with_reducible refine Below.draws ?_ _) | assumption))⟩

set_option maxHeartbeats 4000000 in
theorem clear_q (c : ConfD) (s : StateD) (a1 a2 : Option Addr) (c1 c2 : Nat) (now : Int) (k : Nat) (hk : k < s.nodes.length) (w : World) (hO : Okay c s) (hS : StateAt w s a1 a2) (hnow : 0 ≤ now ∧ now ≤ 1000000) (q : Nat) (hql : q < s.jobs.length) (hco : (s.nodes.getD k zeroNode).cordon = true) (hbh : behindB s (s.nodes.getD k zeroNode) = true) (hal : aloneN s (s.nodes.getD k zeroNode) = false) (hjq : (s.nodes.getD k zeroNode).job = (q : Int) + 1) (hp : (s.jobs.getD q zeroJob).phase = 2) (hm : ¬ (s.jobs.getD q zeroJob).min < many ((s.jobs.getD q zeroJob).nodes % 64)) (hd : ¬ drainsL s.jobs (s.jobs.getD q zeroJob).queue < c.quota) :
    Calls Try.prog 41 #[viewV c s a1 a2 c1 c2 now, .int .i64 (k : Int)] w (Ret w (opOkV zeroOp false)) := by
  have hn6 : s.nodes.length ≤ 6 := by have := hO.nodes; have := hO.conf; omega
  have hk2 : ¬ s.nodes.length ≤ k := by omega
  have HO := Lib.hid hO
  have HS := Lib.hid hS
  obtain ⟨b, o, nd, HM, hb, hix, d0, d1, d2, d3, d4⟩ := node_at hS.nodes hk
  have hb0 : b ≠ w.heap.size := by omega
  rw [← HM.out] at hco hbh hal hjq
  have HBH := Lib.hid hbh
  have HAL := Lib.hid hal
  have hl24 := hO.jobs
  have hcf := hO.conf
  have hpb := hO.job hql
  have hbits := hO.bits hql
  obtain ⟨jj, hjj⟩ : ∃ j, j = s.jobs.getD q zeroJob := ⟨_, rfl⟩
  rw [← hjj] at hpb hbits hp hm hd
  have HJJ := Lib.hid hjj
  clear hO hS hbh hal hjj
  obtain ⟨e0, e1, e2, e3, e4⟩ := nd
  dsimp only at *
  subst hco
  subst hjq
  have hj0 : ((q : Int) + 1 == 0) = false := by simp; omega
  have hq1 : (q : Int) + 1 - 1 = q := by omega
  have OB0 : OpBox (((w.alloc (.cells #[.int .i64 c.nodes, .int .i64 c.queues, .int .i64 c.quota, .int .i64 c.wave, .int .i64 c.lease, .int .i64 c.retry, .int .i64 c.deadline, .int .i64 c.room, .int .i64 c.disk, .slice a1 s.nodes.length c1, .slice a2 s.jobs.length c2, .int .i64 s.goal, .int .i64 s.prior, .int .i64 s.mode, .int .i64 s.term, .int .i64 now] 64)).alloc (.cells #[.int .i64 0, .int .i64 0, .int .i64 0, .int .i64 0, .int .i64 0, .int .i64 0, .int .i64 0] 42)).alloc (.cells #[.bool e0, .bool true, .bool e2, .int .i64 e3, .int .i64 ((q : Int) + 1)] 55)) (w.heap.size + 1) zeroOp := OpBox.kept (K := w.heap.size + 1 + 1) (by have := OpBox.new (w.alloc (.cells #[.int .i64 c.nodes, .int .i64 c.queues, .int .i64 c.quota, .int .i64 c.wave, .int .i64 c.lease, .int .i64 c.retry, .int .i64 c.deadline, .int .i64 c.room, .int .i64 c.disk, .slice a1 s.nodes.length c1, .slice a2 s.jobs.length c2, .int .i64 s.goal, .int .i64 s.prior, .int .i64 s.mode, .int .i64 s.term, .int .i64 now] 64)); simpa using this) (Below.alloc (Below.refl _ _) (by simp) _) (by omega)
  go_enter Try.func41, Try.ntmps41
  go_wp2_with fail
  refine (behind_any s a1 a2 c1 c2 ⟨e0, true, e2, e3, (q : Int) + 1⟩ _ true HBH.out).mono ?_
  rintro e w2 ⟨rfl, hb2⟩
  obtain ⟨hc2, hf2⟩ := bcell hb2
  have hB2 : Below w.heap.size w w2 := ((by repeat (first | (with_reducible exact Below.refl _ _) | ((with_reducible refine Below.setCell ?_ ?_ _); rotate_left 1; focus (first | omega | (simp; done) | (simp; omega))) | ((with_reducible refine Below.alloc ?_ ?_ _); rotate_left 1; focus (first | omega | (simp; done) | (simp; omega))) | (with_reducible refine Below.drew ?_) | (with_reducible refine Below.draws ?_ _) | assumption)) : Below w.heap.size w _).trans (hb2.mono (by first | omega | (simp; done) | (simp; omega)))
  have hz := hb2.size
  simp only [World.size_alloc] at hz
  have hs2 : w.heap.size < w2.heap.size := by omega
  have hs3 : w.heap.size + 1 < w2.heap.size := by omega
  have hs4 : w.heap.size + 1 + 1 < w2.heap.size := by omega
  have OB := OB0.kept hb2 (by simp)
  go_wp2_with fail
  refine Calls.mono (alone_at c s a1 a2 c1 c2 k hk _ false (by rw [← HM.out]; exact HAL.out) HO.out ?_) ?_
  · exact HS.out.below hB2 (Nat.le_refl _)
  rintro e w3 ⟨rfl, hb3⟩
  obtain ⟨hc3, hf3⟩ := bcell hb3
  have hB3 : Below w.heap.size w w3 := hB2.trans (hb3.mono (by omega))
  have hz3 := hb3.size
  have hs5 : w.heap.size < w3.heap.size := by omega
  have hs6 : w.heap.size + 1 < w3.heap.size := by omega
  have hs7 : w.heap.size + 1 + 1 < w3.heap.size := by omega
  have OB3 := OB.kept hb3 hs3
  obtain ⟨bj, oj, j, HJ, hbj, hixj, j0, j1, j2, j3, j4, j5, j6, j7, j8, j9, j10, j11⟩ := job_at (HS.out.below hB3 (Nat.le_refl _)).jobs hql
  obtain rfl : j = jj := by rw [HJ.out, HJJ.out]
  clear HJ HJJ
  have hbj0 : bj ≠ w3.heap.size := by omega
  obtain ⟨y0, y1, y2, y3, y4, y5, y6, y7, y8, y9, y10, y11⟩ := j
  dsimp only at *
  subst hp
  have hdd : decide (drainsL s.jobs y0 < c.quota) = false := by simpa using hd
  have hmd : decide (y2 < many (y8 % 64)) = false := by simpa using hm
  have HJS := Lib.hid (HS.out.below hB3 (Nat.le_refl _))
  have k0 : w3.cell? ⟨w.heap.size, 2, none⟩ = some (.int .i64 c.quota) := by go_simp
  have k1 : w3.cell? ⟨w.heap.size, 9, none⟩ = some (.slice a1 s.nodes.length c1) := by go_simp
  have k2 : w3.cell? ⟨w.heap.size, 10, none⟩ = some (.slice a2 s.jobs.length c2) := by go_simp
  have k3 : w3.cell? ⟨w.heap.size, 11, none⟩ = some (.int .i64 s.goal) := by go_simp
  have k4 : w3.cell? ⟨w.heap.size, 12, none⟩ = some (.int .i64 s.prior) := by go_simp
  have k5 : w3.cell? ⟨w.heap.size, 13, none⟩ = some (.int .i64 s.mode) := by go_simp
  have k6 : w3.cell? ⟨w.heap.size, 14, none⟩ = some (.int .i64 s.term) := by go_simp
  have k7 : w3.cell? ⟨w.heap.size, 15, none⟩ = some (.int .i64 now) := by go_simp
  have k8 : w3.cell? ⟨w.heap.size, 6, none⟩ = some (.int .i64 c.deadline) := by go_simp
  have k9 : w3.cell? ⟨w.heap.size + 1 + 1, 4, none⟩ = some (.int .i64 ((q : Int) + 1)) := by go_simp
  have k10 : ∀ i, w3.frozen? ⟨w.heap.size + 1, i, none⟩ = false := fun i => by go_simp
  go_wp2_with fail
  go_quiet ((go_at_call 54; exact Calls.qs (count_any _ _ (by omega) (by omega))))
  go_wp2_with fail
  refine wp_region_held_drew (S := (fun w' => w'.cell? ⟨w.heap.size, 2, none⟩ = some (.int .i64 c.quota) ∧ w'.cell? ⟨w.heap.size, 9, none⟩ = some (.slice a1 s.nodes.length c1) ∧ w'.cell? ⟨w.heap.size, 10, none⟩ = some (.slice a2 s.jobs.length c2) ∧ w'.cell? ⟨w.heap.size, 11, none⟩ = some (.int .i64 s.goal) ∧ w'.cell? ⟨w.heap.size, 12, none⟩ = some (.int .i64 s.prior) ∧ w'.cell? ⟨w.heap.size, 13, none⟩ = some (.int .i64 s.mode) ∧ w'.cell? ⟨w.heap.size, 14, none⟩ = some (.int .i64 s.term) ∧ w'.cell? ⟨w3.heap.size, 6, none⟩ = some (.int .i64 2) ∧ w'.cell? ⟨w3.heap.size, 0, none⟩ = some (.int .i64 y0))) (by kernel_rfl) ?_ (fun hHeld => ?_)
  · (try dsimp only); (repeat' apply And.intro) <;> first | (show (World.alloc _ _).cell? _ = _; rw [World.cell?_alloc_old _ _ _ (by first | omega | (simp; done) | (simp; omega))]; assumption) | (show (World.alloc _ _).cell? _ = _; exact World.cell?_alloc_new ..)
  (refine wpAnyH_take (i := 0) (v := ?_) rfl (by kernel_rfl) (by kernel_rfl) (by kernel_rfl) (fun _ _ _ h => h) (Or.inl ⟨by rfl, ?_⟩) (by assumption) ?_); rotate_left 1; (focus (intro w hSw; (try dsimp only at hSw); go_simp; try (with_reducible rfl))); (try simp only [List.getElem_toArray, List.getElem_cons_zero, List.getElem_cons_succ, Act.put, List.setIfInBounds_toArray, List.set_cons_zero, List.set_cons_succ])
  (refine wpAnyH_take (i := 1) (v := ?_) rfl (by kernel_rfl) (by kernel_rfl) (by kernel_rfl) (fun _ _ _ h => h) (Or.inl ⟨by rfl, ?_⟩) (by assumption) ?_); rotate_left 1; (focus (intro w hSw; (try dsimp only at hSw); go_simp; try (with_reducible rfl))); (try simp only [List.getElem_toArray, List.getElem_cons_zero, List.getElem_cons_succ, Act.put, List.setIfInBounds_toArray, List.set_cons_zero, List.set_cons_succ])
  (refine wpAnyH_take (i := 2) (v := ?_) rfl (by kernel_rfl) (by kernel_rfl) (by kernel_rfl) (fun _ _ _ h => h) (Or.inl ⟨by rfl, ?_⟩) (by assumption) ?_); rotate_left 1; (focus (intro w hSw; (try dsimp only at hSw); go_simp; try (with_reducible rfl))); (try simp only [List.getElem_toArray, List.getElem_cons_zero, List.getElem_cons_succ, Act.put, List.setIfInBounds_toArray, List.set_cons_zero, List.set_cons_succ])
  (refine wpAnyH_take (i := 3) (v := ?_) rfl (by kernel_rfl) (by kernel_rfl) (by kernel_rfl) (fun _ _ _ h => h) (Or.inl ⟨by rfl, ?_⟩) (by assumption) ?_); rotate_left 1; (focus (intro w hSw; (try dsimp only at hSw); go_simp; try (with_reducible rfl))); (try simp only [List.getElem_toArray, List.getElem_cons_zero, List.getElem_cons_succ, Act.put, List.setIfInBounds_toArray, List.set_cons_zero, List.set_cons_succ])
  (refine wpAnyH_take (i := 4) (v := ?_) rfl (by kernel_rfl) (by kernel_rfl) (by kernel_rfl) (fun _ _ _ h => h) (Or.inl ⟨by rfl, ?_⟩) (by assumption) ?_); rotate_left 1; (focus (intro w hSw; (try dsimp only at hSw); go_simp; try (with_reducible rfl))); (try simp only [List.getElem_toArray, List.getElem_cons_zero, List.getElem_cons_succ, Act.put, List.setIfInBounds_toArray, List.set_cons_zero, List.set_cons_succ])
  (refine wpAnyH_take (i := 5) (v := ?_) rfl (by kernel_rfl) (by kernel_rfl) (by kernel_rfl) (fun _ _ _ h => h) (Or.inl ⟨by rfl, ?_⟩) (by assumption) ?_); rotate_left 1; (focus (intro w hSw; (try dsimp only at hSw); go_simp; try (with_reducible rfl))); (try simp only [List.getElem_toArray, List.getElem_cons_zero, List.getElem_cons_succ, Act.put, List.setIfInBounds_toArray, List.set_cons_zero, List.set_cons_succ])
  (refine wpAnyH_take (i := 6) (v := ?_) rfl (by kernel_rfl) (by kernel_rfl) (by kernel_rfl) (fun _ _ _ h => h) (Or.inl ⟨by rfl, ?_⟩) (by assumption) ?_); rotate_left 1; (focus (intro w hSw; (try dsimp only at hSw); go_simp; try (with_reducible rfl))); (try simp only [List.getElem_toArray, List.getElem_cons_zero, List.getElem_cons_succ, Act.put, List.setIfInBounds_toArray, List.set_cons_zero, List.set_cons_succ])
  (refine wpAnyH_take (i := 7) (v := ?_) rfl (by kernel_rfl) (by kernel_rfl) (by kernel_rfl) (fun _ _ _ h => h) (Or.inl ⟨by rfl, ?_⟩) (by assumption) ?_); rotate_left 1; (focus (intro w hSw; (try dsimp only at hSw); go_simp; try (with_reducible rfl))); (try simp only [List.getElem_toArray, List.getElem_cons_zero, List.getElem_cons_succ, Act.put, List.setIfInBounds_toArray, List.set_cons_zero, List.set_cons_succ])
  (refine wpAnyH_take (i := 9) (v := ?_) rfl (by kernel_rfl) (by kernel_rfl) (by kernel_rfl) (fun _ _ _ h => h) (Or.inl ⟨by rfl, ?_⟩) (by assumption) ?_); rotate_left 1; (focus (intro w hSw; (try dsimp only at hSw); go_simp; try (with_reducible rfl))); (try simp only [List.getElem_toArray, List.getElem_cons_zero, List.getElem_cons_succ, Act.put, List.setIfInBounds_toArray, List.set_cons_zero, List.set_cons_succ])
  (refine wpAnyH_take (i := 10) (v := ?_) rfl (by kernel_rfl) (by kernel_rfl) (by kernel_rfl) (fun _ _ _ h => h) (Or.inl ⟨by rfl, ?_⟩) (by assumption) ?_); rotate_left 1; (focus (intro w hSw; (try dsimp only at hSw); go_simp; try (with_reducible rfl))); (try simp only [List.getElem_toArray, List.getElem_cons_zero, List.getElem_cons_succ, Act.put, List.setIfInBounds_toArray, List.set_cons_zero, List.set_cons_succ])
  (refine wpAnyH_take (i := 11) (v := ?_) rfl (by kernel_rfl) (by kernel_rfl) (by kernel_rfl) (fun _ _ _ h => h) (Or.inl ⟨by rfl, ?_⟩) (by assumption) ?_); rotate_left 1; (focus (intro w hSw; (try dsimp only at hSw); go_simp; try (with_reducible rfl))); (try simp only [List.getElem_toArray, List.getElem_cons_zero, List.getElem_cons_succ, Act.put, List.setIfInBounds_toArray, List.set_cons_zero, List.set_cons_succ])
  (refine wpAnyH_ready (rs := [8]) (by kernel_rfl) (by simp) ?_); (refine AllReadyH.cons rfl (fun K hK => ?_) AllReadyH.nil); go_simp
  (go_at_call 37; refine Calls.mono (drains_any s a1 a2 c1 c2 y0 _ ?_ (by omega)) ?_; (focus exact HJS.out.below (by repeat (first | (with_reducible exact Below.refl _ _) | ((with_reducible refine Below.setCell ?_ ?_ _); rotate_left 1; focus (first | omega | (simp; done) | (simp; omega))) | ((with_reducible refine Below.alloc ?_ ?_ _); rotate_left 1; focus (first | omega | (simp; done) | (simp; omega))) | (with_reducible refine Below.drew ?_) | (with_reducible refine Below.draws ?_ _) | assumption)) (Nat.le_refl _)); rintro e w4 ⟨rfl, hb4⟩; obtain ⟨hcd, hfd⟩ := bcell hb4; have hz4 := hb4.size; have hs8 : w3.heap.size < w4.heap.size := (by (try simp at hz4); omega); have hs9 : w.heap.size < w4.heap.size := (by (try simp at hz4); omega))
  (refine hK.out _ _ ?_ (fun hHeld => ?_)); (focus (first | ((try dsimp only at hHeld); (try dsimp only); (try simp only [cdN, World.cell?_drew] at hHeld); (repeat' apply And.intro) <;> (rw [hcd _ _ (by first | omega | (simp; done) | (simp; omega))]; (try simp only [cdN, World.cell?_drew]); (first | (simp only [hHeld]; done) | (exact hHeld.1) | (exact hHeld.2.1) | (exact hHeld.2.2.1) | (exact hHeld.2.2.2.1) | (exact hHeld.2.2.2.2.1) | (exact hHeld.2.2.2.2.2.1) | (exact hHeld.2.2.2.2.2.2.1) | (exact hHeld.2.2.2.2.2.2.2.1) | (exact hHeld.2.2.2.2.2.2.2.2.1) | (exact hHeld.2.2.2.2.2.2.2.2.2.1) | (exact hHeld.2.2.2.2.2.2.2.2.2.2.1) | (exact hHeld.2.2.2.2.2.2.2.2.2.2.2.1) | (exact hHeld.2) | (exact hHeld.2.2) | (exact hHeld.2.2.2) | (exact hHeld.2.2.2.2) | (exact hHeld.2.2.2.2.2) | (exact hHeld.2.2.2.2.2.2) | (exact hHeld.2.2.2.2.2.2.2) | (exact hHeld.2.2.2.2.2.2.2.2) | (exact hHeld.2.2.2.2.2.2.2.2.2) | (exact hHeld.2.2.2.2.2.2.2.2.2.2) | (exact hHeld.2.2.2.2.2.2.2.2.2.2.2)))) | (first | (go_keep; done) | ((try dsimp only); (repeat' apply And.intro) <;> (first | (go_keep; done) | (simp [hcd, lt2, lt3, lt4, lt5, cell_a2, cell_a3, cell_a4, cell_a5]; done) | (simp [cell_n2, cell_n3, cell_n12, cell_a2, cell_a3, cell_a4]; done) | (simp [cell_n2, cell_n3, hcd]; done) | (simp [cell_n12, hcd]; done)))))); clear hK K; (try simp only [List.getElem_toArray, List.getElem_cons_zero, List.getElem_cons_succ, Act.put, List.setIfInBounds_toArray, List.set_cons_zero, List.set_cons_succ])
  (refine wpAnyH_take (i := 12) (v := ?_) rfl (by kernel_rfl) (by kernel_rfl) (by kernel_rfl) (fun _ _ _ h => h) (Or.inl ⟨by rfl, ?_⟩) (by assumption) ?_); rotate_left 1; (focus (intro w hSw; (try dsimp only at hSw); go_simp; try (with_reducible rfl))); (try simp only [List.getElem_toArray, List.getElem_cons_zero, List.getElem_cons_succ, Act.put, List.setIfInBounds_toArray, List.set_cons_zero, List.set_cons_succ])
  (refine wpAnyH_take (i := 13) (v := ?_) rfl (by kernel_rfl) (by kernel_rfl) (by kernel_rfl) (fun _ _ _ h => h) (Or.inl ⟨by rfl, ?_⟩) (by assumption) ?_); rotate_left 1; (focus (intro w hSw; (try dsimp only at hSw); go_simp; try (with_reducible rfl))); (try simp only [List.getElem_toArray, List.getElem_cons_zero, List.getElem_cons_succ, Act.put, List.setIfInBounds_toArray, List.set_cons_zero, List.set_cons_succ])
  (refine wpAnyH_take (i := 14) (v := ?_) rfl (by kernel_rfl) (by kernel_rfl) (by kernel_rfl) (fun _ _ _ h => h) (Or.inl ⟨by rfl, ?_⟩) (by assumption) ?_); rotate_left 1; (focus (intro w hSw; (try dsimp only at hSw); go_simp; try (with_reducible rfl))); (try simp only [List.getElem_toArray, List.getElem_cons_zero, List.getElem_cons_succ, Act.put, List.setIfInBounds_toArray, List.set_cons_zero, List.set_cons_succ])
  refine wpAnyH_done (by kernel_rfl) ?_ _
  have hB34 : Below w3.heap.size w3 w4 := ((by repeat (first | (with_reducible exact Below.refl _ _) | ((with_reducible refine Below.setCell ?_ ?_ _); rotate_left 1; focus (first | omega | (simp; done) | (simp; omega))) | ((with_reducible refine Below.alloc ?_ ?_ _); rotate_left 1; focus (first | omega | (simp; done) | (simp; omega))) | (with_reducible refine Below.drew ?_) | (with_reducible refine Below.draws ?_ _) | assumption)) : Below w3.heap.size w3 _).trans (hb4.mono (by first | omega | (simp; done) | (simp; omega)))
  have OB4 := OB3.kept hB34 hs6
  have hB4 : Below w.heap.size w w4 := hB3.trans (hB34.mono (by omega))
  have hs10 : w.heap.size + 1 < w4.heap.size := by have := hB34.size; omega
  have hs11 : w.heap.size + 1 + 1 < w4.heap.size := by have := hB34.size; omega
  have m7 : w4.cell? ⟨w.heap.size, 15, none⟩ = some (.int .i64 now) := (hB34.cell (p := ⟨w.heap.size, 15, none⟩) hs5).trans k7
  have m8 : w4.cell? ⟨w.heap.size, 6, none⟩ = some (.int .i64 c.deadline) := (hB34.cell (p := ⟨w.heap.size, 6, none⟩) hs5).trans k8
  have m9 : w4.cell? ⟨w.heap.size + 1 + 1, 4, none⟩ = some (.int .i64 ((q : Int) + 1)) := (hB34.cell (p := ⟨w.heap.size + 1 + 1, 4, none⟩) hs7).trans k9
  have f4 : ∀ i, w4.frozen? ⟨w.heap.size + 1, i, none⟩ = false := fun i => (hB34.frozen (p := ⟨w.heap.size + 1, i, none⟩) hs6).trans (k10 i)
  obtain ⟨r0, r1, r2, r3, r4, r5, r6⟩ := OB4.cells
  dsimp only [zeroOp] at r0 r1 r2 r3 r4 r5 r6
  clear hcd hfd hc2 hf2 hc3 hf3 hHeld
  go_wp2
  exact bodyPost_ret (v := opOkV zeroOp false) (res_opok rfl _ _ (w.heap.size + 1) ⟨0, 0, 0, 0, 0, 0, 0⟩ false rfl (by show OpBox _ _ _; repeat (first | (with_reducible exact OB4) | (with_reducible refine OpBox.set (o := zeroOp) ?_ ⟨0, 0, 0, 0, 0, 0, 0⟩) | ((with_reducible refine OpBox.alloc ?_ ?_ _); rotate_left 1; focus (first | omega | (simp; done) | (simp; omega))) | (with_reducible refine OpBox.drawsN ?_ _) | (with_reducible refine OpBox.draw ?_))) rfl) rfl ⟨rfl, hB4.trans (by repeat (first | (with_reducible exact Below.refl _ _) | ((with_reducible refine Below.setCell ?_ ?_ _); rotate_left 1; focus (first | omega | (simp; done) | (simp; omega))) | ((with_reducible refine Below.alloc ?_ ?_ _); rotate_left 1; focus (first | omega | (simp; done) | (simp; omega))) | (with_reducible refine Below.drew ?_) | (with_reducible refine Below.draws ?_ _) | assumption))⟩

end Go.Proofs.Ytclgmpflmeopmaa
