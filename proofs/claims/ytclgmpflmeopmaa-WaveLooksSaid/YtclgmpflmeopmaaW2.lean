import Derived.Test.YtclgmpflmeopmaaW1
set_option linter.unusedVariables false
set_option linter.unusedSimpArgs false
namespace Go.Proofs.Ytclgmpflmeopmaa
open Go.RowKit Dun

set_option maxHeartbeats 1000000 in
theorem alone_any (c : ConfD) (s : StateD) (a1 a2 : Option Addr) (c1 c2 : Nat) (i : Int) (w : World) (r : Bool) (hr : aloneB s i = r) (hO : Okay c s) (hS : StateAt w s a1 a2) :
    Calls Try.prog 18 #[stateV s a1 a2 c1 c2, .int .i64 i] w (Ret w (.bool r)) := by
  have HM := Lib.hid (meant_is s a1 a2 c1 c2)
  have hn6 : s.nodes.length ≤ 6 := by have := hO.nodes; have := hO.conf; omega
  have hl24 := hO.jobs
  have HO := Lib.hid hO
  have HS := Lib.hid hS
  have HR := Lib.hid hr
  clear hr hO hS
  by_cases hi0 : i < 0
  · obtain rfl : false = r := by have := HR.out; unfold aloneB at this; rw [if_pos (Or.inl hi0)] at this; exact this
    clear HR HO HS HM
    obtain ⟨ns, js, g, p, m, t⟩ := s
    dsimp only [stateV] at *
    go_enter Try.func18, Try.ntmps18
    go_wp2
    go_ret
    exact ⟨rfl, (by repeat (first | (with_reducible exact Below.refl _ _) | ((with_reducible refine Below.setCell ?_ ?_ _); rotate_left 1; focus (first | omega | (simp; done) | (simp; omega))) | ((with_reducible refine Below.alloc ?_ ?_ _); rotate_left 1; focus (first | omega | (simp; done) | (simp; omega))) | (with_reducible refine Below.drew ?_) | (with_reducible refine Below.draws ?_ _) | assumption))⟩
  by_cases hi1 : (s.nodes.length : Int) ≤ i
  · obtain rfl : false = r := by have := HR.out; unfold aloneB at this; rw [if_pos (Or.inr hi1)] at this; exact this
    clear HR HO HS HM
    obtain ⟨ns, js, g, p, m, t⟩ := s
    dsimp only [stateV] at *
    go_enter Try.func18, Try.ntmps18
    go_wp2
    go_ret
    exact ⟨rfl, (by repeat (first | (with_reducible exact Below.refl _ _) | ((with_reducible refine Below.setCell ?_ ?_ _); rotate_left 1; focus (first | omega | (simp; done) | (simp; omega))) | ((with_reducible refine Below.alloc ?_ ?_ _); rotate_left 1; focus (first | omega | (simp; done) | (simp; omega))) | (with_reducible refine Below.drew ?_) | (with_reducible refine Below.draws ?_ _) | assumption))⟩
  obtain ⟨k, rfl⟩ := Int.eq_ofNat_of_zero_le (show 0 ≤ i by omega)
  have hk : k < s.nodes.length := by omega
  have hr := HR.out
  unfold aloneB at hr
  rw [if_neg (by omega), Int.toNat_natCast] at hr
  clear HR hi0 hi1
  have hnj := HO.out.node hk
  obtain ⟨b, o, nd, HND, hb, hix, d0, d1, d2, d3, d4⟩ := node_at HS.out.nodes hk
  rw [← HND.out] at hr hnj
  unfold aloneN at hr
  by_cases h0 : nd.job = 0
  · rw [if_pos h0] at hr
    subst hr
    clear HO HS HM HND
    obtain ⟨ns, js, g, p, m, t⟩ := s
    obtain ⟨e0, e1, e2, e3, e4⟩ := nd
    dsimp only [stateV] at *
    subst h0
    have hk2 : ¬ ns.length ≤ k := by omega
    go_enter Try.func18, Try.ntmps18
    go_wp2
    go_ret
    exact ⟨rfl, (by repeat (first | (with_reducible exact Below.refl _ _) | ((with_reducible refine Below.setCell ?_ ?_ _); rotate_left 1; focus (first | omega | (simp; done) | (simp; omega))) | ((with_reducible refine Below.alloc ?_ ?_ _); rotate_left 1; focus (first | omega | (simp; done) | (simp; omega))) | (with_reducible refine Below.drew ?_) | (with_reducible refine Below.draws ?_ _) | assumption))⟩
  rw [if_neg h0] at hr
  obtain ⟨q, hq⟩ : ∃ q : Nat, nd.job = (q : Int) + 1 := ⟨(nd.job - 1).toNat, by omega⟩
  have hql : q < s.jobs.length := by omega
  obtain ⟨bj, oj, j, HJ, hbj, hixj, j0, j1, j2, j3, j4, j5, j6, j7, j8, j9, j10, j11⟩ := job_at HS.out.jobs hql
  have hq1 : (q : Int) + 1 - 1 = q := by omega
  have hpin : pinOf s nd.job = j.pin := by unfold pinOf; rw [hq, hq1, Int.toNat_natCast, ← HJ.out]
  have hpb := HO.out.job hql
  rw [← HJ.out] at hpb
  have hp0 := hpb.2.2.2.2.2.1
  rw [hpin] at hr
  obtain ⟨mt, hmt⟩ : ∃ mt, mt = meant s := ⟨_, rfl⟩
  rw [← hmt] at HM hr
  have HR := Lib.hid hr
  clear hr hmt HJ HND hpin hpb HO HS h0
  obtain ⟨ns, js, g, p, m, t⟩ := s
  obtain ⟨e0, e1, e2, e3, e4⟩ := nd
  obtain ⟨y0, y1, y2, y3, y4, y5, y6, y7, y8, y9, y10, y11⟩ := j
  dsimp only [stateV] at *
  subst hq
  obtain ⟨n, hn'⟩ : ∃ n, n = ns.length := ⟨_, rfl⟩
  obtain ⟨l, hl⟩ : ∃ n, n = js.length := ⟨_, rfl⟩
  rw [← hn'] at hk hix hn6
  rw [← hl] at hql hixj hl24 hnj
  rw [← hn', ← hl] at HM ⊢
  clear hn' hl
  have hk2 : ¬ n ≤ k := by omega
  by_cases hy : y5 = 0
  · subst hy
    obtain rfl : false = r := by have := HR.out; simpa using this
    go_enter Try.func18, Try.ntmps18
    go_wp2_with fail
    go_quiet (fail)
    go_wp2
    go_ret
    exact ⟨rfl, (by repeat (first | (with_reducible exact Below.refl _ _) | ((with_reducible refine Below.setCell ?_ ?_ _); rotate_left 1; focus (first | omega | (simp; done) | (simp; omega))) | ((with_reducible refine Below.alloc ?_ ?_ _); rotate_left 1; focus (first | omega | (simp; done) | (simp; omega))) | (with_reducible refine Below.drew ?_) | (with_reducible refine Below.draws ?_ _) | assumption))⟩
  · have hr : decide (y5 ≠ mt) = r := by have := HR.out; simpa [hy] using this
    have HR2 := Lib.hid hr
    clear HR hr
    have hy1 : (y5 != 0) = true := by simpa using hy
    clear hy
    go_enter Try.func18, Try.ntmps18
    go_wp2_with fail
    go_quiet (fail)
    go_wp2_with (go_at_call 28; refine (HM.out _).mono ?_; rintro e w2 ⟨rfl, hb2⟩)
    go_ret
    exact ⟨ret_bool (by rw [← HR2.out, Bool.eq_iff_iff]; simp), ((by repeat (first | (with_reducible exact Below.refl _ _) | ((with_reducible refine Below.setCell ?_ ?_ _); rotate_left 1; focus (first | omega | (simp; done) | (simp; omega))) | ((with_reducible refine Below.alloc ?_ ?_ _); rotate_left 1; focus (first | omega | (simp; done) | (simp; omega))) | (with_reducible refine Below.drew ?_) | (with_reducible refine Below.draws ?_ _) | assumption)) : Below w.heap.size w _).trans (hb2.mono (by first | omega | (simp; done) | (simp; omega)))⟩

set_option maxHeartbeats 1000000 in
theorem aloneR_any (c : ConfD) (s : StateD) (a1 a2 : Option Addr) (c1 c2 : Nat) (i : Int) (w : World) (r : Bool) (hr : aloneB s i = r) (hO : Okay c s) (hS : StateAt w s a1 a2) :
    Calls Try.prog 19 #[stateV s a1 a2 c1 c2, .int .i64 i] w (Ret w (.bool r)) := by
  have HM := Lib.hid (meantR_is s a1 a2 c1 c2)
  have hn6 : s.nodes.length ≤ 6 := by have := hO.nodes; have := hO.conf; omega
  have hl24 := hO.jobs
  have HO := Lib.hid hO
  have HS := Lib.hid hS
  have HR := Lib.hid hr
  clear hr hO hS
  by_cases hi0 : i < 0
  · obtain rfl : false = r := by have := HR.out; unfold aloneB at this; rw [if_pos (Or.inl hi0)] at this; exact this
    clear HR HO HS HM
    obtain ⟨ns, js, g, p, m, t⟩ := s
    dsimp only [stateV] at *
    go_enter Try.func19, Try.ntmps19
    go_wp2
    go_ret
    exact ⟨rfl, (by repeat (first | (with_reducible exact Below.refl _ _) | ((with_reducible refine Below.setCell ?_ ?_ _); rotate_left 1; focus (first | omega | (simp; done) | (simp; omega))) | ((with_reducible refine Below.alloc ?_ ?_ _); rotate_left 1; focus (first | omega | (simp; done) | (simp; omega))) | (with_reducible refine Below.drew ?_) | (with_reducible refine Below.draws ?_ _) | assumption))⟩
  by_cases hi1 : (s.nodes.length : Int) ≤ i
  · obtain rfl : false = r := by have := HR.out; unfold aloneB at this; rw [if_pos (Or.inr hi1)] at this; exact this
    clear HR HO HS HM
    obtain ⟨ns, js, g, p, m, t⟩ := s
    dsimp only [stateV] at *
    go_enter Try.func19, Try.ntmps19
    go_wp2
    go_ret
    exact ⟨rfl, (by repeat (first | (with_reducible exact Below.refl _ _) | ((with_reducible refine Below.setCell ?_ ?_ _); rotate_left 1; focus (first | omega | (simp; done) | (simp; omega))) | ((with_reducible refine Below.alloc ?_ ?_ _); rotate_left 1; focus (first | omega | (simp; done) | (simp; omega))) | (with_reducible refine Below.drew ?_) | (with_reducible refine Below.draws ?_ _) | assumption))⟩
  obtain ⟨k, rfl⟩ := Int.eq_ofNat_of_zero_le (show 0 ≤ i by omega)
  have hk : k < s.nodes.length := by omega
  have hr := HR.out
  unfold aloneB at hr
  rw [if_neg (by omega), Int.toNat_natCast] at hr
  clear HR hi0 hi1
  have hnj := HO.out.node hk
  obtain ⟨b, o, nd, HND, hb, hix, d0, d1, d2, d3, d4⟩ := node_at HS.out.nodes hk
  rw [← HND.out] at hr hnj
  unfold aloneN at hr
  by_cases h0 : nd.job = 0
  · rw [if_pos h0] at hr
    subst hr
    clear HO HS HM HND
    obtain ⟨ns, js, g, p, m, t⟩ := s
    obtain ⟨e0, e1, e2, e3, e4⟩ := nd
    dsimp only [stateV] at *
    subst h0
    have hk2 : ¬ ns.length ≤ k := by omega
    go_enter Try.func19, Try.ntmps19
    go_wp2
    go_ret
    exact ⟨rfl, (by repeat (first | (with_reducible exact Below.refl _ _) | ((with_reducible refine Below.setCell ?_ ?_ _); rotate_left 1; focus (first | omega | (simp; done) | (simp; omega))) | ((with_reducible refine Below.alloc ?_ ?_ _); rotate_left 1; focus (first | omega | (simp; done) | (simp; omega))) | (with_reducible refine Below.drew ?_) | (with_reducible refine Below.draws ?_ _) | assumption))⟩
  rw [if_neg h0] at hr
  obtain ⟨q, hq⟩ : ∃ q : Nat, nd.job = (q : Int) + 1 := ⟨(nd.job - 1).toNat, by omega⟩
  have hql : q < s.jobs.length := by omega
  obtain ⟨bj, oj, j, HJ, hbj, hixj, j0, j1, j2, j3, j4, j5, j6, j7, j8, j9, j10, j11⟩ := job_at HS.out.jobs hql
  have hq1 : (q : Int) + 1 - 1 = q := by omega
  have hpin : pinOf s nd.job = j.pin := by unfold pinOf; rw [hq, hq1, Int.toNat_natCast, ← HJ.out]
  have hpb := HO.out.job hql
  rw [← HJ.out] at hpb
  have hp0 := hpb.2.2.2.2.2.1
  rw [hpin] at hr
  obtain ⟨mt, hmt⟩ : ∃ mt, mt = meant s := ⟨_, rfl⟩
  rw [← hmt] at HM hr
  have HR := Lib.hid hr
  clear hr hmt HJ HND hpin hpb HO HS h0
  obtain ⟨ns, js, g, p, m, t⟩ := s
  obtain ⟨e0, e1, e2, e3, e4⟩ := nd
  obtain ⟨y0, y1, y2, y3, y4, y5, y6, y7, y8, y9, y10, y11⟩ := j
  dsimp only [stateV] at *
  subst hq
  obtain ⟨n, hn'⟩ : ∃ n, n = ns.length := ⟨_, rfl⟩
  obtain ⟨l, hl⟩ : ∃ n, n = js.length := ⟨_, rfl⟩
  rw [← hn'] at hk hix hn6
  rw [← hl] at hql hixj hl24 hnj
  rw [← hn', ← hl] at HM ⊢
  clear hn' hl
  have hk2 : ¬ n ≤ k := by omega
  by_cases hy : y5 = 0
  · subst hy
    obtain rfl : false = r := by have := HR.out; simpa using this
    go_enter Try.func19, Try.ntmps19
    go_wp2_with fail
    go_quiet (fail)
    go_wp2
    go_ret
    exact ⟨rfl, (by repeat (first | (with_reducible exact Below.refl _ _) | ((with_reducible refine Below.setCell ?_ ?_ _); rotate_left 1; focus (first | omega | (simp; done) | (simp; omega))) | ((with_reducible refine Below.alloc ?_ ?_ _); rotate_left 1; focus (first | omega | (simp; done) | (simp; omega))) | (with_reducible refine Below.drew ?_) | (with_reducible refine Below.draws ?_ _) | assumption))⟩
  · have hr : decide (y5 ≠ mt) = r := by have := HR.out; simpa [hy] using this
    have HR2 := Lib.hid hr
    clear HR hr
    have hy1 : 0 < y5 := by omega
    clear hy
    go_enter Try.func19, Try.ntmps19
    go_wp2_with fail
    go_quiet (fail)
    go_wp2_with (go_at_call 38; refine (HM.out _).mono ?_; rintro e w2 ⟨rfl, hb2⟩)
    go_ret
    exact ⟨ret_bool (by rw [← HR2.out, Bool.eq_iff_iff]; simp), ((by repeat (first | (with_reducible exact Below.refl _ _) | ((with_reducible refine Below.setCell ?_ ?_ _); rotate_left 1; focus (first | omega | (simp; done) | (simp; omega))) | ((with_reducible refine Below.alloc ?_ ?_ _); rotate_left 1; focus (first | omega | (simp; done) | (simp; omega))) | (with_reducible refine Below.drew ?_) | (with_reducible refine Below.draws ?_ _) | assumption)) : Below w.heap.size w _).trans (hb2.mono (by first | omega | (simp; done) | (simp; omega)))⟩
end Go.Proofs.Ytclgmpflmeopmaa
