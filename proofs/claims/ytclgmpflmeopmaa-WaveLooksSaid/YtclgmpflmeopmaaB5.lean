import Derived.Test.YtclgmpflmeopmaaB4
import Derived.Test.YtclgmpflmeopmaaB2
import Derived.Deep.RegionHeld3
set_option linter.unusedVariables false
set_option linter.unusedSimpArgs false
namespace Go.Proofs.Ytclgmpflmeopmaa
open Go.RowKit Dun

theorem placed_any (p : Int) (w : World) :
    Calls Try.prog 51 #[.int .i64 p] w fun e w' => e = .returned (.bool (placedB p)) ∧ w = w' := by
  go_enter Try.func51, Try.ntmps51
  go_wp2
  all_goals (go_ret; refine ⟨ret_bool ?_, rfl⟩; rw [Bool.eq_iff_iff]; simp_all [placedB]; try omega)

theorem takes1_any (nd : NodeD) (B : Nat) (number : Int) (w : World) (hc : w.cell? ⟨B, 0, none⟩ = some (.int .i64 number)) (hb : B < w.heap.size) :
    Calls Try.prog 53 #[nodeV nd, .pointer (some ⟨B, 0, none⟩)] w (Ret w (.bool (takes1 number nd))) := by
  obtain ⟨up, cordon, moving, version, job⟩ := nd
  cases up <;> cases moving <;> (go_enter Try.func53, Try.ntmps53; go_wp2; all_goals (go_ret; refine ⟨ret_bool ?_, (by repeat (first | (with_reducible exact Below.refl _ _) | ((with_reducible refine Below.setCell ?_ ?_ _); rotate_left 1; focus (first | omega | (simp; done) | (simp; omega))) | ((with_reducible refine Below.alloc ?_ ?_ _); rotate_left 1; focus (first | omega | (simp; done) | (simp; omega))) | (with_reducible refine Below.drew ?_) | (with_reducible refine Below.draws ?_ _) | assumption))⟩; simp [takes1]))
  rw [Bool.eq_iff_iff]; simp [takes1]

theorem enter_takes1 (A : Array Value) (W : World) : Sem.run Try.prog (callFunc 53 A) W = .ok (.enter 53 A) W := enter_of Try.func53 (by kernel_rfl) rfl A W

set_option maxHeartbeats 1000000 in
theorem stands_any (c : ConfD) (s : StateD) (a1 a2 : Option Addr) (c1 c2 : Nat) (j : JobD) (number : Int) (w : World) (r : Bool) (hr : standsB c s j number = r) (hS : StateAt w s a1 a2) (hn : s.nodes.length ≤ 6) (hq1 : 1 ≤ c.queues) (hq2 : c.queues ≤ 3) :
    Calls Try.prog 35 #[confV c, stateV s a1 a2 c1 c2, jobV j, .int .i64 number] w (Ret w (.bool r)) := by
  have HS := Lib.hid hS
  have HR := Lib.hid hr
  clear hS hr
  obtain ⟨ak, hak⟩ : ∃ ak, ak = askedB c j := ⟨_, rfl⟩
  have HK := Lib.hid hak
  clear hak
  obtain ⟨ft, hft⟩ : ∃ ft, fitsB s.nodes j j.nodes (takes1 number) = ft := ⟨_, rfl⟩
  have HF := Lib.hid hft
  clear hft
  obtain ⟨pl, hpl⟩ : ∃ pl, placedB j.phase = pl := ⟨_, rfl⟩
  have HP := Lib.hid hpl
  clear hpl
  have HC := Lib.hid (asked_any c j · hq1 hq2)
  rw [← HK.out] at HC
  have HFt := fun w' c1 c2 F C h1 h2 h3 => fits_any s a1 a2 c1 c2 j j.nodes F C (takes1 number) w' ft HF.out h1 hn h2 h3
  have HFT := Lib.hid HFt
  clear HFt
  obtain ⟨ns, js, g, p, m, t⟩ := s
  obtain ⟨x0, x1, x2, x3, x4, x5, x6, x7, x8⟩ := c
  obtain ⟨y0, y1, y2, y3, y4, y5, y6, y7, y8, y9, y10, y11⟩ := j
  dsimp only [stateV] at *
  go_enter Try.func35, Try.ntmps35
  go_wp2_with fail
  refine (HC.out _).mono ?_
  rintro e w1 ⟨rfl, hb1⟩
  obtain ⟨hc1, hf1⟩ := bcell hb1
  go_wp2_with (go_at_call 34; refine (within_any _ _ _ _).mono ?_; rintro e w' ⟨rfl, rfl⟩)
  all_goals try (go_ret; exact ⟨ret_bool (by rw [← HR.out]; simp only [standsB, ← HK.out]; first | (simp [*]; done) | (have h0 : withinB y11 0 y7 = false := (by simpa using ‹(!withinB y11 0 y7) = true›); simp [*])), ((by repeat (first | (with_reducible exact Below.refl _ _) | ((with_reducible refine Below.setCell ?_ ?_ _); rotate_left 1; focus (first | omega | (simp; done) | (simp; omega))) | ((with_reducible refine Below.alloc ?_ ?_ _); rotate_left 1; focus (first | omega | (simp; done) | (simp; omega))) | (with_reducible refine Below.drew ?_) | (with_reducible refine Below.draws ?_ _) | assumption)) : Below w.heap.size w _).trans (hb1.mono (by first | omega | (simp; done) | (simp; omega)))⟩)
  have hwe : withinB y11 0 y7 = true := by simpa using ‹(!withinB y11 0 y7) = false›
  have HR2 : Hid ((if pl = true then ft else decide (y8 = 0)) = r) := by
    have h := HR.out
    have hk := HK.out
    have hp := HP.out
    have hf := HF.out
    simp only [standsB, ← hk] at h
    simp only [hp, hf, *] at h
    exact Lib.hid (by simpa using h)
  refine (placed_any _ _).mono ?_
  rintro e w2 ⟨rfl, rfl⟩
  rw [HP.out]
  cases pl with
  | false =>
    obtain ⟨b, hb⟩ : ∃ b, b = decide (y8 = 0) := ⟨_, rfl⟩
    have hrb : b = r := by rw [hb]; exact HR2.out
    go_wp2
    go_ret
    exact ⟨ret_bool (by rw [← hrb, hb, Bool.eq_iff_iff]; simp), ((by repeat (first | (with_reducible exact Below.refl _ _) | ((with_reducible refine Below.setCell ?_ ?_ _); rotate_left 1; focus (first | omega | (simp; done) | (simp; omega))) | ((with_reducible refine Below.alloc ?_ ?_ _); rotate_left 1; focus (first | omega | (simp; done) | (simp; omega))) | (with_reducible refine Below.drew ?_) | (with_reducible refine Below.draws ?_ _) | assumption)) : Below w.heap.size w _).trans (hb1.mono (by first | omega | (simp; done) | (simp; omega)))⟩
  | true =>
    obtain rfl : ft = r := HR2.out
    go_wp2_with fail
    have hBW : Below w.heap.size w w1 := ((by repeat (first | (with_reducible exact Below.refl _ _) | ((with_reducible refine Below.setCell ?_ ?_ _); rotate_left 1; focus (first | omega | (simp; done) | (simp; omega))) | ((with_reducible refine Below.alloc ?_ ?_ _); rotate_left 1; focus (first | omega | (simp; done) | (simp; omega))) | (with_reducible refine Below.drew ?_) | (with_reducible refine Below.draws ?_ _) | assumption)) : Below w.heap.size w _).trans (hb1.mono (by first | omega | (simp; done) | (simp; omega)))
    have hsz := hb1.size
    simp only [World.size_alloc] at hsz
    have hnum : w1.cell? ⟨w.heap.size + 1 + 1 + 1, 0, none⟩ = some (.int .i64 number) := by go_simp
    have hT : ∀ nd W, Below w1.heap.size w1 W → Calls Try.prog 53 (#[nodeV nd] ++ #[.pointer (some ⟨w.heap.size + 1 + 1 + 1, 0, none⟩)]) W (Ret W (.bool (takes1 number nd))) := fun nd W hW => by
      rw [show #[nodeV nd] ++ #[Value.pointer (some ⟨w.heap.size + 1 + 1 + 1, 0, none⟩)] = #[nodeV nd, .pointer (some ⟨w.heap.size + 1 + 1 + 1, 0, none⟩)] from rfl]
      refine takes1_any nd _ _ W ?_ ?_
      · rw [hW.cell (p := ⟨w.heap.size + 1 + 1 + 1, 0, none⟩) (by show w.heap.size + 1 + 1 + 1 < w1.heap.size; omega)]
        exact hnum
      · have := hW.size; omega
    refine (HFT.out _ _ _ 53 #[.pointer (some ⟨w.heap.size + 1 + 1 + 1, 0, none⟩)] (HS.out.below hBW (Nat.le_refl _)) enter_takes1 hT).mono ?_
    rintro e w3 ⟨rfl, hb3⟩
    go_wp2
    go_ret
    exact ⟨rfl, hBW.trans (hb3.mono (by have := hBW.size; omega))⟩

theorem sound_any (s : StateD) (a1 a2 : Option Addr) (c1 c2 : Nat) (nd : NodeD) (number : Nat) (w : World) (r : Bool) (hr : soundB s nd number = r) (hS : StateAt w s a1 a2) (hn : s.jobs.length ≤ 1000000) (hnum : number < 50) :
    Calls Try.prog 36 #[stateV s a1 a2 c1 c2, nodeV nd, .int .i64 (number : Int)] w (Ret w (.bool r)) := by
  have HJ := Lib.hid hS.jobs
  have HR := Lib.hid hr
  clear hS hr
  obtain ⟨ns, js, g, p, m, t⟩ := s
  obtain ⟨e0, e1, e2, e3, e4⟩ := nd
  dsimp only [stateV] at *
  obtain ⟨n, hnn⟩ : ∃ n, n = js.length := ⟨_, rfl⟩
  rw [← hnn] at hn ⊢
  have HN := Lib.hid hnn
  clear hnn
  have HR2 : Hid ((withinB e3 1 9 && withinB e4 0 n && !(e2 && (!e0 || !e1 || decide (e4 ≠ 0))) && (decide (e4 = 0) || hasB (js.getD (e4 - 1).toNat zeroJob).nodes number)) = r) := by
    have h := HR.out
    unfold soundB at h
    rw [← HN.out] at h
    exact h
  clear HR
  by_cases h1 : withinB e4 0 n = true
  · have hw : 0 ≤ e4 ∧ e4 ≤ n := of_decide_eq_true h1
    by_cases h0 : e4 = 0
    · subst h0
      go_enter Try.func36, Try.ntmps36
      go_wp2_with (go_at_call 34; refine (within_any _ _ _ _).mono ?_; rintro e w' ⟨rfl, rfl⟩)
      all_goals (go_ret; exact ⟨ret_bool (by rw [← HR2.out]; simp [*]), (by repeat (first | (with_reducible exact Below.refl _ _) | ((with_reducible refine Below.setCell ?_ ?_ _); rotate_left 1; focus (first | omega | (simp; done) | (simp; omega))) | ((with_reducible refine Below.alloc ?_ ?_ _); rotate_left 1; focus (first | omega | (simp; done) | (simp; omega))) | (with_reducible refine Below.drew ?_) | (with_reducible refine Below.draws ?_ _) | assumption))⟩)
    · obtain ⟨k, hk⟩ : ∃ k : Nat, e4 = (k : Int) + 1 := ⟨(e4 - 1).toNat, by omega⟩
      subst hk
      obtain ⟨b, o, j, HM, hb, hix, d0, d1, d2, d3, d4, d5, d6, d7, d8, d9, d10, d11⟩ := job_at (HN.out ▸ HJ.out) (k := k) (by omega)
      have hk1 : (k : Int) + 1 - 1 = k := by omega
      have HR3 : Hid ((withinB e3 1 9 && !e2 && hasB j.nodes number) = r) := by
        have h := HR2.out
        rw [h1, hk1, Int.toNat_natCast, ← HM.out] at h
        refine Lib.hid ?_
        rw [← h]
        have h2 : ¬ ((k : Int) + 1 = 0) := by omega
        simp [h2]
      clear HR2 HM
      obtain ⟨y0, y1, y2, y3, y4, y5, y6, y7, y8, y9, y10, y11⟩ := j
      dsimp only at *
      go_enter Try.func36, Try.ntmps36
      go_wp2_with (go_at_call 34; refine (within_any _ _ _ _).mono ?_; rintro e w' ⟨rfl, rfl⟩)
      all_goals (go_ret; exact ⟨ret_bool (by rw [← HR3.out, ← hasB_eq]; simp [*]), (by repeat (first | (with_reducible exact Below.refl _ _) | ((with_reducible refine Below.setCell ?_ ?_ _); rotate_left 1; focus (first | omega | (simp; done) | (simp; omega))) | ((with_reducible refine Below.alloc ?_ ?_ _); rotate_left 1; focus (first | omega | (simp; done) | (simp; omega))) | (with_reducible refine Below.drew ?_) | (with_reducible refine Below.draws ?_ _) | assumption))⟩)
  · have h1' : withinB e4 0 n = false := by simpa using h1
    clear h1
    go_enter Try.func36, Try.ntmps36
    go_wp2_with (go_at_call 34; refine (within_any _ _ _ _).mono ?_; rintro e w' ⟨rfl, rfl⟩)
    all_goals (go_ret; exact ⟨ret_bool (by rw [← HR2.out]; simp [*]), (by repeat (first | (with_reducible exact Below.refl _ _) | ((with_reducible refine Below.setCell ?_ ?_ _); rotate_left 1; focus (first | omega | (simp; done) | (simp; omega))) | ((with_reducible refine Below.alloc ?_ ?_ _); rotate_left 1; focus (first | omega | (simp; done) | (simp; omega))) | (with_reducible refine Below.drew ?_) | (with_reducible refine Below.draws ?_ _) | assumption))⟩)
end Go.Proofs.Ytclgmpflmeopmaa
