import Derived.Test.YtclgmpflmeopmaaB1
set_option linter.unusedVariables false
set_option linter.unusedSimpArgs false
namespace Go.Proofs.Ytclgmpflmeopmaa
open Go.RowKit Dun

theorem drains_any (s : StateD) (a1 a2 : Option Addr) (c1 c2 : Nat) (q : Int) (w : World) (hS : StateAt w s a1 a2) (hn : s.jobs.length ≤ 1000000) :
    Calls Try.prog 37 #[stateV s a1 a2 c1 c2, .int .i64 q] w (Ret w (.int .i64 (drainsL s.jobs q))) := by
  have hJ := hS.jobs
  clear hS
  obtain ⟨ns, js, g, p, m, t⟩ := s
  dsimp only [stateV] at hJ hn ⊢
  have HJ := Lib.hid hJ
  clear hJ
  obtain ⟨r, hr⟩ : ∃ r, r = drainsL js q := ⟨_, rfl⟩
  rw [← hr]
  have HR := Lib.hid hr
  clear hr
  obtain ⟨n, hnn⟩ : ∃ n, n = js.length := ⟨_, rfl⟩
  rw [← hnn] at hn ⊢
  have HN := Lib.hid hnn
  clear hnn
  go_enter Try.func37, Try.ntmps37
  go_wp2
  go_loopw [5, 11] (fun x i wr => ∃ k : Nat, k ≤ n ∧ i = .int .i64 k ∧ x = .int .i64 (drainsL (js.take k) q) ∧ Below (w.heap.size + 1) (w.alloc (.cells #[.slice a1 ns.length c1, .slice a2 n c2, .int .i64 g, .int .i64 p, .int .i64 m, .int .i64 t] 33)) wr) (fun _ i _ => n - (intOf i).toNat)
  case atStart => exact ⟨0, Nat.zero_le _, rfl, by simp [drainsL], Below.refl _ _⟩
  case round =>
    obtain ⟨k, hk, rfl, rfl, hB⟩ := hrel
    have hd := drainsL_le (js.take k) q
    have hd2 : (js.take k).length ≤ k := List.length_take_le _ _
    by_cases hlt : k < n
    · have hsn := drainsL_snoc (js.take k) (js.getD k zeroJob) q
      rw [← take_snoc js k zeroJob (by have := HN.out; omega)] at hsn
      have HS := Lib.hid hsn
      clear hsn
      have hsz := hB.size
      simp only [World.size_alloc] at hsz
      have hJr : RowsAt wr a2 12 n (fun k => jobVals (js.getD k zeroJob)) := HN.out ▸ HJ.out.below (((by repeat (first | (with_reducible exact Below.refl _ _) | ((with_reducible refine Below.setCell ?_ ?_ _); rotate_left 1; focus (first | omega | (simp; done) | (simp; omega))) | ((with_reducible refine Below.alloc ?_ ?_ _); rotate_left 1; focus (first | omega | (simp; done) | (simp; omega))) | (with_reducible refine Below.drew ?_) | (with_reducible refine Below.draws ?_ _) | assumption)) : Below w.heap.size w _).trans (hB.mono (by omega))) (Nat.le_refl _)
      obtain ⟨b, o, j, HM, hb, hix, d0, d1, d2, d3, d4, d5, d6, d7, d8, d9, d10, d11⟩ := job_at hJr hlt
      clear hJr
      rw [← HM.out] at HS
      clear HM
      obtain ⟨y0, y1, y2, y3, y4, y5, y6, y7, y8, y9, y10, y11⟩ := j
      dsimp only at *
      go_wp2
      all_goals
        go_roundw
        case rel => exact ⟨k + 1, by omega, by go_num, by rw [HS.out]; simp_all, by exact hB.trans (by repeat (first | (with_reducible exact Below.refl _ _) | ((with_reducible refine Below.setCell ?_ ?_ _); rotate_left 1; focus (first | omega | (simp; done) | (simp; omega))) | ((with_reducible refine Below.alloc ?_ ?_ _); rotate_left 1; focus (first | omega | (simp; done) | (simp; omega))) | (with_reducible refine Below.drew ?_) | (with_reducible refine Below.draws ?_ _) | assumption))⟩
        case measure => simp [intOf]; omega
    · obtain rfl : k = n := by omega
      go_wp2
      go_ret
      exact ⟨ret_int (by rw [HR.out, HN.out, List.take_length]), ((by repeat (first | (with_reducible exact Below.refl _ _) | ((with_reducible refine Below.setCell ?_ ?_ _); rotate_left 1; focus (first | omega | (simp; done) | (simp; omega))) | ((with_reducible refine Below.alloc ?_ ?_ _); rotate_left 1; focus (first | omega | (simp; done) | (simp; omega))) | (with_reducible refine Below.drew ?_) | (with_reducible refine Below.draws ?_ _) | assumption)) : Below w.heap.size w _).trans (hB.mono (by omega))⟩
end Go.Proofs.Ytclgmpflmeopmaa
