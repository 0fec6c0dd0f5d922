import Derived.Test.YtclgmpflmeopmaaB6
import Derived.Test.YtclgmpflmeopmaaPureW
set_option linter.unusedVariables false
set_option linter.unusedSimpArgs false
namespace Go.Proofs.Ytclgmpflmeopmaa
open Go.RowKit Dun

theorem meant_is (s : StateD) (a1 a2 : Option Addr) (c1 c2 : Nat) (w : World) :
    Calls Try.prog 28 #[stateV s a1 a2 c1 c2] w (Ret w (.int .i64 (meant s))) := meant_any _ _ s.goal s.prior s.mode s.term w _ rfl

theorem meantR_any (v0 v1 : Value) (g p m t : Int) (w : World) (r : Int) (hr : Hid (r = if m = 2 then p else g)) :
    Calls Try.prog 38 #[.agg #[v0, v1, .int .i64 g, .int .i64 p, .int .i64 m, .int .i64 t]] w (Ret w (.int .i64 r)) := by
  go_enter Try.func38, Try.ntmps38
  go_wp2
  all_goals (go_ret; refine ⟨ret_int ?_, (by repeat (first | (with_reducible exact Below.refl _ _) | ((with_reducible refine Below.setCell ?_ ?_ _); rotate_left 1; focus (first | omega | (simp; done) | (simp; omega))) | ((with_reducible refine Below.alloc ?_ ?_ _); rotate_left 1; focus (first | omega | (simp; done) | (simp; omega))) | (with_reducible refine Below.drew ?_) | (with_reducible refine Below.draws ?_ _) | assumption))⟩; have := hr.out; rw [this]; simp_all)
theorem meantR_is (s : StateD) (a1 a2 : Option Addr) (c1 c2 : Nat) (w : World) :
    Calls Try.prog 38 #[stateV s a1 a2 c1 c2] w (Ret w (.int .i64 (meant s))) := meantR_any _ _ s.goal s.prior s.mode s.term w _ rfl


set_option maxHeartbeats 1000000 in
theorem behind_any (s : StateD) (a1 a2 : Option Addr) (c1 c2 : Nat) (nd : NodeD) (w : World) (r : Bool) (hr : behindB s nd = r) :
    Calls Try.prog 39 #[stateV s a1 a2 c1 c2, nodeV nd] w (Ret w (.bool r)) := by
  have HM := Lib.hid (meant_is s a1 a2 c1 c2)
  obtain ⟨mt, hmt⟩ : ∃ mt, mt = meant s := ⟨_, rfl⟩
  rw [← hmt] at HM
  have hr' : (nd.up && !nd.moving && decide (nd.version ≠ mt)) = r := by rw [← hr, hmt]; rfl
  have HR := Lib.hid hr'
  clear hr hr' hmt
  obtain ⟨ns, js, g, p, m, t⟩ := s
  obtain ⟨up, cordon, moving, version, job⟩ := nd
  dsimp only [stateV] at *
  obtain ⟨n, hn⟩ : ∃ n, n = ns.length := ⟨_, rfl⟩
  obtain ⟨l, hl⟩ : ∃ n, n = js.length := ⟨_, rfl⟩
  rw [← hn, ← hl] at HM ⊢
  clear hn hl
  cases up with
  | false =>
    obtain rfl : false = r := HR.out
    go_enter Try.func39, Try.ntmps39
    go_wp2_with fail
    go_quiet (fail)
    go_wp2
    go_ret
    exact ⟨rfl, (by repeat (first | (with_reducible exact Below.refl _ _) | ((with_reducible refine Below.setCell ?_ ?_ _); rotate_left 1; focus (first | omega | (simp; done) | (simp; omega))) | ((with_reducible refine Below.alloc ?_ ?_ _); rotate_left 1; focus (first | omega | (simp; done) | (simp; omega))) | (with_reducible refine Below.drew ?_) | (with_reducible refine Below.draws ?_ _) | assumption))⟩
  | true =>
    cases moving with
    | true =>
      obtain rfl : false = r := HR.out
      go_enter Try.func39, Try.ntmps39
      go_wp2_with fail
      go_quiet (fail)
      go_wp2
      go_ret
      exact ⟨rfl, (by repeat (first | (with_reducible exact Below.refl _ _) | ((with_reducible refine Below.setCell ?_ ?_ _); rotate_left 1; focus (first | omega | (simp; done) | (simp; omega))) | ((with_reducible refine Below.alloc ?_ ?_ _); rotate_left 1; focus (first | omega | (simp; done) | (simp; omega))) | (with_reducible refine Below.drew ?_) | (with_reducible refine Below.draws ?_ _) | assumption))⟩
    | false =>
      have hr : decide (version ≠ mt) = r := HR.out
      have HR2 := Lib.hid hr
      clear hr HR
      go_enter Try.func39, Try.ntmps39
      go_wp2_with fail
      go_region_held3 (fun w' => (w'.cell? ⟨w.heap.size, 0, none⟩ = some (.slice a1 n c1) ∧ w'.cell? ⟨w.heap.size, 1, none⟩ = some (.slice a2 l c2) ∧ w'.cell? ⟨w.heap.size, 2, none⟩ = some (.int .i64 g) ∧ w'.cell? ⟨w.heap.size, 3, none⟩ = some (.int .i64 p) ∧ w'.cell? ⟨w.heap.size, 4, none⟩ = some (.int .i64 m) ∧ w'.cell? ⟨w.heap.size, 5, none⟩ = some (.int .i64 t)) ∧ w'.cell? ⟨w.heap.size + 1, 0, none⟩ = some (.bool true) ∧ w'.cell? ⟨w.heap.size + 1, 2, none⟩ = some (.bool false) ∧ w'.cell? ⟨w.heap.size + 1, 3, none⟩ = some (.int .i64 version))
        (first | (go_keep; done) | ((try dsimp only); (repeat' apply And.intro) <;> (first | (go_keep; done) | (simp [hcd, lt2, lt3, lt4, lt5, cell_a2, cell_a3, cell_a4, cell_a5]; done))))
        (first | (go_at_call 28; refine (HM.out _).mono ?_; rintro e w2 ⟨rfl, hb2⟩; obtain ⟨hcd, hfd⟩ := bcell hb2))
      go_wp2
      go_ret
      exact ⟨ret_bool (by rw [← HR2.out, Bool.eq_iff_iff]; simp), ((by repeat (first | (with_reducible exact Below.refl _ _) | ((with_reducible refine Below.setCell ?_ ?_ _); rotate_left 1; focus (first | omega | (simp; done) | (simp; omega))) | ((with_reducible refine Below.alloc ?_ ?_ _); rotate_left 1; focus (first | omega | (simp; done) | (simp; omega))) | (with_reducible refine Below.drew ?_) | (with_reducible refine Below.draws ?_ _) | assumption)) : Below w.heap.size w _).trans (hb2.mono (by first | omega | (simp; done) | (simp; omega)))⟩

set_option maxHeartbeats 1000000 in
theorem behindR_any (s : StateD) (a1 a2 : Option Addr) (c1 c2 : Nat) (k : Nat) (hk : k < s.nodes.length) (hn : s.nodes.length ≤ 1000000) (w : World) (r : Bool) (hr : behindB s (s.nodes.getD k zeroNode) = r) (hS : StateAt w s a1 a2) :
    Calls Try.prog 15 #[stateV s a1 a2 c1 c2, .int .i64 (k : Int)] w (Ret w (.bool r)) := by
  have HM := Lib.hid (meantR_is s a1 a2 c1 c2)
  obtain ⟨b, o, nd, HND, hb, hix, d0, d1, d2, d3, d4⟩ := node_at hS.nodes hk
  obtain ⟨mt, hmt⟩ : ∃ mt, mt = meant s := ⟨_, rfl⟩
  rw [← hmt] at HM
  rw [← HND.out] at hr
  have hr' : (nd.up && !nd.moving && decide (nd.version ≠ mt)) = r := by rw [← hr, hmt]; rfl
  have HR := Lib.hid hr'
  clear hr hr' hmt hS HND
  obtain ⟨ns, js, g, p, m, t⟩ := s
  obtain ⟨up, cordon, moving, version, job⟩ := nd
  dsimp only [stateV] at *
  obtain ⟨n, hn'⟩ : ∃ n, n = ns.length := ⟨_, rfl⟩
  obtain ⟨l, hl⟩ : ∃ n, n = js.length := ⟨_, rfl⟩
  rw [← hn'] at hk hn hix
  rw [← hn', ← hl] at HM ⊢
  clear hn' hl
  cases up with
  | false =>
    obtain rfl : false = r := HR.out
    go_enter Try.func15, Try.ntmps15
    go_wp2_with fail
    go_quiet (fail)
    go_wp2
    go_ret
    exact ⟨rfl, (by repeat (first | (with_reducible exact Below.refl _ _) | ((with_reducible refine Below.setCell ?_ ?_ _); rotate_left 1; focus (first | omega | (simp; done) | (simp; omega))) | ((with_reducible refine Below.alloc ?_ ?_ _); rotate_left 1; focus (first | omega | (simp; done) | (simp; omega))) | (with_reducible refine Below.drew ?_) | (with_reducible refine Below.draws ?_ _) | assumption))⟩
  | true =>
    cases moving with
    | true =>
      obtain rfl : false = r := HR.out
      go_enter Try.func15, Try.ntmps15
      go_wp2_with fail
      go_quiet (fail)
      go_wp2
      go_ret
      exact ⟨rfl, (by repeat (first | (with_reducible exact Below.refl _ _) | ((with_reducible refine Below.setCell ?_ ?_ _); rotate_left 1; focus (first | omega | (simp; done) | (simp; omega))) | ((with_reducible refine Below.alloc ?_ ?_ _); rotate_left 1; focus (first | omega | (simp; done) | (simp; omega))) | (with_reducible refine Below.drew ?_) | (with_reducible refine Below.draws ?_ _) | assumption))⟩
    | false =>
      have hr : decide (version ≠ mt) = r := HR.out
      have HR2 := Lib.hid hr
      clear hr HR
      go_enter Try.func15, Try.ntmps15
      go_wp2_with fail
      go_region_held3 (fun w' => (w'.cell? ⟨w.heap.size, 0, none⟩ = some (.slice a1 n c1) ∧ w'.cell? ⟨w.heap.size, 1, none⟩ = some (.slice a2 l c2) ∧ w'.cell? ⟨w.heap.size, 2, none⟩ = some (.int .i64 g) ∧ w'.cell? ⟨w.heap.size, 3, none⟩ = some (.int .i64 p) ∧ w'.cell? ⟨w.heap.size, 4, none⟩ = some (.int .i64 m) ∧ w'.cell? ⟨w.heap.size, 5, none⟩ = some (.int .i64 t)) ∧ w'.cell? ⟨w.heap.size + 1, 0, none⟩ = some (.bool true) ∧ w'.cell? ⟨w.heap.size + 1, 2, none⟩ = some (.bool false) ∧ w'.cell? ⟨w.heap.size + 1, 3, none⟩ = some (.int .i64 version))
        (first | (go_keep; done) | ((try dsimp only); (repeat' apply And.intro) <;> (first | (go_keep; done) | (simp [hcd, lt2, lt3, lt4, lt5, cell_a2, cell_a3, cell_a4, cell_a5]; done))))
        (first | (go_at_call 38; refine (HM.out _).mono ?_; rintro e w2 ⟨rfl, hb2⟩; obtain ⟨hcd, hfd⟩ := bcell hb2))
      go_wp2
      go_ret
      exact ⟨ret_bool (by rw [← HR2.out, Bool.eq_iff_iff]; simp), ((by repeat (first | (with_reducible exact Below.refl _ _) | ((with_reducible refine Below.setCell ?_ ?_ _); rotate_left 1; focus (first | omega | (simp; done) | (simp; omega))) | ((with_reducible refine Below.alloc ?_ ?_ _); rotate_left 1; focus (first | omega | (simp; done) | (simp; omega))) | (with_reducible refine Below.drew ?_) | (with_reducible refine Below.draws ?_ _) | assumption)) : Below w.heap.size w _).trans (hb2.mono (by first | omega | (simp; done) | (simp; omega)))⟩
end Go.Proofs.Ytclgmpflmeopmaa
