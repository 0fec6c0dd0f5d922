import Derived.Test.YtclgmpflmeopmaaW1
set_option linter.unusedVariables false
set_option linter.unusedSimpArgs false
namespace Go.Proofs.Ytclgmpflmeopmaa
open Go.RowKit Dun

set_option maxHeartbeats 1000000 in
theorem wave_any (s : StateD) (a1 a2 : Option Addr) (c1 c2 : Nat) (w : World) (hS : StateAt w s a1 a2) (hn : s.nodes.length ≤ 1000000) :
    Calls Try.prog 20 #[stateV s a1 a2 c1 c2] w (Ret w (.int .i64 (waveL s.nodes))) := by
  have HNs := Lib.hid hS.nodes
  clear hS
  obtain ⟨ns, js, g, p, m, t⟩ := s
  dsimp only [stateV] at *
  obtain ⟨r, hr⟩ : ∃ r, r = waveL ns := ⟨_, rfl⟩
  rw [← hr]
  have HR := Lib.hid hr
  clear hr
  obtain ⟨n, hnn⟩ : ∃ n, n = ns.length := ⟨_, rfl⟩
  rw [← hnn] at hn ⊢
  have HN := Lib.hid hnn
  clear hnn
  go_enter Try.func20, Try.ntmps20
  go_wp2
  go_loopw [3, 9] (fun x i wr => ∃ k : Nat, k ≤ n ∧ i = .int .i64 k ∧ x = .int .i64 (waveL (ns.take k)) ∧ Below (w.heap.size + 1) (w.alloc (.cells #[.slice a1 n c1, .slice a2 js.length c2, .int .i64 g, .int .i64 p, .int .i64 m, .int .i64 t] 33)) wr) (fun _ i _ => n - (intOf i).toNat)
  case atStart => exact ⟨0, Nat.zero_le _, rfl, by simp [waveL], Below.refl _ _⟩
  case round =>
    obtain ⟨k, hk, rfl, rfl, hB⟩ := hrel
    have hd := waveL_le (ns.take k)
    have hd2 : (ns.take k).length ≤ k := List.length_take_le _ _
    have hsz := hB.size
    simp only [World.size_alloc] at hsz
    have hcr : ∀ o, wr.cell? ⟨w.heap.size, o, none⟩ = (w.alloc (.cells #[.slice a1 n c1, .slice a2 js.length c2, .int .i64 g, .int .i64 p, .int .i64 m, .int .i64 t] 33)).cell? ⟨w.heap.size, o, none⟩ := fun o => hB.cell (p := ⟨w.heap.size, o, none⟩) (Nat.lt_succ_self _)
    by_cases hlt : k < n
    · have hsn := waveL_snoc (ns.take k) (ns.getD k zeroNode)
      rw [← take_snoc ns k zeroNode (by have := HN.out; omega)] at hsn
      have HS := Lib.hid hsn
      clear hsn
      obtain ⟨b, o, nd, HM, hb, hix, d0, d1, d2, d3, d4⟩ := node_at ((HNs.out.below (((by repeat (first | (with_reducible exact Below.refl _ _) | ((with_reducible refine Below.setCell ?_ ?_ _); rotate_left 1; focus (first | omega | (simp; done) | (simp; omega))) | ((with_reducible refine Below.alloc ?_ ?_ _); rotate_left 1; focus (first | omega | (simp; done) | (simp; omega))) | (with_reducible refine Below.drew ?_) | (with_reducible refine Below.draws ?_ _) | assumption)) : Below w.heap.size w _).trans (hB.mono (by omega))) (Nat.le_refl _)).cast HN.out) hlt
      rw [← HM.out] at HS
      clear HM
      obtain ⟨e0, e1, e2, e3, e4⟩ := nd
      dsimp only at *
      cases e1 with
      | true =>
        go_wp2
        go_roundw
        case rel => exact ⟨k + 1, by omega, by go_num, by rw [HS.out]; rfl, by exact hB.trans (by repeat (first | (with_reducible exact Below.refl _ _) | ((with_reducible refine Below.setCell ?_ ?_ _); rotate_left 1; focus (first | omega | (simp; done) | (simp; omega))) | ((with_reducible refine Below.alloc ?_ ?_ _); rotate_left 1; focus (first | omega | (simp; done) | (simp; omega))) | (with_reducible refine Below.drew ?_) | (with_reducible refine Below.draws ?_ _) | assumption))⟩
        case measure => simp [intOf]; omega
      | false =>
        go_wp2
        go_roundw
        case rel => exact ⟨k + 1, by omega, by go_num, by rw [HS.out]; go_num, by exact hB.trans (by repeat (first | (with_reducible exact Below.refl _ _) | ((with_reducible refine Below.setCell ?_ ?_ _); rotate_left 1; focus (first | omega | (simp; done) | (simp; omega))) | ((with_reducible refine Below.alloc ?_ ?_ _); rotate_left 1; focus (first | omega | (simp; done) | (simp; omega))) | (with_reducible refine Below.drew ?_) | (with_reducible refine Below.draws ?_ _) | assumption))⟩
        case measure => simp [intOf]; omega
    · obtain rfl : n = k := by omega
      go_wp2
      go_ret
      exact ⟨ret_int (by rw [HR.out, HN.out, List.take_length]), ((by repeat (first | (with_reducible exact Below.refl _ _) | ((with_reducible refine Below.setCell ?_ ?_ _); rotate_left 1; focus (first | omega | (simp; done) | (simp; omega))) | ((with_reducible refine Below.alloc ?_ ?_ _); rotate_left 1; focus (first | omega | (simp; done) | (simp; omega))) | (with_reducible refine Below.drew ?_) | (with_reducible refine Below.draws ?_ _) | assumption)) : Below w.heap.size w _).trans (hB.mono (by omega))⟩

set_option maxHeartbeats 1000000 in
theorem waveR_any (s : StateD) (a1 a2 : Option Addr) (c1 c2 : Nat) (w : World) (hS : StateAt w s a1 a2) (hn : s.nodes.length ≤ 1000000) :
    Calls Try.prog 21 #[stateV s a1 a2 c1 c2] w (Ret w (.int .i64 (waveL s.nodes))) := by
  have HNs := Lib.hid hS.nodes
  clear hS
  obtain ⟨ns, js, g, p, m, t⟩ := s
  dsimp only [stateV] at *
  obtain ⟨r, hr⟩ : ∃ r, r = waveL ns := ⟨_, rfl⟩
  rw [← hr]
  have HR := Lib.hid hr
  clear hr
  obtain ⟨n, hnn⟩ : ∃ n, n = ns.length := ⟨_, rfl⟩
  rw [← hnn] at hn ⊢
  have HN := Lib.hid hnn
  clear hnn
  go_enter Try.func21, Try.ntmps21
  go_wp2
  go_loopw [3, 4] (fun x i wr => ∃ k : Nat, k ≤ n ∧ i = .int .i64 k ∧ x = .int .i64 (waveL (ns.take k)) ∧ Below (w.heap.size + 1) (w.alloc (.cells #[.slice a1 n c1, .slice a2 js.length c2, .int .i64 g, .int .i64 p, .int .i64 m, .int .i64 t] 33)) wr) (fun _ i _ => n - (intOf i).toNat)
  case atStart => exact ⟨0, Nat.zero_le _, rfl, by simp [waveL], Below.refl _ _⟩
  case round =>
    obtain ⟨k, hk, rfl, rfl, hB⟩ := hrel
    have hd := waveL_le (ns.take k)
    have hd2 : (ns.take k).length ≤ k := List.length_take_le _ _
    have hsz := hB.size
    simp only [World.size_alloc] at hsz
    have hcr : ∀ o, wr.cell? ⟨w.heap.size, o, none⟩ = (w.alloc (.cells #[.slice a1 n c1, .slice a2 js.length c2, .int .i64 g, .int .i64 p, .int .i64 m, .int .i64 t] 33)).cell? ⟨w.heap.size, o, none⟩ := fun o => hB.cell (p := ⟨w.heap.size, o, none⟩) (Nat.lt_succ_self _)
    by_cases hlt : k < n
    · have hsn := waveL_snoc (ns.take k) (ns.getD k zeroNode)
      rw [← take_snoc ns k zeroNode (by have := HN.out; omega)] at hsn
      have HS := Lib.hid hsn
      clear hsn
      obtain ⟨b, o, nd, HM, hb, hix, d0, d1, d2, d3, d4⟩ := node_at ((HNs.out.below (((by repeat (first | (with_reducible exact Below.refl _ _) | ((with_reducible refine Below.setCell ?_ ?_ _); rotate_left 1; focus (first | omega | (simp; done) | (simp; omega))) | ((with_reducible refine Below.alloc ?_ ?_ _); rotate_left 1; focus (first | omega | (simp; done) | (simp; omega))) | (with_reducible refine Below.drew ?_) | (with_reducible refine Below.draws ?_ _) | assumption)) : Below w.heap.size w _).trans (hB.mono (by omega))) (Nat.le_refl _)).cast HN.out) hlt
      rw [← HM.out] at HS
      clear HM
      obtain ⟨e0, e1, e2, e3, e4⟩ := nd
      dsimp only at *
      cases e1 with
      | true =>
        go_wp2
        go_roundw
        case rel => exact ⟨k + 1, by omega, by go_num, by rw [HS.out]; rfl, by exact hB.trans (by repeat (first | (with_reducible exact Below.refl _ _) | ((with_reducible refine Below.setCell ?_ ?_ _); rotate_left 1; focus (first | omega | (simp; done) | (simp; omega))) | ((with_reducible refine Below.alloc ?_ ?_ _); rotate_left 1; focus (first | omega | (simp; done) | (simp; omega))) | (with_reducible refine Below.drew ?_) | (with_reducible refine Below.draws ?_ _) | assumption))⟩
        case measure => simp [intOf]; omega
      | false =>
        go_wp2
        go_roundw
        case rel => exact ⟨k + 1, by omega, by go_num, by rw [HS.out]; go_num, by exact hB.trans (by repeat (first | (with_reducible exact Below.refl _ _) | ((with_reducible refine Below.setCell ?_ ?_ _); rotate_left 1; focus (first | omega | (simp; done) | (simp; omega))) | ((with_reducible refine Below.alloc ?_ ?_ _); rotate_left 1; focus (first | omega | (simp; done) | (simp; omega))) | (with_reducible refine Below.drew ?_) | (with_reducible refine Below.draws ?_ _) | assumption))⟩
        case measure => simp [intOf]; omega
    · obtain rfl : n = k := by omega
      go_wp2
      go_ret
      exact ⟨ret_int (by rw [HR.out, HN.out, List.take_length]), ((by repeat (first | (with_reducible exact Below.refl _ _) | ((with_reducible refine Below.setCell ?_ ?_ _); rotate_left 1; focus (first | omega | (simp; done) | (simp; omega))) | ((with_reducible refine Below.alloc ?_ ?_ _); rotate_left 1; focus (first | omega | (simp; done) | (simp; omega))) | (with_reducible refine Below.drew ?_) | (with_reducible refine Below.draws ?_ _) | assumption)) : Below w.heap.size w _).trans (hB.mono (by omega))⟩
end Go.Proofs.Ytclgmpflmeopmaa
