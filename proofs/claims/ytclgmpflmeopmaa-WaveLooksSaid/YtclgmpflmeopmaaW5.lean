import Derived.Test.YtclgmpflmeopmaaW4
set_option linter.unusedVariables false
set_option linter.unusedSimpArgs false
namespace Go.Proofs.Ytclgmpflmeopmaa
open Go.RowKit Dun

abbrev viewV (c : ConfD) (s : StateD) (a1 a2 : Option Addr) (c1 c2 : Nat) (now : Int) : Value := .agg #[.int .i64 c.nodes, .int .i64 c.queues, .int .i64 c.quota, .int .i64 c.wave, .int .i64 c.lease, .int .i64 c.retry, .int .i64 c.deadline, .int .i64 c.room, .int .i64 c.disk,
  .slice a1 s.nodes.length c1, .slice a2 s.jobs.length c2, .int .i64 s.goal, .int .i64 s.prior, .int .i64 s.mode, .int .i64 s.term, .int .i64 now]

abbrev opOkV (o : OpD) (b : Bool) : Value := .tuple #[opV o, .bool b]

theorem alone_at (c : ConfD) (s : StateD) (a1 a2 : Option Addr) (c1 c2 : Nat) (k : Nat) (hk : k < s.nodes.length) (w : World) (r : Bool) (hr : aloneN s (s.nodes.getD k zeroNode) = r) (hO : Okay c s) (hS : StateAt w s a1 a2) :
    Calls Try.prog 18 #[stateV s a1 a2 c1 c2, .int .i64 (k : Int)] w (Ret w (.bool r)) :=
  alone_any c s a1 a2 c1 c2 k w r (by unfold aloneB; rw [if_neg (by omega), Int.toNat_natCast]; exact hr) hO hS
theorem aloneR_at (c : ConfD) (s : StateD) (a1 a2 : Option Addr) (c1 c2 : Nat) (k : Nat) (hk : k < s.nodes.length) (w : World) (r : Bool) (hr : aloneN s (s.nodes.getD k zeroNode) = r) (hO : Okay c s) (hS : StateAt w s a1 a2) :
    Calls Try.prog 19 #[stateV s a1 a2 c1 c2, .int .i64 (k : Int)] w (Ret w (.bool r)) :=
  aloneR_any c s a1 a2 c1 c2 k w r (by unfold aloneB; rw [if_neg (by omega), Int.toNat_natCast]; exact hr) hO hS

set_option maxHeartbeats 2000000 in
theorem open_any (c : ConfD) (s : StateD) (a1 a2 : Option Addr) (c1 c2 : Nat) (now : Int) (k : Nat) (hk : k < s.nodes.length) (w : World) (r : Bool) (hr : openB s (s.nodes.getD k zeroNode) = r) (hO : Okay c s) (hS : StateAt w s a1 a2) :
    Calls Try.prog 40 #[viewV c s a1 a2 c1 c2 now, .int .i64 (k : Int)] w (Ret w (opOkV ⟨17, k, 0, 0, 0, 0, 0⟩ r)) := by
  have hn6 : s.nodes.length ≤ 6 := by have := hO.nodes; have := hO.conf; omega
  have hk2 : ¬ s.nodes.length ≤ k := by omega
  have HO := Lib.hid hO
  have HS := Lib.hid hS
  obtain ⟨b, o, nd, HM, hb, hix, d0, d1, d2, d3, d4⟩ := node_at hS.nodes hk
  rw [← HM.out] at hr
  have hb0 : b ≠ w.heap.size := by omega
  obtain ⟨bh, hbh⟩ : ∃ b, behindB s nd = b := ⟨_, rfl⟩
  obtain ⟨al, hal⟩ : ∃ b, aloneN s nd = b := ⟨_, rfl⟩
  unfold openB at hr
  rw [hbh, hal] at hr
  have HBH := Lib.hid hbh
  have HAL := Lib.hid hal
  have HR := Lib.hid hr
  clear hbh hal hr hO hS
  obtain ⟨e0, e1, e2, e3, e4⟩ := nd
  dsimp only at *
  cases e1 with
  | false =>
    obtain rfl : false = r := HR.out
    go_enter Try.func40, Try.ntmps40
    go_wp2
    exact bodyPost_ret (v := opOkV ⟨17, k, 0, 0, 0, 0, 0⟩ false) (by simp [results, Try.results40, go_sem]) rfl ⟨rfl, (by repeat (first | (with_reducible exact Below.refl _ _) | ((with_reducible refine Below.setCell ?_ ?_ _); rotate_left 1; focus (first | omega | (simp; done) | (simp; omega))) | ((with_reducible refine Below.alloc ?_ ?_ _); rotate_left 1; focus (first | omega | (simp; done) | (simp; omega))) | (with_reducible refine Below.drew ?_) | (with_reducible refine Below.draws ?_ _) | assumption))⟩
  | true =>
    cases e0 with
    | false =>
      obtain rfl : false = r := HR.out
      go_enter Try.func40, Try.ntmps40
      go_wp2
      exact bodyPost_ret (v := opOkV ⟨17, k, 0, 0, 0, 0, 0⟩ false) (by simp [results, Try.results40, go_sem]) rfl ⟨rfl, (by repeat (first | (with_reducible exact Below.refl _ _) | ((with_reducible refine Below.setCell ?_ ?_ _); rotate_left 1; focus (first | omega | (simp; done) | (simp; omega))) | ((with_reducible refine Below.alloc ?_ ?_ _); rotate_left 1; focus (first | omega | (simp; done) | (simp; omega))) | (with_reducible refine Below.drew ?_) | (with_reducible refine Below.draws ?_ _) | assumption))⟩
    | true =>
      cases e2 with
      | true =>
        obtain rfl : false = r := HR.out
        go_enter Try.func40, Try.ntmps40
        go_wp2
        exact bodyPost_ret (v := opOkV ⟨17, k, 0, 0, 0, 0, 0⟩ false) (by simp [results, Try.results40, go_sem]) rfl ⟨rfl, (by repeat (first | (with_reducible exact Below.refl _ _) | ((with_reducible refine Below.setCell ?_ ?_ _); rotate_left 1; focus (first | omega | (simp; done) | (simp; omega))) | ((with_reducible refine Below.alloc ?_ ?_ _); rotate_left 1; focus (first | omega | (simp; done) | (simp; omega))) | (with_reducible refine Below.drew ?_) | (with_reducible refine Below.draws ?_ _) | assumption))⟩
      | false =>
        go_enter Try.func40, Try.ntmps40
        go_wp2_with fail
        refine (behind_any s a1 a2 c1 c2 ⟨true, true, false, e3, e4⟩ _ bh HBH.out).mono ?_
        rintro e w2 ⟨rfl, hb2⟩
        obtain ⟨hc2, hf2⟩ := bcell hb2
        have hB2 : Below w.heap.size w w2 := ((by repeat (first | (with_reducible exact Below.refl _ _) | ((with_reducible refine Below.setCell ?_ ?_ _); rotate_left 1; focus (first | omega | (simp; done) | (simp; omega))) | ((with_reducible refine Below.alloc ?_ ?_ _); rotate_left 1; focus (first | omega | (simp; done) | (simp; omega))) | (with_reducible refine Below.drew ?_) | (with_reducible refine Below.draws ?_ _) | assumption)) : Below w.heap.size w _).trans (hb2.mono (by first | omega | (simp; done) | (simp; omega)))
        have hs2 : w.heap.size < w2.heap.size := by have := hb2.size; simp only [World.size_alloc] at this; omega
        have hs3 : w.heap.size + 1 < w2.heap.size := by have := hb2.size; simp only [World.size_alloc] at this; omega
        have hs4 : w.heap.size + 1 + 1 < w2.heap.size := by have := hb2.size; simp only [World.size_alloc] at this; omega
        have OB : OpBox w2 (w.heap.size + 1) zeroOp := OpBox.kept (K := w.heap.size + 1 + 1 + 1) (OpBox.kept (K := w.heap.size + 1 + 1) (by have := OpBox.new (w.alloc (.cells #[.int .i64 c.nodes, .int .i64 c.queues, .int .i64 c.quota, .int .i64 c.wave, .int .i64 c.lease, .int .i64 c.retry, .int .i64 c.deadline, .int .i64 c.room, .int .i64 c.disk,
          .slice a1 s.nodes.length c1, .slice a2 s.jobs.length c2, .int .i64 s.goal, .int .i64 s.prior, .int .i64 s.mode, .int .i64 s.term, .int .i64 now] 64)); simpa using this) (Below.alloc (Below.refl _ _) (by simp) _) (by omega)) (by simpa using hb2) (by omega)
        cases bh with
        | false =>
          obtain rfl : true = r := HR.out
          go_wp2
          exact bodyPost_ret (v := opOkV ⟨17, k, 0, 0, 0, 0, 0⟩ true) (res_opok rfl _ _ (w.heap.size + 1) ⟨17, k, 0, 0, 0, 0, 0⟩ true rfl (OB.set ⟨17, k, 0, 0, 0, 0, 0⟩) rfl) rfl ⟨rfl, hB2.trans (by repeat (first | (with_reducible exact Below.refl _ _) | ((with_reducible refine Below.setCell ?_ ?_ _); rotate_left 1; focus (first | omega | (simp; done) | (simp; omega))) | ((with_reducible refine Below.alloc ?_ ?_ _); rotate_left 1; focus (first | omega | (simp; done) | (simp; omega))) | (with_reducible refine Below.drew ?_) | (with_reducible refine Below.draws ?_ _) | assumption))⟩
        | true =>
          obtain rfl : al = r := by have := HR.out; simpa using this
          go_wp2_with fail
          refine Calls.mono (alone_at c s a1 a2 c1 c2 k hk _ al (by rw [← HM.out]; exact HAL.out) HO.out ?_) ?_
          · exact HS.out.below hB2 (Nat.le_refl _)
          rintro e w3 ⟨rfl, hb3⟩
          obtain ⟨hc3, hf3⟩ := bcell hb3
          have hB3 : Below w.heap.size w w3 := hB2.trans (hb3.mono (by omega))
          have hs5 : w.heap.size < w3.heap.size := by have := hb3.size; omega
          have hs6 : w.heap.size + 1 < w3.heap.size := by have := hb3.size; omega
          have hs7 : w.heap.size + 1 + 1 < w3.heap.size := by have := hb3.size; omega
          have OB3 := OB.kept hb3 hs3
          cases al with
          | true =>
            go_wp2
            exact bodyPost_ret (v := opOkV ⟨17, k, 0, 0, 0, 0, 0⟩ true) (res_opok rfl _ _ (w.heap.size + 1) ⟨17, k, 0, 0, 0, 0, 0⟩ true rfl (OB3.set ⟨17, k, 0, 0, 0, 0, 0⟩) rfl) rfl ⟨rfl, hB3.trans (by repeat (first | (with_reducible exact Below.refl _ _) | ((with_reducible refine Below.setCell ?_ ?_ _); rotate_left 1; focus (first | omega | (simp; done) | (simp; omega))) | ((with_reducible refine Below.alloc ?_ ?_ _); rotate_left 1; focus (first | omega | (simp; done) | (simp; omega))) | (with_reducible refine Below.drew ?_) | (with_reducible refine Below.draws ?_ _) | assumption))⟩
          | false =>
            go_wp2
            exact bodyPost_ret (v := opOkV ⟨17, k, 0, 0, 0, 0, 0⟩ false) (res_opok rfl _ _ (w.heap.size + 1) ⟨17, k, 0, 0, 0, 0, 0⟩ false rfl (OB3.set ⟨17, k, 0, 0, 0, 0, 0⟩) rfl) rfl ⟨rfl, hB3.trans (by repeat (first | (with_reducible exact Below.refl _ _) | ((with_reducible refine Below.setCell ?_ ?_ _); rotate_left 1; focus (first | omega | (simp; done) | (simp; omega))) | ((with_reducible refine Below.alloc ?_ ?_ _); rotate_left 1; focus (first | omega | (simp; done) | (simp; omega))) | (with_reducible refine Below.drew ?_) | (with_reducible refine Below.draws ?_ _) | assumption))⟩
end Go.Proofs.Ytclgmpflmeopmaa
