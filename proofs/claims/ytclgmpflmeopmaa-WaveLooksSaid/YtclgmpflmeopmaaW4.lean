import Derived.Test.YtclgmpflmeopmaaW2
import Derived.Test.YtclgmpflmeopmaaW3
set_option linter.unusedVariables false
set_option linter.unusedSimpArgs false
namespace Go.Proofs.Ytclgmpflmeopmaa
open Go.RowKit Dun

set_option maxHeartbeats 2000000 in
theorem done_any (c : ConfD) (s : StateD) (a1 a2 : Option Addr) (c1 c2 : Nat) (w : World) (r : Bool) (hr : doneFrom s s.nodes = r) (hO : Okay c s) (hS : StateAt w s a1 a2) :
    Calls Try.prog 22 #[stateV s a1 a2 c1 c2] w (Ret w (.bool r)) := by
  have hn6 : s.nodes.length ≤ 6 := by have := hO.nodes; have := hO.conf; omega
  have HB := Lib.hid (fun W nd r' (h : behindB s nd = r') => behind_any s a1 a2 c1 c2 nd W r' h)
  have HAl := Lib.hid (fun W (k : Nat) r' (h : aloneB s k = r') (hS' : StateAt W s a1 a2) => alone_any c s a1 a2 c1 c2 k W r' h hO hS')
  have HS := Lib.hid hS
  have HNs := Lib.hid hS.nodes
  have HR := Lib.hid hr
  clear hS hO hr
  obtain ⟨S, hSS⟩ : ∃ S, S = s := ⟨_, rfl⟩
  have HSS := Lib.hid hSS
  rw [← hSS] at HR HS HB HAl
  clear hSS
  obtain ⟨ns, js, g, p, m, t⟩ := s
  dsimp only [stateV] at *
  obtain ⟨n, hn⟩ : ∃ n, n = ns.length := ⟨_, rfl⟩
  obtain ⟨l, hl⟩ : ∃ n, n = js.length := ⟨_, rfl⟩
  have HN := Lib.hid hn
  have HB2 : Hid (∀ W nd r', behindB S nd = r' → Calls Try.prog 39 #[.agg #[.slice a1 n c1, .slice a2 l c2, .int .i64 g, .int .i64 p, .int .i64 m, .int .i64 t], nodeV nd] W (Ret W (.bool r'))) := by
    rw [hn, hl]; have h := HB.out; rw [HSS.out] at h ⊢; exact Lib.hid h
  have HA2 : Hid (∀ W (k : Nat) r', aloneB S k = r' → StateAt W S a1 a2 → Calls Try.prog 18 #[.agg #[.slice a1 n c1, .slice a2 l c2, .int .i64 g, .int .i64 p, .int .i64 m, .int .i64 t], .int .i64 (k : Int)] W (Ret W (.bool r'))) := by
    rw [hn, hl]; have h := HAl.out; rw [HSS.out] at h ⊢; exact Lib.hid h
  have HR2 : Hid (doneFrom S ns = r) := by have h := HR.out; rw [HSS.out] at h ⊢; exact Lib.hid h
  have HE : Hid (∀ k, k < n → aloneB S k = aloneN S (ns.getD k zeroNode)) := by
    refine Lib.hid fun k hk => ?_
    rw [hn] at hk
    rw [HSS.out]
    unfold aloneB
    rw [if_neg (by first | omega | (simp; done) | (simp; omega)), Int.toNat_natCast]
  rw [← hn] at hn6
  rw [← hn, ← hl]
  clear hn hl HR HB HAl
  go_enter Try.func22, Try.ntmps22
  go_wp2
  go_loopw [8] (fun i wr => ∃ k : Nat, k ≤ n ∧ i = .int .i64 k ∧ Hid (doneFrom S (ns.drop k) = r) ∧ Below (w.heap.size + 1) ((w.alloc (.cells #[.slice a1 n c1, .slice a2 l c2, .int .i64 g, .int .i64 p, .int .i64 m, .int .i64 t] 33))) wr) (fun i _ => n - (intOf i).toNat)
  case atStart => exact ⟨0, Nat.zero_le _, rfl, by rw [List.drop_zero]; exact HR2, Below.refl _ _⟩
  case round =>
    obtain ⟨k, hk, rfl, HK, hB⟩ := hrel
    have hsz := hB.size
    simp only [World.size_alloc] at hsz
    have hs0 : w.heap.size < wr.heap.size := by omega
    have hcr : ∀ o, wr.cell? ⟨w.heap.size, o, none⟩ = ((w.alloc (.cells #[.slice a1 n c1, .slice a2 l c2, .int .i64 g, .int .i64 p, .int .i64 m, .int .i64 t] 33))).cell? ⟨w.heap.size, o, none⟩ := fun o => hB.cell (p := ⟨w.heap.size, o, none⟩) (Nat.lt_succ_self _)
    have hBr : Below w.heap.size w wr := ((by repeat (first | (with_reducible exact Below.refl _ _) | ((with_reducible refine Below.setCell ?_ ?_ _); rotate_left 1; focus (first | omega | (simp; done) | (simp; omega))) | ((with_reducible refine Below.alloc ?_ ?_ _); rotate_left 1; focus (first | omega | (simp; done) | (simp; omega))) | (with_reducible refine Below.drew ?_) | (with_reducible refine Below.draws ?_ _) | assumption)) : Below w.heap.size w _).trans (hB.mono (by omega))
    by_cases hlt : k < n
    · have hk2 : ¬ n ≤ k := by omega
      obtain ⟨b, o, nd, HM, hb, hix, d0, d1, d2, d3, d4⟩ := node_at ((HNs.out.below hBr (Nat.le_refl _)).cast HN.out) hlt
      have hr := HK.out
      rw [drop_cons ns k zeroNode (by have := HN.out; omega), ← HM.out] at hr
      have hal := HE.out k hlt
      rw [← HM.out] at hal
      unfold doneFrom at hr
      obtain ⟨bh, hbh⟩ : ∃ b, behindB S nd = b := ⟨_, rfl⟩
      obtain ⟨al, hal2⟩ : ∃ b, aloneN S nd = b := ⟨_, rfl⟩
      rw [hbh, hal2] at hr
      rw [hal2] at hal
      have HBH := Lib.hid hbh
      have HAL := Lib.hid hal
      have HK2 := Lib.hid hr
      clear hbh hal2 hal hr HK
      obtain ⟨e0, e1, e2, e3, e4⟩ := nd
      dsimp only at *
      cases e2 with
      | true =>
        obtain rfl : false = r := HK2.out
        go_wp2
        go_ret
        exact ⟨rfl, hBr.trans (by repeat (first | (with_reducible exact Below.refl _ _) | ((with_reducible refine Below.setCell ?_ ?_ _); rotate_left 1; focus (first | omega | (simp; done) | (simp; omega))) | ((with_reducible refine Below.alloc ?_ ?_ _); rotate_left 1; focus (first | omega | (simp; done) | (simp; omega))) | (with_reducible refine Below.drew ?_) | (with_reducible refine Below.draws ?_ _) | assumption))⟩
      | false =>
        go_wp2_with fail
        refine (HB2.out _ ⟨e0, e1, false, e3, e4⟩ bh HBH.out).mono ?_
        rintro e w2 ⟨rfl, hb2⟩
        obtain ⟨hc2, hf2⟩ := bcell hb2
        have hB2 : Below (w.heap.size + 1) wr w2 := ((by repeat (first | (with_reducible exact Below.refl _ _) | ((with_reducible refine Below.setCell ?_ ?_ _); rotate_left 1; focus (first | omega | (simp; done) | (simp; omega))) | ((with_reducible refine Below.alloc ?_ ?_ _); rotate_left 1; focus (first | omega | (simp; done) | (simp; omega))) | (with_reducible refine Below.drew ?_) | (with_reducible refine Below.draws ?_ _) | assumption)) : Below (w.heap.size + 1) wr _).trans (hb2.mono (by first | omega | (simp; done) | (simp; omega)))
        have hs2 : w.heap.size < w2.heap.size := by have := hB2.size; omega
        cases bh with
        | false =>
          go_wp2
          go_roundw
          case rel => exact ⟨k + 1, by omega, by go_num, by have := HK2.out; exact Lib.hid (by simpa using this), hB.trans (hB2.trans (by repeat (first | (with_reducible exact Below.refl _ _) | ((with_reducible refine Below.setCell ?_ ?_ _); rotate_left 1; focus (first | omega | (simp; done) | (simp; omega))) | ((with_reducible refine Below.alloc ?_ ?_ _); rotate_left 1; focus (first | omega | (simp; done) | (simp; omega))) | (with_reducible refine Below.drew ?_) | (with_reducible refine Below.draws ?_ _) | assumption)))⟩
          case measure => simp [intOf]; omega
        | true =>
          go_wp2_with fail
          refine Calls.mono (HA2.out _ k al HAL.out ?_) ?_
          · exact HS.out.below (hBr.trans ((hB2.mono (by omega)).trans (by repeat (first | (with_reducible exact Below.refl _ _) | ((with_reducible refine Below.setCell ?_ ?_ _); rotate_left 1; focus (first | omega | (simp; done) | (simp; omega))) | ((with_reducible refine Below.alloc ?_ ?_ _); rotate_left 1; focus (first | omega | (simp; done) | (simp; omega))) | (with_reducible refine Below.drew ?_) | (with_reducible refine Below.draws ?_ _) | assumption)))) (Nat.le_refl _)
          rintro e w3 ⟨rfl, hb3⟩
          cases al with
          | true =>
            go_wp2
            go_roundw
            case rel => exact ⟨k + 1, by omega, by go_num, by have := HK2.out; exact Lib.hid (by simpa using this), hB.trans (hB2.trans (hb3.mono (by have := hB2.size; omega)))⟩
            case measure => simp [intOf]; omega
          | false =>
            obtain rfl : false = r := HK2.out
            go_wp2
            go_ret
            exact ⟨rfl, hBr.trans ((hB2.mono (by omega)).trans (hb3.mono (by have := hB2.size; omega)))⟩
    · obtain rfl : n = k := by omega
      have hr : true = r := by have := HK.out; rw [List.drop_of_length_le (by have := HN.out; omega)] at this; exact this
      subst hr
      go_wp2
      go_ret
      exact ⟨rfl, hBr⟩

set_option maxHeartbeats 2000000 in
theorem doneR_any (c : ConfD) (s : StateD) (a1 a2 : Option Addr) (c1 c2 : Nat) (w : World) (r : Bool) (hr : doneFrom s s.nodes = r) (hO : Okay c s) (hS : StateAt w s a1 a2) :
    Calls Try.prog 23 #[stateV s a1 a2 c1 c2] w (Ret w (.bool r)) := by
  have hn6 : s.nodes.length ≤ 6 := by have := hO.nodes; have := hO.conf; omega
  have HB := Lib.hid (fun W (k : Nat) r' (hk : k < s.nodes.length) (h : behindB s (s.nodes.getD k zeroNode) = r') (hS' : StateAt W s a1 a2) => behindR_any s a1 a2 c1 c2 k hk (by omega) W r' h hS')
  have HAl := Lib.hid (fun W (k : Nat) r' (h : aloneB s k = r') (hS' : StateAt W s a1 a2) => aloneR_any c s a1 a2 c1 c2 k W r' h hO hS')
  have HS := Lib.hid hS
  have HNs := Lib.hid hS.nodes
  have HR := Lib.hid hr
  clear hS hO hr
  obtain ⟨S, hSS⟩ : ∃ S, S = s := ⟨_, rfl⟩
  have HSS := Lib.hid hSS
  rw [← hSS] at HR HS HB HAl
  clear hSS
  obtain ⟨ns, js, g, p, m, t⟩ := s
  dsimp only [stateV] at *
  obtain ⟨n, hn⟩ : ∃ n, n = ns.length := ⟨_, rfl⟩
  obtain ⟨l, hl⟩ : ∃ n, n = js.length := ⟨_, rfl⟩
  have HN := Lib.hid hn
  have HB2 : Hid (∀ W (k : Nat) r', k < n → behindB S (ns.getD k zeroNode) = r' → StateAt W S a1 a2 → Calls Try.prog 15 #[.agg #[.slice a1 n c1, .slice a2 l c2, .int .i64 g, .int .i64 p, .int .i64 m, .int .i64 t], .int .i64 (k : Int)] W (Ret W (.bool r'))) := by
    rw [hn, hl]; have h := HB.out; rw [HSS.out] at h ⊢; exact Lib.hid h
  have HA2 : Hid (∀ W (k : Nat) r', aloneB S k = r' → StateAt W S a1 a2 → Calls Try.prog 19 #[.agg #[.slice a1 n c1, .slice a2 l c2, .int .i64 g, .int .i64 p, .int .i64 m, .int .i64 t], .int .i64 (k : Int)] W (Ret W (.bool r'))) := by
    rw [hn, hl]; have h := HAl.out; rw [HSS.out] at h ⊢; exact Lib.hid h
  have HR2 : Hid (doneFrom S ns = r) := by have h := HR.out; rw [HSS.out] at h ⊢; exact Lib.hid h
  have HE : Hid (∀ k, k < n → aloneB S k = aloneN S (ns.getD k zeroNode)) := by
    refine Lib.hid fun k hk => ?_
    rw [hn] at hk
    rw [HSS.out]
    unfold aloneB
    rw [if_neg (by first | omega | (simp; done) | (simp; omega)), Int.toNat_natCast]
  rw [← hn] at hn6
  rw [← hn, ← hl]
  clear hn hl HR HB HAl
  go_enter Try.func23, Try.ntmps23
  go_wp2
  go_loopw [3] (fun i wr => ∃ k : Nat, k ≤ n ∧ i = .int .i64 k ∧ Hid (doneFrom S (ns.drop k) = r) ∧ Below (w.heap.size + 1) ((w.alloc (.cells #[.slice a1 n c1, .slice a2 l c2, .int .i64 g, .int .i64 p, .int .i64 m, .int .i64 t] 33))) wr) (fun i _ => n - (intOf i).toNat)
  case atStart => exact ⟨0, Nat.zero_le _, rfl, by rw [List.drop_zero]; exact HR2, Below.refl _ _⟩
  case round =>
    obtain ⟨k, hk, rfl, HK, hB⟩ := hrel
    have hsz := hB.size
    simp only [World.size_alloc] at hsz
    have hs0 : w.heap.size < wr.heap.size := by omega
    have hcr : ∀ o, wr.cell? ⟨w.heap.size, o, none⟩ = ((w.alloc (.cells #[.slice a1 n c1, .slice a2 l c2, .int .i64 g, .int .i64 p, .int .i64 m, .int .i64 t] 33))).cell? ⟨w.heap.size, o, none⟩ := fun o => hB.cell (p := ⟨w.heap.size, o, none⟩) (Nat.lt_succ_self _)
    have hBr : Below w.heap.size w wr := ((by repeat (first | (with_reducible exact Below.refl _ _) | ((with_reducible refine Below.setCell ?_ ?_ _); rotate_left 1; focus (first | omega | (simp; done) | (simp; omega))) | ((with_reducible refine Below.alloc ?_ ?_ _); rotate_left 1; focus (first | omega | (simp; done) | (simp; omega))) | (with_reducible refine Below.drew ?_) | (with_reducible refine Below.draws ?_ _) | assumption)) : Below w.heap.size w _).trans (hB.mono (by omega))
    by_cases hlt : k < n
    · have hk2 : ¬ n ≤ k := by omega
      obtain ⟨b, o, nd, HM, hb, hix, d0, d1, d2, d3, d4⟩ := node_at ((HNs.out.below hBr (Nat.le_refl _)).cast HN.out) hlt
      have hr := HK.out
      rw [drop_cons ns k zeroNode (by have := HN.out; omega), ← HM.out] at hr
      have hal := HE.out k hlt
      rw [← HM.out] at hal
      unfold doneFrom at hr
      obtain ⟨bh, hbh⟩ : ∃ b, behindB S nd = b := ⟨_, rfl⟩
      obtain ⟨al, hal2⟩ : ∃ b, aloneN S nd = b := ⟨_, rfl⟩
      rw [hbh, hal2] at hr
      rw [hal2] at hal
      have HBH := Lib.hid hbh
      have HAL := Lib.hid hal
      have HK2 := Lib.hid hr
      clear hbh hal2 hal hr HK
      obtain ⟨e0, e1, e2, e3, e4⟩ := nd
      dsimp only at *
      cases e2 with
      | true =>
        obtain rfl : false = r := HK2.out
        go_wp2
        go_ret
        exact ⟨rfl, hBr.trans (by repeat (first | (with_reducible exact Below.refl _ _) | ((with_reducible refine Below.setCell ?_ ?_ _); rotate_left 1; focus (first | omega | (simp; done) | (simp; omega))) | ((with_reducible refine Below.alloc ?_ ?_ _); rotate_left 1; focus (first | omega | (simp; done) | (simp; omega))) | (with_reducible refine Below.drew ?_) | (with_reducible refine Below.draws ?_ _) | assumption))⟩
      | false =>
        go_wp2_with fail
        refine Calls.mono (HB2.out _ k bh hlt (by rw [← HM.out]; exact HBH.out) ?_) ?_
        · exact HS.out.below (hBr.trans (by repeat (first | (with_reducible exact Below.refl _ _) | ((with_reducible refine Below.setCell ?_ ?_ _); rotate_left 1; focus (first | omega | (simp; done) | (simp; omega))) | ((with_reducible refine Below.alloc ?_ ?_ _); rotate_left 1; focus (first | omega | (simp; done) | (simp; omega))) | (with_reducible refine Below.drew ?_) | (with_reducible refine Below.draws ?_ _) | assumption))) (Nat.le_refl _)
        rintro e w2 ⟨rfl, hb2⟩
        obtain ⟨hc2, hf2⟩ := bcell hb2
        have hB2 : Below (w.heap.size + 1) wr w2 := ((by repeat (first | (with_reducible exact Below.refl _ _) | ((with_reducible refine Below.setCell ?_ ?_ _); rotate_left 1; focus (first | omega | (simp; done) | (simp; omega))) | ((with_reducible refine Below.alloc ?_ ?_ _); rotate_left 1; focus (first | omega | (simp; done) | (simp; omega))) | (with_reducible refine Below.drew ?_) | (with_reducible refine Below.draws ?_ _) | assumption)) : Below (w.heap.size + 1) wr _).trans (hb2.mono (by first | omega | (simp; done) | (simp; omega)))
        have hs2 : w.heap.size < w2.heap.size := by have := hB2.size; omega
        cases bh with
        | false =>
          go_wp2
          go_roundw
          case rel => exact ⟨k + 1, by omega, by go_num, by have := HK2.out; exact Lib.hid (by simpa using this), hB.trans (hB2.trans (by repeat (first | (with_reducible exact Below.refl _ _) | ((with_reducible refine Below.setCell ?_ ?_ _); rotate_left 1; focus (first | omega | (simp; done) | (simp; omega))) | ((with_reducible refine Below.alloc ?_ ?_ _); rotate_left 1; focus (first | omega | (simp; done) | (simp; omega))) | (with_reducible refine Below.drew ?_) | (with_reducible refine Below.draws ?_ _) | assumption)))⟩
          case measure => simp [intOf]; omega
        | true =>
          go_wp2_with fail
          refine Calls.mono (HA2.out _ k al HAL.out ?_) ?_
          · exact HS.out.below (hBr.trans ((hB2.mono (by omega)).trans (by repeat (first | (with_reducible exact Below.refl _ _) | ((with_reducible refine Below.setCell ?_ ?_ _); rotate_left 1; focus (first | omega | (simp; done) | (simp; omega))) | ((with_reducible refine Below.alloc ?_ ?_ _); rotate_left 1; focus (first | omega | (simp; done) | (simp; omega))) | (with_reducible refine Below.drew ?_) | (with_reducible refine Below.draws ?_ _) | assumption)))) (Nat.le_refl _)
          rintro e w3 ⟨rfl, hb3⟩
          cases al with
          | true =>
            go_wp2
            go_roundw
            case rel => exact ⟨k + 1, by omega, by go_num, by have := HK2.out; exact Lib.hid (by simpa using this), hB.trans (hB2.trans (hb3.mono (by have := hB2.size; omega)))⟩
            case measure => simp [intOf]; omega
          | false =>
            obtain rfl : false = r := HK2.out
            go_wp2
            go_ret
            exact ⟨rfl, hBr.trans ((hB2.mono (by omega)).trans (hb3.mono (by have := hB2.size; omega)))⟩
    · obtain rfl : n = k := by omega
      have hr : true = r := by have := HK.out; rw [List.drop_of_length_le (by have := HN.out; omega)] at this; exact this
      subst hr
      go_wp2
      go_ret
      exact ⟨rfl, hBr⟩
end Go.Proofs.Ytclgmpflmeopmaa
