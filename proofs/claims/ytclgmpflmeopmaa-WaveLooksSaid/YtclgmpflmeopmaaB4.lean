import Derived.Test.YtclgmpflmeopmaaB3
set_option linter.unusedVariables false
set_option linter.unusedSimpArgs false
namespace Go.Proofs.Ytclgmpflmeopmaa
open Go.RowKit Dun

set_option maxHeartbeats 1000000 in
theorem fits_any (s : StateD) (a1 a2 : Option Addr) (c1 c2 : Nat) (j : JobD) (nodes : Int) (F : FuncId) (C : Array Value) (takes : NodeD → Bool) (w : World) (r : Bool) (hr : fitsB s.nodes j nodes takes = r) (hS : StateAt w s a1 a2) (hn : s.nodes.length ≤ 6)
    (hcf : ∀ A W, Sem.run Try.prog (callFunc F A) W = .ok (.enter F A) W)
    (hT : ∀ n W, Below w.heap.size w W → Calls Try.prog F (#[nodeV n] ++ C) W (Ret W (.bool (takes n)))) :
    Calls Try.prog 52 #[stateV s a1 a2 c1 c2, jobV j, .int .i64 nodes, .func (.func F) #[] C] w (Ret w (.bool r)) := by
  have hN := hS.nodes
  clear hS
  obtain ⟨ns, js, g, p, m, t⟩ := s
  obtain ⟨y0, y1, y2, y3, y4, y5, y6, y7, y8, y9, y10, y11⟩ := j
  dsimp only [stateV] at hN hn hr ⊢
  have HNs := Lib.hid hN
  clear hN
  have HT := Lib.hid hT
  clear hT
  obtain ⟨n, hnn⟩ : ∃ n, n = ns.length := ⟨_, rfl⟩
  rw [← hnn] at hn ⊢
  have HN := Lib.hid hnn
  clear hnn
  obtain ⟨P, hP⟩ : ∃ P : Int, P = 2 ^ n := ⟨_, rfl⟩
  have hP64 : P ≤ 64 := by
    have : n = 0 ∨ n = 1 ∨ n = 2 ∨ n = 3 ∨ n = 4 ∨ n = 5 ∨ n = 6 := by omega
    rcases this with h | h | h | h | h | h | h <;> subst h <;> simp [hP]
  have hP1 : 1 ≤ P := by
    have : n = 0 ∨ n = 1 ∨ n = 2 ∨ n = 3 ∨ n = 4 ∨ n = 5 ∨ n = 6 := by omega
    rcases this with h | h | h | h | h | h | h <;> subst h <;> simp [hP]
  have hw : IntKind.i64.wrap (2 ^ n) = P := by rw [← hP]; simp [IntKind.wrap, IntKind.bits, IntKind.signed]; omega
  have HP := Lib.hid hP
  clear hP
  unfold fitsB at hr
  rw [← HN.out, ← HP.out] at hr
  by_cases h1 : nodes < 0
  · rw [if_pos (Or.inl h1)] at hr
    subst hr
    have h1' : decide (nodes < 0) = true := by simpa using h1
    go_enter Try.func52, Try.ntmps52
    go_wp2
    go_quiet (fail)
    go_wp2
    go_ret
    exact ⟨rfl, (by repeat (first | (with_reducible exact Below.refl _ _) | ((with_reducible refine Below.setCell ?_ ?_ _); rotate_left 1; focus (first | omega | (simp; done) | (simp; omega))) | ((with_reducible refine Below.alloc ?_ ?_ _); rotate_left 1; focus (first | omega | (simp; done) | (simp; omega))) | (with_reducible refine Below.drew ?_) | (with_reducible refine Below.draws ?_ _) | assumption))⟩
  · have h1' : decide (nodes < 0) = false := by simpa using h1
    by_cases h2 : P ≤ nodes
    · rw [if_pos (Or.inr h2)] at hr
      subst hr
      have h2' : decide (P ≤ nodes) = true := by simpa using h2
      go_enter Try.func52, Try.ntmps52
      go_wp2
      go_quiet (fail)
      go_wp2
      go_ret
      exact ⟨rfl, (by repeat (first | (with_reducible exact Below.refl _ _) | ((with_reducible refine Below.setCell ?_ ?_ _); rotate_left 1; focus (first | omega | (simp; done) | (simp; omega))) | ((with_reducible refine Below.alloc ?_ ?_ _); rotate_left 1; focus (first | omega | (simp; done) | (simp; omega))) | (with_reducible refine Below.drew ?_) | (with_reducible refine Below.draws ?_ _) | assumption))⟩
    · have h2' : decide (P ≤ nodes) = false := by simpa using h2
      have hwu : IntKind.u64.wrap nodes = nodes := by simp [IntKind.wrap, IntKind.bits, IntKind.signed]; omega
      rw [if_neg (by omega)] at hr
      by_cases h3 : withinB (many nodes) y2 y3 = true
      · rw [if_pos h3] at hr
        have HR := Lib.hid hr
        clear hr
        go_enter Try.func52, Try.ntmps52
        go_wp2
        go_quiet (first | ((go_at_call 34; exact Calls.qs (within_any _ _ _ _))) | ((go_at_call 65; exact Calls.qs (ones_any _ _ (by omega) (by omega)))))
        clear h3
        go_wp2
        go_loopw [9, 38] (fun x i wr => ∃ (k : Nat) (v : Int), k ≤ n ∧ i = .int .i64 k ∧ x = .int .i64 v ∧ Hid (fitsLoop nodes takes (ns.drop k) k v = r) ∧ Below w.heap.size w wr) (fun _ i _ => n - (intOf i).toNat)
        case atStart => exact ⟨0, _, Nat.zero_le _, rfl, rfl, by rw [List.drop_zero]; exact HR.out, (by repeat (first | (with_reducible exact Below.refl _ _) | ((with_reducible refine Below.setCell ?_ ?_ _); rotate_left 1; focus (first | omega | (simp; done) | (simp; omega))) | ((with_reducible refine Below.alloc ?_ ?_ _); rotate_left 1; focus (first | omega | (simp; done) | (simp; omega))) | (with_reducible refine Below.drew ?_) | (with_reducible refine Below.draws ?_ _) | assumption))⟩
        case round =>
          clear HR hwu h1' h2' hw
          obtain ⟨k, v, hk, rfl, rfl, HR, hB⟩ := hrel
          by_cases hlt : k < n
          · have hsz := hB.size
            have hNr := HNs.out.below hB (Nat.le_refl _)
            rw [← HN.out] at hNr
            obtain ⟨b, o, nd, HM, hb, hix, d0, d1, d2, d3, d4⟩ := node_at hNr hlt
            clear hNr
            have hr := HR.out
            clear HR
            rw [drop_cons ns k zeroNode (by have := HN.out; omega), ← HM.out] at hr
            clear HM
            unfold fitsLoop at hr
            have hbq := hasB_eq0 nodes k
            by_cases hbt : hasB nodes k = false
            · rw [if_pos hbt] at hr
              rw [hbt] at hbq
              have HR := Lib.hid hr
              clear hr hbt
              go_wp2
              go_roundw
              case rel => exact ⟨k + 1, v, by omega, by go_num, rfl, HR, hB.trans (by repeat (first | (with_reducible exact Below.refl _ _) | ((with_reducible refine Below.setCell ?_ ?_ _); rotate_left 1; focus (first | omega | (simp; done) | (simp; omega))) | ((with_reducible refine Below.alloc ?_ ?_ _); rotate_left 1; focus (first | omega | (simp; done) | (simp; omega))) | (with_reducible refine Below.drew ?_) | (with_reducible refine Below.draws ?_ _) | assumption))⟩
              case measure => simp [intOf]; omega
            · rw [if_neg hbt] at hr
              have hbt' : hasB nodes k = true := by simpa using hbt
              rw [hbt'] at hbq
              clear hbt hbt'
              obtain ⟨v', hv'⟩ : ∃ v', v' = if v = 0 then nd.version else v := ⟨_, rfl⟩
              rw [← hv'] at hr
              have HR := Lib.hid hr
              have HV := Lib.hid hv'
              clear hr hv'
              have hvb : (v == 0) = true ∨ (v == 0) = false := by cases (v == 0) <;> simp
              obtain ⟨e0, e1, e2, e3, e4⟩ := nd
              rcases hvb with hvb | hvb
              · have h0 : v = 0 := by simpa using hvb
                obtain rfl : v' = e3 := by have := HV.out; rw [if_pos h0] at this; exact this
                clear h0 HV
                dsimp only at *
                obtain ⟨tk, htk⟩ : ∃ tk, tk = takes ⟨e0, e1, e2, v', e4⟩ := ⟨_, rfl⟩
                have hr := HR.out
                rw [← htk] at hr
                have HT1 : Hid (tk = takes ⟨e0, e1, e2, v', e4⟩) := htk
                clear htk HR
                cases tk with
                | false =>
                  obtain rfl : false = r := by simpa using hr
                  clear hr
                  go_wp2_with fail
                  refine (HT.out ⟨e0, e1, e2, v', e4⟩ _ (hB.trans (by repeat (first | (with_reducible exact Below.refl _ _) | ((with_reducible refine Below.setCell ?_ ?_ _); rotate_left 1; focus (first | omega | (simp; done) | (simp; omega))) | ((with_reducible refine Below.alloc ?_ ?_ _); rotate_left 1; focus (first | omega | (simp; done) | (simp; omega))) | (with_reducible refine Below.drew ?_) | (with_reducible refine Below.draws ?_ _) | assumption)))).mono ?_
                  rintro e w1 ⟨rfl, hb1⟩
                  rw [← HT1.out]
                  obtain ⟨hc1, hf1⟩ := bcell hb1
                  go_wp2
                  go_ret
                  exact ⟨rfl, hB.trans (((by repeat (first | (with_reducible exact Below.refl _ _) | ((with_reducible refine Below.setCell ?_ ?_ _); rotate_left 1; focus (first | omega | (simp; done) | (simp; omega))) | ((with_reducible refine Below.alloc ?_ ?_ _); rotate_left 1; focus (first | omega | (simp; done) | (simp; omega))) | (with_reducible refine Below.drew ?_) | (with_reducible refine Below.draws ?_ _) | assumption)) : Below w.heap.size wr _).trans (hb1.mono (by first | omega | (simp; done) | (simp; omega))))⟩
                | true =>
                  have HR := Lib.hid hr
                  clear hr
                  go_wp2_with fail
                  refine (HT.out ⟨e0, e1, e2, v', e4⟩ _ (hB.trans (by repeat (first | (with_reducible exact Below.refl _ _) | ((with_reducible refine Below.setCell ?_ ?_ _); rotate_left 1; focus (first | omega | (simp; done) | (simp; omega))) | ((with_reducible refine Below.alloc ?_ ?_ _); rotate_left 1; focus (first | omega | (simp; done) | (simp; omega))) | (with_reducible refine Below.drew ?_) | (with_reducible refine Below.draws ?_ _) | assumption)))).mono ?_
                  rintro e w1 ⟨rfl, hb1⟩
                  rw [← HT1.out]
                  obtain ⟨hc1, hf1⟩ := bcell hb1
                  go_wp2
                  go_roundw
                  case rel => exact ⟨k + 1, v', by omega, by go_num, rfl, by have := HR.out; exact Lib.hid (by simpa using this), hB.trans (((by repeat (first | (with_reducible exact Below.refl _ _) | ((with_reducible refine Below.setCell ?_ ?_ _); rotate_left 1; focus (first | omega | (simp; done) | (simp; omega))) | ((with_reducible refine Below.alloc ?_ ?_ _); rotate_left 1; focus (first | omega | (simp; done) | (simp; omega))) | (with_reducible refine Below.drew ?_) | (with_reducible refine Below.draws ?_ _) | assumption)) : Below w.heap.size wr _).trans (hb1.mono (by first | omega | (simp; done) | (simp; omega))))⟩
                  case measure => simp [intOf]; omega
              · have h0 : ¬ v = 0 := by simpa using hvb
                obtain rfl : v' = v := by have := HV.out; rw [if_neg h0] at this; exact this
                clear h0 HV
                dsimp only at *
                obtain ⟨tk, htk⟩ : ∃ tk, tk = takes ⟨e0, e1, e2, e3, e4⟩ := ⟨_, rfl⟩
                have hr := HR.out
                rw [← htk] at hr
                have HT1 : Hid (tk = takes ⟨e0, e1, e2, e3, e4⟩) := htk
                clear htk HR
                cases tk with
                | false =>
                  obtain rfl : false = r := by simpa using hr
                  clear hr
                  go_wp2_with fail
                  refine (HT.out ⟨e0, e1, e2, e3, e4⟩ _ (hB.trans (by repeat (first | (with_reducible exact Below.refl _ _) | ((with_reducible refine Below.setCell ?_ ?_ _); rotate_left 1; focus (first | omega | (simp; done) | (simp; omega))) | ((with_reducible refine Below.alloc ?_ ?_ _); rotate_left 1; focus (first | omega | (simp; done) | (simp; omega))) | (with_reducible refine Below.drew ?_) | (with_reducible refine Below.draws ?_ _) | assumption)))).mono ?_
                  rintro e w1 ⟨rfl, hb1⟩
                  rw [← HT1.out]
                  obtain ⟨hc1, hf1⟩ := bcell hb1
                  go_wp2
                  go_ret
                  exact ⟨rfl, hB.trans (((by repeat (first | (with_reducible exact Below.refl _ _) | ((with_reducible refine Below.setCell ?_ ?_ _); rotate_left 1; focus (first | omega | (simp; done) | (simp; omega))) | ((with_reducible refine Below.alloc ?_ ?_ _); rotate_left 1; focus (first | omega | (simp; done) | (simp; omega))) | (with_reducible refine Below.drew ?_) | (with_reducible refine Below.draws ?_ _) | assumption)) : Below w.heap.size wr _).trans (hb1.mono (by first | omega | (simp; done) | (simp; omega))))⟩
                | true =>
                  by_cases hve : e3 = v'
                  · subst hve
                    have HR := Lib.hid hr
                    clear hr
                    go_wp2_with fail
                    refine (HT.out ⟨e0, e1, e2, e3, e4⟩ _ (hB.trans (by repeat (first | (with_reducible exact Below.refl _ _) | ((with_reducible refine Below.setCell ?_ ?_ _); rotate_left 1; focus (first | omega | (simp; done) | (simp; omega))) | ((with_reducible refine Below.alloc ?_ ?_ _); rotate_left 1; focus (first | omega | (simp; done) | (simp; omega))) | (with_reducible refine Below.drew ?_) | (with_reducible refine Below.draws ?_ _) | assumption)))).mono ?_
                    rintro e w1 ⟨rfl, hb1⟩
                    rw [← HT1.out]
                    obtain ⟨hc1, hf1⟩ := bcell hb1
                    go_wp2
                    go_roundw
                    case rel => exact ⟨k + 1, e3, by omega, by go_num, rfl, by have := HR.out; exact Lib.hid (by simpa using this), hB.trans (((by repeat (first | (with_reducible exact Below.refl _ _) | ((with_reducible refine Below.setCell ?_ ?_ _); rotate_left 1; focus (first | omega | (simp; done) | (simp; omega))) | ((with_reducible refine Below.alloc ?_ ?_ _); rotate_left 1; focus (first | omega | (simp; done) | (simp; omega))) | (with_reducible refine Below.drew ?_) | (with_reducible refine Below.draws ?_ _) | assumption)) : Below w.heap.size wr _).trans (hb1.mono (by first | omega | (simp; done) | (simp; omega))))⟩
                    case measure => simp [intOf]; omega
                  · obtain rfl : false = r := by simpa [hve] using hr
                    clear hr
                    have hne : (e3 != v') = true := by simpa using hve
                    go_wp2_with fail
                    refine (HT.out ⟨e0, e1, e2, e3, e4⟩ _ (hB.trans (by repeat (first | (with_reducible exact Below.refl _ _) | ((with_reducible refine Below.setCell ?_ ?_ _); rotate_left 1; focus (first | omega | (simp; done) | (simp; omega))) | ((with_reducible refine Below.alloc ?_ ?_ _); rotate_left 1; focus (first | omega | (simp; done) | (simp; omega))) | (with_reducible refine Below.drew ?_) | (with_reducible refine Below.draws ?_ _) | assumption)))).mono ?_
                    rintro e w1 ⟨rfl, hb1⟩
                    rw [← HT1.out]
                    obtain ⟨hc1, hf1⟩ := bcell hb1
                    go_wp2
                    go_ret
                    exact ⟨rfl, hB.trans (((by repeat (first | (with_reducible exact Below.refl _ _) | ((with_reducible refine Below.setCell ?_ ?_ _); rotate_left 1; focus (first | omega | (simp; done) | (simp; omega))) | ((with_reducible refine Below.alloc ?_ ?_ _); rotate_left 1; focus (first | omega | (simp; done) | (simp; omega))) | (with_reducible refine Below.drew ?_) | (with_reducible refine Below.draws ?_ _) | assumption)) : Below w.heap.size wr _).trans (hb1.mono (by first | omega | (simp; done) | (simp; omega))))⟩
          · obtain rfl : k = n := by omega
            have hr := HR.out
            rw [List.drop_of_length_le (by have := HN.out; omega)] at hr
            clear HR
            go_wp2
            go_ret
            exact ⟨ret_bool hr, hB⟩
      · rw [if_neg h3] at hr
        subst hr
        have h3' : withinB (many nodes) y2 y3 = false := by simpa using h3
        clear h3
        go_enter Try.func52, Try.ntmps52
        go_wp2
        go_quiet (first | ((go_at_call 34; exact Calls.qs (within_any _ _ _ _))) | ((go_at_call 65; exact Calls.qs (ones_any _ _ (by omega) (by omega)))))
        clear h3'
        go_wp2
        go_ret
        exact ⟨rfl, (by repeat (first | (with_reducible exact Below.refl _ _) | ((with_reducible refine Below.setCell ?_ ?_ _); rotate_left 1; focus (first | omega | (simp; done) | (simp; omega))) | ((with_reducible refine Below.alloc ?_ ?_ _); rotate_left 1; focus (first | omega | (simp; done) | (simp; omega))) | (with_reducible refine Below.drew ?_) | (with_reducible refine Below.draws ?_ _) | assumption))⟩
end Go.Proofs.Ytclgmpflmeopmaa
