import Derived.Test.YtclgmpflmeopmaaB5
set_option linter.unusedVariables false
set_option linter.unusedSimpArgs false
namespace Go.Proofs.Ytclgmpflmeopmaa
open Go.RowKit Dun

theorem RowsAt.cast {w : World} {a : Option Addr} {size n m : Nat} {row : Nat → List Value} (h : RowsAt w a size n row) (e : m = n) : RowsAt w a size m row := e ▸ h

set_option maxHeartbeats 4000000 in
theorem right_any (c : ConfD) (s : StateD) (a1 a2 : Option Addr) (c1 c2 : Nat) (w : World) (r : Bool) (hr : rightB c s = r) (hS : StateAt w s a1 a2) (hn1 : s.nodes.length ≤ 9223372036854775807) (hn2 : s.jobs.length ≤ 9223372036854775807) :
    Calls Try.prog 14 #[confV c, stateV s a1 a2 c1 c2] w (Ret w (.bool r)) := by
  have HS := Lib.hid hS
  have HNs := Lib.hid hS.nodes
  have HJs := Lib.hid hS.jobs
  clear hS
  obtain ⟨mb, hmb⟩ : ∃ mb, mb = mayB c := ⟨_, rfl⟩
  have HM := Lib.hid hmb
  clear hmb
  have HMC := Lib.hid (may_any c)
  rw [← HM.out] at HMC
  obtain ⟨A, hA⟩ : ∃ A, A = standsFrom c s s.jobs 0 := ⟨_, rfl⟩
  obtain ⟨B, hB⟩ : ∃ A, A = soundFrom s s.nodes 0 := ⟨_, rfl⟩
  obtain ⟨C, hC⟩ : ∃ A, A = quotaFrom c s 0 c.queues.toNat := ⟨_, rfl⟩
  have HR : Hid ((mb && decide ((s.nodes.length : Int) = c.nodes) && decide (s.jobs.length ≤ 24) && withinB s.goal 1 9 && withinB s.prior 1 9 && withinB s.mode 0 2 && withinB s.term 0 1000000 && A && B && C) = r) := by
    refine Lib.hid ?_
    rw [← hr, HM.out, hA, hB, hC]
    rfl
  clear hr
  have HA := Lib.hid hA
  have HB := Lib.hid hB
  have HC := Lib.hid hC
  clear hA hB hC
  have HST := Lib.hid (fun W j num r' (hr' : standsB c s j num = r') (hS' : StateAt W s a1 a2) h6 h1 h3 => stands_any c s a1 a2 c1 c2 j num W r' hr' hS' h6 h1 h3)
  have HSO := Lib.hid (fun W nd (num : Nat) r' (hr' : soundB s nd num = r') (hS' : StateAt W s a1 a2) hj h50 => sound_any s a1 a2 c1 c2 nd num W r' hr' hS' hj h50)
  have HDR := Lib.hid (fun W q (hS' : StateAt W s a1 a2) hj => drains_any s a1 a2 c1 c2 q W hS' hj)
  obtain ⟨ns, js, g, p, m, t⟩ := s
  obtain ⟨x0, x1, x2, x3, x4, x5, x6, x7, x8⟩ := c
  dsimp only [stateV] at *
  obtain ⟨n, hnn⟩ : ∃ n, n = ns.length := ⟨_, rfl⟩
  rw [← hnn] at hn1 ⊢ HR HST HSO HDR
  have HN := Lib.hid hnn
  clear hnn
  obtain ⟨l, hll⟩ : ∃ n, n = js.length := ⟨_, rfl⟩
  rw [← hll] at hn2 ⊢ HR HST HSO HDR
  have HL := Lib.hid hll
  clear hll
  go_enter Try.func14, Try.ntmps14
  go_wp2_with fail
  refine (HMC.out _).mono ?_
  rintro e w1 ⟨rfl, hb1⟩
  obtain ⟨hc1, hf1⟩ := bcell hb1
  have hBW : Below w.heap.size w w1 := ((by repeat (first | (with_reducible exact Below.refl _ _) | ((with_reducible refine Below.setCell ?_ ?_ _); rotate_left 1; focus (first | omega | (simp; done) | (simp; omega))) | ((with_reducible refine Below.alloc ?_ ?_ _); rotate_left 1; focus (first | omega | (simp; done) | (simp; omega))) | (with_reducible refine Below.drew ?_) | (with_reducible refine Below.draws ?_ _) | assumption)) : Below w.heap.size w _).trans (hb1.mono (by first | omega | (simp; done) | (simp; omega)))
  go_wp2_with (go_at_call 34; refine (within_any _ _ _ _).mono ?_; rintro e w' ⟨rfl, rfl⟩)
  all_goals try (go_ret; exact ⟨ret_bool (by rw [← HR.out]; first | (simp [*]; done) | (have h : ¬ (l ≤ 24) := (by omega); simp [h]; done) | (have h0 : withinB t 0 1000000 = false := (by simpa using ‹(!withinB t 0 1000000) = true›); simp [h0])), hBW⟩)
  have e1 : mb = true := by assumption
  have e2 : (n : Int) = x0 := by assumption
  have e3 : (l : Int) ≤ 24 := by assumption
  have e8 : withinB t 0 1000000 = true := by simpa using ‹(!withinB t 0 1000000) = false›
  subst e1
  subst e2
  have HR2 : Hid ((A && B && C) = r) := by
    have h := HR.out
    have h24 : l ≤ 24 := by omega
    simp only [*, h24, decide_true, Bool.true_and] at h
    exact Lib.hid h
  clear HR
  have hmay := HM.out
  have hq1 : 1 ≤ x1 ∧ x1 ≤ 3 := by
    unfold mayB at hmay
    simp only [Bool.and_eq_true, Eq.comm (a := true)] at hmay
    exact of_decide_eq_true hmay.1.1.1.1.1.1.1.2
  have hq2 : n ≤ 6 := by
    unfold mayB at hmay
    simp only [Bool.and_eq_true, Eq.comm (a := true)] at hmay
    have : 1 ≤ (n : Int) ∧ (n : Int) ≤ 6 := of_decide_eq_true hmay.1.1.1.1.1.1.1.1
    omega
  clear hmay HMC HM
  have hW1 : w.heap.size + 2 ≤ w1.heap.size := by have := hb1.size; simp only [World.size_alloc] at this; omega
  rename (!withinB t 0 1000000) = false => h9
  clear hb1 e8 h9
  go_loopw [54] (fun i wr => ∃ k : Nat, k ≤ l ∧ i = .int .i64 k ∧ Hid (standsFrom ⟨n, x1, x2, x3, x4, x5, x6, x7, x8⟩ ⟨ns, js, g, p, m, t⟩ (js.drop k) k = A) ∧ Below (w.heap.size + 2) w1 wr) (fun i _ => l - (intOf i).toNat)
  case atStart => exact ⟨0, Nat.zero_le _, rfl, by rw [List.drop_zero]; exact Lib.hid HA.out.symm, Below.refl _ _⟩
  case round =>
    obtain ⟨k, hk, rfl, HK, hB⟩ := hrel
    have hcr : ∀ b o, b < w.heap.size + 2 → wr.cell? ⟨b, o, none⟩ = w1.cell? ⟨b, o, none⟩ := fun b o h => hB.cell (p := ⟨b, o, none⟩) h
    have hBr : Below w.heap.size w wr := hBW.trans (hB.mono (by omega))
    have hsz := hB.size
    have hs0 : w.heap.size < wr.heap.size := by omega
    have hs1 : w.heap.size + 1 < wr.heap.size := by omega
    by_cases hlt : k < l
    · obtain ⟨b, o, j, HM, hb, hix, d0, d1, d2, d3, d4, d5, d6, d7, d8, d9, d10, d11⟩ := job_at ((HJs.out.below hBr (Nat.le_refl _)).cast HL.out) hlt
      have hk' := HK.out
      rw [drop_cons js k zeroJob (by have := HL.out; omega), ← HM.out] at hk'
      clear HM HK
      unfold standsFrom at hk'
      obtain ⟨sb, hsb⟩ : ∃ sb, standsB ⟨n, x1, x2, x3, x4, x5, x6, x7, x8⟩ ⟨ns, js, g, p, m, t⟩ j ((k : Int) + 1) = sb := ⟨_, rfl⟩
      rw [hsb] at hk'
      have HSB := Lib.hid hsb
      have HK := Lib.hid hk'
      clear hsb hk'
      have HC1 := Lib.hid (fun W (hS' : StateAt W ⟨ns, js, g, p, m, t⟩ a1 a2) => HST.out W j ((k : Int) + 1) sb HSB.out hS' (by have := HN.out; omega) hq1.1 hq1.2)
      clear HSB
      obtain ⟨y0, y1, y2, y3, y4, y5, y6, y7, y8, y9, y10, y11⟩ := j
      dsimp only at *
      go_wp2_with fail
      refine Calls.mono (HC1.out _ ?_) ?_
      · exact HS.out.below (hBr.trans (by repeat (first | (with_reducible exact Below.refl _ _) | ((with_reducible refine Below.setCell ?_ ?_ _); rotate_left 1; focus (first | omega | (simp; done) | (simp; omega))) | ((with_reducible refine Below.alloc ?_ ?_ _); rotate_left 1; focus (first | omega | (simp; done) | (simp; omega))) | (with_reducible refine Below.drew ?_) | (with_reducible refine Below.draws ?_ _) | assumption))) (Nat.le_refl _)
      rintro e w2 ⟨rfl, hb2⟩
      cases sb with
      | true =>
        go_wp2
        go_roundw
        case rel => exact ⟨k + 1, by omega, by go_num, by have := HK.out; exact Lib.hid (by simpa using this), hB.trans (((by repeat (first | (with_reducible exact Below.refl _ _) | ((with_reducible refine Below.setCell ?_ ?_ _); rotate_left 1; focus (first | omega | (simp; done) | (simp; omega))) | ((with_reducible refine Below.alloc ?_ ?_ _); rotate_left 1; focus (first | omega | (simp; done) | (simp; omega))) | (with_reducible refine Below.drew ?_) | (with_reducible refine Below.draws ?_ _) | assumption)) : Below (w.heap.size + 2) wr _).trans (hb2.mono (by first | omega | (simp; done) | (simp; omega))))⟩
        case measure => simp [intOf]; omega
      | false =>
        have hA : A = false := by have := HK.out; simpa using this.symm
        go_wp2
        go_ret
        exact ⟨ret_bool (by rw [← HR2.out, hA]; rfl), hBr.trans (((by repeat (first | (with_reducible exact Below.refl _ _) | ((with_reducible refine Below.setCell ?_ ?_ _); rotate_left 1; focus (first | omega | (simp; done) | (simp; omega))) | ((with_reducible refine Below.alloc ?_ ?_ _); rotate_left 1; focus (first | omega | (simp; done) | (simp; omega))) | (with_reducible refine Below.drew ?_) | (with_reducible refine Below.draws ?_ _) | assumption)) : Below w.heap.size wr _).trans (hb2.mono (by first | omega | (simp; done) | (simp; omega))))⟩
    · obtain rfl : l = k := by omega
      have hA : A = true := by have := HK.out; rw [List.drop_of_length_le (by have := HL.out; omega)] at this; exact this.symm
      subst hA
      clear HK HST
      have HW := Lib.hid (And.intro hB hBr)
      obtain ⟨w2, hw2⟩ : ∃ w2, w2 = wr := ⟨_, rfl⟩
      subst hw2
      go_wp2
      go_loopw [70] (fun i wr => ∃ k : Nat, k ≤ n ∧ i = .int .i64 k ∧ Hid (soundFrom ⟨ns, js, g, p, m, t⟩ (ns.drop k) k = B) ∧ Below (w.heap.size + 2) w1 wr) (fun i _ => n - (intOf i).toNat)
      case atStart => exact ⟨0, Nat.zero_le _, rfl, by rw [List.drop_zero]; exact Lib.hid HB.out.symm, hB⟩
      case round =>
        clear hcr hBr hsz hB hk hlt hs0 hs1
        obtain ⟨k, hk, rfl, HK, hB⟩ := hrel
        have hcr : ∀ b o, b < w.heap.size + 2 → wr.cell? ⟨b, o, none⟩ = w1.cell? ⟨b, o, none⟩ := fun b o h => hB.cell (p := ⟨b, o, none⟩) h
        have hBr : Below w.heap.size w wr := hBW.trans (hB.mono (by omega))
        have hsz := hB.size
        have hs0 : w.heap.size < wr.heap.size := by omega
        have hs1 : w.heap.size + 1 < wr.heap.size := by omega
        by_cases hlt : k < n
        · obtain ⟨b, o, nd, HM, hb, hix, d0, d1, d2, d3, d4⟩ := node_at ((HNs.out.below hBr (Nat.le_refl _)).cast HN.out) hlt
          have hk' := HK.out
          rw [drop_cons ns k zeroNode (by have := HN.out; omega), ← HM.out] at hk'
          clear HM HK
          unfold soundFrom at hk'
          obtain ⟨sb, hsb⟩ : ∃ sb, soundB ⟨ns, js, g, p, m, t⟩ nd k = sb := ⟨_, rfl⟩
          rw [hsb] at hk'
          have HSB := Lib.hid hsb
          have HK := Lib.hid hk'
          clear hsb hk'
          have HC1 := Lib.hid (fun W (hS' : StateAt W ⟨ns, js, g, p, m, t⟩ a1 a2) => HSO.out W nd k sb HSB.out hS' (by have := HL.out; omega) (by omega))
          clear HSB
          obtain ⟨y0, y1, y2, y3, y4⟩ := nd
          dsimp only at *
          go_wp2_with fail
          refine Calls.mono (HC1.out _ ?_) ?_
          · exact HS.out.below (hBr.trans (by repeat (first | (with_reducible exact Below.refl _ _) | ((with_reducible refine Below.setCell ?_ ?_ _); rotate_left 1; focus (first | omega | (simp; done) | (simp; omega))) | ((with_reducible refine Below.alloc ?_ ?_ _); rotate_left 1; focus (first | omega | (simp; done) | (simp; omega))) | (with_reducible refine Below.drew ?_) | (with_reducible refine Below.draws ?_ _) | assumption))) (Nat.le_refl _)
          rintro e w2 ⟨rfl, hb2⟩
          cases sb with
          | true =>
            go_wp2
            go_roundw
            case rel => exact ⟨k + 1, by omega, by go_num, by have := HK.out; exact Lib.hid (by simpa using this), hB.trans (((by repeat (first | (with_reducible exact Below.refl _ _) | ((with_reducible refine Below.setCell ?_ ?_ _); rotate_left 1; focus (first | omega | (simp; done) | (simp; omega))) | ((with_reducible refine Below.alloc ?_ ?_ _); rotate_left 1; focus (first | omega | (simp; done) | (simp; omega))) | (with_reducible refine Below.drew ?_) | (with_reducible refine Below.draws ?_ _) | assumption)) : Below (w.heap.size + 2) wr _).trans (hb2.mono (by first | omega | (simp; done) | (simp; omega))))⟩
            case measure => simp [intOf]; omega
          | false =>
            have hA : B = false := by have := HK.out; simpa using this.symm
            go_wp2
            go_ret
            exact ⟨ret_bool (by rw [← HR2.out, hA]; rfl), hBr.trans (((by repeat (first | (with_reducible exact Below.refl _ _) | ((with_reducible refine Below.setCell ?_ ?_ _); rotate_left 1; focus (first | omega | (simp; done) | (simp; omega))) | ((with_reducible refine Below.alloc ?_ ?_ _); rotate_left 1; focus (first | omega | (simp; done) | (simp; omega))) | (with_reducible refine Below.drew ?_) | (with_reducible refine Below.draws ?_ _) | assumption)) : Below w.heap.size wr _).trans (hb2.mono (by first | omega | (simp; done) | (simp; omega))))⟩
        · obtain rfl : n = k := by omega
          have hA : B = true := by have := HK.out; rw [List.drop_of_length_le (by have := HN.out; omega)] at this; exact this.symm
          subst hA
          clear HK HSO
          obtain ⟨Q, hQ⟩ : ∃ Q : Nat, (Q : Int) = x1 := ⟨x1.toNat, by omega⟩
          subst hQ
          go_wp2
          go_loopw [83] (fun i wr => ∃ k : Nat, k ≤ Q ∧ i = .int .i64 k ∧ Hid (quotaFrom ⟨n, Q, x2, x3, x4, x5, x6, x7, x8⟩ ⟨ns, js, g, p, m, t⟩ k (Q - k) = C) ∧ Below (w.heap.size + 2) w1 wr) (fun i _ => Q - (intOf i).toNat)
          case atStart => exact ⟨0, Nat.zero_le _, rfl, by have := HC.out; rw [Int.toNat_natCast] at this; exact Lib.hid this.symm, hB⟩
          case round =>
            clear hcr hBr hsz hB hk hlt hs0 hs1
            obtain ⟨q, hk, rfl, HK, hB⟩ := hrel
            have hcr : ∀ b o, b < w.heap.size + 2 → wr.cell? ⟨b, o, none⟩ = w1.cell? ⟨b, o, none⟩ := fun b o h => hB.cell (p := ⟨b, o, none⟩) h
            have hBr : Below w.heap.size w wr := hBW.trans (hB.mono (by omega))
            have hsz := hB.size
            have hs0 : w.heap.size < wr.heap.size := by omega
            have hs1 : w.heap.size + 1 < wr.heap.size := by omega
            by_cases hlt : q < Q
            · have hk' := HK.out
              rw [show Q - q = (Q - (q + 1)) + 1 by omega] at hk'
              unfold quotaFrom at hk'
              dsimp only at hk'
              obtain ⟨d, hd⟩ : ∃ d, d = drainsL js q := ⟨_, rfl⟩
              rw [← hd] at hk'
              have HD := Lib.hid hd
              have HK := Lib.hid hk'
              clear hd hk'
              have HC1 := Lib.hid (fun W (hS' : StateAt W ⟨ns, js, g, p, m, t⟩ a1 a2) => HDR.out W q hS' (by have := HL.out; omega))
              rw [← HD.out] at HC1
              have k2 : wr.cell? ⟨w.heap.size, 2, none⟩ = some (.int .i64 x2) := by go_simp
              have k3 : wr.cell? ⟨w.heap.size + 1, 0, none⟩ = some (.slice a1 n c1) := by go_simp
              have k4 : wr.cell? ⟨w.heap.size + 1, 1, none⟩ = some (.slice a2 l c2) := by go_simp
              have k5 : wr.cell? ⟨w.heap.size + 1, 2, none⟩ = some (.int .i64 g) := by go_simp
              have k6 : wr.cell? ⟨w.heap.size + 1, 3, none⟩ = some (.int .i64 p) := by go_simp
              have k7 : wr.cell? ⟨w.heap.size + 1, 4, none⟩ = some (.int .i64 m) := by go_simp
              have k8 : wr.cell? ⟨w.heap.size + 1, 5, none⟩ = some (.int .i64 t) := by go_simp
              clear hcr
              go_wp2_with fail
              go_region_held3 (fun w' => w'.cell? ⟨w.heap.size, 2, none⟩ = some (.int .i64 x2) ∧ w'.cell? ⟨w.heap.size + 1, 0, none⟩ = some (.slice a1 n c1) ∧ w'.cell? ⟨w.heap.size + 1, 1, none⟩ = some (.slice a2 l c2) ∧ w'.cell? ⟨w.heap.size + 1, 2, none⟩ = some (.int .i64 g) ∧ w'.cell? ⟨w.heap.size + 1, 3, none⟩ = some (.int .i64 p) ∧ w'.cell? ⟨w.heap.size + 1, 4, none⟩ = some (.int .i64 m) ∧ w'.cell? ⟨w.heap.size + 1, 5, none⟩ = some (.int .i64 t))
                (first | go_keep | exact ⟨(hcd _ _ hs0).trans k2, (hcd _ _ hs1).trans k3, (hcd _ _ hs1).trans k4, (hcd _ _ hs1).trans k5, (hcd _ _ hs1).trans k6, (hcd _ _ hs1).trans k7, (hcd _ _ hs1).trans k8⟩)
                (first | (go_at_call 37; refine Calls.mono (HC1.out _ ?_) ?_; (exact HS.out.below (hBr.trans (by repeat (first | (with_reducible exact Below.refl _ _) | ((with_reducible refine Below.setCell ?_ ?_ _); rotate_left 1; focus (first | omega | (simp; done) | (simp; omega))) | ((with_reducible refine Below.alloc ?_ ?_ _); rotate_left 1; focus (first | omega | (simp; done) | (simp; omega))) | (with_reducible refine Below.drew ?_) | (with_reducible refine Below.draws ?_ _) | assumption))) (Nat.le_refl _)); rintro e w2 ⟨rfl, hb2⟩; obtain ⟨hcd, hfd⟩ := bcell hb2))
              have hB3 : Below wr.heap.size wr w2 := ((Below.refl wr.heap.size wr).drew).trans hb2
              clear hcd hfd hb2
              go_wp2
              · have hlt2 : x2 < d := by assumption
                have hA : C = false := by have := HK.out; rw [decide_eq_true hlt2] at this; exact this.symm
                go_ret
                exact ⟨ret_bool (by rw [← HR2.out, hA]; rfl), hBr.trans (hB3.mono (by omega))⟩
              · have hge : ¬ x2 < d := by omega
                go_roundw
                case rel => exact ⟨q + 1, by omega, by go_num, by have := HK.out; rw [decide_eq_false hge] at this; exact Lib.hid this, hB.trans (hB3.mono (by omega))⟩
                case measure => simp [intOf]; omega
            · obtain rfl : Q = q := by omega
              have hA : C = true := by have := HK.out; rw [Nat.sub_self] at this; exact this.symm
              subst hA
              go_wp2
              go_ret
              exact ⟨ret_bool HR2.out, hBr⟩
end Go.Proofs.Ytclgmpflmeopmaa
