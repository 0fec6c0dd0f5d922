/- The reference's comparison of two lists of ints: of a list with itself it answers true. -/
import Derived.Test.YtclgmpflmeopmaaW14
set_option linter.unusedVariables false
set_option linter.unusedSimpArgs false
namespace Go.Proofs.Ytclgmpflmeopmaa
open Go.RowKit Dun

theorem int_at {w : World} {a : Option Addr} {n c : Nat} {xs : List Int} (h : RowsAt w a 1 n (fun k => [.int .i64 (xs.getD k 0)])) {k : Nat} (hk : k < n) :
    ∃ b o, b < w.heap.size ∧ (∀ w', (Instr.indexAt 23 (.slice a n c) (.int .i64 (k : Int))).run Try.prog w' = .ok (.pointer (some ⟨b, o, none⟩)) w') ∧ w.cell? ⟨b, o, none⟩ = some (.int .i64 (xs.getD k 0)) := by
  obtain ⟨b, o, ha, hlt, hc⟩ := h k hk
  obtain ⟨i, hi, hz⟩ := info_size (by kernel_rfl : (Try.prog.info? 3).map (·.size) = some 1)
  refine ⟨b, o + k * 1, hlt, fun w' => ?_, ?_⟩
  · exact run_ix Try.underlying23 hi hz ha rfl hk w'
  · simpa using hc 0 _ rfl

theorem own_rows {w : World} {base : Nat} {v : Value} {xs : List Int} (h : w.ownsRow base 3 1 v xs.length (xs.map (Value.int .i64))) :
    ∃ a cap, v = .slice a xs.length cap ∧ RowsAt w a 1 xs.length (fun k => [.int .i64 (xs.getD k 0)]) := by
  obtain ⟨_, h2⟩ := h
  rcases h2 with ⟨rfl, h0⟩ | ⟨g, cap, cur, rfl, _, hg, _, _, _, ht⟩
  · exact ⟨none, 0, by rw [h0], fun k hk => by omega⟩
  · refine ⟨_, cap, rfl, fun k hk => ⟨g, 0, rfl, ?_, ?_⟩⟩
    · rcases Nat.lt_or_ge g w.heap.size with h | h
      · exact h
      · simp [Array.getElem?_eq_none h] at hg
    · intro i v hv
      have hi : i = 0 := by
        cases i with
        | zero => rfl
        | succ j => simp at hv
      subst hi
      have hv' : Value.int .i64 (xs.getD k 0) = v := by simpa using hv
      subst hv'
      have h1 : (cur.toList.take (xs.length * 1))[k]? = (xs.map (Value.int .i64))[k]? := by rw [ht]
      rw [List.getElem?_take_of_lt (by omega)] at h1
      have h3 : (xs.map (Value.int .i64))[k]? = some (.int .i64 (xs.getD k 0)) := by simp [List.getD, List.getElem?_eq_getElem hk]
      rw [h3] at h1
      simp only [World.cell?, hg]
      simpa using h1

set_option maxHeartbeats 2000000 in
theorem ints_any (a b : Option Addr) (n c1 c2 : Nat) (xs : List Int) (w : World) (hn : n ≤ 1000000) (ha : RowsAt w a 1 n (fun k => [.int .i64 (xs.getD k 0)])) (hb : RowsAt w b 1 n (fun k => [.int .i64 (xs.getD k 0)])) :
    Calls Try.prog 16 #[.slice a n c1, .slice b n c2] w (Ret w (.bool true)) := by
  have HA := Lib.hid ha
  have HB := Lib.hid hb
  clear ha hb
  go_enter Try.func16, Try.ntmps16
  go_wp2
  go_loopw [5] (fun x wr => ∃ k : Nat, k ≤ n ∧ x = .int .i64 k ∧ Below w.heap.size w wr) (fun x _ => n - (intOf x).toNat)
  case atStart => exact ⟨0, Nat.zero_le _, rfl, Below.refl _ _⟩
  case round =>
    obtain ⟨k, hk, rfl, hB⟩ := hrel
    by_cases hlt : k < n
    · have hk2 : ¬ n ≤ k := by omega
      obtain ⟨b1, o1, hb1, hix1, d1⟩ := int_at (c := c1) (HA.out.below hB (Nat.le_refl _)) hlt
      obtain ⟨b2, o2, hb2, hix2, d2⟩ := int_at (c := c2) (HB.out.below hB (Nat.le_refl _)) hlt
      obtain ⟨z, hz⟩ : ∃ z, z = xs.getD k 0 := ⟨_, rfl⟩
      rw [← hz] at d1 d2
      clear hz
      go_wp2_with fail
      go_quiet (fail)
      go_wp2
      go_roundw
      case rel => exact ⟨k + 1, by omega, by go_num, hB.trans (by repeat (first | (with_reducible exact Below.refl _ _) | ((with_reducible refine Below.setCell ?_ ?_ _); rotate_left 1; focus (first | omega | (simp; done) | (simp; omega))) | ((with_reducible refine Below.alloc ?_ ?_ _); rotate_left 1; focus (first | omega | (simp; done) | (simp; omega))) | (with_reducible refine Below.drew ?_) | (with_reducible refine Below.draws ?_ _) | assumption))⟩
      case measure => simp [intOf]; omega
    · obtain rfl : k = n := by omega
      go_wp2
      go_ret
      exact ⟨rfl, hB.trans (by repeat (first | (with_reducible exact Below.refl _ _) | ((with_reducible refine Below.setCell ?_ ?_ _); rotate_left 1; focus (first | omega | (simp; done) | (simp; omega))) | ((with_reducible refine Below.alloc ?_ ?_ _); rotate_left 1; focus (first | omega | (simp; done) | (simp; omega))) | (with_reducible refine Below.drew ?_) | (with_reducible refine Below.draws ?_ _) | assumption))⟩
end Go.Proofs.Ytclgmpflmeopmaa
