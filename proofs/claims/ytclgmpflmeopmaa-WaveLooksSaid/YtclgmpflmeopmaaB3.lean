import Derived.Test.YtclgmpflmeopmaaB1
set_option linter.unusedVariables false
set_option linter.unusedSimpArgs false
namespace Go.Proofs.Ytclgmpflmeopmaa
open Go.RowKit Dun

theorem wrap_nat_i64 (n : Nat) (h : n < 9223372036854775808) : IntKind.i64.wrap (n : Int) = n := by
  simp [IntKind.wrap, IntKind.bits, IntKind.signed]; omega

theorem and_mask_i64 (x : Int) (j : Nat) (hj : j < 63) : bits .and .i64 x ((2 ^ j - 1 : Nat) : Int) = x % (2 ^ j : Nat) := by
  have hp : 2 ^ j < 2 ^ 63 := Nat.pow_lt_pow_right (by omega) hj
  have h0 : 0 < 2 ^ j := Nat.two_pow_pos j
  have e : bits .and .i64 x ((2 ^ j - 1 : Nat) : Int) = IntKind.i64.wrap ((BitVec.ofInt 64 x &&& BitVec.ofInt 64 ((2 ^ j - 1 : Nat) : Int)).toNat : Int) := rfl
  rw [e, BitVec.toNat_and]
  have e2 : (BitVec.ofInt 64 ((2 ^ j - 1 : Nat) : Int)).toNat = 2 ^ j - 1 := by
    rw [BitVec.ofInt_natCast, BitVec.toNat_ofNat]; apply Nat.mod_eq_of_lt; omega
  rw [e2, Nat.and_two_pow_sub_one_eq_mod]
  have e3 : (BitVec.ofInt 64 x).toNat % 2 ^ j < 2 ^ j := Nat.mod_lt _ h0
  rw [wrap_nat_i64 _ (by omega)]
  rw [BitVec.toNat_ofInt]
  have e4 : ((x % (2 ^ 64 : Nat)).toNat : Int) = x % (2 ^ 64 : Nat) := Int.toNat_of_nonneg (Int.emod_nonneg _ (by decide))
  have e5 : (((x % (2 ^ 64 : Nat)).toNat % 2 ^ j : Nat) : Int) = x % (2 ^ 64 : Nat) % (2 ^ j : Nat) := by
    rw [Int.natCast_emod, e4]
  rw [e5]
  apply Int.emod_emod_of_dvd
  exact Int.natCast_dvd_natCast.2 (Nat.pow_dvd_pow 2 (by omega))

theorem and_one_i64 (x : Int) : bits .and .i64 x 1 = x % 2 := and_mask_i64 x 1 (by omega)
theorem and_63_i64 (x : Int) : bits .and .i64 x 63 = x % 64 := and_mask_i64 x 6 (by omega)

theorem hasB_eq (n : Int) (i : Nat) : (bits .and .i64 (n / 2 ^ i) 1 == 1) = hasB n i := by
  rw [and_one_i64]; unfold hasB; rw [Bool.eq_iff_iff]; simp
theorem hasB_eq0 (n : Int) (i : Nat) : (bits .and .i64 (n / 2 ^ i) 1 == 0) = !hasB n i := by
  rw [and_one_i64]; unfold hasB; rw [Bool.eq_iff_iff]; simp; omega

theorem has_any (n : Int) (i : Nat) (w : World) (hi : i < 50) :
    Calls Try.prog 63 #[.int .i64 n, .int .i64 (i : Int)] w fun e w' => e = .returned (.bool (hasB n i)) ∧ w = w' := by
  go_enter Try.func63, Try.ntmps63
  go_wp2
  go_ret
  exact ⟨ret_bool (hasB_eq n i), rfl⟩

theorem many_any (n : Int) (w : World) :
    Calls Try.prog 55 #[.int .i64 n] w fun e w' => e = .returned (.int .i64 (many n)) ∧ w = w' := by
  go_enter Try.func55, Try.ntmps55
  go_wp2
  go_loop [3, 4] (fun x i => ∃ k : Nat, k ≤ 6 ∧ i = .int .i64 k ∧ x = .int .i64 (manyTo n k)) (fun _ i => 6 - (intOf i).toNat)
  case atStart => exact ⟨0, by omega, rfl, rfl⟩
  case round =>
    obtain ⟨k, hk, rfl, rfl⟩ := hrel
    have hm := manyTo_le n k
    by_cases hlt : k < 6
    · by_cases hb : hasB n k = true
      · go_wp2_with (go_at_call 63; refine (has_any _ _ _ (by omega)).mono ?_; rintro e w' ⟨rfl, rfl⟩)
        go_round
        case rel => exact ⟨k + 1, by omega, by go_num, by simp [manyTo, has01, hb]⟩
        case measure => simp [intOf]; omega
      · have hb' : hasB n k = false := by simpa using hb
        clear hb
        go_wp2_with (go_at_call 63; refine (has_any _ _ _ (by omega)).mono ?_; rintro e w' ⟨rfl, rfl⟩)
        go_round
        case rel => exact ⟨k + 1, by omega, by go_num, by simp [manyTo, has01, hb']⟩
        case measure => simp [intOf]; omega
    · obtain rfl : k = 6 := by omega
      go_wp2
      go_ret
      exact ⟨rfl, rfl⟩

def ones64 (x : Int) : Int :=
  let y := IntKind.u64.wrap (bits .and .u64 (x / 2) 6148914691236517205 + bits .and .u64 x 6148914691236517205)
  let z := IntKind.u64.wrap (bits .and .u64 (y / 4) 3689348814741910323 + bits .and .u64 y 3689348814741910323)
  let v := bits .and .u64 (IntKind.u64.wrap (z / 16 + z)) 1085102592571150095
  let u := IntKind.u64.wrap (v + v / 256)
  let t := IntKind.u64.wrap (u + u / 65536)
  let s := IntKind.u64.wrap (t + t / 4294967296)
  bits .and .i64 (wrap64 s) 127

theorem ones64_raw (n : Nat) (w : World) (hi : n < 64) :
    Calls Try.prog 68 #[.int .u64 n] w fun e w' => e = .returned (.int .i64 (ones64 n)) ∧ w = w' := by
  go_enter Try.func68, Try.ntmps68
  go_wp2
  go_ret
  exact ⟨ret_int rfl, rfl⟩

theorem ones64_many : ∀ n : Nat, n < 64 → ones64 n = many n := by decide +kernel

theorem ones_any (n : Int) (w : World) (h0 : 0 ≤ n) (hi : n < 64) :
    Calls Try.prog 65 #[.int .u64 n] w fun e w' => e = .returned (.int .i64 (many n)) ∧ w = w' := by
  obtain ⟨m, rfl⟩ := Int.eq_ofNat_of_zero_le h0
  have hm : m < 64 := by omega
  have h := ones64_many m hm
  rw [← h]
  clear h h0 hi
  go_enter Try.func65, Try.ntmps65
  go_wp2_with (go_at_call 68; refine (ones64_raw _ _ hm).mono ?_; rintro e w' ⟨rfl, rfl⟩)
  go_ret
  exact ⟨rfl, rfl⟩

theorem count_any (n : Int) (w : World) (h1 : -9223372036854775808 ≤ n) (h2 : n ≤ 9223372036854775807) :
    Calls Try.prog 54 #[.int .i64 n] w fun e w' => e = .returned (.int .i64 (many (n % 64))) ∧ w = w' := by
  have h := and_63_i64 n
  go_enter Try.func54, Try.ntmps54
  go_wp2_with (go_at_call 65; refine (ones_any _ _ (by omega) (by omega)).mono ?_; rintro e w' ⟨rfl, rfl⟩)
  go_ret
  exact ⟨rfl, rfl⟩
end Go.Proofs.Ytclgmpflmeopmaa
