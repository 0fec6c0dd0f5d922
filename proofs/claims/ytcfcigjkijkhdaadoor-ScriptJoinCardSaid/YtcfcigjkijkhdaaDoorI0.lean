/- code: a number out of bytes. -/
import Derived.Test.YtcfcigjkijkhdaaDoorDB
import Derived.Test.YtcfcigjkijkhdaaDoorPB
import Derived.Test.YtcfcigjkijkhdaaDoorVD
set_option linter.unusedVariables false
set_option linter.unusedSimpArgs false
namespace Dv
open Go Go.Proofs
variable {G : Nat → Option (List DV)}



def u8 (n : Int) : DV := .val (.int .u8 n)
def byteR (l : List Int) : List (List DV) := l.map fun n => [u8 n]
def bytesV (l : List Int) : LV := .d (.lst 1 (byteR l))
def numR (l : List Int) : List (List DV) := l.map fun n => [i64 n]
def rdX : Option (Int × Nat) → Int
  | none => 0
  | some (x, _) => x
def rdP : Option (Int × Nat) → Nat
  | none => 0
  | some (_, p) => p
def numRes (q : Option (Int × Nat)) : LV := .tup [.int (rdX q), .int (rdP q), .bool q.isSome]

theorem or_add (n d : Int) (i : Nat) (hi : i < 8) (h0 : 0 ≤ n) (hn : n < 128 ^ i) (hd0 : 0 ≤ d) (hd : d < 128) : orI .i64 n (shlI .i64 d (IntKind.i64.wrap (7 * (i : Int)))) = n + d * 128 ^ i := by
  have hw : IntKind.i64.wrap (7 * (i : Int)) = ((7 * i : Nat) : Int) := by rw [wrap_in (by omega) (by omega)]; omega
  have e128 : (128 : Int) ^ i = ((2 ^ (7 * i) : Nat) : Int) := by
    rw [Nat.pow_mul]; push_cast; rfl
  have hp : 2 ^ (7 * i) ≤ 2 ^ 49 := Nat.pow_le_pow_right (by decide) (by omega)
  rw [hw, e128]
  rw [e128] at hn
  obtain ⟨n, rfl⟩ := Int.eq_ofNat_of_zero_le h0
  obtain ⟨d, rfl⟩ := Int.eq_ofNat_of_zero_le hd0
  generalize hq : 2 ^ (7 * i) = q at *
  have hn' : n < q := by omega
  have hd' : d < 128 := by omega
  have hmul : d * q ≤ 127 * 2 ^ 49 := Nat.mul_le_mul (by omega) hp
  have hs : shlI .i64 (d : Int) ((7 * i : Nat) : Int) = ((d * q : Nat) : Int) := by
    unfold shlI
    rw [Int.toNat_natCast, show Nat.min (7 * i) IntKind.i64.bits = 7 * i from Nat.min_eq_left (by show 7 * i ≤ 64; omega)]
    have : (2 : Int) ^ (7 * i) = (q : Int) := by rw [← hq]; push_cast; rfl
    rw [this, ← Int.natCast_mul, wrap_nat _ (by omega)]
  rw [hs]
  have e : orI .i64 (n : Int) ((d * q : Nat) : Int) = IntKind.i64.wrap ((BitVec.ofInt 64 (n : Int) ||| BitVec.ofInt 64 ((d * q : Nat) : Int)).toNat : Int) := rfl
  rw [e, BitVec.toNat_or, BitVec.ofInt_natCast, BitVec.ofInt_natCast, BitVec.toNat_ofNat, BitVec.toNat_ofNat, Nat.mod_eq_of_lt (by omega), Nat.mod_eq_of_lt (by omega)]
  have h3 : n ||| d * q = d * q + n := by
    have := Nat.two_pow_add_eq_or_of_lt (i := 7 * i) (b := n) (by rw [hq]; exact hn') d
    rw [hq, Nat.mul_comm q d] at this
    rw [this, Nat.or_comm]
  rw [h3, wrap_nat _ (by omega)]
  push_cast
  omega

def gnS (a0 : Nat) (l : List Int) (p : Nat × Int) : St := ⟨[(1, .int a0), (7, .int p.2), (25, .d (.lst 1 (byteR l))), (26, .int l.length), (27, .int p.1)], []⟩
attribute [local go_sem] u8 bytesV

end Dv
