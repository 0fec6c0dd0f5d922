/- The logical machine and its plain laws: parts D1, D2, proved sound. -/
import Derived.Test.YtcfcigjkijkhdaaDoorVD
import Derived.Test.YtcfcigjkijkhdaaDoorPA
import Derived.Test.YtcfcigjkijkhdaaDoorProg
import Derived.KernelRfl
set_option linter.unusedVariables false
set_option linter.unusedSimpArgs false
namespace Dv
open Go

def nodeR (n : NodeD) : List DV := [bl n.up, bl n.cordon, bl n.moving, i64 n.version, i64 n.job]
def jobR (j : JobD) : List DV := [i64 j.queue, i64 j.prio, i64 j.min, i64 j.max, i64 j.work, i64 j.pin, i64 j.phase, i64 j.inc, i64 j.nodes, i64 j.since, i64 j.til, i64 j.epoch]
def opR (o : OpD) : List DV := [i64 o.kind, i64 o.a, i64 o.b, i64 o.c, i64 o.d, i64 o.e, i64 o.f]
def msgR (m : MsgD) : List DV := [i64 m.node, i64 m.kind, i64 m.term, i64 m.gen, i64 m.job, i64 m.inc, i64 m.version, i64 m.epoch, i64 m.til, i64 m.mode, i64 m.work]
def nodesV (l : List NodeD) : LV := .d (.lst 5 (l.map nodeR))
def jobsV (l : List JobD) : LV := .d (.lst 12 (l.map jobR))
def msgsV (l : List MsgD) : LV := .d (.lst 11 (l.map msgR))
def stateV (s : StateD) : LV := .agg [nodesV s.nodes, jobsV s.jobs, .int s.goal, .int s.prior, .int s.mode, .int s.term]
def nodeV (n : NodeD) : LV := .agg [.bool n.up, .bool n.cordon, .bool n.moving, .int n.version, .int n.job]
def jobV (j : JobD) : LV := .agg [.int j.queue, .int j.prio, .int j.min, .int j.max, .int j.work, .int j.pin, .int j.phase, .int j.inc, .int j.nodes, .int j.since, .int j.til, .int j.epoch]
def opV (o : OpD) : LV := .agg [.int o.kind, .int o.a, .int o.b, .int o.c, .int o.d, .int o.e, .int o.f]
def msgV (m : MsgD) : LV := .agg [.int m.node, .int m.kind, .int m.term, .int m.gen, .int m.job, .int m.inc, .int m.version, .int m.epoch, .int m.til, .int m.mode, .int m.work]
def confV (c : ConfD) : LV := .agg [.int c.nodes, .int c.queues, .int c.quota, .int c.wave, .int c.lease, .int c.retry, .int c.deadline, .int c.room, .int c.disk]

/-! bits -/
theorem wrap_nat (n : Nat) (h : n < 9223372036854775808) : IntKind.i64.wrap (n : Int) = n := wrap_in (by omega) (by omega)
theorem and_mask (x : Int) (j : Nat) (hj : j < 63) : andI .i64 x ((2 ^ j - 1 : Nat) : Int) = x % (2 ^ j : Nat) := by
  have hp : 2 ^ j < 2 ^ 63 := Nat.pow_lt_pow_right (by omega) hj
  have h0 : 0 < 2 ^ j := Nat.two_pow_pos j
  have e : andI .i64 x ((2 ^ j - 1 : Nat) : Int) = IntKind.i64.wrap ((BitVec.ofInt 64 x &&& BitVec.ofInt 64 ((2 ^ j - 1 : Nat) : Int)).toNat : Int) := rfl
  rw [e, BitVec.toNat_and]
  have e2 : (BitVec.ofInt 64 ((2 ^ j - 1 : Nat) : Int)).toNat = 2 ^ j - 1 := by
    rw [BitVec.ofInt_natCast, BitVec.toNat_ofNat]; apply Nat.mod_eq_of_lt; omega
  rw [e2, Nat.and_two_pow_sub_one_eq_mod]
  have e3 : (BitVec.ofInt 64 x).toNat % 2 ^ j < 2 ^ j := Nat.mod_lt _ h0
  rw [wrap_nat _ (by omega)]
  rw [BitVec.toNat_ofInt]
  have e4 : ((x % (2 ^ 64 : Nat)).toNat : Int) = x % (2 ^ 64 : Nat) := Int.toNat_of_nonneg (Int.emod_nonneg _ (by decide))
  have e5 : (((x % (2 ^ 64 : Nat)).toNat % 2 ^ j : Nat) : Int) = x % (2 ^ 64 : Nat) % (2 ^ j : Nat) := by
    rw [Int.natCast_emod, e4]
  rw [e5]
  apply Int.emod_emod_of_dvd
  exact Int.natCast_dvd_natCast.2 (Nat.pow_dvd_pow 2 (by omega))
theorem and_one (x : Int) : andI .i64 x 1 = x % 2 := and_mask x 1 (by omega)
theorem and_63 (x : Int) : andI .i64 x 63 = x % 64 := and_mask x 6 (by omega)
theorem fdiv_pow (n : Int) (k : Nat) : n.fdiv (2 ^ k) = n / 2 ^ k := Int.fdiv_eq_ediv_of_nonneg _ (Int.le_of_lt (by exact Int.pow_pos (by decide)))
theorem shr_nat (n : Int) (i : Nat) (hi : i < 64) : shrI .i64 n i = n / 2 ^ i := by
  unfold shrI
  rw [Int.toNat_natCast, show Nat.min i IntKind.i64.bits = i from Nat.min_eq_left (by show i ≤ 64; omega), fdiv_pow]
theorem shl_one (k : Nat) (hk : k ≤ 6) : shlI .i64 1 k = 2 ^ k := by
  have hp : (2 : Int) ^ k ≤ 64 ∧ 1 ≤ (2 : Int) ^ k := by
    have : k = 0 ∨ k = 1 ∨ k = 2 ∨ k = 3 ∨ k = 4 ∨ k = 5 ∨ k = 6 := by omega
    rcases this with h | h | h | h | h | h | h <;> rw [h] <;> decide
  unfold shlI
  rw [Int.toNat_natCast, show Nat.min k IntKind.i64.bits = k from Nat.min_eq_left (by show k ≤ 64; omega), Int.one_mul, wrap_in (by omega) (by omega)]
/-- a bit that is asked for. -/
theorem bit_eq (n : Int) (i : Nat) (hi : i < 64) : (andI .i64 (shrI .i64 n i) 1 == 1) = hasB n i := by
  rw [and_one, shr_nat n i hi]; unfold hasB; rw [Bool.eq_iff_iff]; simp
theorem bit_eq0 (n : Int) (i : Nat) (hi : i < 64) : (andI .i64 (shrI .i64 n i) 1 == 0) = !hasB n i := by
  rw [and_one, shr_nat n i hi]; unfold hasB; rw [Bool.eq_iff_iff]; simp; omega
end Dv

namespace Dv
open Go Go.Proofs
variable {G : Nat → Option (List DV)}



end Dv
