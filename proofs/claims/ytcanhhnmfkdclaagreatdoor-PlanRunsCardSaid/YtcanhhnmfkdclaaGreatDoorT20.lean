/- The document's plan: the same ops. -/
import Derived.Test.YtcanhhnmfkdclaaGreatDoorT19
set_option linter.unusedVariables false
set_option linter.unusedSimpArgs false
namespace Dv
open Go Go.Proofs
variable {G : Nat → Option (List DV)}
def ir18 : Nat × C × List RV := (26,
(.seq (.reg [qo 4 (.mv qf)])
 (.seq (.seq (.reg [qm 6 0,
 qo 7 (.len (.t 6)),
 qm 8 1,
 qo 9 (.len (.t 8)),
 qo 10 (.bin .neq (.t 7) (.t 9))])
 (.cond (.t 10) (.seq (.reg [qo 4 (.mv qf)])
 .ret)
 .skip))
 (.seq (.seq (.reg [qo 5 (.mv (qk 0))])
 (.block 0 (.loop (.seq (.seq (.reg [qm 11 5,
 qm 12 0,
 qo 13 (.len (.t 12)),
 qo 14 (.bin .lss (.t 11) (.t 13))])
 (.cond (.t 14) .skip
 (.exit 0)))
 (.seq (.block 1 (.seq (.regD [qm 17 0,
 qm 18 5,
 qd 19 (.ixa 7 (.t 17) (.t 18)) [0,1],
 qd 20 (.ldn 7 (.t 19)) [2,0,1],
 qm 21 1,
 qm 22 5,
 qd 23 (.ixa 7 (.t 21) (.t 22)) [4,5],
 qd 24 (.ldn 7 (.t 23)) [6,4,5],
 qd 25 (.eqs true [0,0,0,0,0,0,0] (.t 20) (.t 24)) [3,2,0,1,7,6,4,5]])
 (.cond (.t 25) (.seq (.reg [qo 4 (.mv qf)])
 .ret)
 .skip)))
 (.reg [qm 15 5,
 qo 16 (.bin .add (.t 15) (qk 1)),
 qm 5 16]))))))
 (.seq (.reg [qo 4 (.mv qt)])
 .ret)))),
[(.t 4)])
theorem irOk18 : convFn Tryz.prog Tryz.f18 = some ir18 := by kernel_rfl

theorem drop_dec7 {α : Type} [DecidableEq α] (l m : List α) (k : Nat) (z : α) (h1 : k < l.length) (h2 : k < m.length) : decide (l.drop k = m.drop k) = (decide (l.getD k z = m.getD k z) && decide (l.drop (k + 1) = m.drop (k + 1))) := by
  rw [drop_cons l k z h1, drop_cons m k z h2, Bool.eq_iff_iff]
  simp
def sm18 (a b : List OpD) (k : Nat) : St := ⟨[(0, .d (.lst 7 (a.map opR))), (1, .d (.lst 7 (b.map opR))), (5, .int k)], []⟩
theorem same18_tri (a b : List OpD) (ha : a.length ≤ 1000000000) (hb : b.length ≤ 1000000000) : Tri Tryz.prog G 18 [.d (.lst 7 (a.map opR)), .d (.lst 7 (b.map opR))] [] (.bool (decide (a = b))) [] := by
  refine tri_W0 Tryz.func18 (by decide) irOk18 (Nat.le_of_ble_eq_true rfl) rfl ?_
  simp only [ir18,go_sem,simprocAttr]
  by_cases hl : a.length = b.length
  case neg =>
    rw [decide_eq_false (fun h => hl (by rw [h]))]
    simp only [show (((a.length : Nat) : Int) != ((b.length : Nat) : Int)) = true from bne_iff_ne.2 (by omega),go_sem,simprocAttr]
  simp only [show (((a.length : Nat) : Int) != ((b.length : Nat) : Int)) = false by rw [hl]; simp, go_sem, simprocAttr]
  generalize hq : decide (a = b) = q
  refine W_loopI [0, 1, 5] [] (fun k : Nat => k ≤ a.length ∧ decide (a.drop k = b.drop k) = q) (fun k => a.length - k) (sm18 a b) 0 ?_ ⟨Nat.zero_le _, by simpa using hq⟩ ?_
  · simp only [sm18,Int.natCast_zero,go_sem,simprocAttr]
  rintro k ⟨hk, hF⟩
  simp only [sm18,List.length_map,go_sem,simprocAttr]
  by_cases hlt : k < a.length
  case neg =>
    rw [List.drop_eq_nil_of_le (by omega), List.drop_eq_nil_of_le (by omega)] at hF
    simp only [decide_true] at hF
    subst hF
    simp only [decide_eq_false (show ¬ ((k : Nat) : Int) < ((a.length : Nat) : Int) by omega),go_sem,simprocAttr]
  have hga := get_mapD (f := opR) zeroOp hlt
  have hgb := get_mapD (f := opR) zeroOp (show k < b.length by omega)
  rw [drop_dec7 a b k zeroOp hlt (by omega)] at hF
  generalize a.getD k zeroOp = x at *
  generalize b.getD k zeroOp = y at *
  simp only [opR] at hga hgb
  simp only [decide_eq_true (show ((k : Nat) : Int) < ((a.length : Nat) : Int) by omega),hga,hgb,go_sem,simprocAttr]
  have hxy : (x.kind == y.kind && (x.a == y.a && (x.b == y.b && (x.c == y.c && (x.d == y.d && (x.e == y.e && x.f == y.f)))))) = decide (x = y) := by
    obtain ⟨x1, x2, x3, x4, x5, x6, x7⟩ := x
    obtain ⟨y1, y2, y3, y4, y5, y6, y7⟩ := y
    rw [Bool.eq_iff_iff]
    simp
  rw [hxy]
  cases hd : decide (x = y) with
  | true =>
    rw [hd, Bool.true_and] at hF
    simp only [go_sem,simprocAttr]
    refine W_lpI (k + 1) ?_ ?_ ⟨by omega, hF⟩ (by omega)
    · simp only [go_sem,simprocAttr]
    · simp only [sm18,wrap_succ (show k < 9223372036854775807 by omega),go_sem,simprocAttr]
  | false =>
    rw [hd, Bool.false_and] at hF
    subst hF
    simp only [go_sem,simprocAttr]
end Dv
