/- The logical machine and its plain laws: parts N1, N2, N4, N5, N3, N6, N8, N9, N7, N10, N11, N12, proved sound. -/
import Derived.Test.YtkalnfkokkjliaaGreatDoorI0
import Derived.Test.YtkalnfkokkjliaaGreatDoorVD
import Derived.Test.YtkalnfkokkjliaaGreatDoorI8
import Derived.Test.YtkalnfkokkjliaaGreatDoorG1
set_option linter.unusedVariables false
set_option linter.unusedSimpArgs false
namespace Dv
open Go Go.Proofs
variable {G : Nat → Option (List DV)}

def bitR (r : Int) : Int := if (andI .u32 r 1 == 0) = true then shrI .u32 r 1 else xorI .u32 (shrI .u32 r 1) 3988292384
def bitsR (r : Int) : Nat → Int
  | 0 => r
  | k + 1 => bitR (bitsR r k)
def turnR (r : Int) (b : List Int) : Nat → Int
  | 0 => r
  | k + 1 => bitsR (xorI .u32 (turnR r b k) (IntKind.u32.wrap (b.getD k 0))) 8
def moreR (s : Int) (b : List Int) : Int := if s < 0 ∨ s > 4294967295 then 0 else IntKind.i64.wrap (xorI .u32 4294967295 (turnR (xorI .u32 4294967295 (IntKind.u32.wrap s)) b b.length))
def sumB (n : Int) : List Int := [IntKind.u8.wrap (shrI .i64 n 24), IntKind.u8.wrap (shrI .i64 n 16), IntKind.u8.wrap (shrI .i64 n 8), IntKind.u8.wrap n]
def isSum (b : List Int) : Bool := decide (4 ≤ b.length) && decide (sumB (moreR 0 (b.take (b.length - 4))) = b.drop (b.length - 4))

def ir321 : Nat × C × List RV := (30,
(.seq (.reg [qo 4 (.mv (.c (.val (.int .u32 0))))])
 (.seq (.seq (.reg [qm 7 1,
 qo 8 (.len (.t 7)),
 qo 9 (.mv (qk 0))])
 (.block 0 (.loop (.seq (.reg [qo 10 (.bin .lss (.t 9) (.t 8))])
 (.seq (.cond (.t 10) .skip
 (.exit 0))
 (.seq (.block 1 (.seq (.reg [qo 11 (.ixa 1 (.t 7) (.t 9)),
 qo 12 (.ld1 (.t 11)),
 qm 6 12])
 (.scope (.seq (.reg [qm 13 0,
 qm 14 6,
 qo 15 (.cvt .u32 (.t 14)),
 qo 16 (.bin .xor (.t 13) (.t 15)),
 qm 0 16])
 (.seq .skip
 (.seq (.reg [qo 17 (.mv (qk 0))])
 (.block 2 (.loop (.seq (.reg [qo 18 (.bin .lss (.t 17) (qk 8))])
 (.seq (.cond (.t 18) .skip
 (.exit 2))
 (.seq (.block 3 (.seq (.seq (.reg [qm 19 0,
 qo 20 (.bin .and (.t 19) (.c (.val (.int .u32 1)))),
 qo 21 (.bin .eql (.t 20) (.c (.val (.int .u32 0))))])
 (.cond (.t 21) (.seq (.reg [qm 22 0,
 qo 23 (.bin .shr (.t 22) (.c (.val (.int .u64 1)))),
 qm 0 23])
 (.exit 3))
 .skip))
 (.reg [qm 24 0,
 qo 25 (.bin .shr (.t 24) (.c (.val (.int .u64 1)))),
 qo 26 (.bin .xor (.t 25) (.c (.val (.int .u32 3988292384)))),
 qm 0 26])))
 (.reg [qo 27 (.bin .add (.t 17) (qk 1)),
 qm 17 27]))))))))))))
 (.reg [qo 28 (.bin .add (.t 9) (qk 1)),
 qm 9 28])))))))
 (.seq (.reg [qm 29 0,
 qm 4 29])
 .ret))),
[(.t 4)])
theorem irOk321 : convFn Tryz.prog Tryz.f321 = some ir321 := by kernel_rfl
def ir306 : Nat × C × List RV := (18,
(.seq (.reg [qo 4 (.mv (qk 0))])
 (.seq (.seq (.reg [qm 5 0,
 qo 6 (.bin .lss (.t 5) (qk 0)),
 qm 7 6,
 qg 8 (.mv (.t 0)) 7 false,
 qg 9 (.bin .gtr (.t 8) (qk 4294967295)) 7 false,
 qo 10 (.pick (.t 7) qt (.t 9))])
 (.cond (.t 10) (.seq (.reg [qo 4 (.mv (qk 0))])
 .ret)
 .skip))
 (.seq (.reg [qm 11 0,
 qo 12 (.cvt .u32 (.t 11)),
 qo 13 ((.more (.cpl (.t 12)))),
 qm 14 1,
 qo 15 (.call (.f 321) [(.t 13),(.t 14)]),
 qo 16 ((.more (.cpl (.t 15)))),
 qo 17 (.cvt .i64 (.t 16)),
 qm 4 17])
 .ret))),
[(.t 4)])
theorem irOk306 : convFn Tryz.prog Tryz.f306 = some ir306 := by kernel_rfl
def ir273 : Nat × C × List RV := (5,
(.seq (.reg [qo 2 (.mv (qk 0))])
 (.seq (.reg [qm 3 0,
 qo 4 (.call (.f 306) [(qk 0),(.t 3)]),
 qm 2 4])
 .ret)),
[(.t 2)])
theorem irOk273 : convFn Tryz.prog Tryz.f273 = some ir273 := by kernel_rfl
def ir272 : Nat × C × List RV := (15,
(.seq (.reg [qo 2 (.mv (.c (.val (.slice none 0 0))))])
 (.seq (.reg [qm 3 0,
 qo 4 (.bin .shr (.t 3) (.c (.val (.int .u64 24)))),
 qo 5 (.cvt .u8 (.t 4)),
 qm 6 0,
 qo 7 (.bin .shr (.t 6) (.c (.val (.int .u64 16)))),
 qo 8 (.cvt .u8 (.t 7)),
 qm 9 0,
 qo 10 (.bin .shr (.t 9) (.c (.val (.int .u64 8)))),
 qo 11 (.cvt .u8 (.t 10)),
 qm 12 0,
 qo 13 (.cvt .u8 (.t 12)),
 qo 14 (.bsl 5 1 [(.t 5),(.t 8),(.t 11),(.t 13)]),
 qm 2 14])
 .ret)),
[(.t 2)])
theorem irOk272 : convFn Tryz.prog Tryz.f272 = some ir272 := by kernel_rfl
def ir271 : Nat × C × List RV := (20,
(.seq (.reg [qo 2 (.mv qf)])
 (.seq (.reg [qm 4 0,
 qo 5 (.len (.t 4)),
 qo 6 (.bin .sub (.t 5) (qk 4)),
 qm 3 6])
 (.seq (.regD [qm 7 3,
 qd 8 (.bin .geq (.t 7) (qk 0)) [0],
 qd 9 (.mv (.t 8)) [1,0],
 qe 10 (.mv (.t 0)) 9 true [2,1,0],
 qe 11 (.mv (.t 3)) 9 true [2,1,0],
 qe 12 (.sli 1 (.t 10) none (some (.t 11)) none) 9 true [3,2,1,0,4],
 qe 13 (.call (.f 273) [(.t 12)]) 9 true [5,3,2,1,0,4],
 qe 14 (.call (.f 272) [(.t 13)]) 9 true [6,5,3,2,1,0,4],
 qe 15 (.mv (.t 0)) 9 true [2,1,0],
 qe 16 (.mv (.t 3)) 9 true [2,1,0],
 qe 17 (.sli 1 (.t 15) (some (.t 16)) none none) 9 true [8,2,1,0,9],
 qe 18 (.call (.f 305) [(.t 14),(.t 17)]) 9 true [7,6,5,3,2,1,0,4,10,8,9],
 qd 19 (.pick (.t 9) (.t 18) qf) [2,1,0,11,7,6,5,3,4,10,8,9],
 qd 2 (.mv (.t 19)) [12,2,1,0,11,7,6,5,3,4,10,8,9]])
 .ret))),
[(.t 2)])
theorem irOk271 : convFn Tryz.prog Tryz.f271 = some ir271 := by kernel_rfl
def ir305 : Nat × C × List RV := (26,
(.seq (.reg [qo 4 (.mv qf)])
 (.seq (.seq (.reg [qm 6 0,
 qo 7 (.len (.t 6)),
 qm 8 1,
 qo 9 (.len (.t 8)),
 qo 10 (.bin .neq (.t 7) (.t 9))])
 (.cond (.t 10) (.seq (.reg [qo 4 (.mv qf)])
 .ret)
 .skip))
 (.seq (.seq (.reg [qm 11 0,
 qo 12 (.len (.t 11)),
 qo 13 (.mv (qk 0))])
 (.block 0 (.loop (.seq (.reg [qo 14 (.bin .lss (.t 13) (.t 12))])
 (.seq (.cond (.t 14) .skip
 (.exit 0))
 (.seq (.block 1 (.seq (.reg [qm 15 13,
 qm 5 15])
 (.seq (.regD [qm 16 0,
 qm 17 5,
 qd 18 (.ixa 1 (.t 16) (.t 17)) [0,1],
 qd 19 (.ld1 (.t 18)) [2,0,1],
 qm 20 1,
 qm 21 5,
 qd 22 (.ixa 1 (.t 20) (.t 21)) [4,5],
 qd 23 (.ld1 (.t 22)) [6,4,5],
 qd 24 (.bin .neq (.t 19) (.t 23)) [3,2,0,1,7,6,4,5]])
 (.cond (.t 24) (.seq (.reg [qo 4 (.mv qf)])
 .ret)
 .skip))))
 (.reg [qo 25 (.bin .add (.t 13) (qk 1)),
 qm 13 25])))))))
 (.seq (.reg [qo 4 (.mv qt)])
 .ret)))),
[(.t 4)])
theorem irOk305 : convFn Tryz.prog Tryz.f305 = some ir305 := by kernel_rfl


def tnS1 (r : Int) (b : List Int) (k : Nat) : St := ⟨[(0, .d (.val (.int .u32 (turnR r b k)))), (7, bytesV b), (8, .int b.length), (9, .int k)], []⟩
def tnS2 (x : Int) (b : List Int) (k : Nat) (j : Nat) : St := ⟨[(0, .d (.val (.int .u32 (bitsR x j)))), (7, bytesV b), (8, .int b.length), (9, .int k), (17, .int j)], []⟩
theorem turned_tri (r : Int) (b : List Int) (hl : b.length ≤ 1000000) : Tri Tryz.prog G 321 [.d (.val (.int .u32 r)), bytesV b] [] (.d (.val (.int .u32 (turnR r b b.length)))) [] := by
  have hlb : (byteR b).length = b.length := by simp [byteR]
  refine tri_W0 Tryz.func321 (by decide) irOk321 (Nat.le_of_ble_eq_true rfl) rfl ?_
  simp only [bytesV,ir321,go_sem,simprocAttr]
  refine W_loopI [0, 7, 8, 9] [] (fun k : Nat => k ≤ b.length) (fun k => b.length - k) (tnS1 r b) 0 ?_ (Nat.zero_le _) (fun k hk => ?_)
  · simp only [tnS1,bytesV,hlb,turnR,Int.natCast_zero,go_sem,simprocAttr]
  simp only [tnS1,bytesV,go_sem,simprocAttr]
  by_cases hlt : k < b.length
  · have hg := get_mapD (f := fun n : Int => [u8 n]) 0 hlt
    rw [show b.map (fun n : Int => [u8 n]) = byteR b from rfl] at hg
    have hnx : turnR r b (k + 1) = bitsR (xorI .u32 (turnR r b k) (IntKind.u32.wrap (b.getD k 0))) 8 := rfl
    generalize b.getD k 0 = c at *
    simp only [decide_eq_true (show ((k : Nat) : Int) < ((b.length : Nat) : Int) by omega),hg,u8,go_sem,simprocAttr]
    generalize xorI .u32 (turnR r b k) (IntKind.u32.wrap c) = x at *
    refine W_loopI [0, 7, 8, 9, 17] [] (fun j : Nat => j ≤ 8) (fun j => 8 - j) (tnS2 x b k) 0 ?_ (Nat.zero_le _) (fun j hj => ?_)
    · simp only [tnS2,bytesV,bitsR,Int.natCast_zero,go_sem,simprocAttr]
    simp only [tnS2,bytesV,go_sem,simprocAttr]
    by_cases hj8 : j < 8
    · have hnb : bitsR x (j + 1) = bitR (bitsR x j) := rfl
      unfold bitR at hnb
      generalize bitsR x j = y at *
      simp only [decide_eq_true (show ((j : Nat) : Int) < 8 by omega),go_sem,simprocAttr]
      cases hb : (andI .u32 y 1 == 0) with
      | true =>
        rw [hb, if_pos rfl] at hnb
        simp only [go_sem,simprocAttr]
        refine W_lpI (j + 1) ?_ ?_ (by omega) (by omega)
        · simp only [go_sem,simprocAttr]
        · simp only [tnS2,bytesV,hnb,wrap_succ (show j < 9223372036854775807 by omega),go_sem,simprocAttr]
      | false =>
        rw [hb, if_neg Bool.false_ne_true] at hnb
        simp only [go_sem,simprocAttr]
        refine W_lpI (j + 1) ?_ ?_ (by omega) (by omega)
        · simp only [go_sem,simprocAttr]
        · simp only [tnS2,bytesV,hnb,wrap_succ (show j < 9223372036854775807 by omega),go_sem,simprocAttr]
    · obtain rfl : j = 8 := by omega
      simp only [show decide (((8 : Nat) : Int) < 8) = false from rfl,go_sem,simprocAttr]
      refine W_lpI (k + 1) ?_ ?_ (by omega) (by omega)
      · simp only [go_sem,simprocAttr]
      · simp only [tnS1,bytesV,hnx,wrap_succ (show k < 9223372036854775807 by omega),go_sem,simprocAttr]
  · obtain rfl : k = b.length := by omega
    simp only [decide_eq_false (show ¬ ((b.length : Nat) : Int) < ((b.length : Nat) : Int) by omega),go_sem,simprocAttr]
theorem more_tri (s : Int) (b : List Int) (hl : b.length ≤ 1000000) : Tri Tryz.prog G 306 [.int s, bytesV b] [] (.int (moreR s b)) [] := by
  refine tri_W0 Tryz.func306 (by decide) irOk306 (Nat.le_of_ble_eq_true rfl) rfl ?_
  simp only [ir306,go_sem,simprocAttr]
  by_cases h1 : s < 0
  · simp only [decide_eq_true h1,moreR,h1,true_or,if_true,go_sem,simprocAttr]
  by_cases h2 : s > 4294967295
  · simp only [decide_eq_false h1,decide_eq_true h2,moreR,h2,or_true,if_true,go_sem,simprocAttr]
  have hm : moreR s b = IntKind.i64.wrap (xorI .u32 4294967295 (turnR (xorI .u32 4294967295 (IntKind.u32.wrap s)) b b.length)) := if_neg (by omega)
  simp only [decide_eq_false h1,decide_eq_false h2,hm,go_sem,simprocAttr]
  refine W_calld (turned_tri (xorI .u32 4294967295 (IntKind.u32.wrap s)) b hl) rfl rfl rfl rfl ?_; simp only [go_sem,simprocAttr]
  rfl
theorem sumOf_tri (b : List Int) (hl : b.length ≤ 1000000) : Tri Tryz.prog G 273 [bytesV b] [] (.int (moreR 0 b)) [] := by
  refine tri_W0 Tryz.func273 (by decide) irOk273 (Nat.le_of_ble_eq_true rfl) rfl ?_
  simp only [ir273,go_sem,simprocAttr]
  refine W_calld (more_tri 0 b hl) rfl rfl rfl rfl ?_; simp only [go_sem,simprocAttr]
theorem sumPut_tri (n : Int) : Tri Tryz.prog G 272 [.int n] [] (bytesV (sumB n)) [] := by
  refine tri_W Tryz.func272 (by decide) irOk272 (Nat.le_of_ble_eq_true rfl) ?_
  simp only [ir272,go_sem,simprocAttr]
  exact BackZ [0] rfl (by simp [St.obj,objL]) (by simp [St.obj,objL,oneOr,St.get,getE,argR,rowsAt,bytesV,byteR,sumB,u8])
theorem sumB_len (n : Int) : (sumB n).length = 4 := rfl
theorem take_getD (l : List Int) {k : Nat} (h : k < l.length) : l.take (k + 1) = l.take k ++ [l.getD k 0] := by
  rw [List.take_add_one]
  simp [h,List.getD]
def eqS (a b : List Int) (k : Nat) : St := ⟨[(0, bytesV a), (1, bytesV b), (4, .bool false), (11, bytesV a), (12, .int a.length), (13, .int k)], []⟩
theorem equal_tri (a b : List Int) (ha : a.length ≤ 1000000) (hb : b.length ≤ 1000000) : Tri Tryz.prog G 305 [bytesV a, bytesV b] [] (.bool (decide (a = b))) [] := by
  have hla : (byteR a).length = a.length := by simp [byteR]
  have hlb : (byteR b).length = b.length := by simp [byteR]
  refine tri_W0 Tryz.func305 (by decide) irOk305 (Nat.le_of_ble_eq_true rfl) rfl ?_
  simp only [bytesV,ir305,go_sem,simprocAttr]
  simp only [hla,hlb,go_sem,simprocAttr]
  by_cases hl : a.length = b.length
  case neg =>
    simp only [show (((a.length : Nat) : Int) != ((b.length : Nat) : Int)) = true from bne_iff_ne.2 (by omega),go_sem,simprocAttr]
    simp only [decide_eq_false (show ¬ a = b from fun h => hl (by rw [h]))]
  simp only [show (((a.length : Nat) : Int) != ((b.length : Nat) : Int)) = false from by simp [hl], go_sem, simprocAttr]
  refine W_loopI [0, 1, 4, 11, 12, 13] [] (fun k : Nat => k ≤ a.length ∧ a.take k = b.take k) (fun k => a.length - k) (eqS a b) 0 ?_ ⟨Nat.zero_le _, rfl⟩ ?_
  · simp only [eqS,bytesV,hla,Int.natCast_zero,go_sem,simprocAttr]
  rintro k ⟨hk, hp⟩
  simp only [eqS,bytesV,go_sem,simprocAttr]
  by_cases hlt : k < a.length
  · have hga := get_mapD (f := fun n : Int => [u8 n]) 0 hlt
    have hgb := get_mapD (f := fun n : Int => [u8 n]) 0 (show k < b.length by omega)
    rw [show a.map (fun n : Int => [u8 n]) = byteR a from rfl] at hga
    rw [show b.map (fun n : Int => [u8 n]) = byteR b from rfl] at hgb
    simp only [decide_eq_true (show ((k : Nat) : Int) < ((a.length : Nat) : Int) by omega),hga,hgb,u8,go_sem,simprocAttr]
    by_cases he : a.getD k 0 = b.getD k 0
    · simp only [he,bne_self_eq_false,go_sem,simprocAttr]
      refine W_lpI (k + 1) ?_ ?_ ⟨by omega, by rw [take_getD a hlt, take_getD b (by omega), hp, he]⟩ (by omega)
      · simp only [go_sem,simprocAttr]
      · simp only [eqS,bytesV,wrap_succ (show k < 9223372036854775807 by omega),go_sem,simprocAttr]
    · simp only [show (a.getD k 0 != b.getD k 0) = true from bne_iff_ne.2 he,go_sem,simprocAttr]
      exact (decide_eq_false fun h => he (by rw [h])).symm
  · obtain rfl : k = a.length := by omega
    simp only [decide_eq_false (show ¬ ((a.length : Nat) : Int) < ((a.length : Nat) : Int) by omega),go_sem,simprocAttr]
    refine (decide_eq_true ?_).symm
    rw [List.take_length, hl, List.take_length] at hp
    exact hp
theorem byteR_take (b : List Int) (n : Nat) : (byteR b).take n = byteR (b.take n) := by simp [byteR,List.map_take]
theorem byteR_drop (b : List Int) (n : Nat) : (byteR b).drop n = byteR (b.drop n) := by simp [byteR,List.map_drop]
theorem byteR_len (b : List Int) : (byteR b).length = b.length := by simp [byteR]
theorem sumIs_tri (b : List Int) (hl : b.length ≤ 1000000) : Tri Tryz.prog G 271 [bytesV b] [] (.bool (isSum b)) [] := by
  have hlb : (byteR b).length = b.length := by simp [byteR]
  refine tri_W0 Tryz.func271 (by decide) irOk271 (Nat.le_of_ble_eq_true rfl) rfl ?_
  simp only [bytesV,ir271,go_sem,simprocAttr]
  simp only [hlb,wrap_in (show -9223372036854775808 ≤ ((b.length : Nat) : Int) - 4 by omega) (show ((b.length : Nat) : Int) - 4 ≤ 9223372036854775807 by omega),go_sem,simprocAttr]
  by_cases h4 : 4 ≤ b.length
  · simp only [decide_eq_true (show ((b.length : Nat) : Int) - 4 ≥ 0 by omega),hlb,go_sem,simprocAttr]
    have c1 : (0 : Int) ≤ ((b.length : Nat) : Int) - 4 := by omega
    have e0 : (((b.length : Nat) : Int) - 4).toNat = b.length - 4 := by omega
    have c2 : 0 ≤ b.length - 4 ∧ b.length - 4 ≤ b.length ∧ b.length ≤ b.length := by omega
    have c3 : b.length - 4 ≤ b.length ∧ b.length ≤ b.length ∧ b.length ≤ b.length := by omega
    have hi : isSum b = decide (sumB (moreR 0 (b.take (b.length - 4))) = b.drop (b.length - 4)) := by unfold isSum; rw [decide_eq_true h4, Bool.true_and]
    have ho := sumOf_tri (G := G) (b.take (b.length - 4)) (by rw [List.length_take]; omega)
    have he := equal_tri (G := G) (sumB (moreR 0 (b.take (b.length - 4)))) (b.drop (b.length - 4)) (by rw [sumB_len]; decide) (by rw [List.length_drop]; omega)
    simp only [bytesV] at ho he
    simp only [c1,e0,c2,Nat.sub_zero,List.drop_zero,byteR_take,go_sem,simprocAttr]
    refine WD_calld (ho) rfl rfl rfl rfl ?_; simp only [go_sem,simprocAttr]
    refine WD_calld (sumPut_tri (moreR 0 (b.take (b.length - 4)))) rfl rfl rfl rfl ?_; simp only [go_sem,simprocAttr]
    have c4 : (byteR (b.drop (b.length - 4))).take (b.length - (b.length - 4)) = byteR (b.drop (b.length - 4)) := List.take_of_length_le (by rw [byteR_len, List.length_drop]; exact Nat.le_refl _)
    simp only [c1,e0,c3,hlb,byteR_drop,c4,bytesV,go_sem,simprocAttr]
    refine WD_calld (he) rfl rfl rfl rfl ?_; simp only [go_sem,simprocAttr]
    rw [hi]
  · simp only [decide_eq_false (show ¬ ((b.length : Nat) : Int) - 4 ≥ 0 by omega),isSum,decide_eq_false h4,go_sem,simprocAttr]
end Dv

namespace Dv
open Go Go.Proofs
variable {G : Nat → Option (List DV)}

def ir84 : Nat × C × List RV := (8,
(.seq (.reg [qo 2 (.mv (.c (.val (.slice none 0 0))))])
 (.seq (.seq (.reg [qm 3 0,
 qo 4 (.isns false (.t 3))])
 (.cond (.t 4) (.seq (.reg [qo 2 (.mv (.c (.val (.slice none 0 0))))])
 .ret)
 .skip))
 (.seq (.reg [qo 5 (.bsl 5 1 []),
 qm 6 0,
 qo 7 (.app 5 1 1 (.t 5) (.t 6)),
 qm 2 7])
 .ret))),
[(.t 2)])
theorem irOk84 : convFn Tryz.prog Tryz.f84 = some ir84 := by kernel_rfl
def ir232 : Nat × C × List RV := (36,
(.seq (.reg [qo 2 (.mv (.c (.val (.slice none 0 0))))])
 (.seq (.reg [qo 3 (.mv (qk 0))])
 (.seq (.seq (.reg [qm 9 0,
 qo 10 (.len (.t 9)),
 qo 11 (.mv (qk 0))])
 (.block 0 (.loop (.seq (.reg [qo 12 (.bin .lss (.t 11) (.t 10))])
 (.seq (.cond (.t 12) .skip
 (.exit 0))
 (.seq (.block 1 (.seq (.reg [qo 13 (.ixa 1 (.t 9) (.t 11)),
 qo 14 (.ld1 (.t 13)),
 qm 5 14])
 (.seq (.reg [qm 15 3,
 qm 16 5,
 qo 17 (.len (.t 16)),
 qo 18 (.bin .add (.t 15) (.t 17)),
 qm 3 18])
 (.seq (.reg [qm 19 3,
 qo 20 (.bin .lss (.t 19) (qk 0))])
 (.cond (.t 20) (.reg [qo 21 ((.more .stk)),
 qn ((.more .stk))])
 .skip)))))
 (.reg [qo 22 (.bin .add (.t 11) (qk 1)),
 qm 11 22])))))))
 (.seq (.reg [qm 23 3,
 qo 24 (.call (.f 274) [(.c (.val (.slice none 0 0))),(.t 23)]),
 qm 6 24])
 (.seq (.seq (.reg [qm 25 0,
 qo 26 (.len (.t 25)),
 qo 27 (.mv (qk 0))])
 (.block 2 (.loop (.seq (.reg [qo 28 (.bin .lss (.t 27) (.t 26))])
 (.seq (.cond (.t 28) .skip
 (.exit 2))
 (.seq (.block 3 (.seq (.reg [qo 29 (.ixa 1 (.t 25) (.t 27)),
 qo 30 (.ld1 (.t 29)),
 qm 8 30])
 (.reg [qm 31 6,
 qm 32 8,
 qo 33 (.app 5 1 1 (.t 31) (.t 32)),
 qm 6 33])))
 (.reg [qo 34 (.bin .add (.t 27) (qk 1)),
 qm 27 34])))))))
 (.seq (.reg [qm 35 6,
 qm 2 35])
 .ret)))))),
[(.t 2)])
theorem irOk232 : convFn Tryz.prog Tryz.f232 = some ir232 := by kernel_rfl
def ir231 : Nat × C × List RV := (21,
(.seq (.reg [qo 2 (.mv (.c (.val (.slice none 0 0))))])
 (.seq (.seq (.reg [qm 3 0,
 qo 4 (.len (.t 3)),
 qo 5 (.bin .eql (.t 4) (qk 0)),
 qm 6 5,
 qg 7 (.mv (.t 0)) 6 false,
 qg 8 (.len (.t 7)) 6 false,
 qg 9 (.bin .gtr (.t 8) (qk 4000)) 6 false,
 qo 10 (.pick (.t 6) qt (.t 9))])
 (.cond (.t 10) (.seq (.reg [qo 2 (.mv (.c (.val (.slice none 0 0))))])
 .ret)
 .skip))
 (.seq (.reg [qm 11 0,
 qo 12 (.len (.t 11)),
 qo 13 (.call (.f 230) [(.t 12)]),
 qm 14 0,
 qm 15 0,
 qo 16 (.call (.f 273) [(.t 15)]),
 qo 17 (.call (.f 272) [(.t 16)]),
 qo 18 (.bsl 5 1 [(.c (.val (.int .u8 1)))]),
 qo 19 (.bsl 57 1 [(.t 13),(.t 14),(.t 17),(.t 18)]),
 qo 20 (.call (.f 232) [(.t 19)]),
 qm 2 20])
 .ret))),
[(.t 2)])
theorem irOk231 : convFn Tryz.prog Tryz.f231 = some ir231 := by kernel_rfl


theorem cloneBO_tri (l : List Int) (hl : l.length ≤ 1000000) : Tri Tryz.prog G 84 [bytesV l] [] (.sl 0 l.length 1 0 l.length) [.dat 5 1 (byteR l)] := by
  refine tri_W Tryz.func84 (by decide) irOk84 (Nat.le_of_ble_eq_true rfl) ?_
  simp only [bytesV,ir84,go_sem,simprocAttr]
  cases l with
  | nil =>
    simp only [byteR,List.length_nil,List.map_nil,go_sem,simprocAttr]
    refine ⟨?_, ?_⟩
    · exact BackO [.t 2 5 1] rfl rfl
    · exact BackO [] rfl rfl
  | cons n l =>
    have hr : (byteR (n :: l)).length = (n :: l).length := byteR_len _
    have h0 : ¬ (n :: l).length = 0 := by simp
    have hb : (l.length + 1) * 1 ≤ 70368744177664 := by simp at hl; omega
    simp only [hr,h0,List.take_of_length_le (show (byteR (n :: l)).length ≤ (n :: l).length by rw [hr]; exact Nat.le_refl _), Nat.le_refl, List.drop_zero, go_sem, simprocAttr]
    simp only [hb,go_sem,simprocAttr]
    exact BackO [] rfl rfl
theorem cloneB_tri (l : List Int) (hl : l.length ≤ 1000000) : Tri Tryz.prog G 84 [bytesV l] [] (bytesV l) [] := by
  refine tri_W Tryz.func84 (by decide) irOk84 (Nat.le_of_ble_eq_true rfl) ?_
  simp only [bytesV,ir84,go_sem,simprocAttr]
  cases l with
  | nil =>
    simp only [byteR,List.length_nil,List.map_nil,go_sem,simprocAttr]
    refine ⟨?_, ?_⟩
    · exact BackZ [] rfl (by simp) (by simp [oneOr,St.get,getE,argR])
    · exact BackZ [0] rfl (by simp [St.obj,objL]) (by simp [St.obj,objL,oneOr,St.get,getE,argR,rowsAt])
  | cons n l =>
    have hr : (byteR (n :: l)).length = (n :: l).length := byteR_len _
    have h0 : ¬ (n :: l).length = 0 := by simp
    have hb : (l.length + 1) * 1 ≤ 70368744177664 := by simp at hl; omega
    simp only [hr,h0,List.take_of_length_le (show (byteR (n :: l)).length ≤ (n :: l).length by rw [hr]; exact Nat.le_refl _), Nat.le_refl, List.drop_zero, go_sem, simprocAttr]
    simp only [hb,go_sem,simprocAttr]
    exact BackZ [0] rfl (by simp [St.obj,objL]) (by simp [St.obj,objL,oneOr,St.get,getE,argR,rowsAt,List.take_of_length_le,hr])

theorem byteR_app (a b : List Int) : byteR (a ++ b) = byteR a ++ byteR b := by simp [byteR]
def concR (ls : List (List Int)) : List (List DV) := ls.map fun b => [.lst 1 (byteR b)]
def cat (ls : List (List Int)) (k : Nat) : List Int := (ls.take k).flatten
theorem cat_succ (ls : List (List Int)) {k : Nat} (h : k < ls.length) : cat ls (k + 1) = cat ls k ++ ls.getD k [] := by
  unfold cat
  rw [List.take_add_one, List.flatten_append]
  simp [h,List.getD]
theorem cat_le (ls : List (List Int)) (k : Nat) : (cat ls k).length ≤ ls.flatten.length := by
  have : ls.flatten = (ls.take k).flatten ++ (ls.drop k).flatten := by rw [← List.flatten_append, List.take_append_drop]
  rw [this, List.length_append]
  exact Nat.le_add_right _ _
def coS1 (ls : List (List Int)) (k : Nat) : St := ⟨[(0, .d (.lst 1 (concR ls))), (2, .d (.val (.slice none 0 0))), (3, .int (cat ls k).length), (9, .d (.lst 1 (concR ls))), (10, .int ls.length), (11, .int k)], []⟩
def coS2 (ls : List (List Int)) (k : Nat) : St := ⟨[(6, .sl 0 (cat ls k).length 1 0 (cat ls k).length), (25, .d (.lst 1 (concR ls))), (26, .int ls.length), (27, .int k)], [some (.dat 5 1 (byteR (cat ls k)))]⟩
set_option maxHeartbeats 1000000 in
theorem concat_tri (ls : List (List Int)) (hl : ls.length ≤ 100) (ht : ls.flatten.length ≤ 100000) : Tri Tryz.prog G 232 [.d (.lst 1 (concR ls))] [] (bytesV ls.flatten) [] := by
  have hlc : (concR ls).length = ls.length := by simp [concR]
  refine tri_W Tryz.func232 (by decide) irOk232 (Nat.le_of_ble_eq_true rfl) ?_
  simp only [bytesV,ir232,go_sem,simprocAttr]
  refine W_loopI [0, 2, 3, 9, 10, 11] [] (fun k : Nat => k ≤ ls.length) (fun k => ls.length - k) (coS1 ls) 0 ?_ (Nat.zero_le _) (fun k hk => ?_)
  · simp only [coS1,hlc,Int.natCast_zero,cat,List.take_zero,List.flatten_nil,List.length_nil,go_sem,simprocAttr]
  simp only [coS1,go_sem,simprocAttr]
  by_cases hlt : k < ls.length
  · have hg := get_mapD (f := fun b : List Int => [DV.lst 1 (byteR b)]) [] hlt
    rw [show ls.map (fun b : List Int => [DV.lst 1 (byteR b)]) = concR ls from rfl] at hg
    have hc := congrArg List.length (cat_succ ls hlt)
    rw [List.length_append] at hc
    have h1 := cat_le ls (k + 1)
    generalize ls.getD k [] = b at *
    have hw : IntKind.i64.wrap (((cat ls k).length : Int) + (b.length : Int)) = ((cat ls (k + 1)).length : Int) := by rw [wrap_in (by omega) (by omega), hc]; omega
    simp only [decide_eq_true (show ((k : Nat) : Int) < ((ls.length : Nat) : Int) by omega),hg,byteR_len,hw,decide_eq_false (show ¬ (((cat ls (k + 1)).length : Nat) : Int) < 0 by omega),go_sem,simprocAttr]
    refine W_lpI (k + 1) ?_ ?_ (by omega) (by omega)
    · simp only [go_sem,simprocAttr]
    · simp only [coS1,wrap_succ (show k < 9223372036854775807 by omega),go_sem,simprocAttr]
  obtain rfl : k = ls.length := by omega
  have hcl : cat ls ls.length = ls.flatten := by unfold cat; rw [List.take_length]
  simp only [decide_eq_false (show ¬ ((ls.length : Nat) : Int) < ((ls.length : Nat) : Int) by omega),hcl,go_sem,simprocAttr]
  refine W_calln (grow_tri ls.flatten.length ht) rfl rfl rfl ?_
  simp only [go_sem,simprocAttr]
  refine W_loopI [6, 25, 26, 27] [] (fun k : Nat => k ≤ ls.length) (fun k => ls.length - k) (coS2 ls) 0 ?_ (Nat.zero_le _) (fun k hk => ?_)
  · simp only [coS2,hlc,Int.natCast_zero,cat,List.take_zero,List.flatten_nil,List.length_nil,byteR,List.map_nil,go_sem,simprocAttr]
  simp only [coS2,go_sem,simprocAttr]
  by_cases hlt : k < ls.length
  · have hg := get_mapD (f := fun b : List Int => [DV.lst 1 (byteR b)]) [] hlt
    rw [show ls.map (fun b : List Int => [DV.lst 1 (byteR b)]) = concR ls from rfl] at hg
    have hs := cat_succ ls hlt
    have hc := congrArg List.length hs
    rw [List.length_append] at hc
    have h1 := cat_le ls (k + 1)
    generalize ls.getD k [] = b at *
    have hb : (cat ls k).length + b.length ≤ 100000 := by omega
    simp only [decide_eq_true (show ((k : Nat) : Int) < ((ls.length : Nat) : Int) by omega),hg,byteR_len,← byteR_app,← hs,show (cat ls (k + 1)).length * 1 ≤ 70368744177664 by omega,← hc,go_sem,simprocAttr]
    refine W_lpI (k + 1) ?_ ?_ (by omega) (by omega)
    · simp only [go_sem,simprocAttr]
    · simp only [coS2,wrap_succ (show k < 9223372036854775807 by omega),go_sem,simprocAttr]
  obtain rfl : k = ls.length := by omega
  simp only [decide_eq_false (show ¬ ((ls.length : Nat) : Int) < ((ls.length : Nat) : Int) by omega),hcl,go_sem,simprocAttr]
  exact BackZ [0] rfl (by simp [St.obj,objL]) (by simp [St.obj,objL,oneOr,St.get,getE,argR,rowsAt,List.take_of_length_le,byteR_len])

def s4 (a b c : List Int) : Nat → List Int
  | 0 => []
  | 1 => a
  | 2 => a ++ b
  | 3 => a ++ b ++ c
  | _ => a ++ b ++ c ++ [1]
def f4 (a b c : List Int) : List LObj := [.box 57 [.d (.lst 1 (byteR a)), .d (.lst 1 (byteR b)), .d (.lst 1 (byteR c)), .sl 1 1 1 0 1], .dat 5 1 [[.val (.int .u8 1)]]]
def cfS1 (a b c : List Int) (k : Nat) : St := ⟨[(0, .sl 0 0 1 0 4), (2, .d (.val (.slice none 0 0))), (3, .int (s4 a b c k).length), (9, .sl 0 0 1 0 4), (10, .int 4), (11, .int k)], (f4 a b c).map some⟩
def cfS2 (a b c : List Int) (k : Nat) : St := ⟨[(6, .sl 2 (s4 a b c k).length 1 0 (s4 a b c k).length), (25, .sl 0 0 1 0 4), (26, .int 4), (27, .int k)], (f4 a b c).map some ++ [some (.dat 5 1 (byteR (s4 a b c k)))]⟩
set_option maxHeartbeats 1000000 in
theorem concat4_tri (a b c : List Int) (ht : (a ++ b ++ c).length ≤ 10000) : Tri Tryz.prog G 232 [.sl 0 0 1 0 4] (f4 a b c) (bytesV (a ++ b ++ c ++ [1])) (f4 a b c) := by
  rw [List.length_append, List.length_append] at ht
  have l0 : (s4 a b c 0).length = 0 := rfl
  have l1 : (s4 a b c 1).length = a.length := rfl
  have l2 : (s4 a b c 2).length = a.length + b.length := List.length_append
  have l3 : (s4 a b c 3).length = a.length + b.length + c.length := by simp [s4]; omega
  have l4 : (s4 a b c 4).length = a.length + b.length + c.length + 1 := by simp [s4]; omega
  have w0 : IntKind.i64.wrap (((s4 a b c 0).length : Int) + ((byteR a).length : Int)) = ((s4 a b c 1).length : Int) := by rw [wrap_in (by rw [byteR_len]; omega) (by rw [byteR_len]; omega), byteR_len]; omega
  have w1 : IntKind.i64.wrap (((s4 a b c 1).length : Int) + ((byteR b).length : Int)) = ((s4 a b c 2).length : Int) := by rw [wrap_in (by rw [byteR_len]; omega) (by rw [byteR_len]; omega), byteR_len]; omega
  have w2 : IntKind.i64.wrap (((s4 a b c 2).length : Int) + ((byteR c).length : Int)) = ((s4 a b c 3).length : Int) := by rw [wrap_in (by rw [byteR_len]; omega) (by rw [byteR_len]; omega), byteR_len]; omega
  have w3 : IntKind.i64.wrap (((s4 a b c 3).length : Int) + 1) = ((s4 a b c 4).length : Int) := by rw [wrap_in (by omega) (by omega)]; omega
  have r0 : byteR (s4 a b c 0) ++ byteR a = byteR (s4 a b c 1) := by rfl
  have r1 : byteR (s4 a b c 1) ++ byteR b = byteR (s4 a b c 2) := by rw [← byteR_app]; rfl
  have r2 : byteR (s4 a b c 2) ++ byteR c = byteR (s4 a b c 3) := by rw [← byteR_app]; rfl
  have r3 : byteR (s4 a b c 3) ++ [[DV.val (.int .u8 1)]] = byteR (s4 a b c 4) := by rw [show s4 a b c 4 = s4 a b c 3 ++ [1] from rfl, byteR_app]; rfl
  have c0 : ((s4 a b c 0).length = (byteR (s4 a b c 0)).length ∧ (byteR (s4 a b c 1)).length * 1 ≤ 70368744177664) := ⟨(byteR_len _).symm, by rw [byteR_len]; omega⟩
  have e0 : (byteR (s4 a b c 0)).length + (byteR a).length = (s4 a b c 1).length := by rw [byteR_len, byteR_len]; omega
  have c1 : ((s4 a b c 1).length = (byteR (s4 a b c 1)).length ∧ (byteR (s4 a b c 2)).length * 1 ≤ 70368744177664) := ⟨(byteR_len _).symm, by rw [byteR_len]; omega⟩
  have e1 : (byteR (s4 a b c 1)).length + (byteR b).length = (s4 a b c 2).length := by rw [byteR_len, byteR_len]; omega
  have c2 : ((s4 a b c 2).length = (byteR (s4 a b c 2)).length ∧ (byteR (s4 a b c 3)).length * 1 ≤ 70368744177664) := ⟨(byteR_len _).symm, by rw [byteR_len]; omega⟩
  have e2 : (byteR (s4 a b c 2)).length + (byteR c).length = (s4 a b c 3).length := by rw [byteR_len, byteR_len]; omega
  have c3 : ((s4 a b c 3).length = (byteR (s4 a b c 3)).length ∧ (byteR (s4 a b c 4)).length * 1 ≤ 70368744177664) := ⟨(byteR_len _).symm, by rw [byteR_len]; omega⟩
  have e3 : (byteR (s4 a b c 3)).length + 1 = (s4 a b c 4).length := by rw [byteR_len]; omega
  refine tri_W Tryz.func232 (by decide) irOk232 (Nat.le_of_ble_eq_true rfl) ?_
  simp only [f4,ir232,go_sem,simprocAttr]
  refine W_loopI [0, 2, 3, 9, 10, 11] [] (fun k : Nat => k ≤ 4) (fun k => 4 - k) (cfS1 a b c) 0 ?_ (Nat.zero_le _) (fun k hk => ?_)
  · simp only [cfS1,f4,s4,List.length_nil,List.map_cons,List.map_nil,Int.natCast_zero,go_sem,simprocAttr]
  simp only [cfS1,f4,List.map_cons,List.map_nil,go_sem,simprocAttr]
  match k, hk with
  | 0, _ =>
    simp only [show decide (((0 : Nat) : Int) < 4) = true from rfl,w0,decide_eq_false (show ¬ (((s4 a b c 1).length : Nat) : Int) < 0 by omega),go_sem,simprocAttr]
    refine W_lpI 1 ?_ ?_ (by decide) (by decide)
    · simp only [go_sem,simprocAttr]
    · simp only [cfS1,f4,List.map_cons,List.map_nil,show IntKind.i64.wrap 1 = 1 from rfl,go_sem,simprocAttr]
  | 1, _ =>
    simp only [show decide (((1 : Nat) : Int) < 4) = true from rfl,w1,decide_eq_false (show ¬ (((s4 a b c 2).length : Nat) : Int) < 0 by omega),go_sem,simprocAttr]
    refine W_lpI 2 ?_ ?_ (by decide) (by decide)
    · simp only [go_sem,simprocAttr]
    · simp only [cfS1,f4,List.map_cons,List.map_nil,show IntKind.i64.wrap 2 = 2 from rfl,go_sem,simprocAttr]
  | 2, _ =>
    simp only [show decide (((2 : Nat) : Int) < 4) = true from rfl,w2,decide_eq_false (show ¬ (((s4 a b c 3).length : Nat) : Int) < 0 by omega),go_sem,simprocAttr]
    refine W_lpI 3 ?_ ?_ (by decide) (by decide)
    · simp only [go_sem,simprocAttr]
    · simp only [cfS1,f4,List.map_cons,List.map_nil,show IntKind.i64.wrap 3 = 3 from rfl,go_sem,simprocAttr]
  | 3, _ =>
    simp only [show decide (((3 : Nat) : Int) < 4) = true from rfl,w3,decide_eq_false (show ¬ (((s4 a b c 4).length : Nat) : Int) < 0 by omega),go_sem,simprocAttr]
    refine W_lpI 4 ?_ ?_ (by decide) (by decide)
    · simp only [go_sem,simprocAttr]
    · simp only [cfS1,f4,List.map_cons,List.map_nil,show IntKind.i64.wrap 4 = 4 from rfl,go_sem,simprocAttr]
  | 4, _ =>
    simp only [show decide (((4 : Nat) : Int) < 4) = false from rfl,go_sem,simprocAttr]
    have ht4 : (s4 a b c 4).length ≤ 100000 := by omega
    refine W_calln (grow_tri (s4 a b c 4).length ht4) rfl rfl rfl ?_
    simp only [go_sem,simprocAttr]
    refine W_loopI [6, 25, 26, 27] [] (fun k : Nat => k ≤ 4) (fun k => 4 - k) (cfS2 a b c) 0 ?_ (Nat.zero_le _) (fun k hk => ?_)
    · simp only [cfS2,f4,l0,List.map_cons,List.map_nil,List.cons_append,List.nil_append,Int.natCast_zero,go_sem,simprocAttr]
      rfl
    simp only [cfS2,f4,List.map_cons,List.map_nil,List.cons_append,List.nil_append,go_sem,simprocAttr]
    match k, hk with
    | 0, _ =>
      simp only [show decide (((0 : Nat) : Int) < 4) = true from rfl,r0,c0,e0,go_sem,simprocAttr]
      refine W_lpI 1 ?_ ?_ (by decide) (by decide)
      · simp only [go_sem,simprocAttr]
      · simp only [cfS2,f4,List.map_cons,List.map_nil,List.cons_append,List.nil_append,show IntKind.i64.wrap 1 = 1 from rfl,go_sem,simprocAttr]
    | 1, _ =>
      simp only [show decide (((1 : Nat) : Int) < 4) = true from rfl,r1,c1,e1,go_sem,simprocAttr]
      refine W_lpI 2 ?_ ?_ (by decide) (by decide)
      · simp only [go_sem,simprocAttr]
      · simp only [cfS2,f4,List.map_cons,List.map_nil,List.cons_append,List.nil_append,show IntKind.i64.wrap 2 = 2 from rfl,go_sem,simprocAttr]
    | 2, _ =>
      simp only [show decide (((2 : Nat) : Int) < 4) = true from rfl,r2,c2,e2,go_sem,simprocAttr]
      refine W_lpI 3 ?_ ?_ (by decide) (by decide)
      · simp only [go_sem,simprocAttr]
      · simp only [cfS2,f4,List.map_cons,List.map_nil,List.cons_append,List.nil_append,show IntKind.i64.wrap 3 = 3 from rfl,go_sem,simprocAttr]
    | 3, _ =>
      simp only [show decide (((3 : Nat) : Int) < 4) = true from rfl,r3,c3,e3,go_sem,simprocAttr]
      refine W_lpI 4 ?_ ?_ (by decide) (by decide)
      · simp only [go_sem,simprocAttr]
      · simp only [cfS2,f4,List.map_cons,List.map_nil,List.cons_append,List.nil_append,show IntKind.i64.wrap 4 = 4 from rfl,go_sem,simprocAttr]
    | 4, _ =>
      simp only [show decide (((4 : Nat) : Int) < 4) = false from rfl,go_sem,simprocAttr]
      refine BackR [] [0, 1] [2] (vs := [.sl 2 (s4 a b c 4).length 1 0 (s4 a b c 4).length]) rfl rfl (by decide) (by simp) (by simp [St.obj,objL,adopt]) rfl rfl ?_
      simp [St.obj,objL,oneOr,argR,rowsAt,bytesV,List.take_of_length_le,byteR_len,s4,adopt]

def putF (p : List Int) : List Int := if p.length = 0 ∨ p.length > 4000 then [] else numB p.length ++ p ++ sumB (moreR 0 p) ++ [1]
theorem framePut_tri (p : List Int) (hl : p.length ≤ 1000000) : Tri Tryz.prog G 231 [bytesV p] [] (bytesV (putF p)) [] := by
  refine tri_W Tryz.func231 (by decide) irOk231 (Nat.le_of_ble_eq_true rfl) ?_
  simp only [bytesV,ir231,byteR_len,go_sem,simprocAttr]
  by_cases h0 : p.length = 0
  · have hp : putF p = [] := if_pos (.inl h0)
    simp only [show (((p.length : Nat) : Int) == 0) = true by rw [beq_iff_eq]; omega, go_sem, simprocAttr]
    exact BackZ [] rfl (by simp) (by simp [oneOr,St.get,getE,argR,hp,byteR])
  have e0 : (((p.length : Nat) : Int) == 0) = false := beq_eq_false_iff_ne.2 (by omega)
  by_cases h1 : p.length > 4000
  · have hp : putF p = [] := if_pos (.inr h1)
    simp only [e0,byteR_len,decide_eq_true (show ((p.length : Nat) : Int) > 4000 by omega),go_sem,simprocAttr]
    exact BackZ [] rfl (by simp) (by simp [oneOr,St.get,getE,argR,hp,byteR])
  have hp : putF p = numB p.length ++ p ++ sumB (moreR 0 p) ++ [1] := if_neg (by omega)
  simp only [e0,byteR_len,decide_eq_false (show ¬ ((p.length : Nat) : Int) > 4000 by omega),go_sem,simprocAttr]
  have hn := num_tri (G := G) (p.length : Int)
  have ho := sumOf_tri (G := G) p hl
  have hs := sumPut_tri (G := G) (moreR 0 p)
  simp only [bytesV] at hn ho hs
  refine W_calld (hn) rfl rfl rfl rfl ?_; simp only [go_sem,simprocAttr]
  refine W_calld (ho) rfl rfl rfl rfl ?_; simp only [go_sem,simprocAttr]
  refine W_calld (hs) rfl rfl rfl rfl ?_; simp only [go_sem,simprocAttr]
  have hn9 := numB_le (p.length : Int)
  have hs4 := sumB_len (moreR 0 p)
  refine W_callo [1, 0] (concat4_tri (numB p.length) p (sumB (moreR 0 p)) (by rw [List.length_append, List.length_append]; omega)) rfl (by simp only [argRs,argR,List.map_cons,List.map_nil,go_sem,simprocAttr]) (by decide) (by simp only [f4,go_sem,simprocAttr]) (by simp only [f4,List.all_cons,List.all_nil,go_sem,simprocAttr]) (Nat.le_refl _) ?_
  simp only [f4,bytesV,go_sem,simprocAttr]
  rw [← hp]
  exact BackZ [] rfl (by simp) (by simp [oneOr,St.get,getE,argR])
end Dv

namespace Dv
open Go Go.Proofs
variable {G : Nat → Option (List DV)}

def dskO (l : List Int) (s : Int) : List LObj := [.box 150 [.sl 1 l.length 1 0 l.length, .d (.val (.slice none 0 0)), .int s], .dat 5 1 (byteR l)]
def wtR (at0 : Nat) (b : List Int) : List (List DV) := [[i64 at0, .lst 1 (byteR b)]]
def dskW (l : List Int) (s : Int) (at0 : Nat) (b : List Int) : List LObj := [.box 150 [.sl 1 l.length 1 0 l.length, .sl 2 1 2 0 1, .int s], .dat 5 1 (byteR l), .dat 227 2 (wtR at0 b)]
def overB (l : List Int) (a : Nat) (b : List Int) : List Int := l.take a ++ b ++ l.drop (a + b.length)
theorem overB_len {l b : List Int} {a : Nat} (h : a + b.length ≤ l.length) : (overB l a b).length = l.length := by
  unfold overB
  rw [List.length_append, List.length_append, List.length_take, List.length_drop]
  omega

def ir27 : Nat × C × List RV := (13,
(.seq (.reg [qo 2 (.mv (.c (.val (.pointer none))))])
 (.seq (.seq (.reg [qm 3 0,
 qo 4 (.bin .lss (.t 3) (qk 1)),
 qm 5 4,
 qg 6 (.mv (.t 0)) 5 false,
 qg 7 (.bin .gtr (.t 6) (qk 65536)) 5 false,
 qo 8 (.pick (.t 5) qt (.t 7))])
 (.cond (.t 8) (.seq (.reg [qo 2 (.mv (.c (.val (.pointer none))))])
 .ret)
 .skip))
 (.seq (.reg [qm 9 0,
 qo 10 (.more (.mks 5 1 1 [(.val (.int .u8 0))] (.t 9))),
 qo 11 (.build [(.val (.slice none 0 0)),(.val (.slice none 0 0)),q0] [(0,1,(.t 10))]),
 qo 12 (.box 150 (.t 11)),
 qm 2 12])
 .ret))),
[(.t 2)])
theorem irOk27 : convFn Tryz.prog Tryz.f27 = some ir27 := by kernel_rfl
def ir79 : Nat × C × List RV := (10,
(.seq (.reg [qo 2 (.mv (qk 0))])
 (.seq (.seq (.reg [qm 3 0,
 qo 4 (.isnp false (.t 3))])
 (.cond (.t 4) (.seq (.reg [qo 2 (.mv (qk 0))])
 .ret)
 .skip))
 (.seq (.reg [qm 5 0,
 qo 6 (.nck (.t 5)),
 qo 7 (.fad 0 (.t 6)),
 qo 8 (.ld1 (.t 7)),
 qo 9 (.len (.t 8)),
 qm 2 9])
 .ret))),
[(.t 2)])
theorem irOk79 : convFn Tryz.prog Tryz.f79 = some ir79 := by kernel_rfl
def ir130 : Nat × C × List RV := (48,
(.seq (.reg [qo 6 (.mv (qk 0))])
 (.seq (.block 0 (.seq (.reg [qm 8 0,
 qo 9 (.isnp false (.t 8)),
 qm 10 9,
 qg 11 (.mv (.t 1)) 10 false,
 qg 12 (.bin .lss (.t 11) (qk 0)) 10 false,
 qo 13 (.pick (.t 10) qt (.t 12)),
 qm 7 13])
 (.cond (.t 7) (.seq (.reg [qo 6 (.mv (qk 1))])
 .ret)
 (.seq (.reg [qm 15 2,
 qo 16 (.len (.t 15)),
 qm 17 0,
 qo 18 (.nck (.t 17)),
 qo 19 (.fad 0 (.t 18)),
 qo 20 (.ld1 (.t 19)),
 qo 21 (.len (.t 20)),
 qo 22 (.bin .gtr (.t 16) (.t 21)),
 qm 23 22,
 qg 24 (.mv (.t 1)) 23 false,
 qg 25 (.mv (.t 0)) 23 false,
 qg 26 (.nck (.t 25)) 23 false,
 qg 27 (.fad 0 (.t 26)) 23 false,
 qg 28 (.ld1 (.t 27)) 23 false,
 qg 29 (.len (.t 28)) 23 false,
 qg 30 (.mv (.t 2)) 23 false,
 qg 31 (.len (.t 30)) 23 false,
 qg 32 (.bin .sub (.t 29) (.t 31)) 23 false,
 qg 33 (.bin .gtr (.t 24) (.t 32)) 23 false,
 qo 34 (.pick (.t 23) qt (.t 33)),
 qm 14 34])
 (.cond (.t 14) (.seq (.reg [qo 6 (.mv (qk 3))])
 .ret)
 .skip)))))
 (.seq (.regD [qm 35 0,
 qm 36 0,
 qd 37 (.nck (.t 36)) [1],
 qd 38 (.fad 1 (.t 37)) [2,1],
 qd 39 (.ld1 (.t 38)) [3,2,1],
 qm 40 1,
 qm 41 2,
 qd 42 (.call (.f 84) [(.t 41)]) [6],
 qd 43 (.build [q0,(.val (.slice none 0 0))] [(0,1,(.t 40)),(1,1,(.t 42))]) [5,7,6],
 qd 44 (.bsl 227 2 [(.t 43)]) [8,5,7,6],
 qd 45 (.app 227 2 32 (.t 39) (.t 44)) [4,3,2,1,9,8,5,7,6],
 qd 46 (.nck (.t 35)) [0,1,2,3,4,5,6,7,8,9,10],
 qd 47 (.fad 1 (.t 46)) [11,0,1,2,3,4,5,6,7,8,9,10],
 ql (.st 1 (.t 47) (.t 45)) [12,11,0,1,2,3,4,5,6,7,8,9,10]])
 (.seq (.reg [qo 6 (.mv (qk 0))])
 .ret)))),
[(.t 6)])
theorem irOk130 : convFn Tryz.prog Tryz.f130 = some ir130 := by kernel_rfl
def ir186 : Nat × C × List RV := (24,
(.seq (.reg [qo 2 (.mv (qk 0))])
 (.seq (.reg [qo 3 (.mv (qk 0))])
 (.seq (.seq (.reg [qm 6 0,
 qo 7 (.isnp true (.t 6))])
 (.cond (.t 7) (.seq (.reg [qm 8 0,
 qo 9 (.nck (.t 8)),
 qo 10 (.fad 1 (.t 9)),
 qo 11 (.ld1 (.t 10)),
 qo 12 (.len (.t 11)),
 qo 13 (.mv (qk 0))])
 (.block 0 (.loop (.seq (.reg [qo 14 (.bin .lss (.t 13) (.t 12))])
 (.seq (.cond (.t 14) .skip
 (.exit 0))
 (.seq (.block 1 (.seq (.reg [qo 15 (.ixa 2 (.t 11) (.t 13)),
 qo 16 (.ldn 2 (.t 15)),
 qo 5 (.new 227 [q0,(.val (.slice none 0 0))]),
 qn (.st 2 (.t 5) (.t 16))])
 (.reg [qm 17 3,
 qo 18 (.fad 1 (.t 5)),
 qo 19 (.ld1 (.t 18)),
 qo 20 (.len (.t 19)),
 qo 21 (.bin .add (.t 17) (.t 20)),
 qm 3 21])))
 (.reg [qo 22 (.bin .add (.t 13) (qk 1)),
 qm 13 22])))))))
 .skip))
 (.seq (.reg [qm 23 3,
 qm 2 23])
 .ret)))),
[(.t 2)])
theorem irOk186 : convFn Tryz.prog Tryz.f186 = some ir186 := by kernel_rfl
def ir127 : Nat × C × List RV := (10,
(.seq (.reg [qo 4 (.mv (qk 0))])
 (.seq (.reg [qm 5 0,
 qo 6 (.nck (.t 5)),
 qo 7 (.fad 0 (.t 6)),
 qm 8 1,
 qo 9 ((.more (.ata (.t 7) (.t 8)))),
 qm 4 9])
 .ret)),
[(.t 4)])
theorem irOk127 : convFn Tryz.prog Tryz.f127 = some ir127 := by kernel_rfl


theorem diskNew_tri (n : Nat) (h1 : 1 ≤ n) (h2 : n ≤ 65536) : Tri Tryz.prog G 27 [.int n] [] (.ptr 0 0) (dskO (List.replicate n 0) 0) := by
  refine tri_W Tryz.func27 (by decide) irOk27 (Nat.le_of_ble_eq_true rfl) ?_
  simp only [ir27,go_sem,simprocAttr]
  simp only [decide_eq_false (show ¬ ((n : Nat) : Int) < 1 by omega),decide_eq_false (show ¬ ((n : Nat) : Int) > 65536 by omega),go_sem,simprocAttr]
  have c1 : n * 1 ≤ 70368744177664 ∧ ((n : Nat) : Int) ≤ 9223372036854775807 := by omega
  simp only [c1,go_sem,simprocAttr]
  refine BackR [] [1, 0] [] (vs := [.ptr 1 0]) rfl rfl (by decide) (by simp) (by simp) ?_ ?_ ?_
  · simp only [dskO,List.length_replicate,byteR,List.map_replicate,u8]
    rfl
  · simp only [dskO,List.length_replicate,byteR,List.map_replicate,u8,List.all_cons,List.all_nil,go_sem,simprocAttr]
  · simp [oneOr,argR]
theorem diskSize_tri (l : List Int) (s : Int) : Tri Tryz.prog G 79 [.ptr 0 0] (dskO l s) (.int l.length) (dskO l s) := by
  refine tri_WP Tryz.func79 (by decide) irOk79 (Nat.le_of_ble_eq_true rfl) rfl rfl rfl ?_
  simp only [ir79,go_sem,simprocAttr]
  simp only [dskO,go_sem,simprocAttr]
theorem atAdd_tri (l : List Int) (s : Int) : Tri Tryz.prog G 127 [.ptr 0 2, .int 1] (dskO l s) (.int (IntKind.i64.wrap (s + 1))) (dskO l (IntKind.i64.wrap (s + 1))) := by
  refine tri_WP Tryz.func127 (by decide) irOk127 (Nat.le_of_ble_eq_true rfl) rfl rfl rfl ?_
  simp only [ir127,go_sem,simprocAttr]
  simp only [dskO,go_sem,simprocAttr]

theorem diskWrite_tri (l : List Int) (s : Int) (a : Nat) (b : List Int) (h : a + b.length ≤ l.length) (hl : l.length ≤ 65536) : Tri Tryz.prog G 130 [.ptr 0 0, .int a, bytesV b] (dskO l s) (.int 0) (dskW l s a b) := by
  refine tri_W Tryz.func130 (by decide) irOk130 (Nat.le_of_ble_eq_true rfl) ?_
  simp only [dskO,bytesV,ir130,go_sem,simprocAttr]
  have w1 : IntKind.i64.wrap ((l.length : Int) - (b.length : Int)) = (l.length : Int) - b.length := wrap_in (by omega) (by omega)
  simp only [byteR_len,decide_eq_false (show ¬ ((a : Nat) : Int) < 0 by omega),decide_eq_false (show ¬ ((b.length : Nat) : Int) > ((l.length : Nat) : Int) by omega),w1,decide_eq_false (show ¬ ((a : Nat) : Int) > (l.length : Int) - (b.length : Int) by omega),go_sem,simprocAttr]
  have hc := cloneB_tri (G := G) b (by omega)
  simp only [bytesV] at hc
  refine WD_calld (hc) rfl rfl rfl rfl ?_; simp only [go_sem,simprocAttr]
  refine W_opsD_end rfl ?_
  simp only [go_sem,simprocAttr]
  refine BackR [] [0, 1, 3] [] (vs := [.int 0]) rfl rfl (by decide) (by simp) (by simp) ?_ ?_ ?_
  · simp only [dskW,wtR]
    rfl
  · simp only [dskW,wtR,List.all_cons,List.all_nil,go_sem,simprocAttr]
  · simp [oneOr,argR,LV.int]
def dwS (l : List Int) (s : Int) (a : Nat) (b : List Int) (k : Nat) : St := ⟨[(3, .int (if k = 0 then 0 else (b.length : Int))), (11, .sl 2 1 2 0 1), (12, .int 1), (13, .int k)], (dskW l s a b).map some⟩
theorem diskWaits_tri (l : List Int) (s : Int) (a : Nat) (b : List Int) (hb : b.length ≤ 1000000) : Tri Tryz.prog G 186 [.ptr 0 0] (dskW l s a b) (.int b.length) (dskW l s a b) := by
  refine tri_WP Tryz.func186 (by decide) irOk186 (Nat.le_of_ble_eq_true rfl) rfl rfl rfl ?_
  simp only [ir186,go_sem,simprocAttr]
  simp only [dskW,wtR,go_sem,simprocAttr]
  refine W_loopI [3, 11, 12, 13] [] (fun k : Nat => k ≤ 1) (fun k => 1 - k) (dwS l s a b) 0 ?_ (Nat.zero_le _) (fun k hk => ?_)
  · simp only [dwS,dskW,wtR,List.map_cons,List.map_nil,go_sem,simprocAttr]
  simp only [dwS,dskW,wtR,List.map_cons,List.map_nil,go_sem,simprocAttr]
  match k, hk with
  | 0, _ =>
    have w1 : IntKind.i64.wrap (0 + (b.length : Int)) = b.length := by rw [wrap_in (by omega) (by omega)]; omega
    simp only [show decide (((0 : Nat) : Int) < 1) = true from rfl,byteR_len,w1,show (0 : Nat) = 0 from rfl,if_true,go_sem,simprocAttr]
    refine W_lpI 1 ?_ ?_ (by decide) (by decide)
    · simp only [go_sem,simprocAttr]
    · simp only [dwS,dskW,wtR,List.map_cons,List.map_nil,show IntKind.i64.wrap 1 = 1 from rfl,show ¬ (1 : Nat) = 0 by decide,if_false,go_sem,simprocAttr]
  | 1, _ =>
    simp only [show decide (((1 : Nat) : Int) < 1) = false from rfl,show ¬ (1 : Nat) = 0 by decide,if_false,go_sem,simprocAttr]
end Dv

namespace Dv
open Go Go.Proofs
variable {G : Nat → Option (List DV)}

def ir120 : Nat × C × List RV := (41,
(.seq (.seq (.reg [qm 7 0,
 qo 8 (.nck (.t 7)),
 qo 9 (.fad 1 (.t 8)),
 qo 10 (.ld1 (.t 9)),
 qo 11 (.len (.t 10)),
 qo 12 (.mv (qk 0))])
 (.block 0 (.loop (.seq (.reg [qo 13 (.bin .lss (.t 12) (.t 11))])
 (.seq (.cond (.t 13) .skip
 (.exit 0))
 (.seq (.block 1 (.seq (.reg [qo 14 (.ixa 2 (.t 10) (.t 12)),
 qo 15 (.ldn 2 (.t 14)),
 qo 5 (.new 227 [q0,(.val (.slice none 0 0))]),
 qn (.st 2 (.t 5) (.t 15))])
 (.seq (.reg [qm 16 1,
 qo 17 (.fad 1 (.t 5)),
 qo 18 (.ld1 (.t 17)),
 qo 19 (.len (.t 18)),
 qo 20 (.min (.t 16) (.t 19)),
 qo 21 (.max (qk 0) (.t 20)),
 qm 6 21])
 (.seq (.regD [qm 22 0,
 qd 23 (.nck (.t 22)) [0],
 qd 24 (.fad 0 (.t 23)) [1,0],
 qd 25 (.ld1 (.t 24)) [2,1,0],
 qo 26 (.fad 0 (.t 5)),
 qd 27 (.ld1 (.t 26)) [4],
 qd 28 (.sli 1 (.t 25) (some (.t 27)) none none) [3,2,1,0,5,4],
 qo 29 (.fad 1 (.t 5)),
 qd 30 (.ld1 (.t 29)) [7],
 qm 31 6,
 qd 32 (.sli 1 (.t 30) none (some (.t 31)) none) [8,7,9],
 qd 33 (.more (.cpy (.t 28) (.t 32))) [6,3,2,1,0,5,4,10,8,7,9]])
 (.reg [qm 34 1,
 qm 35 6,
 qo 36 (.bin .sub (.t 34) (.t 35)),
 qm 1 36])))))
 (.reg [qo 37 (.bin .add (.t 12) (qk 1)),
 qm 12 37])))))))
 (.reg [qm 38 0,
 qo 39 (.nck (.t 38)),
 qo 40 (.fad 1 (.t 39)),
 qn (.st 1 (.t 40) (.c (.val (.slice none 0 0))))])),
[])
theorem irOk120 : convFn Tryz.prog Tryz.f120 = some ir120 := by kernel_rfl
def ir96 : Nat × C × List RV := (12,
(.seq (.seq (.reg [qm 2 0,
 qo 3 (.isnp false (.t 2))])
 (.cond (.t 3) .ret
 .skip))
 (.seq (.reg [qm 4 0,
 qm 5 0,
 qo 6 (.call (.f 186) [(.t 5)]),
 qo 7 (.call (.f 120) [(.t 4),(.t 6)])])
 (.reg [qm 8 0,
 qo 9 (.nck (.t 8)),
 qo 10 (.fad 2 (.t 9)),
 qo 11 (.call (.f 127) [(.t 10),(qk 1)])]))),
[])
theorem irOk96 : convFn Tryz.prog Tryz.f96 = some ir96 := by kernel_rfl
def ir58 : Nat × C × List RV := (31,
(.seq (.reg [qo 2 (.mv (.c (.val (.slice none 0 0))))])
 (.seq (.seq (.reg [qm 6 0,
 qo 7 (.isnp false (.t 6))])
 (.cond (.t 7) (.seq (.reg [qo 2 (.mv (.c (.val (.slice none 0 0))))])
 .ret)
 .skip))
 (.seq (.reg [qm 8 0,
 qo 9 (.nck (.t 8)),
 qo 10 (.fad 0 (.t 9)),
 qo 11 (.ld1 (.t 10)),
 qo 12 (.call (.f 84) [(.t 11)]),
 qm 3 12])
 (.seq (.seq (.reg [qm 13 0,
 qo 14 (.nck (.t 13)),
 qo 15 (.fad 1 (.t 14)),
 qo 16 (.ld1 (.t 15)),
 qo 17 (.len (.t 16)),
 qo 18 (.mv (qk 0))])
 (.block 0 (.loop (.seq (.reg [qo 19 (.bin .lss (.t 18) (.t 17))])
 (.seq (.cond (.t 19) .skip
 (.exit 0))
 (.seq (.block 1 (.seq (.reg [qo 20 (.ixa 2 (.t 16) (.t 18)),
 qo 21 (.ldn 2 (.t 20)),
 qo 5 (.new 227 [q0,(.val (.slice none 0 0))]),
 qn (.st 2 (.t 5) (.t 21))])
 (.regD [qm 22 3,
 qo 23 (.fad 0 (.t 5)),
 qd 24 (.ld1 (.t 23)) [1],
 qd 25 (.sli 1 (.t 22) (some (.t 24)) none none) [0,2,1],
 qo 26 (.fad 1 (.t 5)),
 qd 27 (.ld1 (.t 26)) [4],
 qd 28 (.more (.cpy (.t 25) (.t 27))) [3,0,2,1,5,4]])))
 (.reg [qo 29 (.bin .add (.t 18) (qk 1)),
 qm 18 29])))))))
 (.seq (.reg [qm 30 3,
 qm 2 30])
 .ret))))),
[(.t 2)])
theorem irOk58 : convFn Tryz.prog Tryz.f58 = some ir58 := by kernel_rfl

def keepN (keep : Int) (b : List Int) : Nat := (max 0 (min keep b.length)).toNat
def ddS (l : List Int) (s : Int) (a : Nat) (b : List Int) (keep : Int) (k : Nat) : St := ⟨[(0, .ptr 0 0), (1, .int (if k = 0 then keep else keep - keepN keep b)), (10, .sl 2 1 2 0 1), (11, .int 1), (12, .int k)], if k = 0 then (dskW l s a b).map some else (dskW (overB l a (b.take (keepN keep b))) s a b).map some⟩
set_option maxHeartbeats 1000000 in
theorem diskDone_tri (l : List Int) (s : Int) (a : Nat) (b : List Int) (h : a + b.length ≤ l.length) (hl : 1 ≤ l.length ∧ l.length ≤ 65536) (keep : Int) (hk : -1000000000 ≤ keep ∧ keep ≤ 1000000000) : Tri Tryz.prog G 120 [.ptr 0 0, .int keep] (dskW l s a b) (.tup []) (dskO (overB l a (b.take (keepN keep b))) s ++ [.dat 227 2 (wtR a b)]) := by
  obtain ⟨m, hm⟩ : ∃ m, l.length = m + 1 := ⟨l.length - 1, by omega⟩
  refine tri_W Tryz.func120 (by decide) irOk120 (Nat.le_of_ble_eq_true rfl) ?_
  simp only [dskW,wtR,ir120,go_sem,simprocAttr]
  refine W_loopI [0, 1, 10, 11, 12] [] (fun k : Nat => k ≤ 1) (fun k => 1 - k) (ddS l s a b keep) 0 ?_ (Nat.zero_le _) (fun k hk => ?_)
  · simp only [ddS,dskW,wtR,List.map_cons,List.map_nil,go_sem,simprocAttr]
  simp only [ddS,dskW,wtR,List.map_cons,List.map_nil,go_sem,simprocAttr]
  match k, hk with
  | 0, _ =>
    have hkn : (if (if (b.length : Int) < keep then (b.length : Int) else keep) > 0 then (if (b.length : Int) < keep then (b.length : Int) else keep) else 0) = ((keepN keep b : Nat) : Int) := by unfold keepN; split <;> split <;> omega
    have hkl : keepN keep b ≤ b.length := by unfold keepN; omega
    have c1 : a ≤ m + 1 ∧ m + 1 ≤ m + 1 := by omega
    have c2 : 0 ≤ keepN keep b ∧ keepN keep b ≤ b.length ∧ b.length ≤ b.length := by omega
    have c3 : (0 : Int) ≤ ((keepN keep b : Nat) : Int) := by omega
    simp only [show decide (((0 : Nat) : Int) < 1) = true from rfl,byteR_len,hm,hkn,show (0 : Nat) = 0 from rfl,if_true,c1,c2,c3,Int.toNat_natCast,byteR_take,List.drop_zero,Nat.sub_zero,go_sem,simprocAttr]
    have hbt : (b.take (keepN keep b)).length ≤ b.length := by rw [List.length_take]; omega
    have c4 : a + (m + 1 - a) ≤ m + 1 ∧ (b.take (keepN keep b)).length ≤ m + 1 - a ∧ byteR l ≠ [] := ⟨by omega, by omega, fun e => by have := congrArg List.length e; rw [byteR_len, hm] at this; exact absurd this (by simp)⟩
    have hov : byteR (l.take a) ++ byteR (b.take (keepN keep b)) ++ byteR (l.drop (a + (b.take (keepN keep b)).length)) = byteR (overB l a (b.take (keepN keep b))) := by rw [← byteR_app, ← byteR_app]; rfl
    have hol : (overB l a (b.take (keepN keep b))).length = m + 1 := by rw [overB_len (by omega), hm]
    have w1 : IntKind.i64.wrap (keep - ((keepN keep b : Nat) : Int)) = keep - ((keepN keep b : Nat) : Int) := wrap_in (by omega) (by omega)
    rw [if_pos c4, byteR_drop, hov]
    simp only [go_sem,simprocAttr]
    refine W_opsD_end rfl ?_
    simp only [w1,go_sem,simprocAttr]
    refine W_lpI 1 ?_ ?_ (by decide) (by decide)
    · simp only [go_sem,simprocAttr]
    · simp only [ddS,dskW,wtR,hol,List.map_cons,List.map_nil,show IntKind.i64.wrap 1 = 1 from rfl,show ¬ (1 : Nat) = 0 by decide,if_false,go_sem,simprocAttr]
  | 1, _ =>
    simp only [show decide (((1 : Nat) : Int) < 1) = false from rfl,show ¬ (1 : Nat) = 0 by decide,if_false,go_sem,simprocAttr]
    refine BackR [] [0, 1, 2] [] (vs := []) rfl rfl (by decide) (by simp) (by simp) ?_ ?_ ?_
    · simp only [dskO,wtR]
      rfl
    · simp only [dskO,wtR,List.all_cons,List.all_nil,List.cons_append,List.nil_append,go_sem,simprocAttr]
    · simp [oneOr,argR,argRs]
theorem keepN_all (b : List Int) : keepN b.length b = b.length := by unfold keepN; omega
theorem diskSync_tri (l : List Int) (s : Int) (a : Nat) (b : List Int) (h : a + b.length ≤ l.length) (hl : 1 ≤ l.length ∧ l.length ≤ 65536) : Tri Tryz.prog G 96 [.ptr 0 0] (dskW l s a b) (.tup []) (dskO (overB l a b) (IntKind.i64.wrap (s + 1)) ++ [.dat 227 2 (wtR a b)]) := by
  have hd := diskDone_tri (G := G) l s a b h hl b.length (by omega)
  rw [keepN_all, List.take_length] at hd
  have hw := diskWaits_tri (G := G) l s a b (by omega)
  have ha := atAdd_tri (G := G) (overB l a b) s
  simp only [dskW,dskO,wtR,List.cons_append,List.nil_append] at hd hw ha
  refine tri_WP Tryz.func96 (by decide) irOk96 (Nat.le_of_ble_eq_true rfl) rfl rfl rfl ?_
  simp only [ir96,go_sem,simprocAttr]
  simp only [dskW,dskO,wtR,List.cons_append,List.nil_append,go_sem,simprocAttr]
  refine W_callo [0, 1, 2] (hw) rfl (by simp only [argRs,argR,List.map_cons,List.map_nil,go_sem,simprocAttr]) (by decide) (by simp only [go_sem,simprocAttr]) (by simp only [go_sem,simprocAttr,List.all_cons,List.all_nil]) (by simp) ?_; simp only [go_sem,simprocAttr]
  refine W_callo [0, 1, 2] (hd) rfl (by simp only [argRs,argR,List.map_cons,List.map_nil,go_sem,simprocAttr]) (by decide) (by simp only [go_sem,simprocAttr]) (by simp only [go_sem,simprocAttr,List.all_cons,List.all_nil]) (by simp) ?_; simp only [go_sem,simprocAttr]
  refine W_callo [0, 1] (ha) rfl (by simp only [argRs,argR,List.map_cons,List.map_nil,go_sem,simprocAttr]) (by decide) (by simp only [go_sem,simprocAttr]) (by simp only [go_sem,simprocAttr,List.all_cons,List.all_nil]) (by simp) ?_; simp only [go_sem,simprocAttr]
theorem cloneH_tri (l : List Int) (hl : 1 ≤ l.length ∧ l.length ≤ 1000000) : Tri Tryz.prog G 84 [.sl 0 l.length 1 0 l.length] [.dat 5 1 (byteR l)] (.sl 1 l.length 1 0 l.length) [.dat 5 1 (byteR l), .dat 5 1 (byteR l)] := by
  obtain ⟨m, hm⟩ : ∃ m, l.length = m + 1 := ⟨l.length - 1, by omega⟩
  have hr : (byteR l).length = m + 1 := by rw [byteR_len, hm]
  have ht : (byteR l).take (m + 1) = byteR l := List.take_of_length_le (by omega)
  rw [hm]
  refine tri_W Tryz.func84 (by decide) irOk84 (Nat.le_of_ble_eq_true rfl) ?_
  simp only [ir84,go_sem,simprocAttr]
  have hb : (m + 1) * 1 ≤ 70368744177664 := by omega
  simp only [hr,ht,Nat.le_refl,true_and,go_sem,simprocAttr]
  simp only [hr,hb,go_sem,simprocAttr]
  refine BackR [] [0, 1] [] (vs := [.sl 1 (m + 1) 1 0 (m + 1)]) rfl rfl (by decide) (by simp) (by simp) rfl rfl ?_
  simp [oneOr,argR]
theorem diskBytes_tri (l : List Int) (s : Int) (hl : 1 ≤ l.length ∧ l.length ≤ 65536) : Tri Tryz.prog G 58 [.ptr 0 0] (dskO l s) (bytesV l) (dskO l s) := by
  obtain ⟨m, hm⟩ : ∃ m, l.length = m + 1 := ⟨l.length - 1, by omega⟩
  refine tri_W Tryz.func58 (by decide) irOk58 (Nat.le_of_ble_eq_true rfl) ?_
  simp only [dskO,ir58,go_sem,simprocAttr]
  have hc := cloneH_tri (G := G) l (by omega)
  refine W_callo [1] (hc) rfl (by simp only [argRs,argR,List.map_cons,List.map_nil,go_sem,simprocAttr]) (by decide) (by simp only [go_sem,simprocAttr]) (by simp only [go_sem,simprocAttr,List.all_cons,List.all_nil]) (by simp) ?_; simp only [go_sem,simprocAttr]
  refine W_loopI [3, 16, 17, 18] [] (fun k : Nat => k = 0) (fun k => 1 - k) (fun _ => ⟨[(3, .sl 2 l.length 1 0 l.length), (16, .d (.val (.slice none 0 0))), (17, .int 0), (18, .int 0)], (dskO l s ++ [LObj.dat 5 1 (byteR l)]).map some⟩) 0 ?_ rfl (fun k hk => ?_)
  · simp only [dskO,List.cons_append,List.nil_append,List.map_cons,List.map_nil,go_sem,simprocAttr]
  simp only [dskO,List.cons_append,List.nil_append,List.map_cons,List.map_nil,go_sem,simprocAttr]
  refine BackR [] [0, 1] [2] (vs := [.sl 2 l.length 1 0 l.length]) rfl rfl (by decide) (by simp) (by simp [St.obj,objL,adopt]) rfl rfl ?_
  simp [St.obj,objL,oneOr,argR,rowsAt,bytesV,List.take_of_length_le,byteR_len,adopt]
end Dv

namespace Dv
open Go Go.Proofs
variable {G : Nat → Option (List DV)}

def getF (b : List Int) (a : Nat) : List Int × Nat × Int :=
  if a > b.length then ([], a, 2) else if a = b.length ∨ b.getD a 0 = 0 then ([], a, 0) else
  match getN b a with
  | none => ([], a, 2)
  | some (n, fr) =>
    if n > 4000 ∨ n + 4 ≥ (b.length : Int) - fr then ([], a, 2)
    else if isSum ((b.drop fr).take (n.toNat + 4)) = false ∨ b.getD (fr + n.toNat + 4) 0 ≠ 1 then ([], a, 2)
    else ((b.drop fr).take n.toNat, fr + n.toNat + 5, 1)
def getFV (q : List Int × Nat × Int) : LV := .tup [bytesV q.1, .int q.2.1, .int q.2.2]

def ir226 : Nat × C × List RV := (83,
(.seq (.reg [qo 4 (.mv (.c (.val (.slice none 0 0)))),
 qo 5 (.mv (qk 0)),
 qo 6 (.mv (qk 0))])
 (.seq (.seq (.reg [qm 11 1,
 qo 12 (.bin .lss (.t 11) (qk 0)),
 qm 13 12,
 qg 14 (.mv (.t 1)) 13 false,
 qg 15 (.mv (.t 0)) 13 false,
 qg 16 (.len (.t 15)) 13 false,
 qg 17 (.bin .gtr (.t 14) (.t 16)) 13 false,
 qo 18 (.pick (.t 13) qt (.t 17))])
 (.cond (.t 18) (.seq (.reg [qm 19 1,
 qo 4 (.mv (.c (.val (.slice none 0 0)))),
 qm 5 19,
 qo 6 (.mv (qk 2))])
 .ret)
 .skip))
 (.seq (.seq (.reg [qm 20 1,
 qm 21 0,
 qo 22 (.len (.t 21)),
 qo 23 (.bin .eql (.t 20) (.t 22)),
 qm 24 23,
 qg 25 (.mv (.t 0)) 24 false,
 qg 26 (.mv (.t 1)) 24 false,
 qg 27 (.ixa 1 (.t 25) (.t 26)) 24 false,
 qg 28 (.ld1 (.t 27)) 24 false,
 qg 29 (.bin .eql (.t 28) (.c (.val (.int .u8 0)))) 24 false,
 qo 30 (.pick (.t 24) qt (.t 29))])
 (.cond (.t 30) (.seq (.reg [qm 31 1,
 qo 4 (.mv (.c (.val (.slice none 0 0)))),
 qm 5 31,
 qo 6 (.mv (qk 0))])
 .ret)
 .skip))
 (.seq (.reg [qm 33 0,
 qm 34 1,
 qo 35 (.call (.f 172) [(.t 33),(.t 34)]),
 qm 32 35,
 qo 36 (.ext (.t 32) 0),
 qo 37 (.ext (.t 32) 1),
 qo 38 (.ext (.t 32) 2),
 qm 7 36,
 qm 8 37,
 qm 9 38])
 (.seq (.seq (.reg [qm 39 9,
 qo 40 (.not (.t 39)),
 qm 41 40,
 qg 42 (.mv (.t 7)) 41 false,
 qg 43 (.bin .gtr (.t 42) (qk 4000)) 41 false,
 qo 44 (.pick (.t 41) qt (.t 43)),
 qm 45 44,
 qg 46 (.mv (.t 7)) 45 false,
 qg 47 (.bin .add (.t 46) (qk 4)) 45 false,
 qg 48 (.mv (.t 0)) 45 false,
 qg 49 (.len (.t 48)) 45 false,
 qg 50 (.mv (.t 8)) 45 false,
 qg 51 (.bin .sub (.t 49) (.t 50)) 45 false,
 qg 52 (.bin .geq (.t 47) (.t 51)) 45 false,
 qo 53 (.pick (.t 45) qt (.t 52))])
 (.cond (.t 53) (.seq (.reg [qm 54 1,
 qo 4 (.mv (.c (.val (.slice none 0 0)))),
 qm 5 54,
 qo 6 (.mv (qk 2))])
 .ret)
 .skip))
 (.seq (.reg [qm 55 8,
 qm 56 7,
 qo 57 (.bin .add (.t 55) (.t 56)),
 qm 10 57])
 (.seq (.seq (.reg [qm 58 0,
 qm 59 8,
 qm 60 10,
 qo 61 (.bin .add (.t 60) (qk 4)),
 qo 62 (.sli 1 (.t 58) (some (.t 59)) (some (.t 61)) none),
 qo 63 (.call (.f 271) [(.t 62)]),
 qo 64 (.not (.t 63)),
 qm 65 64,
 qg 66 (.mv (.t 0)) 65 false,
 qg 67 (.mv (.t 10)) 65 false,
 qg 68 (.bin .add (.t 67) (qk 4)) 65 false,
 qg 69 (.ixa 1 (.t 66) (.t 68)) 65 false,
 qg 70 (.ld1 (.t 69)) 65 false,
 qg 71 (.bin .neq (.t 70) (.c (.val (.int .u8 1)))) 65 false,
 qo 72 (.pick (.t 65) qt (.t 71))])
 (.cond (.t 72) (.seq (.reg [qm 73 1,
 qo 4 (.mv (.c (.val (.slice none 0 0)))),
 qm 5 73,
 qo 6 (.mv (qk 2))])
 .ret)
 .skip))
 (.seq (.reg [qm 74 0,
 qm 75 8,
 qm 76 10,
 qm 77 10,
 qo 78 (.sli 1 (.t 74) (some (.t 75)) (some (.t 76)) (some (.t 77))),
 qo 79 (.call (.f 84) [(.t 78)]),
 qm 80 10,
 qo 81 (.bin .add (.t 80) (qk 4)),
 qo 82 (.bin .add (.t 81) (qk 1)),
 qm 4 79,
 qm 5 82,
 qo 6 (.mv (qk 1))])
 .ret)))))))),
[(.t 4),(.t 5),(.t 6)])
theorem irOk226 : convFn Tryz.prog Tryz.f226 = some ir226 := by kernel_rfl
def ir167 : Nat × C × List RV := (26,
(.seq (.reg [qo 4 (.mv (.c (.val (.slice none 0 0)))),
 qo 5 (.mv (qk 0))])
 (.seq (.reg [qo 6 (.mv (.c (.val (.slice none 0 0))))])
 (.block 0 (.loop (.block 1 (.seq (.reg [qm 11 0,
 qm 12 1,
 qo 13 (.call (.f 226) [(.t 11),(.t 12)]),
 qm 10 13,
 qo 14 (.ext (.t 10) 0),
 qo 15 (.ext (.t 10) 1),
 qo 16 (.ext (.t 10) 2),
 qm 7 14,
 qm 8 15,
 qm 9 16])
 (.seq (.seq (.reg [qm 17 9,
 qo 18 (.bin .neq (.t 17) (qk 1))])
 (.cond (.t 18) (.seq (.reg [qm 19 6,
 qm 20 1,
 qm 4 19,
 qm 5 20])
 .ret)
 .skip))
 (.seq (.reg [qm 21 6,
 qm 22 7,
 qo 23 (.bsl 57 1 [(.t 22)]),
 qo 24 (.app 57 1 24 (.t 21) (.t 23)),
 qm 6 24])
 (.reg [qm 25 8,
 qm 1 25]))))))))),
[(.t 4),(.t 5)])
theorem irOk167 : convFn Tryz.prog Tryz.f167 = some ir167 := by kernel_rfl


set_option maxHeartbeats 1000000 in
theorem frameGet_tri (b : List Int) (hb : ∀ c ∈ b, 0 ≤ c ∧ c ≤ 255) (hl : b.length ≤ 1000000) (a : Nat) (ha : a ≤ 1000000) : Tri Tryz.prog G 226 [bytesV b, .int a] [] (getFV (getF b a)) [] := by
  have hlb : (byteR b).length = b.length := byteR_len b
  refine tri_W Tryz.func226 (by decide) irOk226 (Nat.le_of_ble_eq_true rfl) ?_
  simp only [bytesV,ir226,go_sem,simprocAttr]
  simp only [decide_eq_false (show ¬ ((a : Nat) : Int) < 0 by omega),hlb,go_sem,simprocAttr]
  by_cases h1 : a > b.length
  · have hf : getF b a = ([], a, 2) := if_pos h1
    simp only [decide_eq_true (show ((a : Nat) : Int) > ((b.length : Nat) : Int) by omega),go_sem,simprocAttr]
    exact BackZ [] rfl (by simp) (by simp [oneOr,St.get,getE,argR,argRs,hf,getFV,bytesV,byteR,LV.int])
  simp only [decide_eq_false (show ¬ ((a : Nat) : Int) > ((b.length : Nat) : Int) by omega),go_sem,simprocAttr]
  by_cases h2 : a = b.length
  · have hf : getF b a = ([], a, 0) := by unfold getF; rw [if_neg h1, if_pos (.inl h2)]
    simp only [show (((a : Nat) : Int) == ((b.length : Nat) : Int)) = true by rw [beq_iff_eq]; omega, hlb, go_sem, simprocAttr]
    exact BackZ [] rfl (by simp) (by simp [oneOr,St.get,getE,argR,argRs,hf,getFV,bytesV,byteR,LV.int])
  have hlt : a < b.length := by omega
  have hg := get_mapD (f := fun n : Int => [u8 n]) 0 hlt
  rw [show b.map (fun n : Int => [u8 n]) = byteR b from rfl] at hg
  simp only [show (((a : Nat) : Int) == ((b.length : Nat) : Int)) = false from beq_eq_false_iff_ne.2 (by omega),hlb,hg,u8,go_sem,simprocAttr]
  by_cases h3 : b.getD a 0 = 0
  · have hf : getF b a = ([], a, 0) := by unfold getF; rw [if_neg h1, if_pos (.inr h3)]
    simp only [h3,go_sem,simprocAttr]
    exact BackZ [] rfl (by simp) (by simp [oneOr,St.get,getE,argR,argRs,hf,getFV,bytesV,byteR,LV.int])
  simp only [beq_eq_false_iff_ne.2 h3,go_sem,simprocAttr]
  have hf0 : getF b a = match getN b a with
    | none => ([], a, 2)
    | some (n, fr) => if n > 4000 ∨ n + 4 ≥ (b.length : Int) - fr then ([], a, 2)
      else if isSum ((b.drop fr).take (n.toNat + 4)) = false ∨ b.getD (fr + n.toNat + 4) 0 ≠ 1 then ([], a, 2)
      else ((b.drop fr).take n.toNat, fr + n.toNat + 5, 1) := by
    show (if a > b.length then _ else _) = _
    rw [if_neg h1, if_neg (by omega)]
  have hn := getNum_tri (G := G) b hb hl a ha (getN b a) rfl
  simp only [bytesV] at hn
  cases hq : getN b a with
  | none =>
    rw [hq] at hn hf0
    simp only [numRes,rdX,rdP,Option.isSome] at hn
    refine W_calld (hn) rfl rfl rfl rfl ?_; simp only [go_sem,simprocAttr]
    exact BackZ [] rfl (by simp) (by simp [oneOr,St.get,getE,argR,argRs,hf0,getFV,bytesV,byteR,LV.int])
  | some q =>
  obtain ⟨n, fr⟩ := q
  have hr := getN_rng (fun c hc => (hb c hc).1) hq
  rw [hq] at hn hf0
  simp only [numRes,rdX,rdP,Option.isSome] at hn
  simp only at hf0
  refine W_calld (hn) rfl rfl rfl rfl ?_; simp only [go_sem,simprocAttr]
  by_cases h4 : n > 4000
  · rw [if_pos (.inl h4)] at hf0
    simp only [decide_eq_true h4,go_sem,simprocAttr]
    exact BackZ [] rfl (by simp) (by simp [oneOr,St.get,getE,argR,argRs,hf0,getFV,bytesV,byteR,LV.int])
  have w1 : IntKind.i64.wrap (n + 4) = n + 4 := wrap_in (by omega) (by omega)
  have w2 : IntKind.i64.wrap ((b.length : Int) - (fr : Int)) = (b.length : Int) - fr := wrap_in (by omega) (by omega)
  simp only [decide_eq_false h4,hlb,w1,w2,go_sem,simprocAttr]
  by_cases h5 : n + 4 ≥ (b.length : Int) - fr
  · rw [if_pos (.inr h5)] at hf0
    simp only [decide_eq_true h5,go_sem,simprocAttr]
    exact BackZ [] rfl (by simp) (by simp [oneOr,St.get,getE,argR,argRs,hf0,getFV,bytesV,byteR,LV.int])
  rw [if_neg (by omega)] at hf0
  obtain ⟨m, rfl⟩ := Int.eq_ofNat_of_zero_le hr.1
  rw [Int.toNat_natCast] at hf0
  have w3 : IntKind.i64.wrap ((fr : Int) + ((m : Nat) : Int)) = ((fr + m : Nat) : Int) := by rw [wrap_in (by omega) (by omega)]; omega
  have w4 : IntKind.i64.wrap (((fr + m : Nat) : Int) + 4) = ((fr + m + 4 : Nat) : Int) := by rw [wrap_in (by omega) (by omega)]; omega
  have w5 : IntKind.i64.wrap (((fr + m + 4 : Nat) : Int) + 1) = ((fr + m + 5 : Nat) : Int) := by rw [wrap_in (by omega) (by omega)]; omega
  have c1 : (0 : Int) ≤ ((fr + m + 4 : Nat) : Int) := by omega
  have c2 : fr ≤ fr + m + 4 ∧ fr + m + 4 ≤ b.length ∧ b.length ≤ b.length := by omega
  have e1 : fr + m + 4 - fr = m + 4 := by omega
  have hs := sumIs_tri (G := G) ((b.drop fr).take (m + 4)) (by rw [List.length_take, List.length_drop]; omega)
  simp only [bytesV] at hs
  simp only [decide_eq_false h5,w3,w4,c1,Int.toNat_natCast,hlb,c2,e1,byteR_drop,byteR_take,go_sem,simprocAttr]
  refine W_calld (hs) rfl rfl rfl rfl ?_; simp only [go_sem,simprocAttr]
  cases h6 : isSum ((b.drop fr).take (m + 4)) with
  | false =>
    rw [if_pos (.inl h6)] at hf0
    simp only [go_sem,simprocAttr]
    exact BackZ [] rfl (by simp) (by simp [oneOr,St.get,getE,argR,argRs,hf0,getFV,bytesV,byteR,LV.int])
  | true =>
  have hg2 := get_mapD (f := fun n : Int => [u8 n]) 0 (show fr + m + 4 < b.length by omega)
  rw [show b.map (fun n : Int => [u8 n]) = byteR b from rfl] at hg2
  simp only [w4,c1,Int.toNat_natCast,hg2,u8,go_sem,simprocAttr]
  by_cases h7 : b.getD (fr + m + 4) 0 = 1
  · rw [if_neg (by rw [h6, h7]; simp)] at hf0
    have c3 : fr ≤ fr + m ∧ fr + m ≤ fr + m ∧ fr + m ≤ b.length := by omega
    have e2 : fr + m - fr = m := by omega
    have hc := cloneB_tri (G := G) ((b.drop fr).take m) (by rw [List.length_take, List.length_drop]; omega)
    simp only [bytesV] at hc
    simp only [h7,bne_self_eq_false,hlb,c3,e2,byteR_drop,byteR_take,go_sem,simprocAttr]
    refine W_calld (hc) rfl rfl rfl rfl ?_; simp only [go_sem,simprocAttr]
    simp only [w4,w5,go_sem,simprocAttr]
    exact BackZ [] rfl (by simp) (by simp [oneOr,St.get,getE,argR,argRs,hf0,getFV,bytesV,LV.int])
  · rw [if_pos (.inr h7)] at hf0
    simp only [show (b.getD (fr + m + 4) 0 != 1) = true from bne_iff_ne.2 h7,go_sem,simprocAttr]
    exact BackZ [] rfl (by simp) (by simp [oneOr,St.get,getE,argR,argRs,hf0,getFV,bytesV,byteR,LV.int])
theorem getF_end {b : List Int} (hb : ∀ c ∈ b, 0 ≤ c) {a : Nat} (h : (getF b a).2.2 = 1) : a < (getF b a).2.1 ∧ (getF b a).2.1 ≤ b.length ∧ (getF b a).1.length ≤ 4000 := by
  unfold getF at h ⊢
  split at h
  · exact absurd h (by simp)
  rename_i h1
  rw [if_neg h1]
  split at h
  · exact absurd h (by simp)
  rename_i h2
  rw [if_neg h2]
  cases hq : getN b a with
  | none => rw [hq] at h; exact absurd h (by simp)
  | some q =>
  obtain ⟨n, fr⟩ := q
  have hr := getN_rng hb hq
  rw [hq] at h
  simp only at h ⊢
  split at h
  · exact absurd h (by simp)
  rename_i h3
  rw [if_neg h3]
  split at h
  · exact absurd h (by simp)
  rename_i h4
  rw [if_neg h4]
  refine ⟨by dsimp only; omega, by dsimp only; omega, ?_⟩
  rw [List.length_take, List.length_drop]
  omega
def allF (b : List Int) : Nat → List (List Int) → Nat → List (List Int) × Nat
  | 0, l, a => (l, a)
  | f + 1, l, a => if (getF b a).2.2 = 1 then allF b f (l ++ [(getF b a).1]) (getF b a).2.1 else (l, a)
def allS (b : List Int) (q : List (List Int) × Nat) : St := ⟨[(0, bytesV b), (1, .int q.2), (6, .sl 0 q.1.length 1 0 q.1.length)], [some (.dat 57 1 (concR q.1))]⟩
set_option maxHeartbeats 1000000 in
theorem frameAll_tri (b : List Int) (hb : ∀ c ∈ b, 0 ≤ c ∧ c ≤ 255) (hl : b.length ≤ 1000000) (a : Nat) (ha : a ≤ b.length) (R : List (List Int) × Nat) (hR : allF b (b.length + 1) [] a = R) : Tri Tryz.prog G 167 [bytesV b, .int a] [] (.tup [.d (.lst 1 (concR R.1)), .int R.2]) [] := by
  refine tri_W Tryz.func167 (by decide) irOk167 (Nat.le_of_ble_eq_true rfl) ?_
  simp only [bytesV,ir167,go_sem,simprocAttr]
  refine W_loopI [0, 1, 6] [.t 6 57 1] (fun q : List (List Int) × Nat => q.2 ≤ b.length ∧ q.1.length ≤ q.2 ∧ ∃ f, b.length - q.2 < f ∧ allF b f q.1 q.2 = R) (fun q => b.length - q.2) (allS b) ([], a) ?_ ⟨ha, Nat.zero_le _, _, by dsimp only; omega, hR⟩ ?_
  · simp only [allS,bytesV,concR,List.length_nil,List.map_nil,go_sem,simprocAttr]
  rintro ⟨l, x⟩ ⟨hx, hlx, f, hf, hA⟩
  dsimp only at hx hlx hf hA
  simp only [allS,bytesV,go_sem,simprocAttr]
  have hg := frameGet_tri (G := G) b hb hl x (by omega)
  simp only [bytesV,getFV] at hg
  refine W_calld (hg) rfl rfl rfl rfl ?_; simp only [go_sem,simprocAttr]
  obtain ⟨f, rfl⟩ : ∃ g, f = g + 1 := ⟨f - 1, by omega⟩
  unfold allF at hA
  by_cases h1 : (getF b x).2.2 = 1
  · rw [if_pos h1] at hA
    have he := getF_end (fun c hc => (hb c hc).1) h1
    have hcl : (concR l).length = l.length := by simp [concR]
    have hsn : concR l ++ [[DV.lst 1 (byteR (getF b x).1)]] = concR (l ++ [(getF b x).1]) := by simp [concR]
    have hcl2 : (concR (l ++ [(getF b x).1])).length * 24 ≤ 70368744177664 := by
      have : (concR (l ++ [(getF b x).1])).length = l.length + 1 := by simp [concR]
      omega
    simp only [h1,bne_self_eq_false,go_sem,simprocAttr]
    rw [hcl, hsn, if_pos ⟨rfl, hcl2⟩]
    simp only [go_sem,simprocAttr]
    refine W_lpI (l ++ [(getF b x).1], (getF b x).2.1) ?_ ?_ ⟨he.2.1, by simp; omega, f, by dsimp only; omega, hA⟩ (by dsimp only; omega)
    · simp only [go_sem,simprocAttr]
    · simp only [allS,bytesV,List.length_append,List.length_cons,List.length_nil,go_sem,simprocAttr]
  · rw [if_neg h1] at hA
    simp only [show ((getF b x).2.2 != 1) = true from bne_iff_ne.2 h1,go_sem,simprocAttr]
    subst hA
    exact BackZ [0] rfl (by simp [St.obj,objL]) (by simp [St.obj,objL,oneOr,St.get,getE,argR,argRs,rowsAt,concR,List.take_of_length_le,LV.int])
end Dv

namespace Dv
open Go Go.Proofs
variable {G : Nat → Option (List DV)}

def lgO (l : List Int) (s : Int) (fr sz us : Nat) : List LObj := [.box 245 [.ptr 1 0, .int fr, .int sz, .int us], .box 150 [.sl 2 l.length 1 0 l.length, .d (.val (.slice none 0 0)), .int s], .dat 5 1 (byteR l)]

def ir168 : Nat × C × List RV := (45,
(.seq (.regD [qm 5 0,
 qd 6 (.nck (.t 5)) [0],
 qd 7 (.fad 0 (.t 6)) [1,0],
 qd 8 (.ld1 (.t 7)) [2,1,0],
 qd 9 (.call (.f 58) [(.t 8)]) [3,2,1,0],
 qm 10 0,
 qd 11 (.nck (.t 10)) [5],
 qd 12 (.fad 1 (.t 11)) [6,5],
 qd 13 (.ld1 (.t 12)) [7,6,5],
 qm 14 1,
 qd 15 (.bin .add (.t 13) (.t 14)) [8,7,6,5,9],
 qm 16 0,
 qd 17 (.nck (.t 16)) [11],
 qd 18 (.fad 1 (.t 17)) [12,11],
 qd 19 (.ld1 (.t 18)) [13,12,11],
 qm 20 0,
 qd 21 (.nck (.t 20)) [15],
 qd 22 (.fad 2 (.t 21)) [16,15],
 qd 23 (.ld1 (.t 22)) [17,16,15],
 qd 24 (.bin .add (.t 19) (.t 23)) [14,13,12,11,18,17,16,15],
 qd 25 (.sli 1 (.t 9) (some (.t 15)) (some (.t 24)) none) [4,3,2,1,0,10,8,7,6,5,9,19,14,13,12,11,18,17,16,15],
 qd 26 (.call (.f 84) [(.t 25)]) [20,4,3,2,1,0,10,8,7,6,5,9,19,14,13,12,11,18,17,16,15],
 qd 4 (.mv (.t 26)) [21,20,4,3,2,1,0,10,8,7,6,5,9,19,14,13,12,11,18,17,16,15]])
 (.seq (.reg [qm 27 4,
 qn ((.more (.clr 1 [(.val (.int .u8 0))] (.t 27))))])
 (.seq (.regD [qm 28 0,
 qd 29 (.nck (.t 28)) [0],
 qd 30 (.fad 0 (.t 29)) [1,0],
 qd 31 (.ld1 (.t 30)) [2,1,0],
 qm 32 0,
 qd 33 (.nck (.t 32)) [4],
 qd 34 (.fad 1 (.t 33)) [5,4],
 qd 35 (.ld1 (.t 34)) [6,5,4],
 qm 36 1,
 qd 37 (.bin .add (.t 35) (.t 36)) [7,6,5,4,8],
 qm 38 4,
 qd 39 (.call (.f 130) [(.t 31),(.t 37),(.t 38)]) [3,2,1,0,9,7,6,5,4,8,10]])
 (.reg [qm 40 0,
 qo 41 (.nck (.t 40)),
 qo 42 (.fad 0 (.t 41)),
 qo 43 (.ld1 (.t 42)),
 qo 44 (.call (.f 96) [(.t 43)])])))),
[])
theorem irOk168 : convFn Tryz.prog Tryz.f168 = some ir168 := by kernel_rfl
def ir235 : Nat × C × List RV := (33,
(.seq (.reg [qo 4 (.mv qf)])
 (.seq (.regD [qm 5 0,
 qd 6 (.isnp true (.t 5)) [0],
 qd 7 (.mv (.t 6)) [1,0],
 qe 8 (.mv (.t 1)) 7 true [2,1,0],
 qe 9 (.bin .geq (.t 8) (qk 1)) 7 true [3,2,1,0],
 qd 10 (.pick (.t 7) (.t 9) qf) [2,1,0,4,3],
 qd 11 (.mv (.t 10)) [5,2,1,0,4,3],
 qe 12 (.mv (.t 1)) 11 true [6,5,2,1,0,4,3],
 qe 13 (.bin .leq (.t 12) (qk 4000)) 11 true [7,6,5,2,1,0,4,3],
 qd 14 (.pick (.t 11) (.t 13) qf) [6,5,2,1,0,4,3,8,7],
 qd 15 (.mv (.t 14)) [9,6,5,2,1,0,4,3,8,7],
 qe 16 (.mv (.t 1)) 15 true [10,9,6,5,2,1,0,4,3,8,7],
 qe 17 (.call (.f 230) [(.t 16)]) 15 true [11,10,9,6,5,2,1,0,4,3,8,7],
 qe 18 (.len (.t 17)) 15 true [12,11,10,9,6,5,2,1,0,4,3,8,7],
 qe 19 (.mv (.t 1)) 15 true [10,9,6,5,2,1,0,4,3,8,7],
 qe 20 (.bin .add (.t 18) (.t 19)) 15 true [13,12,11,10,9,6,5,2,1,0,4,3,8,7,14],
 qe 21 (.bin .add (.t 20) (qk 5)) 15 true [15,13,12,11,10,9,6,5,2,1,0,4,3,8,7,14],
 qe 22 (.mv (.t 0)) 15 true [10,9,6,5,2,1,0,4,3,8,7],
 qe 23 (.nck (.t 22)) 15 true [17,10,9,6,5,2,1,0,4,3,8,7],
 qe 24 (.fad 2 (.t 23)) 15 true [18,17,10,9,6,5,2,1,0,4,3,8,7],
 qe 25 (.ld1 (.t 24)) 15 true [19,18,17,10,9,6,5,2,1,0,4,3,8,7],
 qe 26 (.mv (.t 0)) 15 true [10,9,6,5,2,1,0,4,3,8,7],
 qe 27 (.nck (.t 26)) 15 true [21,10,9,6,5,2,1,0,4,3,8,7],
 qe 28 (.fad 3 (.t 27)) 15 true [22,21,10,9,6,5,2,1,0,4,3,8,7],
 qe 29 (.ld1 (.t 28)) 15 true [23,22,21,10,9,6,5,2,1,0,4,3,8,7],
 qe 30 (.bin .sub (.t 25) (.t 29)) 15 true [20,19,18,17,10,9,6,5,2,1,0,4,3,8,7,24,23,22,21],
 qe 31 (.bin .leq (.t 21) (.t 30)) 15 true [16,15,13,12,11,10,9,6,5,2,1,0,4,3,8,7,14,25,20,19,18,17,24,23,22,21],
 qd 32 (.pick (.t 15) (.t 31) qf) [10,9,6,5,2,1,0,4,3,8,7,26,16,15,13,12,11,14,25,20,19,18,17,24,23,22,21],
 qd 4 (.mv (.t 32)) [27,10,9,6,5,2,1,0,4,3,8,7,26,16,15,13,12,11,14,25,20,19,18,17,24,23,22,21]])
 .ret)),
[(.t 4)])
theorem irOk235 : convFn Tryz.prog Tryz.f235 = some ir235 := by kernel_rfl
def ir184 : Nat × C × List RV := (51,
(.seq (.reg [qo 4 (.mv (qk 0))])
 (.seq (.block 0 (.seq (.reg [qm 7 0,
 qo 8 (.isnp false (.t 7)),
 qm 9 8,
 qg 10 (.mv (.t 1)) 9 false,
 qg 11 (.len (.t 10)) 9 false,
 qg 12 (.bin .eql (.t 11) (qk 0)) 9 false,
 qo 13 (.pick (.t 9) qt (.t 12)),
 qm 14 13,
 qg 15 (.mv (.t 1)) 14 false,
 qg 16 (.len (.t 15)) 14 false,
 qg 17 (.bin .gtr (.t 16) (qk 4000)) 14 false,
 qo 18 (.pick (.t 14) qt (.t 17)),
 qm 6 18])
 (.cond (.t 6) (.seq (.reg [qo 4 (.mv (qk 1))])
 .ret)
 (.seq (.reg [qm 20 0,
 qm 21 1,
 qo 22 (.len (.t 21)),
 qo 23 (.call (.f 235) [(.t 20),(.t 22)]),
 qo 24 (.not (.t 23)),
 qm 19 24])
 (.cond (.t 19) (.seq (.reg [qo 4 (.mv (qk 3))])
 .ret)
 .skip)))))
 (.seq (.reg [qm 25 1,
 qo 26 (.call (.f 231) [(.t 25)]),
 qm 5 26])
 (.seq (.regD [qm 27 0,
 qd 28 (.nck (.t 27)) [0],
 qd 29 (.fad 0 (.t 28)) [1,0],
 qd 30 (.ld1 (.t 29)) [2,1,0],
 qm 31 0,
 qd 32 (.nck (.t 31)) [4],
 qd 33 (.fad 1 (.t 32)) [5,4],
 qd 34 (.ld1 (.t 33)) [6,5,4],
 qm 35 0,
 qd 36 (.nck (.t 35)) [8],
 qd 37 (.fad 3 (.t 36)) [9,8],
 qd 38 (.ld1 (.t 37)) [10,9,8],
 qd 39 (.bin .add (.t 34) (.t 38)) [7,6,5,4,11,10,9,8],
 qm 40 5,
 qd 41 (.call (.f 130) [(.t 30),(.t 39),(.t 40)]) [3,2,1,0,12,7,6,5,4,11,10,9,8,13]])
 (.seq (.reg [qm 42 0,
 qo 43 (.nck (.t 42)),
 qo 44 (.fad 3 (.t 43)),
 qo 45 (.ld1 (.t 44)),
 qm 46 5,
 qo 47 (.len (.t 46)),
 qo 48 (.bin .add (.t 45) (.t 47)),
 qo 49 (.nck (.t 42)),
 qo 50 (.fad 3 (.t 49)),
 qn (.st 1 (.t 50) (.t 48))])
 (.seq (.reg [qo 4 (.mv (qk 0))])
 .ret)))))),
[(.t 4)])
theorem irOk184 : convFn Tryz.prog Tryz.f184 = some ir184 := by kernel_rfl
def ir86 : Nat × C × List RV := (9,
(.seq (.seq (.reg [qm 2 0,
 qo 3 (.isnp false (.t 2))])
 (.cond (.t 3) .ret
 .skip))
 (.seq (.reg [qm 4 0,
 qo 5 (.call (.f 168) [(.t 4),(qk 0)])])
 (.reg [qm 6 0,
 qo 7 (.nck (.t 6)),
 qo 8 (.fad 3 (.t 7)),
 qn (.st 1 (.t 8) (qk 0))]))),
[])
theorem irOk86 : convFn Tryz.prog Tryz.f86 = some ir86 := by kernel_rfl


theorem byteR_zero (n : Nat) : byteR (List.replicate n 0) = List.replicate n [u8 0] := by simp [byteR]
set_option maxHeartbeats 1000000 in
theorem noughts_tri (l : List Int) (s : Int) (fr sz us a : Nat) (hf : fr + sz ≤ l.length) (ha : a < sz) (hl : 1 ≤ l.length ∧ l.length ≤ 65536) : Tri Tryz.prog G 168 [.ptr 0 0, .int a] (lgO l s fr sz us) (.tup []) (lgO (overB l (fr + a) (List.replicate (sz - a) 0)) (IntKind.i64.wrap (s + 1)) fr sz us) := by
  have hb := diskBytes_tri (G := G) l s hl
  have hk := diskWrite_tri (G := G) l s (fr + a) (List.replicate (sz - a) 0) (by rw [List.length_replicate]; omega) hl.2
  have hs := diskSync_tri (G := G) l s (fr + a) (List.replicate (sz - a) 0) (by rw [List.length_replicate]; omega) hl
  simp only [dskO,dskW,wtR,bytesV,byteR_zero,List.length_replicate,List.cons_append,List.nil_append] at hb hk hs
  have w1 : IntKind.i64.wrap ((fr : Int) + (a : Int)) = ((fr + a : Nat) : Int) := by rw [wrap_in (by omega) (by omega)]; omega
  have w2 : IntKind.i64.wrap ((fr : Int) + (sz : Int)) = ((fr + sz : Nat) : Int) := by rw [wrap_in (by omega) (by omega)]; omega
  have c1 : fr + a ≤ fr + sz ∧ fr + sz ≤ l.length ∧ l.length ≤ l.length := by omega
  have c2 : (0 : Int) ≤ ((fr + sz : Nat) : Int) := by omega
  have c3 : (0 : Int) ≤ ((fr + a : Nat) : Int) := by omega
  have e1 : fr + sz - (fr + a) = sz - a := by omega
  have hc := cloneBO_tri (G := G) ((l.drop (fr + a)).take (sz - a)) (by rw [List.length_take, List.length_drop]; omega)
  have hcl : ((l.drop (fr + a)).take (sz - a)).length = sz - a := by rw [List.length_take, List.length_drop]; omega
  rw [hcl] at hc
  simp only [bytesV] at hc
  refine tri_W Tryz.func168 (by decide) irOk168 (Nat.le_of_ble_eq_true rfl) ?_
  simp only [lgO,ir168,go_sem,simprocAttr]
  refine WD_callo [1, 2] (hb) rfl (by simp only [argRs,argR,List.map_cons,List.map_nil,go_sem,simprocAttr]) (by decide) (by simp only [go_sem,simprocAttr]) (by simp only [go_sem,simprocAttr,List.all_cons,List.all_nil]) (by simp) ?_; simp only [go_sem,simprocAttr]
  simp only [w1,w2,c1,c2,c3,e1,Int.toNat_natCast,byteR_len,byteR_drop,byteR_take,go_sem,simprocAttr]
  refine WD_calln hc rfl rfl rfl ?_
  simp only [go_sem,simprocAttr]
  refine W_opsD_end rfl ?_
  simp only [go_sem,simprocAttr]
  have c4 : sz - a = (byteR ((l.drop (fr + a)).take (sz - a))).length ∧ sz - a ≤ (byteR ((l.drop (fr + a)).take (sz - a))).length ∧ 0 < sz - a := by rw [byteR_len, hcl]; omega
  have hdr : (byteR ((l.drop (fr + a)).take (sz - a))).drop (sz - a) = [] := List.drop_eq_nil_of_le (by rw [byteR_len, hcl]; exact Nat.le_refl _)
  have hob : (overB l (fr + a) (List.replicate (sz - a) 0)).length = l.length := overB_len (by rw [List.length_replicate]; omega)
  rw [if_pos c4]
  simp only [w1,hdr,List.append_nil,go_sem,simprocAttr]
  refine WD_callh [1, 2] [3] (hk) rfl (by simp [argRs,argR,rowsAt,objL,u8,byteR_len,hcl,go_sem,simprocAttr]) (by decide) (by decide) (by simp [objL]) (by simp only [go_sem,simprocAttr,u8,byteR_len,hcl]) (by simp only [go_sem,simprocAttr,List.all_cons,List.all_nil,u8,byteR_len,hcl]) (by simp) ?_; simp only [go_sem,simprocAttr,u8,byteR_len,hcl]
  refine W_opsD_end rfl ?_
  simp only [go_sem,simprocAttr]
  refine W_callo [1, 2, 4] (hs) rfl (by simp only [argRs,argR,List.map_cons,List.map_nil,go_sem,simprocAttr,u8]) (by decide) (by simp only [go_sem,simprocAttr,u8]) (by simp only [go_sem,simprocAttr,List.all_cons,List.all_nil,u8]) (by simp) ?_; simp only [go_sem,simprocAttr,u8]
  refine BackR [] [0, 1, 2] [] (vs := []) rfl rfl (by decide) (by simp) (by simp) rfl rfl ?_
  simp [oneOr,argR,argRs]

def roomL (sz us n : Nat) : Bool := decide (1 ≤ n ∧ n ≤ 4000 ∧ (numB n).length + n + 5 + us ≤ sz)
theorem logRoom_tri (l : List Int) (s : Int) (fr sz us n : Nat) (hu : us ≤ sz) (hs : sz ≤ 65536) (hn : n ≤ 1000000) : Tri Tryz.prog G 235 [.ptr 0 0, .int n] (lgO l s fr sz us) (.bool (roomL sz us n)) (lgO l s fr sz us) := by
  have hm := num_tri (G := G) (n : Int)
  have h9 := numB_le (n : Int)
  simp only [bytesV] at hm
  refine tri_WP Tryz.func235 (by decide) irOk235 (Nat.le_of_ble_eq_true rfl) rfl rfl rfl ?_
  simp only [ir235,go_sem,simprocAttr]
  simp only [lgO,go_sem,simprocAttr]
  by_cases h1 : 1 ≤ n
  case neg =>
    simp only [decide_eq_false (show ¬ ((n : Nat) : Int) ≥ 1 by omega),go_sem,simprocAttr]
    simp only [roomL,decide_eq_false (show ¬ (1 ≤ n ∧ n ≤ 4000 ∧ (numB n).length + n + 5 + us ≤ sz) by omega)]
  by_cases h2 : n ≤ 4000
  case neg =>
    simp only [decide_eq_true (show ((n : Nat) : Int) ≥ 1 by omega),decide_eq_false (show ¬ ((n : Nat) : Int) ≤ 4000 by omega),go_sem,simprocAttr]
    simp only [roomL,decide_eq_false (show ¬ (1 ≤ n ∧ n ≤ 4000 ∧ (numB n).length + n + 5 + us ≤ sz) by omega)]
  simp only [decide_eq_true (show ((n : Nat) : Int) ≥ 1 by omega),decide_eq_true (show ((n : Nat) : Int) ≤ 4000 by omega),go_sem,simprocAttr]
  refine WD_calld (hm) rfl rfl rfl rfl ?_; simp only [go_sem,simprocAttr]
  have w1 : IntKind.i64.wrap (((numB n).length : Int) + (n : Int)) = (((numB n).length + n : Nat) : Int) := by rw [wrap_in (by omega) (by omega)]; omega
  have w2 : IntKind.i64.wrap ((((numB n).length + n : Nat) : Int) + 5) = (((numB n).length + n + 5 : Nat) : Int) := by rw [wrap_in (by omega) (by omega)]; omega
  have w3 : IntKind.i64.wrap ((sz : Int) - (us : Int)) = ((sz - us : Nat) : Int) := by rw [wrap_in (by omega) (by omega)]; omega
  simp only [byteR_len,w1,w2,w3,go_sem,simprocAttr]
  exact decide_eq_decide.2 (by omega)
def lgW (l : List Int) (s : Int) (fr sz us a : Nat) (b : List Int) : List LObj := [.box 245 [.ptr 1 0, .int fr, .int sz, .int us], .box 150 [.sl 2 l.length 1 0 l.length, .sl 3 1 2 0 1, .int s], .dat 5 1 (byteR l), .dat 227 2 (wtR a b)]
theorem putF_len {p : List Int} (h : 1 ≤ p.length ∧ p.length ≤ 4000) : (putF p).length = (numB p.length).length + p.length + 5 := by
  unfold putF
  rw [if_neg (by omega)]
  simp only [List.length_append,sumB_len,List.length_cons,List.length_nil]
set_option maxHeartbeats 1000000 in
theorem logPut_tri (l : List Int) (s : Int) (fr sz us : Nat) (p : List Int) (hf : fr + sz ≤ l.length) (hu : us ≤ sz) (hl : 1 ≤ l.length ∧ l.length ≤ 65536) (hr : roomL sz us p.length = true) : Tri Tryz.prog G 184 [.ptr 0 0, bytesV p] (lgO l s fr sz us) (.int 0) (lgW l s fr sz (us + (putF p).length) (fr + us) (putF p)) := by
  have hr2 : 1 ≤ p.length ∧ p.length ≤ 4000 ∧ (numB p.length).length + p.length + 5 + us ≤ sz := of_decide_eq_true hr
  have hpl := putF_len ⟨hr2.1, hr2.2.1⟩
  have hq := logRoom_tri (G := G) l s fr sz us p.length hu (by omega) (by omega)
  have hp := framePut_tri (G := G) p (by omega)
  have hw := diskWrite_tri (G := G) l s (fr + us) (putF p) (by omega) hl.2
  rw [hr] at hq
  simp only [lgO,dskO,dskW,wtR,bytesV] at hq hp hw
  refine tri_W Tryz.func184 (by decide) irOk184 (Nat.le_of_ble_eq_true rfl) ?_
  simp only [lgO,bytesV,ir184,go_sem,simprocAttr]
  simp only [byteR_len,show (((p.length : Nat) : Int) == 0) = false from beq_eq_false_iff_ne.2 (by omega),go_sem,simprocAttr]
  simp only [byteR_len,decide_eq_false (show ¬ ((p.length : Nat) : Int) > 4000 by omega),go_sem,simprocAttr]
  refine W_callo [0, 1, 2] (hq) rfl (by simp only [argRs,argR,List.map_cons,List.map_nil,go_sem,simprocAttr]) (by decide) (by simp only [go_sem,simprocAttr]) (by simp only [go_sem,simprocAttr,List.all_cons,List.all_nil]) (by simp) ?_; simp only [go_sem,simprocAttr]
  refine W_calld (hp) rfl rfl rfl rfl ?_; simp only [go_sem,simprocAttr]
  have w1 : IntKind.i64.wrap ((fr : Int) + (us : Int)) = ((fr + us : Nat) : Int) := by rw [wrap_in (by omega) (by omega)]; omega
  have w2 : IntKind.i64.wrap ((us : Int) + ((putF p).length : Int)) = ((us + (putF p).length : Nat) : Int) := by rw [wrap_in (by omega) (by omega)]; omega
  simp only [w1,go_sem,simprocAttr]
  refine WD_callo [1, 2] (hw) rfl (by simp only [argRs,argR,List.map_cons,List.map_nil,go_sem,simprocAttr]) (by decide) (by simp only [go_sem,simprocAttr]) (by simp only [go_sem,simprocAttr,List.all_cons,List.all_nil]) (by simp) ?_; simp only [go_sem,simprocAttr]
  refine W_opsD_end rfl ?_
  simp only [byteR_len,w2,go_sem,simprocAttr]
  refine BackR [] [0, 1, 2, 3] [] (vs := [.int 0]) rfl rfl (by decide) (by simp) (by simp) rfl rfl ?_
  simp [oneOr,argR,LV.int]
theorem logClear_tri (l : List Int) (s : Int) (fr sz us : Nat) (hf : fr + sz ≤ l.length) (hz : 1 ≤ sz) (hl : 1 ≤ l.length ∧ l.length ≤ 65536) : Tri Tryz.prog G 86 [.ptr 0 0] (lgO l s fr sz us) (.tup []) (lgO (overB l fr (List.replicate sz 0)) (IntKind.i64.wrap (s + 1)) fr sz 0) := by
  have hn := noughts_tri (G := G) l s fr sz us 0 hf (by omega) hl
  simp only [lgO,Nat.add_zero,Nat.sub_zero] at hn
  refine tri_WP Tryz.func86 (by decide) irOk86 (Nat.le_of_ble_eq_true rfl) rfl rfl rfl ?_
  simp only [ir86,go_sem,simprocAttr]
  simp only [lgO,go_sem,simprocAttr]
  refine W_callo [0, 1, 2] (hn) rfl (by simp only [argRs,argR,List.map_cons,List.map_nil,go_sem,simprocAttr]) (by decide) (by simp only [go_sem,simprocAttr]) (by simp only [go_sem,simprocAttr,List.all_cons,List.all_nil]) (by simp) ?_; simp only [go_sem,simprocAttr]
end Dv

namespace Dv
open Go Go.Proofs
variable {G : Nat → Option (List DV)}

theorem getF_pay (b : List Int) (a : Nat) : (∀ c ∈ (getF b a).1, c ∈ b) ∧ (getF b a).1.length ≤ b.length := by
  unfold getF
  split
  · simp
  split
  · simp
  cases getN b a with
  | none => simp
  | some q =>
  obtain ⟨n, fr⟩ := q
  simp only
  split
  · simp
  split
  · simp
  refine ⟨fun c hc => List.mem_of_mem_drop (List.mem_of_mem_take hc), ?_⟩
  dsimp only
  rw [List.length_take, List.length_drop]
  omega
def slO (l : List Int) (s : Int) (fr sz : Nat) : List LObj := [.box 243 [.ptr 1 0, .int fr, .int sz], .box 150 [.sl 2 l.length 1 0 l.length, .d (.val (.slice none 0 0)), .int s], .dat 5 1 (byteR l)]
def slotB (l : List Int) (fr sz k : Nat) : List Int := (l.drop (fr + k * sz)).take sz
def picD (l : List Int) (fr sz k : Nat) : Option (List Int × Int) :=
  if (getF (slotB l fr sz k) 0).2.2 = 1 then (getN (getF (slotB l fr sz k) 0).1 0).map fun q => ((getF (slotB l fr sz k) 0).1.drop q.2, q.1) else none
def picV : Option (List Int × Int) → LV
  | none => .tup [bytesV [], .int 0, .bool false]
  | some q => .tup [bytesV q.1, .int q.2, .bool true]

def ir227 : Nat × C × List RV := (16,
(.seq (.reg [qo 4 (.mv (qk 0))])
 (.seq (.regD [qm 5 0,
 qd 6 (.nck (.t 5)) [0],
 qd 7 (.fad 1 (.t 6)) [1,0],
 qd 8 (.ld1 (.t 7)) [2,1,0],
 qm 9 1,
 qm 10 0,
 qd 11 (.nck (.t 10)) [5],
 qd 12 (.fad 2 (.t 11)) [6,5],
 qd 13 (.ld1 (.t 12)) [7,6,5],
 qd 14 (.bin .mul (.t 9) (.t 13)) [4,8,7,6,5],
 qd 15 (.bin .add (.t 8) (.t 14)) [3,2,1,0,9,4,8,7,6,5],
 qd 4 (.mv (.t 15)) [10,3,2,1,0,9,4,8,7,6,5]])
 .ret)),
[(.t 4)])
theorem irOk227 : convFn Tryz.prog Tryz.f227 = some ir227 := by kernel_rfl
def ir170 : Nat × C × List RV := (51,
(.seq (.reg [qo 4 (.mv (.c (.val (.slice none 0 0)))),
 qo 5 (.mv (qk 0)),
 qo 6 (.mv qf)])
 (.seq (.reg [qm 14 0,
 qm 15 1,
 qo 16 (.call (.f 227) [(.t 14),(.t 15)]),
 qm 7 16])
 (.seq (.regD [qm 18 0,
 qd 19 (.nck (.t 18)) [0],
 qd 20 (.fad 0 (.t 19)) [1,0],
 qd 21 (.ld1 (.t 20)) [2,1,0],
 qd 22 (.call (.f 58) [(.t 21)]) [3,2,1,0],
 qm 23 7,
 qm 24 7,
 qm 25 0,
 qd 26 (.nck (.t 25)) [7],
 qd 27 (.fad 2 (.t 26)) [8,7],
 qd 28 (.ld1 (.t 27)) [9,8,7],
 qd 29 (.bin .add (.t 24) (.t 28)) [6,10,9,8,7],
 qd 30 (.sli 1 (.t 22) (some (.t 23)) (some (.t 29)) none) [4,3,2,1,0,5,11,6,10,9,8,7],
 qd 31 (.call (.f 226) [(.t 30),(qk 0)]) [12,4,3,2,1,0,5,11,6,10,9,8,7],
 qd 17 (.mv (.t 31)) [13,12,4,3,2,1,0,5,11,6,10,9,8,7],
 qd 32 (.ext (.t 17) 0) [14,13,12,4,3,2,1,0,5,11,6,10,9,8,7],
 qd 33 (.ext (.t 17) 1) [14,13,12,4,3,2,1,0,5,11,6,10,9,8,7],
 qd 34 (.ext (.t 17) 2) [14,13,12,4,3,2,1,0,5,11,6,10,9,8,7],
 qd 8 (.mv (.t 32)) [15,14,13,12,4,3,2,1,0,5,11,6,10,9,8,7],
 qd 9 (.mv (.t 33)) [16,14,13,12,4,3,2,1,0,5,11,6,10,9,8,7,18,15],
 qd 10 (.mv (.t 34)) [17,14,13,12,4,3,2,1,0,5,11,6,10,9,8,7,19,16,18,15]])
 (.seq (.reg [qm 36 8,
 qo 37 (.call (.f 172) [(.t 36),(qk 0)]),
 qm 35 37,
 qo 38 (.ext (.t 35) 0),
 qo 39 (.ext (.t 35) 1),
 qo 40 (.ext (.t 35) 2),
 qm 11 38,
 qm 12 39,
 qm 13 40])
 (.seq (.seq (.reg [qm 41 10,
 qo 42 (.bin .neq (.t 41) (qk 1)),
 qm 43 42,
 qg 44 (.mv (.t 13)) 43 false,
 qg 45 (.not (.t 44)) 43 false,
 qo 46 (.pick (.t 43) qt (.t 45))])
 (.cond (.t 46) (.seq (.reg [qo 4 (.mv (.c (.val (.slice none 0 0)))),
 qo 5 (.mv (qk 0)),
 qo 6 (.mv qf)])
 .ret)
 .skip))
 (.seq (.reg [qm 47 8,
 qm 48 12,
 qo 49 (.sli 1 (.t 47) (some (.t 48)) none none),
 qm 50 11,
 qm 4 49,
 qm 5 50,
 qo 6 (.mv qt)])
 .ret)))))),
[(.t 4),(.t 5),(.t 6)])
theorem irOk170 : convFn Tryz.prog Tryz.f170 = some ir170 := by kernel_rfl
def ir169 : Nat × C × List RV := (29,
(.seq (.reg [qo 2 (.mv (qk 0))])
 (.seq (.reg [qo 3 (.mv (.c (.val (.int .i64 (-1))))),
 qo 4 (.mv (.c (.val (.int .i64 (-1)))))])
 (.seq (.seq (.reg [qo 9 (.mv (qk 0))])
 (.block 0 (.loop (.seq (.reg [qo 10 (.bin .lss (.t 9) (qk 2))])
 (.seq (.cond (.t 10) .skip
 (.exit 0))
 (.seq (.block 1 (.seq (.reg [qm 11 9,
 qm 5 11])
 (.seq (.reg [qm 13 0,
 qm 14 5,
 qo 15 (.call (.f 170) [(.t 13),(.t 14)]),
 qm 12 15,
 qo 16 (.ext (.t 12) 0),
 qo 17 (.ext (.t 12) 1),
 qo 18 (.ext (.t 12) 2),
 qm 6 16,
 qm 7 17,
 qm 8 18])
 (.seq (.reg [qm 19 8,
 qm 20 19,
 qg 21 (.mv (.t 7)) 20 true,
 qg 22 (.mv (.t 4)) 20 true,
 qg 23 (.bin .gtr (.t 21) (.t 22)) 20 true,
 qo 24 (.pick (.t 20) (.t 23) qf)])
 (.cond (.t 24) (.reg [qm 25 5,
 qm 26 7,
 qm 3 25,
 qm 4 26])
 .skip)))))
 (.reg [qo 27 (.bin .add (.t 9) (qk 1)),
 qm 9 27])))))))
 (.seq (.reg [qm 28 3,
 qm 2 28])
 .ret)))),
[(.t 2)])
theorem irOk169 : convFn Tryz.prog Tryz.f169 = some ir169 := by kernel_rfl
def ir82 : Nat × C × List RV := (19,
(.seq (.reg [qo 2 (.mv (.c (.val (.slice none 0 0)))),
 qo 3 (.mv (qk 0)),
 qo 4 (.mv qf)])
 (.seq (.seq (.reg [qm 5 0,
 qo 6 (.isnp false (.t 5)),
 qm 7 6,
 qg 8 (.mv (.t 0)) 7 false,
 qg 9 (.call (.f 169) [(.t 8)]) 7 false,
 qg 10 (.bin .lss (.t 9) (qk 0)) 7 false,
 qo 11 (.pick (.t 7) qt (.t 10))])
 (.cond (.t 11) (.seq (.reg [qo 2 (.mv (.c (.val (.slice none 0 0)))),
 qo 3 (.mv (qk 0)),
 qo 4 (.mv qf)])
 .ret)
 .skip))
 (.seq (.reg [qm 12 0,
 qm 13 0,
 qo 14 (.call (.f 169) [(.t 13)]),
 qo 15 (.call (.f 170) [(.t 12),(.t 14)]),
 qo 16 (.ext (.t 15) 0),
 qo 17 (.ext (.t 15) 1),
 qo 18 (.ext (.t 15) 2),
 qm 2 16,
 qm 3 17,
 qm 4 18])
 .ret))),
[(.t 2),(.t 3),(.t 4)])
theorem irOk82 : convFn Tryz.prog Tryz.f82 = some ir82 := by kernel_rfl


theorem place_tri (l : List Int) (s : Int) (fr sz k : Nat) (h : fr + k * sz ≤ 1000000) : Tri Tryz.prog G 227 [.ptr 0 0, .int k] (slO l s fr sz) (.int ((fr + k * sz : Nat) : Int)) (slO l s fr sz) := by
  have w0 : IntKind.i64.wrap ((k : Int) * (sz : Int)) = ((k * sz : Nat) : Int) := by rw [show (k : Int) * (sz : Int) = ((k * sz : Nat) : Int) by simp, wrap_in (by omega) (by omega)]
  have w1 : IntKind.i64.wrap ((fr : Int) + ((k * sz : Nat) : Int)) = ((fr + k * sz : Nat) : Int) := by rw [wrap_in (by omega) (by omega)]; omega
  refine tri_WP Tryz.func227 (by decide) irOk227 (Nat.le_of_ble_eq_true rfl) rfl rfl rfl ?_
  simp only [ir227,go_sem,simprocAttr]
  simp only [slO,w0,w1,go_sem,simprocAttr]
set_option maxHeartbeats 1000000 in
theorem picture_tri (l : List Int) (s : Int) (fr sz k : Nat) (hb : ∀ c ∈ l, 0 ≤ c ∧ c ≤ 255) (h : fr + k * sz + sz ≤ l.length) (hl : 1 ≤ l.length ∧ l.length ≤ 65536) : Tri Tryz.prog G 170 [.ptr 0 0, .int k] (slO l s fr sz) (picV (picD l fr sz k)) (slO l s fr sz) := by
  have hp := place_tri (G := G) l s fr sz k (by omega)
  have hy := diskBytes_tri (G := G) l s hl
  have hsl : (slotB l fr sz k).length = sz := by unfold slotB; rw [List.length_take, List.length_drop]; omega
  have hsb : ∀ c ∈ slotB l fr sz k, 0 ≤ c ∧ c ≤ 255 := fun c hc => hb c (List.mem_of_mem_drop (List.mem_of_mem_take hc))
  have hg := frameGet_tri (G := G) (slotB l fr sz k) hsb (by omega) 0 (by omega)
  have hpay := getF_pay (slotB l fr sz k) 0
  have hP : picD l fr sz k = if (getF (slotB l fr sz k) 0).2.2 = 1 then (getN (getF (slotB l fr sz k) 0).1 0).map fun q => ((getF (slotB l fr sz k) 0).1.drop q.2, q.1) else none := rfl
  have hdef : (l.drop (fr + k * sz)).take sz = slotB l fr sz k := rfl
  generalize picD l fr sz k = PD at *
  generalize fr + k * sz = pl at *
  generalize slotB l fr sz k = sb at *
  simp only [dskO,slO,bytesV,getFV] at hp hy hg
  have w2 : IntKind.i64.wrap ((pl : Int) + (sz : Int)) = ((pl + sz : Nat) : Int) := by rw [wrap_in (by omega) (by omega)]; omega
  have c1 : pl ≤ pl + sz ∧ pl + sz ≤ l.length ∧ l.length ≤ l.length := by omega
  have c2 : (0 : Int) ≤ ((pl + sz : Nat) : Int) := by omega
  have e1 : pl + sz - pl = sz := by omega
  refine tri_W Tryz.func170 (by decide) irOk170 (Nat.le_of_ble_eq_true rfl) ?_
  simp only [slO,ir170,go_sem,simprocAttr]
  refine W_callo [0, 1, 2] (hp) rfl (by simp only [argRs,argR,List.map_cons,List.map_nil,go_sem,simprocAttr]) (by decide) (by simp only [go_sem,simprocAttr]) (by simp only [go_sem,simprocAttr,List.all_cons,List.all_nil]) (by simp) ?_; simp only [go_sem,simprocAttr]
  refine WD_callo [1, 2] (hy) rfl (by simp only [argRs,argR,List.map_cons,List.map_nil,go_sem,simprocAttr]) (by decide) (by simp only [go_sem,simprocAttr]) (by simp only [go_sem,simprocAttr,List.all_cons,List.all_nil]) (by simp) ?_; simp only [go_sem,simprocAttr]
  simp only [w2,c1,c2,e1,Int.toNat_natCast,byteR_len,byteR_drop,byteR_take,hdef,go_sem,simprocAttr]
  refine WD_calld (hg) rfl rfl rfl rfl ?_; simp only [go_sem,simprocAttr]
  refine W_opsD_end rfl ?_
  simp only [go_sem,simprocAttr]
  have hn := getNum_tri (G := G) (getF sb 0).1 (fun c hc => hsb c (hpay.1 c hc)) (by omega) 0 (by omega) (getN (getF sb 0).1 0) rfl
  simp only [bytesV] at hn
  cases hq : getN (getF sb 0).1 0 with
  | none =>
    rw [hq] at hn hP
    simp only [numRes,rdX,rdP,Option.isSome] at hn
    refine W_calld (hn) rfl rfl rfl rfl ?_; simp only [go_sem,simprocAttr]
    have hP2 : PD = none := by rw [hP]; split <;> rfl
    by_cases h1 : (getF sb 0).2.2 = 1
    · simp only [h1,bne_self_eq_false,go_sem,simprocAttr]
      refine BackR [] [0, 1, 2] [] (vs := [.d (.val (.slice none 0 0)), .int 0, .bool false]) rfl rfl (by decide) (by simp) (by simp) rfl rfl ?_
      simp [oneOr,argR,argRs,hP2,picV,bytesV,byteR,LV.int,LV.bool]
    · simp only [show ((getF sb 0).2.2 != 1) = true from bne_iff_ne.2 h1,go_sem,simprocAttr]
      refine BackR [] [0, 1, 2] [] (vs := [.d (.val (.slice none 0 0)), .int 0, .bool false]) rfl rfl (by decide) (by simp) (by simp) rfl rfl ?_
      simp [oneOr,argR,argRs,hP2,picV,bytesV,byteR,LV.int,LV.bool]
  | some q =>
  obtain ⟨n, nx⟩ := q
  have hr := getN_rng (fun c hc => (hsb c (hpay.1 c hc)).1) hq
  rw [hq] at hn hP
  simp only [numRes,rdX,rdP,Option.isSome] at hn
  refine W_calld (hn) rfl rfl rfl rfl ?_; simp only [go_sem,simprocAttr]
  by_cases h1 : (getF sb 0).2.2 = 1
  · rw [if_pos h1] at hP
    have c3 : nx ≤ (getF sb 0).1.length ∧ (getF sb 0).1.length ≤ (getF sb 0).1.length := by omega
    have hdl : (byteR ((getF sb 0).1.drop nx)).take ((getF sb 0).1.length - nx) = byteR ((getF sb 0).1.drop nx) := List.take_of_length_le (by rw [byteR_len, List.length_drop]; exact Nat.le_refl _)
    simp only [h1,bne_self_eq_false,byteR_len,c3,byteR_drop,hdl,go_sem,simprocAttr]
    refine BackR [] [0, 1, 2] [] (vs := [.d (.lst 1 (byteR ((getF sb 0).1.drop nx))), .int n, .bool true]) rfl rfl (by decide) (by simp) (by simp) rfl rfl ?_
    simp [oneOr,argR,argRs,hP,picV,bytesV,LV.int,LV.bool]
  · rw [if_neg h1] at hP
    simp only [show ((getF sb 0).2.2 != 1) = true from bne_iff_ne.2 h1,go_sem,simprocAttr]
    refine BackR [] [0, 1, 2] [] (vs := [.d (.val (.slice none 0 0)), .int 0, .bool false]) rfl rfl (by decide) (by simp) (by simp) rfl rfl ?_
    simp [oneOr,argR,argRs,hP,picV,bytesV,byteR,LV.int,LV.bool]

def nwQ (l : List Int) (fr sz : Nat) : Nat → Int × Int
  | 0 => (-1, -1)
  | k + 1 => match picD l fr sz k with
    | none => nwQ l fr sz k
    | some q => if q.2 > (nwQ l fr sz k).2 then ((k : Int), q.2) else nwQ l fr sz k
def nwS (l : List Int) (s : Int) (fr sz : Nat) (k : Nat) : St := ⟨[(0, .ptr 0 0), (3, .int (nwQ l fr sz k).1), (4, .int (nwQ l fr sz k).2), (9, .int k)], (slO l s fr sz).map some⟩
set_option maxHeartbeats 1000000 in
theorem newest_tri (l : List Int) (s : Int) (fr sz : Nat) (hb : ∀ c ∈ l, 0 ≤ c ∧ c ≤ 255) (h : fr + 2 * sz ≤ l.length) (hl : 1 ≤ l.length ∧ l.length ≤ 65536) : Tri Tryz.prog G 169 [.ptr 0 0] (slO l s fr sz) (.int (nwQ l fr sz 2).1) (slO l s fr sz) := by
  have hp0 := picture_tri (G := G) l s fr sz 0 hb (by omega) hl
  have hp1 := picture_tri (G := G) l s fr sz 1 hb (by omega) hl
  simp only [slO] at hp0 hp1
  refine tri_WP Tryz.func169 (by decide) irOk169 (Nat.le_of_ble_eq_true rfl) rfl rfl rfl ?_
  simp only [ir169,go_sem,simprocAttr]
  simp only [slO,go_sem,simprocAttr]
  refine W_loopI [0, 3, 4, 9] [] (fun k : Nat => k ≤ 2) (fun k => 2 - k) (nwS l s fr sz) 0 ?_ (Nat.zero_le _) (fun k hk => ?_)
  · simp only [nwS,slO,nwQ,List.map_cons,List.map_nil,Int.natCast_zero,go_sem,simprocAttr]
  simp only [nwS,slO,List.map_cons,List.map_nil,go_sem,simprocAttr]
  match k, hk with
  | 0, _ =>
    have hq : nwQ l fr sz (0 + 1) = match picD l fr sz 0 with
      | none => nwQ l fr sz 0
      | some q => if q.2 > (nwQ l fr sz 0).2 then (((0 : Nat) : Int), q.2) else nwQ l fr sz 0 := rfl
    simp only [show decide (((0 : Nat) : Int) < 2) = true from rfl,go_sem,simprocAttr]
    refine W_callo [0, 1, 2] (hp0) rfl (by simp only [argRs,argR,List.map_cons,List.map_nil,go_sem,simprocAttr]) (by decide) (by simp only [go_sem,simprocAttr]) (by simp only [go_sem,simprocAttr,List.all_cons,List.all_nil]) (by simp) ?_; simp only [go_sem,simprocAttr]
    cases hP : picD l fr sz 0 with
    | none =>
      rw [hP] at hq
      simp only [picV,go_sem,simprocAttr]
      refine W_lpI 1 ?_ ?_ (by decide) (by decide)
      · simp only [go_sem,simprocAttr]
      · simp only [nwS,slO,hq,List.map_cons,List.map_nil,show IntKind.i64.wrap 1 = 1 from rfl,go_sem,simprocAttr]
    | some q =>
      rw [hP] at hq
      simp only at hq
      simp only [picV,go_sem,simprocAttr]
      by_cases hg : q.2 > (nwQ l fr sz 0).2
      · rw [if_pos hg] at hq
        simp only [decide_eq_true hg,go_sem,simprocAttr]
        refine W_lpI 1 ?_ ?_ (by decide) (by decide)
        · simp only [go_sem,simprocAttr]
        · simp only [nwS,slO,hq,List.map_cons,List.map_nil,show IntKind.i64.wrap 1 = 1 from rfl,go_sem,simprocAttr]
      · rw [if_neg hg] at hq
        simp only [decide_eq_false hg,go_sem,simprocAttr]
        refine W_lpI 1 ?_ ?_ (by decide) (by decide)
        · simp only [go_sem,simprocAttr]
        · simp only [nwS,slO,hq,List.map_cons,List.map_nil,show IntKind.i64.wrap 1 = 1 from rfl,go_sem,simprocAttr]
  | 1, _ =>
    have hq : nwQ l fr sz (1 + 1) = match picD l fr sz 1 with
      | none => nwQ l fr sz 1
      | some q => if q.2 > (nwQ l fr sz 1).2 then (((1 : Nat) : Int), q.2) else nwQ l fr sz 1 := rfl
    simp only [show decide (((1 : Nat) : Int) < 2) = true from rfl,go_sem,simprocAttr]
    refine W_callo [0, 1, 2] (hp1) rfl (by simp only [argRs,argR,List.map_cons,List.map_nil,go_sem,simprocAttr]) (by decide) (by simp only [go_sem,simprocAttr]) (by simp only [go_sem,simprocAttr,List.all_cons,List.all_nil]) (by simp) ?_; simp only [go_sem,simprocAttr]
    cases hP : picD l fr sz 1 with
    | none =>
      rw [hP] at hq
      simp only [picV,go_sem,simprocAttr]
      refine W_lpI 2 ?_ ?_ (by decide) (by decide)
      · simp only [go_sem,simprocAttr]
      · simp only [nwS,slO,hq,List.map_cons,List.map_nil,show IntKind.i64.wrap 2 = 2 from rfl,go_sem,simprocAttr]
    | some q =>
      rw [hP] at hq
      simp only at hq
      simp only [picV,go_sem,simprocAttr]
      by_cases hg : q.2 > (nwQ l fr sz 1).2
      · rw [if_pos hg] at hq
        simp only [decide_eq_true hg,go_sem,simprocAttr]
        refine W_lpI 2 ?_ ?_ (by decide) (by decide)
        · simp only [go_sem,simprocAttr]
        · simp only [nwS,slO,hq,List.map_cons,List.map_nil,show IntKind.i64.wrap 2 = 2 from rfl,go_sem,simprocAttr]
      · rw [if_neg hg] at hq
        simp only [decide_eq_false hg,go_sem,simprocAttr]
        refine W_lpI 2 ?_ ?_ (by decide) (by decide)
        · simp only [go_sem,simprocAttr]
        · simp only [nwS,slO,hq,List.map_cons,List.map_nil,show IntKind.i64.wrap 2 = 2 from rfl,go_sem,simprocAttr]
  | 2, _ =>
    simp only [show decide (((2 : Nat) : Int) < 2) = false from rfl,go_sem,simprocAttr]
theorem nwQ_rng (l : List Int) (fr sz : Nat) : ∀ k, -1 ≤ (nwQ l fr sz k).1 ∧ (nwQ l fr sz k).1 < (k : Int)
  | 0 => by simp [nwQ]
  | k + 1 => by
    have := nwQ_rng l fr sz k
    unfold nwQ
    cases picD l fr sz k with
    | none => simp only; omega
    | some q =>
      simp only
      split
      · dsimp only; omega
      · omega
def loadD (l : List Int) (fr sz : Nat) : Option (List Int × Int) := if (nwQ l fr sz 2).1 < 0 then none else picD l fr sz (nwQ l fr sz 2).1.toNat
theorem load_tri (l : List Int) (s : Int) (fr sz : Nat) (hb : ∀ c ∈ l, 0 ≤ c ∧ c ≤ 255) (h : fr + 2 * sz ≤ l.length) (hl : 1 ≤ l.length ∧ l.length ≤ 65536) : Tri Tryz.prog G 82 [.ptr 0 0] (slO l s fr sz) (picV (loadD l fr sz)) (slO l s fr sz) := by
  have hn := newest_tri (G := G) l s fr sz hb h hl
  have hr := nwQ_rng l fr sz 2
  have hL : loadD l fr sz = if (nwQ l fr sz 2).1 < 0 then none else picD l fr sz (nwQ l fr sz 2).1.toNat := rfl
  generalize (nwQ l fr sz 2).1 = m at *
  simp only [slO] at hn
  refine tri_W Tryz.func82 (by decide) irOk82 (Nat.le_of_ble_eq_true rfl) ?_
  simp only [slO,ir82,go_sem,simprocAttr]
  refine W_callo [0, 1, 2] (hn) rfl (by simp only [argRs,argR,List.map_cons,List.map_nil,go_sem,simprocAttr]) (by decide) (by simp only [go_sem,simprocAttr]) (by simp only [go_sem,simprocAttr,List.all_cons,List.all_nil]) (by simp) ?_; simp only [go_sem,simprocAttr]
  by_cases hm : m < 0
  · rw [if_pos hm] at hL
    simp only [decide_eq_true hm,go_sem,simprocAttr]
    refine BackR [] [0, 1, 2] [] (vs := [.d (.val (.slice none 0 0)), .int 0, .bool false]) rfl rfl (by decide) (by simp) (by simp) rfl rfl ?_
    simp [oneOr,argR,argRs,hL,picV,bytesV,byteR,LV.int,LV.bool]
  rw [if_neg hm] at hL
  obtain ⟨k, rfl⟩ := Int.eq_ofNat_of_zero_le (show 0 ≤ m by omega)
  rw [Int.toNat_natCast] at hL
  have hk : k * sz + sz ≤ 2 * sz := by
    have : k ≤ 1 := by omega
    have := Nat.mul_le_mul_right sz this
    omega
  have hp := picture_tri (G := G) l s fr sz k hb (by omega) hl
  rw [← hL] at hp
  simp only [slO] at hp
  simp only [decide_eq_false hm,go_sem,simprocAttr]
  refine W_callo [0, 1, 2] (hn) rfl (by simp only [argRs,argR,List.map_cons,List.map_nil,go_sem,simprocAttr]) (by decide) (by simp only [go_sem,simprocAttr]) (by simp only [go_sem,simprocAttr,List.all_cons,List.all_nil]) (by simp) ?_; simp only [go_sem,simprocAttr]
  refine W_callo [0, 1, 2] (hp) rfl (by simp only [argRs,argR,List.map_cons,List.map_nil,go_sem,simprocAttr]) (by decide) (by simp only [go_sem,simprocAttr]) (by simp only [go_sem,simprocAttr,List.all_cons,List.all_nil]) (by simp) ?_; simp only [go_sem,simprocAttr]
  cases hq : loadD l fr sz with
  | none =>
    simp only [picV,bytesV,go_sem,simprocAttr]
    refine BackR [] [0, 1, 2] [] (vs := [.d (.lst 1 (byteR [])), .int 0, .bool false]) rfl rfl (by decide) (by simp) (by simp) rfl rfl ?_
    simp [oneOr,argR,argRs,LV.int,LV.bool]
  | some q =>
    simp only [picV,bytesV,go_sem,simprocAttr]
    refine BackR [] [0, 1, 2] [] (vs := [.d (.lst 1 (byteR q.1)), .int q.2, .bool true]) rfl rfl (by decide) (by simp) (by simp) rfl rfl ?_
    simp [oneOr,argR,argRs,LV.int,LV.bool]
end Dv

namespace Dv
open Go Go.Proofs
variable {G : Nat → Option (List DV)}

def ir179 : Nat × C × List RV := (83,
(.seq (.reg [qo 6 (.mv (qk 0))])
 (.seq (.seq (.reg [qm 13 0,
 qo 14 (.isnp false (.t 13)),
 qm 15 14,
 qg 16 (.mv (.t 2)) 15 false,
 qg 17 (.call (.f 230) [(.t 16)]) 15 false,
 qg 18 (.len (.t 17)) 15 false,
 qg 19 (.bin .eql (.t 18) (qk 0)) 15 false,
 qo 20 (.pick (.t 15) qt (.t 19))])
 (.cond (.t 20) (.seq (.reg [qo 6 (.mv (qk 1))])
 .ret)
 .skip))
 (.seq (.seq (.reg [qm 22 0,
 qo 23 (.call (.f 82) [(.t 22)]),
 qm 21 23,
 qo 24 (.ext (.t 21) 0),
 qo 25 (.ext (.t 21) 1),
 qo 26 (.ext (.t 21) 2),
 qm 7 24,
 qm 8 25,
 qm 9 26])
 (.seq (.reg [qm 27 9,
 qm 28 27,
 qg 29 (.mv (.t 2)) 28 true,
 qg 30 (.mv (.t 8)) 28 true,
 qg 31 (.bin .leq (.t 29) (.t 30)) 28 true,
 qo 32 (.pick (.t 28) (.t 31) qf)])
 (.cond (.t 32) (.seq (.reg [qo 6 (.mv (qk 6))])
 .ret)
 .skip)))
 (.seq (.reg [qm 33 2,
 qo 34 (.call (.f 230) [(.t 33)]),
 qm 35 1,
 qo 36 (.bsl 57 1 [(.t 34),(.t 35)]),
 qo 37 (.call (.f 232) [(.t 36)]),
 qo 38 (.call (.f 231) [(.t 37)]),
 qm 10 38])
 (.seq (.seq (.reg [qm 39 10,
 qo 40 (.len (.t 39)),
 qo 41 (.bin .eql (.t 40) (qk 0)),
 qm 42 41,
 qg 43 (.mv (.t 10)) 42 false,
 qg 44 (.len (.t 43)) 42 false,
 qg 45 (.mv (.t 0)) 42 false,
 qg 46 (.nck (.t 45)) 42 false,
 qg 47 (.fad 2 (.t 46)) 42 false,
 qg 48 (.ld1 (.t 47)) 42 false,
 qg 49 (.bin .gtr (.t 44) (.t 48)) 42 false,
 qo 50 (.pick (.t 42) qt (.t 49))])
 (.cond (.t 50) (.seq (.reg [qo 6 (.mv (qk 3))])
 .ret)
 .skip))
 (.seq (.reg [qm 51 0,
 qo 52 (.mkf (.func 227) [(.t 51)] []),
 qm 11 52])
 (.seq (.reg [qm 53 11,
 qm 54 0,
 qo 55 (.call (.f 169) [(.t 54)]),
 qo 56 (.bin .sub (qk 1) (.t 55)),
 qo 57 (.max (qk 0) (.t 56)),
 qo 58 (.bin .rem (.t 57) (qk 2)),
 qo 59 (.call (.t 53) [(.t 58)]),
 qm 12 59])
 (.seq (.regD [qm 60 0,
 qd 61 (.nck (.t 60)) [0],
 qd 62 (.fad 0 (.t 61)) [1,0],
 qd 63 (.ld1 (.t 62)) [2,1,0],
 qm 64 12,
 qm 65 0,
 qd 66 (.nck (.t 65)) [5],
 qd 67 (.fad 2 (.t 66)) [6,5],
 qd 68 (.ld1 (.t 67)) [7,6,5],
 qd 69 (.more (.mks 5 1 1 [(.val (.int .u8 0))] (.t 68))) [8,7,6,5],
 qd 70 (.call (.f 130) [(.t 63),(.t 64),(.t 69)]) [3,2,1,0,4,9,8,7,6,5]])
 (.seq (.reg [qm 71 0,
 qo 72 (.nck (.t 71)),
 qo 73 (.fad 0 (.t 72)),
 qo 74 (.ld1 (.t 73)),
 qo 75 (.call (.f 96) [(.t 74)])])
 (.seq (.reg [qm 76 0,
 qo 77 (.nck (.t 76)),
 qo 78 (.fad 0 (.t 77)),
 qo 79 (.ld1 (.t 78)),
 qm 80 12,
 qm 81 10,
 qo 82 (.call (.f 130) [(.t 79),(.t 80),(.t 81)]),
 qm 6 82])
 .ret)))))))))),
[(.t 6)])
theorem irOk179 : convFn Tryz.prog Tryz.f179 = some ir179 := by kernel_rfl
def ir92 : Nat × C × List RV := (20,
(.seq (.reg [qo 6 (.mv (qk 0))])
 (.seq (.seq (.reg [qm 8 0,
 qm 9 1,
 qm 10 2,
 qo 11 (.call (.f 179) [(.t 8),(.t 9),(.t 10)]),
 qm 7 11])
 (.seq (.reg [qm 12 7,
 qo 13 (.bin .neq (.t 12) (qk 0))])
 (.cond (.t 13) (.seq (.reg [qm 14 7,
 qm 6 14])
 .ret)
 .skip)))
 (.seq (.reg [qm 15 0,
 qo 16 (.nck (.t 15)),
 qo 17 (.fad 0 (.t 16)),
 qo 18 (.ld1 (.t 17)),
 qo 19 (.call (.f 96) [(.t 18)])])
 (.seq (.reg [qo 6 (.mv (qk 0))])
 .ret)))),
[(.t 6)])
theorem irOk92 : convFn Tryz.prog Tryz.f92 = some ir92 := by kernel_rfl
def ir80 : Nat × C × List RV := (35,
(.seq (.reg [qo 6 (.mv (.c (.val (.pointer none)))),
 qo 7 (.mv (qk 0))])
 (.seq (.seq (.reg [qm 8 1,
 qo 9 (.bin .lss (.t 8) (qk 0)),
 qm 10 9,
 qg 11 (.mv (.t 2)) 10 false,
 qg 12 (.bin .lss (.t 11) (qk 1)) 10 false,
 qo 13 (.pick (.t 10) qt (.t 12)),
 qm 14 13,
 qg 15 (.mv (.t 2)) 14 false,
 qg 16 (.mv (.t 0)) 14 false,
 qg 17 (.call (.f 79) [(.t 16)]) 14 false,
 qg 18 (.bin .quo (.t 17) (qk 2)) 14 false,
 qg 19 (.bin .gtr (.t 15) (.t 18)) 14 false,
 qo 20 (.pick (.t 14) qt (.t 19)),
 qm 21 20,
 qg 22 (.mv (.t 1)) 21 false,
 qg 23 (.mv (.t 0)) 21 false,
 qg 24 (.call (.f 79) [(.t 23)]) 21 false,
 qg 25 (.mv (.t 2)) 21 false,
 qg 26 (.bin .mul (qk 2) (.t 25)) 21 false,
 qg 27 (.bin .sub (.t 24) (.t 26)) 21 false,
 qg 28 (.bin .gtr (.t 22) (.t 27)) 21 false,
 qo 29 (.pick (.t 21) qt (.t 28))])
 (.cond (.t 29) (.seq (.reg [qo 6 (.mv (.c (.val (.pointer none)))),
 qo 7 (.mv (qk 1))])
 .ret)
 .skip))
 (.seq (.reg [qm 30 0,
 qm 31 1,
 qm 32 2,
 qo 33 (.build [(.val (.pointer none)),q0,q0] [(0,1,(.t 30)),(1,1,(.t 31)),(2,1,(.t 32))]),
 qo 34 (.box 243 (.t 33)),
 qm 6 34,
 qo 7 (.mv (qk 0))])
 .ret))),
[(.t 6),(.t 7)])
theorem irOk80 : convFn Tryz.prog Tryz.f80 = some ir80 := by kernel_rfl


def nextK (l : List Int) (fr sz : Nat) : Nat := if (nwQ l fr sz 2).1 = 0 then 1 else 0
def savF (b : List Int) (age : Int) : List Int := putF (numB age ++ b)
def slW (l : List Int) (s : Int) (fr sz a : Nat) (b : List Int) : List LObj := [.box 243 [.ptr 1 0, .int fr, .int sz], .box 150 [.sl 2 l.length 1 0 l.length, .sl 3 1 2 0 1, .int s], .dat 5 1 (byteR l), .dat 227 2 (wtR a b)]
def oldB (age : Int) : Option (List Int × Int) → Bool
  | none => false
  | some q => decide (age ≤ q.2)
def startE (l : List Int) (fr sz : Nat) (b : List Int) (age : Int) : Int :=
  if (numB age).length = 0 then 1 else if oldB age (loadD l fr sz) = true then 6
  else if (savF b age).length = 0 ∨ (savF b age).length > sz then 3 else 0
set_option maxHeartbeats 1000000 in
theorem slStart_tri (l : List Int) (s : Int) (fr sz : Nat) (b : List Int) (age : Int) (hb : ∀ c ∈ l, 0 ≤ c ∧ c ≤ 255) (h : fr + 2 * sz ≤ l.length) (hz : 1 ≤ sz) (hl : 1 ≤ l.length ∧ l.length ≤ 65536) (hbl : b.length ≤ 90000) (hE : startE l fr sz b age = 0) : Tri Tryz.prog G 179 [.ptr 0 0, bytesV b, .int age] (slO l s fr sz) (.int 0) (slW (overB l (fr + nextK l fr sz * sz) (List.replicate sz 0)) (IntKind.i64.wrap (s + 1)) fr sz (fr + nextK l fr sz * sz) (savF b age)) := by
  have hk : nextK l fr sz * sz + sz ≤ 2 * sz := by
    have : nextK l fr sz ≤ 1 := by unfold nextK; split <;> omega
    have := Nat.mul_le_mul_right sz this
    omega
  have hL := load_tri (G := G) l s fr sz hb h hl
  have hn := newest_tri (G := G) l s fr sz hb h hl
  have hm := num_tri (G := G) age
  have hr := nwQ_rng l fr sz 2
  simp only [slO,bytesV] at hL hn hm
  unfold startE at hE
  split at hE
  · exact absurd hE (by decide)
  rename_i g1
  split at hE
  · exact absurd hE (by decide)
  rename_i g2
  split at hE
  · exact absurd hE (by decide)
  rename_i g3
  have e1 : (((numB age).length : Int) == 0) = false := beq_eq_false_iff_ne.2 (by omega)
  have hx : IntKind.i64.wrap (1 - (nwQ l fr sz 2).1) = 1 - (nwQ l fr sz 2).1 := wrap_in (by omega) (by omega)
  have hp := place_tri (G := G) l s fr sz (nextK l fr sz) (by omega)
  have hkv : (if 1 - (nwQ l fr sz 2).1 > 0 then 1 - (nwQ l fr sz 2).1 else 0).tmod 2 = ((nextK l fr sz : Nat) : Int) := by
    unfold nextK
    have : (nwQ l fr sz 2).1 = -1 ∨ (nwQ l fr sz 2).1 = 0 ∨ (nwQ l fr sz 2).1 = 1 := by omega
    rcases this with e | e | e <;> rw [e] <;> decide
  have c5 : sz * 1 ≤ 70368744177664 ∧ ((sz : Nat) : Int) ≤ 9223372036854775807 := by omega
  have hfl : (savF b age).length ≤ sz := by omega
  generalize hN : nextK l fr sz = K at *
  generalize hA : fr + K * sz = A at *
  have hw1 := diskWrite_tri (G := G) l s A (List.replicate sz 0) (by rw [List.length_replicate]; omega) hl.2
  have hs1 := diskSync_tri (G := G) l s A (List.replicate sz 0) (by rw [List.length_replicate]; omega) hl
  have hol : (overB l A (List.replicate sz 0)).length = l.length := overB_len (by rw [List.length_replicate]; omega)
  have hw2 := diskWrite_tri (G := G) (overB l A (List.replicate sz 0)) (IntKind.i64.wrap (s + 1)) A (savF b age) (by rw [hol]; omega) (by rw [hol]; exact hl.2)
  simp only [slO,dskO,dskW,wtR,bytesV,byteR_zero,List.length_replicate,List.cons_append,List.nil_append] at hp hw1 hs1 hw2
  refine tri_W Tryz.func179 (by decide) irOk179 (Nat.le_of_ble_eq_true rfl) ?_
  simp only [slO,bytesV,ir179,go_sem,simprocAttr]
  refine W_calld (hm) rfl rfl rfl rfl ?_; simp only [go_sem,simprocAttr]
  simp only [byteR_len,e1,go_sem,simprocAttr]
  refine W_callo [0, 1, 2] (hL) rfl (by simp only [argRs,argR,List.map_cons,List.map_nil,go_sem,simprocAttr]) (by decide) (by simp only [go_sem,simprocAttr]) (by simp only [go_sem,simprocAttr,List.all_cons,List.all_nil]) (by simp) ?_; simp only [go_sem,simprocAttr]
  have hcat := concat_tri (G := G) [numB age, b] (by simp) (by simp; have := numB_le age; omega)
  have hpf := framePut_tri (G := G) (numB age ++ b) (by rw [List.length_append]; have := numB_le age; omega)
  rw [show putF (numB age ++ b) = savF b age from rfl] at hpf
  simp only [List.flatten_cons,List.flatten_nil,List.append_nil,concR,List.map_cons,List.map_nil,bytesV] at hcat hpf
  have e2 : (((savF b age).length : Int) == 0) = false := beq_eq_false_iff_ne.2 (by omega)
  have e3 : decide (((savF b age).length : Int) > (sz : Int)) = false := decide_eq_false (by omega)
  cases hq : loadD l fr sz with
  | none =>
    simp only [picV,bytesV,go_sem,simprocAttr]
    refine W_calld (hm) rfl rfl rfl rfl ?_; simp only [go_sem,simprocAttr]
    refine W_callf [3] (hcat) rfl (by simp [argRs,argR,rowsAt,objL,concR,go_sem,simprocAttr]) (by simp [objL]) rfl ?_; simp only [go_sem,simprocAttr]
    refine W_calld (hpf) rfl rfl rfl rfl ?_; simp only [go_sem,simprocAttr]
    simp only [byteR_len,e2,e3,go_sem,simprocAttr]
    refine W_callo [0, 1, 2] (hn) rfl (by simp only [argRs,argR,List.map_cons,List.map_nil,go_sem,simprocAttr]) (by decide) (by simp only [go_sem,simprocAttr]) (by simp only [go_sem,simprocAttr,List.all_cons,List.all_nil]) (by simp) ?_; simp only [go_sem,simprocAttr]
    simp only [hx,hkv,go_sem,simprocAttr]
    refine W_callo [0, 1, 2] (hp) rfl (by simp only [argRs,argR,List.map_cons,List.map_nil,go_sem,simprocAttr]) (by decide) (by simp only [go_sem,simprocAttr]) (by simp only [go_sem,simprocAttr,List.all_cons,List.all_nil]) (by simp) ?_; simp only [go_sem,simprocAttr]
    simp only [c5,go_sem,simprocAttr]
    refine WD_callh [1, 2] [4] (hw1) rfl (by simp [argRs,argR,rowsAt,objL,u8,byteR_len,go_sem,simprocAttr]) (by decide) (by decide) (by simp [objL]) (by simp only [go_sem,simprocAttr,u8,byteR_len]) (by simp only [go_sem,simprocAttr,List.all_cons,List.all_nil,u8,byteR_len]) (by simp) ?_; simp only [go_sem,simprocAttr,u8,byteR_len]
    refine W_opsD_end rfl ?_
    simp only [go_sem,simprocAttr]
    refine W_callo [1, 2, 5] (hs1) rfl (by simp only [argRs,argR,List.map_cons,List.map_nil,go_sem,simprocAttr,u8]) (by decide) (by simp only [go_sem,simprocAttr,u8]) (by simp only [go_sem,simprocAttr,List.all_cons,List.all_nil,u8]) (by simp) ?_; simp only [go_sem,simprocAttr,u8]
    refine W_callo [1, 2] (hw2) rfl (by simp only [argRs,argR,List.map_cons,List.map_nil,go_sem,simprocAttr]) (by decide) (by simp only [go_sem,simprocAttr]) (by simp only [go_sem,simprocAttr,List.all_cons,List.all_nil]) (by simp) ?_; simp only [go_sem,simprocAttr]
    refine BackR [] [0, 1, 2, 6] [] (vs := [.int 0]) rfl rfl (by decide) (by simp) (by simp) rfl rfl ?_
    simp [oneOr,argR,LV.int]
  | some q =>
    rw [hq] at g2
    have g4 : ¬ age ≤ q.2 := fun e => g2 (decide_eq_true e)
    simp only [picV,bytesV,decide_eq_false g4,go_sem,simprocAttr]
    refine W_calld (hm) rfl rfl rfl rfl ?_; simp only [go_sem,simprocAttr]
    refine W_callf [3] (hcat) rfl (by simp [argRs,argR,rowsAt,objL,concR,go_sem,simprocAttr]) (by simp [objL]) rfl ?_; simp only [go_sem,simprocAttr]
    refine W_calld (hpf) rfl rfl rfl rfl ?_; simp only [go_sem,simprocAttr]
    simp only [byteR_len,e2,e3,go_sem,simprocAttr]
    refine W_callo [0, 1, 2] (hn) rfl (by simp only [argRs,argR,List.map_cons,List.map_nil,go_sem,simprocAttr]) (by decide) (by simp only [go_sem,simprocAttr]) (by simp only [go_sem,simprocAttr,List.all_cons,List.all_nil]) (by simp) ?_; simp only [go_sem,simprocAttr]
    simp only [hx,hkv,go_sem,simprocAttr]
    refine W_callo [0, 1, 2] (hp) rfl (by simp only [argRs,argR,List.map_cons,List.map_nil,go_sem,simprocAttr]) (by decide) (by simp only [go_sem,simprocAttr]) (by simp only [go_sem,simprocAttr,List.all_cons,List.all_nil]) (by simp) ?_; simp only [go_sem,simprocAttr]
    simp only [c5,go_sem,simprocAttr]
    refine WD_callh [1, 2] [4] (hw1) rfl (by simp [argRs,argR,rowsAt,objL,u8,byteR_len,go_sem,simprocAttr]) (by decide) (by decide) (by simp [objL]) (by simp only [go_sem,simprocAttr,u8,byteR_len]) (by simp only [go_sem,simprocAttr,List.all_cons,List.all_nil,u8,byteR_len]) (by simp) ?_; simp only [go_sem,simprocAttr,u8,byteR_len]
    refine W_opsD_end rfl ?_
    simp only [go_sem,simprocAttr]
    refine W_callo [1, 2, 5] (hs1) rfl (by simp only [argRs,argR,List.map_cons,List.map_nil,go_sem,simprocAttr,u8]) (by decide) (by simp only [go_sem,simprocAttr,u8]) (by simp only [go_sem,simprocAttr,List.all_cons,List.all_nil,u8]) (by simp) ?_; simp only [go_sem,simprocAttr,u8]
    refine W_callo [1, 2] (hw2) rfl (by simp only [argRs,argR,List.map_cons,List.map_nil,go_sem,simprocAttr]) (by decide) (by simp only [go_sem,simprocAttr]) (by simp only [go_sem,simprocAttr,List.all_cons,List.all_nil]) (by simp) ?_; simp only [go_sem,simprocAttr]
    refine BackR [] [0, 1, 2, 6] [] (vs := [.int 0]) rfl rfl (by decide) (by simp) (by simp) rfl rfl ?_
    simp [oneOr,argR,LV.int]

set_option maxHeartbeats 1000000 in
theorem startErr_tri (l : List Int) (s : Int) (fr sz : Nat) (b : List Int) (age : Int) (hb : ∀ c ∈ l, 0 ≤ c ∧ c ≤ 255) (h : fr + 2 * sz ≤ l.length) (hz : 1 ≤ sz) (hl : 1 ≤ l.length ∧ l.length ≤ 65536) (hbl : b.length ≤ 90000) (hE : startE l fr sz b age ≠ 0) : Tri Tryz.prog G 179 [.ptr 0 0, bytesV b, .int age] (slO l s fr sz) (.int (startE l fr sz b age)) (slO l s fr sz) := by
  have hL := load_tri (G := G) l s fr sz hb h hl
  have hm := num_tri (G := G) age
  simp only [slO,bytesV] at hL hm
  have hcat := concat_tri (G := G) [numB age, b] (by simp) (by simp; have := numB_le age; omega)
  have hpf := framePut_tri (G := G) (numB age ++ b) (by rw [List.length_append]; have := numB_le age; omega)
  rw [show putF (numB age ++ b) = savF b age from rfl] at hpf
  simp only [List.flatten_cons,List.flatten_nil,List.append_nil,concR,List.map_cons,List.map_nil,bytesV] at hcat hpf
  refine tri_W Tryz.func179 (by decide) irOk179 (Nat.le_of_ble_eq_true rfl) ?_
  simp only [slO,bytesV,ir179,go_sem,simprocAttr]
  refine W_calld (hm) rfl rfl rfl rfl ?_; simp only [go_sem,simprocAttr]
  simp only [byteR_len,go_sem,simprocAttr]
  by_cases g1 : (numB age).length = 0
  · have hs : startE l fr sz b age = 1 := if_pos g1
    simp only [show (((numB age).length : Int) == 0) = true by rw [beq_iff_eq]; omega, hs, go_sem, simprocAttr]
    refine BackR [] [0, 1, 2] [] (vs := [.int 1]) rfl rfl (by decide) (by simp) (by simp) rfl rfl ?_
    simp [oneOr,argR,LV.int]
  have hs1 : startE l fr sz b age = if oldB age (loadD l fr sz) = true then 6 else if (savF b age).length = 0 ∨ (savF b age).length > sz then 3 else 0 := if_neg g1
  simp only [show (((numB age).length : Int) == 0) = false from beq_eq_false_iff_ne.2 (by omega),go_sem,simprocAttr]
  refine W_callo [0, 1, 2] (hL) rfl (by simp only [argRs,argR,List.map_cons,List.map_nil,go_sem,simprocAttr]) (by decide) (by simp only [go_sem,simprocAttr]) (by simp only [go_sem,simprocAttr,List.all_cons,List.all_nil]) (by simp) ?_; simp only [go_sem,simprocAttr]
  have hfin : oldB age (loadD l fr sz) = false → startE l fr sz b age = 3 ∧ ((savF b age).length = 0 ∨ (savF b age).length > sz) := by
    intro e
    rw [e, if_neg Bool.false_ne_true] at hs1
    by_cases g : (savF b age).length = 0 ∨ (savF b age).length > sz
    · rw [if_pos g] at hs1; exact ⟨hs1, g⟩
    · rw [if_neg g] at hs1; exact absurd hs1 hE
  cases hq : loadD l fr sz with
  | none =>
    rw [hq] at hfin
    obtain ⟨hs3, g3⟩ := hfin rfl
    simp only [picV,bytesV,hs3,go_sem,simprocAttr]
    refine W_calld (hm) rfl rfl rfl rfl ?_; simp only [go_sem,simprocAttr]
    refine W_callf [3] (hcat) rfl (by simp [argRs,argR,rowsAt,objL,concR,go_sem,simprocAttr]) (by simp [objL]) rfl ?_; simp only [go_sem,simprocAttr]
    refine W_calld (hpf) rfl rfl rfl rfl ?_; simp only [go_sem,simprocAttr]
    simp only [byteR_len,go_sem,simprocAttr]
    by_cases g5 : (savF b age).length = 0
    · simp only [show (((savF b age).length : Int) == 0) = true by rw [beq_iff_eq]; omega, go_sem, simprocAttr]
      refine BackR [] [0, 1, 2] [] (vs := [.int 3]) rfl rfl (by decide) (by simp) (by simp) rfl rfl ?_
      simp [oneOr,argR,LV.int]
    · simp only [show (((savF b age).length : Int) == 0) = false from beq_eq_false_iff_ne.2 (by omega),byteR_len,decide_eq_true (show ((savF b age).length : Int) > (sz : Int) by omega),go_sem,simprocAttr]
      refine BackR [] [0, 1, 2] [] (vs := [.int 3]) rfl rfl (by decide) (by simp) (by simp) rfl rfl ?_
      simp [oneOr,argR,LV.int]
  | some q =>
    simp only [picV,bytesV,go_sem,simprocAttr]
    by_cases g4 : age ≤ q.2
    · have ho : oldB age (some q) = true := decide_eq_true g4
      rw [hq, ho, if_pos rfl] at hs1
      simp only [decide_eq_true g4,hs1,go_sem,simprocAttr]
      refine BackR [] [0, 1, 2] [] (vs := [.int 6]) rfl rfl (by decide) (by simp) (by simp) rfl rfl ?_
      simp [oneOr,argR,LV.int]
    rw [hq] at hfin
    obtain ⟨hs3, g3⟩ := hfin (decide_eq_false g4)
    simp only [decide_eq_false g4,hs3,go_sem,simprocAttr]
    refine W_calld (hm) rfl rfl rfl rfl ?_; simp only [go_sem,simprocAttr]
    refine W_callf [3] (hcat) rfl (by simp [argRs,argR,rowsAt,objL,concR,go_sem,simprocAttr]) (by simp [objL]) rfl ?_; simp only [go_sem,simprocAttr]
    refine W_calld (hpf) rfl rfl rfl rfl ?_; simp only [go_sem,simprocAttr]
    simp only [byteR_len,go_sem,simprocAttr]
    by_cases g5 : (savF b age).length = 0
    · simp only [show (((savF b age).length : Int) == 0) = true by rw [beq_iff_eq]; omega, go_sem, simprocAttr]
      refine BackR [] [0, 1, 2] [] (vs := [.int 3]) rfl rfl (by decide) (by simp) (by simp) rfl rfl ?_
      simp [oneOr,argR,LV.int]
    · simp only [show (((savF b age).length : Int) == 0) = false from beq_eq_false_iff_ne.2 (by omega),byteR_len,decide_eq_true (show ((savF b age).length : Int) > (sz : Int) by omega),go_sem,simprocAttr]
      refine BackR [] [0, 1, 2] [] (vs := [.int 3]) rfl rfl (by decide) (by simp) (by simp) rfl rfl ?_
      simp [oneOr,argR,LV.int]

def saveB (l : List Int) (fr sz : Nat) (b : List Int) (age : Int) : List Int := overB (overB l (fr + nextK l fr sz * sz) (List.replicate sz 0)) (fr + nextK l fr sz * sz) (savF b age)
theorem save_tri (l : List Int) (s : Int) (fr sz : Nat) (b : List Int) (age : Int) (hb : ∀ c ∈ l, 0 ≤ c ∧ c ≤ 255) (h : fr + 2 * sz ≤ l.length) (hz : 1 ≤ sz) (hl : 1 ≤ l.length ∧ l.length ≤ 65536) (hbl : b.length ≤ 90000) (hE : startE l fr sz b age = 0) : Tri Tryz.prog G 92 [.ptr 0 0, bytesV b, .int age] (slO l s fr sz) (.int 0) (slO (saveB l fr sz b age) (IntKind.i64.wrap (IntKind.i64.wrap (s + 1) + 1)) fr sz) := by
  have hst := slStart_tri (G := G) l s fr sz b age hb h hz hl hbl hE
  have hk : nextK l fr sz * sz + sz ≤ 2 * sz := by
    have : nextK l fr sz ≤ 1 := by unfold nextK; split <;> omega
    have := Nat.mul_le_mul_right sz this
    omega
  have hfl : (savF b age).length ≤ sz := by
    unfold startE at hE
    split at hE
    · exact absurd hE (by decide)
    split at hE
    · exact absurd hE (by decide)
    split at hE
    · exact absurd hE (by decide)
    omega
  have hA2 : fr + nextK l fr sz * sz + sz ≤ l.length := by omega
  have hS : saveB l fr sz b age = overB (overB l (fr + nextK l fr sz * sz) (List.replicate sz 0)) (fr + nextK l fr sz * sz) (savF b age) := rfl
  generalize fr + nextK l fr sz * sz = A at *
  have hol : (overB l A (List.replicate sz 0)).length = l.length := overB_len (by rw [List.length_replicate]; omega)
  have hs := diskSync_tri (G := G) (overB l A (List.replicate sz 0)) (IntKind.i64.wrap (s + 1)) A (savF b age) (by rw [hol]; omega) (by rw [hol]; exact hl)
  rw [← hS] at hs
  simp only [slO,slW,dskO,dskW,wtR,bytesV,List.cons_append,List.nil_append] at hst hs
  refine tri_W Tryz.func92 (by decide) irOk92 (Nat.le_of_ble_eq_true rfl) ?_
  simp only [slO,bytesV,ir92,go_sem,simprocAttr]
  refine W_callo [0, 1, 2] (hst) rfl (by simp only [argRs,argR,List.map_cons,List.map_nil,go_sem,simprocAttr]) (by decide) (by simp only [go_sem,simprocAttr]) (by simp only [go_sem,simprocAttr,List.all_cons,List.all_nil]) (by simp) ?_; simp only [go_sem,simprocAttr]
  refine W_callo [1, 2, 3] (hs) rfl (by simp only [argRs,argR,List.map_cons,List.map_nil,go_sem,simprocAttr]) (by decide) (by simp only [go_sem,simprocAttr]) (by simp only [go_sem,simprocAttr,List.all_cons,List.all_nil]) (by simp) ?_; simp only [go_sem,simprocAttr]
  refine BackR [] [0, 1, 2] [] (vs := [.int 0]) rfl rfl (by decide) (by simp) (by simp) rfl rfl ?_
  simp [oneOr,argR,LV.int]
theorem saveErr_tri (l : List Int) (s : Int) (fr sz : Nat) (b : List Int) (age : Int) (hb : ∀ c ∈ l, 0 ≤ c ∧ c ≤ 255) (h : fr + 2 * sz ≤ l.length) (hz : 1 ≤ sz) (hl : 1 ≤ l.length ∧ l.length ≤ 65536) (hbl : b.length ≤ 90000) (hE : startE l fr sz b age ≠ 0) : Tri Tryz.prog G 92 [.ptr 0 0, bytesV b, .int age] (slO l s fr sz) (.int (startE l fr sz b age)) (slO l s fr sz) := by
  have hst := startErr_tri (G := G) l s fr sz b age hb h hz hl hbl hE
  generalize startE l fr sz b age = e at *
  simp only [slO,bytesV] at hst
  refine tri_WP Tryz.func92 (by decide) irOk92 (Nat.le_of_ble_eq_true rfl) rfl rfl rfl ?_
  simp only [ir92,go_sem,simprocAttr]
  simp only [slO,bytesV,go_sem,simprocAttr]
  refine W_callo [0, 1, 2] (hst) rfl (by simp only [argRs,argR,List.map_cons,List.map_nil,go_sem,simprocAttr]) (by decide) (by simp only [go_sem,simprocAttr]) (by simp only [go_sem,simprocAttr,List.all_cons,List.all_nil]) (by simp) ?_; simp only [go_sem,simprocAttr]
  simp only [show (e != 0) = true from bne_iff_ne.2 hE,go_sem,simprocAttr]
def dkS (l : List Int) (s : Int) (fr sz : Nat) : List LObj := [.box 150 [.sl 1 l.length 1 0 l.length, .d (.val (.slice none 0 0)), .int s], .dat 5 1 (byteR l), .box 243 [.ptr 0 0, .int fr, .int sz]]
theorem slotsOpen_tri (l : List Int) (s : Int) (fr sz : Nat) (h : fr + 2 * sz ≤ l.length) (hz : 1 ≤ sz) (hl : 1 ≤ l.length ∧ l.length ≤ 65536) : Tri Tryz.prog G 80 [.ptr 0 0, .int fr, .int sz] (dskO l s) (.tup [.ptr 2 0, .int 0]) (dkS l s fr sz) := by
  have hs := diskSize_tri (G := G) l s
  simp only [dskO] at hs
  have w1 : IntKind.i64.wrap (2 * (sz : Int)) = ((2 * sz : Nat) : Int) := by rw [wrap_in (by omega) (by omega)]; omega
  have w2 : IntKind.i64.wrap ((l.length : Int) - ((2 * sz : Nat) : Int)) = ((l.length - 2 * sz : Nat) : Int) := by rw [wrap_in (by omega) (by omega)]; omega
  have q1 : IntKind.i64.wrap (((l.length : Nat) : Int).tdiv 2) = ((l.length / 2 : Nat) : Int) := by rw [Int.tdiv_eq_ediv_of_nonneg (by omega), wrap_in (by omega) (by omega)]; omega
  refine tri_W Tryz.func80 (by decide) irOk80 (Nat.le_of_ble_eq_true rfl) ?_
  simp only [dskO,ir80,go_sem,simprocAttr]
  simp only [decide_eq_false (show ¬ ((fr : Nat) : Int) < 0 by omega),decide_eq_false (show ¬ ((sz : Nat) : Int) < 1 by omega),go_sem,simprocAttr]
  refine W_callo [0, 1] (hs) rfl (by simp only [argRs,argR,List.map_cons,List.map_nil,go_sem,simprocAttr]) (by decide) (by simp only [go_sem,simprocAttr]) (by simp only [go_sem,simprocAttr,List.all_cons,List.all_nil]) (by simp) ?_; simp only [go_sem,simprocAttr]
  simp only [q1,decide_eq_false (show ¬ ((sz : Nat) : Int) > ((l.length / 2 : Nat) : Int) by omega),go_sem,simprocAttr]
  refine W_callo [0, 1] (hs) rfl (by simp only [argRs,argR,List.map_cons,List.map_nil,go_sem,simprocAttr]) (by decide) (by simp only [go_sem,simprocAttr]) (by simp only [go_sem,simprocAttr,List.all_cons,List.all_nil]) (by simp) ?_; simp only [go_sem,simprocAttr]
  simp only [w1,w2,decide_eq_false (show ¬ ((fr : Nat) : Int) > ((l.length - 2 * sz : Nat) : Int) by omega),go_sem,simprocAttr]
  refine BackR [] [0, 1, 2] [] (vs := [.ptr 2 0, .int 0]) rfl rfl (by decide) (by simp) (by simp) rfl rfl ?_
  simp [oneOr,argR,argRs,LV.int]
end Dv

namespace Dv
open Go Go.Proofs
variable {G : Nat → Option (List DV)}

def ir81 : Nat × C × List RV := (57,
(.seq (.reg [qo 6 (.mv (.c (.val (.pointer none)))),
 qo 7 (.mv (.c (.val (.slice none 0 0)))),
 qo 8 (.mv (qk 0))])
 (.seq (.seq (.reg [qm 12 1,
 qo 13 (.bin .lss (.t 12) (qk 0)),
 qm 14 13,
 qg 15 (.mv (.t 2)) 14 false,
 qg 16 (.bin .lss (.t 15) (qk 1)) 14 false,
 qo 17 (.pick (.t 14) qt (.t 16)),
 qm 18 17,
 qg 19 (.mv (.t 2)) 18 false,
 qg 20 (.mv (.t 0)) 18 false,
 qg 21 (.call (.f 79) [(.t 20)]) 18 false,
 qg 22 (.bin .gtr (.t 19) (.t 21)) 18 false,
 qo 23 (.pick (.t 18) qt (.t 22)),
 qm 24 23,
 qg 25 (.mv (.t 1)) 24 false,
 qg 26 (.mv (.t 0)) 24 false,
 qg 27 (.call (.f 79) [(.t 26)]) 24 false,
 qg 28 (.mv (.t 2)) 24 false,
 qg 29 (.bin .sub (.t 27) (.t 28)) 24 false,
 qg 30 (.bin .gtr (.t 25) (.t 29)) 24 false,
 qo 31 (.pick (.t 24) qt (.t 30))])
 (.cond (.t 31) (.seq (.reg [qo 6 (.mv (.c (.val (.pointer none)))),
 qo 7 (.mv (.c (.val (.slice none 0 0)))),
 qo 8 (.mv (qk 1))])
 .ret)
 .skip))
 (.seq (.reg [qm 32 0,
 qm 33 1,
 qm 34 2,
 qo 35 (.build [(.val (.pointer none)),q0,q0,q0] [(0,1,(.t 32)),(1,1,(.t 33)),(2,1,(.t 34))]),
 qo 36 (.box 245 (.t 35)),
 qm 9 36])
 (.seq (.reg [qm 38 0,
 qo 39 (.call (.f 58) [(.t 38)]),
 qm 40 1,
 qm 41 1,
 qm 42 2,
 qo 43 (.bin .add (.t 41) (.t 42)),
 qo 44 (.sli 1 (.t 39) (some (.t 40)) (some (.t 43)) none),
 qo 45 (.call (.f 167) [(.t 44),(qk 0)]),
 qm 37 45,
 qo 46 (.ext (.t 37) 0),
 qo 47 (.ext (.t 37) 1),
 qm 10 46,
 qm 11 47])
 (.seq (.reg [qm 48 9,
 qm 49 11,
 qo 50 (.nck (.t 48)),
 qo 51 (.fad 3 (.t 50)),
 qn (.st 1 (.t 51) (.t 49))])
 (.seq (.reg [qm 52 9,
 qm 53 11,
 qo 54 (.call (.f 168) [(.t 52),(.t 53)])])
 (.seq (.reg [qm 55 9,
 qm 56 10,
 qm 6 55,
 qm 7 56,
 qo 8 (.mv (qk 0))])
 .ret))))))),
[(.t 6),(.t 7),(.t 8)])
theorem irOk81 : convFn Tryz.prog Tryz.f81 = some ir81 := by kernel_rfl


def segB (l : List Int) (fr sz : Nat) : List Int := (l.drop fr).take sz
theorem segB_len {l : List Int} {fr sz : Nat} (h : fr + sz ≤ l.length) : (segB l fr sz).length = sz := by
  unfold segB
  rw [List.length_take, List.length_drop]
  omega
theorem segB_rng {l : List Int} {fr sz : Nat} (hb : ∀ c ∈ l, 0 ≤ c ∧ c ≤ 255) : ∀ c ∈ segB l fr sz, 0 ≤ c ∧ c ≤ 255 := fun c hc => hb c (List.mem_of_mem_drop (List.mem_of_mem_take hc))
def recs (l : List Int) (fr sz : Nat) : List (List Int) × Nat := allF (segB l fr sz) (sz + 1) [] 0
def dkL (l : List Int) (s : Int) (fr sz us : Nat) : List LObj := [.box 150 [.sl 1 l.length 1 0 l.length, .d (.val (.slice none 0 0)), .int s], .dat 5 1 (byteR l), .box 245 [.ptr 0 0, .int fr, .int sz, .int us]]
set_option maxHeartbeats 1000000 in
theorem logOpen_tri (l : List Int) (s : Int) (fr sz : Nat) (hb : ∀ c ∈ l, 0 ≤ c ∧ c ≤ 255) (hf : fr + sz ≤ l.length) (hz : 1 ≤ sz) (hl : 1 ≤ l.length ∧ l.length ≤ 65536) (he : (recs l fr sz).2 < sz) : Tri Tryz.prog G 81 [.ptr 0 0, .int fr, .int sz] (dskO l s) (.tup [.ptr 2 0, .d (.lst 1 (concR (recs l fr sz).1)), .int 0]) (dkL (overB l (fr + (recs l fr sz).2) (List.replicate (sz - (recs l fr sz).2) 0)) (IntKind.i64.wrap (s + 1)) fr sz (recs l fr sz).2) := by
  have hs := diskSize_tri (G := G) l s
  have hy := diskBytes_tri (G := G) l s hl
  have hsl := segB_len hf
  have ha := frameAll_tri (G := G) (segB l fr sz) (segB_rng hb) (by omega) 0 (Nat.zero_le _) (recs l fr sz) (by rw [hsl]; rfl)
  have hn := noughts_tri (G := G) l s fr sz (recs l fr sz).2 (recs l fr sz).2 hf he hl
  generalize recs l fr sz = R at *
  simp only [dskO,lgO,bytesV] at hs hy ha hn
  have w1 : IntKind.i64.wrap ((l.length : Int) - (sz : Int)) = ((l.length - sz : Nat) : Int) := by rw [wrap_in (by omega) (by omega)]; omega
  have w2 : IntKind.i64.wrap ((fr : Int) + (sz : Int)) = ((fr + sz : Nat) : Int) := by rw [wrap_in (by omega) (by omega)]; omega
  have c1 : fr ≤ fr + sz ∧ fr + sz ≤ l.length ∧ l.length ≤ l.length := by omega
  have c2 : (0 : Int) ≤ ((fr + sz : Nat) : Int) := by omega
  have e1 : fr + sz - fr = sz := by omega
  refine tri_W Tryz.func81 (by decide) irOk81 (Nat.le_of_ble_eq_true rfl) ?_
  simp only [dskO,ir81,go_sem,simprocAttr]
  simp only [decide_eq_false (show ¬ ((fr : Nat) : Int) < 0 by omega),decide_eq_false (show ¬ ((sz : Nat) : Int) < 1 by omega),go_sem,simprocAttr]
  refine W_callo [0, 1] (hs) rfl (by simp only [argRs,argR,List.map_cons,List.map_nil,go_sem,simprocAttr]) (by decide) (by simp only [go_sem,simprocAttr]) (by simp only [go_sem,simprocAttr,List.all_cons,List.all_nil]) (by simp) ?_; simp only [go_sem,simprocAttr]
  simp only [decide_eq_false (show ¬ ((sz : Nat) : Int) > ((l.length : Nat) : Int) by omega),go_sem,simprocAttr]
  refine W_callo [0, 1] (hs) rfl (by simp only [argRs,argR,List.map_cons,List.map_nil,go_sem,simprocAttr]) (by decide) (by simp only [go_sem,simprocAttr]) (by simp only [go_sem,simprocAttr,List.all_cons,List.all_nil]) (by simp) ?_; simp only [go_sem,simprocAttr]
  simp only [w1,decide_eq_false (show ¬ ((fr : Nat) : Int) > ((l.length - sz : Nat) : Int) by omega),go_sem,simprocAttr]
  refine W_callo [0, 1] (hy) rfl (by simp only [argRs,argR,List.map_cons,List.map_nil,go_sem,simprocAttr]) (by decide) (by simp only [go_sem,simprocAttr]) (by simp only [go_sem,simprocAttr,List.all_cons,List.all_nil]) (by simp) ?_; simp only [go_sem,simprocAttr]
  simp only [w2,c1,c2,e1,Int.toNat_natCast,byteR_len,byteR_drop,byteR_take,go_sem,simprocAttr]
  refine W_calld (ha) rfl rfl rfl rfl ?_; simp only [go_sem,simprocAttr]
  refine W_callo [2, 0, 1] (hn) rfl (by simp only [argRs,argR,List.map_cons,List.map_nil,go_sem,simprocAttr]) (by decide) (by simp only [go_sem,simprocAttr]) (by simp only [go_sem,simprocAttr,List.all_cons,List.all_nil]) (by simp) ?_; simp only [go_sem,simprocAttr]
  have hol : (overB l (fr + R.2) (List.replicate (sz - R.2) 0)).length = l.length := overB_len (by rw [List.length_replicate]; omega)
  refine BackR [] [0, 1, 2] [] (vs := [.ptr 2 0, .d (.lst 1 (concR R.1)), .int 0]) rfl rfl (by decide) (by simp) (by simp) rfl rfl ?_
  simp [oneOr,argR,argRs,LV.int]
end Dv

namespace Dv
open Go Go.Proofs
variable {G : Nat → Option (List DV)}

def jnO (n : Nat) (l : List Int) (s cnt age : Int) (us : Nat) : List LObj := [.box 160 [.ptr 1 0, .ptr 2 0, .ptr 3 0, .int cnt, .int age], .box 150 [.sl 4 n 1 0 n, .d (.val (.slice none 0 0)), .int s], .box 243 [.ptr 1 0, .int 0, .int ((n / 4 : Nat) : Int)], .box 245 [.ptr 1 0, .int ((2 * (n / 4) : Nat) : Int), .int ((n - 2 * (n / 4) : Nat) : Int), .int us], .dat 5 1 (byteR l)]

def ir185 : Nat × C × List RV := (13,
(.seq (.reg [qo 4 (.mv (.c (.val (.slice none 0 0))))])
 (.seq (.reg [qm 5 0,
 qo 6 (.nck (.t 5)),
 qo 7 (.fad 3 (.t 6)),
 qo 8 (.ld1 (.t 7)),
 qo 9 (.call (.f 230) [(.t 8)]),
 qm 10 1,
 qo 11 (.bsl 57 1 [(.t 9),(.t 10)]),
 qo 12 (.call (.f 232) [(.t 11)]),
 qm 4 12])
 .ret)),
[(.t 4)])
theorem irOk185 : convFn Tryz.prog Tryz.f185 = some ir185 := by kernel_rfl
def ir183 : Nat × C × List RV := (30,
(.seq (.reg [qo 4 (.mv qf)])
 (.seq (.regD [qm 5 0,
 qd 6 (.isnp true (.t 5)) [0],
 qd 7 (.mv (.t 6)) [1,0],
 qe 8 (.mv (.t 1)) 7 true [2,1,0],
 qe 9 (.bin .geq (.t 8) (qk 1)) 7 true [3,2,1,0],
 qd 10 (.pick (.t 7) (.t 9) qf) [2,1,0,4,3],
 qd 11 (.mv (.t 10)) [5,2,1,0,4,3],
 qe 12 (.mv (.t 1)) 11 true [6,5,2,1,0,4,3],
 qe 13 (.bin .leq (.t 12) (qk 3900)) 11 true [7,6,5,2,1,0,4,3],
 qd 14 (.pick (.t 11) (.t 13) qf) [6,5,2,1,0,4,3,8,7],
 qd 15 (.mv (.t 14)) [9,6,5,2,1,0,4,3,8,7],
 qe 16 (.mv (.t 0)) 15 true [10,9,6,5,2,1,0,4,3,8,7],
 qe 17 (.nck (.t 16)) 15 true [11,10,9,6,5,2,1,0,4,3,8,7],
 qe 18 (.fad 2 (.t 17)) 15 true [12,11,10,9,6,5,2,1,0,4,3,8,7],
 qe 19 (.ld1 (.t 18)) 15 true [13,12,11,10,9,6,5,2,1,0,4,3,8,7],
 qe 20 (.mv (.t 1)) 15 true [10,9,6,5,2,1,0,4,3,8,7],
 qe 21 (.mv (.t 0)) 15 true [10,9,6,5,2,1,0,4,3,8,7],
 qe 22 (.nck (.t 21)) 15 true [16,10,9,6,5,2,1,0,4,3,8,7],
 qe 23 (.fad 3 (.t 22)) 15 true [17,16,10,9,6,5,2,1,0,4,3,8,7],
 qe 24 (.ld1 (.t 23)) 15 true [18,17,16,10,9,6,5,2,1,0,4,3,8,7],
 qe 25 (.call (.f 230) [(.t 24)]) 15 true [19,18,17,16,10,9,6,5,2,1,0,4,3,8,7],
 qe 26 (.len (.t 25)) 15 true [20,19,18,17,16,10,9,6,5,2,1,0,4,3,8,7],
 qe 27 (.bin .add (.t 20) (.t 26)) 15 true [15,10,9,6,5,2,1,0,4,3,8,7,21,20,19,18,17,16],
 qe 28 (.call (.f 235) [(.t 19),(.t 27)]) 15 true [14,13,12,11,10,9,6,5,2,1,0,4,3,8,7,22,15,21,20,19,18,17,16],
 qd 29 (.pick (.t 15) (.t 28) qf) [10,9,6,5,2,1,0,4,3,8,7,23,14,13,12,11,22,15,21,20,19,18,17,16],
 qd 4 (.mv (.t 29)) [24,10,9,6,5,2,1,0,4,3,8,7,23,14,13,12,11,22,15,21,20,19,18,17,16]])
 .ret)),
[(.t 4)])
theorem irOk183 : convFn Tryz.prog Tryz.f183 = some ir183 := by kernel_rfl
def ir95 : Nat × C × List RV := (41,
(.seq (.reg [qo 4 (.mv (qk 0))])
 (.seq (.block 0 (.seq (.reg [qm 7 0,
 qo 8 (.isnp false (.t 7)),
 qm 9 8,
 qg 10 (.mv (.t 1)) 9 false,
 qg 11 (.len (.t 10)) 9 false,
 qg 12 (.bin .eql (.t 11) (qk 0)) 9 false,
 qo 13 (.pick (.t 9) qt (.t 12)),
 qm 14 13,
 qg 15 (.mv (.t 1)) 14 false,
 qg 16 (.len (.t 15)) 14 false,
 qg 17 (.bin .gtr (.t 16) (qk 3900)) 14 false,
 qo 18 (.pick (.t 14) qt (.t 17)),
 qm 6 18])
 (.cond (.t 6) (.seq (.reg [qo 4 (.mv (qk 1))])
 .ret)
 (.seq (.reg [qm 20 0,
 qm 21 1,
 qo 22 (.len (.t 21)),
 qo 23 (.call (.f 183) [(.t 20),(.t 22)]),
 qo 24 (.not (.t 23)),
 qm 19 24])
 (.cond (.t 19) (.seq (.reg [qo 4 (.mv (qk 3))])
 .ret)
 .skip)))))
 (.seq (.regD [qm 25 0,
 qd 26 (.nck (.t 25)) [0],
 qd 27 (.fad 2 (.t 26)) [1,0],
 qd 28 (.ld1 (.t 27)) [2,1,0],
 qm 29 0,
 qm 30 1,
 qd 31 (.call (.f 185) [(.t 29),(.t 30)]) [4,5],
 qd 32 (.call (.f 184) [(.t 28),(.t 31)]) [3,2,1,0,6,4,5],
 qd 5 (.mv (.t 32)) [7,3,2,1,0,6,4,5]])
 (.seq (.reg [qm 33 0,
 qo 34 (.nck (.t 33)),
 qo 35 (.fad 3 (.t 34)),
 qo 36 (.ld1 (.t 35)),
 qo 37 (.bin .add (.t 36) (qk 1)),
 qo 38 (.nck (.t 33)),
 qo 39 (.fad 3 (.t 38)),
 qn (.st 1 (.t 39) (.t 37))])
 (.seq (.reg [qm 40 5,
 qm 4 40])
 .ret))))),
[(.t 4)])
theorem irOk95 : convFn Tryz.prog Tryz.f95 = some ir95 := by kernel_rfl
def ir33 : Nat × C × List RV := (17,
(.seq (.reg [qo 4 (.mv (qk 0))])
 (.seq (.seq (.reg [qm 6 0,
 qm 7 1,
 qo 8 (.call (.f 95) [(.t 6),(.t 7)]),
 qm 5 8])
 (.seq (.reg [qm 9 5,
 qo 10 (.bin .neq (.t 9) (qk 0))])
 (.cond (.t 10) (.seq (.reg [qm 11 5,
 qm 4 11])
 .ret)
 .skip)))
 (.seq (.reg [qm 12 0,
 qo 13 (.nck (.t 12)),
 qo 14 (.fad 0 (.t 13)),
 qo 15 (.ld1 (.t 14)),
 qo 16 (.call (.f 96) [(.t 15)])])
 (.seq (.reg [qo 4 (.mv (qk 0))])
 .ret)))),
[(.t 4)])
theorem irOk33 : convFn Tryz.prog Tryz.f33 = some ir33 := by kernel_rfl
def ir31 : Nat × C × List RV := (41,
(.seq (.reg [qo 4 (.mv (qk 0))])
 (.seq (.seq (.reg [qm 5 0,
 qo 6 (.isnp false (.t 5))])
 (.cond (.t 6) (.seq (.reg [qo 4 (.mv (qk 1))])
 .ret)
 .skip))
 (.seq (.seq (.regD [qm 7 0,
 qd 8 (.nck (.t 7)) [0],
 qd 9 (.fad 4 (.t 8)) [1,0],
 qd 10 (.ld1 (.t 9)) [2,1,0],
 qm 11 0,
 qd 12 (.nck (.t 11)) [4],
 qd 13 (.fad 3 (.t 12)) [5,4],
 qd 14 (.ld1 (.t 13)) [6,5,4],
 qd 15 (.bin .eql (.t 10) (.t 14)) [3,2,1,0,7,6,5,4],
 qd 16 (.mv (.t 15)) [8,3,2,1,0,7,6,5,4],
 qe 17 (.mv (.t 0)) 16 false [9,8,3,2,1,0,7,6,5,4],
 qe 18 (.nck (.t 17)) 16 false [10,9,8,3,2,1,0,7,6,5,4],
 qe 19 (.fad 1 (.t 18)) 16 false [11,10,9,8,3,2,1,0,7,6,5,4],
 qe 20 (.ld1 (.t 19)) 16 false [12,11,10,9,8,3,2,1,0,7,6,5,4],
 qe 21 (.mv (.t 1)) 16 false [9,8,3,2,1,0,7,6,5,4],
 qe 22 (.mv (.t 0)) 16 false [9,8,3,2,1,0,7,6,5,4],
 qe 23 (.nck (.t 22)) 16 false [15,9,8,3,2,1,0,7,6,5,4],
 qe 24 (.fad 3 (.t 23)) 16 false [16,15,9,8,3,2,1,0,7,6,5,4],
 qe 25 (.ld1 (.t 24)) 16 false [17,16,15,9,8,3,2,1,0,7,6,5,4],
 qe 26 (.call (.f 92) [(.t 20),(.t 21),(.t 25)]) 16 false [13,12,11,10,9,8,3,2,1,0,7,6,5,4,14,18,17,16,15],
 qe 27 (.bin .neq (.t 26) (qk 0)) 16 false [19,13,12,11,10,9,8,3,2,1,0,7,6,5,4,14,18,17,16,15],
 qd 28 (.pick (.t 16) qt (.t 27)) [9,8,3,2,1,0,7,6,5,4,20,19,13,12,11,10,14,18,17,16,15]])
 (.cond (.t 28) (.seq (.reg [qo 4 (.mv (qk 3))])
 .ret)
 .skip))
 (.seq (.reg [qm 29 0,
 qm 30 0,
 qo 31 (.nck (.t 30)),
 qo 32 (.fad 3 (.t 31)),
 qo 33 (.ld1 (.t 32)),
 qo 34 (.nck (.t 29)),
 qo 35 (.fad 4 (.t 34)),
 qn (.st 1 (.t 35) (.t 33))])
 (.seq (.reg [qm 36 0,
 qo 37 (.nck (.t 36)),
 qo 38 (.fad 2 (.t 37)),
 qo 39 (.ld1 (.t 38)),
 qo 40 (.call (.f 86) [(.t 39)])])
 (.seq (.reg [qo 4 (.mv (qk 0))])
 .ret)))))),
[(.t 4)])
theorem irOk31 : convFn Tryz.prog Tryz.f31 = some ir31 := by kernel_rfl
theorem record_tri (n : Nat) (l : List Int) (s cnt age : Int) (us : Nat) (p : List Int) (hp : p.length ≤ 90000) : Tri Tryz.prog G 185 [.ptr 0 0, bytesV p] (jnO n l s cnt age us) (bytesV (numB cnt ++ p)) (jnO n l s cnt age us) := by
  have hm := num_tri (G := G) cnt
  have hcat := concat_tri (G := G) [numB cnt, p] (by simp) (by simp; have := numB_le cnt; omega)
  simp only [List.flatten_cons,List.flatten_nil,List.append_nil,concR,List.map_cons,List.map_nil,bytesV] at hcat hm
  refine tri_W Tryz.func185 (by decide) irOk185 (Nat.le_of_ble_eq_true rfl) ?_
  simp only [jnO,bytesV,ir185,go_sem,simprocAttr]
  refine W_calld (hm) rfl rfl rfl rfl ?_; simp only [go_sem,simprocAttr]
  refine W_callf [5] (hcat) rfl (by simp [argRs,argR,rowsAt,objL,concR,go_sem,simprocAttr]) (by simp [objL]) rfl ?_; simp only [go_sem,simprocAttr]
  refine BackR [] [0, 1, 2, 3, 4] [] (vs := [.d (.lst 1 (byteR (numB cnt ++ p)))]) rfl rfl (by decide) (by simp) (by simp) rfl rfl ?_
  simp [oneOr,argR]
def roomJ (n us : Nat) (cnt : Int) (k : Nat) : Bool := decide (1 ≤ k ∧ k ≤ 3900) && roomL (n - 2 * (n / 4)) us (k + (numB cnt).length)
theorem roomJ_tri (n : Nat) (l : List Int) (s cnt age : Int) (us k : Nat) (hl : l.length = n) (hn : n ≤ 65536) (hu : us ≤ n - 2 * (n / 4)) (hk : k ≤ 900000) : Tri Tryz.prog G 183 [.ptr 0 0, .int k] (jnO n l s cnt age us) (.bool (roomJ n us cnt k)) (jnO n l s cnt age us) := by
  have hm := num_tri (G := G) cnt
  have h9 := numB_le cnt
  have hr := logRoom_tri (G := G) l s (2 * (n / 4)) (n - 2 * (n / 4)) us (k + (numB cnt).length) hu (by omega) (by omega)
  have w1 : IntKind.i64.wrap ((k : Int) + ((numB cnt).length : Int)) = ((k + (numB cnt).length : Nat) : Int) := by rw [wrap_in (by omega) (by omega)]; omega
  simp only [bytesV,lgO,hl] at hm hr
  refine tri_WP Tryz.func183 (by decide) irOk183 (Nat.le_of_ble_eq_true rfl) rfl rfl rfl ?_
  simp only [ir183,go_sem,simprocAttr]
  simp only [jnO,go_sem,simprocAttr]
  by_cases h1 : 1 ≤ k
  case neg =>
    simp only [decide_eq_false (show ¬ ((k : Nat) : Int) ≥ 1 by omega),roomJ,decide_eq_false (show ¬ (1 ≤ k ∧ k ≤ 3900) by omega),go_sem,simprocAttr]
  by_cases h2 : k ≤ 3900
  case neg =>
    simp only [decide_eq_true (show ((k : Nat) : Int) ≥ 1 by omega),decide_eq_false (show ¬ ((k : Nat) : Int) ≤ 3900 by omega),roomJ,decide_eq_false (show ¬ (1 ≤ k ∧ k ≤ 3900) by omega),go_sem,simprocAttr]
  simp only [decide_eq_true (show ((k : Nat) : Int) ≥ 1 by omega),decide_eq_true (show ((k : Nat) : Int) ≤ 3900 by omega),roomJ,decide_eq_true (show (1 ≤ k ∧ k ≤ 3900) by omega),go_sem,simprocAttr]
  refine WD_calld (hm) rfl rfl rfl rfl ?_; simp only [go_sem,simprocAttr]
  simp only [byteR_len,w1,go_sem,simprocAttr]
  refine WD_callo [3, 1, 4] (hr) rfl (by simp only [argRs,argR,List.map_cons,List.map_nil,go_sem,simprocAttr]) (by decide) (by simp only [go_sem,simprocAttr]) (by simp only [go_sem,simprocAttr,List.all_cons,List.all_nil]) (by simp) ?_; simp only [go_sem,simprocAttr]
  refine W_opsD_end rfl ?_
  simp only [go_sem,simprocAttr]
def jnW (n : Nat) (l : List Int) (s cnt age : Int) (us a : Nat) (b : List Int) : List LObj := [.box 160 [.ptr 1 0, .ptr 2 0, .ptr 3 0, .int cnt, .int age], .box 150 [.sl 4 n 1 0 n, .sl 5 1 2 0 1, .int s], .box 243 [.ptr 1 0, .int 0, .int ((n / 4 : Nat) : Int)], .box 245 [.ptr 1 0, .int ((2 * (n / 4) : Nat) : Int), .int ((n - 2 * (n / 4) : Nat) : Int), .int us], .dat 5 1 (byteR l), .dat 227 2 (wtR a b)]
def recF (cnt : Int) (p : List Int) : List Int := putF (numB cnt ++ p)
set_option maxHeartbeats 1000000 in
theorem jstart_tri (n : Nat) (l : List Int) (s cnt age : Int) (us : Nat) (p : List Int) (hl : l.length = n) (hn : 1 ≤ n ∧ n ≤ 65536) (hu : us ≤ n - 2 * (n / 4)) (hr : roomJ n us cnt p.length = true) : Tri Tryz.prog G 95 [.ptr 0 0, bytesV p] (jnO n l s cnt age us) (.int 0) (jnW n l s (IntKind.i64.wrap (cnt + 1)) age (us + (recF cnt p).length) (2 * (n / 4) + us) (recF cnt p)) := by
  have hr2 := hr
  unfold roomJ at hr2
  rw [Bool.and_eq_true, decide_eq_true_eq] at hr2
  obtain ⟨⟨k1, k2⟩, k3⟩ := hr2
  have hrl : (numB cnt ++ p).length = p.length + (numB cnt).length := by rw [List.length_append, Nat.add_comm]
  have hq := roomJ_tri (G := G) n l s cnt age us p.length hl hn.2 hu (by omega)
  have hrec := record_tri (G := G) n l s cnt age us p (by omega)
  have hput := logPut_tri (G := G) l s (2 * (n / 4)) (n - 2 * (n / 4)) us (numB cnt ++ p) (by omega) hu (by omega) (by rw [hrl]; exact k3)
  rw [hr] at hq
  rw [show putF (numB cnt ++ p) = recF cnt p from rfl] at hput
  simp only [jnO,lgO,lgW,wtR,bytesV,hl] at hq hrec hput
  refine tri_W Tryz.func95 (by decide) irOk95 (Nat.le_of_ble_eq_true rfl) ?_
  simp only [jnO,bytesV,ir95,go_sem,simprocAttr]
  simp only [byteR_len,show (((p.length : Nat) : Int) == 0) = false from beq_eq_false_iff_ne.2 (by omega),go_sem,simprocAttr]
  simp only [byteR_len,decide_eq_false (show ¬ ((p.length : Nat) : Int) > 3900 by omega),go_sem,simprocAttr]
  refine W_callo [0, 1, 2, 3, 4] (hq) rfl (by simp only [argRs,argR,List.map_cons,List.map_nil,go_sem,simprocAttr]) (by decide) (by simp only [go_sem,simprocAttr]) (by simp only [go_sem,simprocAttr,List.all_cons,List.all_nil]) (by simp) ?_; simp only [go_sem,simprocAttr]
  refine WD_calll [0, 1, 2, 3, 4] (hrec) rfl (by simp only [argRs,argR,List.map_cons,List.map_nil,go_sem,simprocAttr]) (by decide) (by simp only [go_sem,simprocAttr]) (by simp only [go_sem,simprocAttr,List.all_cons,List.all_nil]) ?_; simp only [go_sem,simprocAttr]
  refine WD_callo [3, 1, 4] (hput) rfl (by simp only [argRs,argR,List.map_cons,List.map_nil,go_sem,simprocAttr]) (by decide) (by simp only [go_sem,simprocAttr]) (by simp only [go_sem,simprocAttr,List.all_cons,List.all_nil]) (by simp) ?_; simp only [go_sem,simprocAttr]
  refine W_opsD_end rfl ?_
  simp only [go_sem,simprocAttr]
  refine BackR [] [0, 1, 2, 3, 4, 5] [] (vs := [.int 0]) rfl rfl (by decide) (by simp) (by simp) rfl rfl ?_
  simp [oneOr,argR,LV.int]
set_option maxHeartbeats 1000000 in
theorem jappend_tri (n : Nat) (l : List Int) (s cnt age : Int) (us : Nat) (p : List Int) (hl : l.length = n) (hn : 1 ≤ n ∧ n ≤ 65536) (hu : us ≤ n - 2 * (n / 4)) (hr : roomJ n us cnt p.length = true) : Tri Tryz.prog G 33 [.ptr 0 0, bytesV p] (jnO n l s cnt age us) (.int 0) (jnO n (overB l (2 * (n / 4) + us) (recF cnt p)) (IntKind.i64.wrap (s + 1)) (IntKind.i64.wrap (cnt + 1)) age (us + (recF cnt p).length)) := by
  have hst := jstart_tri (G := G) n l s cnt age us p hl hn hu hr
  have hfit : 2 * (n / 4) + us + (recF cnt p).length ≤ n := by
    have hr2 := hr
    unfold roomJ roomL at hr2
    rw [Bool.and_eq_true, decide_eq_true_eq, decide_eq_true_eq] at hr2
    have hrl : (numB cnt ++ p).length = p.length + (numB cnt).length := by rw [List.length_append, Nat.add_comm]
    unfold recF
    rw [putF_len (by omega), hrl]
    omega
  have hsy := diskSync_tri (G := G) l s (2 * (n / 4) + us) (recF cnt p) (by omega) (by omega)
  have hov : (overB l (2 * (n / 4) + us) (recF cnt p)).length = n := by rw [overB_len (by omega), hl]
  simp only [jnO,jnW,dskO,dskW,wtR,bytesV,hov,hl,List.cons_append,List.nil_append] at hst hsy
  refine tri_W Tryz.func33 (by decide) irOk33 (Nat.le_of_ble_eq_true rfl) ?_
  simp only [jnO,bytesV,ir33,go_sem,simprocAttr]
  refine W_callo [0, 1, 2, 3, 4] (hst) rfl (by simp only [argRs,argR,List.map_cons,List.map_nil,go_sem,simprocAttr]) (by decide) (by simp only [go_sem,simprocAttr]) (by simp only [go_sem,simprocAttr,List.all_cons,List.all_nil]) (by simp) ?_; simp only [go_sem,simprocAttr]
  refine W_callo [1, 4, 5] (hsy) rfl (by simp only [argRs,argR,List.map_cons,List.map_nil,go_sem,simprocAttr]) (by decide) (by simp only [go_sem,simprocAttr]) (by simp only [go_sem,simprocAttr,List.all_cons,List.all_nil]) (by simp) ?_; simp only [go_sem,simprocAttr]
  refine BackR [] [0, 1, 2, 3, 4] [] (vs := [.int 0]) rfl rfl (by decide) (by simp) (by simp) rfl rfl ?_
  simp [oneOr,argR,LV.int]
theorem saveB_len {l : List Int} {sz : Nat} {b : List Int} {age : Int} (h : 2 * sz ≤ l.length) (hE : startE l 0 sz b age = 0) : (saveB l 0 sz b age).length = l.length := by
  have hk : nextK l 0 sz * sz + sz ≤ 2 * sz := by
    have : nextK l 0 sz ≤ 1 := by unfold nextK; split <;> omega
    have := Nat.mul_le_mul_right sz this
    omega
  have hfl : (savF b age).length ≤ sz := by
    unfold startE at hE
    split at hE
    · exact absurd hE (by decide)
    split at hE
    · exact absurd hE (by decide)
    split at hE
    · exact absurd hE (by decide)
    omega
  unfold saveB
  have h1 : (overB l (0 + nextK l 0 sz * sz) (List.replicate sz 0)).length = l.length := overB_len (by rw [List.length_replicate]; omega)
  rw [overB_len (by rw [h1]; omega), h1]
def compB (n : Nat) (l : List Int) (pic : List Int) (cnt : Int) : List Int := overB (saveB l 0 (n / 4) pic cnt) (2 * (n / 4)) (List.replicate (n - 2 * (n / 4)) 0)
set_option maxHeartbeats 1000000 in
theorem compact_tri (n : Nat) (l : List Int) (s cnt age : Int) (us : Nat) (pic : List Int) (hl : l.length = n) (hn : 64 ≤ n ∧ n ≤ 65536) (hb : ∀ c ∈ l, 0 ≤ c ∧ c ≤ 255) (hpl : pic.length ≤ 90000) (ha : age ≠ cnt) (hE : startE l 0 (n / 4) pic cnt = 0) : Tri Tryz.prog G 31 [.ptr 0 0, bytesV pic] (jnO n l s cnt age us) (.int 0) (jnO n (compB n l pic cnt) (IntKind.i64.wrap (IntKind.i64.wrap (IntKind.i64.wrap (s + 1) + 1) + 1)) cnt cnt 0) := by
  have hsv := save_tri (G := G) l s 0 (n / 4) pic cnt hb (by omega) (by omega) (by omega) hpl hE
  have hsl := saveB_len (l := l) (sz := n / 4) (b := pic) (age := cnt) (by omega) hE
  have hcl := logClear_tri (G := G) (saveB l 0 (n / 4) pic cnt) (IntKind.i64.wrap (IntKind.i64.wrap (s + 1) + 1)) (2 * (n / 4)) (n - 2 * (n / 4)) us (by omega) (by omega) (by omega)
  have hcb : (overB (saveB l 0 (n / 4) pic cnt) (2 * (n / 4)) (List.replicate (n - 2 * (n / 4)) 0)).length = n := by rw [overB_len (by rw [List.length_replicate]; omega), hsl, hl]
  simp only [slO,lgO,bytesV,hsl,hl,hcb] at hsv hcl
  refine tri_W Tryz.func31 (by decide) irOk31 (Nat.le_of_ble_eq_true rfl) ?_
  simp only [jnO,compB,bytesV,ir31,go_sem,simprocAttr]
  simp only [show (age == cnt) = false from beq_eq_false_iff_ne.2 ha,go_sem,simprocAttr]
  refine WD_callo [2, 1, 4] (hsv) rfl (by simp only [argRs,argR,List.map_cons,List.map_nil,go_sem,simprocAttr]) (by decide) (by simp only [go_sem,simprocAttr]) (by simp only [go_sem,simprocAttr,List.all_cons,List.all_nil]) (by simp) ?_; simp only [go_sem,simprocAttr]
  refine W_opsD_end rfl ?_
  simp only [go_sem,simprocAttr]
  refine W_callo [3, 1, 4] (hcl) rfl (by simp only [argRs,argR,List.map_cons,List.map_nil,go_sem,simprocAttr]) (by decide) (by simp only [go_sem,simprocAttr]) (by simp only [go_sem,simprocAttr,List.all_cons,List.all_nil]) (by simp) ?_; simp only [go_sem,simprocAttr]
  refine BackR [] [0, 1, 2, 3, 4] [] (vs := [.int 0]) rfl rfl (by decide) (by simp) (by simp) rfl rfl ?_
  simp [oneOr,argR,LV.int]
theorem compactSame_tri (n : Nat) (l : List Int) (s cnt : Int) (us : Nat) (pic : List Int) : Tri Tryz.prog G 31 [.ptr 0 0, bytesV pic] (jnO n l s cnt cnt us) (.int 3) (jnO n l s cnt cnt us) := by
  refine tri_WP Tryz.func31 (by decide) irOk31 (Nat.le_of_ble_eq_true rfl) rfl rfl rfl ?_
  simp only [ir31,go_sem,simprocAttr]
  simp only [jnO,bytesV,beq_self_eq_true,go_sem,simprocAttr]
theorem compactErr_tri (n : Nat) (l : List Int) (s cnt age : Int) (us : Nat) (pic : List Int) (hl : l.length = n) (hn : 64 ≤ n ∧ n ≤ 65536) (hb : ∀ c ∈ l, 0 ≤ c ∧ c ≤ 255) (hpl : pic.length ≤ 90000) (he : age ≠ cnt) (hE : startE l 0 (n / 4) pic cnt ≠ 0) : Tri Tryz.prog G 31 [.ptr 0 0, bytesV pic] (jnO n l s cnt age us) (.int 3) (jnO n l s cnt age us) := by
  have hsv := saveErr_tri (G := G) l s 0 (n / 4) pic cnt hb (by omega) (by omega) (by omega) hpl hE
  generalize startE l 0 (n / 4) pic cnt = e at *
  simp only [slO,bytesV,hl] at hsv
  refine tri_WP Tryz.func31 (by decide) irOk31 (Nat.le_of_ble_eq_true rfl) rfl rfl rfl ?_
  simp only [ir31,go_sem,simprocAttr]
  simp only [jnO,bytesV,show (age == cnt) = false from beq_eq_false_iff_ne.2 he,go_sem,simprocAttr]
  refine WD_calll [2, 1, 4] (hsv) rfl (by simp only [argRs,argR,List.map_cons,List.map_nil,go_sem,simprocAttr]) (by decide) (by simp only [go_sem,simprocAttr]) (by simp only [go_sem,simprocAttr,List.all_cons,List.all_nil]) ?_; simp only [go_sem,simprocAttr]
  simp only [show (e != 0) = true from bne_iff_ne.2 hE,go_sem,simprocAttr]
end Dv

namespace Dv
open Go Go.Proofs
variable {G : Nat → Option (List DV)}

def ir29 : Nat × C × List RV := (87,
(.seq (.reg [qo 2 (.mv (.c (.val (.pointer none)))),
 qo 3 (.mv (.c (.val (.slice none 0 0)))),
 qo 4 (.mv (.c (.val (.slice none 0 0)))),
 qo 5 (.mv (qk 0))])
 (.seq (.seq (.reg [qm 18 0,
 qo 19 (.call (.f 79) [(.t 18)]),
 qo 20 (.bin .lss (.t 19) (qk 64))])
 (.cond (.t 20) (.seq (.reg [qo 2 (.mv (.c (.val (.pointer none)))),
 qo 3 (.mv (.c (.val (.slice none 0 0)))),
 qo 4 (.mv (.c (.val (.slice none 0 0)))),
 qo 5 (.mv (qk 1))])
 .ret)
 .skip))
 (.seq (.reg [qm 21 0,
 qo 22 (.call (.f 79) [(.t 21)]),
 qo 23 (.bin .quo (.t 22) (qk 4)),
 qm 6 23])
 (.seq (.reg [qm 25 0,
 qm 26 6,
 qo 27 (.call (.f 80) [(.t 25),(qk 0),(.t 26)]),
 qm 24 27,
 qo 28 (.ext (.t 24) 0),
 qo 29 (.ext (.t 24) 1),
 qm 7 28,
 qm 8 29])
 (.seq (.reg [qm 31 0,
 qm 32 6,
 qo 33 (.bin .mul (qk 2) (.t 32)),
 qm 34 0,
 qo 35 (.call (.f 79) [(.t 34)]),
 qm 36 6,
 qo 37 (.bin .mul (qk 2) (.t 36)),
 qo 38 (.bin .sub (.t 35) (.t 37)),
 qo 39 (.call (.f 81) [(.t 31),(.t 33),(.t 38)]),
 qm 30 39,
 qo 40 (.ext (.t 30) 0),
 qo 41 (.ext (.t 30) 1),
 qo 42 (.ext (.t 30) 2),
 qm 9 40,
 qm 10 41,
 qm 11 42])
 (.seq (.reg [qm 43 0,
 qm 44 7,
 qm 45 9,
 qo 46 (.build [(.val (.pointer none)),(.val (.pointer none)),(.val (.pointer none)),q0,q0] [(0,1,(.t 43)),(1,1,(.t 44)),(2,1,(.t 45)),(4,1,(.c (.val (.int .i64 (-1)))))]),
 qo 47 (.box 160 (.t 46)),
 qo 12 (.new 56 [(.val (.pointer none))]),
 qn (.st 1 (.t 12) (.t 47))])
 (.seq (.reg [qm 49 7,
 qo 50 (.call (.f 82) [(.t 49)]),
 qm 48 50,
 qo 51 (.ext (.t 48) 0),
 qo 52 (.ext (.t 48) 1),
 qo 53 (.ext (.t 48) 2),
 qm 13 51,
 qm 14 52,
 qm 15 53])
 (.seq (.seq (.reg [qm 54 15])
 (.cond (.t 54) (.reg [qo 55 (.ld1 (.t 12)),
 qm 56 14,
 qo 57 (.nck (.t 55)),
 qo 58 (.fad 4 (.t 57)),
 qn (.st 1 (.t 58) (.t 56))])
 .skip))
 (.seq (.reg [qo 59 (.ld1 (.t 12)),
 qm 60 14,
 qo 61 (.nck (.t 59)),
 qo 62 (.fad 3 (.t 61)),
 qn (.st 1 (.t 62) (.t 60))])
 (.seq (.reg [qo 16 (.new 58 [(.val (.slice none 0 0))])])
 (.seq (.seq (.reg [qm 63 10,
 qm 64 14,
 qo 65 (.call (.f 83) [(.t 63),(.t 64)])])
 (.block 0 (.rfn (.t 65) [66] (.reg [qm 17 66])
 (.block 1 (.seq (.regD [qo 67 (.ld1 (.t 16)),
 qm 68 17,
 qd 69 (.call (.f 84) [(.t 68)]) [1],
 qd 70 (.bsl 57 1 [(.t 69)]) [2,1],
 qd 71 (.app 57 1 24 (.t 67) (.t 70)) [0,3,2,1],
 ql (.st 1 (.t 16) (.t 71)) [4,0,3,2,1]])
 (.reg [qo 72 (.ld1 (.t 12)),
 qo 73 (.nck (.t 72)),
 qo 74 (.fad 3 (.t 73)),
 qo 75 (.ld1 (.t 74)),
 qo 76 (.bin .add (.t 75) (qk 1)),
 qo 77 (.nck (.t 72)),
 qo 78 (.fad 3 (.t 77)),
 qn (.st 1 (.t 78) (.t 76))]))))))
 (.seq (.seq (.reg [qm 79 10,
 qm 80 14,
 qo 81 (.call (.f 85) [(.t 79),(.t 80)])])
 (.cond (.t 81) (.reg [qm 82 9,
 qo 83 (.call (.f 86) [(.t 82)])])
 .skip))
 (.seq (.regD [qo 84 (.ld1 (.t 12)),
 qm 85 13,
 qo 86 (.ld1 (.t 16)),
 qd 2 (.mv (.t 84)) [0],
 qd 3 (.mv (.t 85)) [1,3,0],
 qd 4 (.mv (.t 86)) [2,4,1,3,0],
 qd 5 (.mv (qk 0)) [5,2,4,1,3,0]])
 .ret))))))))))))),
[(.t 2),(.t 3),(.t 4),(.t 5)])
theorem irOk29 : convFn Tryz.prog Tryz.f29 = some ir29 := by kernel_rfl
def ir83 : Nat × C × List RV := (6,
(.seq (.reg [qo 2 (.box 58 (.t 0)),
 qo 3 (.box 3 (.t 1)),
 qo 4 (.mv (.c (.val .nilFunc)))])
 (.seq (.reg [qo 5 (.mkf (.func 171) [] [(.t 2),(.t 3)]),
 qm 4 5])
 .ret)),
[(.t 4)])
theorem irOk83 : convFn Tryz.prog Tryz.f83 = some ir83 := by kernel_rfl
def ir171 : Nat × C × List RV := (57,
(.seq (.reg [qo 9 (.ld1 (.t 1)),
 qo 10 (.len (.t 9)),
 qo 11 (.mv (qk 0))])
 (.block 0 (.loop (.seq (.reg [qo 12 (.bin .lss (.t 11) (.t 10))])
 (.seq (.cond (.t 12) .skip
 (.exit 0))
 (.seq (.block 1 (.seq (.reg [qo 13 (.ixa 1 (.t 9) (.t 11)),
 qo 14 (.ld1 (.t 13)),
 qm 5 14])
 (.seq (.reg [qm 16 5,
 qo 17 (.call (.f 172) [(.t 16),(qk 0)]),
 qm 15 17,
 qo 18 (.ext (.t 15) 0),
 qo 19 (.ext (.t 15) 1),
 qo 20 (.ext (.t 15) 2),
 qm 6 18,
 qm 7 19,
 qm 8 20])
 (.seq (.seq (.reg [qm 21 8,
 qm 22 21,
 qg 23 (.mv (.t 6)) 22 true,
 qg 24 (.ld1 (.t 2)) 22 true,
 qg 25 (.bin .lss (.t 23) (.t 24)) 22 true,
 qo 26 (.pick (.t 22) (.t 25) qf),
 qm 27 26,
 qg 28 (.mv (.t 5)) 27 true,
 qg 29 (.len (.t 28)) 27 true,
 qg 30 (.mv (.t 7)) 27 true,
 qg 31 (.bin .gtr (.t 29) (.t 30)) 27 true,
 qo 32 (.pick (.t 27) (.t 31) qf)])
 (.cond (.t 32) (.exit 1)
 .skip))
 (.seq (.seq (.reg [qm 33 8,
 qo 34 (.not (.t 33)),
 qm 35 34,
 qg 36 (.mv (.t 6)) 35 false,
 qg 37 (.ld1 (.t 2)) 35 false,
 qg 38 (.bin .neq (.t 36) (.t 37)) 35 false,
 qo 39 (.pick (.t 35) qt (.t 38)),
 qm 40 39,
 qg 41 (.mv (.t 5)) 40 false,
 qg 42 (.len (.t 41)) 40 false,
 qg 43 (.mv (.t 7)) 40 false,
 qg 44 (.bin .eql (.t 42) (.t 43)) 40 false,
 qo 45 (.pick (.t 40) qt (.t 44)),
 qm 46 45,
 qg 47 (.mv (.t 0)) 46 false,
 qg 48 (.mv (.t 5)) 46 false,
 qg 49 (.mv (.t 7)) 46 false,
 qg 50 (.sli 1 (.t 48) (some (.t 49)) none none) 46 false,
 qg 51 (.call (.t 47) [(.t 50)]) 46 false,
 qg 52 (.not (.t 51)) 46 false,
 qo 53 (.pick (.t 46) qt (.t 52))])
 (.cond (.t 53) .ret
 .skip))
 (.reg [qo 54 (.ld1 (.t 2)),
 qo 55 (.bin .add (.t 54) (qk 1)),
 qn (.st 1 (.t 2) (.t 55))]))))))
 (.reg [qo 56 (.bin .add (.t 11) (qk 1)),
 qm 11 56]))))))),
[])
theorem irOk171 : convFn Tryz.prog Tryz.f171 = some ir171 := by kernel_rfl
def ir85 : Nat × C × List RV := (14,
(.seq (.reg [qo 3 (.box 3 (.t 1)),
 qo 4 (.mv qf)])
 (.seq (.reg [qm 5 0,
 qo 6 (.len (.t 5)),
 qo 7 (.bin .gtr (.t 6) (qk 0)),
 qm 8 7,
 qg 9 (.mv (.t 0)) 8 true,
 qg 10 (.mkf (.func 174) [] [(.t 3)]) 8 true,
 qg 11 (.call (.f 173) [(.t 9),(.t 10)]) 8 true,
 qg 12 (.not (.t 11)) 8 true,
 qo 13 (.pick (.t 8) (.t 12) qf),
 qm 4 13])
 .ret)),
[(.t 4)])
theorem irOk85 : convFn Tryz.prog Tryz.f85 = some ir85 := by kernel_rfl


theorem getF_zero (m : Nat) : getF (List.replicate m 0) 0 = ([], 0, 0) := by
  unfold getF
  rw [if_neg (by omega), if_pos]
  cases m with
  | zero => exact .inl rfl
  | succ m => exact .inr rfl
theorem take_zero (n a b : Nat) (h : a + b ≤ n) : ((List.replicate n (0 : Int)).drop a).take b = List.replicate b 0 := by
  rw [List.drop_replicate, List.take_replicate, Nat.min_eq_left (by omega)]
theorem recs_zero (n fr sz : Nat) (h : fr + sz ≤ n) : recs (List.replicate n 0) fr sz = ([], 0) := by
  unfold recs segB
  rw [take_zero n fr sz h]
  unfold allF
  rw [getF_zero]
  rfl
theorem picD_zero (n fr sz k : Nat) (h : fr + k * sz + sz ≤ n) : picD (List.replicate n 0) fr sz k = none := by
  unfold picD slotB
  rw [take_zero n (fr + k * sz) sz h, getF_zero]
  rfl
theorem loadD_zero (n fr sz : Nat) (h : fr + 2 * sz ≤ n) : loadD (List.replicate n 0) fr sz = none := by
  have h0 := picD_zero n fr sz 0 (by omega)
  have h1 := picD_zero n fr sz 1 (by omega)
  unfold loadD
  have : nwQ (List.replicate n 0) fr sz 2 = (-1, -1) := by
    simp only [nwQ,h0,h1]
  rw [this]
  rfl
theorem overB_zero (n a m : Nat) (h : a + m ≤ n) : overB (List.replicate n 0) a (List.replicate m 0) = List.replicate n 0 := by
  unfold overB
  rw [List.take_replicate, List.drop_replicate, List.length_replicate, List.replicate_append_replicate, List.replicate_append_replicate, Nat.min_eq_left (by omega)]
  congr 1
  omega
def folV (p q : Nat) : LV := .fn (.func 171) [] [.ptr p 0, .ptr q 0]
theorem following_tri (rs : List (List Int)) (fr : Int) : Tri Tryz.prog G 83 [.d (.lst 1 (concR rs)), .int fr] [] (folV 0 1) [.box 58 [.d (.lst 1 (concR rs))], .box 3 [.int fr]] := by
  refine tri_W Tryz.func83 (by decide) irOk83 (Nat.le_of_ble_eq_true rfl) ?_
  simp only [ir83,go_sem,simprocAttr]
  exact BackR [] [0, 1] [] rfl rfl (by simp) (fun _ h => by cases h) (fun _ h => by cases h) rfl rfl (by simp [folV,adopt,St.obj,objL,oneOr,St.get,getE,argR,argRs])
def jnP (n : Nat) (l : List Int) (s cnt age : Int) (us : Nat) : List LObj := [.box 150 [.sl 1 n 1 0 n, .d (.val (.slice none 0 0)), .int s], .dat 5 1 (byteR l), .box 160 [.ptr 0 0, .ptr 3 0, .ptr 4 0, .int cnt, .int age], .box 243 [.ptr 0 0, .int 0, .int ((n / 4 : Nat) : Int)], .box 245 [.ptr 0 0, .int ((2 * (n / 4) : Nat) : Int), .int ((n - 2 * (n / 4) : Nat) : Int), .int us]]
theorem elder0_tri : Tri Tryz.prog G 85 [.d (.lst 1 []), .int 0] [] (.bool false) [] := by
  refine tri_W0 Tryz.func85 (by decide) irOk85 (Nat.le_of_ble_eq_true rfl) rfl ?_
  simp only [ir85,go_sem,simprocAttr]
def bOp (n : Nat) (s : Int) : List (Option LObj) := [some (.box 150 [.sl 1 n 1 0 n, .d (.val (.slice none 0 0)), .int s]), some (.dat 5 1 (byteR (List.replicate n 0))), some (.box 243 [.ptr 0 0, .int 0, .int ((n / 4 : Nat) : Int)]), some (.box 245 [.ptr 0 0, .int ((2 * (n / 4) : Nat) : Int), .int ((n - 2 * (n / 4) : Nat) : Int), .int 0]), some (.box 160 [.ptr 0 0, .ptr 2 0, .ptr 3 0, .int 0, .int (-1)]), some (.box 56 [.ptr 4 0]), some (.box 58 [.d (.val (.slice none 0 0))]), some (.box 58 [.d (.lst 1 [])]), some (.box 3 [.int 0])]
set_option maxHeartbeats 2000000 in
theorem jopen0_tri (n : Nat) (s : Int) (hn : 64 ≤ n ∧ n ≤ 65536) : Tri Tryz.prog G 29 [.ptr 0 0] (dskO (List.replicate n 0) s) (.tup [.ptr 2 0, bytesV [], .d (.lst 1 []), .int 0]) (jnP n (List.replicate n 0) (IntKind.i64.wrap (s + 1)) 0 (-1) 0) := by
  have hlen : (List.replicate n (0 : Int)).length = n := List.length_replicate
  have hsz := diskSize_tri (G := G) (List.replicate n 0) s
  have hso := slotsOpen_tri (G := G) (List.replicate n 0) s 0 (n / 4) (by rw [hlen]; omega) (by omega) (by rw [hlen]; omega)
  have hz : ∀ c ∈ List.replicate n (0 : Int), 0 ≤ c ∧ c ≤ 255 := fun c hc => by rw [List.eq_of_mem_replicate hc]; decide
  have hR := recs_zero n (2 * (n / 4)) (n - 2 * (n / 4)) (by omega)
  have hlo := logOpen_tri (G := G) (List.replicate n 0) s (2 * (n / 4)) (n - 2 * (n / 4)) hz (by rw [hlen]; omega) (by omega) (by rw [hlen]; omega) (by rw [hR]; dsimp only; omega)
  have hld := load_tri (G := G) (List.replicate n 0) (IntKind.i64.wrap (s + 1)) 0 (n / 4) hz (by rw [hlen]; omega) (by rw [hlen]; omega)
  rw [loadD_zero n 0 (n / 4) (by omega)] at hld
  rw [hR] at hlo
  simp only [Nat.add_zero,Nat.sub_zero,overB_zero n (2 * (n / 4)) (n - 2 * (n / 4)) (by omega)] at hlo
  simp only [dskO,dkS,dkL,slO,picV,bytesV,hlen,concR,List.map_nil] at hsz hso hlo hld
  have w1 : IntKind.i64.wrap (((n : Nat) : Int).tdiv 4) = ((n / 4 : Nat) : Int) := by rw [Int.tdiv_eq_ediv_of_nonneg (by omega), wrap_in (by omega) (by omega)]; omega
  have w2 : IntKind.i64.wrap (2 * ((n / 4 : Nat) : Int)) = ((2 * (n / 4) : Nat) : Int) := by rw [wrap_in (by omega) (by omega)]; omega
  have w3 : IntKind.i64.wrap (((n : Nat) : Int) - ((2 * (n / 4) : Nat) : Int)) = ((n - 2 * (n / 4) : Nat) : Int) := by rw [wrap_in (by omega) (by omega)]; omega
  refine tri_W Tryz.func29 (by decide) irOk29 (Nat.le_of_ble_eq_true rfl) ?_
  simp only [dskO,hlen,ir29,go_sem,simprocAttr]
  refine W_callo [0, 1] (hsz) rfl (by simp only [argRs,argR,List.map_cons,List.map_nil,go_sem,simprocAttr]) (by decide) (by simp only [go_sem,simprocAttr]) (by simp only [go_sem,simprocAttr,List.all_cons,List.all_nil]) (by simp) ?_; simp only [go_sem,simprocAttr]
  simp only [decide_eq_false (show ¬ ((n : Nat) : Int) < 64 by omega),go_sem,simprocAttr]
  refine W_callo [0, 1] (hsz) rfl (by simp only [argRs,argR,List.map_cons,List.map_nil,go_sem,simprocAttr]) (by decide) (by simp only [go_sem,simprocAttr]) (by simp only [go_sem,simprocAttr,List.all_cons,List.all_nil]) (by simp) ?_; simp only [go_sem,simprocAttr]
  simp only [w1,go_sem,simprocAttr]
  refine W_callo [0, 1] (hso) rfl (by simp only [argRs,argR,List.map_cons,List.map_nil,go_sem,simprocAttr]) (by decide) (by simp only [go_sem,simprocAttr]) (by simp only [go_sem,simprocAttr,List.all_cons,List.all_nil]) (by simp) ?_; simp only [go_sem,simprocAttr]
  simp only [w2,go_sem,simprocAttr]
  refine W_callo [0, 1] (hsz) rfl (by simp only [argRs,argR,List.map_cons,List.map_nil,go_sem,simprocAttr]) (by decide) (by simp only [go_sem,simprocAttr]) (by simp only [go_sem,simprocAttr,List.all_cons,List.all_nil]) (by simp) ?_; simp only [go_sem,simprocAttr]
  simp only [w2,w3,go_sem,simprocAttr]
  refine W_callo [0, 1] (hlo) rfl (by simp only [argRs,argR,List.map_cons,List.map_nil,go_sem,simprocAttr]) (by decide) (by simp only [go_sem,simprocAttr]) (by simp only [go_sem,simprocAttr,List.all_cons,List.all_nil]) (by simp) ?_; simp only [go_sem,simprocAttr]
  refine W_callo [2, 0, 1] (hld) rfl (by simp only [argRs,argR,List.map_cons,List.map_nil,go_sem,simprocAttr]) (by decide) (by simp only [go_sem,simprocAttr]) (by simp only [go_sem,simprocAttr,List.all_cons,List.all_nil]) (by simp) ?_; simp only [go_sem,simprocAttr]
  have hfo := following_tri (G := G) [] 0
  simp only [concR,List.map_nil,folV] at hfo
  refine W_calln hfo rfl rfl rfl ?_
  simp only [go_sem,simprocAttr]
  refine W_rfn rfl (fun yv o => yv = rdyV ∧ o = bOp n (IntKind.i64.wrap (s + 1)) ++ [none]) ?_ ?_
  case refine_2 =>
    rintro yv objs ⟨rfl, rfl⟩
    refine .inl ⟨rfl, ?_⟩
    simp only [bOp,List.cons_append,List.nil_append,go_sem,simprocAttr]
    have hel := elder0_tri (G := G)
    refine W_calld (hel) rfl rfl rfl rfl ?_; simp only [go_sem,simprocAttr]
    refine BackR [] [0, 1, 4, 2, 3] [] (vs := [.ptr 4 0, .d (.lst 1 (byteR [])), .d (.val (.slice none 0 0)), .int 0]) rfl rfl (by decide) (by simp) (by simp) rfl rfl ?_
    simp [oneOr,argR,argRs,bytesV,LV.int]
  simp only [List.cons_append,List.nil_append,go_sem,simprocAttr]
  refine itri_W Tryz.func171 (by decide) irOk171 (Nat.le_of_ble_eq_true rfl) rfl rfl ?_
  simp only [ir171,go_sem,simprocAttr]
  refine W_loopI [10, 11, 4294967294] [] (fun k : Nat => k = 0) (fun k => 1 - k) (fun _ => ⟨[(10, .int 0), (11, .int 0), (4294967294, rdyV)], bOp n (IntKind.i64.wrap (s + 1)) ++ [none]⟩) 0 ?_ rfl (fun k hk => ?_)
  · simp only [bOp,List.cons_append,List.nil_append,go_sem,simprocAttr]
  simp only [bOp,List.cons_append,List.nil_append,go_sem,simprocAttr]
end Dv

namespace Dv
open Go Go.Proofs
variable {G : Nat → Option (List DV)}

structure ShD where
  ce : Int
  cd : List Int
  se : Int
  sd : List Int
def shZ : ShD := ⟨0, [], 0, []⟩
def datV : List Int → LV
  | [] => .d (.val (.slice none 0 0))
  | x :: l => bytesV (x :: l)
def shC (x : ShD) : List LV := [.int x.ce, datV x.cd, .int x.se, datV x.sd]
def stO (room term : Int) (sh : List ShD) (wr : Int) : List LObj := [.box 190 ([.int room, .int term] ++ (sh.flatMap shC ++ [.int wr]))]

theorem datV_idl (k : Nat) (d : List Int) : idl k (datV d) = true := by cases d <;> rfl
theorem datV_rn (π : Nat → Nat) (d : List Int) : rn π (datV d) = datV d := by cases d <;> rfl
theorem idlL_cat (k : Nat) : ∀ a b : List LV, idlL k (a ++ b) = (idlL k a && idlL k b)
  | [], b => by simp [idlL]
  | x :: a, b => by simp only [List.cons_append,idlL,idlL_cat k a b,Bool.and_assoc]
theorem rnL_cat (π : Nat → Nat) : ∀ a b : List LV, rnL π (a ++ b) = rnL π a ++ rnL π b
  | [], b => rfl
  | x :: a, b => by simp only [List.cons_append,rnL,rnL_cat π a b]
theorem shC_idl (k : Nat) (sh : List ShD) : idlL k (sh.flatMap shC) = true := by
  induction sh with
  | nil => rfl
  | cons x sh ih => simp only [List.flatMap_cons,idlL_cat,ih,shC,idlL,datV_idl,LV.int,idl,Bool.and_true]
theorem shC_rn (π : Nat → Nat) (sh : List ShD) : rnL π (sh.flatMap shC) = sh.flatMap shC := by
  induction sh with
  | nil => rfl
  | cons x sh ih => simp only [List.flatMap_cons,rnL_cat,ih,shC,rnL,datV_rn,LV.int,rn]
theorem stO_idl (k : Nat) (room term : Int) (sh : List ShD) (wr : Int) : (stO room term sh wr).all (idlO k) = true := by
  simp only [stO,List.all_cons,List.all_nil,idlO,Bool.and_true,idlL_cat,shC_idl]
  rfl

def ir35 : Nat × C × List RV := (7,
(.seq (.reg [qo 2 (.mv (.c (.val (.pointer none))))])
 (.seq (.reg [qm 3 0,
 qo 4 (.max (qk 0) (.t 3)),
 qo 5 (.build [q0,q0,q0,(.val (.slice none 0 0)),q0,(.val (.slice none 0 0)),q0,(.val (.slice none 0 0)),q0,(.val (.slice none 0 0)),q0,(.val (.slice none 0 0)),q0,(.val (.slice none 0 0)),q0,(.val (.slice none 0 0)),q0,(.val (.slice none 0 0)),q0,(.val (.slice none 0 0)),q0,(.val (.slice none 0 0)),q0,(.val (.slice none 0 0)),q0,(.val (.slice none 0 0)),q0,(.val (.slice none 0 0)),q0,(.val (.slice none 0 0)),q0,(.val (.slice none 0 0)),q0,(.val (.slice none 0 0)),q0,(.val (.slice none 0 0)),q0,(.val (.slice none 0 0)),q0,(.val (.slice none 0 0)),q0,(.val (.slice none 0 0)),q0,(.val (.slice none 0 0)),q0,(.val (.slice none 0 0)),q0,(.val (.slice none 0 0)),q0,(.val (.slice none 0 0)),q0,(.val (.slice none 0 0)),q0,(.val (.slice none 0 0)),q0,(.val (.slice none 0 0)),q0,(.val (.slice none 0 0)),q0,(.val (.slice none 0 0)),q0,(.val (.slice none 0 0)),q0,(.val (.slice none 0 0)),q0,(.val (.slice none 0 0)),q0,(.val (.slice none 0 0)),q0,(.val (.slice none 0 0)),q0,(.val (.slice none 0 0)),q0,(.val (.slice none 0 0)),q0,(.val (.slice none 0 0)),q0,(.val (.slice none 0 0)),q0,(.val (.slice none 0 0)),q0,(.val (.slice none 0 0)),q0,(.val (.slice none 0 0)),q0,(.val (.slice none 0 0)),q0,(.val (.slice none 0 0)),q0,(.val (.slice none 0 0)),q0,(.val (.slice none 0 0)),q0,(.val (.slice none 0 0)),q0,(.val (.slice none 0 0)),q0,(.val (.slice none 0 0)),q0,(.val (.slice none 0 0)),q0,(.val (.slice none 0 0)),q0] [(0,1,(.t 4))]),
 qo 6 (.box 190 (.t 5)),
 qm 2 6])
 .ret)),
[(.t 2)])
theorem irOk35 : convFn Tryz.prog Tryz.f35 = some ir35 := by kernel_rfl
def ir101 : Nat × C × List RV := (15,
(.seq (.reg [qm 4 0,
 qo 5 (.isnp true (.t 4))])
 (.cond (.t 5) (.reg [qm 6 0,
 qm 7 0,
 qo 8 (.nck (.t 7)),
 qo 9 (.fad 1 (.t 8)),
 qo 10 (.ld1 (.t 9)),
 qm 11 1,
 qo 12 (.max (.t 10) (.t 11)),
 qo 13 (.nck (.t 6)),
 qo 14 (.fad 1 (.t 13)),
 qn (.st 1 (.t 14) (.t 12))])
 .skip)),
[])
theorem irOk101 : convFn Tryz.prog Tryz.f101 = some ir101 := by kernel_rfl
def ir126 : Nat × C × List RV := (20,
(.seq (.reg [qo 4 (.mv (.c (.val (.pointer none))))])
 (.seq (.seq (.reg [qm 5 0,
 qo 6 (.isnp false (.t 5)),
 qm 7 6,
 qg 8 (.mv (.t 1)) 7 false,
 qg 9 (.bin .lss (.t 8) (qk 1)) 7 false,
 qo 10 (.pick (.t 7) qt (.t 9)),
 qm 11 10,
 qg 12 (.mv (.t 1)) 11 false,
 qg 13 (.bin .gtr (.t 12) (qk 24)) 11 false,
 qo 14 (.pick (.t 11) qt (.t 13))])
 (.cond (.t 14) (.seq (.reg [qo 4 (.mv (.c (.val (.pointer none))))])
 .ret)
 .skip))
 (.seq (.reg [qm 15 0,
 qm 16 1,
 qo 17 (.nck (.t 15)),
 qo 18 (.fad 2 (.t 17)),
 qo 19 (.ixr 25 4 (.t 18) (.t 16)),
 qm 4 19])
 .ret))),
[(.t 4)])
theorem irOk126 : convFn Tryz.prog Tryz.f126 = some ir126 := by kernel_rfl
def ir102 : Nat × C × List RV := (13,
(.seq (.reg [qm 5 0,
 qm 6 1,
 qo 7 (.call (.f 126) [(.t 5),(.t 6)]),
 qm 4 7])
 (.seq (.reg [qm 8 4,
 qo 9 (.isnp true (.t 8))])
 (.cond (.t 9) (.reg [qm 10 4,
 qo 11 (.build [q0,(.val (.slice none 0 0)),q0,(.val (.slice none 0 0))] []),
 qo 12 (.nck (.t 10)),
 qn (.st 4 (.t 12) (.t 11))])
 .skip))),
[])
theorem irOk102 : convFn Tryz.prog Tryz.f102 = some ir102 := by kernel_rfl


theorem storeNew_tri (room : Int) : Tri Tryz.prog G 35 [.int room] [] (.ptr 0 0) (stO (if room > 0 then room else 0) 0 (List.replicate 25 shZ) 0) := by
  refine tri_W Tryz.func35 (by decide) irOk35 (Nat.le_of_ble_eq_true rfl) ?_
  simp only [ir35,go_sem,simprocAttr]
  refine BackR [] [0] [] (vs := [.ptr 0 0]) rfl rfl (by decide) (by simp) (by simp) rfl rfl ?_
  simp [oneOr,argR]
theorem storeFence_tri (room term : Int) (sh : List ShD) (wr t : Int) : Tri Tryz.prog G 101 [.ptr 0 0, .int t] (stO room term sh wr) (.tup []) (stO room (if t > term then t else term) sh wr) := by
  refine tri_WP Tryz.func101 (by decide) irOk101 (Nat.le_of_ble_eq_true rfl) rfl (stO_idl _ _ _ _ _) rfl ?_
  simp only [stO,List.cons_append,List.nil_append,ir101,go_sem,simprocAttr]
theorem storeJob_tri (room term : Int) (sh : List ShD) (wr : Int) (k : Nat) (hk : 1 ≤ k ∧ k ≤ 24) : Tri Tryz.prog G 126 [.ptr 0 0, .int k] (stO room term sh wr) (.ptr 0 (2 + 4 * k)) (stO room term sh wr) := by
  refine tri_WP Tryz.func126 (by decide) irOk126 (Nat.le_of_ble_eq_true rfl) rfl (stO_idl _ _ _ _ _) rfl ?_
  simp only [stO,List.cons_append,List.nil_append,ir126,go_sem,simprocAttr]
  simp only [decide_eq_false (show ¬ ((k : Nat) : Int) < 1 by omega),decide_eq_false (show ¬ ((k : Nat) : Int) > 24 by omega),go_sem,simprocAttr]
  simp only [show k < 25 by omega,show 2 + k * 4 = 2 + 4 * k by omega,go_sem,simprocAttr]
theorem shC_len (sh : List ShD) : (sh.flatMap shC).length = 4 * sh.length := by
  induction sh with
  | nil => rfl
  | cons x sh ih => rw [List.flatMap_cons, List.length_append, ih]; show 4 + _ = _; rw [List.length_cons]; omega
theorem shC_set (x : ShD) : ∀ (sh : List ShD) (k : Nat), k < sh.length → (sh.flatMap shC).take (4 * k) ++ shC x ++ (sh.flatMap shC).drop (4 * k + 4) = (sh.set k x).flatMap shC
  | [], k, h => absurd h (Nat.not_lt_zero _)
  | y :: sh, 0, _ => by simp [List.flatMap_cons,shC]
  | y :: sh, k + 1, h => by
    have ih := shC_set x sh k (by simpa using h)
    rw [List.set_cons_succ, List.flatMap_cons, List.flatMap_cons, ← ih, show 4 * (k + 1) = 4 * k + 4 by omega, show 4 * k + 4 + 4 = (4 * k + 4) + 4 by omega]
    simp [shC]
theorem shC_set2 (a b w : LV) (x : ShD) (sh : List ShD) (k : Nat) (h : k < sh.length) : (a :: b :: (sh.flatMap shC ++ [w])).take (2 + 4 * k) ++ shC x ++ (sh.flatMap shC ++ [w]).drop (2 + 4 * k + 2) = a :: b :: ((sh.set k x).flatMap shC ++ [w]) := by
  have hl := shC_len sh
  rw [← shC_set x sh k h, show 2 + 4 * k = (4 * k + 1) + 1 by omega, List.take_succ_cons, List.take_succ_cons, show 4 * k + 1 + 1 + 2 = 4 * k + 4 by omega, List.take_append_of_le_length (by omega), List.drop_append_of_le_length (by omega)]
  simp
theorem storeEnd_tri (room term : Int) (sh : List ShD) (wr : Int) (k : Nat) (hk : 1 ≤ k ∧ k ≤ 24) (hs : sh.length = 25) : Tri Tryz.prog G 102 [.ptr 0 0, .int k] (stO room term sh wr) (.tup []) (stO room term (sh.set k shZ) wr) := by
  have hj := storeJob_tri (G := G) room term sh wr k hk
  simp only [stO,List.cons_append,List.nil_append] at hj
  refine tri_WP Tryz.func102 (by decide) irOk102 (Nat.le_of_ble_eq_true rfl) rfl (stO_idl _ _ _ _ _) rfl ?_
  simp only [stO,List.cons_append,List.nil_append,ir102,go_sem,simprocAttr]
  refine W_calll [0] (hj) rfl (by simp only [argRs,argR,List.map_cons,List.map_nil,go_sem,simprocAttr,rnL_cat,shC_rn,idlL_cat,shC_idl]) (by decide) (by simp only [go_sem,simprocAttr,rnL_cat,shC_rn,idlL_cat,shC_idl]) (by simp only [go_sem,simprocAttr,List.all_cons,List.all_nil,rnL_cat,shC_rn,idlL_cat,shC_idl]) ?_; simp only [go_sem,simprocAttr,rnL_cat,shC_rn,idlL_cat,shC_idl]
  have hl := shC_len sh
  have hset := shC_set2 (.int room) (.int term) (.int wr) shZ sh k (by omega)
  have c1 : 2 + 4 * k + 2 ≤ (sh.flatMap shC ++ [LV.int wr]).length := by rw [List.length_append, hl]; simp; omega
  simp only [LV.int,shC,shZ,datV] at hset c1
  rw [if_pos c1, hset]
  simp only [go_sem,simprocAttr]
  rfl
end Dv
