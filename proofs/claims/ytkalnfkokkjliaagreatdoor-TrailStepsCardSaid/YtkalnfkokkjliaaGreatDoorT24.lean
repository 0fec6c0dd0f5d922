/- trail.Diff's parts: strconv.Itoa, tell, number, pick. -/
import Derived.Test.YtkalnfkokkjliaaGreatDoorSI
import Derived.Test.YtkalnfkokkjliaaGreatDoorDB
import Derived.Test.YtkalnfkokkjliaaGreatDoorVD
import Derived.FnData
import Derived.Lib.ItoaLen
set_option linter.unusedVariables false
set_option linter.unusedSimpArgs false
namespace Dv
open Go Go.Proofs
open Go.RowKit
variable {G : Nat → Option (List DV)}

def ir75 : Nat × C × List RV := (10,
(.seq (.reg [qm 5 0])
 (.cond (.t 5) (.reg [qo 6 (.ld1 (.t 2)),
 qm 7 1,
 qo 8 (.bsl 9 1 [(.t 7)]),
 qo 9 (.app 9 1 16 (.t 6) (.t 8)),
 qn (.st 1 (.t 2) (.t 9))])
 .skip)),
[])
theorem irOk75 : convFn Tryz.prog Tryz.f75 = some ir75 := by kernel_rfl
def ir76 : Nat × C × List RV := (17,
(.seq (.regD [qo 7 (.ld1 (.t 3)),
 qm 8 1,
 qm 9 2,
 qd 10 (.bin .neq (.t 8) (.t 9)) [1,2],
 qm 11 0,
 qd 12 (.bin .add (.t 11) (.c (.val (.string ⟨#[32]⟩)))) [4],
 qm 13 2,
 qd 14 (.call (.f 77) [(.t 13)]) [6],
 qd 15 (.bin .add (.t 12) (.t 14)) [5,4,7,6]])
 (.seq (.reg [qd 16 (.call (.t 7) [(.t 10),(.t 15)]) [0,3,1,2,8,5,4,7,6]])
 (.regD []))),
[])
theorem irOk76 : convFn Tryz.prog Tryz.f76 = some ir76 := by kernel_rfl
def ir78 : Nat × C × List RV := (10,
(.seq (.reg [qo 6 (.mv (.c (.val (.string ⟨#[]⟩))))])
 (.seq (.seq (.reg [qm 7 0])
 (.cond (.t 7) (.seq (.reg [qm 8 1,
 qm 6 8])
 .ret)
 .skip))
 (.seq (.reg [qm 9 2,
 qm 6 9])
 .ret))),
[(.t 6)])
theorem irOk78 : convFn Tryz.prog Tryz.f78 = some ir78 := by kernel_rfl


def powR : List DV := Lib.pow10Tab.map fun z => .val (.int .u64 z)
theorem gPow : Tryz.prog.globalNamed "internal/strconv.uint64pow10" = some 2 := by kernel_rfl
theorem pow_tab {J : Nat → Prop} {w : World} {ι : Nat → Nat → Option Nat} {obj : Nat → OSt} (S : Store G J w ι obj) (hG : G 2 = some powR) : Lib.TabIs Tryz.prog w "internal/strconv.uint64pow10" .u64 Lib.pow10Tab := by
  obtain ⟨hJ, hr, t, hs⟩ := S.glob _ _ hG
  unfold Lib.TabIs World.var?
  rw [gPow]
  simp only [Option.bind_some]
  unfold World.shape? at hs
  split at hs
  · rename_i C t' f hc
    rw [hc]
    obtain ⟨_, hsz0⟩ := Prod.mk.inj (Option.some.inj hs)
    refine congrArg some ?_
    apply Array.ext'
    apply List.ext_getElem?
    intro i
    have hsz : C.size = 20 := by rw [hsz0]; simp [powR, Lib.pow10Tab_length]
    by_cases hi : i < 20
    · have hz : i < Lib.pow10Tab.length := by rw [Lib.pow10Tab_length]; exact hi
      have hrow : powR[i]? = some (.val (.int .u64 Lib.pow10Tab[i])) := by simp [powR, hz]
      obtain ⟨v, h1, _, h3⟩ := hr.get hrow
      have h3 : v = .int .u64 Lib.pow10Tab[i] := h3
      rw [Nat.zero_add] at h1
      have h1 : C[i]? = some v := by simpa [World.cell?, hc] using h1
      rw [Array.getElem?_toList, h1, h3]
      simp [hz]
    · rw [List.getElem?_eq_none (by simp; omega), List.getElem?_eq_none (by simp [Lib.pow10Tab_length]; omega)]
  · cases hs
set_option maxRecDepth 100000 in
theorem itoa_tri (hG : G 2 = some powR) (n : Int) (h0 : -9223372036854775808 ≤ n) (h1 : n ≤ 9223372036854775807) : Tri Tryz.prog G 77 [.int n] [] (.d (.val (.string ⟨(Lib.itoa n).toArray⟩))) [] := by
  refine ⟨by decide, fun J ι w vs S hR => ?_⟩
  obtain ⟨vl⟩ := vs
  match vl, hR with
  | [v], ⟨hv, _⟩ =>
  have hv : v = .int .i64 n := hv
  subst hv
  refine (Tryz.strconv_Itoa n h0 h1 w (pow_tab S hG)).mono fun e w' h => ?_
  obtain ⟨rfl, k, os, rfl⟩ := h
  refine ⟨_, rfl, After.ofBelow S ⟨rfl, rfl, rfl, by simp [Go.Sort.grow], fun b hb => by simp [Go.Sort.grow,Array.getElem?_append,hb]⟩ (fun _ _ _ => rfl)⟩
def itoaT (n : Int) : ByteArray := ⟨(Lib.itoa n).toArray⟩
theorem itoaT_size (n : Int) (h0 : -9223372036854775808 ≤ n) (h1 : n ≤ 9223372036854775807) : (itoaT n).size ≤ 21 := by
  have := Lib.itoa_length_le n h0 h1
  simpa [itoaT, ByteArray.size] using this
theorem itoaT_tri (hG : G 2 = some powR) (n : Int) (h0 : -9223372036854775808 ≤ n) (h1 : n ≤ 9223372036854775807) : Tri Tryz.prog G 77 [.int n] [] (.d (.val (.string (itoaT n)))) [] := itoa_tri hG n h0 h1
theorem itoaT_fits (l : Array UInt8) (n : Int) (hl : l.size ≤ 100) (h0 : -9223372036854775808 ≤ n) (h1 : n ≤ 9223372036854775807) : l.size + (itoaT n).size ≤ 9223372036854775807 := by
  have := itoaT_size n h0 h1
  omega
theorem itoaT_head (l : Array UInt8) (n : Int) (hl : l.size ≤ 100) (h0 : -9223372036854775808 ≤ n) (h1 : n ≤ 9223372036854775807) : ((⟨l⟩ : ByteArray) ++ itoaT n).size ≤ 200 := by
  have := itoaT_size n h0 h1
  rw [ByteArray.size_append]
  have e : (⟨l⟩ : ByteArray).size = l.size := rfl
  omega
theorem szI {h : ByteArray} (hh : h.size ≤ 200) (b : Bool) (l m : Array UInt8) (hl : l.size ≤ 100) (hm : m.size ≤ 100) : h.size + (if b = true then (⟨l⟩ : ByteArray) else ⟨m⟩).size ≤ 9223372036854775807 := by
  have e1 : (⟨l⟩ : ByteArray).size = l.size := rfl
  have e2 : (⟨m⟩ : ByteArray).size = m.size := rfl
  split <;> omega
theorem szH {h : ByteArray} (hh : h.size ≤ 200) (l : Array UInt8) (hl : l.size ≤ 100) : (h ++ ⟨l⟩).size ≤ 900 := by
  rw [ByteArray.size_append]
  have e1 : (⟨l⟩ : ByteArray).size = l.size := rfl
  omega
theorem szB {h : ByteArray} (hh : h.size ≤ 200) (l : Array UInt8) (hl : l.size ≤ 100) : h.size + l.size ≤ 9223372036854775807 := by omega
def telB (b : Bool) (w : ByteArray) (o : List ByteArray) : List ByteArray := if b = true then o ++ [w] else o
def numT (h : ByteArray) (a b : Int) (o : List ByteArray) : List ByteArray := telB (a != b) (h ++ ⟨#[32]⟩ ++ itoaT b) o
def strR (o : List ByteArray) : List (List DV) := o.map fun w => [.val (.string w)]
theorem strR_len (o : List ByteArray) : (strR o).length = o.length := by simp [strR]
def outO (o : List ByteArray) : List LObj := [.box 48 [.sl 1 o.length 1 0 o.length], .dat 9 1 (strR o)]
def numO (o : List ByteArray) : List LObj := [.box 139 [.fn (.func 75) [] [.ptr 1 0]], .box 48 [.sl 2 o.length 1 0 o.length], .dat 9 1 (strR o)]
theorem tell_tri (ch : Bool) (w : ByteArray) (o : List ByteArray) (hl : o.length ≤ 10000) : Tri Tryz.prog G 75 [.bool ch, .d (.val (.string w)), .ptr 0 0] (outO o) (.tup []) (outO (telB ch w o)) := by
  refine tri_WP Tryz.func75 (by decide) irOk75 (Nat.le_of_ble_eq_true rfl) rfl rfl rfl ?_
  simp only [ir75,go_sem,simprocAttr]
  simp only [outO,go_sem,simprocAttr]
  cases ch with
  | false => simp only [telB,go_sem,simprocAttr]
  | true =>
    simp only [telB,strR_len,List.length_append,show (o.length + 1) * 16 ≤ 70368744177664 by omega,go_sem,simprocAttr]
    simp only [strR,List.map_append,List.map_cons,List.map_nil]
theorem pick26_tri (ok : Bool) (y n : ByteArray) : Tri Tryz.prog G 78 [.bool ok, .d (.val (.string y)), .d (.val (.string n))] [] (.d (.val (.string (if ok = true then y else n)))) [] := by
  refine tri_W0 Tryz.func78 (by decide) irOk78 (Nat.le_of_ble_eq_true rfl) rfl ?_
  simp only [ir78,go_sem,simprocAttr]
  cases ok <;> simp only [go_sem,simprocAttr]
theorem number_tri (hG : G 2 = some powR) (h : ByteArray) (a b : Int) (o : List ByteArray) (hl : o.length ≤ 10000) (hh : h.size ≤ 900) (hb : 0 ≤ b ∧ b ≤ 1000000000000) : Tri Tryz.prog G 76 [.d (.val (.string h)), .int a, .int b, .ptr 0 0] (numO o) (.tup []) (numO (numT h a b o)) := by
  have z1 : h.size + #[(32 : UInt8)].size ≤ 9223372036854775807 := by have : #[(32 : UInt8)].size = 1 := rfl; omega
  have z2 : h.size + #[(32 : UInt8)].size + (itoaT b).size ≤ 9223372036854775807 := by
    have := itoaT_size b (by omega) (by omega)
    have : #[(32 : UInt8)].size = 1 := rfl
    omega
  refine tri_WP Tryz.func76 (by decide) irOk76 (Nat.le_of_ble_eq_true rfl) rfl rfl rfl ?_
  simp only [ir76,go_sem,simprocAttr]
  simp only [numO,z1,go_sem,simprocAttr]
  refine WD_calld (itoaT_tri hG b (by omega) (by omega)) rfl rfl rfl rfl ?_; simp only [go_sem,simprocAttr]
  simp only [z2,go_sem,simprocAttr]
  refine W_callo [1, 2] (tell_tri (a != b) (h ++ ⟨#[32]⟩ ++ itoaT b) o hl) rfl (by simp only [argRs,argR,List.map_cons,List.map_nil,outO,numT,go_sem,simprocAttr]) (by decide) (by simp only [outO,go_sem,simprocAttr]) (by simp only [outO,List.all_cons,List.all_nil,go_sem,simprocAttr]) (Nat.le_refl _) ?_
  simp only [outO,numT,go_sem,simprocAttr]
  refine W_opsD_end rfl ?_
  simp only [go_sem,simprocAttr]

end Dv
