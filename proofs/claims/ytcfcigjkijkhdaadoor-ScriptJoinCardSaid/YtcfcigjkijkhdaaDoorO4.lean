/- The library's Itoa and Split as contracts of the machine; ops: a word's number. -/
import Derived.Test.YtcfcigjkijkhdaaDoorSA
import Derived.Test.YtcfcigjkijkhdaaDoorO1
import Derived.FnData
set_option linter.unusedVariables false
set_option linter.unusedSimpArgs false
namespace Dv
open Go Go.Proofs
open Go.RowKit
variable {G : Nat → Option (List DV)}

/-- the library's table of tens. -/
def powR : List DV := Lib.pow10Tab.map fun z => .val (.int .u64 z)
theorem gPow : Tryd.prog.globalNamed "internal/strconv.uint64pow10" = some 3 := by kernel_rfl
theorem pow_tab {J : Nat → Prop} {w : World} {ι : Nat → Nat → Option Nat} {obj : Nat → OSt} (S : Store G J w ι obj) (hG : G 3 = some powR) : Lib.TabIs Tryd.prog w "internal/strconv.uint64pow10" .u64 Lib.pow10Tab := by
  obtain ⟨hJ, hr, t, hs⟩ := S.glob _ _ hG
  unfold Lib.TabIs World.var?
  rw [gPow]
  simp only [Option.bind_some]
  unfold World.shape? at hs
  split at hs
  · rename_i C t' f hc
    rw [hc]
    obtain ⟨_, hsz0⟩ := Prod.mk.inj (Option.some.inj hs)
    refine congrArg some ?_
    apply Array.ext'
    apply List.ext_getElem?
    intro i
    have hsz : C.size = 20 := by rw [hsz0]; simp [powR, Lib.pow10Tab_length]
    by_cases hi : i < 20
    · have hz : i < Lib.pow10Tab.length := by rw [Lib.pow10Tab_length]; exact hi
      have hrow : powR[i]? = some (.val (.int .u64 Lib.pow10Tab[i])) := by simp [powR, hz]
      obtain ⟨v, h1, _, h3⟩ := hr.get hrow
      have h3 : v = .int .u64 Lib.pow10Tab[i] := h3
      rw [Nat.zero_add] at h1
      have h1 : C[i]? = some v := by simpa [World.cell?, hc] using h1
      rw [Array.getElem?_toList, h1, h3]
      simp [hz]
    · rw [List.getElem?_eq_none (by simp; omega), List.getElem?_eq_none (by simp [Lib.pow10Tab_length]; omega)]
  · cases hs
theorem itoa_tri (hG : G 3 = some powR) (n : Int) (h0 : -9223372036854775808 ≤ n) (h1 : n ≤ 9223372036854775807) : Tri Tryd.prog G 31 [.int n] [] (.d (.val (.string ⟨(Lib.itoa n).toArray⟩))) [] := by
  refine ⟨by decide, fun J ι w vs S hR => ?_⟩
  obtain ⟨vl⟩ := vs
  match vl, hR with
  | [v], ⟨hv, _⟩ =>
  have hv : v = .int .i64 n := hv
  subst hv
  refine (Tryd.strconv_Itoa n h0 h1 w (pow_tab S hG)).mono fun e w' h => ?_
  obtain ⟨rfl, k, os, rfl⟩ := h
  refine ⟨_, rfl, After.ofBelow S ⟨rfl, rfl, rfl, by simp [Go.Sort.grow], fun b hb => by simp [Go.Sort.grow, Array.getElem?_append, hb]⟩ (fun _ _ _ => rfl)⟩
theorem splitB_len (s sep : ByteArray) (h : 1 ≤ sep.size) : (Lib.splitB sep 0 (Lib.countB s sep) s).length = Lib.countB s sep + 1 := Lib.splitB_all sep h 0 _ s rfl
theorem strs_rep (J : Nat → Prop) (w : World) : ∀ L : List ByteArray, RepDL J w (L.map fun x => [DV.val (.string x)]).flatten (L.map Value.string)
  | [] => trivial
  | x :: L => ⟨rfl, strs_rep J w L⟩
theorem split_tri (m : Int) (hG : G 2 = some [.val (.int .i64 m)]) (s sep : ByteArray) (hs : s.size < 4294967281) (h1 : 1 ≤ sep.size) : Tri Tryd.prog G 52 [.d (.val (.string s)), .d (.val (.string sep))] [] (.sl 0 (Lib.splitB sep 0 (Lib.countB s sep) s).length 1 0 (Lib.splitB sep 0 (Lib.countB s sep) s).length) [.dat 9 1 ((Lib.splitB sep 0 (Lib.countB s sep) s).map fun x => [.val (.string x)])] := by
  refine ⟨by decide, fun J ι w vs S hR => ?_⟩
  obtain ⟨vl⟩ := vs
  match vl, hR with
  | [v, u], ⟨hv, hu, _⟩ =>
  have hv : v = .string s := hv
  have hu : u = .string sep := hu
  subst hv hu
  have hm : w.cell? ⟨2, 0, none⟩ = some (.int .i64 m) := by
    obtain ⟨_, hr, _⟩ := S.glob _ _ hG
    obtain ⟨v, h1, _, h3⟩ := hr.get (i := 0) rfl
    have h3 : v = .int .i64 m := h3
    rw [h3] at h1; exact h1
  refine (Tryd.strings_Split s sep m w hs hm h1).mono fun e w' h => ?_
  obtain ⟨rfl, rfl⟩ := h
  have hlen := splitB_len s sep h1
  generalize Lib.splitB sep 0 (Lib.countB s sep) s = L at *
  rw [← hlen]
  have hb : objL (List.map some []) 0 = .free := rfl
  refine ⟨_, rfl, ?_⟩
  have := After.dat (G := G) (J := J) (w := w) (ι := ι) S hb 9 1 (L.map fun x => [DV.val (.string x)]) (L.map Value.string).toArray w.drawn L.length (by simp) (by simp) (fun ι' E => by
    refine RowsD.ofBlock (vs := L.map Value.string) (strs_rep _ _ L) (fun u hu => by obtain ⟨x, _, rfl⟩ := List.mem_map.1 hu; rfl) (fun r hr => by obtain ⟨x, _, rfl⟩ := List.mem_map.1 hr; rfl) (heap_alloc_new' { w with drawn := w.drawn } _) (fun j u hu => by simpa using hu))
  have e : (fun o => if o = 0 then OSt.live (LObj.dat 9 1 (L.map fun x => [DV.val (.string x)])) else objL (List.map some []) o) = objL (List.map some [LObj.dat 9 1 (L.map fun x => [DV.val (.string x)])]) := by
    funext o
    cases o <;> rfl
  rw [e] at this
  simp only [List.length_map] at this
  exact this
end Dv
