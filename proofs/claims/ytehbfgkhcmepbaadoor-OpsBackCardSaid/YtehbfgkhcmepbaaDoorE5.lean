/- Opening a list of bytes. -/
import Derived.Test.YtehbfgkhcmepbaaDoorE1
import Derived.Test.YtehbfgkhcmepbaaDoorI0
set_option linter.unusedVariables false
set_option linter.unusedSimpArgs false
namespace Dv
open Go Go.Proofs
open Go.ChangeShapes Go.WideShapes Go.RowKit Go.Deep Go.WideElems

theorem u8_wf {n : Int} (h : (Lit.int .u8 n).wf = true) : 0 ≤ n ∧ n ≤ 255 := by
  simp [Lit.wf, IntKind.min, IntKind.max, IntKind.bits, IntKind.signed] at h
  omega
set_option maxRecDepth 100000 in
theorem bytes_open {H : Type} {enc : TypeId × Value → H} {W : World} {base : Nat} {spare : Nat → Bool} {held : Bool} {r : Reach} {b0 : Nat} {v : Value} {d : DataW H} {p : List MemPlace} (hv : Value.okWide Tryd.prog W r b0 24 v) (h : DataW.Trod enc Tryd.prog W base spare held 24 v d p) : ∃ l : List Int, Rep (J0 W) W ι0 (bytesV l) v ∧ ∀ x ∈ l, 0 ≤ x ∧ x ≤ 255 := by
  obtain ⟨a, len, cap, rfl⟩ := okWide_slice Tryd.underlying24 hv
  obtain ⟨fuel, hf⟩ := h
  obtain ⟨l, _, _, hr⟩ := rows_open (size := 1) (fun n : {n : Int // 0 ≤ n ∧ n ≤ 255} => [Value.int .u8 n.1]) ⟨0, by decide⟩ (fun r v hv => by simp at hv; rw [hv]; rfl) (fun _ => rfl) Tryd.underlying24 (by kernel_rfl : Tryd.prog.cellsOf 5 = 1) (by omega) (fun _ _ _ h => by
    obtain ⟨z, hz, _, hw⟩ := DataW.trod_int Tryd.underlying5 h
    exact ⟨⟨z, u8_wf hw⟩, hz⟩) ⟨_, hf⟩
  refine ⟨l.map (·.1), ?_, fun x hx => ?_⟩
  · have e : byteR (l.map (·.1)) = l.map fun r => (([Value.int .u8 r.1] : List Value)).map DV.val := by simp [byteR, u8]
    show RepD (J0 W) W (.lst 1 (byteR (l.map (·.1)))) _
    rw [e]; exact hr
  · obtain ⟨y, _, rfl⟩ := List.mem_map.1 hx
    exact y.2
end Dv
