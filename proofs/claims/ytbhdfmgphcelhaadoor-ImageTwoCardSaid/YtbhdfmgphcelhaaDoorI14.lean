/- The document's state of bytes. -/
import Derived.Test.YtbhdfmgphcelhaaDoorI12
import Derived.Test.YtbhdfmgphcelhaaDoorI13
import Derived.Test.YtbhdfmgphcelhaaDoorI7
import Derived.Test.YtbhdfmgphcelhaaDoorPB
import Derived.Test.YtbhdfmgphcelhaaDoorD16
set_option linter.unusedVariables false
set_option linter.unusedSimpArgs false
namespace Dv
open Go Go.Proofs
variable {G : Nat → Option (List DV)}



def nilL : LV := .d (.val (.slice none 0 0))
attribute [local go_sem] bytesV nilL
def cfBox (c : ConfD) : LObj := .box 23 [.int c.nodes, .int c.queues, .int c.quota, .int c.wave, .int c.lease, .int c.retry, .int c.deadline, .int c.room, .int c.disk]
def zBox : LObj := .box 27 [nilL, nilL, .int 0, .int 0, .int 0, .int 0]
attribute [local go_sem] cfBox zBox
def get1S (c : ConfD) (b xs : List Int) (k : Nat) : St := ⟨[(1, bytesV b), (2, .ptr 0 0), (4, .ptr 1 0), (6, .ptr 2 0), (7, .sl 3 xs.length 1 0 xs.length), (10, .int (1 + 3 * k : Nat)), (11, .int k)],
  [some (cfBox c), some zBox, some (.box 27 [.sl 4 k 5 0 k, nilL, .int 0, .int 0, .int 0, .int 0]), some (.dat 3 1 (numR xs)), some (.dat 50 5 ((nodesL xs k).map nodeR))]⟩
def get2S (c : ConfD) (b xs : List Int) (k : Nat) : St := ⟨[(1, bytesV b), (2, .ptr 0 0), (4, .ptr 1 0), (6, .ptr 2 0), (7, .sl 3 xs.length 1 0 xs.length), (10, .int (2 + 3 * cntX xs + 12 * k : Nat)), (13, .int (jobsX xs)), (14, .int k)],
  [some (cfBox c), some zBox, some (.box 27 [.sl 4 (cntX xs) 5 0 (cntX xs), .sl 5 k 12 0 k, .int 0, .int 0, .int 0, .int 0]), some (.dat 3 1 (numR xs)), some (.dat 50 5 ((nodesL xs (cntX xs)).map nodeR)), some (.dat 47 12 ((jobsL xs k).map jobR))]⟩

theorem putI_len (s : StateD) : (putI s).length ≤ 1000000 := by
  unfold putI
  split
  · rename_i h
    unfold listB
    split
    · have hl : (numsI s).length = 2 + 3 * s.nodes.length + 12 * s.jobs.length + 4 := by unfold numsI; rw [List.length_append, numsJ_len s (Nat.le_refl _)]; rfl
      have h1 := flat_le (numsI s)
      have h2 := numB_le ((numsI s).length : Int)
      rw [List.length_append]
      omega
    · simp
  · simp
end Dv
