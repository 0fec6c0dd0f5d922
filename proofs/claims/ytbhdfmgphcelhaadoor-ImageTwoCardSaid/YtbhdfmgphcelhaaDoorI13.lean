/- The document's numbers of a state, and its bytes. -/
import Derived.Test.YtbhdfmgphcelhaaDoorI11
import Derived.Test.YtbhdfmgphcelhaaDoorPB
set_option linter.unusedVariables false
set_option linter.unusedSimpArgs false
namespace Dv
open Go Go.Proofs
variable {G : Nat → Option (List DV)}



def stBox1 (s : StateD) : LObj := .box 27 [nodesV s.nodes, jobsV s.jobs, .int s.goal, .int s.prior, .int s.mode, .int s.term]
def nums1 (s : StateD) (i : Nat) : St := ⟨[(1, .ptr 0 0), (3, .sl 1 (1 + 3 * i) 1 0 (1 + 3 * i)), (4, .int i)], [some (stBox1 s), some (.dat 3 1 (numR (numsN s i)))]⟩
def nums2 (s : StateD) (i : Nat) : St := ⟨[(1, .ptr 0 0), (3, .sl 1 (2 + 3 * s.nodes.length + 12 * i) 1 0 (2 + 3 * s.nodes.length + 12 * i)), (7, .int i)], [some (stBox1 s), some (.dat 3 1 (numR (numsJ s i))), some (.dat 3 1 [[i64 s.jobs.length]])]⟩
attribute [local go_sem] numR bytesV stBox1

end Dv
