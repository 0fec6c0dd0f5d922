/- The document's book: Fits, Right, LetGo, Same. -/
import Derived.Test.YtkalnfkokkjliaaGreatDoorD15
set_option linter.unusedVariables false
set_option linter.unusedSimpArgs false
namespace Dv
open Go Go.Proofs
variable {G : Nat → Option (List DV)}

def ir136 : Nat × C × List RV := (68,
(.seq (.reg [qo 3 (.box 30 (.t 0)),
 qo 4 (.box 119 (.t 1)),
 qo 6 (.mv qf)])
 (.seq (.seq (.regD [qm 10 2,
 qd 11 (.bin .lss (.t 10) (qk 0)) [0],
 qd 12 (.mv (.t 11)) [1,0],
 qe 13 (.mv (.t 2)) 12 false [2,1,0],
 qe 14 (.bin .geq (.t 13) (qk 64)) 12 false [3,2,1,0],
 qd 15 (.pick (.t 12) qt (.t 14)) [2,1,0,4,3],
 qd 16 (.mv (.t 15)) [5,2,1,0,4,3],
 qe 17 (.mv (.t 2)) 16 false [6,5,2,1,0,4,3],
 qe 18 (.call (.f 139) [(.t 17)]) 16 false [7,6,5,2,1,0,4,3],
 qe 19 (.fad 2 (.t 4)) 16 false [6,5,2,1,0,4,3],
 qe 20 (.ld1 (.t 19)) 16 false [9,6,5,2,1,0,4,3],
 qe 21 (.bin .lss (.t 18) (.t 20)) 16 false [8,7,6,5,2,1,0,4,3,10,9],
 qd 22 (.pick (.t 16) qt (.t 21)) [6,5,2,1,0,4,3,11,8,7,10,9],
 qd 23 (.mv (.t 22)) [12,6,5,2,1,0,4,3,11,8,7,10,9],
 qe 24 (.mv (.t 2)) 23 false [13,12,6,5,2,1,0,4,3,11,8,7,10,9],
 qe 25 (.call (.f 139) [(.t 24)]) 23 false [14,13,12,6,5,2,1,0,4,3,11,8,7,10,9],
 qe 26 (.fad 3 (.t 4)) 23 false [13,12,6,5,2,1,0,4,3,11,8,7,10,9],
 qe 27 (.ld1 (.t 26)) 23 false [16,13,12,6,5,2,1,0,4,3,11,8,7,10,9],
 qe 28 (.bin .gtr (.t 25) (.t 27)) 23 false [15,14,13,12,6,5,2,1,0,4,3,11,8,7,10,9,17,16],
 qd 29 (.pick (.t 23) qt (.t 28)) [13,12,6,5,2,1,0,4,3,11,8,7,10,9,18,15,14,17,16]])
 (.cond (.t 29) (.seq (.reg [qo 6 (.mv qf)])
 .ret)
 .skip))
 (.seq (.reg [qo 7 (.mv (qk 0))])
 (.seq (.seq (.reg [qo 8 (.mv (qk 0))])
 (.block 0 (.loop (.seq (.seq (.reg [qm 30 8,
 qo 31 (.bin .lss (.t 30) (qk 6))])
 (.cond (.t 31) .skip
 (.exit 0)))
 (.seq (.block 1 (.seq (.seq (.reg [qm 34 2,
 qm 35 8,
 qo 36 (.call (.f 69) [(.t 34),(.t 35)]),
 qo 37 (.not (.t 36))])
 (.cond (.t 37) (.exit 1)
 .skip))
 (.seq (.seq (.reg [qm 38 8,
 qo 39 (.fad 0 (.t 3)),
 qo 40 (.ld1 (.t 39)),
 qo 41 (.len (.t 40)),
 qo 42 (.bin .geq (.t 38) (.t 41))])
 (.cond (.t 42) (.seq (.reg [qo 6 (.mv qf)])
 .ret)
 .skip))
 (.seq (.reg [qo 43 (.fad 0 (.t 3)),
 qo 44 (.ld1 (.t 43)),
 qm 45 8,
 qo 46 (.ixa 5 (.t 44) (.t 45)),
 qo 47 (.fad 3 (.t 46)),
 qo 48 (.ld1 (.t 47)),
 qm 9 48])
 (.seq (.seq (.reg [qm 49 7,
 qo 50 (.bin .neq (.t 49) (qk 0)),
 qm 51 50,
 qg 52 (.mv (.t 9)) 51 true,
 qg 53 (.mv (.t 7)) 51 true,
 qg 54 (.bin .neq (.t 52) (.t 53)) 51 true,
 qo 55 (.pick (.t 51) (.t 54) qf),
 qm 56 55,
 qg 57 (.fad 5 (.t 4)) 56 false,
 qg 58 (.ld1 (.t 57)) 56 false,
 qg 59 (.bin .neq (.t 58) (qk 0)) 56 false,
 qg 60 (.mv (.t 59)) 56 false,
 qg 61 (.mv (.t 9)) 60 true,
 qg 62 (.fad 5 (.t 4)) 60 true,
 qg 63 (.ld1 (.t 62)) 60 true,
 qg 64 (.bin .neq (.t 61) (.t 63)) 60 true,
 qg 65 (.pick (.t 60) (.t 64) qf) 56 false,
 qo 66 (.pick (.t 56) qt (.t 65))])
 (.cond (.t 66) (.seq (.reg [qo 6 (.mv qf)])
 .ret)
 .skip))
 (.reg [qm 67 9,
 qm 7 67]))))))
 (.reg [qm 32 8,
 qo 33 (.bin .add (.t 32) (qk 1)),
 qm 8 33]))))))
 (.seq (.reg [qo 6 (.mv qt)])
 .ret))))),
[(.t 6)])
theorem irOk136 : convFn Tryz.prog Tryz.f136 = some ir136 := by kernel_rfl
def fits9S (s : StateD) (j : JobD) (nodes : Int) (kv : Nat × Int) : St := ⟨[(2, .int nodes), (3, .ptr 0 0), (4, .ptr 1 0), (7, .int kv.2), (8, .int kv.1)], [some (.box 30 [nodesV s.nodes, jobsV s.jobs, .int s.goal, .int s.prior, .int s.mode, .int s.term]), some (.box 119 [.int j.queue, .int j.prio, .int j.min, .int j.max, .int j.work, .int j.pin, .int j.phase, .int j.inc, .int j.nodes, .int j.since, .int j.til, .int j.epoch])]⟩
theorem fits9_tri (s : StateD) (j : JobD) (nodes : Int) : Tri Tryz.prog G 136 [stateV s, jobV j, .int nodes] [] (.bool (fitsRB s.nodes j nodes)) [] := by
  refine tri_W0 Tryz.func136 (by decide) irOk136 (Nat.le_of_ble_eq_true rfl) rfl ?_
  simp only [ir136,go_sem,simprocAttr]
  unfold fitsRB
  repeat' (first
    | (refine WD_calld (many9_tri _) rfl rfl rfl rfl ?_; simp only [go_sem,simprocAttr])
    | ((first | with_reducible refine WGD_splitn (fun h => ?_) (fun h => ?_) | refine WGD_split (fun h => ?_) (fun h => ?_)) <;> simp only [h,go_sem,simprocAttr] <;> (try simp only [beq_iff_eq,beq_eq_false_iff_ne,bne_iff_ne,ne_eq,decide_eq_true_eq,decide_eq_false_iff_not,Bool.not_true,Bool.not_false,Bool.not_eq_true,Bool.not_eq_false,bne_eq_false_iff_eq,Decidable.not_not] at h)) | ((first | with_reducible refine WC_splitn (fun h => ?_) (fun h => ?_) | refine WC_split (fun h => ?_) (fun h => ?_)) <;> simp only [h,go_sem,simprocAttr] <;> (try simp only [beq_iff_eq,beq_eq_false_iff_ne,bne_iff_ne,ne_eq,decide_eq_true_eq,decide_eq_false_iff_not,Bool.not_true,Bool.not_false,Bool.not_eq_true,Bool.not_eq_false,bne_eq_false_iff_eq,Decidable.not_not] at h)))
  all_goals try (rw [if_pos (by omega)]; done)
  rw [if_neg (by omega)]
  generalize hF0 : fitsR s.nodes nodes j.pin 6 0 0 = r
  refine W_loopI [2, 3, 4, 7, 8] [] (fun kv : Nat × Int => kv.1 ≤ 6 ∧ fitsR s.nodes nodes j.pin (6 - kv.1) kv.1 kv.2 = r) (fun kv => 6 - kv.1) (fits9S s j nodes) (0, 0) ?_ ⟨by omega, hF0⟩ ?_
  · simp only [fits9S,go_sem,simprocAttr,Int.natCast_zero]
  rintro ⟨k, v⟩ ⟨hk, hF⟩
  dsimp only at hk hF
  simp only [fits9S,go_sem,simprocAttr]
  refine WC_split (fun h => ?_) (fun h => ?_) <;> simp only [h,go_sem,simprocAttr] <;> (try simp only [beq_iff_eq,beq_eq_false_iff_ne,bne_iff_ne,ne_eq,decide_eq_true_eq,decide_eq_false_iff_not,Bool.not_true,Bool.not_false,Bool.not_eq_true,Bool.not_eq_false,bne_eq_false_iff_eq,Decidable.not_not] at h)
  · rw [show 6 - k = (6 - (k + 1)) + 1 by omega, fitsR] at hF
    have go : ∀ v', fitsR s.nodes nodes j.pin (6 - (k + 1)) (k + 1) v' = r → (k + 1, v').1 ≤ 6 ∧ fitsR s.nodes nodes j.pin (6 - (k + 1, v').1) (k + 1, v').1 (k + 1, v').2 = r := fun v' h' => ⟨by dsimp only; omega, h'⟩
    refine W_calld (has9_tri nodes k (by omega)) rfl rfl rfl rfl ?_; simp only [go_sem,simprocAttr]
    cases hb : hasB nodes k with
    | false =>
      rw [if_pos hb] at hF
      simp only [go_sem,simprocAttr]
      refine W_lpI (k + 1, v) ?_ ?_ (go _ hF) (by dsimp only; omega)
      · simp only [go_sem,simprocAttr]
      · simp only [fits9S,go_sem,simprocAttr,wrap_succ (show k < 9223372036854775807 by omega)]
    | true =>
      rw [if_neg (by simp [hb])] at hF
      simp only [go_sem,simprocAttr]
      refine WC_split (fun h2 => ?_) (fun h2 => ?_) <;> simp only [h2,go_sem,simprocAttr] <;> (try simp only [beq_iff_eq,beq_eq_false_iff_ne,bne_iff_ne,ne_eq,decide_eq_true_eq,decide_eq_false_iff_not,Bool.not_true,Bool.not_false,Bool.not_eq_true,Bool.not_eq_false,bne_eq_false_iff_eq,Decidable.not_not] at h2)
      · rw [if_pos (by omega)] at hF
        simp only [← hF]
      · rw [if_neg (by omega)] at hF
        have hkl : k < s.nodes.length := by omega
        have hg := get_mapD (f := nodeR) zeroNode hkl
        generalize s.nodes.getD k zeroNode = n at *
        simp only [hg,go_sem,simprocAttr]
        have stop : ((v ≠ 0 ∧ n.version ≠ v) ∨ (j.pin ≠ 0 ∧ n.version ≠ j.pin)) → false = r := fun h' => by rw [if_pos h'] at hF; exact hF
        have on : ¬ ((v ≠ 0 ∧ n.version ≠ v) ∨ (j.pin ≠ 0 ∧ n.version ≠ j.pin)) → fitsR s.nodes nodes j.pin (6 - (k + 1)) (k + 1) n.version = r := fun h' => by rw [if_neg h'] at hF; exact hF
        repeat' (first | ((first | with_reducible refine WG_splitn (fun h => ?_) (fun h => ?_) | refine WG_split (fun h => ?_) (fun h => ?_)) <;> simp only [h,go_sem,simprocAttr] <;> (try simp only [beq_iff_eq,beq_eq_false_iff_ne,bne_iff_ne,ne_eq,decide_eq_true_eq,decide_eq_false_iff_not,Bool.not_true,Bool.not_false,Bool.not_eq_true,Bool.not_eq_false,bne_eq_false_iff_eq,Decidable.not_not] at h)) | ((first | with_reducible refine WC_splitn (fun h => ?_) (fun h => ?_) | refine WC_split (fun h => ?_) (fun h => ?_)) <;> simp only [h,go_sem,simprocAttr] <;> (try simp only [beq_iff_eq,beq_eq_false_iff_ne,bne_iff_ne,ne_eq,decide_eq_true_eq,decide_eq_false_iff_not,Bool.not_true,Bool.not_false,Bool.not_eq_true,Bool.not_eq_false,bne_eq_false_iff_eq,Decidable.not_not] at h)))
        all_goals first
          | exact stop (by omega)
          | (refine W_lpI (k + 1, n.version) ?_ ?_ (go _ (on (by omega))) (by dsimp only; omega)
             · simp only [go_sem,simprocAttr]
             · simp only [fits9S,go_sem,simprocAttr,wrap_succ (show k < 9223372036854775807 by omega)])
  · obtain rfl : k = 6 := by omega
    simp only [Nat.sub_self,fitsR] at hF
    simp only [← hF]

end Dv
