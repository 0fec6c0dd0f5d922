/- The document's wave: what is next. -/
import Derived.Test.YtcanhhnmfkdclaaGreatDoorT16
import Derived.Test.YtcanhhnmfkdclaaGreatDoorQA
set_option linter.unusedVariables false
set_option linter.unusedSimpArgs false
namespace Dv
open Go Go.Proofs
variable {G : Nat → Option (List DV)}

def secO (c : ConfD) (s : StateD) (now : Int) (n : NodeD) (i : Int) : Option OpD :=
  if n.job = 0 then some ⟨18, i, 0, 0, 0, 0, 0⟩
  else
    let j := s.jobs.getD (n.job - 1).toNat zeroJob
    if j.phase = 1 then some ⟨11, n.job, 0, 0, 0, 0, 0⟩
    else if j.phase = 2 ∧ j.min < many (j.nodes % 64) then some ⟨20, n.job, i, 0, 0, 0, 0⟩
    else if j.phase = 2 ∧ drainsL s.jobs j.queue < c.quota then some ⟨12, n.job, (if 1000000 ≤ now + c.deadline then 1000000 else now + c.deadline), 0, 0, 0, 0⟩
    else none
theorem clear_sec (c : ConfD) (s : StateD) (now : Int) (n : NodeD) (i : Int) : clearO c s now n i = if n.cordon = false ∨ behindB s n = false ∨ aloneN s n = true then none else secO c s now n i := rfl
set_option maxHeartbeats 4000000 in
theorem second17_tri {c : ConfD} (s : StateD) (hr : RightP c s) (i : Nat) (hi : i < s.nodes.length) (now : Int) (h1 : -1000000000 ≤ now + c.deadline ∧ now + c.deadline ≤ 1000000000) : Tri Tryz.prog G 43 [confV c, stateV s, .int (i : Int), .int now] [] (optV (secO c s now (s.nodes.getD i zeroNode) i)) [] := by
  refine tri_W0 Tryz.func43 (by decide) irOk43 (Nat.le_of_ble_eq_true rfl) rfl ?_
  simp only [ir43,go_sem,simprocAttr]
  have hg := get_mapD (f := nodeR) zeroNode hi
  have hjb := hr.job i hi
  have hjl := hr.jobs
  have hwd : IntKind.i64.wrap (now + c.deadline) = now + c.deadline := wrap_in (by omega) (by omega)
  unfold noA at hjb
  unfold secO
  generalize s.nodes.getD i zeroNode = n at hg hjb ⊢
  simp only [nodeR] at hg
  simp only [hg,go_sem,simprocAttr]
  by_cases h0 : n.job = 0
  · simp only [show (n.job == 0) = true from beq_iff_eq.2 h0,if_pos h0,optV,Option.getD_some,Option.isSome_some,go_sem,simprocAttr]
  obtain ⟨k, hk⟩ : ∃ k : Nat, n.job = ((k + 1 : Nat) : Int) := ⟨(n.job - 1).toNat, by omega⟩
  have hkl : k < s.jobs.length := by omega
  have e1 : IntKind.i64.wrap (n.job - 1) = (k : Int) := by rw [hk, wrap_in (by omega) (by omega)]; omega
  have e2 : (n.job - 1).toNat = k := by omega
  have hgk := get_mapD (f := jobR) zeroJob hkl
  obtain ⟨hs1, hs2⟩ := hr.set6 k hkl
  have hjo : joA s k = s.jobs.getD k zeroJob := rfl
  rw [e2]
  generalize s.jobs.getD k zeroJob = j at hgk hjo ⊢
  rw [hjo] at hs1 hs2
  have em : j.nodes % 64 = j.nodes := Int.emod_eq_of_lt hs1 hs2
  simp only [jobR] at hgk
  simp only [show (n.job == 0) = false from beq_eq_false_iff_ne.2 h0,if_neg h0,e1,hgk,em,go_sem,simprocAttr]
  by_cases hp1 : j.phase = 1
  · simp only [show (j.phase == 1) = true from beq_iff_eq.2 hp1,if_pos hp1,optV,Option.getD_some,Option.isSome_some,go_sem,simprocAttr]
  simp only [show (j.phase == 1) = false from beq_eq_false_iff_ne.2 hp1,if_neg hp1,go_sem,simprocAttr]
  by_cases hp2 : j.phase = 2
  case neg => simp only [show (j.phase != 2) = true from bne_iff_ne.2 hp2,if_neg (show ¬ (j.phase = 2 ∧ j.min < many j.nodes) from fun h => hp2 h.1),if_neg (show ¬ (j.phase = 2 ∧ drainsL s.jobs j.queue < c.quota) from fun h => hp2 h.1),optV,Option.getD_none,Option.isSome_none,zeroOp,go_sem,simprocAttr]
  simp only [show (j.phase != 2) = false from bne_eq_false_iff_eq.2 hp2,go_sem,simprocAttr]
  refine WD_calld (many9_tri j.nodes) rfl rfl rfl rfl ?_; simp only [go_sem,simprocAttr]
  by_cases h2 : j.min < many j.nodes
  · simp only [decide_eq_true (show many j.nodes > j.min from h2),if_pos (show j.phase = 2 ∧ j.min < many j.nodes from ⟨hp2,h2⟩),optV,Option.getD_some,Option.isSome_some,go_sem,simprocAttr]
  simp only [decide_eq_false (show ¬ many j.nodes > j.min from h2),if_neg (show ¬ (j.phase = 2 ∧ j.min < many j.nodes) from fun h => h2 h.2),go_sem,simprocAttr]
  refine WD_calld (drains9_tri s j.queue (by omega)) rfl rfl rfl rfl ?_; simp only [go_sem,simprocAttr]
  by_cases h3 : drainsL s.jobs j.queue < c.quota
  case neg => simp only [decide_eq_true (show drainsL s.jobs j.queue ≥ c.quota by omega),if_neg (show ¬ (j.phase = 2 ∧ drainsL s.jobs j.queue < c.quota) from fun h => h3 h.2),optV,Option.getD_none,Option.isSome_none,zeroOp,go_sem,simprocAttr]
  simp only [decide_eq_false (show ¬ drainsL s.jobs j.queue ≥ c.quota by omega),if_pos (show j.phase = 2 ∧ drainsL s.jobs j.queue < c.quota from ⟨hp2,h3⟩),hwd,go_sem,simprocAttr]
  by_cases h4 : now + c.deadline > 1000000
  · simp only [decide_eq_true h4,if_pos (show 1000000 ≤ now + c.deadline by omega),optV,Option.getD_some,Option.isSome_some,go_sem,simprocAttr]
  · have e3 : (if 1000000 ≤ now + c.deadline then (1000000 : Int) else now + c.deadline) = now + c.deadline := by split <;> omega
    simp only [decide_eq_false h4,e3,optV,Option.getD_some,Option.isSome_some,go_sem,simprocAttr]

def opO7 : LObj := .box 32 [.int 0, .int 0, .int 0, .int 0, .int 0, .int 0, .int 0]
def n17S (c : ConfD) (s : StateD) (now : Int) (r k : Nat) : St := ⟨[(2, .int now), (3, .ptr 0 0), (4, .ptr 1 0), (6, .ptr 2 0), (7, .bool false), (r, .int k)], [some (boxC7 c), some (boxS7 s), some opO7]⟩
set_option maxHeartbeats 8000000 in
theorem next17_tri {c : ConfD} (s : StateD) (hr : RightP c s) (now : Int) (h1 : -1000000000 ≤ now + c.deadline ∧ now + c.deadline ≤ 1000000000) : Tri Tryz.prog G 27 [confV c, stateV s, .int now] [] (optV (nextW c s now)) [] := by
  refine tri_W0 Tryz.func27 (by decide) irOk27 (Nat.le_of_ble_eq_true rfl) rfl ?_
  simp only [ir27,go_sem,simprocAttr]
  have hn := hr.len
  unfold nextW
  by_cases hm : s.mode = 1
  · simp only [show (s.mode == 1) = true from beq_iff_eq.2 hm,if_pos hm,optV,Option.getD_none,Option.isSome_none,zeroOp,go_sem,simprocAttr]
  simp only [show (s.mode == 1) = false from beq_eq_false_iff_ne.2 hm,if_neg hm,go_sem,simprocAttr]
  generalize hF0 : firstO (openO s) s.nodes 0 = q1
  refine W_loopI [2, 3, 4, 6, 7, 8] [] (fun k : Nat => k ≤ s.nodes.length ∧ firstO (openO s) (s.nodes.drop k) k = q1) (fun k => s.nodes.length - k) (fun k => n17S c s now 8 k) 0 ?_ ⟨Nat.zero_le _, hF0⟩ ?_
  · simp only [n17S,boxC7,boxS7,opO7,Int.natCast_zero,go_sem,simprocAttr]
  clear hF0
  rintro k ⟨hk, hF⟩
  simp only [n17S,boxC7,boxS7,opO7,List.length_map,go_sem,simprocAttr]
  by_cases hlt : k < s.nodes.length
  case pos =>
    have hg := get_mapD (f := nodeR) zeroNode hlt
    have hB := behind17_tri (G := G) s k hlt
    have hA := alone17_tri (G := G) s hr k hlt
    have hS := second17_tri (G := G) (c := c) s hr k hlt now h1
    rw [List.drop_eq_getElem_cons hlt, firstO, show s.nodes[k] = s.nodes.getD k zeroNode by simp [List.getD,hlt]] at hF
    generalize s.nodes.getD k zeroNode = n at hg hB hA hF hS
    obtain ⟨up, co, mo, ve, jo⟩ := n
    simp only [nodeR] at hg
    simp only [decide_eq_true (show ((k : Nat) : Int) < ((s.nodes.length : Nat) : Int) by omega),hg,go_sem,simprocAttr]
    unfold openO openB at hF
    cases co with
    | false =>
      simp only [Bool.false_and,Bool.false_eq_true,if_false] at hF
      simp only [go_sem,simprocAttr]
      refine W_lpI (k + 1) ?_ ?_ ⟨hlt, hF⟩ (by omega)
      · simp only [go_sem,simprocAttr]
      · simp only [n17S,boxC7,boxS7,opO7,wrap_succ (show k < 9223372036854775807 by omega),go_sem,simprocAttr]
    | true =>
    cases up with
    | false =>
      simp only [Bool.and_false,Bool.false_and,Bool.false_eq_true,if_false] at hF
      simp only [go_sem,simprocAttr]
      refine W_lpI (k + 1) ?_ ?_ ⟨hlt, hF⟩ (by omega)
      · simp only [go_sem,simprocAttr]
      · simp only [n17S,boxC7,boxS7,opO7,wrap_succ (show k < 9223372036854775807 by omega),go_sem,simprocAttr]
    | true =>
    cases mo with
    | true =>
      simp only [Bool.not_true,Bool.and_false,Bool.false_and,Bool.false_eq_true,if_false] at hF
      simp only [go_sem,simprocAttr]
      refine W_lpI (k + 1) ?_ ?_ ⟨hlt, hF⟩ (by omega)
      · simp only [go_sem,simprocAttr]
      · simp only [n17S,boxC7,boxS7,opO7,wrap_succ (show k < 9223372036854775807 by omega),go_sem,simprocAttr]
    | false =>
    simp only [Bool.not_false,Bool.true_and] at hF
    simp only [go_sem,simprocAttr]
    refine W_calld (hB) rfl rfl rfl rfl ?_; simp only [go_sem,simprocAttr]
    generalize behindB s ⟨true, true, false, ve, jo⟩ = b at hF ⊢
    cases b with
    | false =>
      simp only [Bool.not_false,Bool.true_or] at hF
      simp only [go_sem,simprocAttr]
      simp only [if_true] at hF
      subst hF
      simp only [optV,Option.getD_some,Option.isSome_some,go_sem,simprocAttr]
    | true =>
      simp only [Bool.not_true,Bool.false_or] at hF
      simp only [go_sem,simprocAttr]
      refine W_calld (hA) rfl rfl rfl rfl ?_; simp only [go_sem,simprocAttr]
      generalize aloneN s ⟨true, true, false, ve, jo⟩ = al at hF ⊢
      cases al with
      | true =>
        simp only [go_sem,simprocAttr]
        simp only [if_true] at hF
        subst hF
        simp only [optV,Option.getD_some,Option.isSome_some,go_sem,simprocAttr]
      | false =>
        simp only [Bool.false_eq_true,if_false] at hF
        simp only [go_sem,simprocAttr]
        refine W_lpI (k + 1) ?_ ?_ ⟨hlt, hF⟩ (by omega)
        · simp only [go_sem,simprocAttr]
        · simp only [n17S,boxC7,boxS7,opO7,wrap_succ (show k < 9223372036854775807 by omega),go_sem,simprocAttr]
  obtain rfl : k = s.nodes.length := by omega
  rw [List.drop_length, firstO] at hF
  subst hF
  simp only [decide_eq_false (show ¬ ((s.nodes.length : Nat) : Int) < ((s.nodes.length : Nat) : Int) by omega),go_sem,simprocAttr]
  clear hk hlt
  generalize hF0 : firstO (clearO c s now) s.nodes 0 = q2
  refine W_loopI [2, 3, 4, 6, 7, 10] [] (fun k : Nat => k ≤ s.nodes.length ∧ firstO (clearO c s now) (s.nodes.drop k) k = q2) (fun k => s.nodes.length - k) (fun k => n17S c s now 10 k) 0 ?_ ⟨Nat.zero_le _, hF0⟩ ?_
  · simp only [n17S,boxC7,boxS7,opO7,Int.natCast_zero,go_sem,simprocAttr]
  clear hF0
  rintro k ⟨hk, hF⟩
  simp only [n17S,boxC7,boxS7,opO7,List.length_map,go_sem,simprocAttr]
  by_cases hlt : k < s.nodes.length
  case pos =>
    have hg := get_mapD (f := nodeR) zeroNode hlt
    have hB := behind17_tri (G := G) s k hlt
    have hA := alone17_tri (G := G) s hr k hlt
    have hS := second17_tri (G := G) (c := c) s hr k hlt now h1
    rw [List.drop_eq_getElem_cons hlt, firstO, show s.nodes[k] = s.nodes.getD k zeroNode by simp [List.getD,hlt]] at hF
    generalize s.nodes.getD k zeroNode = n at hg hB hA hF hS
    obtain ⟨up, co, mo, ve, jo⟩ := n
    simp only [nodeR] at hg
    simp only [decide_eq_true (show ((k : Nat) : Int) < ((s.nodes.length : Nat) : Int) by omega),hg,go_sem,simprocAttr]
    rw [clear_sec] at hF
    cases co with
    | false =>
      simp only [true_or,if_true] at hF
      simp only [go_sem,simprocAttr]
      refine W_lpI (k + 1) ?_ ?_ ⟨hlt, hF⟩ (by omega)
      · simp only [go_sem,simprocAttr]
      · simp only [n17S,boxC7,boxS7,opO7,wrap_succ (show k < 9223372036854775807 by omega),go_sem,simprocAttr]
    | true =>
    simp only [Bool.true_eq_false,false_or] at hF
    simp only [go_sem,simprocAttr]
    refine W_calld (hB) rfl rfl rfl rfl ?_; simp only [go_sem,simprocAttr]
    generalize behindB s ⟨up, true, mo, ve, jo⟩ = b at hF ⊢
    cases b with
    | false =>
      simp only [true_or,if_true] at hF
      simp only [go_sem,simprocAttr]
      refine W_lpI (k + 1) ?_ ?_ ⟨hlt, hF⟩ (by omega)
      · simp only [go_sem,simprocAttr]
      · simp only [n17S,boxC7,boxS7,opO7,wrap_succ (show k < 9223372036854775807 by omega),go_sem,simprocAttr]
    | true =>
    simp only [Bool.true_eq_false,false_or] at hF
    simp only [go_sem,simprocAttr]
    refine W_calld (hA) rfl rfl rfl rfl ?_; simp only [go_sem,simprocAttr]
    generalize aloneN s ⟨up, true, mo, ve, jo⟩ = al at hF ⊢
    cases al with
    | true =>
      simp only [if_true] at hF
      simp only [go_sem,simprocAttr]
      refine W_lpI (k + 1) ?_ ?_ ⟨hlt, hF⟩ (by omega)
      · simp only [go_sem,simprocAttr]
      · simp only [n17S,boxC7,boxS7,opO7,wrap_succ (show k < 9223372036854775807 by omega),go_sem,simprocAttr]
    | false =>
    simp only [Bool.false_eq_true,if_false] at hF
    simp only [go_sem,simprocAttr]
    refine W_calld (hS) rfl rfl rfl rfl ?_; simp only [go_sem,simprocAttr]
    generalize secO c s now ⟨up, true, mo, ve, jo⟩ (k : Int) = o at hF ⊢
    cases o with
    | some o =>
      dsimp only at hF
      subst hF
      obtain ⟨o1, o2, o3, o4, o5, o6, o7⟩ := o
      simp only [optV,Option.getD_some,Option.isSome_some,go_sem,simprocAttr]
    | none =>
      dsimp only at hF
      simp only [optV,Option.getD_none,Option.isSome_none,zeroOp,go_sem,simprocAttr]
      refine W_lpI (k + 1) ?_ ?_ ⟨hlt, hF⟩ (by omega)
      · simp only [go_sem,simprocAttr]
      · simp only [n17S,boxC7,boxS7,opO7,wrap_succ (show k < 9223372036854775807 by omega),go_sem,simprocAttr]
  obtain rfl : k = s.nodes.length := by omega
  rw [List.drop_length, firstO] at hF
  subst hF
  simp only [decide_eq_false (show ¬ ((s.nodes.length : Nat) : Int) < ((s.nodes.length : Nat) : Int) by omega),go_sem,simprocAttr]
  clear hk hlt
  generalize hF0 : firstO (shutO c s) s.nodes 0 = q3
  refine W_loopI [2, 3, 4, 6, 7, 13] [] (fun k : Nat => k ≤ s.nodes.length ∧ firstO (shutO c s) (s.nodes.drop k) k = q3) (fun k => s.nodes.length - k) (fun k => n17S c s now 13 k) 0 ?_ ⟨Nat.zero_le _, hF0⟩ ?_
  · simp only [n17S,boxC7,boxS7,opO7,Int.natCast_zero,go_sem,simprocAttr]
  clear hF0
  rintro k ⟨hk, hF⟩
  simp only [n17S,boxC7,boxS7,opO7,List.length_map,go_sem,simprocAttr]
  by_cases hlt : k < s.nodes.length
  case pos =>
    have hg := get_mapD (f := nodeR) zeroNode hlt
    have hB := behind17_tri (G := G) s k hlt
    have hA := alone17_tri (G := G) s hr k hlt
    have hS := second17_tri (G := G) (c := c) s hr k hlt now h1
    rw [List.drop_eq_getElem_cons hlt, firstO, show s.nodes[k] = s.nodes.getD k zeroNode by simp [List.getD,hlt]] at hF
    generalize s.nodes.getD k zeroNode = n at hg hB hA hF hS
    obtain ⟨up, co, mo, ve, jo⟩ := n
    simp only [nodeR] at hg
    simp only [decide_eq_true (show ((k : Nat) : Int) < ((s.nodes.length : Nat) : Int) by omega),hg,go_sem,simprocAttr]
    rw [show shutO c s ⟨up, co, mo, ve, jo⟩ (k : Int) = if shutB c s ⟨up, co, mo, ve, jo⟩ = true then some ⟨16, (k : Int), 0, 0, 0, 0, 0⟩ else none from rfl] at hF
    unfold shutB at hF
    cases co with
    | true =>
      simp only [Bool.not_true,Bool.false_and,Bool.false_eq_true,if_false] at hF
      simp only [go_sem,simprocAttr]
      refine W_lpI (k + 1) ?_ ?_ ⟨hlt, hF⟩ (by omega)
      · simp only [go_sem,simprocAttr]
      · simp only [n17S,boxC7,boxS7,opO7,wrap_succ (show k < 9223372036854775807 by omega),go_sem,simprocAttr]
    | false =>
    simp only [Bool.not_false,Bool.true_and] at hF
    simp only [go_sem,simprocAttr]
    refine WD_calld (hB) rfl rfl rfl rfl ?_; simp only [go_sem,simprocAttr]
    generalize behindB s ⟨up, false, mo, ve, jo⟩ = b at hF ⊢
    cases b with
    | false =>
      simp only [Bool.false_and,Bool.false_eq_true,if_false] at hF
      simp only [go_sem,simprocAttr]
      refine W_lpI (k + 1) ?_ ?_ ⟨hlt, hF⟩ (by omega)
      · simp only [go_sem,simprocAttr]
      · simp only [n17S,boxC7,boxS7,opO7,wrap_succ (show k < 9223372036854775807 by omega),go_sem,simprocAttr]
    | true =>
    simp only [Bool.true_and] at hF
    simp only [go_sem,simprocAttr]
    refine WD_calld (hA) rfl rfl rfl rfl ?_; simp only [go_sem,simprocAttr]
    generalize aloneN s ⟨up, false, mo, ve, jo⟩ = al at hF ⊢
    cases al with
    | true =>
      simp only [Bool.not_true,Bool.false_and,Bool.false_eq_true,if_false] at hF
      simp only [go_sem,simprocAttr]
      refine W_lpI (k + 1) ?_ ?_ ⟨hlt, hF⟩ (by omega)
      · simp only [go_sem,simprocAttr]
      · simp only [n17S,boxC7,boxS7,opO7,wrap_succ (show k < 9223372036854775807 by omega),go_sem,simprocAttr]
    | false =>
    simp only [Bool.not_false,Bool.true_and] at hF
    simp only [go_sem,simprocAttr]
    refine WD_calld (wave17_tri s (by omega)) rfl rfl rfl rfl ?_; simp only [go_sem,simprocAttr]
    by_cases hw : waveL s.nodes < c.wave
    · rw [decide_eq_true hw] at hF
      simp only [decide_eq_true hw,go_sem,simprocAttr]
      simp only [if_true] at hF
      subst hF
      simp only [optV,Option.getD_some,Option.isSome_some,go_sem,simprocAttr]
    · rw [decide_eq_false hw] at hF
      simp only [Bool.false_eq_true,if_false] at hF
      simp only [decide_eq_false hw,go_sem,simprocAttr]
      refine W_lpI (k + 1) ?_ ?_ ⟨hlt, hF⟩ (by omega)
      · simp only [go_sem,simprocAttr]
      · simp only [n17S,boxC7,boxS7,opO7,wrap_succ (show k < 9223372036854775807 by omega),go_sem,simprocAttr]
  obtain rfl : k = s.nodes.length := by omega
  rw [List.drop_length, firstO] at hF
  subst hF
  simp only [decide_eq_false (show ¬ ((s.nodes.length : Nat) : Int) < ((s.nodes.length : Nat) : Int) by omega),optV,Option.getD_none,Option.isSome_none,zeroOp,go_sem,simprocAttr]
end Dv
