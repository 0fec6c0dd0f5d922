import Derived.Test.YtclgmpflmeopmaaW10
import Derived.Laws.EntriesVeiled
set_option linter.unusedVariables false
set_option linter.unusedSimpArgs false
namespace Go.Proofs.Ytclgmpflmeopmaa
open Go.RowKit Dun

theorem ix3_0 (x0 x1 x2 : Value) (w : World) : (Instr.index 68 (.agg #[x0, x1, x2]) (.int .i64 0)).run Try.prog w = .ok (.agg #[x0]) w := by kernel_rfl
theorem ix3_1 (x0 x1 x2 : Value) (w : World) : (Instr.index 68 (.agg #[x0, x1, x2]) (.int .i64 1)).run Try.prog w = .ok (.agg #[x1]) w := by kernel_rfl
theorem ix3_2 (x0 x1 x2 : Value) (w : World) : (Instr.index 68 (.agg #[x0, x1, x2]) (.int .i64 2)).run Try.prog w = .ok (.agg #[x2]) w := by kernel_rfl

def stepO (c : ConfD) (s : StateD) (now : Int) (i : Nat) (n : NodeD) (k : Int) : Option OpD :=
  match i with
  | 0 => openO s n k
  | 1 => clearO c s now n k
  | _ => shutO c s n k
def restW (c : ConfD) (s : StateD) (now : Int) : Nat → Nat → Option OpD
  | 0, _ => none
  | m + 1, i => match firstO (stepO c s now i) s.nodes 0 with
    | some o => some o
    | none => restW c s now m (i + 1)
theorem nextW_rest (c : ConfD) (s : StateD) (now : Int) (h : s.mode ≠ 1) : nextW c s now = restW c s now 3 0 := by
  unfold nextW
  rw [if_neg h]
  have e0 : stepO c s now 0 = openO s := rfl
  have e1 : stepO c s now 1 = clearO c s now := rfl
  have e2 : stepO c s now 2 = shutO c s := rfl
  simp only [restW, e0, e1, e2]
  cases firstO (openO s) s.nodes 0 <;> cases firstO (clearO c s now) s.nodes 0 <;> cases firstO (shutO c s) s.nodes 0 <;> rfl
/-- what is to come while a way's nodes are gone through -/
def duringW (c : ConfD) (s : StateD) (now : Int) (i : Nat) (l : List NodeD) (k : Nat) : Option OpD :=
  match firstO (stepO c s now i) l k with
  | some o => some o
  | none => restW c s now (2 - i) (i + 1)

set_option maxHeartbeats 4000000 in
theorem next_any (c : ConfD) (s : StateD) (a1 a2 : Option Addr) (c1 c2 : Nat) (now : Int) (w : World) (r : Option OpD) (hr : nextW c s now = r) (hO : Okay c s) (hS : StateAt w s a1 a2) (hnow : 0 ≤ now ∧ now ≤ 1000000) :
    Calls Try.prog 25 #[confV c, stateV s a1 a2 c1 c2, .int .i64 now] w (Ret w (optV r)) := by
  have hn6 : s.nodes.length ≤ 6 := by have := hO.nodes; have := hO.conf; omega
  have HO := Lib.hid hO
  have HS := Lib.hid hS
  clear hO hS
  by_cases hm : s.mode = 1
  · unfold nextW at hr
    rw [if_pos hm] at hr
    subst hr
    have hm' : (s.mode == 1) = true := by simpa using hm
    clear hm
    go_enter Try.func25, Try.ntmps25
    go_wp2
    go_step3
    go_wp2
    try rw [Exit.noGoto_ret]
    exact bodyPost_ret (v := opOkV zeroOp false) (by simp [results, Try.results25, go_sem, zeroOp]) rfl ⟨rfl, (by repeat (first | (with_reducible exact Below.refl _ _) | ((with_reducible refine Below.setCell ?_ ?_ _); rotate_left 1; focus (first | omega | (simp; done) | (simp; omega))) | ((with_reducible refine Below.alloc ?_ ?_ _); rotate_left 1; focus (first | omega | (simp; done) | (simp; omega))) | (with_reducible refine Below.drew ?_) | (with_reducible refine Below.draws ?_ _) | assumption))⟩
  · have hm' : (s.mode == 1) = false := by simpa using hm
    rw [nextW_rest c s now hm] at hr
    have HR := Lib.hid hr
    clear hr hm
    go_enter Try.func25, Try.ntmps25
    go_wp2
    go_step3
    go_wp2
    go_step3
    go_wp2
    have HOB0 : Hid (OpBox ((((w.alloc (.cells #[.int .i64 c.nodes, .int .i64 c.queues, .int .i64 c.quota, .int .i64 c.wave, .int .i64 c.lease, .int .i64 c.retry, .int .i64 c.deadline, .int .i64 c.room, .int .i64 c.disk] 29)).alloc (.cells #[.slice a1 s.nodes.length c1, .slice a2 s.jobs.length c2, .int .i64 s.goal, .int .i64 s.prior, .int .i64 s.mode, .int .i64 s.term] 33)).alloc (.cells #[.int .i64 0, .int .i64 0, .int .i64 0, .int .i64 0, .int .i64 0, .int .i64 0, .int .i64 0] 42)).alloc (.cells #[.int .i64 c.nodes, .int .i64 c.queues, .int .i64 c.quota, .int .i64 c.wave, .int .i64 c.lease, .int .i64 c.retry, .int .i64 c.deadline, .int .i64 c.room, .int .i64 c.disk, .slice a1 s.nodes.length c1, .slice a2 s.jobs.length c2, .int .i64 s.goal, .int .i64 s.prior, .int .i64 s.mode, .int .i64 s.term, .int .i64 now] 64)) (w.heap.size + 1 + 1) zeroOp) := Lib.hid (OpBox.alloc (by have := OpBox.new ((w.alloc (.cells #[.int .i64 c.nodes, .int .i64 c.queues, .int .i64 c.quota, .int .i64 c.wave, .int .i64 c.lease, .int .i64 c.retry, .int .i64 c.deadline, .int .i64 c.room, .int .i64 c.disk] 29)).alloc (.cells #[.slice a1 s.nodes.length c1, .slice a2 s.jobs.length c2, .int .i64 s.goal, .int .i64 s.prior, .int .i64 s.mode, .int .i64 s.term] 33)); simpa using this) (by first | omega | (simp; done) | (simp; omega)) _)
    have Hf0 : Hid (∀ i, ((((w.alloc (.cells #[.int .i64 c.nodes, .int .i64 c.queues, .int .i64 c.quota, .int .i64 c.wave, .int .i64 c.lease, .int .i64 c.retry, .int .i64 c.deadline, .int .i64 c.room, .int .i64 c.disk] 29)).alloc (.cells #[.slice a1 s.nodes.length c1, .slice a2 s.jobs.length c2, .int .i64 s.goal, .int .i64 s.prior, .int .i64 s.mode, .int .i64 s.term] 33)).alloc (.cells #[.int .i64 0, .int .i64 0, .int .i64 0, .int .i64 0, .int .i64 0, .int .i64 0, .int .i64 0] 42)).alloc (.cells #[.int .i64 c.nodes, .int .i64 c.queues, .int .i64 c.quota, .int .i64 c.wave, .int .i64 c.lease, .int .i64 c.retry, .int .i64 c.deadline, .int .i64 c.room, .int .i64 c.disk, .slice a1 s.nodes.length c1, .slice a2 s.jobs.length c2, .int .i64 s.goal, .int .i64 s.prior, .int .i64 s.mode, .int .i64 s.term, .int .i64 now] 64)).frozen? ⟨w.heap.size + 1 + 1, i, none⟩ = false) := Lib.hid (fun i => by go_simp)
    go_loopw [7, 32] (fun ok x wr => ∃ i : Nat, i ≤ 3 ∧ x = .int .i64 i ∧ ok = .bool false ∧ Hid (restW c s now (3 - i) i = r) ∧ Below (w.heap.size + 1 + 1 + 1 + 1) ((((w.alloc (.cells #[.int .i64 c.nodes, .int .i64 c.queues, .int .i64 c.quota, .int .i64 c.wave, .int .i64 c.lease, .int .i64 c.retry, .int .i64 c.deadline, .int .i64 c.room, .int .i64 c.disk] 29)).alloc (.cells #[.slice a1 s.nodes.length c1, .slice a2 s.jobs.length c2, .int .i64 s.goal, .int .i64 s.prior, .int .i64 s.mode, .int .i64 s.term] 33)).alloc (.cells #[.int .i64 0, .int .i64 0, .int .i64 0, .int .i64 0, .int .i64 0, .int .i64 0, .int .i64 0] 42)).alloc (.cells #[.int .i64 c.nodes, .int .i64 c.queues, .int .i64 c.quota, .int .i64 c.wave, .int .i64 c.lease, .int .i64 c.retry, .int .i64 c.deadline, .int .i64 c.room, .int .i64 c.disk, .slice a1 s.nodes.length c1, .slice a2 s.jobs.length c2, .int .i64 s.goal, .int .i64 s.prior, .int .i64 s.mode, .int .i64 s.term, .int .i64 now] 64)) wr) (fun _ x _ => 3 - (intOf x).toNat)
    case atStart => exact ⟨0, by omega, rfl, rfl, HR, Below.refl _ _⟩
    case round =>
      obtain ⟨i, hi, rfl, rfl, HK, hB⟩ := hrel
      have hi4 : i = 0 ∨ i = 1 ∨ i = 2 ∨ i = 3 := by omega
      have hsz := hB.size
      simp only [World.size_alloc] at hsz
      have hBr : Below w.heap.size w wr := ((by repeat (first | (with_reducible exact Below.refl _ _) | ((with_reducible refine Below.setCell ?_ ?_ _); rotate_left 1; focus (first | omega | (simp; done) | (simp; omega))) | ((with_reducible refine Below.alloc ?_ ?_ _); rotate_left 1; focus (first | omega | (simp; done) | (simp; omega))) | (with_reducible refine Below.drew ?_) | (with_reducible refine Below.draws ?_ _) | assumption)) : Below w.heap.size w _).trans (hB.mono (by omega))
      have hcm : wr.cell? ⟨w.heap.size + 1, 0, none⟩ = some (.slice a1 s.nodes.length c1) := (hB.cell (p := ⟨w.heap.size + 1, 0, none⟩) (by show w.heap.size + 1 < _; omega)).trans (by go_simp)
      have m0 := hcm
      have hB0 : w.heap.size + 1 < wr.heap.size := by omega
      have OB : OpBox wr (w.heap.size + 1 + 1) zeroOp := OpBox.kept (K := w.heap.size + 1 + 1 + 1 + 1) HOB0.out hB (by omega)
      have f0 : ∀ i, wr.frozen? ⟨w.heap.size + 1 + 1, i, none⟩ = false := fun i => (hB.frozen (p := ⟨w.heap.size + 1 + 1, i, none⟩) (by show w.heap.size + 1 + 1 < _; omega)).trans (Hf0.out i)
      obtain ⟨q0, q1, q2, q3, q4, q5, q6⟩ := OB.cells
      dsimp only [zeroOp] at q0 q1 q2 q3 q4 q5 q6
      rcases hi4 with rfl | rfl | rfl | rfl
      · obtain ⟨wo, rfl⟩ : ∃ wo : World, wo = wr := ⟨_, rfl⟩
        rw [show ((0 : Nat) : Int) = 0 from rfl]
        have i0 := fun w => ix3_0 (.func (.func 40) #[.agg #[.int .i64 c.nodes, .int .i64 c.queues, .int .i64 c.quota, .int .i64 c.wave, .int .i64 c.lease, .int .i64 c.retry, .int .i64 c.deadline, .int .i64 c.room, .int .i64 c.disk, .slice a1 s.nodes.length c1, .slice a2 s.jobs.length c2, .int .i64 s.goal, .int .i64 s.prior, .int .i64 s.mode, .int .i64 s.term, .int .i64 now]] #[]) (.func (.func 41) #[.agg #[.int .i64 c.nodes, .int .i64 c.queues, .int .i64 c.quota, .int .i64 c.wave, .int .i64 c.lease, .int .i64 c.retry, .int .i64 c.deadline, .int .i64 c.room, .int .i64 c.disk, .slice a1 s.nodes.length c1, .slice a2 s.jobs.length c2, .int .i64 s.goal, .int .i64 s.prior, .int .i64 s.mode, .int .i64 s.term, .int .i64 now]] #[]) (.func (.func 42) #[.agg #[.int .i64 c.nodes, .int .i64 c.queues, .int .i64 c.quota, .int .i64 c.wave, .int .i64 c.lease, .int .i64 c.retry, .int .i64 c.deadline, .int .i64 c.room, .int .i64 c.disk, .slice a1 s.nodes.length c1, .slice a2 s.jobs.length c2, .int .i64 s.goal, .int .i64 s.prior, .int .i64 s.mode, .int .i64 s.term, .int .i64 now]] #[]) w
        go_wp2
        clear i0
        clear hcm hB0
        go_loopw [7, 38] (fun ok x wr => ∃ k : Nat, k ≤ s.nodes.length ∧ x = .int .i64 k ∧ ok = .bool false ∧ Hid (duringW c s now 0 (s.nodes.drop k) k = r) ∧ Below (w.heap.size + 1 + 1 + 1 + 1) ((((w.alloc (.cells #[.int .i64 c.nodes, .int .i64 c.queues, .int .i64 c.quota, .int .i64 c.wave, .int .i64 c.lease, .int .i64 c.retry, .int .i64 c.deadline, .int .i64 c.room, .int .i64 c.disk] 29)).alloc (.cells #[.slice a1 s.nodes.length c1, .slice a2 s.jobs.length c2, .int .i64 s.goal, .int .i64 s.prior, .int .i64 s.mode, .int .i64 s.term] 33)).alloc (.cells #[.int .i64 0, .int .i64 0, .int .i64 0, .int .i64 0, .int .i64 0, .int .i64 0, .int .i64 0] 42)).alloc (.cells #[.int .i64 c.nodes, .int .i64 c.queues, .int .i64 c.quota, .int .i64 c.wave, .int .i64 c.lease, .int .i64 c.retry, .int .i64 c.deadline, .int .i64 c.room, .int .i64 c.disk, .slice a1 s.nodes.length c1, .slice a2 s.jobs.length c2, .int .i64 s.goal, .int .i64 s.prior, .int .i64 s.mode, .int .i64 s.term, .int .i64 now] 64)) wr ∧ wo.heap.size < wr.heap.size ∧ wr.cell? ⟨wo.heap.size, 0, none⟩ = some (.func (.func 40) #[.agg #[.int .i64 c.nodes, .int .i64 c.queues, .int .i64 c.quota, .int .i64 c.wave, .int .i64 c.lease, .int .i64 c.retry, .int .i64 c.deadline, .int .i64 c.room, .int .i64 c.disk, .slice a1 s.nodes.length c1, .slice a2 s.jobs.length c2, .int .i64 s.goal, .int .i64 s.prior, .int .i64 s.mode, .int .i64 s.term, .int .i64 now]] #[])) (fun _ x _ => s.nodes.length - (intOf x).toNat)
        case atStart => exact ⟨0, Nat.zero_le _, rfl, rfl, by rw [List.drop_zero]; exact HK, hB.trans (by repeat (first | (with_reducible exact Below.refl _ _) | ((with_reducible refine Below.setCell ?_ ?_ _); rotate_left 1; focus (first | omega | (simp; done) | (simp; omega))) | ((with_reducible refine Below.alloc ?_ ?_ _); rotate_left 1; focus (first | omega | (simp; done) | (simp; omega))) | (with_reducible refine Below.drew ?_) | (with_reducible refine Below.draws ?_ _) | assumption)), by simp, World.cell?_alloc_new ..⟩
        case round =>
          clear OB f0 m0
          obtain ⟨k, hk, rfl, rfl, HK2, hB2, hlo, hfc⟩ := hrel
          have hsz2 := hB2.size
          simp only [World.size_alloc] at hsz2
          have hBr2 : Below w.heap.size w wr := ((by repeat (first | (with_reducible exact Below.refl _ _) | ((with_reducible refine Below.setCell ?_ ?_ _); rotate_left 1; focus (first | omega | (simp; done) | (simp; omega))) | ((with_reducible refine Below.alloc ?_ ?_ _); rotate_left 1; focus (first | omega | (simp; done) | (simp; omega))) | (with_reducible refine Below.drew ?_) | (with_reducible refine Below.draws ?_ _) | assumption)) : Below w.heap.size w _).trans (hB2.mono (by omega))
          have OB : OpBox wr (w.heap.size + 1 + 1) zeroOp := OpBox.kept (K := w.heap.size + 1 + 1 + 1 + 1) HOB0.out hB2 (by omega)
          have f0 : ∀ i, wr.frozen? ⟨w.heap.size + 1 + 1, i, none⟩ = false := fun i => (hB2.frozen (p := ⟨w.heap.size + 1 + 1, i, none⟩) (by show w.heap.size + 1 + 1 < _; omega)).trans (Hf0.out i)
          by_cases hlt : k < s.nodes.length
          · have hr := HK2.out
            unfold duringW at hr
            rw [drop_cons s.nodes k zeroNode hlt] at hr
            unfold firstO at hr
            have hk2 : ¬ s.nodes.length ≤ k := by omega
            obtain ⟨ob, hob⟩ : ∃ b, openB s (s.nodes.getD k zeroNode) = b := ⟨_, rfl⟩
            have hst : stepO c s now 0 (s.nodes.getD k zeroNode) k = if ob = true then some ⟨17, k, 0, 0, 0, 0, 0⟩ else none := by rw [← hob]; rfl
            rw [hst] at hr
            clear hst HK2
            cases ob with
            | true =>
              subst hr
              clear HK
              go_wp2_with fail
              refine Calls.mono (open_any c s a1 a2 c1 c2 now k hlt _ true hob HO.out ?_) ?_
              · exact HS.out.below hBr2 (Nat.le_refl _)
              rintro e w3 ⟨rfl, hb3⟩
              have OB3 := OB.kept hb3 (by omega)
              have f3 : ∀ i, w3.frozen? ⟨w.heap.size + 1 + 1, i, none⟩ = false := fun i => (hb3.frozen (p := ⟨w.heap.size + 1 + 1, i, none⟩) (by show w.heap.size + 1 + 1 < _; omega)).trans (f0 i)
              have hB3 : Below w.heap.size w w3 := hBr2.trans (hb3.mono (by omega))
              have hB30 := hB2.trans (hb3.mono (by omega))
              have hz3 := hb3.size
              have hl3 : w.heap.size + 1 + 1 < w3.heap.size := by omega
              have hlo3 : wo.heap.size < w3.heap.size := by omega
              have hfc3 := (hb3.cell (p := ⟨wo.heap.size, 0, none⟩) hlo).trans hfc
              obtain ⟨r0, r1, r2, r3, r4, r5, r6⟩ := OB3.cells
              dsimp only [zeroOp] at r0 r1 r2 r3 r4 r5 r6
              go_wp2
              try rw [Exit.noGoto_ret]
              exact bodyPost_ret (v := opOkV ⟨17, k, 0, 0, 0, 0, 0⟩ true) (res_opok rfl _ _ (w.heap.size + 1 + 1) ⟨17, k, 0, 0, 0, 0, 0⟩ true rfl (by show OpBox _ _ _; repeat (first | (with_reducible exact OB3) | (with_reducible apply OpBox.set (o' := ⟨17, k, 0, 0, 0, 0, 0⟩)) | ((with_reducible refine OpBox.alloc ?_ ?_ _); rotate_left 1; focus (first | omega | (simp; done) | (simp; omega))) | (with_reducible refine OpBox.drawsN ?_ _) | (with_reducible refine OpBox.draw ?_))) rfl) rfl ⟨rfl, hB3.trans (by repeat (first | (with_reducible exact Below.refl _ _) | ((with_reducible refine Below.setCell ?_ ?_ _); rotate_left 1; focus (first | omega | (simp; done) | (simp; omega))) | ((with_reducible refine Below.alloc ?_ ?_ _); rotate_left 1; focus (first | omega | (simp; done) | (simp; omega))) | (with_reducible refine Below.drew ?_) | (with_reducible refine Below.draws ?_ _) | assumption))⟩
            | false =>
              replace hr := Lib.hid hr
              go_wp2_with fail
              refine Calls.mono (open_any c s a1 a2 c1 c2 now k hlt _ false hob HO.out ?_) ?_
              · exact HS.out.below hBr2 (Nat.le_refl _)
              rintro e w3 ⟨rfl, hb3⟩
              have OB3 := OB.kept hb3 (by omega)
              have f3 : ∀ i, w3.frozen? ⟨w.heap.size + 1 + 1, i, none⟩ = false := fun i => (hb3.frozen (p := ⟨w.heap.size + 1 + 1, i, none⟩) (by show w.heap.size + 1 + 1 < _; omega)).trans (f0 i)
              have hB3 : Below w.heap.size w w3 := hBr2.trans (hb3.mono (by omega))
              have hB30 := hB2.trans (hb3.mono (by omega))
              have hz3 := hb3.size
              have hl3 : w.heap.size + 1 + 1 < w3.heap.size := by omega
              have hlo3 : wo.heap.size < w3.heap.size := by omega
              have hfc3 := (hb3.cell (p := ⟨wo.heap.size, 0, none⟩) hlo).trans hfc
              obtain ⟨r0, r1, r2, r3, r4, r5, r6⟩ := OB3.cells
              dsimp only [zeroOp] at r0 r1 r2 r3 r4 r5 r6
              go_wp2
              go_roundw
              case rel => exact ⟨k + 1, by omega, by go_num, rfl, hr, hB30.trans (by repeat (first | (with_reducible exact Below.refl _ _) | ((with_reducible refine Below.setCell ?_ ?_ _); rotate_left 1; focus (first | omega | (simp; done) | (simp; omega))) | ((with_reducible refine Below.alloc ?_ ?_ _); rotate_left 1; focus (first | omega | (simp; done) | (simp; omega))) | (with_reducible refine Below.drew ?_) | (with_reducible refine Below.draws ?_ _) | assumption)), by simp; omega, by rw [World.cell?_alloc_lt _ _ _ (by exact hlo3)]; exact hfc3⟩
              case measure => simp [intOf]; omega

          · obtain rfl : k = s.nodes.length := by omega
            have hr := HK2.out
            unfold duringW at hr
            rw [List.drop_of_length_le (Nat.le_refl _)] at hr
            clear HK2
            go_wp2
            go_roundw
            case rel => exact ⟨0 + 1, by omega, by go_num, rfl, Lib.hid hr, hB2⟩
            case measure => simp [intOf]
      · obtain ⟨wo, rfl⟩ : ∃ wo : World, wo = wr := ⟨_, rfl⟩
        rw [show ((1 : Nat) : Int) = 1 from rfl]
        have i0 := fun w => ix3_1 (.func (.func 40) #[.agg #[.int .i64 c.nodes, .int .i64 c.queues, .int .i64 c.quota, .int .i64 c.wave, .int .i64 c.lease, .int .i64 c.retry, .int .i64 c.deadline, .int .i64 c.room, .int .i64 c.disk, .slice a1 s.nodes.length c1, .slice a2 s.jobs.length c2, .int .i64 s.goal, .int .i64 s.prior, .int .i64 s.mode, .int .i64 s.term, .int .i64 now]] #[]) (.func (.func 41) #[.agg #[.int .i64 c.nodes, .int .i64 c.queues, .int .i64 c.quota, .int .i64 c.wave, .int .i64 c.lease, .int .i64 c.retry, .int .i64 c.deadline, .int .i64 c.room, .int .i64 c.disk, .slice a1 s.nodes.length c1, .slice a2 s.jobs.length c2, .int .i64 s.goal, .int .i64 s.prior, .int .i64 s.mode, .int .i64 s.term, .int .i64 now]] #[]) (.func (.func 42) #[.agg #[.int .i64 c.nodes, .int .i64 c.queues, .int .i64 c.quota, .int .i64 c.wave, .int .i64 c.lease, .int .i64 c.retry, .int .i64 c.deadline, .int .i64 c.room, .int .i64 c.disk, .slice a1 s.nodes.length c1, .slice a2 s.jobs.length c2, .int .i64 s.goal, .int .i64 s.prior, .int .i64 s.mode, .int .i64 s.term, .int .i64 now]] #[]) w
        go_wp2
        clear i0
        clear hcm hB0
        go_loopw [7, 38] (fun ok x wr => ∃ k : Nat, k ≤ s.nodes.length ∧ x = .int .i64 k ∧ ok = .bool false ∧ Hid (duringW c s now 1 (s.nodes.drop k) k = r) ∧ Below (w.heap.size + 1 + 1 + 1 + 1) ((((w.alloc (.cells #[.int .i64 c.nodes, .int .i64 c.queues, .int .i64 c.quota, .int .i64 c.wave, .int .i64 c.lease, .int .i64 c.retry, .int .i64 c.deadline, .int .i64 c.room, .int .i64 c.disk] 29)).alloc (.cells #[.slice a1 s.nodes.length c1, .slice a2 s.jobs.length c2, .int .i64 s.goal, .int .i64 s.prior, .int .i64 s.mode, .int .i64 s.term] 33)).alloc (.cells #[.int .i64 0, .int .i64 0, .int .i64 0, .int .i64 0, .int .i64 0, .int .i64 0, .int .i64 0] 42)).alloc (.cells #[.int .i64 c.nodes, .int .i64 c.queues, .int .i64 c.quota, .int .i64 c.wave, .int .i64 c.lease, .int .i64 c.retry, .int .i64 c.deadline, .int .i64 c.room, .int .i64 c.disk, .slice a1 s.nodes.length c1, .slice a2 s.jobs.length c2, .int .i64 s.goal, .int .i64 s.prior, .int .i64 s.mode, .int .i64 s.term, .int .i64 now] 64)) wr ∧ wo.heap.size < wr.heap.size ∧ wr.cell? ⟨wo.heap.size, 0, none⟩ = some (.func (.func 41) #[.agg #[.int .i64 c.nodes, .int .i64 c.queues, .int .i64 c.quota, .int .i64 c.wave, .int .i64 c.lease, .int .i64 c.retry, .int .i64 c.deadline, .int .i64 c.room, .int .i64 c.disk, .slice a1 s.nodes.length c1, .slice a2 s.jobs.length c2, .int .i64 s.goal, .int .i64 s.prior, .int .i64 s.mode, .int .i64 s.term, .int .i64 now]] #[])) (fun _ x _ => s.nodes.length - (intOf x).toNat)
        case atStart => exact ⟨0, Nat.zero_le _, rfl, rfl, by rw [List.drop_zero]; exact HK, hB.trans (by repeat (first | (with_reducible exact Below.refl _ _) | ((with_reducible refine Below.setCell ?_ ?_ _); rotate_left 1; focus (first | omega | (simp; done) | (simp; omega))) | ((with_reducible refine Below.alloc ?_ ?_ _); rotate_left 1; focus (first | omega | (simp; done) | (simp; omega))) | (with_reducible refine Below.drew ?_) | (with_reducible refine Below.draws ?_ _) | assumption)), by simp, World.cell?_alloc_new ..⟩
        case round =>
          clear OB f0 m0
          obtain ⟨k, hk, rfl, rfl, HK2, hB2, hlo, hfc⟩ := hrel
          have hsz2 := hB2.size
          simp only [World.size_alloc] at hsz2
          have hBr2 : Below w.heap.size w wr := ((by repeat (first | (with_reducible exact Below.refl _ _) | ((with_reducible refine Below.setCell ?_ ?_ _); rotate_left 1; focus (first | omega | (simp; done) | (simp; omega))) | ((with_reducible refine Below.alloc ?_ ?_ _); rotate_left 1; focus (first | omega | (simp; done) | (simp; omega))) | (with_reducible refine Below.drew ?_) | (with_reducible refine Below.draws ?_ _) | assumption)) : Below w.heap.size w _).trans (hB2.mono (by omega))
          have OB : OpBox wr (w.heap.size + 1 + 1) zeroOp := OpBox.kept (K := w.heap.size + 1 + 1 + 1 + 1) HOB0.out hB2 (by omega)
          have f0 : ∀ i, wr.frozen? ⟨w.heap.size + 1 + 1, i, none⟩ = false := fun i => (hB2.frozen (p := ⟨w.heap.size + 1 + 1, i, none⟩) (by show w.heap.size + 1 + 1 < _; omega)).trans (Hf0.out i)
          by_cases hlt : k < s.nodes.length
          · have hr := HK2.out
            unfold duringW at hr
            rw [drop_cons s.nodes k zeroNode hlt] at hr
            unfold firstO at hr
            have hk2 : ¬ s.nodes.length ≤ k := by omega
            obtain ⟨oo, hoo⟩ : ∃ b, clearO c s now (s.nodes.getD k zeroNode) k = b := ⟨_, rfl⟩
            have hst : stepO c s now 1 (s.nodes.getD k zeroNode) k = oo := hoo
            rw [hst] at hr
            clear hst HK2
            cases oo with
            | some oq =>
              subst hr
              clear HK
              go_wp2_with fail
              refine Calls.mono (show Calls Try.prog 41 _ _ (Ret _ (opOkV oq true)) from clear_any c s a1 a2 c1 c2 now k hlt _ (some oq) hoo HO.out ?_ hnow) ?_
              · exact HS.out.below hBr2 (Nat.le_refl _)
              rintro e w3 ⟨rfl, hb3⟩
              have OB3 := OB.kept hb3 (by omega)
              have f3 : ∀ i, w3.frozen? ⟨w.heap.size + 1 + 1, i, none⟩ = false := fun i => (hb3.frozen (p := ⟨w.heap.size + 1 + 1, i, none⟩) (by show w.heap.size + 1 + 1 < _; omega)).trans (f0 i)
              have hB3 : Below w.heap.size w w3 := hBr2.trans (hb3.mono (by omega))
              have hB30 := hB2.trans (hb3.mono (by omega))
              have hz3 := hb3.size
              have hl3 : w.heap.size + 1 + 1 < w3.heap.size := by omega
              have hlo3 : wo.heap.size < w3.heap.size := by omega
              have hfc3 := (hb3.cell (p := ⟨wo.heap.size, 0, none⟩) hlo).trans hfc
              obtain ⟨r0, r1, r2, r3, r4, r5, r6⟩ := OB3.cells
              dsimp only [zeroOp] at r0 r1 r2 r3 r4 r5 r6
              go_wp2
              try rw [Exit.noGoto_ret]
              exact bodyPost_ret (v := opOkV oq true) (res_opok rfl _ _ (w.heap.size + 1 + 1) oq true rfl (by show OpBox _ _ _; repeat (first | (with_reducible exact OB3) | (with_reducible apply OpBox.set (o' := oq)) | ((with_reducible refine OpBox.alloc ?_ ?_ _); rotate_left 1; focus (first | omega | (simp; done) | (simp; omega))) | (with_reducible refine OpBox.drawsN ?_ _) | (with_reducible refine OpBox.draw ?_))) rfl) rfl ⟨rfl, hB3.trans (by repeat (first | (with_reducible exact Below.refl _ _) | ((with_reducible refine Below.setCell ?_ ?_ _); rotate_left 1; focus (first | omega | (simp; done) | (simp; omega))) | ((with_reducible refine Below.alloc ?_ ?_ _); rotate_left 1; focus (first | omega | (simp; done) | (simp; omega))) | (with_reducible refine Below.drew ?_) | (with_reducible refine Below.draws ?_ _) | assumption))⟩
            | none =>
              replace hr := Lib.hid hr
              go_wp2_with fail
              refine Calls.mono (show Calls Try.prog 41 _ _ (Ret _ (opOkV ⟨0, 0, 0, 0, 0, 0, 0⟩ false)) from clear_any c s a1 a2 c1 c2 now k hlt _ none hoo HO.out ?_ hnow) ?_
              · exact HS.out.below hBr2 (Nat.le_refl _)
              rintro e w3 ⟨rfl, hb3⟩
              have OB3 := OB.kept hb3 (by omega)
              have f3 : ∀ i, w3.frozen? ⟨w.heap.size + 1 + 1, i, none⟩ = false := fun i => (hb3.frozen (p := ⟨w.heap.size + 1 + 1, i, none⟩) (by show w.heap.size + 1 + 1 < _; omega)).trans (f0 i)
              have hB3 : Below w.heap.size w w3 := hBr2.trans (hb3.mono (by omega))
              have hB30 := hB2.trans (hb3.mono (by omega))
              have hz3 := hb3.size
              have hl3 : w.heap.size + 1 + 1 < w3.heap.size := by omega
              have hlo3 : wo.heap.size < w3.heap.size := by omega
              have hfc3 := (hb3.cell (p := ⟨wo.heap.size, 0, none⟩) hlo).trans hfc
              obtain ⟨r0, r1, r2, r3, r4, r5, r6⟩ := OB3.cells
              dsimp only [zeroOp] at r0 r1 r2 r3 r4 r5 r6
              go_wp2
              go_roundw
              case rel => exact ⟨k + 1, by omega, by go_num, rfl, hr, hB30.trans (by repeat (first | (with_reducible exact Below.refl _ _) | ((with_reducible refine Below.setCell ?_ ?_ _); rotate_left 1; focus (first | omega | (simp; done) | (simp; omega))) | ((with_reducible refine Below.alloc ?_ ?_ _); rotate_left 1; focus (first | omega | (simp; done) | (simp; omega))) | (with_reducible refine Below.drew ?_) | (with_reducible refine Below.draws ?_ _) | assumption)), by simp; omega, by rw [World.cell?_alloc_lt _ _ _ (by exact hlo3)]; exact hfc3⟩
              case measure => simp [intOf]; omega

          · obtain rfl : k = s.nodes.length := by omega
            have hr := HK2.out
            unfold duringW at hr
            rw [List.drop_of_length_le (Nat.le_refl _)] at hr
            clear HK2
            go_wp2
            go_roundw
            case rel => exact ⟨1 + 1, by omega, by go_num, rfl, Lib.hid hr, hB2⟩
            case measure => simp [intOf]
      · obtain ⟨wo, rfl⟩ : ∃ wo : World, wo = wr := ⟨_, rfl⟩
        rw [show ((2 : Nat) : Int) = 2 from rfl]
        have i0 := fun w => ix3_2 (.func (.func 40) #[.agg #[.int .i64 c.nodes, .int .i64 c.queues, .int .i64 c.quota, .int .i64 c.wave, .int .i64 c.lease, .int .i64 c.retry, .int .i64 c.deadline, .int .i64 c.room, .int .i64 c.disk, .slice a1 s.nodes.length c1, .slice a2 s.jobs.length c2, .int .i64 s.goal, .int .i64 s.prior, .int .i64 s.mode, .int .i64 s.term, .int .i64 now]] #[]) (.func (.func 41) #[.agg #[.int .i64 c.nodes, .int .i64 c.queues, .int .i64 c.quota, .int .i64 c.wave, .int .i64 c.lease, .int .i64 c.retry, .int .i64 c.deadline, .int .i64 c.room, .int .i64 c.disk, .slice a1 s.nodes.length c1, .slice a2 s.jobs.length c2, .int .i64 s.goal, .int .i64 s.prior, .int .i64 s.mode, .int .i64 s.term, .int .i64 now]] #[]) (.func (.func 42) #[.agg #[.int .i64 c.nodes, .int .i64 c.queues, .int .i64 c.quota, .int .i64 c.wave, .int .i64 c.lease, .int .i64 c.retry, .int .i64 c.deadline, .int .i64 c.room, .int .i64 c.disk, .slice a1 s.nodes.length c1, .slice a2 s.jobs.length c2, .int .i64 s.goal, .int .i64 s.prior, .int .i64 s.mode, .int .i64 s.term, .int .i64 now]] #[]) w
        go_wp2
        clear i0
        clear hcm hB0
        go_loopw [7, 38] (fun ok x wr => ∃ k : Nat, k ≤ s.nodes.length ∧ x = .int .i64 k ∧ ok = .bool false ∧ Hid (duringW c s now 2 (s.nodes.drop k) k = r) ∧ Below (w.heap.size + 1 + 1 + 1 + 1) ((((w.alloc (.cells #[.int .i64 c.nodes, .int .i64 c.queues, .int .i64 c.quota, .int .i64 c.wave, .int .i64 c.lease, .int .i64 c.retry, .int .i64 c.deadline, .int .i64 c.room, .int .i64 c.disk] 29)).alloc (.cells #[.slice a1 s.nodes.length c1, .slice a2 s.jobs.length c2, .int .i64 s.goal, .int .i64 s.prior, .int .i64 s.mode, .int .i64 s.term] 33)).alloc (.cells #[.int .i64 0, .int .i64 0, .int .i64 0, .int .i64 0, .int .i64 0, .int .i64 0, .int .i64 0] 42)).alloc (.cells #[.int .i64 c.nodes, .int .i64 c.queues, .int .i64 c.quota, .int .i64 c.wave, .int .i64 c.lease, .int .i64 c.retry, .int .i64 c.deadline, .int .i64 c.room, .int .i64 c.disk, .slice a1 s.nodes.length c1, .slice a2 s.jobs.length c2, .int .i64 s.goal, .int .i64 s.prior, .int .i64 s.mode, .int .i64 s.term, .int .i64 now] 64)) wr ∧ wo.heap.size < wr.heap.size ∧ wr.cell? ⟨wo.heap.size, 0, none⟩ = some (.func (.func 42) #[.agg #[.int .i64 c.nodes, .int .i64 c.queues, .int .i64 c.quota, .int .i64 c.wave, .int .i64 c.lease, .int .i64 c.retry, .int .i64 c.deadline, .int .i64 c.room, .int .i64 c.disk, .slice a1 s.nodes.length c1, .slice a2 s.jobs.length c2, .int .i64 s.goal, .int .i64 s.prior, .int .i64 s.mode, .int .i64 s.term, .int .i64 now]] #[])) (fun _ x _ => s.nodes.length - (intOf x).toNat)
        case atStart => exact ⟨0, Nat.zero_le _, rfl, rfl, by rw [List.drop_zero]; exact HK, hB.trans (by repeat (first | (with_reducible exact Below.refl _ _) | ((with_reducible refine Below.setCell ?_ ?_ _); rotate_left 1; focus (first | omega | (simp; done) | (simp; omega))) | ((with_reducible refine Below.alloc ?_ ?_ _); rotate_left 1; focus (first | omega | (simp; done) | (simp; omega))) | (with_reducible refine Below.drew ?_) | (with_reducible refine Below.draws ?_ _) | assumption)), by simp, World.cell?_alloc_new ..⟩
        case round =>
          clear OB f0 m0
          obtain ⟨k, hk, rfl, rfl, HK2, hB2, hlo, hfc⟩ := hrel
          have hsz2 := hB2.size
          simp only [World.size_alloc] at hsz2
          have hBr2 : Below w.heap.size w wr := ((by repeat (first | (with_reducible exact Below.refl _ _) | ((with_reducible refine Below.setCell ?_ ?_ _); rotate_left 1; focus (first | omega | (simp; done) | (simp; omega))) | ((with_reducible refine Below.alloc ?_ ?_ _); rotate_left 1; focus (first | omega | (simp; done) | (simp; omega))) | (with_reducible refine Below.drew ?_) | (with_reducible refine Below.draws ?_ _) | assumption)) : Below w.heap.size w _).trans (hB2.mono (by omega))
          have OB : OpBox wr (w.heap.size + 1 + 1) zeroOp := OpBox.kept (K := w.heap.size + 1 + 1 + 1 + 1) HOB0.out hB2 (by omega)
          have f0 : ∀ i, wr.frozen? ⟨w.heap.size + 1 + 1, i, none⟩ = false := fun i => (hB2.frozen (p := ⟨w.heap.size + 1 + 1, i, none⟩) (by show w.heap.size + 1 + 1 < _; omega)).trans (Hf0.out i)
          by_cases hlt : k < s.nodes.length
          · have hr := HK2.out
            unfold duringW at hr
            rw [drop_cons s.nodes k zeroNode hlt] at hr
            unfold firstO at hr
            have hk2 : ¬ s.nodes.length ≤ k := by omega
            obtain ⟨ob, hob⟩ : ∃ b, shutB c s (s.nodes.getD k zeroNode) = b := ⟨_, rfl⟩
            have hst : stepO c s now 2 (s.nodes.getD k zeroNode) k = if ob = true then some ⟨16, k, 0, 0, 0, 0, 0⟩ else none := by rw [← hob]; rfl
            rw [hst] at hr
            clear hst HK2
            cases ob with
            | true =>
              subst hr
              clear HK
              go_wp2_with fail
              refine Calls.mono (shut_any c s a1 a2 c1 c2 now k hlt _ true hob HO.out ?_) ?_
              · exact HS.out.below hBr2 (Nat.le_refl _)
              rintro e w3 ⟨rfl, hb3⟩
              have OB3 := OB.kept hb3 (by omega)
              have f3 : ∀ i, w3.frozen? ⟨w.heap.size + 1 + 1, i, none⟩ = false := fun i => (hb3.frozen (p := ⟨w.heap.size + 1 + 1, i, none⟩) (by show w.heap.size + 1 + 1 < _; omega)).trans (f0 i)
              have hB3 : Below w.heap.size w w3 := hBr2.trans (hb3.mono (by omega))
              have hB30 := hB2.trans (hb3.mono (by omega))
              have hz3 := hb3.size
              have hl3 : w.heap.size + 1 + 1 < w3.heap.size := by omega
              have hlo3 : wo.heap.size < w3.heap.size := by omega
              have hfc3 := (hb3.cell (p := ⟨wo.heap.size, 0, none⟩) hlo).trans hfc
              obtain ⟨r0, r1, r2, r3, r4, r5, r6⟩ := OB3.cells
              dsimp only [zeroOp] at r0 r1 r2 r3 r4 r5 r6
              go_wp2
              try rw [Exit.noGoto_ret]
              exact bodyPost_ret (v := opOkV ⟨16, k, 0, 0, 0, 0, 0⟩ true) (res_opok rfl _ _ (w.heap.size + 1 + 1) ⟨16, k, 0, 0, 0, 0, 0⟩ true rfl (by show OpBox _ _ _; repeat (first | (with_reducible exact OB3) | (with_reducible apply OpBox.set (o' := ⟨16, k, 0, 0, 0, 0, 0⟩)) | ((with_reducible refine OpBox.alloc ?_ ?_ _); rotate_left 1; focus (first | omega | (simp; done) | (simp; omega))) | (with_reducible refine OpBox.drawsN ?_ _) | (with_reducible refine OpBox.draw ?_))) rfl) rfl ⟨rfl, hB3.trans (by repeat (first | (with_reducible exact Below.refl _ _) | ((with_reducible refine Below.setCell ?_ ?_ _); rotate_left 1; focus (first | omega | (simp; done) | (simp; omega))) | ((with_reducible refine Below.alloc ?_ ?_ _); rotate_left 1; focus (first | omega | (simp; done) | (simp; omega))) | (with_reducible refine Below.drew ?_) | (with_reducible refine Below.draws ?_ _) | assumption))⟩
            | false =>
              replace hr := Lib.hid hr
              go_wp2_with fail
              refine Calls.mono (shut_any c s a1 a2 c1 c2 now k hlt _ false hob HO.out ?_) ?_
              · exact HS.out.below hBr2 (Nat.le_refl _)
              rintro e w3 ⟨rfl, hb3⟩
              have OB3 := OB.kept hb3 (by omega)
              have f3 : ∀ i, w3.frozen? ⟨w.heap.size + 1 + 1, i, none⟩ = false := fun i => (hb3.frozen (p := ⟨w.heap.size + 1 + 1, i, none⟩) (by show w.heap.size + 1 + 1 < _; omega)).trans (f0 i)
              have hB3 : Below w.heap.size w w3 := hBr2.trans (hb3.mono (by omega))
              have hB30 := hB2.trans (hb3.mono (by omega))
              have hz3 := hb3.size
              have hl3 : w.heap.size + 1 + 1 < w3.heap.size := by omega
              have hlo3 : wo.heap.size < w3.heap.size := by omega
              have hfc3 := (hb3.cell (p := ⟨wo.heap.size, 0, none⟩) hlo).trans hfc
              obtain ⟨r0, r1, r2, r3, r4, r5, r6⟩ := OB3.cells
              dsimp only [zeroOp] at r0 r1 r2 r3 r4 r5 r6
              go_wp2
              go_roundw
              case rel => exact ⟨k + 1, by omega, by go_num, rfl, hr, hB30.trans (by repeat (first | (with_reducible exact Below.refl _ _) | ((with_reducible refine Below.setCell ?_ ?_ _); rotate_left 1; focus (first | omega | (simp; done) | (simp; omega))) | ((with_reducible refine Below.alloc ?_ ?_ _); rotate_left 1; focus (first | omega | (simp; done) | (simp; omega))) | (with_reducible refine Below.drew ?_) | (with_reducible refine Below.draws ?_ _) | assumption)), by simp; omega, by rw [World.cell?_alloc_lt _ _ _ (by exact hlo3)]; exact hfc3⟩
              case measure => simp [intOf]; omega

          · obtain rfl : k = s.nodes.length := by omega
            have hr := HK2.out
            unfold duringW at hr
            rw [List.drop_of_length_le (Nat.le_refl _)] at hr
            clear HK2
            go_wp2
            go_roundw
            case rel => exact ⟨2 + 1, by omega, by go_num, rfl, Lib.hid hr, hB2⟩
            case measure => simp [intOf]
      · have hr : none = r := HK.out
        subst hr
        go_wp2
        try rw [Exit.noGoto_ret]
        exact bodyPost_ret (v := opOkV ⟨0, 0, 0, 0, 0, 0, 0⟩ false) (res_opok rfl _ _ (w.heap.size + 1 + 1) ⟨0, 0, 0, 0, 0, 0, 0⟩ false rfl (by show OpBox _ _ _; repeat (first | (with_reducible exact OB) | (with_reducible apply OpBox.set (o' := ⟨0, 0, 0, 0, 0, 0, 0⟩)) | ((with_reducible refine OpBox.alloc ?_ ?_ _); rotate_left 1; focus (first | omega | (simp; done) | (simp; omega))) | (with_reducible refine OpBox.drawsN ?_ _) | (with_reducible refine OpBox.draw ?_))) rfl) rfl ⟨rfl, hBr.trans (by repeat (first | (with_reducible exact Below.refl _ _) | ((with_reducible refine Below.setCell ?_ ?_ _); rotate_left 1; focus (first | omega | (simp; done) | (simp; omega))) | ((with_reducible refine Below.alloc ?_ ?_ _); rotate_left 1; focus (first | omega | (simp; done) | (simp; omega))) | (with_reducible refine Below.drew ?_) | (with_reducible refine Below.draws ?_ _) | assumption))⟩
end Go.Proofs.Ytclgmpflmeopmaa
