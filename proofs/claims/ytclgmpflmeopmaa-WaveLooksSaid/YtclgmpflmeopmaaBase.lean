/- How the plain data lie in the model's values and cells. -/
import Derived.Test.YtclgmpflmeopmaaRows
import Derived.Test.YtclgmpflmeopmaaPure
import Derived.WalkKit
import Derived.Outline
import Derived.Lib.Hide
import Derived.Deep.QuietTactic
import Derived.BigQuiet
set_option linter.unusedVariables false
set_option linter.unusedSimpArgs false
namespace Go.Proofs.Ytclgmpflmeopmaa
open Go.RowKit Dun

abbrev i64v (n : Int) : Value := .int .i64 n

def nodeVals (n : NodeD) : List Value := [.bool n.up, .bool n.cordon, .bool n.moving, .int .i64 n.version, .int .i64 n.job]
def jobVals (j : JobD) : List Value := [.int .i64 j.queue, .int .i64 j.prio, .int .i64 j.min, .int .i64 j.max, .int .i64 j.work, .int .i64 j.pin, .int .i64 j.phase, .int .i64 j.inc, .int .i64 j.nodes, .int .i64 j.since, .int .i64 j.til, .int .i64 j.epoch]
def msgVals (m : MsgD) : List Value := [.int .i64 m.node, .int .i64 m.kind, .int .i64 m.term, .int .i64 m.gen, .int .i64 m.job, .int .i64 m.inc, .int .i64 m.version, .int .i64 m.epoch, .int .i64 m.til, .int .i64 m.mode, .int .i64 m.work]

abbrev nodeV (n : NodeD) : Value := .agg #[.bool n.up, .bool n.cordon, .bool n.moving, .int .i64 n.version, .int .i64 n.job]
abbrev jobV (n : JobD) : Value := .agg #[.int .i64 n.queue, .int .i64 n.prio, .int .i64 n.min, .int .i64 n.max, .int .i64 n.work, .int .i64 n.pin, .int .i64 n.phase, .int .i64 n.inc, .int .i64 n.nodes, .int .i64 n.since, .int .i64 n.til, .int .i64 n.epoch]
abbrev msgV (n : MsgD) : Value := .agg #[.int .i64 n.node, .int .i64 n.kind, .int .i64 n.term, .int .i64 n.gen, .int .i64 n.job, .int .i64 n.inc, .int .i64 n.version, .int .i64 n.epoch, .int .i64 n.til, .int .i64 n.mode, .int .i64 n.work]
abbrev opV (o : OpD) : Value := .agg #[.int .i64 o.kind, .int .i64 o.a, .int .i64 o.b, .int .i64 o.c, .int .i64 o.d, .int .i64 o.e, .int .i64 o.f]
abbrev confV (c : ConfD) : Value := .agg #[.int .i64 c.nodes, .int .i64 c.queues, .int .i64 c.quota, .int .i64 c.wave, .int .i64 c.lease, .int .i64 c.retry, .int .i64 c.deadline, .int .i64 c.room, .int .i64 c.disk]

/-- a state as a value: where its two slices begin, and their capacities, are open -/
abbrev stateV (s : StateD) (a1 a2 : Option Addr) (c1 c2 : Nat) : Value := .agg #[.slice a1 s.nodes.length c1, .slice a2 s.jobs.length c2, .int .i64 s.goal, .int .i64 s.prior, .int .i64 s.mode, .int .i64 s.term]

/-- the rows of a slice lie in memory -/
def RowsAt (w : World) (a : Option Addr) (size : Nat) (n : Nat) (row : Nat → List Value) : Prop :=
  ∀ k, k < n → ∃ b o, a = some ⟨b, o, none⟩ ∧ b < w.heap.size ∧ ∀ i v, (row k)[i]? = some v → w.cell? ⟨b, o + k * size + i, none⟩ = some v

structure StateAt (w : World) (s : StateD) (a1 a2 : Option Addr) : Prop where
  nodes : RowsAt w a1 5 s.nodes.length (fun k => nodeVals (s.nodes.getD k zeroNode))
  jobs : RowsAt w a2 12 s.jobs.length (fun k => jobVals (s.jobs.getD k zeroJob))

theorem RowsAt.below {w w' : World} {a : Option Addr} {size n : Nat} {row : Nat → List Value} (h : RowsAt w a size n row) {B : Nat} (hb : Below B w w') (hB : w.heap.size ≤ B) : RowsAt w' a size n row := by
  intro k hk
  obtain ⟨b, o, ha, hlt, hc⟩ := h k hk
  exact ⟨b, o, ha, Nat.lt_of_lt_of_le hlt hb.size, fun i v hv => (hb.cell (p := ⟨b, _, none⟩) (Nat.lt_of_lt_of_le hlt hB)).trans (hc i v hv)⟩

theorem StateAt.below {w w' : World} {s : StateD} {a1 a2 : Option Addr} (h : StateAt w s a1 a2) {B : Nat} (hb : Below B w w') (hB : w.heap.size ≤ B) : StateAt w' s a1 a2 :=
  ⟨h.nodes.below hb hB, h.jobs.below hb hB⟩

theorem bcell {W w1 : World} (hb : Below W.heap.size W w1) : (∀ b o, b < W.heap.size → w1.cell? ⟨b, o, none⟩ = W.cell? ⟨b, o, none⟩) ∧ (∀ b o, b < W.heap.size → w1.frozen? ⟨b, o, none⟩ = W.frozen? ⟨b, o, none⟩) :=
  ⟨fun b o h => hb.cell (p := ⟨b, o, none⟩) h, fun b o h => hb.frozen (p := ⟨b, o, none⟩) h⟩

theorem info_size {P : Program} {t : TypeId} {n : Nat} (h : (P.info? t).map (·.size) = some n) : ∃ i, P.info? t = some i ∧ i.size = n := by
  cases hq : P.info? t with
  | none => simp [hq] at h
  | some i => exact ⟨i, rfl, by simpa [hq] using h⟩
theorem sizeNode : (Try.prog.info? 55).map (·.size) = some 5 := by kernel_rfl
theorem sizeJob : (Try.prog.info? 47).map (·.size) = some 12 := by kernel_rfl

theorem Below.draws {B : Nat} {a w : World} (h : Below B a w) (n : Nat) : Below B a (w.drewN n) := ⟨h.os, h.tape, h.output, h.size, h.block⟩

/-- a function with a body is entered -/
theorem enter_of {P : Program} {f : FuncId} {fn : Func} {c : Code} (hf : P.funcs[f]? = some fn) (hname : (fn.name == "runtime.NumGoroutine") = false) (hb : fn.body = some c) (args : Array Value) (w : World) :
    Sem.run P (callFunc f args) w = .ok (.enter f args) w := by
  have h1 : fn.name ≠ "runtime.NumGoroutine" := by simpa using hname
  simp [callFunc, hf, h1, hb, mark]

theorem lt2 (n : Nat) : (n < n + 1 + 1) = True := by simp; omega
theorem lt3 (n : Nat) : (n < n + 1 + 1 + 1) = True := by simp; omega
theorem lt4 (n : Nat) : (n < n + 1 + 1 + 1 + 1) = True := by simp; omega
theorem lt5 (n : Nat) : (n < n + 1 + 1 + 1 + 1 + 1) = True := by simp; omega

/-- a block of one's own, with newer blocks behind it -/
theorem cell_a2 (w : World) (c : Array Value) (t : TypeId) (B : Obj) (i : Nat) : ((w.alloc (.cells c t)).alloc B).cell? ⟨w.heap.size, i, none⟩ = c[i]? := by
  rw [World.cell?_alloc_old _ _ _ (by simp)]; exact World.cell?_alloc_new ..
theorem cell_a3 (w : World) (c : Array Value) (t : TypeId) (B C : Obj) (i : Nat) : (((w.alloc (.cells c t)).alloc B).alloc C).cell? ⟨w.heap.size, i, none⟩ = c[i]? := by
  rw [World.cell?_alloc_old _ _ _ (by first | omega | (simp; done) | (simp; omega))]; exact cell_a2 ..
theorem cell_a4 (w : World) (c : Array Value) (t : TypeId) (B C D : Obj) (i : Nat) : ((((w.alloc (.cells c t)).alloc B).alloc C).alloc D).cell? ⟨w.heap.size, i, none⟩ = c[i]? := by
  rw [World.cell?_alloc_old _ _ _ (by first | omega | (simp; done) | (simp; omega))]; exact cell_a3 ..
theorem cell_a5 (w : World) (c : Array Value) (t : TypeId) (B C D E : Obj) (i : Nat) : (((((w.alloc (.cells c t)).alloc B).alloc C).alloc D).alloc E).cell? ⟨w.heap.size, i, none⟩ = c[i]? := by
  rw [World.cell?_alloc_old _ _ _ (by first | omega | (simp; done) | (simp; omega))]; exact cell_a4 ..
/-- the same, by one number more: how blocks behind the first one are named -/
theorem cell_n1 (w : World) (A : Obj) (c : Array Value) (t : TypeId) (i : Nat) : ((w.alloc A).alloc (.cells c t)).cell? ⟨w.heap.size + 1, i, none⟩ = c[i]? := by
  have h : w.heap.size + 1 = (w.alloc A).heap.size := by simp
  rw [h]; exact World.cell?_alloc_new ..

/-- what most functions leave behind: a value; what was there stands as it stood -/
structure Ret (w : World) (v : Value) (e : Ending) (w' : World) : Prop where
  ret : e = .returned v
  below : Below w.heap.size w w'

/-- the address of an element, by one equation -/
theorem run_ix {P : Program} {t e : TypeId} {a : Option Addr} {n c b o size : Nat} {k : Int} {j : Nat} {i : TypeInfo} (hu : P.underlying t = some (.slice e)) (hs : P.info? e = some i) (hz : i.size = size)
    (ha : a = some ⟨b, o, none⟩) (hj : k = (j : Int)) (hk : j < n) (w : World) :
    (Instr.indexAt t (.slice a n c) (.int .i64 k)).run P w = .ok (.pointer (some ⟨b, o + j * size, none⟩)) w := by
  subst ha hj hz
  have h1 : (0 ≤ (j : Int) ∧ (j : Int) < (n : Int)) := by omega
  have hadd : (⟨b, o, none⟩ : Addr).add (j * i.size) = ⟨b, o + j * i.size, none⟩ := by unfold Addr.add; split <;> simp_all
  simp [Instr.indexAt, Sem.run_bind, run_underlying hu w, sizeOf, typeInfo, hs, asIntOf, hk, hadd]

theorem Ret.of {w : World} {v v' : Value} {e : Ending} {w' : World} (he : e = .returned v') (hv : v' = v) (hb : Below w.heap.size w w') : Ret w v e w' := ⟨by rw [he, hv], hb⟩

/-- the address of an element of a slice of nodes, of jobs: one equation for every world -/
theorem ix_node {a : Option Addr} {n c b o : Nat} {j : Nat} (ha : a = some ⟨b, o, none⟩) (hk : j < n) (w : World) :
    (Instr.indexAt 30 (.slice a n c) (.int .i64 (j : Int))).run Try.prog w = .ok (.pointer (some ⟨b, o + j * 5, none⟩)) w := by
  obtain ⟨i, hi, hz⟩ := info_size sizeNode
  exact run_ix Try.underlying30 hi hz ha rfl hk w
theorem ix_job {a : Option Addr} {n c b o : Nat} {j : Nat} (ha : a = some ⟨b, o, none⟩) (hk : j < n) (w : World) :
    (Instr.indexAt 31 (.slice a n c) (.int .i64 (j : Int))).run Try.prog w = .ok (.pointer (some ⟨b, o + j * 12, none⟩)) w := by
  obtain ⟨i, hi, hz⟩ := info_size sizeJob
  exact run_ix Try.underlying31 hi hz ha rfl hk w

/-- an element's cells, one by one -/
theorem node_cells {w : World} {b p : Nat} {m : NodeD} (h : ∀ i v, (nodeVals m)[i]? = some v → w.cell? ⟨b, p + i, none⟩ = some v) :
    w.cell? ⟨b, p, none⟩ = some (.bool m.up) ∧ w.cell? ⟨b, p + 1, none⟩ = some (.bool m.cordon) ∧ w.cell? ⟨b, p + 2, none⟩ = some (.bool m.moving) ∧ w.cell? ⟨b, p + 3, none⟩ = some (.int .i64 m.version) ∧ w.cell? ⟨b, p + 4, none⟩ = some (.int .i64 m.job) :=
  ⟨h 0 _ rfl, h 1 _ rfl, h 2 _ rfl, h 3 _ rfl, h 4 _ rfl⟩

/-- an element's cells, one by one -/
theorem job_cells {w : World} {b p : Nat} {m : JobD} (h : ∀ i v, (jobVals m)[i]? = some v → w.cell? ⟨b, p + i, none⟩ = some v) :
    w.cell? ⟨b, p, none⟩ = some (.int .i64 m.queue) ∧ w.cell? ⟨b, p + 1, none⟩ = some (.int .i64 m.prio) ∧ w.cell? ⟨b, p + 2, none⟩ = some (.int .i64 m.min) ∧ w.cell? ⟨b, p + 3, none⟩ = some (.int .i64 m.max) ∧ w.cell? ⟨b, p + 4, none⟩ = some (.int .i64 m.work) ∧ w.cell? ⟨b, p + 5, none⟩ = some (.int .i64 m.pin) ∧ w.cell? ⟨b, p + 6, none⟩ = some (.int .i64 m.phase) ∧ w.cell? ⟨b, p + 7, none⟩ = some (.int .i64 m.inc) ∧ w.cell? ⟨b, p + 8, none⟩ = some (.int .i64 m.nodes) ∧ w.cell? ⟨b, p + 9, none⟩ = some (.int .i64 m.since) ∧ w.cell? ⟨b, p + 10, none⟩ = some (.int .i64 m.til) ∧ w.cell? ⟨b, p + 11, none⟩ = some (.int .i64 m.epoch) :=
  ⟨h 0 _ rfl, h 1 _ rfl, h 2 _ rfl, h 3 _ rfl, h 4 _ rfl, h 5 _ rfl, h 6 _ rfl, h 7 _ rfl, h 8 _ rfl, h 9 _ rfl, h 10 _ rfl, h 11 _ rfl⟩

/-- an element's cells, one by one -/
theorem msg_cells {w : World} {b p : Nat} {m : MsgD} (h : ∀ i v, (msgVals m)[i]? = some v → w.cell? ⟨b, p + i, none⟩ = some v) :
    w.cell? ⟨b, p, none⟩ = some (.int .i64 m.node) ∧ w.cell? ⟨b, p + 1, none⟩ = some (.int .i64 m.kind) ∧ w.cell? ⟨b, p + 2, none⟩ = some (.int .i64 m.term) ∧ w.cell? ⟨b, p + 3, none⟩ = some (.int .i64 m.gen) ∧ w.cell? ⟨b, p + 4, none⟩ = some (.int .i64 m.job) ∧ w.cell? ⟨b, p + 5, none⟩ = some (.int .i64 m.inc) ∧ w.cell? ⟨b, p + 6, none⟩ = some (.int .i64 m.version) ∧ w.cell? ⟨b, p + 7, none⟩ = some (.int .i64 m.epoch) ∧ w.cell? ⟨b, p + 8, none⟩ = some (.int .i64 m.til) ∧ w.cell? ⟨b, p + 9, none⟩ = some (.int .i64 m.mode) ∧ w.cell? ⟨b, p + 10, none⟩ = some (.int .i64 m.work) :=
  ⟨h 0 _ rfl, h 1 _ rfl, h 2 _ rfl, h 3 _ rfl, h 4 _ rfl, h 5 _ rfl, h 6 _ rfl, h 7 _ rfl, h 8 _ rfl, h 9 _ rfl, h 10 _ rfl⟩

/-- all that a walk wants of element k -/
theorem node_at {w : World} {a : Option Addr} {l : List NodeD} {n k : Nat} (h : RowsAt w a 5 n (fun k => nodeVals (l.getD k zeroNode))) (hk : k < n) :
    ∃ b o m, Hid (m = l.getD k zeroNode) ∧ b < w.heap.size ∧ (∀ c w, (Instr.indexAt 30 (.slice a n c) (.int .i64 (k : Int))).run Try.prog w = .ok (.pointer (some ⟨b, o + k * 5, none⟩)) w) ∧
      w.cell? ⟨b, o + k * 5, none⟩ = some (.bool m.up) ∧ w.cell? ⟨b, o + k * 5 + 1, none⟩ = some (.bool m.cordon) ∧ w.cell? ⟨b, o + k * 5 + 2, none⟩ = some (.bool m.moving) ∧ w.cell? ⟨b, o + k * 5 + 3, none⟩ = some (.int .i64 m.version) ∧ w.cell? ⟨b, o + k * 5 + 4, none⟩ = some (.int .i64 m.job) := by
  obtain ⟨b, o, ha, hb, hc⟩ := h k hk
  exact ⟨b, o, _, rfl, hb, fun c w => ix_node ha hk w, node_cells hc⟩

/-- all that a walk wants of element k -/
theorem job_at {w : World} {a : Option Addr} {l : List JobD} {n k : Nat} (h : RowsAt w a 12 n (fun k => jobVals (l.getD k zeroJob))) (hk : k < n) :
    ∃ b o m, Hid (m = l.getD k zeroJob) ∧ b < w.heap.size ∧ (∀ c w, (Instr.indexAt 31 (.slice a n c) (.int .i64 (k : Int))).run Try.prog w = .ok (.pointer (some ⟨b, o + k * 12, none⟩)) w) ∧
      w.cell? ⟨b, o + k * 12, none⟩ = some (.int .i64 m.queue) ∧ w.cell? ⟨b, o + k * 12 + 1, none⟩ = some (.int .i64 m.prio) ∧ w.cell? ⟨b, o + k * 12 + 2, none⟩ = some (.int .i64 m.min) ∧ w.cell? ⟨b, o + k * 12 + 3, none⟩ = some (.int .i64 m.max) ∧ w.cell? ⟨b, o + k * 12 + 4, none⟩ = some (.int .i64 m.work) ∧ w.cell? ⟨b, o + k * 12 + 5, none⟩ = some (.int .i64 m.pin) ∧ w.cell? ⟨b, o + k * 12 + 6, none⟩ = some (.int .i64 m.phase) ∧ w.cell? ⟨b, o + k * 12 + 7, none⟩ = some (.int .i64 m.inc) ∧ w.cell? ⟨b, o + k * 12 + 8, none⟩ = some (.int .i64 m.nodes) ∧ w.cell? ⟨b, o + k * 12 + 9, none⟩ = some (.int .i64 m.since) ∧ w.cell? ⟨b, o + k * 12 + 10, none⟩ = some (.int .i64 m.til) ∧ w.cell? ⟨b, o + k * 12 + 11, none⟩ = some (.int .i64 m.epoch) := by
  obtain ⟨b, o, ha, hb, hc⟩ := h k hk
  exact ⟨b, o, _, rfl, hb, fun c w => ix_job ha hk w, job_cells hc⟩

theorem set7 (W : World) (B : Nat) (u0 u1 u2 u3 u4 u5 u6 v0 v1 v2 v3 v4 v5 v6 : Value)
    (h0 : W.cell? ⟨B, 0, none⟩ = some u0) (h1 : W.cell? ⟨B, 1, none⟩ = some u1) (h2 : W.cell? ⟨B, 2, none⟩ = some u2) (h3 : W.cell? ⟨B, 3, none⟩ = some u3) (h4 : W.cell? ⟨B, 4, none⟩ = some u4) (h5 : W.cell? ⟨B, 5, none⟩ = some u5) (h6 : W.cell? ⟨B, 6, none⟩ = some u6) :
    let W' := ((((((W.setCell ⟨B, 0, none⟩ v0).setCell ⟨B, 1, none⟩ v1).setCell ⟨B, 2, none⟩ v2).setCell ⟨B, 3, none⟩ v3).setCell ⟨B, 4, none⟩ v4).setCell ⟨B, 5, none⟩ v5).setCell ⟨B, 6, none⟩ v6
    ∀ (i : Nat) (v : Value), [v0, v1, v2, v3, v4, v5, v6][i]? = some v → W'.cell? ⟨B, i, none⟩ = some v := by
  have ne : ∀ i j : Nat, i ≠ j → (⟨B, i, none⟩ : Addr) ≠ ⟨B, j, none⟩ := fun i j h e => h (by injection e)
  have key : ∀ (V : World) (i j : Nat) (x : Value), i ≠ j → (V.setCell ⟨B, i, none⟩ x).cell? ⟨B, j, none⟩ = V.cell? ⟨B, j, none⟩ := fun V i j x h => World.cell?_setCell_other _ _ _ _ (ne i j h)
  have same : ∀ (V : World) (i : Nat) (u x : Value), V.cell? ⟨B, i, none⟩ = some u → (V.setCell ⟨B, i, none⟩ x).cell? ⟨B, i, none⟩ = some x := fun V i u x h => World.cell?_setCell_same _ _ _ h
  intro W' i v hv
  match i, hv with
  | 0, hv => simp at hv; subst hv; simp only [W', key _ 6 0 _ (by decide), key _ 5 0 _ (by decide), key _ 4 0 _ (by decide), key _ 3 0 _ (by decide), key _ 2 0 _ (by decide), key _ 1 0 _ (by decide)]; exact same _ _ _ _ h0
  | 1, hv => simp at hv; subst hv; simp only [W', key _ 6 1 _ (by decide), key _ 5 1 _ (by decide), key _ 4 1 _ (by decide), key _ 3 1 _ (by decide), key _ 2 1 _ (by decide)]; exact same _ _ u1 _ (by simp only [key _ 0 1 _ (by decide)]; exact h1)
  | 2, hv => simp at hv; subst hv; simp only [W', key _ 6 2 _ (by decide), key _ 5 2 _ (by decide), key _ 4 2 _ (by decide), key _ 3 2 _ (by decide)]; exact same _ _ u2 _ (by simp only [key _ 0 2 _ (by decide), key _ 1 2 _ (by decide)]; exact h2)
  | 3, hv => simp at hv; subst hv; simp only [W', key _ 6 3 _ (by decide), key _ 5 3 _ (by decide), key _ 4 3 _ (by decide)]; exact same _ _ u3 _ (by simp only [key _ 0 3 _ (by decide), key _ 1 3 _ (by decide), key _ 2 3 _ (by decide)]; exact h3)
  | 4, hv => simp at hv; subst hv; simp only [W', key _ 6 4 _ (by decide), key _ 5 4 _ (by decide)]; exact same _ _ u4 _ (by simp only [key _ 0 4 _ (by decide), key _ 1 4 _ (by decide), key _ 2 4 _ (by decide), key _ 3 4 _ (by decide)]; exact h4)
  | 5, hv => simp at hv; subst hv; simp only [W', key _ 6 5 _ (by decide)]; exact same _ _ u5 _ (by simp only [key _ 0 5 _ (by decide), key _ 1 5 _ (by decide), key _ 2 5 _ (by decide), key _ 3 5 _ (by decide), key _ 4 5 _ (by decide)]; exact h5)
  | 6, hv => simp at hv; subst hv; simp only [W']; exact same _ _ u6 _ (by simp only [key _ 0 6 _ (by decide), key _ 1 6 _ (by decide), key _ 2 6 _ (by decide), key _ 3 6 _ (by decide), key _ 4 6 _ (by decide), key _ 5 6 _ (by decide)]; exact h6)
  | n + 7, hv => simp at hv

def opVals (o : OpD) : List Value := [.int .i64 o.kind, .int .i64 o.a, .int .i64 o.b, .int .i64 o.c, .int .i64 o.d, .int .i64 o.e, .int .i64 o.f]

theorem sizeOp : (Try.prog.info? 42).map (·.size) = some 7 := by kernel_rfl

theorem load_op (W : World) (B : Nat) (o : OpD) (h : ∀ i v, (opVals o)[i]? = some v → W.cell? ⟨B, i, none⟩ = some v) : (loadVar 42 ⟨B, 0, none⟩).run Try.prog W = .ok (opV o) W := by
  obtain ⟨inf, hi, hz⟩ := info_size sizeOp
  have hl : (loadCells ⟨B, 0, none⟩ 7).run Try.prog W = .ok (opVals o).toArray W := run_loadCells_list (P := Try.prog) W ⟨B, 0, none⟩ (opVals o) (fun j v hv => by
    have hadd : (⟨B, 0, none⟩ : Addr).add j = ⟨B, j, none⟩ := by unfold Addr.add; split <;> simp_all
    rw [hadd]; exact h j v hv)
  have hagg : (isAgg 42).run Try.prog W = .ok true W := by
    unfold isAgg
    rw [Sem.run_bind, run_underlying Try.underlying42 W]
    rfl
  simp [loadVar, Sem.run_bind, hagg, sizeOf, typeInfo, hi, hz, hl]
  rfl

/-- a result (op, ok) that lies in a box of the call's own, and in a slot -/
theorem res_opok {fn : Func} {p q : Tmp} (h : fn.results = #[.cell p 42, .tmp q]) (tmps : Array Value) (W : World) (B : Nat) (o : OpD) (b : Bool)
    (hp : tmps.getD p undef = .pointer (some ⟨B, 0, none⟩)) (hc : ∀ i v, (opVals o)[i]? = some v → W.cell? ⟨B, i, none⟩ = some v) (hq : tmps.getD q undef = .bool b) :
    (results fn tmps).run Try.prog W = .ok (.tuple #[opV o, .bool b]) W := by
  have hp' : tmps[p]?.getD undef = .pointer (some ⟨B, 0, none⟩) := by simpa using hp
  have hq' : tmps[q]?.getD undef = .bool b := by simpa using hq
  simp [results, h, hp', hq', asAddr, load_op W B o hc]

/-- a box of seven cells that holds an op -/
def OpBox (W : World) (B : Nat) (o : OpD) : Prop := ∀ i v, (opVals o)[i]? = some v → W.cell? ⟨B, i, none⟩ = some v
theorem OpBox.kept {W w2 : World} {B K : Nat} {o : OpD} (h : OpBox W B o) (hb : Below K W w2) (hB : B < K) : OpBox w2 B o :=
  fun i v hv => (hb.cell (p := ⟨B, i, none⟩) hB).trans (h i v hv)
theorem OpBox.cells {W : World} {B : Nat} {o : OpD} (h : OpBox W B o) :
    W.cell? ⟨B, 0, none⟩ = some (.int .i64 o.kind) ∧ W.cell? ⟨B, 1, none⟩ = some (.int .i64 o.a) ∧ W.cell? ⟨B, 2, none⟩ = some (.int .i64 o.b) ∧ W.cell? ⟨B, 3, none⟩ = some (.int .i64 o.c) ∧ W.cell? ⟨B, 4, none⟩ = some (.int .i64 o.d) ∧ W.cell? ⟨B, 5, none⟩ = some (.int .i64 o.e) ∧ W.cell? ⟨B, 6, none⟩ = some (.int .i64 o.f) :=
  ⟨h 0 _ rfl, h 1 _ rfl, h 2 _ rfl, h 3 _ rfl, h 4 _ rfl, h 5 _ rfl, h 6 _ rfl⟩
/-- what the seven stores of an op into a box leave -/
theorem OpBox.set {W : World} {B : Nat} {o : OpD} (h : OpBox W B o) (o' : OpD) :
    OpBox (((((((W.setCell ⟨B, 0, none⟩ (.int .i64 o'.kind)).setCell ⟨B, 1, none⟩ (.int .i64 o'.a)).setCell ⟨B, 2, none⟩ (.int .i64 o'.b)).setCell ⟨B, 3, none⟩ (.int .i64 o'.c)).setCell ⟨B, 4, none⟩ (.int .i64 o'.d)).setCell ⟨B, 5, none⟩ (.int .i64 o'.e)).setCell ⟨B, 6, none⟩ (.int .i64 o'.f)) B o' :=
  set7 W B _ _ _ _ _ _ _ _ _ _ _ _ _ _ (h 0 _ rfl) (h 1 _ rfl) (h 2 _ rfl) (h 3 _ rfl) (h 4 _ rfl) (h 5 _ rfl) (h 6 _ rfl)
theorem OpBox.new (W : World) : OpBox (W.alloc (.cells #[.int .i64 0, .int .i64 0, .int .i64 0, .int .i64 0, .int .i64 0, .int .i64 0, .int .i64 0] 42)) W.heap.size zeroOp := fun i v hv => by
  rw [World.cell?_alloc_new]; rw [← hv]; simp [opVals, zeroOp]
theorem Below.size_lt {K B : Nat} {W w2 : World} (hb : Below K W w2) (h : B < W.heap.size) : B < w2.heap.size := Nat.lt_of_lt_of_le h hb.size
end Go.Proofs.Ytclgmpflmeopmaa
