/- The logical machine: part V17. -/
import Derived.Test.YtclgmpflmeopmaaV16
import Derived.KernelRfl
set_option linter.unusedVariables false
set_option linter.unusedSimpArgs false
namespace Dv
open Go

/-! ## The walk: what is still to be done, as a list -/
inductive It where
  | c (code : C)
  | ops (l : List IOp)
  | opsD (l : List IOp) (log : List LogE)
  | blk (i : Nat)
  | lp (ts : List Nat) (m : Nat) (I : Nat → St → Prop) (k : Nat)

section
variable (P : Program) (G : Nat → Option (List DV)) (fin : St → Prop)
mutual
def W : List It → St → Prop
  | [], s => fin s
  | .c code :: t, s => vc P G code s ⟨W t, fun i s' => Wx i t s', fin⟩
  | .ops l :: t, s => vcOps P G l s (W t)
  | .opsD l log :: t, s => vcOpsD P G l s log (fun s' log' => indep log' = true ∧ W t s')
  | .blk _ :: t, s => W t s
  | .lp ts m I k :: t, s => s.okKeep ts m ∧ ∃ j, j < k ∧ I j (s.keep ts m)
def Wx (i : Nat) : List It → St → Prop
  | [], _ => False
  | .c _ :: t, s => Wx i t s
  | .ops _ :: t, s => Wx i t s
  | .opsD _ _ :: t, s => Wx i t s
  | .blk j :: t, s => if i = j then W t s else Wx i t s
  | .lp _ _ _ _ :: t, s => Wx i t s
end
end

section
variable (P : Program) (G : Nat → Option (List DV)) (fin : St → Prop)
/-- behind an operation's effect. -/
def WE (o : Option Eff) (d : Option Nat) (os : List IOp) (t : List It) (env : List (Nat × LV)) (objs : List (Option LObj)) : Prop := match o with
  | some e => W P G fin (.ops os :: t) ⟨putE d e.r env, updL e.wr objs ++ e.nw.map some⟩
  | none => False
def WED (o : Option Eff) (d : Option Nat) (pre : List Nat) (os : List IOp) (log : List LogE) (t : List It) (env : List (Nat × LV)) (objs : List (Option LObj)) : Prop := match o with
  | some e => W P G fin (.opsD os (log ++ [⟨pre, e.rd, (e.owned objs.length).map (·.1)⟩]) :: t) ⟨putE d e.r env, updL e.wr objs ++ e.nw.map some⟩
  | none => False
/-- at a guard. -/
def WG (v : LV) (want : Bool) (d : Option Nat) (i : I) (pre : List Nat) (os : List IOp) (t : List It) (env : List (Nat × LV)) (objs : List (Option LObj)) : Prop := match v with
  | .d (.val (.bool b)) => if b = want then W P G fin (.ops (⟨d, i, none, pre⟩ :: os) :: t) ⟨env, objs⟩ else W P G fin (.ops os :: t) ⟨putE d .undef env, objs⟩
  | .d (.val (.tuple _)) => W P G fin (.ops os :: t) ⟨putE d .undef env, objs⟩
  | _ => False
def WGD (v : LV) (want : Bool) (d : Option Nat) (i : I) (pre : List Nat) (os : List IOp) (log : List LogE) (t : List It) (env : List (Nat × LV)) (objs : List (Option LObj)) : Prop := match v with
  | .d (.val (.bool b)) => if b = want then W P G fin (.opsD (⟨d, i, none, pre⟩ :: os) log :: t) ⟨env, objs⟩ else W P G fin (.opsD os (log ++ [⟨pre, [], []⟩]) :: t) ⟨putE d .undef env, objs⟩
  | .d (.val (.tuple _)) => W P G fin (.opsD os (log ++ [⟨pre, [], []⟩]) :: t) ⟨putE d .undef env, objs⟩
  | _ => False
/-- at a condition. -/
def WC (v : LV) (a b : C) (t : List It) (env : List (Nat × LV)) (objs : List (Option LObj)) : Prop := match v with
  | .d (.val (.bool x)) => if x = true then W P G fin (.c a :: t) ⟨env, objs⟩ else W P G fin (.c b :: t) ⟨env, objs⟩
  | .anyb => W P G fin (.c a :: t) ⟨env, objs⟩ ∧ W P G fin (.c b :: t) ⟨env, objs⟩
  | _ => False
end

section
variable {P : Program} {G : Nat → Option (List DV)} {fin : St → Prop} {t : List It} {s : St} {env : List (Nat × LV)} {objs : List (Option LObj)} {os : List IOp} {log : List LogE}

theorem W_nil : W P G fin [] s = fin s := by simp only [W]
theorem W_seq {a b : C} : W P G fin (.c (.seq a b) :: t) s = W P G fin (.c a :: .c b :: t) s := by simp only [W, vc, Wx]
theorem W_skip : W P G fin (.c .skip :: t) s = W P G fin t s := by simp only [W, vc]
theorem W_ret : W P G fin (.c .ret :: t) s = fin s := by simp only [W, vc]
theorem W_exit {i : Nat} : W P G fin (.c (.exit i) :: t) s = Wx P G fin i t s := by simp only [W, vc]
theorem W_scope {b : C} : W P G fin (.c (.scope b) :: t) s = W P G fin (.c b :: t) s := by simp only [W, vc]
theorem W_block {i : Nat} {b : C} : W P G fin (.c (.block i b) :: t) s = W P G fin (.c b :: .blk i :: t) s := by simp only [W, vc, Wx]
theorem W_blk {i : Nat} : W P G fin (.blk i :: t) s = W P G fin t s := by simp only [W]
theorem W_reg {l : List IOp} : W P G fin (.c (.reg l) :: t) s = W P G fin (.ops l :: t) s := by simp only [W, vc]
theorem W_regD {l : List IOp} : W P G fin (.c (.regD l) :: t) s = W P G fin (.opsD l [] :: t) s := by simp only [W, vc]
theorem W_cond {c : Opd} {a b : C} : W P G fin (.c (.cond c a b) :: t) ⟨env, objs⟩ = WC P G fin (c.ev G (getE env)) a b t env objs := by simp only [W, vc, WC]; rfl
theorem WC_t {a b : C} : WC P G fin (.d (.val (.bool true))) a b t env objs = W P G fin (.c a :: t) ⟨env, objs⟩ := by simp only [WC, if_true]
theorem WC_f {a b : C} : WC P G fin (.d (.val (.bool false))) a b t env objs = W P G fin (.c b :: t) ⟨env, objs⟩ := by simp [WC]
theorem WC_any {a b : C} : WC P G fin .anyb a b t env objs = (W P G fin (.c a :: t) ⟨env, objs⟩ ∧ W P G fin (.c b :: t) ⟨env, objs⟩) := by simp only [WC]
theorem WC_split {x : Bool} {a b : C} (h1 : x = true → W P G fin (.c a :: t) ⟨env, objs⟩) (h2 : x = false → W P G fin (.c b :: t) ⟨env, objs⟩) : WC P G fin (.d (.val (.bool x))) a b t env objs := by
  cases x
  · rw [WC_f]; exact h2 rfl
  · rw [WC_t]; exact h1 rfl
theorem W_lp {ts : List Nat} {m : Nat} {I : Nat → St → Prop} {k : Nat} : W P G fin (.lp ts m I k :: t) s = (s.okKeep ts m ∧ ∃ j, j < k ∧ I j (s.keep ts m)) := by simp only [W]
theorem Wx_c {i : Nat} {x : C} : Wx P G fin i (.c x :: t) s = Wx P G fin i t s := by simp only [Wx]
theorem Wx_ops {i : Nat} {x : List IOp} : Wx P G fin i (.ops x :: t) s = Wx P G fin i t s := by simp only [Wx]
theorem Wx_lp {i : Nat} {ts : List Nat} {m : Nat} {I : Nat → St → Prop} {k : Nat} : Wx P G fin i (.lp ts m I k :: t) s = Wx P G fin i t s := by simp only [Wx]
theorem Wx_blk {i j : Nat} : Wx P G fin i (.blk j :: t) s = if i = j then W P G fin t s else Wx P G fin i t s := by simp only [Wx]
/-- A LOOP: what holds at its head, with how many rounds there may still be. -/
theorem W_loop {b : C} (ts : List Nat) (ad : List Ad) (I : Nat → St → Prop) (N : Nat) (h0 : I N { (adopt ad s) with env := ts.map fun t => (t, (adopt ad s).get t) }) (h : ∀ k s', I k s' → W P G fin (.c b :: .lp ts (adopt ad s).objs.length I k :: t) s') : W P G fin (.c (.loop b) :: t) s := by
  simp only [W, vc]
  refine ⟨ts, I, N, ad, h0, fun k s' hk => ?_⟩
  have := h k s' hk
  simp only [W, Wx] at this
  exact this
/-- the same, with the states at the head told by a name of their own (S), for all that Inv takes, μ going down. -/
def LoopI {α : Type} (Inv : α → Prop) (μ : α → Nat) (S : α → St) : Nat → St → Prop := fun m s => ∃ a, Inv a ∧ m = μ a ∧ s = S a
theorem W_loopI {α : Type} {b : C} (ts : List Nat) (ad : List Ad) (Inv : α → Prop) (μ : α → Nat) (S : α → St) (a0 : α) (hS : ({ (adopt ad s) with env := ts.map fun t => (t, (adopt ad s).get t) } : St) = S a0) (h0 : Inv a0)
    (h : ∀ a, Inv a → W P G fin (.c b :: .lp ts (adopt ad s).objs.length (LoopI Inv μ S) (μ a) :: t) (S a)) : W P G fin (.c (.loop b) :: t) s :=
  W_loop ts ad (LoopI Inv μ S) (μ a0) ⟨a0, h0, rfl, hS⟩ (fun k s' ⟨a, h1, h2, h3⟩ => by subst h2; subst h3; exact h a h1)
theorem W_lpI {α : Type} {ts : List Nat} {m : Nat} {Inv : α → Prop} {μ : α → Nat} {S : α → St} {k : Nat} (a' : α) (hok : s.okKeep ts m) (hS : s.keep ts m = S a') (hI : Inv a') (hμ : μ a' < k) : W P G fin (.lp ts m (LoopI Inv μ S) k :: t) s := by
  rw [W_lp]; exact ⟨hok, μ a', hμ, a', hI, rfl, hS⟩
theorem W_ops_nil : W P G fin (.ops [] :: t) s = W P G fin t s := by simp only [W, vcOps]
theorem W_opsD_q (h : (log.all fun e => e.wr.isEmpty) = true) : W P G fin (.opsD [] log :: t) s = W P G fin t s := by
  simp only [W, vcOpsD, indep, h, Bool.true_or]; exact propext ⟨fun h => h.2, fun h => ⟨trivial, h⟩⟩
theorem W_opsD_end (h : indep log = true) (hk : W P G fin t s) : W P G fin (.opsD [] log :: t) s := by simp only [W, vcOpsD]; exact ⟨h, hk⟩
theorem W_opsD_nil : W P G fin (.opsD [] log :: t) s = (indep log = true ∧ W P G fin t s) := by simp only [W, vcOpsD]
theorem W_guard {d : Option Nat} {i : I} {g : Nat} {want : Bool} {pre : List Nat} : W P G fin (.ops (⟨d, i, some (g, want), pre⟩ :: os) :: t) ⟨env, objs⟩ = WG P G fin (getE env g) want d i pre os t env objs := by simp only [W, vcOps, vcG, vcE, WG]; rfl
theorem W_guardD {d : Option Nat} {i : I} {g : Nat} {want : Bool} {pre : List Nat} : W P G fin (.opsD (⟨d, i, some (g, want), pre⟩ :: os) log :: t) ⟨env, objs⟩ = WGD P G fin (getE env g) want d i pre os log t env objs := by simp only [W, vcOpsD, vcG, vcE, WGD]; rfl
theorem WG_tt {d : Option Nat} {i : I} {pre : List Nat} : WG P G fin (.d (.val (.bool true))) true d i pre os t env objs = W P G fin (.ops (⟨d, i, none, pre⟩ :: os) :: t) ⟨env, objs⟩ := by simp only [WG, if_true]
theorem WG_ff {d : Option Nat} {i : I} {pre : List Nat} : WG P G fin (.d (.val (.bool false))) false d i pre os t env objs = W P G fin (.ops (⟨d, i, none, pre⟩ :: os) :: t) ⟨env, objs⟩ := by simp only [WG, if_true]
theorem WG_tf {d : Option Nat} {i : I} {pre : List Nat} : WG P G fin (.d (.val (.bool true))) false d i pre os t env objs = W P G fin (.ops os :: t) ⟨putE d .undef env, objs⟩ := by simp [WG]
theorem WG_ft {d : Option Nat} {i : I} {pre : List Nat} : WG P G fin (.d (.val (.bool false))) true d i pre os t env objs = W P G fin (.ops os :: t) ⟨putE d .undef env, objs⟩ := by simp [WG]
theorem WG_u {d : Option Nat} {i : I} {pre : List Nat} {want : Bool} {v : Array Value} : WG P G fin (.d (.val (.tuple v))) want d i pre os t env objs = W P G fin (.ops os :: t) ⟨putE d .undef env, objs⟩ := by simp only [WG]
theorem WG_split {x want : Bool} {d : Option Nat} {i : I} {pre : List Nat} (h1 : x = want → W P G fin (.ops (⟨d, i, none, pre⟩ :: os) :: t) ⟨env, objs⟩) (h2 : x = (!want) → W P G fin (.ops os :: t) ⟨putE d .undef env, objs⟩) : WG P G fin (.d (.val (.bool x))) want d i pre os t env objs := by
  cases x <;> cases want
  · rw [WG_ff]; exact h1 rfl
  · rw [WG_ft]; exact h2 rfl
  · rw [WG_tf]; exact h2 rfl
  · rw [WG_tt]; exact h1 rfl
theorem WGD_tt {d : Option Nat} {i : I} {pre : List Nat} : WGD P G fin (.d (.val (.bool true))) true d i pre os log t env objs = W P G fin (.opsD (⟨d, i, none, pre⟩ :: os) log :: t) ⟨env, objs⟩ := by simp only [WGD, if_true]
theorem WGD_ff {d : Option Nat} {i : I} {pre : List Nat} : WGD P G fin (.d (.val (.bool false))) false d i pre os log t env objs = W P G fin (.opsD (⟨d, i, none, pre⟩ :: os) log :: t) ⟨env, objs⟩ := by simp only [WGD, if_true]
theorem WGD_tf {d : Option Nat} {i : I} {pre : List Nat} : WGD P G fin (.d (.val (.bool true))) false d i pre os log t env objs = W P G fin (.opsD os (log ++ [⟨pre, [], []⟩]) :: t) ⟨putE d .undef env, objs⟩ := by simp [WGD]
theorem WGD_ft {d : Option Nat} {i : I} {pre : List Nat} : WGD P G fin (.d (.val (.bool false))) true d i pre os log t env objs = W P G fin (.opsD os (log ++ [⟨pre, [], []⟩]) :: t) ⟨putE d .undef env, objs⟩ := by simp [WGD]
theorem WGD_u {d : Option Nat} {i : I} {pre : List Nat} {want : Bool} {v : Array Value} : WGD P G fin (.d (.val (.tuple v))) want d i pre os log t env objs = W P G fin (.opsD os (log ++ [⟨pre, [], []⟩]) :: t) ⟨putE d .undef env, objs⟩ := by simp only [WGD]
theorem WGD_split {x want : Bool} {d : Option Nat} {i : I} {pre : List Nat} (h1 : x = want → W P G fin (.opsD (⟨d, i, none, pre⟩ :: os) log :: t) ⟨env, objs⟩) (h2 : x = (!want) → W P G fin (.opsD os (log ++ [⟨pre, [], []⟩]) :: t) ⟨putE d .undef env, objs⟩) : WGD P G fin (.d (.val (.bool x))) want d i pre os log t env objs := by
  cases x <;> cases want
  · rw [WGD_ff]; exact h1 rfl
  · rw [WGD_ft]; exact h2 rfl
  · rw [WGD_tf]; exact h2 rfl
  · rw [WGD_tt]; exact h1 rfl
theorem WG_splitn {x want : Bool} {d : Option Nat} {i : I} {pre : List Nat} (h1 : x = (!want) → W P G fin (.ops (⟨d, i, none, pre⟩ :: os) :: t) ⟨env, objs⟩) (h2 : x = want → W P G fin (.ops os :: t) ⟨putE d .undef env, objs⟩) : WG P G fin (.d (.val (.bool (!x)))) want d i pre os t env objs :=
  WG_split (fun h => h1 (by cases x <;> cases want <;> simp_all)) (fun h => h2 (by cases x <;> cases want <;> simp_all))
theorem WGD_splitn {x want : Bool} {d : Option Nat} {i : I} {pre : List Nat} (h1 : x = (!want) → W P G fin (.opsD (⟨d, i, none, pre⟩ :: os) log :: t) ⟨env, objs⟩) (h2 : x = want → W P G fin (.opsD os (log ++ [⟨pre, [], []⟩]) :: t) ⟨putE d .undef env, objs⟩) : WGD P G fin (.d (.val (.bool (!x)))) want d i pre os log t env objs :=
  WGD_split (fun h => h1 (by cases x <;> cases want <;> simp_all)) (fun h => h2 (by cases x <;> cases want <;> simp_all))
theorem WC_splitn {x : Bool} {a b : C} (h1 : x = false → W P G fin (.c a :: t) ⟨env, objs⟩) (h2 : x = true → W P G fin (.c b :: t) ⟨env, objs⟩) : WC P G fin (.d (.val (.bool (!x)))) a b t env objs :=
  WC_split (fun h => h1 (by simpa using h)) (fun h => h2 (by simpa using h))
theorem WE_some {d : Option Nat} {e : Eff} : WE P G fin (some e) d os t env objs = W P G fin (.ops os :: t) ⟨putE d e.r env, updL e.wr objs ++ e.nw.map some⟩ := by simp only [WE]
theorem WED_some {d : Option Nat} {e : Eff} {pre : List Nat} : WED P G fin (some e) d pre os log t env objs = W P G fin (.opsD os (log ++ [⟨pre, e.rd, (e.owned objs.length).map (·.1)⟩]) :: t) ⟨putE d e.r env, updL e.wr objs ++ e.nw.map some⟩ := by simp only [WED]
/-- one operation that is no call. -/
theorem W_eff {d : Option Nat} {i : I} {pre : List Nat} (hi : ∀ f as, i ≠ .call f as) : W P G fin (.ops (⟨d, i, none, pre⟩ :: os) :: t) ⟨env, objs⟩ = WE P G fin (effF G (getE env) (objL objs) objs.length i) d os t env objs := by
  simp only [W, vcOps, vcG, vcE, WE]
  cases i <;> first | rfl | exact absurd rfl (hi _ _)
theorem W_effD {d : Option Nat} {i : I} {pre : List Nat} (hi : ∀ f as, i ≠ .call f as) : W P G fin (.opsD (⟨d, i, none, pre⟩ :: os) log :: t) ⟨env, objs⟩ = WED P G fin (effF G (getE env) (objL objs) objs.length i) d pre os log t env objs := by
  simp only [W, vcOpsD, vcG, vcE, WED]
  cases i <;> first | rfl | exact absurd rfl (hi _ _)
theorem W_mv {d : Option Nat} {pre : List Nat} {x : Opd} : W P G fin (.ops (⟨d, .mv x, none, pre⟩ :: os) :: t) ⟨env, objs⟩ = WE P G fin (effF G (getE env) (objL objs) objs.length (.mv x)) d os t env objs := W_eff (by intro f as h; cases h)
theorem WD_mv {d : Option Nat} {pre : List Nat} {x : Opd} : W P G fin (.opsD (⟨d, .mv x, none, pre⟩ :: os) log :: t) ⟨env, objs⟩ = WED P G fin (effF G (getE env) (objL objs) objs.length (.mv x)) d pre os log t env objs := W_effD (by intro f as h; cases h)
theorem W_pick {d : Option Nat} {pre : List Nat} {c : Opd} {x : Opd} {y : Opd} : W P G fin (.ops (⟨d, .pick c x y, none, pre⟩ :: os) :: t) ⟨env, objs⟩ = WE P G fin (effF G (getE env) (objL objs) objs.length (.pick c x y)) d os t env objs := W_eff (by intro f as h; cases h)
theorem WD_pick {d : Option Nat} {pre : List Nat} {c : Opd} {x : Opd} {y : Opd} : W P G fin (.opsD (⟨d, .pick c x y, none, pre⟩ :: os) log :: t) ⟨env, objs⟩ = WED P G fin (effF G (getE env) (objL objs) objs.length (.pick c x y)) d pre os log t env objs := W_effD (by intro f as h; cases h)
theorem W_new {d : Option Nat} {pre : List Nat} {et : TypeId} {row : List DV} : W P G fin (.ops (⟨d, .new et row, none, pre⟩ :: os) :: t) ⟨env, objs⟩ = WE P G fin (effF G (getE env) (objL objs) objs.length (.new et row)) d os t env objs := W_eff (by intro f as h; cases h)
theorem WD_new {d : Option Nat} {pre : List Nat} {et : TypeId} {row : List DV} : W P G fin (.opsD (⟨d, .new et row, none, pre⟩ :: os) log :: t) ⟨env, objs⟩ = WED P G fin (effF G (getE env) (objL objs) objs.length (.new et row)) d pre os log t env objs := W_effD (by intro f as h; cases h)
theorem W_box {d : Option Nat} {pre : List Nat} {et : TypeId} {x : Opd} : W P G fin (.ops (⟨d, .box et x, none, pre⟩ :: os) :: t) ⟨env, objs⟩ = WE P G fin (effF G (getE env) (objL objs) objs.length (.box et x)) d os t env objs := W_eff (by intro f as h; cases h)
theorem WD_box {d : Option Nat} {pre : List Nat} {et : TypeId} {x : Opd} : W P G fin (.opsD (⟨d, .box et x, none, pre⟩ :: os) log :: t) ⟨env, objs⟩ = WED P G fin (effF G (getE env) (objL objs) objs.length (.box et x)) d pre os log t env objs := W_effD (by intro f as h; cases h)
theorem W_build {d : Option Nat} {pre : List Nat} {z : List DV} {ps : List (Nat × Nat × Opd)} : W P G fin (.ops (⟨d, .build z ps, none, pre⟩ :: os) :: t) ⟨env, objs⟩ = WE P G fin (effF G (getE env) (objL objs) objs.length (.build z ps)) d os t env objs := W_eff (by intro f as h; cases h)
theorem WD_build {d : Option Nat} {pre : List Nat} {z : List DV} {ps : List (Nat × Nat × Opd)} : W P G fin (.opsD (⟨d, .build z ps, none, pre⟩ :: os) log :: t) ⟨env, objs⟩ = WED P G fin (effF G (getE env) (objL objs) objs.length (.build z ps)) d pre os log t env objs := W_effD (by intro f as h; cases h)
theorem W_bsl {d : Option Nat} {pre : List Nat} {et : TypeId} {esz : Nat} {ps : List Opd} : W P G fin (.ops (⟨d, .bsl et esz ps, none, pre⟩ :: os) :: t) ⟨env, objs⟩ = WE P G fin (effF G (getE env) (objL objs) objs.length (.bsl et esz ps)) d os t env objs := W_eff (by intro f as h; cases h)
theorem WD_bsl {d : Option Nat} {pre : List Nat} {et : TypeId} {esz : Nat} {ps : List Opd} : W P G fin (.opsD (⟨d, .bsl et esz ps, none, pre⟩ :: os) log :: t) ⟨env, objs⟩ = WED P G fin (effF G (getE env) (objL objs) objs.length (.bsl et esz ps)) d pre os log t env objs := W_effD (by intro f as h; cases h)
theorem W_ld1 {d : Option Nat} {pre : List Nat} {x : Opd} : W P G fin (.ops (⟨d, .ld1 x, none, pre⟩ :: os) :: t) ⟨env, objs⟩ = WE P G fin (effF G (getE env) (objL objs) objs.length (.ld1 x)) d os t env objs := W_eff (by intro f as h; cases h)
theorem WD_ld1 {d : Option Nat} {pre : List Nat} {x : Opd} : W P G fin (.opsD (⟨d, .ld1 x, none, pre⟩ :: os) log :: t) ⟨env, objs⟩ = WED P G fin (effF G (getE env) (objL objs) objs.length (.ld1 x)) d pre os log t env objs := W_effD (by intro f as h; cases h)
theorem W_ldn {d : Option Nat} {pre : List Nat} {n : Nat} {x : Opd} : W P G fin (.ops (⟨d, .ldn n x, none, pre⟩ :: os) :: t) ⟨env, objs⟩ = WE P G fin (effF G (getE env) (objL objs) objs.length (.ldn n x)) d os t env objs := W_eff (by intro f as h; cases h)
theorem WD_ldn {d : Option Nat} {pre : List Nat} {n : Nat} {x : Opd} : W P G fin (.opsD (⟨d, .ldn n x, none, pre⟩ :: os) log :: t) ⟨env, objs⟩ = WED P G fin (effF G (getE env) (objL objs) objs.length (.ldn n x)) d pre os log t env objs := W_effD (by intro f as h; cases h)
theorem W_st {d : Option Nat} {pre : List Nat} {n : Nat} {x : Opd} {y : Opd} : W P G fin (.ops (⟨d, .st n x y, none, pre⟩ :: os) :: t) ⟨env, objs⟩ = WE P G fin (effF G (getE env) (objL objs) objs.length (.st n x y)) d os t env objs := W_eff (by intro f as h; cases h)
theorem WD_st {d : Option Nat} {pre : List Nat} {n : Nat} {x : Opd} {y : Opd} : W P G fin (.opsD (⟨d, .st n x y, none, pre⟩ :: os) log :: t) ⟨env, objs⟩ = WED P G fin (effF G (getE env) (objL objs) objs.length (.st n x y)) d pre os log t env objs := W_effD (by intro f as h; cases h)
theorem W_nck {d : Option Nat} {pre : List Nat} {x : Opd} : W P G fin (.ops (⟨d, .nck x, none, pre⟩ :: os) :: t) ⟨env, objs⟩ = WE P G fin (effF G (getE env) (objL objs) objs.length (.nck x)) d os t env objs := W_eff (by intro f as h; cases h)
theorem WD_nck {d : Option Nat} {pre : List Nat} {x : Opd} : W P G fin (.opsD (⟨d, .nck x, none, pre⟩ :: os) log :: t) ⟨env, objs⟩ = WED P G fin (effF G (getE env) (objL objs) objs.length (.nck x)) d pre os log t env objs := W_effD (by intro f as h; cases h)
theorem W_bin {d : Option Nat} {pre : List Nat} {op : BinOp} {x : Opd} {y : Opd} : W P G fin (.ops (⟨d, .bin op x y, none, pre⟩ :: os) :: t) ⟨env, objs⟩ = WE P G fin (effF G (getE env) (objL objs) objs.length (.bin op x y)) d os t env objs := W_eff (by intro f as h; cases h)
theorem WD_bin {d : Option Nat} {pre : List Nat} {op : BinOp} {x : Opd} {y : Opd} : W P G fin (.opsD (⟨d, .bin op x y, none, pre⟩ :: os) log :: t) ⟨env, objs⟩ = WED P G fin (effF G (getE env) (objL objs) objs.length (.bin op x y)) d pre os log t env objs := W_effD (by intro f as h; cases h)
theorem W_eqb {d : Option Nat} {pre : List Nat} {ng : Bool} {x : Opd} {y : Opd} : W P G fin (.ops (⟨d, .eqb ng x y, none, pre⟩ :: os) :: t) ⟨env, objs⟩ = WE P G fin (effF G (getE env) (objL objs) objs.length (.eqb ng x y)) d os t env objs := W_eff (by intro f as h; cases h)
theorem WD_eqb {d : Option Nat} {pre : List Nat} {ng : Bool} {x : Opd} {y : Opd} : W P G fin (.opsD (⟨d, .eqb ng x y, none, pre⟩ :: os) log :: t) ⟨env, objs⟩ = WED P G fin (effF G (getE env) (objL objs) objs.length (.eqb ng x y)) d pre os log t env objs := W_effD (by intro f as h; cases h)
theorem W_not {d : Option Nat} {pre : List Nat} {x : Opd} : W P G fin (.ops (⟨d, .not x, none, pre⟩ :: os) :: t) ⟨env, objs⟩ = WE P G fin (effF G (getE env) (objL objs) objs.length (.not x)) d os t env objs := W_eff (by intro f as h; cases h)
theorem WD_not {d : Option Nat} {pre : List Nat} {x : Opd} : W P G fin (.opsD (⟨d, .not x, none, pre⟩ :: os) log :: t) ⟨env, objs⟩ = WED P G fin (effF G (getE env) (objL objs) objs.length (.not x)) d pre os log t env objs := W_effD (by intro f as h; cases h)
theorem W_cvt {d : Option Nat} {pre : List Nat} {k : IntKind} {x : Opd} : W P G fin (.ops (⟨d, .cvt k x, none, pre⟩ :: os) :: t) ⟨env, objs⟩ = WE P G fin (effF G (getE env) (objL objs) objs.length (.cvt k x)) d os t env objs := W_eff (by intro f as h; cases h)
theorem WD_cvt {d : Option Nat} {pre : List Nat} {k : IntKind} {x : Opd} : W P G fin (.opsD (⟨d, .cvt k x, none, pre⟩ :: os) log :: t) ⟨env, objs⟩ = WED P G fin (effF G (getE env) (objL objs) objs.length (.cvt k x)) d pre os log t env objs := W_effD (by intro f as h; cases h)
theorem W_fad {d : Option Nat} {pre : List Nat} {n : Nat} {x : Opd} : W P G fin (.ops (⟨d, .fad n x, none, pre⟩ :: os) :: t) ⟨env, objs⟩ = WE P G fin (effF G (getE env) (objL objs) objs.length (.fad n x)) d os t env objs := W_eff (by intro f as h; cases h)
theorem WD_fad {d : Option Nat} {pre : List Nat} {n : Nat} {x : Opd} : W P G fin (.opsD (⟨d, .fad n x, none, pre⟩ :: os) log :: t) ⟨env, objs⟩ = WED P G fin (effF G (getE env) (objL objs) objs.length (.fad n x)) d pre os log t env objs := W_effD (by intro f as h; cases h)
theorem W_fld1 {d : Option Nat} {pre : List Nat} {n : Nat} {x : Opd} : W P G fin (.ops (⟨d, .fld1 n x, none, pre⟩ :: os) :: t) ⟨env, objs⟩ = WE P G fin (effF G (getE env) (objL objs) objs.length (.fld1 n x)) d os t env objs := W_eff (by intro f as h; cases h)
theorem WD_fld1 {d : Option Nat} {pre : List Nat} {n : Nat} {x : Opd} : W P G fin (.opsD (⟨d, .fld1 n x, none, pre⟩ :: os) log :: t) ⟨env, objs⟩ = WED P G fin (effF G (getE env) (objL objs) objs.length (.fld1 n x)) d pre os log t env objs := W_effD (by intro f as h; cases h)
theorem W_fldn {d : Option Nat} {pre : List Nat} {n : Nat} {m : Nat} {x : Opd} : W P G fin (.ops (⟨d, .fldn n m x, none, pre⟩ :: os) :: t) ⟨env, objs⟩ = WE P G fin (effF G (getE env) (objL objs) objs.length (.fldn n m x)) d os t env objs := W_eff (by intro f as h; cases h)
theorem WD_fldn {d : Option Nat} {pre : List Nat} {n : Nat} {m : Nat} {x : Opd} : W P G fin (.opsD (⟨d, .fldn n m x, none, pre⟩ :: os) log :: t) ⟨env, objs⟩ = WED P G fin (effF G (getE env) (objL objs) objs.length (.fldn n m x)) d pre os log t env objs := W_effD (by intro f as h; cases h)
theorem W_ixa {d : Option Nat} {pre : List Nat} {n : Nat} {x : Opd} {i : Opd} : W P G fin (.ops (⟨d, .ixa n x i, none, pre⟩ :: os) :: t) ⟨env, objs⟩ = WE P G fin (effF G (getE env) (objL objs) objs.length (.ixa n x i)) d os t env objs := W_eff (by intro f as h; cases h)
theorem WD_ixa {d : Option Nat} {pre : List Nat} {n : Nat} {x : Opd} {i : Opd} : W P G fin (.opsD (⟨d, .ixa n x i, none, pre⟩ :: os) log :: t) ⟨env, objs⟩ = WED P G fin (effF G (getE env) (objL objs) objs.length (.ixa n x i)) d pre os log t env objs := W_effD (by intro f as h; cases h)
theorem W_ixr {d : Option Nat} {pre : List Nat} {n : Nat} {m : Nat} {x : Opd} {i : Opd} : W P G fin (.ops (⟨d, .ixr n m x i, none, pre⟩ :: os) :: t) ⟨env, objs⟩ = WE P G fin (effF G (getE env) (objL objs) objs.length (.ixr n m x i)) d os t env objs := W_eff (by intro f as h; cases h)
theorem WD_ixr {d : Option Nat} {pre : List Nat} {n : Nat} {m : Nat} {x : Opd} {i : Opd} : W P G fin (.opsD (⟨d, .ixr n m x i, none, pre⟩ :: os) log :: t) ⟨env, objs⟩ = WED P G fin (effF G (getE env) (objL objs) objs.length (.ixr n m x i)) d pre os log t env objs := W_effD (by intro f as h; cases h)
theorem W_ix1 {d : Option Nat} {pre : List Nat} {n : Nat} {x : Opd} {i : Opd} : W P G fin (.ops (⟨d, .ix1 n x i, none, pre⟩ :: os) :: t) ⟨env, objs⟩ = WE P G fin (effF G (getE env) (objL objs) objs.length (.ix1 n x i)) d os t env objs := W_eff (by intro f as h; cases h)
theorem WD_ix1 {d : Option Nat} {pre : List Nat} {n : Nat} {x : Opd} {i : Opd} : W P G fin (.opsD (⟨d, .ix1 n x i, none, pre⟩ :: os) log :: t) ⟨env, objs⟩ = WED P G fin (effF G (getE env) (objL objs) objs.length (.ix1 n x i)) d pre os log t env objs := W_effD (by intro f as h; cases h)
theorem W_ixs {d : Option Nat} {pre : List Nat} {x : Opd} {i : Opd} : W P G fin (.ops (⟨d, .ixs x i, none, pre⟩ :: os) :: t) ⟨env, objs⟩ = WE P G fin (effF G (getE env) (objL objs) objs.length (.ixs x i)) d os t env objs := W_eff (by intro f as h; cases h)
theorem WD_ixs {d : Option Nat} {pre : List Nat} {x : Opd} {i : Opd} : W P G fin (.opsD (⟨d, .ixs x i, none, pre⟩ :: os) log :: t) ⟨env, objs⟩ = WED P G fin (effF G (getE env) (objL objs) objs.length (.ixs x i)) d pre os log t env objs := W_effD (by intro f as h; cases h)
theorem W_len {d : Option Nat} {pre : List Nat} {x : Opd} : W P G fin (.ops (⟨d, .len x, none, pre⟩ :: os) :: t) ⟨env, objs⟩ = WE P G fin (effF G (getE env) (objL objs) objs.length (.len x)) d os t env objs := W_eff (by intro f as h; cases h)
theorem WD_len {d : Option Nat} {pre : List Nat} {x : Opd} : W P G fin (.opsD (⟨d, .len x, none, pre⟩ :: os) log :: t) ⟨env, objs⟩ = WED P G fin (effF G (getE env) (objL objs) objs.length (.len x)) d pre os log t env objs := W_effD (by intro f as h; cases h)
theorem W_lens {d : Option Nat} {pre : List Nat} {x : Opd} : W P G fin (.ops (⟨d, .lens x, none, pre⟩ :: os) :: t) ⟨env, objs⟩ = WE P G fin (effF G (getE env) (objL objs) objs.length (.lens x)) d os t env objs := W_eff (by intro f as h; cases h)
theorem WD_lens {d : Option Nat} {pre : List Nat} {x : Opd} : W P G fin (.opsD (⟨d, .lens x, none, pre⟩ :: os) log :: t) ⟨env, objs⟩ = WED P G fin (effF G (getE env) (objL objs) objs.length (.lens x)) d pre os log t env objs := W_effD (by intro f as h; cases h)
theorem W_mkf {d : Option Nat} {pre : List Nat} {fn : Fn} {a : List Opd} {b : List Opd} : W P G fin (.ops (⟨d, .mkf fn a b, none, pre⟩ :: os) :: t) ⟨env, objs⟩ = WE P G fin (effF G (getE env) (objL objs) objs.length (.mkf fn a b)) d os t env objs := W_eff (by intro f as h; cases h)
theorem WD_mkf {d : Option Nat} {pre : List Nat} {fn : Fn} {a : List Opd} {b : List Opd} : W P G fin (.opsD (⟨d, .mkf fn a b, none, pre⟩ :: os) log :: t) ⟨env, objs⟩ = WED P G fin (effF G (getE env) (objL objs) objs.length (.mkf fn a b)) d pre os log t env objs := W_effD (by intro f as h; cases h)
theorem W_ext {d : Option Nat} {pre : List Nat} {x : Opd} {n : Nat} : W P G fin (.ops (⟨d, .ext x n, none, pre⟩ :: os) :: t) ⟨env, objs⟩ = WE P G fin (effF G (getE env) (objL objs) objs.length (.ext x n)) d os t env objs := W_eff (by intro f as h; cases h)
theorem WD_ext {d : Option Nat} {pre : List Nat} {x : Opd} {n : Nat} : W P G fin (.opsD (⟨d, .ext x n, none, pre⟩ :: os) log :: t) ⟨env, objs⟩ = WED P G fin (effF G (getE env) (objL objs) objs.length (.ext x n)) d pre os log t env objs := W_effD (by intro f as h; cases h)
theorem W_app {d : Option Nat} {pre : List Nat} {et : TypeId} {n : Nat} {m : Nat} {x : Opd} {y : Opd} : W P G fin (.ops (⟨d, .app et n m x y, none, pre⟩ :: os) :: t) ⟨env, objs⟩ = WE P G fin (effF G (getE env) (objL objs) objs.length (.app et n m x y)) d os t env objs := W_eff (by intro f as h; cases h)
theorem WD_app {d : Option Nat} {pre : List Nat} {et : TypeId} {n : Nat} {m : Nat} {x : Opd} {y : Opd} : W P G fin (.opsD (⟨d, .app et n m x y, none, pre⟩ :: os) log :: t) ⟨env, objs⟩ = WED P G fin (effF G (getE env) (objL objs) objs.length (.app et n m x y)) d pre os log t env objs := W_effD (by intro f as h; cases h)
theorem W_min {d : Option Nat} {pre : List Nat} {x : Opd} {y : Opd} : W P G fin (.ops (⟨d, .min x y, none, pre⟩ :: os) :: t) ⟨env, objs⟩ = WE P G fin (effF G (getE env) (objL objs) objs.length (.min x y)) d os t env objs := W_eff (by intro f as h; cases h)
theorem WD_min {d : Option Nat} {pre : List Nat} {x : Opd} {y : Opd} : W P G fin (.opsD (⟨d, .min x y, none, pre⟩ :: os) log :: t) ⟨env, objs⟩ = WED P G fin (effF G (getE env) (objL objs) objs.length (.min x y)) d pre os log t env objs := W_effD (by intro f as h; cases h)
theorem W_isnp {d : Option Nat} {pre : List Nat} {ng : Bool} {x : Opd} : W P G fin (.ops (⟨d, .isnp ng x, none, pre⟩ :: os) :: t) ⟨env, objs⟩ = WE P G fin (effF G (getE env) (objL objs) objs.length (.isnp ng x)) d os t env objs := W_eff (by intro f as h; cases h)
theorem WD_isnp {d : Option Nat} {pre : List Nat} {ng : Bool} {x : Opd} : W P G fin (.opsD (⟨d, .isnp ng x, none, pre⟩ :: os) log :: t) ⟨env, objs⟩ = WED P G fin (effF G (getE env) (objL objs) objs.length (.isnp ng x)) d pre os log t env objs := W_effD (by intro f as h; cases h)
theorem W_isns {d : Option Nat} {pre : List Nat} {ng : Bool} {x : Opd} : W P G fin (.ops (⟨d, .isns ng x, none, pre⟩ :: os) :: t) ⟨env, objs⟩ = WE P G fin (effF G (getE env) (objL objs) objs.length (.isns ng x)) d os t env objs := W_eff (by intro f as h; cases h)
theorem WD_isns {d : Option Nat} {pre : List Nat} {ng : Bool} {x : Opd} : W P G fin (.opsD (⟨d, .isns ng x, none, pre⟩ :: os) log :: t) ⟨env, objs⟩ = WED P G fin (effF G (getE env) (objL objs) objs.length (.isns ng x)) d pre os log t env objs := W_effD (by intro f as h; cases h)
theorem W_eqs {d : Option Nat} {pre : List Nat} {ng : Bool} {ks : List Nat} {x : Opd} {y : Opd} : W P G fin (.ops (⟨d, .eqs ng ks x y, none, pre⟩ :: os) :: t) ⟨env, objs⟩ = WE P G fin (effF G (getE env) (objL objs) objs.length (.eqs ng ks x y)) d os t env objs := W_eff (by intro f as h; cases h)
theorem WD_eqs {d : Option Nat} {pre : List Nat} {ng : Bool} {ks : List Nat} {x : Opd} {y : Opd} : W P G fin (.opsD (⟨d, .eqs ng ks x y, none, pre⟩ :: os) log :: t) ⟨env, objs⟩ = WED P G fin (effF G (getE env) (objL objs) objs.length (.eqs ng ks x y)) d pre os log t env objs := W_effD (by intro f as h; cases h)
theorem W_neg {d : Option Nat} {pre : List Nat} {x : Opd} : W P G fin (.ops (⟨d, .neg x, none, pre⟩ :: os) :: t) ⟨env, objs⟩ = WE P G fin (effF G (getE env) (objL objs) objs.length (.neg x)) d os t env objs := W_eff (by intro f as h; cases h)
theorem WD_neg {d : Option Nat} {pre : List Nat} {x : Opd} : W P G fin (.opsD (⟨d, .neg x, none, pre⟩ :: os) log :: t) ⟨env, objs⟩ = WED P G fin (effF G (getE env) (objL objs) objs.length (.neg x)) d pre os log t env objs := W_effD (by intro f as h; cases h)
theorem W_ixn {d : Option Nat} {pre : List Nat} {n : Nat} {m : Nat} {x : Opd} {i : Opd} : W P G fin (.ops (⟨d, .ixn n m x i, none, pre⟩ :: os) :: t) ⟨env, objs⟩ = WE P G fin (effF G (getE env) (objL objs) objs.length (.ixn n m x i)) d os t env objs := W_eff (by intro f as h; cases h)
theorem WD_ixn {d : Option Nat} {pre : List Nat} {n : Nat} {m : Nat} {x : Opd} {i : Opd} : W P G fin (.opsD (⟨d, .ixn n m x i, none, pre⟩ :: os) log :: t) ⟨env, objs⟩ = WED P G fin (effF G (getE env) (objL objs) objs.length (.ixn n m x i)) d pre os log t env objs := W_effD (by intro f as h; cases h)
theorem W_sli {d : Option Nat} {pre : List Nat} {esz : Nat} {x : Opd} {lo : Option Opd} {hi : Option Opd} {mx : Option Opd} : W P G fin (.ops (⟨d, .sli esz x lo hi mx, none, pre⟩ :: os) :: t) ⟨env, objs⟩ = WE P G fin (effF G (getE env) (objL objs) objs.length (.sli esz x lo hi mx)) d os t env objs := W_eff (by intro f as h; cases h)
theorem WD_sli {d : Option Nat} {pre : List Nat} {esz : Nat} {x : Opd} {lo : Option Opd} {hi : Option Opd} {mx : Option Opd} : W P G fin (.opsD (⟨d, .sli esz x lo hi mx, none, pre⟩ :: os) log :: t) ⟨env, objs⟩ = WED P G fin (effF G (getE env) (objL objs) objs.length (.sli esz x lo hi mx)) d pre os log t env objs := W_effD (by intro f as h; cases h)
theorem W_sls {d : Option Nat} {pre : List Nat} {x : Opd} {lo : Option Opd} {hi : Option Opd} : W P G fin (.ops (⟨d, .sls x lo hi, none, pre⟩ :: os) :: t) ⟨env, objs⟩ = WE P G fin (effF G (getE env) (objL objs) objs.length (.sls x lo hi)) d os t env objs := W_eff (by intro f as h; cases h)
theorem WD_sls {d : Option Nat} {pre : List Nat} {x : Opd} {lo : Option Opd} {hi : Option Opd} : W P G fin (.opsD (⟨d, .sls x lo hi, none, pre⟩ :: os) log :: t) ⟨env, objs⟩ = WED P G fin (effF G (getE env) (objL objs) objs.length (.sls x lo hi)) d pre os log t env objs := W_effD (by intro f as h; cases h)
end

/-! ## More holds where more is asked -/
section
variable {P : Program} {G : Nat → Option (List DV)}
theorem vcE_mono {o : IOp} {s : St} {K K' : St → Eff → Prop} (h : ∀ s e, K s e → K' s e) (hv : vcE P G o s K) : vcE P G o s K' := by
  unfold vcE at hv ⊢
  split at hv
  · split at hv
    · obtain ⟨e, h1, h2⟩ := hv; exact ⟨e, h1, h _ _ h2⟩
    · exact hv
  · split at hv
    · exact h _ _ hv
    · exact hv
theorem vcG_mono {o : IOp} {s : St} {K K' : St → Eff → Prop} {K0 K0' : St → Prop} (h : ∀ s e, K s e → K' s e) (h0 : ∀ s, K0 s → K0' s) (hv : vcG P G o s K K0) : vcG P G o s K' K0' := by
  unfold vcG at hv ⊢
  split at hv
  · exact vcE_mono h hv
  · split at hv
    · split at hv
      · rename_i hb; rw [if_pos hb]; exact vcE_mono h hv
      · rename_i hb; rw [if_neg hb]; exact h0 _ hv
    · exact h0 _ hv
    · exact hv
theorem vcOps_mono {K K' : St → Prop} (h : ∀ s, K s → K' s) : ∀ (os : List IOp) (s : St), vcOps P G os s K → vcOps P G os s K'
  | [], s, hv => h s hv
  | o :: os, s, hv => by
    simp only [vcOps] at hv ⊢
    exact vcG_mono (fun s e hk => vcOps_mono h os s hk) (fun s hk => vcOps_mono h os s hk) hv
theorem vcOpsD_mono {K K' : St → List LogE → Prop} (h : ∀ s l, K s l → K' s l) : ∀ (os : List IOp) (s : St) (log : List LogE), vcOpsD P G os s log K → vcOpsD P G os s log K'
  | [], s, log, hv => h s log hv
  | o :: os, s, log, hv => by
    simp only [vcOpsD] at hv ⊢
    exact vcG_mono (fun s e hk => vcOpsD_mono h os s _ hk) (fun s hk => vcOpsD_mono h os s _ hk) hv
theorem vc_mono : ∀ (c : C) (s : St) (K K' : Kont), (∀ s, K.n s → K'.n s) → (∀ i s, K.x i s → K'.x i s) → (∀ s, K.r s → K'.r s) → vc P G c s K → vc P G c s K'
  | .skip, s, K, K', hn, hx, hr, h => hn s h
  | .reg ops, s, K, K', hn, hx, hr, h => vcOps_mono hn ops s h
  | .regD ops, s, K, K', hn, hx, hr, h => vcOpsD_mono (fun s l ⟨h1, h2⟩ => ⟨h1, hn s h2⟩) ops s [] h
  | .seq a b, s, K, K', hn, hx, hr, h => vc_mono a s { K with n := fun s' => vc P G b s' K } { K' with n := fun s' => vc P G b s' K' } (fun s h => vc_mono b s K K' hn hx hr h) hx hr h
  | .cond c a b, s, K, K', hn, hx, hr, h => by
    simp only [vc] at h ⊢
    split at h
    · split at h
      · rename_i hb; rw [if_pos hb]; exact vc_mono a s K K' hn hx hr h
      · rename_i hb; rw [if_neg hb]; exact vc_mono b s K K' hn hx hr h
    · exact ⟨vc_mono a s K K' hn hx hr h.1, vc_mono b s K K' hn hx hr h.2⟩
    · exact h
  | .block i b, s, K, K', hn, hx, hr, h => vc_mono b s { K with x := fun j s' => if j = i then K.n s' else K.x j s' } { K' with x := fun j s' => if j = i then K'.n s' else K'.x j s' } hn (fun j s h => by
      dsimp only at h ⊢
      split at h
      · rename_i hb; rw [if_pos hb]; exact hn s h
      · rename_i hb; rw [if_neg hb]; exact hx j s h) hr h
  | .loop b, s, K, K', hn, hx, hr, h => by
    simp only [vc] at h ⊢
    obtain ⟨ts, I, N, ad, h0, h1⟩ := h
    exact ⟨ts, I, N, ad, h0, fun k s' hk => vc_mono b s' { K with n := fun s'' => s''.okKeep ts (adopt ad s).objs.length ∧ ∃ j, j < k ∧ I j (s''.keep ts (adopt ad s).objs.length) } { K' with n := fun s'' => s''.okKeep ts (adopt ad s).objs.length ∧ ∃ j, j < k ∧ I j (s''.keep ts (adopt ad s).objs.length) } (fun s h => h) hx hr (h1 k s' hk)⟩
  | .exit i, s, K, K', hn, hx, hr, h => hx i s h
  | .ret, s, K, K', hn, hx, hr, h => hr s h
  | .scope b, s, K, K', hn, hx, hr, h => vc_mono b s K K' hn hx hr h
end

/-! ## Calls in a walk -/
section
variable {P : Program} {G : Nat → Option (List DV)} {fin : St → Prop} {t : List It} {env : List (Nat × LV)} {objs : List (Option LObj)} {os : List IOp} {log : List LogE}
theorem W_call {d : Option Nat} {f : Opd} {as : List Opd} {pre : List Nat} {k : Nat} {fs cs : List LV} (e : Eff) (hc : callee (f.ev G (getE env)) = some (k, fs, cs)) (h : CallEff P G k (fs ++ as.map (·.ev G (getE env)) ++ cs) (objL objs) objs.length e)
    (hk : W P G fin (.ops os :: t) ⟨putE d e.r env, updL e.wr objs ++ e.nw.map some⟩) : W P G fin (.ops (⟨d, .call f as, none, pre⟩ :: os) :: t) ⟨env, objs⟩ := by
  simp only [W, vcOps, vcG, vcE]
  have hc' : callee (f.ev G (St.get ⟨env, objs⟩)) = some (k, fs, cs) := hc
  rw [hc']
  simp only [W] at hk
  exact ⟨e, h, hk⟩
theorem WD_call {d : Option Nat} {f : Opd} {as : List Opd} {pre : List Nat} {k : Nat} {fs cs : List LV} (e : Eff) (hc : callee (f.ev G (getE env)) = some (k, fs, cs)) (h : CallEff P G k (fs ++ as.map (·.ev G (getE env)) ++ cs) (objL objs) objs.length e)
    (hk : W P G fin (.opsD os (log ++ [⟨pre, e.rd, (e.owned objs.length).map (·.1)⟩]) :: t) ⟨putE d e.r env, updL e.wr objs ++ e.nw.map some⟩) : W P G fin (.opsD (⟨d, .call f as, none, pre⟩ :: os) log :: t) ⟨env, objs⟩ := by
  simp only [W, vcOpsD, vcG, vcE]
  have hc' : callee (f.ev G (St.get ⟨env, objs⟩)) = some (k, fs, cs) := hc
  rw [hc']
  simp only [W] at hk
  exact ⟨e, h, hk⟩

/-- A call that hands no object on, and gets none back. Z: what is read meanwhile. -/
theorem CallEff.pure {k : Nat} {args fargs : List LV} {obj : Nat → OSt} {base : Nat} {r : LV} (Z : List Nat) (hT : Tri P G k fargs [] r []) (ha : argRs obj [] Z args fargs) (hZ : ∀ z ∈ Z, ∃ et e rows, obj z = .live (.dat et e rows) ∨ obj z = .live (.frz et e rows)) (hr : noJ r = true) :
    CallEff P G k args obj base { r := rn (piOf [] base) r, rd := Z, wr := [], nw := [] } :=
  ⟨⟨[], Z, true, fargs, [], r, [], List.nodup_nil, (fun _ _ h => by cases h), hZ, rfl, (fun i o h => by simp at h), rfl, ha, (fun _ => ⟨hr, rfl, rfl⟩), Nat.le_refl _, hT, rfl⟩⟩
/-- A call that hands no object on: nothing of the caller's own is read. -/
theorem CallEff.data {k : Nat} {args fargs : List LV} {obj : Nat → OSt} {base : Nat} {r : LV} {fobjs' : List LObj} (hT : Tri P G k fargs [] r fobjs') (ha : argRs obj [] [] args fargs) :
    CallEff P G k args obj base { r := rn (piOf [] base) r, rd := [], wr := [], nw := fobjs'.map (rnO (piOf [] base)) } :=
  ⟨⟨[], [], false, fargs, [], r, fobjs', List.nodup_nil, (fun _ h => by cases h), (fun _ h => by cases h), rfl, (fun i o h => by simp at h), rfl, ha, (fun h => by cases h), Nat.zero_le _, hT, rfl⟩⟩

def Ends0 (rv : List RV) (r : LV) (s : St) : Prop := (match RVs.of s rv with | some vs => some (oneOr vs) | none => none) = some r
theorem CallEff.hand {k : Nat} {args fargs : List LV} {obj : Nat → OSt} {base : Nat} {r : LV} {fobjs fobjs' : List LObj} (ρ : List Nat) (hT : Tri P G k fargs fobjs r fobjs') (ha : argRs obj ρ [] args fargs) (hnd : ρ.Nodup) (ho : ρ.map obj = fobjs.map (fun ob => OSt.live (rnO (piOf ρ base) ob))) (hid : fobjs.all (idlO ρ.length) = true) (hle : fobjs.length ≤ fobjs'.length) :
    CallEff P G k args obj base { r := rn (piOf ρ base) r, rd := ρ, wr := ρ.zip (fobjs'.map (rnO (piOf ρ base))), nw := (fobjs'.drop ρ.length).map (rnO (piOf ρ base)) } :=
  ⟨⟨ρ, [], false, fargs, fobjs, r, fobjs', hnd, (fun _ h => by cases h), (fun _ h => by cases h), by have := congrArg List.length ho; simpa using this.symm, (fun i o hi => by
    have h1 : (ρ.map obj)[i]? = some (obj o) := by rw [List.getElem?_map, hi]; rfl
    rw [ho, List.getElem?_map] at h1
    cases hf : fobjs[i]? with
    | none => rw [hf] at h1; cases h1
    | some ob => rw [hf] at h1; simp at h1; exact ⟨ob, rfl, h1.symm⟩), hid, ha, (fun h => by cases h), hle, hT, by simp [frzs]⟩⟩
theorem CallEff.frz {k : Nat} {args fargs : List LV} {obj : Nat → OSt} {base : Nat} {r : LV} (Z : List Nat) (hT : Tri P G k fargs [] r []) (ha : argRs obj [] Z args fargs) (hZ : ∀ z ∈ Z, ∃ et e rows, obj z = .live (.dat et e rows) ∨ obj z = .live (.frz et e rows)) :
    CallEff P G k args obj base { r := rn (piOf [] base) r, rd := Z, wr := frzs obj Z, nw := [] } :=
  ⟨⟨[], Z, false, fargs, [], r, [], List.nodup_nil, (fun _ _ h => by cases h), hZ, rfl, (fun i o h => by simp at h), rfl, ha, (fun h => by cases h), Nat.le_refl _, hT, rfl⟩⟩
theorem Back0 {rv : List RV} {r : LV} {s : St} {vs : List LV} (h : RVs.of s rv = some vs) (hr : argR s.obj [] [] (oneOr vs) r) : Back rv 0 r [] s :=
  ⟨[], vs, [], [], h, rfl, List.nodup_nil, (fun _ h => by cases h), (fun _ h => by cases h), rfl, (fun i o h => by simp at h), rfl, hr⟩

/-- what is handed back is data: the blocks of Z stand from now on. -/
theorem BackZ {rv : List RV} {r : LV} {s : St} {vs : List LV} (Z : List Nat) (h : RVs.of s rv = some vs) (hZ : ∀ z ∈ Z, ∃ et e rows, s.obj z = .live (.dat et e rows) ∨ s.obj z = .live (.frz et e rows)) (hr : argR s.obj [] Z (oneOr vs) r) : Back rv 0 r [] s :=
  ⟨[], vs, [], Z, h, rfl, List.nodup_nil, (fun _ _ h => by cases h), hZ, rfl, (fun i o h => by simp at h), rfl, hr⟩
/-- one slice of the frame's own is handed back. -/
theorem BackO {rv : List RV} {s : St} {o et e n k lo : Nat} {rows : List (List DV)} (ad : List Ad) (h : RVs.of (adopt ad s) rv = some [.sl o n e lo k]) (ho : (adopt ad s).obj o = .live (.dat et e rows)) : Back rv 0 (.sl 0 n e lo k) [.dat et e rows] s :=
  ⟨ad, _, [o], [], h, rfl, (by simp), (fun _ h => by cases h), (fun _ h => by cases h), rfl, (fun i o' h => by
    cases i with
    | zero => simp at h; subst h; exact ⟨_, rfl, ho⟩
    | succ i => simp at h), rfl, by simp [oneOr, argR]⟩
/-- objects are handed back: ρ. -/
theorem BackR {rv : List RV} {r : LV} {s : St} {vs : List LV} {k : Nat} {fobjs' : List LObj} (ad : List Ad) (ρ Z : List Nat) (h : RVs.of (adopt ad s) rv = some vs) (hk : ρ.take k = List.range k) (hnd : ρ.Nodup) (hz : ∀ z ∈ Z, z ∉ ρ) (hZ : ∀ z ∈ Z, ∃ et e rows, (adopt ad s).obj z = .live (.dat et e rows) ∨ (adopt ad s).obj z = .live (.frz et e rows))
    (ho : ρ.map (adopt ad s).obj = fobjs'.map (fun ob => OSt.live (rnO (piOf ρ 0) ob))) (hid : fobjs'.all (idlO ρ.length) = true) (hr : argR (adopt ad s).obj ρ Z (oneOr vs) r) : Back rv k r fobjs' s :=
  ⟨ad, vs, ρ, Z, h, hk, hnd, hz, hZ, by have := congrArg List.length ho; simpa using this.symm, (fun i o hi => by
    have h1 : (ρ.map (adopt ad s).obj)[i]? = some ((adopt ad s).obj o) := by rw [List.getElem?_map, hi]; rfl
    rw [ho, List.getElem?_map] at h1
    cases hf : fobjs'[i]? with
    | none => rw [hf] at h1; cases h1
    | some ob => rw [hf] at h1; simp at h1; exact ⟨ob, rfl, h1.symm⟩), hid, hr⟩
theorem get_map {α β : Type} {f : α → β} {l : List α} {k : Nat} (h : k < l.length) : (l.map f)[k]? = some (f l[k]) := by simp [h]
theorem get_mapD {α β : Type} {f : α → β} {l : List α} {k : Nat} (z : α) (h : k < l.length) : (l.map f)[k]? = some (f (l.getD k z)) := by simp [h, List.getD]
theorem lt_of_dec {k n : Nat} (h : decide ((k : Int) < (n : Int)) = true) : k < n := by simpa using h
theorem eq_of_dec {k n : Nat} (h : decide ((k : Int) < (n : Int)) = false) (hk : k ≤ n) : k = n := by
  have : ¬ (k < n) := by simpa using h
  omega
@[reducible] def i64 (n : Int) : DV := .val (.int .i64 n)
@[reducible] def bl (b : Bool) : DV := .val (.bool b)
theorem wrap_in {n : Int} (h1 : -9223372036854775808 ≤ n) (h2 : n ≤ 9223372036854775807) : IntKind.i64.wrap n = n := by
  simp [IntKind.wrap, IntKind.bits, IntKind.signed]; omega
theorem wrap_succ {k : Nat} (h : k < 9223372036854775807) : IntKind.i64.wrap ((k : Int) + 1) = ((k + 1 : Nat) : Int) := by
  rw [wrap_in (by omega) (by omega)]; rfl

/-- A FUNCTION KEEPS ITS CONTRACT, if its walk goes through. -/
theorem tri_W {f : Nat} {fn : Func} {ir : Nat × C × List RV} {args : List LV} {fobjs fobjs' : List LObj} {r : LV} (hf : P.funcs[f]? = some fn) (hn : (fn.name != "runtime.NumGoroutine") = true) (hcv : convFn P fn = some ir) (hl : args.length ≤ ir.1)
    (h : W P G (Back ir.2.2 fobjs.length r fobjs') [.c ir.2.1] ⟨argEnv 0 args, fobjs.map some⟩) : Tri P G f args fobjs r fobjs' := by
  refine tri_of hf (by simpa using hn) (N := ir.1) (c := ir.2.1) (rv := ir.2.2) hcv hl ?_
  simp only [W, Wx] at h
  exact h

mutual
theorem rn_data (π : Nat → Nat) : ∀ (x : LV), idl 0 x = true → rn π x = x
  | .top, _ => rfl
  | .d x, _ => rfl
  | .anyb, _ => rfl
  | .ptr .., h => by simp [idl] at h
  | .rp .., h => by simp [idl] at h
  | .ip .., _ => rfl
  | .sl .., h => by simp [idl] at h
  | .fn f a b, h => by
    simp only [idl, Bool.and_eq_true] at h
    simp only [rn, rnL_data π a h.1, rnL_data π b h.2]
  | .agg cs, h => by simp only [idl] at h; simp only [rn, rnL_data π cs h]
  | .tup cs, h => by simp only [idl] at h; simp only [rn, rnL_data π cs h]
  | .ifc t x, h => by simp only [idl] at h; simp only [rn, rn_data π x h]
theorem rnL_data (π : Nat → Nat) : ∀ (xs : List LV), idlL 0 xs = true → rnL π xs = xs
  | [], _ => rfl
  | x :: xs, h => by
    simp only [idlL, Bool.and_eq_true] at h
    simp only [rnL, rn_data π x h.1, rnL_data π xs h.2]
end

mutual
theorem argR_any (obj : Nat → OSt) (ρ Z : List Nat) : ∀ (x : LV), idl 0 x = true → argR obj ρ Z x x
  | .top, _ => by simp [argR]
  | .d x, _ => by simp [argR]
  | .anyb, _ => by simp [argR]
  | .ptr .., h => by simp [idl] at h
  | .rp .., h => by simp [idl] at h
  | .ip .., _ => by simp [argR]
  | .sl .., h => by simp [idl] at h
  | .fn f a b, h => by
    simp only [idl, Bool.and_eq_true] at h
    simp only [argR]; exact ⟨trivial, argRs_any obj ρ Z a h.1, argRs_any obj ρ Z b h.2⟩
  | .agg cs, h => by simp only [idl] at h; simp only [argR]; exact argRs_any obj ρ Z cs h
  | .tup cs, h => by simp only [idl] at h; simp only [argR]; exact argRs_any obj ρ Z cs h
  | .ifc t x, h => by simp only [idl] at h; simp only [argR]; exact ⟨trivial, argR_any obj ρ Z x h⟩
theorem argRs_any (obj : Nat → OSt) (ρ Z : List Nat) : ∀ (xs : List LV), idlL 0 xs = true → argRs obj ρ Z xs xs
  | [], _ => by simp [argRs]
  | x :: xs, h => by
    simp only [idlL, Bool.and_eq_true] at h
    simp only [argRs]; exact ⟨argR_any obj ρ Z x h.1, argRs_any obj ρ Z xs h.2⟩
end

/-- a call of data alone. -/
theorem W_calld {d : Option Nat} {f : Opd} {as : List Opd} {pre : List Nat} {k : Nat} {fs cs fargs : List LV} {r : LV} (hT : Tri P G k fargs [] r []) (hc : callee (f.ev G (getE env)) = some (k, fs, cs)) (ha : fs ++ as.map (·.ev G (getE env)) ++ cs = fargs) (hid : idlL 0 fargs = true) (hr : idl 0 r = true)
    (hk : W P G fin (.ops os :: t) ⟨putE d r env, objs⟩) : W P G fin (.ops (⟨d, .call f as, none, pre⟩ :: os) :: t) ⟨env, objs⟩ := by
  refine W_call _ hc (CallEff.data hT (by rw [ha]; exact argRs_any _ _ _ _ hid)) ?_
  simpa [rn_data _ _ hr, updL] using hk
theorem WD_calld {d : Option Nat} {f : Opd} {as : List Opd} {pre : List Nat} {k : Nat} {fs cs fargs : List LV} {r : LV} (hT : Tri P G k fargs [] r []) (hc : callee (f.ev G (getE env)) = some (k, fs, cs)) (ha : fs ++ as.map (·.ev G (getE env)) ++ cs = fargs) (hid : idlL 0 fargs = true) (hr : idl 0 r = true)
    (hk : W P G fin (.opsD os (log ++ [⟨pre, [], []⟩]) :: t) ⟨putE d r env, objs⟩) : W P G fin (.opsD (⟨d, .call f as, none, pre⟩ :: os) log :: t) ⟨env, objs⟩ := by
  refine WD_call _ hc (CallEff.data hT (by rw [ha]; exact argRs_any _ _ _ _ hid)) ?_
  simpa [rn_data _ _ hr, updL, Eff.owned, nwp] using hk
/-- a call that reads what is the caller's own: Z. -/
theorem W_callz {d : Option Nat} {f : Opd} {as : List Opd} {pre : List Nat} {k : Nat} {fs cs fargs : List LV} {r : LV} (Z : List Nat) (hT : Tri P G k fargs [] r []) (hc : callee (f.ev G (getE env)) = some (k, fs, cs)) (ha : argRs (objL objs) [] Z (fs ++ as.map (·.ev G (getE env)) ++ cs) fargs)
    (hZ : ∀ z ∈ Z, ∃ et e rows, objL objs z = .live (.dat et e rows) ∨ objL objs z = .live (.frz et e rows)) (hj : noJ r = true) (hr : idl 0 r = true)
    (hk : W P G fin (.ops os :: t) ⟨putE d r env, objs⟩) : W P G fin (.ops (⟨d, .call f as, none, pre⟩ :: os) :: t) ⟨env, objs⟩ := by
  refine W_call _ hc (CallEff.pure Z hT ha hZ hj) ?_
  simpa [rn_data _ _ hr, updL] using hk
theorem WD_callz {d : Option Nat} {f : Opd} {as : List Opd} {pre : List Nat} {k : Nat} {fs cs fargs : List LV} {r : LV} (Z : List Nat) (hT : Tri P G k fargs [] r []) (hc : callee (f.ev G (getE env)) = some (k, fs, cs)) (ha : argRs (objL objs) [] Z (fs ++ as.map (·.ev G (getE env)) ++ cs) fargs)
    (hZ : ∀ z ∈ Z, ∃ et e rows, objL objs z = .live (.dat et e rows) ∨ objL objs z = .live (.frz et e rows)) (hj : noJ r = true) (hr : idl 0 r = true)
    (hk : W P G fin (.opsD os (log ++ [⟨pre, Z, []⟩]) :: t) ⟨putE d r env, objs⟩) : W P G fin (.opsD (⟨d, .call f as, none, pre⟩ :: os) log :: t) ⟨env, objs⟩ := by
  refine WD_call _ hc (CallEff.pure Z hT ha hZ hj) ?_
  simpa [rn_data _ _ hr, updL, Eff.owned, nwp] using hk
/-- a call that reads what is the caller's own, and hands back what may read it too: Z is only read from now on. -/
theorem W_callf {d : Option Nat} {f : Opd} {as : List Opd} {pre : List Nat} {k : Nat} {fs cs fargs : List LV} {r : LV} (Z : List Nat) (hT : Tri P G k fargs [] r []) (hc : callee (f.ev G (getE env)) = some (k, fs, cs)) (ha : argRs (objL objs) [] Z (fs ++ as.map (·.ev G (getE env)) ++ cs) fargs)
    (hZ : ∀ z ∈ Z, ∃ et e rows, objL objs z = .live (.dat et e rows) ∨ objL objs z = .live (.frz et e rows)) (hr : idl 0 r = true)
    (hk : W P G fin (.ops os :: t) ⟨putE d r env, updL (frzs (objL objs) Z) objs⟩) : W P G fin (.ops (⟨d, .call f as, none, pre⟩ :: os) :: t) ⟨env, objs⟩ := by
  refine W_call _ hc (CallEff.frz Z hT ha hZ) ?_
  simpa [rn_data _ _ hr] using hk
theorem WD_callf {d : Option Nat} {f : Opd} {as : List Opd} {pre : List Nat} {k : Nat} {fs cs fargs : List LV} {r : LV} (Z : List Nat) (hT : Tri P G k fargs [] r []) (hc : callee (f.ev G (getE env)) = some (k, fs, cs)) (ha : argRs (objL objs) [] Z (fs ++ as.map (·.ev G (getE env)) ++ cs) fargs)
    (hZ : ∀ z ∈ Z, ∃ et e rows, objL objs z = .live (.dat et e rows) ∨ objL objs z = .live (.frz et e rows)) (hr : idl 0 r = true)
    (hk : W P G fin (.opsD os (log ++ [⟨pre, Z, (frzs (objL objs) Z).map (·.1)⟩]) :: t) ⟨putE d r env, updL (frzs (objL objs) Z) objs⟩) : W P G fin (.opsD (⟨d, .call f as, none, pre⟩ :: os) log :: t) ⟨env, objs⟩ := by
  refine WD_call _ hc (CallEff.frz Z hT ha hZ) ?_
  simpa [rn_data _ _ hr, Eff.owned, nwp] using hk
/-- a call that makes objects. -/
theorem W_calln {d : Option Nat} {f : Opd} {as : List Opd} {pre : List Nat} {k : Nat} {fs cs fargs : List LV} {r : LV} {fobjs' : List LObj} (hT : Tri P G k fargs [] r fobjs') (hc : callee (f.ev G (getE env)) = some (k, fs, cs)) (ha : fs ++ as.map (·.ev G (getE env)) ++ cs = fargs) (hid : idlL 0 fargs = true)
    (hk : W P G fin (.ops os :: t) ⟨putE d (rn (piOf [] objs.length) r) env, objs ++ (fobjs'.map (rnO (piOf [] objs.length))).map some⟩) : W P G fin (.ops (⟨d, .call f as, none, pre⟩ :: os) :: t) ⟨env, objs⟩ := by
  refine W_call _ hc (CallEff.data hT (by rw [ha]; exact argRs_any _ _ _ _ hid)) ?_
  simpa [updL] using hk

theorem WD_calln {d : Option Nat} {f : Opd} {as : List Opd} {pre : List Nat} {k : Nat} {fs cs fargs : List LV} {r : LV} {fobjs' : List LObj} (hT : Tri P G k fargs [] r fobjs') (hc : callee (f.ev G (getE env)) = some (k, fs, cs)) (ha : fs ++ as.map (·.ev G (getE env)) ++ cs = fargs) (hid : idlL 0 fargs = true)
    (hk : W P G fin (.opsD os (log ++ [⟨pre, [], (nwp objs.length (fobjs'.map (rnO (piOf [] objs.length)))).map (·.1)⟩]) :: t) ⟨putE d (rn (piOf [] objs.length) r) env, objs ++ (fobjs'.map (rnO (piOf [] objs.length))).map some⟩) : W P G fin (.opsD (⟨d, .call f as, none, pre⟩ :: os) log :: t) ⟨env, objs⟩ := by
  refine WD_call _ hc (CallEff.data hT (by rw [ha]; exact argRs_any _ _ _ _ hid)) ?_
  simpa [updL, Eff.owned] using hk
/-- a call that hands objects on: ρ; what is read only: Z. -/
theorem W_callo {d : Option Nat} {f : Opd} {as : List Opd} {pre : List Nat} {k : Nat} {fs cs fargs : List LV} {r : LV} {fobjs fobjs' : List LObj} (ρ : List Nat) (hT : Tri P G k fargs fobjs r fobjs') (hc : callee (f.ev G (getE env)) = some (k, fs, cs)) (ha : argRs (objL objs) ρ [] (fs ++ as.map (·.ev G (getE env)) ++ cs) fargs)
    (hnd : ρ.Nodup) (ho : ρ.map (objL objs) = fobjs.map (fun ob => OSt.live (rnO (piOf ρ objs.length) ob))) (hid : fobjs.all (idlO ρ.length) = true) (hle : fobjs.length ≤ fobjs'.length)
    (hk : W P G fin (.ops os :: t) ⟨putE d (rn (piOf ρ objs.length) r) env, updL (ρ.zip (fobjs'.map (rnO (piOf ρ objs.length)))) objs ++ ((fobjs'.drop ρ.length).map (rnO (piOf ρ objs.length))).map some⟩) : W P G fin (.ops (⟨d, .call f as, none, pre⟩ :: os) :: t) ⟨env, objs⟩ := by
  refine W_call _ hc (CallEff.hand ρ hT ha hnd ho hid hle) ?_
  simpa using hk
theorem WD_callo {d : Option Nat} {f : Opd} {as : List Opd} {pre : List Nat} {k : Nat} {fs cs fargs : List LV} {r : LV} {fobjs fobjs' : List LObj} (ρ : List Nat) (hT : Tri P G k fargs fobjs r fobjs') (hc : callee (f.ev G (getE env)) = some (k, fs, cs)) (ha : argRs (objL objs) ρ [] (fs ++ as.map (·.ev G (getE env)) ++ cs) fargs)
    (hnd : ρ.Nodup) (ho : ρ.map (objL objs) = fobjs.map (fun ob => OSt.live (rnO (piOf ρ objs.length) ob))) (hid : fobjs.all (idlO ρ.length) = true) (hle : fobjs.length ≤ fobjs'.length)
    (hk : W P G fin (.opsD os (log ++ [⟨pre, ρ, (nwp objs.length ((fobjs'.drop ρ.length).map (rnO (piOf ρ objs.length))) ++ ρ.zip (fobjs'.map (rnO (piOf ρ objs.length)))).map (·.1)⟩]) :: t) ⟨putE d (rn (piOf ρ objs.length) r) env, updL (ρ.zip (fobjs'.map (rnO (piOf ρ objs.length)))) objs ++ ((fobjs'.drop ρ.length).map (rnO (piOf ρ objs.length))).map some⟩) : W P G fin (.opsD (⟨d, .call f as, none, pre⟩ :: os) log :: t) ⟨env, objs⟩ := by
  refine WD_call _ hc (CallEff.hand ρ hT ha hnd ho hid hle) ?_
  simpa [Eff.owned] using hk

/-- the objects that were handed on are as objs', and the result is data. -/
def EndsO (rv : List RV) (r : LV) (objs' : List LObj) (s : St) : Prop := Ends0 rv r s ∧ s.objs.take objs'.length = objs'.map some
theorem EndsO_iff {rv : List RV} {r : LV} {objs' : List LObj} {s : St} : EndsO rv r objs' s = (Ends0 rv r s ∧ s.objs.take objs'.length = objs'.map some) := rfl
theorem rnO_data (π : Nat → Nat) : ∀ (ob : LObj), idlO 0 ob = true → rnO π ob = ob
  | .box et cells, h => by simp only [rnO]; rw [rnL_data π cells h]
  | .dat .., _ => rfl
  | .frz .., _ => rfl
theorem idl_up : (∀ (x : LV) (k : Nat), idl 0 x = true → idl k x = true) ∧ (∀ (xs : List LV) (k : Nat), idlL 0 xs = true → idlL k xs = true) := by
  have one : ∀ n, (∀ (x : LV) (k : Nat), sizeOf x < n → idl 0 x = true → idl k x = true) ∧ (∀ (xs : List LV) (k : Nat), sizeOf xs < n → idlL 0 xs = true → idlL k xs = true) := by
    intro n
    induction n with
    | zero => exact ⟨fun _ _ h => absurd h (by omega), fun _ _ h => absurd h (by omega)⟩
    | succ n ih =>
      refine ⟨fun x k hs h => ?_, fun xs k hs h => ?_⟩
      · cases x <;> simp only [idl, Bool.and_eq_true] at h ⊢ <;> (try (simp at h; done)) <;> simp at hs
        · exact ⟨ih.2 _ k (by omega) h.1, ih.2 _ k (by omega) h.2⟩
        · exact ih.2 _ k (by omega) h
        · exact ih.2 _ k (by omega) h
        · exact ih.1 _ k (by omega) h
      · cases xs with
        | nil => rfl
        | cons x xs =>
          simp only [idlL, Bool.and_eq_true] at h ⊢
          simp at hs
          exact ⟨ih.1 _ k (by omega) h.1, ih.2 _ k (by omega) h.2⟩
  exact ⟨fun x k => (one (sizeOf x + 1)).1 x k (by omega), fun xs k => (one (sizeOf xs + 1)).2 xs k (by omega)⟩
theorem idlO_up (k : Nat) : ∀ (ob : LObj), idlO 0 ob = true → idlO k ob = true
  | .box et cells, h => idl_up.2 cells k h
  | .dat .., _ => rfl
  | .frz .., _ => rfl
theorem BackS {rv : List RV} {r : LV} {objs' : List LObj} {s : St} {k : Nat} (hs : EndsO rv r objs' s) (hid : idl 0 r = true) (ho : objs'.all (idlO 0) = true) (hk : k = objs'.length) : Back rv k r objs' s := by
  obtain ⟨h1, h2⟩ := hs
  unfold Ends0 at h1
  split at h1
  · rename_i vs hvs
    simp only [Option.some.injEq] at h1
    subst h1
    rw [List.all_eq_true] at ho
    refine ⟨[], vs, List.range k, [], hvs, by simp, List.nodup_range, (fun _ h => by cases h), (fun _ h => by cases h), by simp [hk], fun i o hi => ?_, ?_, ?_⟩
    · have hlt : i < k := by
        have := (List.getElem?_eq_some_iff.1 hi).1
        simpa using this
      have hio : o = i := by rw [List.getElem?_range hlt] at hi; cases hi; rfl
      subst hio
      have hlt' : o < objs'.length := by omega
      refine ⟨objs'[o], List.getElem?_eq_getElem hlt', ?_⟩
      have h3 : (s.objs.take objs'.length)[o]? = some (some objs'[o]) := by rw [h2]; simp [hlt']
      rw [List.getElem?_take_of_lt hlt'] at h3
      rw [rnO_data _ _ (ho _ (List.getElem_mem hlt'))]
      simp only [adopt, St.obj, objL, h3]
    · rw [List.all_eq_true]; exact fun ob hob => idlO_up _ ob (ho ob hob)
    · exact argR_any _ _ _ _ hid
  · cases h1
/-- a function over objects that hold data, that hands back data. -/
theorem tri_WO {f : Nat} {fn : Func} {ir : Nat × C × List RV} {args : List LV} {objs objs' : List LObj} {r : LV} (hf : P.funcs[f]? = some fn) (hn : (fn.name != "runtime.NumGoroutine") = true) (hcv : convFn P fn = some ir) (hl : args.length ≤ ir.1) (hid : idl 0 r = true) (ho : objs'.all (idlO 0) = true) (hlen : objs.length = objs'.length)
    (h : W P G (EndsO ir.2.2 r objs') [.c ir.2.1] ⟨argEnv 0 args, objs.map some⟩) : Tri P G f args objs r objs' := by
  refine tri_of hf (by simpa using hn) (N := ir.1) (c := ir.2.1) (rv := ir.2.2) hcv hl ?_
  simp only [W, Wx] at h
  exact vc_mono _ _ ⟨EndsO ir.2.2 r objs', fun _ _ => False, EndsO ir.2.2 r objs'⟩ _ (fun s hs => BackS hs hid ho hlen) (fun _ _ h => h) (fun s hs => BackS hs hid ho hlen) h

/-- what is handed back, as it stands. -/
def Ends (rv : List RV) (r : LV) (s : St) : Prop := (match RVs.of s rv with | some vs => some (oneOr vs) | none => none) = some r

/-- a function of data alone, that hands back what names no object. -/
theorem tri_W0 {f : Nat} {fn : Func} {ir : Nat × C × List RV} {args : List LV} {r : LV} (hf : P.funcs[f]? = some fn) (hn : (fn.name != "runtime.NumGoroutine") = true) (hcv : convFn P fn = some ir) (hl : args.length ≤ ir.1) (hid : idl 0 r = true)
    (h : W P G (Ends ir.2.2 r) [.c ir.2.1] ⟨argEnv 0 args, []⟩) : Tri P G f args [] r [] := by
  refine tri_of hf (by simpa using hn) (N := ir.1) (c := ir.2.1) (rv := ir.2.2) hcv hl ?_
  simp only [W, Wx] at h
  refine vc_mono _ _ ⟨Ends ir.2.2 r, fun _ _ => False, Ends ir.2.2 r⟩ _ (fun s hs => ?_) (fun _ _ h => h) (fun s hs => ?_) h
  all_goals
    replace hs : Ends ir.2.2 r s := hs
    unfold Ends at hs
    split at hs
    · rename_i vs hvs
      cases hs
      exact Back0 hvs (argR_any _ _ _ _ hid)
    · cases hs
end
end Dv
