/- The logical machine and its plain laws: parts V17, V18, V19, V20, V21, V23, proved sound. -/
import Derived.Test.YtcanhhnmfkdclaaGreatDoorVC
import Derived.KernelRfl
import Derived.Below
set_option linter.unusedVariables false
set_option linter.unusedSimpArgs false
namespace Dv
open Go


inductive It where
  | c (code : C)
  | ops (l : List IOp)
  | opsD (l : List IOp) (log : List LogE)
  | blk (i : Nat)
  | lp (ts : List Nat) (m : Nat) (I : Nat → St → Prop) (k : Nat)
  | pn (p : St → Prop)
  | opsP (p : Nat) (pre : List Nat) (l : List IOp) (log : List LogE)

section
variable (P : Program) (G : Nat → Option (List DV)) (fin : St → Prop)
mutual
def W : List It → St → Prop
  | [], s => fin s
  | .c code :: t, s => vc P G code s ⟨W t, fun i s' => Wx i t s', fin⟩
  | .ops l :: t, s => vcOps P G (fun v s' => Wx PAN t (panicSt v s')) l s (W t)
  | .opsD l log :: t, s => vcOpsD P G (fun v s' => Wx PAN t (panicSt v s')) l s log (fun s' log' => indep log' = true ∧ W t s')
  | .opsP p pre l log :: _, s => vcPan P G p pre l s log
  | .pn _ :: t, s => W t s
  | .blk _ :: t, s => W t s
  | .lp ts m I k :: t, s => ∃ j, j < k ∧ ∃ s3, I j s3 ∧ Imp G m s s3
def Wx (i : Nat) : List It → St → Prop
  | [], _ => False
  | .c _ :: t, s => Wx i t s
  | .ops _ :: t, s => Wx i t s
  | .opsD _ _ :: t, s => Wx i t s
  | .blk j :: t, s => if i = j then W t s else Wx i t s
  | .lp _ _ _ _ :: t, s => Wx i t s
  | .pn p :: t, s => if i = PAN then p s else Wx i t s
  | .opsP _ _ _ _ :: t, s => Wx i t s
end
end

section
variable (P : Program) (G : Nat → Option (List DV)) (fin : St → Prop)
def WE (o : Option Eff) (d : Option Nat) (os : List IOp) (t : List It) (env : List (Nat × LV)) (objs : List (Option LObj)) : Prop := match o with
  | some e => W P G fin (.ops os :: t) ⟨putE d e.r env, updL e.wr objs ++ e.nw.map some⟩
  | none => False
def WED (o : Option Eff) (d : Option Nat) (pre : List Nat) (os : List IOp) (log : List LogE) (t : List It) (env : List (Nat × LV)) (objs : List (Option LObj)) : Prop := match o with
  | some e => W P G fin (.opsD os (log ++ [⟨pre, e.rd, (e.owned objs.length).map (·.1)⟩]) :: t) ⟨putE d e.r env, updL e.wr objs ++ e.nw.map some⟩
  | none => False
def WG (v : LV) (want : Bool) (d : Option Nat) (i : I) (pre : List Nat) (os : List IOp) (t : List It) (env : List (Nat × LV)) (objs : List (Option LObj)) : Prop := match v with
  | .d (.val (.bool b)) => if b = want then W P G fin (.ops (⟨d, i, none, pre⟩ :: os) :: t) ⟨env, objs⟩ else W P G fin (.ops os :: t) ⟨putE d .undef env, objs⟩
  | .d (.val (.tuple _)) => W P G fin (.ops os :: t) ⟨putE d .undef env, objs⟩
  | _ => False
def WGD (v : LV) (want : Bool) (d : Option Nat) (i : I) (pre : List Nat) (os : List IOp) (log : List LogE) (t : List It) (env : List (Nat × LV)) (objs : List (Option LObj)) : Prop := match v with
  | .d (.val (.bool b)) => if b = want then W P G fin (.opsD (⟨d, i, none, pre⟩ :: os) log :: t) ⟨env, objs⟩ else W P G fin (.opsD os (log ++ [⟨pre, [], []⟩]) :: t) ⟨putE d .undef env, objs⟩
  | .d (.val (.tuple _)) => W P G fin (.opsD os (log ++ [⟨pre, [], []⟩]) :: t) ⟨putE d .undef env, objs⟩
  | _ => False
def WC (v : LV) (a b : C) (t : List It) (env : List (Nat × LV)) (objs : List (Option LObj)) : Prop := match v with
  | .d (.val (.bool x)) => if x = true then W P G fin (.c a :: t) ⟨env, objs⟩ else W P G fin (.c b :: t) ⟨env, objs⟩
  | .anyb => W P G fin (.c a :: t) ⟨env, objs⟩ ∧ W P G fin (.c b :: t) ⟨env, objs⟩
  | _ => False
end

section
variable {P : Program} {G : Nat → Option (List DV)} {fin : St → Prop} {t : List It} {s : St} {env : List (Nat × LV)} {objs : List (Option LObj)} {os : List IOp} {log : List LogE}

theorem W_nil : W P G fin [] s = fin s := by simp only [W]
theorem W_seq {a b : C} : W P G fin (.c (.seq a b) :: t) s = W P G fin (.c a :: .c b :: t) s := by simp only [W,vc,Wx]
theorem W_skip : W P G fin (.c .skip :: t) s = W P G fin t s := by simp only [W,vc]
theorem W_ret : W P G fin (.c .ret :: t) s = fin s := by simp only [W,vc]
theorem W_exit {i : Nat} : W P G fin (.c (.exit i) :: t) s = Wx P G fin i t s := by simp only [W,vc]
theorem W_scope {b : C} : W P G fin (.c (.scope b) :: t) s = W P G fin (.c b :: t) s := by simp only [W,vc]
theorem W_block {i : Nat} {b : C} : W P G fin (.c (.block i b) :: t) s = W P G fin (.c b :: .blk i :: t) s := by simp only [W,vc,Wx]
theorem W_blk {i : Nat} : W P G fin (.blk i :: t) s = W P G fin t s := by simp only [W]
theorem W_reg {l : List IOp} : W P G fin (.c (.reg l) :: t) s = W P G fin (.ops l :: t) s := by simp only [W,vc]
theorem W_regD {l : List IOp} : W P G fin (.c (.regD l) :: t) s = W P G fin (.opsD l [] :: t) s := by simp only [W,vc]
theorem W_cond {c : Opd} {a b : C} : W P G fin (.c (.cond c a b) :: t) ⟨env, objs⟩ = WC P G fin (c.ev G (getE env)) a b t env objs := by simp only [W,vc,WC]; rfl
theorem WC_t {a b : C} : WC P G fin (.d (.val (.bool true))) a b t env objs = W P G fin (.c a :: t) ⟨env, objs⟩ := by simp only [WC,if_true]
theorem WC_f {a b : C} : WC P G fin (.d (.val (.bool false))) a b t env objs = W P G fin (.c b :: t) ⟨env, objs⟩ := by simp [WC]
theorem WC_any {a b : C} : WC P G fin .anyb a b t env objs = (W P G fin (.c a :: t) ⟨env, objs⟩ ∧ W P G fin (.c b :: t) ⟨env, objs⟩) := by simp only [WC]
theorem WC_split {x : Bool} {a b : C} (h1 : x = true → W P G fin (.c a :: t) ⟨env, objs⟩) (h2 : x = false → W P G fin (.c b :: t) ⟨env, objs⟩) : WC P G fin (.d (.val (.bool x))) a b t env objs := by
  cases x
  · rw [WC_f]; exact h2 rfl
  · rw [WC_t]; exact h1 rfl
theorem W_lp {ts : List Nat} {m : Nat} {I : Nat → St → Prop} {k : Nat} : W P G fin (.lp ts m I k :: t) s = (∃ j, j < k ∧ ∃ s3, I j s3 ∧ Imp G m s s3) := by simp only [W]
theorem Wx_c {i : Nat} {x : C} : Wx P G fin i (.c x :: t) s = Wx P G fin i t s := by simp only [Wx]
theorem Wx_ops {i : Nat} {x : List IOp} : Wx P G fin i (.ops x :: t) s = Wx P G fin i t s := by simp only [Wx]
theorem Wx_lp {i : Nat} {ts : List Nat} {m : Nat} {I : Nat → St → Prop} {k : Nat} : Wx P G fin i (.lp ts m I k :: t) s = Wx P G fin i t s := by simp only [Wx]
theorem Wx_blk {i j : Nat} : Wx P G fin i (.blk j :: t) s = if i = j then W P G fin t s else Wx P G fin i t s := by simp only [Wx]
theorem W_loop {b : C} (ts : List Nat) (ad : List Ad) (I : Nat → St → Prop) (N : Nat) (h0 : I N { (adopt ad s) with env := ts.map fun t => (t, (adopt ad s).get t) }) (h : ∀ k s', I k s' → W P G fin (.c b :: .lp ts (adopt ad s).objs.length I k :: t) s') : W P G fin (.c (.loop b) :: t) s := by
  simp only [W,vc]
  refine ⟨ts, I, N, ad, h0, fun k s' hk => ?_⟩
  have := h k s' hk
  simp only [W,Wx] at this
  exact this
def LoopI {α : Type} (Inv : α → Prop) (μ : α → Nat) (S : α → St) : Nat → St → Prop := fun m s => ∃ a, Inv a ∧ m = μ a ∧ s = S a
theorem W_loopI {α : Type} {b : C} (ts : List Nat) (ad : List Ad) (Inv : α → Prop) (μ : α → Nat) (S : α → St) (a0 : α) (hS : ({ (adopt ad s) with env := ts.map fun t => (t, (adopt ad s).get t) } : St) = S a0) (h0 : Inv a0)
    (h : ∀ a, Inv a → W P G fin (.c b :: .lp ts (adopt ad s).objs.length (LoopI Inv μ S) (μ a) :: t) (S a)) : W P G fin (.c (.loop b) :: t) s :=
  W_loop ts ad (LoopI Inv μ S) (μ a0) ⟨a0, h0, rfl, hS⟩ (fun k s' ⟨a, h1, h2, h3⟩ => by subst h2; subst h3; exact h a h1)
theorem W_lpI {α : Type} {ts : List Nat} {m : Nat} {Inv : α → Prop} {μ : α → Nat} {S : α → St} {k : Nat} (a' : α) (hok : s.okKeep ts m) (hS : s.keep ts m = S a') (hI : Inv a') (hμ : μ a' < k) : W P G fin (.lp ts m (LoopI Inv μ S) k :: t) s := by
  rw [W_lp]; exact ⟨μ a', hμ, _, ⟨a', hI, rfl, rfl⟩, hS ▸ Imp.keep hok⟩
theorem W_ops_nil : W P G fin (.ops [] :: t) s = W P G fin t s := by simp only [W,vcOps]
theorem W_opsD_q (h : (log.all fun e => e.wr.isEmpty) = true) : W P G fin (.opsD [] log :: t) s = W P G fin t s := by
  simp only [W,vcOpsD,indep,h,Bool.true_or]; exact propext ⟨fun h => h.2, fun h => ⟨trivial, h⟩⟩
theorem W_opsD_end (h : indep log = true) (hk : W P G fin t s) : W P G fin (.opsD [] log :: t) s := by simp only [W,vcOpsD]; exact ⟨h, hk⟩
theorem W_guard {d : Option Nat} {i : I} {g : Nat} {want : Bool} {pre : List Nat} : W P G fin (.ops (⟨d, i, some (g, want), pre⟩ :: os) :: t) ⟨env, objs⟩ = WG P G fin (getE env g) want d i pre os t env objs := by simp only [W,vcOps,vcG,vcE,WG]; rfl
theorem W_guardD {d : Option Nat} {i : I} {g : Nat} {want : Bool} {pre : List Nat} : W P G fin (.opsD (⟨d, i, some (g, want), pre⟩ :: os) log :: t) ⟨env, objs⟩ = WGD P G fin (getE env g) want d i pre os log t env objs := by simp only [W,vcOpsD,vcG,vcE,WGD]; rfl
theorem WG_tt {d : Option Nat} {i : I} {pre : List Nat} : WG P G fin (.d (.val (.bool true))) true d i pre os t env objs = W P G fin (.ops (⟨d, i, none, pre⟩ :: os) :: t) ⟨env, objs⟩ := by simp only [WG,if_true]
theorem WG_ff {d : Option Nat} {i : I} {pre : List Nat} : WG P G fin (.d (.val (.bool false))) false d i pre os t env objs = W P G fin (.ops (⟨d, i, none, pre⟩ :: os) :: t) ⟨env, objs⟩ := by simp only [WG,if_true]
theorem WG_tf {d : Option Nat} {i : I} {pre : List Nat} : WG P G fin (.d (.val (.bool true))) false d i pre os t env objs = W P G fin (.ops os :: t) ⟨putE d .undef env, objs⟩ := by simp [WG]
theorem WG_ft {d : Option Nat} {i : I} {pre : List Nat} : WG P G fin (.d (.val (.bool false))) true d i pre os t env objs = W P G fin (.ops os :: t) ⟨putE d .undef env, objs⟩ := by simp [WG]
theorem WG_u {d : Option Nat} {i : I} {pre : List Nat} {want : Bool} {v : Array Value} : WG P G fin (.d (.val (.tuple v))) want d i pre os t env objs = W P G fin (.ops os :: t) ⟨putE d .undef env, objs⟩ := by simp only [WG]
theorem WG_split {x want : Bool} {d : Option Nat} {i : I} {pre : List Nat} (h1 : x = want → W P G fin (.ops (⟨d, i, none, pre⟩ :: os) :: t) ⟨env, objs⟩) (h2 : x = (!want) → W P G fin (.ops os :: t) ⟨putE d .undef env, objs⟩) : WG P G fin (.d (.val (.bool x))) want d i pre os t env objs := by
  cases x <;> cases want
  · rw [WG_ff]; exact h1 rfl
  · rw [WG_ft]; exact h2 rfl
  · rw [WG_tf]; exact h2 rfl
  · rw [WG_tt]; exact h1 rfl
theorem WGD_tt {d : Option Nat} {i : I} {pre : List Nat} : WGD P G fin (.d (.val (.bool true))) true d i pre os log t env objs = W P G fin (.opsD (⟨d, i, none, pre⟩ :: os) log :: t) ⟨env, objs⟩ := by simp only [WGD,if_true]
theorem WGD_ff {d : Option Nat} {i : I} {pre : List Nat} : WGD P G fin (.d (.val (.bool false))) false d i pre os log t env objs = W P G fin (.opsD (⟨d, i, none, pre⟩ :: os) log :: t) ⟨env, objs⟩ := by simp only [WGD,if_true]
theorem WGD_tf {d : Option Nat} {i : I} {pre : List Nat} : WGD P G fin (.d (.val (.bool true))) false d i pre os log t env objs = W P G fin (.opsD os (log ++ [⟨pre, [], []⟩]) :: t) ⟨putE d .undef env, objs⟩ := by simp [WGD]
theorem WGD_ft {d : Option Nat} {i : I} {pre : List Nat} : WGD P G fin (.d (.val (.bool false))) true d i pre os log t env objs = W P G fin (.opsD os (log ++ [⟨pre, [], []⟩]) :: t) ⟨putE d .undef env, objs⟩ := by simp [WGD]
theorem WGD_u {d : Option Nat} {i : I} {pre : List Nat} {want : Bool} {v : Array Value} : WGD P G fin (.d (.val (.tuple v))) want d i pre os log t env objs = W P G fin (.opsD os (log ++ [⟨pre, [], []⟩]) :: t) ⟨putE d .undef env, objs⟩ := by simp only [WGD]
theorem WGD_split {x want : Bool} {d : Option Nat} {i : I} {pre : List Nat} (h1 : x = want → W P G fin (.opsD (⟨d, i, none, pre⟩ :: os) log :: t) ⟨env, objs⟩) (h2 : x = (!want) → W P G fin (.opsD os (log ++ [⟨pre, [], []⟩]) :: t) ⟨putE d .undef env, objs⟩) : WGD P G fin (.d (.val (.bool x))) want d i pre os log t env objs := by
  cases x <;> cases want
  · rw [WGD_ff]; exact h1 rfl
  · rw [WGD_ft]; exact h2 rfl
  · rw [WGD_tf]; exact h2 rfl
  · rw [WGD_tt]; exact h1 rfl
theorem WG_splitn {x want : Bool} {d : Option Nat} {i : I} {pre : List Nat} (h1 : x = (!want) → W P G fin (.ops (⟨d, i, none, pre⟩ :: os) :: t) ⟨env, objs⟩) (h2 : x = want → W P G fin (.ops os :: t) ⟨putE d .undef env, objs⟩) : WG P G fin (.d (.val (.bool (!x)))) want d i pre os t env objs :=
  WG_split (fun h => h1 (by cases x <;> cases want <;> simp_all)) (fun h => h2 (by cases x <;> cases want <;> simp_all))
theorem WGD_splitn {x want : Bool} {d : Option Nat} {i : I} {pre : List Nat} (h1 : x = (!want) → W P G fin (.opsD (⟨d, i, none, pre⟩ :: os) log :: t) ⟨env, objs⟩) (h2 : x = want → W P G fin (.opsD os (log ++ [⟨pre, [], []⟩]) :: t) ⟨putE d .undef env, objs⟩) : WGD P G fin (.d (.val (.bool (!x)))) want d i pre os log t env objs :=
  WGD_split (fun h => h1 (by cases x <;> cases want <;> simp_all)) (fun h => h2 (by cases x <;> cases want <;> simp_all))
theorem WC_splitn {x : Bool} {a b : C} (h1 : x = false → W P G fin (.c a :: t) ⟨env, objs⟩) (h2 : x = true → W P G fin (.c b :: t) ⟨env, objs⟩) : WC P G fin (.d (.val (.bool (!x)))) a b t env objs :=
  WC_split (fun h => h1 (by simpa using h)) (fun h => h2 (by simpa using h))
theorem WE_some {d : Option Nat} {e : Eff} : WE P G fin (some e) d os t env objs = W P G fin (.ops os :: t) ⟨putE d e.r env, updL e.wr objs ++ e.nw.map some⟩ := by simp only [WE]
theorem WED_some {d : Option Nat} {e : Eff} {pre : List Nat} : WED P G fin (some e) d pre os log t env objs = W P G fin (.opsD os (log ++ [⟨pre, e.rd, (e.owned objs.length).map (·.1)⟩]) :: t) ⟨putE d e.r env, updL e.wr objs ++ e.nw.map some⟩ := by simp only [WED]
theorem W_eff {d : Option Nat} {i : I} {pre : List Nat} (hi : ∀ f as, i ≠ .call f as) : W P G fin (.ops (⟨d, i, none, pre⟩ :: os) :: t) ⟨env, objs⟩ = WE P G fin (effF G (getE env) (objL objs) objs.length i) d os t env objs := by
  simp only [W,vcOps,vcG,vcE,WE]
  cases i <;> first | rfl | exact absurd rfl (hi _ _)
theorem W_effD {d : Option Nat} {i : I} {pre : List Nat} (hi : ∀ f as, i ≠ .call f as) : W P G fin (.opsD (⟨d, i, none, pre⟩ :: os) log :: t) ⟨env, objs⟩ = WED P G fin (effF G (getE env) (objL objs) objs.length i) d pre os log t env objs := by
  simp only [W,vcOpsD,vcG,vcE,WED]
  cases i <;> first | rfl | exact absurd rfl (hi _ _)
theorem W_more {d : Option Nat} {pre : List Nat} {m : M} : W P G fin (.ops (⟨d, .more m, none, pre⟩ :: os) :: t) ⟨env, objs⟩ = WE P G fin (effM G (getE env) (objL objs) objs.length m) d os t env objs := W_eff (by intro f as h; cases h)
theorem WD_more {d : Option Nat} {pre : List Nat} {m : M} : W P G fin (.opsD (⟨d, .more m, none, pre⟩ :: os) log :: t) ⟨env, objs⟩ = WED P G fin (effM G (getE env) (objL objs) objs.length m) d pre os log t env objs := W_effD (by intro f as h; cases h)
theorem W_mv {d : Option Nat} {pre : List Nat} {x : Opd} : W P G fin (.ops (⟨d, .mv x, none, pre⟩ :: os) :: t) ⟨env, objs⟩ = WE P G fin (effF G (getE env) (objL objs) objs.length (.mv x)) d os t env objs := W_eff (by intro f as h; cases h)
theorem WD_mv {d : Option Nat} {pre : List Nat} {x : Opd} : W P G fin (.opsD (⟨d, .mv x, none, pre⟩ :: os) log :: t) ⟨env, objs⟩ = WED P G fin (effF G (getE env) (objL objs) objs.length (.mv x)) d pre os log t env objs := W_effD (by intro f as h; cases h)
theorem W_pick {d : Option Nat} {pre : List Nat} {c : Opd} {x : Opd} {y : Opd} : W P G fin (.ops (⟨d, .pick c x y, none, pre⟩ :: os) :: t) ⟨env, objs⟩ = WE P G fin (effF G (getE env) (objL objs) objs.length (.pick c x y)) d os t env objs := W_eff (by intro f as h; cases h)
theorem WD_pick {d : Option Nat} {pre : List Nat} {c : Opd} {x : Opd} {y : Opd} : W P G fin (.opsD (⟨d, .pick c x y, none, pre⟩ :: os) log :: t) ⟨env, objs⟩ = WED P G fin (effF G (getE env) (objL objs) objs.length (.pick c x y)) d pre os log t env objs := W_effD (by intro f as h; cases h)
theorem W_new {d : Option Nat} {pre : List Nat} {et : TypeId} {row : List DV} : W P G fin (.ops (⟨d, .new et row, none, pre⟩ :: os) :: t) ⟨env, objs⟩ = WE P G fin (effF G (getE env) (objL objs) objs.length (.new et row)) d os t env objs := W_eff (by intro f as h; cases h)
theorem WD_new {d : Option Nat} {pre : List Nat} {et : TypeId} {row : List DV} : W P G fin (.opsD (⟨d, .new et row, none, pre⟩ :: os) log :: t) ⟨env, objs⟩ = WED P G fin (effF G (getE env) (objL objs) objs.length (.new et row)) d pre os log t env objs := W_effD (by intro f as h; cases h)
theorem W_box {d : Option Nat} {pre : List Nat} {et : TypeId} {x : Opd} : W P G fin (.ops (⟨d, .box et x, none, pre⟩ :: os) :: t) ⟨env, objs⟩ = WE P G fin (effF G (getE env) (objL objs) objs.length (.box et x)) d os t env objs := W_eff (by intro f as h; cases h)
theorem WD_box {d : Option Nat} {pre : List Nat} {et : TypeId} {x : Opd} : W P G fin (.opsD (⟨d, .box et x, none, pre⟩ :: os) log :: t) ⟨env, objs⟩ = WED P G fin (effF G (getE env) (objL objs) objs.length (.box et x)) d pre os log t env objs := W_effD (by intro f as h; cases h)
theorem W_build {d : Option Nat} {pre : List Nat} {z : List DV} {ps : List (Nat × Nat × Opd)} : W P G fin (.ops (⟨d, .build z ps, none, pre⟩ :: os) :: t) ⟨env, objs⟩ = WE P G fin (effF G (getE env) (objL objs) objs.length (.build z ps)) d os t env objs := W_eff (by intro f as h; cases h)
theorem WD_build {d : Option Nat} {pre : List Nat} {z : List DV} {ps : List (Nat × Nat × Opd)} : W P G fin (.opsD (⟨d, .build z ps, none, pre⟩ :: os) log :: t) ⟨env, objs⟩ = WED P G fin (effF G (getE env) (objL objs) objs.length (.build z ps)) d pre os log t env objs := W_effD (by intro f as h; cases h)
theorem W_bsl {d : Option Nat} {pre : List Nat} {et : TypeId} {esz : Nat} {ps : List Opd} : W P G fin (.ops (⟨d, .bsl et esz ps, none, pre⟩ :: os) :: t) ⟨env, objs⟩ = WE P G fin (effF G (getE env) (objL objs) objs.length (.bsl et esz ps)) d os t env objs := W_eff (by intro f as h; cases h)
theorem WD_bsl {d : Option Nat} {pre : List Nat} {et : TypeId} {esz : Nat} {ps : List Opd} : W P G fin (.opsD (⟨d, .bsl et esz ps, none, pre⟩ :: os) log :: t) ⟨env, objs⟩ = WED P G fin (effF G (getE env) (objL objs) objs.length (.bsl et esz ps)) d pre os log t env objs := W_effD (by intro f as h; cases h)
theorem W_ld1 {d : Option Nat} {pre : List Nat} {x : Opd} : W P G fin (.ops (⟨d, .ld1 x, none, pre⟩ :: os) :: t) ⟨env, objs⟩ = WE P G fin (effF G (getE env) (objL objs) objs.length (.ld1 x)) d os t env objs := W_eff (by intro f as h; cases h)
theorem WD_ld1 {d : Option Nat} {pre : List Nat} {x : Opd} : W P G fin (.opsD (⟨d, .ld1 x, none, pre⟩ :: os) log :: t) ⟨env, objs⟩ = WED P G fin (effF G (getE env) (objL objs) objs.length (.ld1 x)) d pre os log t env objs := W_effD (by intro f as h; cases h)
theorem W_ldn {d : Option Nat} {pre : List Nat} {n : Nat} {x : Opd} : W P G fin (.ops (⟨d, .ldn n x, none, pre⟩ :: os) :: t) ⟨env, objs⟩ = WE P G fin (effF G (getE env) (objL objs) objs.length (.ldn n x)) d os t env objs := W_eff (by intro f as h; cases h)
theorem WD_ldn {d : Option Nat} {pre : List Nat} {n : Nat} {x : Opd} : W P G fin (.opsD (⟨d, .ldn n x, none, pre⟩ :: os) log :: t) ⟨env, objs⟩ = WED P G fin (effF G (getE env) (objL objs) objs.length (.ldn n x)) d pre os log t env objs := W_effD (by intro f as h; cases h)
theorem W_st {d : Option Nat} {pre : List Nat} {n : Nat} {x : Opd} {y : Opd} : W P G fin (.ops (⟨d, .st n x y, none, pre⟩ :: os) :: t) ⟨env, objs⟩ = WE P G fin (effF G (getE env) (objL objs) objs.length (.st n x y)) d os t env objs := W_eff (by intro f as h; cases h)
theorem WD_st {d : Option Nat} {pre : List Nat} {n : Nat} {x : Opd} {y : Opd} : W P G fin (.opsD (⟨d, .st n x y, none, pre⟩ :: os) log :: t) ⟨env, objs⟩ = WED P G fin (effF G (getE env) (objL objs) objs.length (.st n x y)) d pre os log t env objs := W_effD (by intro f as h; cases h)
theorem W_nck {d : Option Nat} {pre : List Nat} {x : Opd} : W P G fin (.ops (⟨d, .nck x, none, pre⟩ :: os) :: t) ⟨env, objs⟩ = WE P G fin (effF G (getE env) (objL objs) objs.length (.nck x)) d os t env objs := W_eff (by intro f as h; cases h)
theorem WD_nck {d : Option Nat} {pre : List Nat} {x : Opd} : W P G fin (.opsD (⟨d, .nck x, none, pre⟩ :: os) log :: t) ⟨env, objs⟩ = WED P G fin (effF G (getE env) (objL objs) objs.length (.nck x)) d pre os log t env objs := W_effD (by intro f as h; cases h)
theorem W_bin {d : Option Nat} {pre : List Nat} {op : BinOp} {x : Opd} {y : Opd} : W P G fin (.ops (⟨d, .bin op x y, none, pre⟩ :: os) :: t) ⟨env, objs⟩ = WE P G fin (effF G (getE env) (objL objs) objs.length (.bin op x y)) d os t env objs := W_eff (by intro f as h; cases h)
theorem WD_bin {d : Option Nat} {pre : List Nat} {op : BinOp} {x : Opd} {y : Opd} : W P G fin (.opsD (⟨d, .bin op x y, none, pre⟩ :: os) log :: t) ⟨env, objs⟩ = WED P G fin (effF G (getE env) (objL objs) objs.length (.bin op x y)) d pre os log t env objs := W_effD (by intro f as h; cases h)
theorem W_eqb {d : Option Nat} {pre : List Nat} {ng : Bool} {x : Opd} {y : Opd} : W P G fin (.ops (⟨d, .eqb ng x y, none, pre⟩ :: os) :: t) ⟨env, objs⟩ = WE P G fin (effF G (getE env) (objL objs) objs.length (.eqb ng x y)) d os t env objs := W_eff (by intro f as h; cases h)
theorem WD_eqb {d : Option Nat} {pre : List Nat} {ng : Bool} {x : Opd} {y : Opd} : W P G fin (.opsD (⟨d, .eqb ng x y, none, pre⟩ :: os) log :: t) ⟨env, objs⟩ = WED P G fin (effF G (getE env) (objL objs) objs.length (.eqb ng x y)) d pre os log t env objs := W_effD (by intro f as h; cases h)
theorem W_not {d : Option Nat} {pre : List Nat} {x : Opd} : W P G fin (.ops (⟨d, .not x, none, pre⟩ :: os) :: t) ⟨env, objs⟩ = WE P G fin (effF G (getE env) (objL objs) objs.length (.not x)) d os t env objs := W_eff (by intro f as h; cases h)
theorem WD_not {d : Option Nat} {pre : List Nat} {x : Opd} : W P G fin (.opsD (⟨d, .not x, none, pre⟩ :: os) log :: t) ⟨env, objs⟩ = WED P G fin (effF G (getE env) (objL objs) objs.length (.not x)) d pre os log t env objs := W_effD (by intro f as h; cases h)
theorem W_cvt {d : Option Nat} {pre : List Nat} {k : IntKind} {x : Opd} : W P G fin (.ops (⟨d, .cvt k x, none, pre⟩ :: os) :: t) ⟨env, objs⟩ = WE P G fin (effF G (getE env) (objL objs) objs.length (.cvt k x)) d os t env objs := W_eff (by intro f as h; cases h)
theorem WD_cvt {d : Option Nat} {pre : List Nat} {k : IntKind} {x : Opd} : W P G fin (.opsD (⟨d, .cvt k x, none, pre⟩ :: os) log :: t) ⟨env, objs⟩ = WED P G fin (effF G (getE env) (objL objs) objs.length (.cvt k x)) d pre os log t env objs := W_effD (by intro f as h; cases h)
theorem W_fad {d : Option Nat} {pre : List Nat} {n : Nat} {x : Opd} : W P G fin (.ops (⟨d, .fad n x, none, pre⟩ :: os) :: t) ⟨env, objs⟩ = WE P G fin (effF G (getE env) (objL objs) objs.length (.fad n x)) d os t env objs := W_eff (by intro f as h; cases h)
theorem WD_fad {d : Option Nat} {pre : List Nat} {n : Nat} {x : Opd} : W P G fin (.opsD (⟨d, .fad n x, none, pre⟩ :: os) log :: t) ⟨env, objs⟩ = WED P G fin (effF G (getE env) (objL objs) objs.length (.fad n x)) d pre os log t env objs := W_effD (by intro f as h; cases h)
theorem W_fld1 {d : Option Nat} {pre : List Nat} {n : Nat} {x : Opd} : W P G fin (.ops (⟨d, .fld1 n x, none, pre⟩ :: os) :: t) ⟨env, objs⟩ = WE P G fin (effF G (getE env) (objL objs) objs.length (.fld1 n x)) d os t env objs := W_eff (by intro f as h; cases h)
theorem WD_fld1 {d : Option Nat} {pre : List Nat} {n : Nat} {x : Opd} : W P G fin (.opsD (⟨d, .fld1 n x, none, pre⟩ :: os) log :: t) ⟨env, objs⟩ = WED P G fin (effF G (getE env) (objL objs) objs.length (.fld1 n x)) d pre os log t env objs := W_effD (by intro f as h; cases h)
theorem W_fldn {d : Option Nat} {pre : List Nat} {n : Nat} {m : Nat} {x : Opd} : W P G fin (.ops (⟨d, .fldn n m x, none, pre⟩ :: os) :: t) ⟨env, objs⟩ = WE P G fin (effF G (getE env) (objL objs) objs.length (.fldn n m x)) d os t env objs := W_eff (by intro f as h; cases h)
theorem WD_fldn {d : Option Nat} {pre : List Nat} {n : Nat} {m : Nat} {x : Opd} : W P G fin (.opsD (⟨d, .fldn n m x, none, pre⟩ :: os) log :: t) ⟨env, objs⟩ = WED P G fin (effF G (getE env) (objL objs) objs.length (.fldn n m x)) d pre os log t env objs := W_effD (by intro f as h; cases h)
theorem W_ixa {d : Option Nat} {pre : List Nat} {n : Nat} {x : Opd} {i : Opd} : W P G fin (.ops (⟨d, .ixa n x i, none, pre⟩ :: os) :: t) ⟨env, objs⟩ = WE P G fin (effF G (getE env) (objL objs) objs.length (.ixa n x i)) d os t env objs := W_eff (by intro f as h; cases h)
theorem WD_ixa {d : Option Nat} {pre : List Nat} {n : Nat} {x : Opd} {i : Opd} : W P G fin (.opsD (⟨d, .ixa n x i, none, pre⟩ :: os) log :: t) ⟨env, objs⟩ = WED P G fin (effF G (getE env) (objL objs) objs.length (.ixa n x i)) d pre os log t env objs := W_effD (by intro f as h; cases h)
theorem W_ixr {d : Option Nat} {pre : List Nat} {n : Nat} {m : Nat} {x : Opd} {i : Opd} : W P G fin (.ops (⟨d, .ixr n m x i, none, pre⟩ :: os) :: t) ⟨env, objs⟩ = WE P G fin (effF G (getE env) (objL objs) objs.length (.ixr n m x i)) d os t env objs := W_eff (by intro f as h; cases h)
theorem WD_ixr {d : Option Nat} {pre : List Nat} {n : Nat} {m : Nat} {x : Opd} {i : Opd} : W P G fin (.opsD (⟨d, .ixr n m x i, none, pre⟩ :: os) log :: t) ⟨env, objs⟩ = WED P G fin (effF G (getE env) (objL objs) objs.length (.ixr n m x i)) d pre os log t env objs := W_effD (by intro f as h; cases h)
theorem W_ix1 {d : Option Nat} {pre : List Nat} {n : Nat} {x : Opd} {i : Opd} : W P G fin (.ops (⟨d, .ix1 n x i, none, pre⟩ :: os) :: t) ⟨env, objs⟩ = WE P G fin (effF G (getE env) (objL objs) objs.length (.ix1 n x i)) d os t env objs := W_eff (by intro f as h; cases h)
theorem WD_ix1 {d : Option Nat} {pre : List Nat} {n : Nat} {x : Opd} {i : Opd} : W P G fin (.opsD (⟨d, .ix1 n x i, none, pre⟩ :: os) log :: t) ⟨env, objs⟩ = WED P G fin (effF G (getE env) (objL objs) objs.length (.ix1 n x i)) d pre os log t env objs := W_effD (by intro f as h; cases h)
theorem W_ixs {d : Option Nat} {pre : List Nat} {x : Opd} {i : Opd} : W P G fin (.ops (⟨d, .ixs x i, none, pre⟩ :: os) :: t) ⟨env, objs⟩ = WE P G fin (effF G (getE env) (objL objs) objs.length (.ixs x i)) d os t env objs := W_eff (by intro f as h; cases h)
theorem WD_ixs {d : Option Nat} {pre : List Nat} {x : Opd} {i : Opd} : W P G fin (.opsD (⟨d, .ixs x i, none, pre⟩ :: os) log :: t) ⟨env, objs⟩ = WED P G fin (effF G (getE env) (objL objs) objs.length (.ixs x i)) d pre os log t env objs := W_effD (by intro f as h; cases h)
theorem W_len {d : Option Nat} {pre : List Nat} {x : Opd} : W P G fin (.ops (⟨d, .len x, none, pre⟩ :: os) :: t) ⟨env, objs⟩ = WE P G fin (effF G (getE env) (objL objs) objs.length (.len x)) d os t env objs := W_eff (by intro f as h; cases h)
theorem WD_len {d : Option Nat} {pre : List Nat} {x : Opd} : W P G fin (.opsD (⟨d, .len x, none, pre⟩ :: os) log :: t) ⟨env, objs⟩ = WED P G fin (effF G (getE env) (objL objs) objs.length (.len x)) d pre os log t env objs := W_effD (by intro f as h; cases h)
theorem W_lens {d : Option Nat} {pre : List Nat} {x : Opd} : W P G fin (.ops (⟨d, .lens x, none, pre⟩ :: os) :: t) ⟨env, objs⟩ = WE P G fin (effF G (getE env) (objL objs) objs.length (.lens x)) d os t env objs := W_eff (by intro f as h; cases h)
theorem WD_lens {d : Option Nat} {pre : List Nat} {x : Opd} : W P G fin (.opsD (⟨d, .lens x, none, pre⟩ :: os) log :: t) ⟨env, objs⟩ = WED P G fin (effF G (getE env) (objL objs) objs.length (.lens x)) d pre os log t env objs := W_effD (by intro f as h; cases h)
theorem W_mkf {d : Option Nat} {pre : List Nat} {fn : Fn} {a : List Opd} {b : List Opd} : W P G fin (.ops (⟨d, .mkf fn a b, none, pre⟩ :: os) :: t) ⟨env, objs⟩ = WE P G fin (effF G (getE env) (objL objs) objs.length (.mkf fn a b)) d os t env objs := W_eff (by intro f as h; cases h)
theorem WD_mkf {d : Option Nat} {pre : List Nat} {fn : Fn} {a : List Opd} {b : List Opd} : W P G fin (.opsD (⟨d, .mkf fn a b, none, pre⟩ :: os) log :: t) ⟨env, objs⟩ = WED P G fin (effF G (getE env) (objL objs) objs.length (.mkf fn a b)) d pre os log t env objs := W_effD (by intro f as h; cases h)
theorem W_ext {d : Option Nat} {pre : List Nat} {x : Opd} {n : Nat} : W P G fin (.ops (⟨d, .ext x n, none, pre⟩ :: os) :: t) ⟨env, objs⟩ = WE P G fin (effF G (getE env) (objL objs) objs.length (.ext x n)) d os t env objs := W_eff (by intro f as h; cases h)
theorem WD_ext {d : Option Nat} {pre : List Nat} {x : Opd} {n : Nat} : W P G fin (.opsD (⟨d, .ext x n, none, pre⟩ :: os) log :: t) ⟨env, objs⟩ = WED P G fin (effF G (getE env) (objL objs) objs.length (.ext x n)) d pre os log t env objs := W_effD (by intro f as h; cases h)
theorem W_app {d : Option Nat} {pre : List Nat} {et : TypeId} {n : Nat} {m : Nat} {x : Opd} {y : Opd} : W P G fin (.ops (⟨d, .app et n m x y, none, pre⟩ :: os) :: t) ⟨env, objs⟩ = WE P G fin (effF G (getE env) (objL objs) objs.length (.app et n m x y)) d os t env objs := W_eff (by intro f as h; cases h)
theorem WD_app {d : Option Nat} {pre : List Nat} {et : TypeId} {n : Nat} {m : Nat} {x : Opd} {y : Opd} : W P G fin (.opsD (⟨d, .app et n m x y, none, pre⟩ :: os) log :: t) ⟨env, objs⟩ = WED P G fin (effF G (getE env) (objL objs) objs.length (.app et n m x y)) d pre os log t env objs := W_effD (by intro f as h; cases h)
theorem W_min {d : Option Nat} {pre : List Nat} {x : Opd} {y : Opd} : W P G fin (.ops (⟨d, .min x y, none, pre⟩ :: os) :: t) ⟨env, objs⟩ = WE P G fin (effF G (getE env) (objL objs) objs.length (.min x y)) d os t env objs := W_eff (by intro f as h; cases h)
theorem WD_min {d : Option Nat} {pre : List Nat} {x : Opd} {y : Opd} : W P G fin (.opsD (⟨d, .min x y, none, pre⟩ :: os) log :: t) ⟨env, objs⟩ = WED P G fin (effF G (getE env) (objL objs) objs.length (.min x y)) d pre os log t env objs := W_effD (by intro f as h; cases h)
theorem W_max {d : Option Nat} {pre : List Nat} {x : Opd} {y : Opd} : W P G fin (.ops (⟨d, .max x y, none, pre⟩ :: os) :: t) ⟨env, objs⟩ = WE P G fin (effF G (getE env) (objL objs) objs.length (.max x y)) d os t env objs := W_eff (by intro f as h; cases h)
theorem WD_max {d : Option Nat} {pre : List Nat} {x : Opd} {y : Opd} : W P G fin (.opsD (⟨d, .max x y, none, pre⟩ :: os) log :: t) ⟨env, objs⟩ = WED P G fin (effF G (getE env) (objL objs) objs.length (.max x y)) d pre os log t env objs := W_effD (by intro f as h; cases h)
theorem W_isnp {d : Option Nat} {pre : List Nat} {ng : Bool} {x : Opd} : W P G fin (.ops (⟨d, .isnp ng x, none, pre⟩ :: os) :: t) ⟨env, objs⟩ = WE P G fin (effF G (getE env) (objL objs) objs.length (.isnp ng x)) d os t env objs := W_eff (by intro f as h; cases h)
theorem WD_isnp {d : Option Nat} {pre : List Nat} {ng : Bool} {x : Opd} : W P G fin (.opsD (⟨d, .isnp ng x, none, pre⟩ :: os) log :: t) ⟨env, objs⟩ = WED P G fin (effF G (getE env) (objL objs) objs.length (.isnp ng x)) d pre os log t env objs := W_effD (by intro f as h; cases h)
theorem W_isns {d : Option Nat} {pre : List Nat} {ng : Bool} {x : Opd} : W P G fin (.ops (⟨d, .isns ng x, none, pre⟩ :: os) :: t) ⟨env, objs⟩ = WE P G fin (effF G (getE env) (objL objs) objs.length (.isns ng x)) d os t env objs := W_eff (by intro f as h; cases h)
theorem WD_isns {d : Option Nat} {pre : List Nat} {ng : Bool} {x : Opd} : W P G fin (.opsD (⟨d, .isns ng x, none, pre⟩ :: os) log :: t) ⟨env, objs⟩ = WED P G fin (effF G (getE env) (objL objs) objs.length (.isns ng x)) d pre os log t env objs := W_effD (by intro f as h; cases h)
theorem W_eqs {d : Option Nat} {pre : List Nat} {ng : Bool} {ks : List Nat} {x : Opd} {y : Opd} : W P G fin (.ops (⟨d, .eqs ng ks x y, none, pre⟩ :: os) :: t) ⟨env, objs⟩ = WE P G fin (effF G (getE env) (objL objs) objs.length (.eqs ng ks x y)) d os t env objs := W_eff (by intro f as h; cases h)
theorem WD_eqs {d : Option Nat} {pre : List Nat} {ng : Bool} {ks : List Nat} {x : Opd} {y : Opd} : W P G fin (.opsD (⟨d, .eqs ng ks x y, none, pre⟩ :: os) log :: t) ⟨env, objs⟩ = WED P G fin (effF G (getE env) (objL objs) objs.length (.eqs ng ks x y)) d pre os log t env objs := W_effD (by intro f as h; cases h)
theorem W_neg {d : Option Nat} {pre : List Nat} {x : Opd} : W P G fin (.ops (⟨d, .neg x, none, pre⟩ :: os) :: t) ⟨env, objs⟩ = WE P G fin (effF G (getE env) (objL objs) objs.length (.neg x)) d os t env objs := W_eff (by intro f as h; cases h)
theorem WD_neg {d : Option Nat} {pre : List Nat} {x : Opd} : W P G fin (.opsD (⟨d, .neg x, none, pre⟩ :: os) log :: t) ⟨env, objs⟩ = WED P G fin (effF G (getE env) (objL objs) objs.length (.neg x)) d pre os log t env objs := W_effD (by intro f as h; cases h)
theorem W_ixn {d : Option Nat} {pre : List Nat} {n : Nat} {m : Nat} {x : Opd} {i : Opd} : W P G fin (.ops (⟨d, .ixn n m x i, none, pre⟩ :: os) :: t) ⟨env, objs⟩ = WE P G fin (effF G (getE env) (objL objs) objs.length (.ixn n m x i)) d os t env objs := W_eff (by intro f as h; cases h)
theorem WD_ixn {d : Option Nat} {pre : List Nat} {n : Nat} {m : Nat} {x : Opd} {i : Opd} : W P G fin (.opsD (⟨d, .ixn n m x i, none, pre⟩ :: os) log :: t) ⟨env, objs⟩ = WED P G fin (effF G (getE env) (objL objs) objs.length (.ixn n m x i)) d pre os log t env objs := W_effD (by intro f as h; cases h)
theorem W_sli {d : Option Nat} {pre : List Nat} {esz : Nat} {x : Opd} {lo : Option Opd} {hi : Option Opd} {mx : Option Opd} : W P G fin (.ops (⟨d, .sli esz x lo hi mx, none, pre⟩ :: os) :: t) ⟨env, objs⟩ = WE P G fin (effF G (getE env) (objL objs) objs.length (.sli esz x lo hi mx)) d os t env objs := W_eff (by intro f as h; cases h)
theorem WD_sli {d : Option Nat} {pre : List Nat} {esz : Nat} {x : Opd} {lo : Option Opd} {hi : Option Opd} {mx : Option Opd} : W P G fin (.opsD (⟨d, .sli esz x lo hi mx, none, pre⟩ :: os) log :: t) ⟨env, objs⟩ = WED P G fin (effF G (getE env) (objL objs) objs.length (.sli esz x lo hi mx)) d pre os log t env objs := W_effD (by intro f as h; cases h)
theorem W_sls {d : Option Nat} {pre : List Nat} {x : Opd} {lo : Option Opd} {hi : Option Opd} : W P G fin (.ops (⟨d, .sls x lo hi, none, pre⟩ :: os) :: t) ⟨env, objs⟩ = WE P G fin (effF G (getE env) (objL objs) objs.length (.sls x lo hi)) d os t env objs := W_eff (by intro f as h; cases h)
theorem WD_sls {d : Option Nat} {pre : List Nat} {x : Opd} {lo : Option Opd} {hi : Option Opd} : W P G fin (.opsD (⟨d, .sls x lo hi, none, pre⟩ :: os) log :: t) ⟨env, objs⟩ = WED P G fin (effF G (getE env) (objL objs) objs.length (.sls x lo hi)) d pre os log t env objs := W_effD (by intro f as h; cases h)
end


section
variable {P : Program} {G : Nat → Option (List DV)}
theorem vcE_mono {X X' : Value → Eff → St → Prop} {o : IOp} {s : St} {K K' : St → Eff → Prop} (hX : ∀ v e s, X v e s → X' v e s) (h : ∀ s e, K s e → K' s e) (hv : vcE P G X o s K) : vcE P G X' o s K' := by
  unfold vcE at hv ⊢
  split at hv
  · split at hv
    · rcases hv with ⟨e, h1, h2⟩ | ⟨p, e, h1, h2⟩
      · exact .inl ⟨e, h1, h _ _ h2⟩
      · exact .inr ⟨p, e, h1, hX _ _ _ h2⟩
    · exact hv
  · split at hv
    · exact h _ _ hv
    · exact hv
theorem vcG_mono {X X' : Value → Eff → St → Prop} {o : IOp} {s : St} {K K' : St → Eff → Prop} {K0 K0' : St → Prop} (hX : ∀ v e s, X v e s → X' v e s) (h : ∀ s e, K s e → K' s e) (h0 : ∀ s, K0 s → K0' s) (hv : vcG P G X o s K K0) : vcG P G X' o s K' K0' := by
  unfold vcG at hv ⊢
  split at hv
  · exact vcE_mono hX h hv
  · split at hv
    · split at hv
      · rename_i hb; rw [if_pos hb]; exact vcE_mono hX h hv
      · rename_i hb; rw [if_neg hb]; exact h0 _ hv
    · exact h0 _ hv
    · exact hv
theorem vcOps_mono {X X' : Value → St → Prop} {K K' : St → Prop} (hX : ∀ v s, X v s → X' v s) (h : ∀ s, K s → K' s) : ∀ (os : List IOp) (s : St), vcOps P G X os s K → vcOps P G X' os s K'
  | [], s, hv => h s hv
  | o :: os, s, hv => by
    simp only [vcOps] at hv ⊢
    exact vcG_mono (fun v _ s hk => hX v s hk) (fun s e hk => vcOps_mono hX h os s hk) (fun s hk => vcOps_mono hX h os s hk) hv
theorem vcOpsD_mono {X X' : Value → St → Prop} {K K' : St → List LogE → Prop} (hX : ∀ v s, X v s → X' v s) (h : ∀ s l, K s l → K' s l) : ∀ (os : List IOp) (s : St) (log : List LogE), vcOpsD P G X os s log K → vcOpsD P G X' os s log K'
  | [], s, log, hv => h s log hv
  | o :: os, s, log, hv => by
    simp only [vcOpsD] at hv ⊢
    exact vcG_mono (fun v _ s hk => ⟨hX v _ hk.1, hk.2⟩) (fun s e hk => vcOpsD_mono hX h os s _ hk) (fun s hk => vcOpsD_mono hX h os s _ hk) hv
theorem vc_mono : ∀ (c : C) (s : St) (K K' : Kont), (∀ s, K.n s → K'.n s) → (∀ i s, K.x i s → K'.x i s) → (∀ s, K.r s → K'.r s) → vc P G c s K → vc P G c s K'
  | .skip, s, K, K', hn, hx, hr, h => hn s h
  | .reg ops, s, K, K', hn, hx, hr, h => vcOps_mono (fun v s h => hx _ _ h) hn ops s h
  | .regD ops, s, K, K', hn, hx, hr, h => vcOpsD_mono (fun v s h => hx _ _ h) (fun s l ⟨h1, h2⟩ => ⟨h1, hn s h2⟩) ops s [] h
  | .seq a b, s, K, K', hn, hx, hr, h => vc_mono a s { K with n := fun s' => vc P G b s' K } { K' with n := fun s' => vc P G b s' K' } (fun s h => vc_mono b s K K' hn hx hr h) hx hr h
  | .cond c a b, s, K, K', hn, hx, hr, h => by
    simp only [vc] at h ⊢
    split at h
    · split at h
      · rename_i hb; rw [if_pos hb]; exact vc_mono a s K K' hn hx hr h
      · rename_i hb; rw [if_neg hb]; exact vc_mono b s K K' hn hx hr h
    · exact ⟨vc_mono a s K K' hn hx hr h.1, vc_mono b s K K' hn hx hr h.2⟩
    · exact h
  | .block i b, s, K, K', hn, hx, hr, h => vc_mono b s { K with x := fun j s' => if j = i then K.n s' else K.x j s' } { K' with x := fun j s' => if j = i then K'.n s' else K'.x j s' } hn (fun j s h => by
      dsimp only at h ⊢
      split at h
      · rename_i hb; rw [if_pos hb]; exact hn s h
      · rename_i hb; rw [if_neg hb]; exact hx j s h) hr h
  | .loop b, s, K, K', hn, hx, hr, h => by
    simp only [vc] at h ⊢
    obtain ⟨ts, I, N, ad, h0, h1⟩ := h
    exact ⟨ts, I, N, ad, h0, fun k s' hk => vc_mono b s' { K with n := fun s'' => ∃ j, j < k ∧ ∃ s3, I j s3 ∧ Imp G (adopt ad s).objs.length s'' s3 } { K' with n := fun s'' => ∃ j, j < k ∧ ∃ s3, I j s3 ∧ Imp G (adopt ad s).objs.length s'' s3 } (fun s h => h) hx hr (h1 k s' hk)⟩
  | .exit i, s, K, K', hn, hx, hr, h => hx i s h
  | .ret, s, K, K', hn, hx, hr, h => hr s h
  | .scope b, s, K, K', hn, hx, hr, h => vc_mono b s K K' hn hx hr h
end


section
variable {P : Program} {G : Nat → Option (List DV)} {fin : St → Prop} {t : List It} {env : List (Nat × LV)} {objs : List (Option LObj)} {os : List IOp} {log : List LogE}
theorem W_call {d : Option Nat} {f : Opd} {as : List Opd} {pre : List Nat} {k : Nat} {fs cs : List LV} (e : Eff) (hc : callee (f.ev G (getE env)) = some (k, fs, cs)) (h : CallEff P G k (fs ++ as.map (·.ev G (getE env)) ++ cs) (objL objs) objs.length e)
    (hk : W P G fin (.ops os :: t) ⟨putE d e.r env, updL e.wr objs ++ e.nw.map some⟩) : W P G fin (.ops (⟨d, .call f as, none, pre⟩ :: os) :: t) ⟨env, objs⟩ := by
  simp only [W,vcOps,vcG,vcE]
  have hc' : callee (f.ev G (St.get ⟨env, objs⟩)) = some (k, fs, cs) := hc
  rw [hc']
  simp only [W] at hk
  exact .inl ⟨e, h, hk⟩
theorem WD_call {d : Option Nat} {f : Opd} {as : List Opd} {pre : List Nat} {k : Nat} {fs cs : List LV} (e : Eff) (hc : callee (f.ev G (getE env)) = some (k, fs, cs)) (h : CallEff P G k (fs ++ as.map (·.ev G (getE env)) ++ cs) (objL objs) objs.length e)
    (hk : W P G fin (.opsD os (log ++ [⟨pre, e.rd, (e.owned objs.length).map (·.1)⟩]) :: t) ⟨putE d e.r env, updL e.wr objs ++ e.nw.map some⟩) : W P G fin (.opsD (⟨d, .call f as, none, pre⟩ :: os) log :: t) ⟨env, objs⟩ := by
  simp only [W,vcOpsD,vcG,vcE]
  have hc' : callee (f.ev G (St.get ⟨env, objs⟩)) = some (k, fs, cs) := hc
  rw [hc']
  simp only [W] at hk
  exact .inl ⟨e, h, hk⟩

theorem CallEff.pure {k : Nat} {args fargs : List LV} {obj : Nat → OSt} {base : Nat} {r : LV} (Z : List Nat) (hT : Tri P G k fargs [] r []) (ha : argRs obj [] Z args fargs) (hZ : ∀ z ∈ Z, ∃ et e rows, obj z = .live (.dat et e rows) ∨ obj z = .live (.frz et e rows)) (hr : noJ r = true) :
    CallEff P G k args obj base { r := rn (piOf [] base) r, rd := Z, wr := [], nw := [] } :=
  ⟨⟨[], Z, true, fargs, [], r, [], List.nodup_nil, (fun _ _ h => by cases h), hZ, rfl, (fun i o h => by simp at h), rfl, ha, (fun _ => ⟨hr, rfl, rfl⟩), Nat.le_refl _, hT, rfl⟩⟩
theorem CallEff.data {k : Nat} {args fargs : List LV} {obj : Nat → OSt} {base : Nat} {r : LV} {fobjs' : List LObj} (hT : Tri P G k fargs [] r fobjs') (ha : argRs obj [] [] args fargs) :
    CallEff P G k args obj base { r := rn (piOf [] base) r, rd := [], wr := [], nw := fobjs'.map (rnO (piOf [] base)) } :=
  ⟨⟨[], [], false, fargs, [], r, fobjs', List.nodup_nil, (fun _ h => by cases h), (fun _ h => by cases h), rfl, (fun i o h => by simp at h), rfl, ha, (fun h => by cases h), Nat.zero_le _, hT, rfl⟩⟩

def Ends0 (rv : List RV) (r : LV) (s : St) : Prop := (match RVs.of s rv with | some vs => some (oneOr vs) | none => none) = some r
theorem CallEff.hand {k : Nat} {args fargs : List LV} {obj : Nat → OSt} {base : Nat} {r : LV} {fobjs fobjs' : List LObj} (ρ : List Nat) (hT : Tri P G k fargs fobjs r fobjs') (ha : argRs obj ρ [] args fargs) (hnd : ρ.Nodup) (ho : ρ.map obj = fobjs.map (fun ob => OSt.live (rnO (piOf ρ base) ob))) (hid : fobjs.all (idlO ρ.length) = true) (hle : fobjs.length ≤ fobjs'.length) :
    CallEff P G k args obj base { r := rn (piOf ρ base) r, rd := ρ, wr := ρ.zip (fobjs'.map (rnO (piOf ρ base))), nw := (fobjs'.drop ρ.length).map (rnO (piOf ρ base)) } :=
  ⟨⟨ρ, [], false, fargs, fobjs, r, fobjs', hnd, (fun _ h => by cases h), (fun _ h => by cases h), by have := congrArg List.length ho; simpa using this.symm, (fun i o hi => by
    have h1 : (ρ.map obj)[i]? = some (obj o) := by rw [List.getElem?_map, hi]; rfl
    rw [ho, List.getElem?_map] at h1
    cases hf : fobjs[i]? with
    | none => rw [hf] at h1; cases h1
    | some ob => rw [hf] at h1; simp at h1; exact ⟨ob, rfl, h1.symm⟩), hid, ha, (fun h => by cases h), hle, hT, by simp [frzs]⟩⟩
theorem CallEff.frz {k : Nat} {args fargs : List LV} {obj : Nat → OSt} {base : Nat} {r : LV} (Z : List Nat) (hT : Tri P G k fargs [] r []) (ha : argRs obj [] Z args fargs) (hZ : ∀ z ∈ Z, ∃ et e rows, obj z = .live (.dat et e rows) ∨ obj z = .live (.frz et e rows)) :
    CallEff P G k args obj base { r := rn (piOf [] base) r, rd := Z, wr := frzs obj Z, nw := [] } :=
  ⟨⟨[], Z, false, fargs, [], r, [], List.nodup_nil, (fun _ _ h => by cases h), hZ, rfl, (fun i o h => by simp at h), rfl, ha, (fun h => by cases h), Nat.le_refl _, hT, rfl⟩⟩
theorem Back0 {rv : List RV} {r : LV} {s : St} {vs : List LV} (h : RVs.of s rv = some vs) (hr : argR s.obj [] [] (oneOr vs) r) : Back rv 0 r [] s :=
  ⟨[], vs, [], [], h, rfl, List.nodup_nil, (fun _ h => by cases h), (fun _ h => by cases h), rfl, (fun i o h => by simp at h), rfl, hr⟩

theorem BackZ {rv : List RV} {r : LV} {s : St} {vs : List LV} (Z : List Nat) (h : RVs.of s rv = some vs) (hZ : ∀ z ∈ Z, ∃ et e rows, s.obj z = .live (.dat et e rows) ∨ s.obj z = .live (.frz et e rows)) (hr : argR s.obj [] Z (oneOr vs) r) : Back rv 0 r [] s :=
  ⟨[], vs, [], Z, h, rfl, List.nodup_nil, (fun _ _ h => by cases h), hZ, rfl, (fun i o h => by simp at h), rfl, hr⟩
theorem BackO {rv : List RV} {s : St} {o et e n k lo : Nat} {rows : List (List DV)} (ad : List Ad) (h : RVs.of (adopt ad s) rv = some [.sl o n e lo k]) (ho : (adopt ad s).obj o = .live (.dat et e rows)) : Back rv 0 (.sl 0 n e lo k) [.dat et e rows] s :=
  ⟨ad, _, [o], [], h, rfl, (by simp), (fun _ h => by cases h), (fun _ h => by cases h), rfl, (fun i o' h => by
    cases i with
    | zero => simp at h; subst h; exact ⟨_, rfl, ho⟩
    | succ i => simp at h), rfl, by simp [oneOr,argR]⟩
theorem BackR {rv : List RV} {r : LV} {s : St} {vs : List LV} {k : Nat} {fobjs' : List LObj} (ad : List Ad) (ρ Z : List Nat) (h : RVs.of (adopt ad s) rv = some vs) (hk : ρ.take k = List.range k) (hnd : ρ.Nodup) (hz : ∀ z ∈ Z, z ∉ ρ) (hZ : ∀ z ∈ Z, ∃ et e rows, (adopt ad s).obj z = .live (.dat et e rows) ∨ (adopt ad s).obj z = .live (.frz et e rows))
    (ho : ρ.map (adopt ad s).obj = fobjs'.map (fun ob => OSt.live (rnO (piOf ρ 0) ob))) (hid : fobjs'.all (idlO ρ.length) = true) (hr : argR (adopt ad s).obj ρ Z (oneOr vs) r) : Back rv k r fobjs' s :=
  ⟨ad, vs, ρ, Z, h, hk, hnd, hz, hZ, by have := congrArg List.length ho; simpa using this.symm, (fun i o hi => by
    have h1 : (ρ.map (adopt ad s).obj)[i]? = some ((adopt ad s).obj o) := by rw [List.getElem?_map, hi]; rfl
    rw [ho, List.getElem?_map] at h1
    cases hf : fobjs'[i]? with
    | none => rw [hf] at h1; cases h1
    | some ob => rw [hf] at h1; simp at h1; exact ⟨ob, rfl, h1.symm⟩), hid, hr⟩
theorem get_map {α β : Type} {f : α → β} {l : List α} {k : Nat} (h : k < l.length) : (l.map f)[k]? = some (f l[k]) := by simp [h]
theorem get_mapD {α β : Type} {f : α → β} {l : List α} {k : Nat} (z : α) (h : k < l.length) : (l.map f)[k]? = some (f (l.getD k z)) := by simp [h,List.getD]
theorem lt_of_dec {k n : Nat} (h : decide ((k : Int) < (n : Int)) = true) : k < n := by simpa using h
theorem eq_of_dec {k n : Nat} (h : decide ((k : Int) < (n : Int)) = false) (hk : k ≤ n) : k = n := by
  have : ¬ (k < n) := by simpa using h
  omega
@[reducible] def i64 (n : Int) : DV := .val (.int .i64 n)
@[reducible] def bl (b : Bool) : DV := .val (.bool b)
theorem wrap_in {n : Int} (h1 : -9223372036854775808 ≤ n) (h2 : n ≤ 9223372036854775807) : IntKind.i64.wrap n = n := by
  simp [IntKind.wrap,IntKind.bits,IntKind.signed]; omega
theorem wrap_succ {k : Nat} (h : k < 9223372036854775807) : IntKind.i64.wrap ((k : Int) + 1) = ((k + 1 : Nat) : Int) := by
  rw [wrap_in (by omega) (by omega)]; rfl

/-- A FUNCTION KEEPS ITS CONTRACT, if its walk goes through. -/
theorem tri_W {f : Nat} {fn : Func} {ir : Nat × C × List RV} {args : List LV} {fobjs fobjs' : List LObj} {r : LV} (hf : P.funcs[f]? = some fn) (hn : (fn.name != "runtime.NumGoroutine") = true) (hcv : convFn P fn = some ir) (hl : args.length ≤ ir.1)
    (h : W P G (Back ir.2.2 fobjs.length r fobjs') [.c ir.2.1] ⟨argEnv 0 args, fobjs.map some⟩) : Tri P G f args fobjs r fobjs' := by
  refine tri_of hf (by simpa using hn) (N := ir.1) (c := ir.2.1) (rv := ir.2.2) hcv hl ?_
  simp only [W, Wx] at h
  exact h

mutual
theorem rn_data (π : Nat → Nat) : ∀ (x : LV), idl 0 x = true → rn π x = x
  | .top, _ => rfl
  | .d x, _ => rfl
  | .anyb, _ => rfl
  | .ptr .., h => by simp [idl] at h
  | .rp .., h => by simp [idl] at h
  | .ip .., _ => rfl
  | .sl .., h => by simp [idl] at h
  | .fn f a b, h => by
    simp only [idl,Bool.and_eq_true] at h
    simp only [rn,rnL_data π a h.1,rnL_data π b h.2]
  | .agg cs, h => by simp only [idl] at h; simp only [rn,rnL_data π cs h]
  | .tup cs, h => by simp only [idl] at h; simp only [rn,rnL_data π cs h]
  | .ifc t x, h => by simp only [idl] at h; simp only [rn,rn_data π x h]
theorem rnL_data (π : Nat → Nat) : ∀ (xs : List LV), idlL 0 xs = true → rnL π xs = xs
  | [], _ => rfl
  | x :: xs, h => by
    simp only [idlL,Bool.and_eq_true] at h
    simp only [rnL,rn_data π x h.1,rnL_data π xs h.2]
end

mutual
theorem argR_any (obj : Nat → OSt) (ρ Z : List Nat) : ∀ (x : LV), idl 0 x = true → argR obj ρ Z x x
  | .top, _ => by simp [argR]
  | .d x, _ => by simp [argR]
  | .anyb, _ => by simp [argR]
  | .ptr .., h => by simp [idl] at h
  | .rp .., h => by simp [idl] at h
  | .ip .., _ => by simp [argR]
  | .sl .., h => by simp [idl] at h
  | .fn f a b, h => by
    simp only [idl,Bool.and_eq_true] at h
    simp only [argR]; exact ⟨trivial, argRs_any obj ρ Z a h.1, argRs_any obj ρ Z b h.2⟩
  | .agg cs, h => by simp only [idl] at h; simp only [argR]; exact argRs_any obj ρ Z cs h
  | .tup cs, h => by simp only [idl] at h; simp only [argR]; exact argRs_any obj ρ Z cs h
  | .ifc t x, h => by simp only [idl] at h; simp only [argR]; exact ⟨trivial, argR_any obj ρ Z x h⟩
theorem argRs_any (obj : Nat → OSt) (ρ Z : List Nat) : ∀ (xs : List LV), idlL 0 xs = true → argRs obj ρ Z xs xs
  | [], _ => by simp [argRs]
  | x :: xs, h => by
    simp only [idlL,Bool.and_eq_true] at h
    simp only [argRs]; exact ⟨argR_any obj ρ Z x h.1, argRs_any obj ρ Z xs h.2⟩
end

theorem W_calld {d : Option Nat} {f : Opd} {as : List Opd} {pre : List Nat} {k : Nat} {fs cs fargs : List LV} {r : LV} (hT : Tri P G k fargs [] r []) (hc : callee (f.ev G (getE env)) = some (k, fs, cs)) (ha : fs ++ as.map (·.ev G (getE env)) ++ cs = fargs) (hid : idlL 0 fargs = true) (hr : idl 0 r = true)
    (hk : W P G fin (.ops os :: t) ⟨putE d r env, objs⟩) : W P G fin (.ops (⟨d, .call f as, none, pre⟩ :: os) :: t) ⟨env, objs⟩ := by
  refine W_call _ hc (CallEff.data hT (by rw [ha]; exact argRs_any _ _ _ _ hid)) ?_
  simpa [rn_data _ _ hr, updL] using hk
theorem WD_calld {d : Option Nat} {f : Opd} {as : List Opd} {pre : List Nat} {k : Nat} {fs cs fargs : List LV} {r : LV} (hT : Tri P G k fargs [] r []) (hc : callee (f.ev G (getE env)) = some (k, fs, cs)) (ha : fs ++ as.map (·.ev G (getE env)) ++ cs = fargs) (hid : idlL 0 fargs = true) (hr : idl 0 r = true)
    (hk : W P G fin (.opsD os (log ++ [⟨pre, [], []⟩]) :: t) ⟨putE d r env, objs⟩) : W P G fin (.opsD (⟨d, .call f as, none, pre⟩ :: os) log :: t) ⟨env, objs⟩ := by
  refine WD_call _ hc (CallEff.data hT (by rw [ha]; exact argRs_any _ _ _ _ hid)) ?_
  simpa [rn_data _ _ hr, updL, Eff.owned, nwp] using hk
theorem W_callz {d : Option Nat} {f : Opd} {as : List Opd} {pre : List Nat} {k : Nat} {fs cs fargs : List LV} {r : LV} (Z : List Nat) (hT : Tri P G k fargs [] r []) (hc : callee (f.ev G (getE env)) = some (k, fs, cs)) (ha : argRs (objL objs) [] Z (fs ++ as.map (·.ev G (getE env)) ++ cs) fargs)
    (hZ : ∀ z ∈ Z, ∃ et e rows, objL objs z = .live (.dat et e rows) ∨ objL objs z = .live (.frz et e rows)) (hj : noJ r = true) (hr : idl 0 r = true)
    (hk : W P G fin (.ops os :: t) ⟨putE d r env, objs⟩) : W P G fin (.ops (⟨d, .call f as, none, pre⟩ :: os) :: t) ⟨env, objs⟩ := by
  refine W_call _ hc (CallEff.pure Z hT ha hZ hj) ?_
  simpa [rn_data _ _ hr, updL] using hk
theorem WD_callz {d : Option Nat} {f : Opd} {as : List Opd} {pre : List Nat} {k : Nat} {fs cs fargs : List LV} {r : LV} (Z : List Nat) (hT : Tri P G k fargs [] r []) (hc : callee (f.ev G (getE env)) = some (k, fs, cs)) (ha : argRs (objL objs) [] Z (fs ++ as.map (·.ev G (getE env)) ++ cs) fargs)
    (hZ : ∀ z ∈ Z, ∃ et e rows, objL objs z = .live (.dat et e rows) ∨ objL objs z = .live (.frz et e rows)) (hj : noJ r = true) (hr : idl 0 r = true)
    (hk : W P G fin (.opsD os (log ++ [⟨pre, Z, []⟩]) :: t) ⟨putE d r env, objs⟩) : W P G fin (.opsD (⟨d, .call f as, none, pre⟩ :: os) log :: t) ⟨env, objs⟩ := by
  refine WD_call _ hc (CallEff.pure Z hT ha hZ hj) ?_
  simpa [rn_data _ _ hr, updL, Eff.owned, nwp] using hk
theorem W_callf {d : Option Nat} {f : Opd} {as : List Opd} {pre : List Nat} {k : Nat} {fs cs fargs : List LV} {r : LV} (Z : List Nat) (hT : Tri P G k fargs [] r []) (hc : callee (f.ev G (getE env)) = some (k, fs, cs)) (ha : argRs (objL objs) [] Z (fs ++ as.map (·.ev G (getE env)) ++ cs) fargs)
    (hZ : ∀ z ∈ Z, ∃ et e rows, objL objs z = .live (.dat et e rows) ∨ objL objs z = .live (.frz et e rows)) (hr : idl 0 r = true)
    (hk : W P G fin (.ops os :: t) ⟨putE d r env, updL (frzs (objL objs) Z) objs⟩) : W P G fin (.ops (⟨d, .call f as, none, pre⟩ :: os) :: t) ⟨env, objs⟩ := by
  refine W_call _ hc (CallEff.frz Z hT ha hZ) ?_
  simpa [rn_data _ _ hr] using hk
theorem W_calln {d : Option Nat} {f : Opd} {as : List Opd} {pre : List Nat} {k : Nat} {fs cs fargs : List LV} {r : LV} {fobjs' : List LObj} (hT : Tri P G k fargs [] r fobjs') (hc : callee (f.ev G (getE env)) = some (k, fs, cs)) (ha : fs ++ as.map (·.ev G (getE env)) ++ cs = fargs) (hid : idlL 0 fargs = true)
    (hk : W P G fin (.ops os :: t) ⟨putE d (rn (piOf [] objs.length) r) env, objs ++ (fobjs'.map (rnO (piOf [] objs.length))).map some⟩) : W P G fin (.ops (⟨d, .call f as, none, pre⟩ :: os) :: t) ⟨env, objs⟩ := by
  refine W_call _ hc (CallEff.data hT (by rw [ha]; exact argRs_any _ _ _ _ hid)) ?_
  simpa [updL] using hk

theorem WD_calln {d : Option Nat} {f : Opd} {as : List Opd} {pre : List Nat} {k : Nat} {fs cs fargs : List LV} {r : LV} {fobjs' : List LObj} (hT : Tri P G k fargs [] r fobjs') (hc : callee (f.ev G (getE env)) = some (k, fs, cs)) (ha : fs ++ as.map (·.ev G (getE env)) ++ cs = fargs) (hid : idlL 0 fargs = true)
    (hk : W P G fin (.opsD os (log ++ [⟨pre, [], (nwp objs.length (fobjs'.map (rnO (piOf [] objs.length)))).map (·.1)⟩]) :: t) ⟨putE d (rn (piOf [] objs.length) r) env, objs ++ (fobjs'.map (rnO (piOf [] objs.length))).map some⟩) : W P G fin (.opsD (⟨d, .call f as, none, pre⟩ :: os) log :: t) ⟨env, objs⟩ := by
  refine WD_call _ hc (CallEff.data hT (by rw [ha]; exact argRs_any _ _ _ _ hid)) ?_
  simpa [updL, Eff.owned] using hk
theorem W_callo {d : Option Nat} {f : Opd} {as : List Opd} {pre : List Nat} {k : Nat} {fs cs fargs : List LV} {r : LV} {fobjs fobjs' : List LObj} (ρ : List Nat) (hT : Tri P G k fargs fobjs r fobjs') (hc : callee (f.ev G (getE env)) = some (k, fs, cs)) (ha : argRs (objL objs) ρ [] (fs ++ as.map (·.ev G (getE env)) ++ cs) fargs)
    (hnd : ρ.Nodup) (ho : ρ.map (objL objs) = fobjs.map (fun ob => OSt.live (rnO (piOf ρ objs.length) ob))) (hid : fobjs.all (idlO ρ.length) = true) (hle : fobjs.length ≤ fobjs'.length)
    (hk : W P G fin (.ops os :: t) ⟨putE d (rn (piOf ρ objs.length) r) env, updL (ρ.zip (fobjs'.map (rnO (piOf ρ objs.length)))) objs ++ ((fobjs'.drop ρ.length).map (rnO (piOf ρ objs.length))).map some⟩) : W P G fin (.ops (⟨d, .call f as, none, pre⟩ :: os) :: t) ⟨env, objs⟩ := by
  refine W_call _ hc (CallEff.hand ρ hT ha hnd ho hid hle) ?_
  simpa using hk
def EndsO (rv : List RV) (r : LV) (objs' : List LObj) (s : St) : Prop := Ends0 rv r s ∧ s.objs.take objs'.length = objs'.map some
theorem EndsO_iff {rv : List RV} {r : LV} {objs' : List LObj} {s : St} : EndsO rv r objs' s = (Ends0 rv r s ∧ s.objs.take objs'.length = objs'.map some) := rfl
theorem rnO_data (π : Nat → Nat) : ∀ (ob : LObj), idlO 0 ob = true → rnO π ob = ob
  | .box et cells, h => by simp only [rnO]; rw [rnL_data π cells h]
  | .dat .., _ => rfl
  | .frz .., _ => rfl
theorem idl_up : (∀ (x : LV) (k : Nat), idl 0 x = true → idl k x = true) ∧ (∀ (xs : List LV) (k : Nat), idlL 0 xs = true → idlL k xs = true) := by
  have one : ∀ n, (∀ (x : LV) (k : Nat), sizeOf x < n → idl 0 x = true → idl k x = true) ∧ (∀ (xs : List LV) (k : Nat), sizeOf xs < n → idlL 0 xs = true → idlL k xs = true) := by
    intro n
    induction n with
    | zero => exact ⟨fun _ _ h => absurd h (by omega), fun _ _ h => absurd h (by omega)⟩
    | succ n ih =>
      refine ⟨fun x k hs h => ?_, fun xs k hs h => ?_⟩
      · cases x <;> simp only [idl,Bool.and_eq_true] at h ⊢ <;> (try (simp at h; done)) <;> simp at hs
        · exact ⟨ih.2 _ k (by omega) h.1, ih.2 _ k (by omega) h.2⟩
        · exact ih.2 _ k (by omega) h
        · exact ih.2 _ k (by omega) h
        · exact ih.1 _ k (by omega) h
      · cases xs with
        | nil => rfl
        | cons x xs =>
          simp only [idlL,Bool.and_eq_true] at h ⊢
          simp at hs
          exact ⟨ih.1 _ k (by omega) h.1, ih.2 _ k (by omega) h.2⟩
  exact ⟨fun x k => (one (sizeOf x + 1)).1 x k (by omega), fun xs k => (one (sizeOf xs + 1)).2 xs k (by omega)⟩
theorem idlO_up (k : Nat) : ∀ (ob : LObj), idlO 0 ob = true → idlO k ob = true
  | .box et cells, h => idl_up.2 cells k h
  | .dat .., _ => rfl
  | .frz .., _ => rfl
theorem BackS {rv : List RV} {r : LV} {objs' : List LObj} {s : St} {k : Nat} (hs : EndsO rv r objs' s) (hid : idl 0 r = true) (ho : objs'.all (idlO 0) = true) (hk : k = objs'.length) : Back rv k r objs' s := by
  obtain ⟨h1, h2⟩ := hs
  unfold Ends0 at h1
  split at h1
  · rename_i vs hvs
    simp only [Option.some.injEq] at h1
    subst h1
    rw [List.all_eq_true] at ho
    refine ⟨[], vs, List.range k, [], hvs, by simp, List.nodup_range, (fun _ h => by cases h), (fun _ h => by cases h), by simp [hk], fun i o hi => ?_, ?_, ?_⟩
    · have hlt : i < k := by
        have := (List.getElem?_eq_some_iff.1 hi).1
        simpa using this
      have hio : o = i := by rw [List.getElem?_range hlt] at hi; cases hi; rfl
      subst hio
      have hlt' : o < objs'.length := by omega
      refine ⟨objs'[o], List.getElem?_eq_getElem hlt', ?_⟩
      have h3 : (s.objs.take objs'.length)[o]? = some (some objs'[o]) := by rw [h2]; simp [hlt']
      rw [List.getElem?_take_of_lt hlt'] at h3
      rw [rnO_data _ _ (ho _ (List.getElem_mem hlt'))]
      simp only [adopt,St.obj,objL,h3]
    · rw [List.all_eq_true]; exact fun ob hob => idlO_up _ ob (ho ob hob)
    · exact argR_any _ _ _ _ hid
  · cases h1
/-- a function over objects that hold data, that hands back data. -/
theorem tri_WO {f : Nat} {fn : Func} {ir : Nat × C × List RV} {args : List LV} {objs objs' : List LObj} {r : LV} (hf : P.funcs[f]? = some fn) (hn : (fn.name != "runtime.NumGoroutine") = true) (hcv : convFn P fn = some ir) (hl : args.length ≤ ir.1) (hid : idl 0 r = true) (ho : objs'.all (idlO 0) = true) (hlen : objs.length = objs'.length)
    (h : W P G (EndsO ir.2.2 r objs') [.c ir.2.1] ⟨argEnv 0 args, objs.map some⟩) : Tri P G f args objs r objs' := by
  refine tri_of hf (by simpa using hn) (N := ir.1) (c := ir.2.1) (rv := ir.2.2) hcv hl ?_
  simp only [W, Wx] at h
  exact vc_mono _ _ ⟨EndsO ir.2.2 r objs', fun _ _ => False, EndsO ir.2.2 r objs'⟩ _ (fun s hs => BackS hs hid ho hlen) (fun _ _ h => h) (fun s hs => BackS hs hid ho hlen) h

def Ends (rv : List RV) (r : LV) (s : St) : Prop := (match RVs.of s rv with | some vs => some (oneOr vs) | none => none) = some r

/-- a function of data alone, that hands back what names no object. -/
theorem tri_W0 {f : Nat} {fn : Func} {ir : Nat × C × List RV} {args : List LV} {r : LV} (hf : P.funcs[f]? = some fn) (hn : (fn.name != "runtime.NumGoroutine") = true) (hcv : convFn P fn = some ir) (hl : args.length ≤ ir.1) (hid : idl 0 r = true)
    (h : W P G (Ends ir.2.2 r) [.c ir.2.1] ⟨argEnv 0 args, []⟩) : Tri P G f args [] r [] := by
  refine tri_of hf (by simpa using hn) (N := ir.1) (c := ir.2.1) (rv := ir.2.2) hcv hl ?_
  simp only [W, Wx] at h
  refine vc_mono _ _ ⟨Ends ir.2.2 r, fun _ _ => False, Ends ir.2.2 r⟩ _ (fun s hs => ?_) (fun _ _ h => h) (fun s hs => ?_) h
  all_goals
    replace hs : Ends ir.2.2 r s := hs
    unfold Ends at hs
    split at hs
    · rename_i vs hvs
      cases hs
      exact Back0 hvs (argR_any _ _ _ _ hid)
    · cases hs
end
end Dv

namespace Dv
open Go


section
variable {π : Nat → Nat} {k : Nat}
mutual
theorem rn_fix (h : ∀ o, o < k → π o = o) : ∀ (x : LV), idl k x = true → rn π x = x
  | .top, _ => rfl
  | .d x, _ => rfl
  | .anyb, _ => rfl
  | .ptr o c, hx => by simp only [idl,decide_eq_true_eq] at hx; simp only [rn,h o hx]
  | .rp o n e r c, hx => by simp only [idl,decide_eq_true_eq] at hx; simp only [rn,h o hx]
  | .ip .., _ => rfl
  | .sl o n e l m, hx => by simp only [idl,decide_eq_true_eq] at hx; simp only [rn,h o hx]
  | .fn f a b, hx => by
    simp only [idl,Bool.and_eq_true] at hx
    simp only [rn,rnL_fix h a hx.1,rnL_fix h b hx.2]
  | .agg cs, hx => by simp only [idl] at hx; simp only [rn,rnL_fix h cs hx]
  | .tup cs, hx => by simp only [idl] at hx; simp only [rn,rnL_fix h cs hx]
  | .ifc t x, hx => by simp only [idl] at hx; simp only [rn,rn_fix h x hx]
theorem rnL_fix (h : ∀ o, o < k → π o = o) : ∀ (xs : List LV), idlL k xs = true → rnL π xs = xs
  | [], _ => rfl
  | x :: xs, hx => by
    simp only [idlL,Bool.and_eq_true] at hx
    simp only [rnL,rn_fix h x hx.1,rnL_fix h xs hx.2]
end
theorem rnO_fix (h : ∀ o, o < k → π o = o) : ∀ (ob : LObj), idlO k ob = true → rnO π ob = ob
  | .box et cells, hx => by simp only [rnO]; rw [rnL_fix h cells hx]
  | .dat .., _ => rfl
  | .frz .., _ => rfl
end
section
variable {ρ : List Nat} {k : Nat}
mutual
theorem argR_fix (h : ∀ o, o < k → ρ[o]? = some o) (obj : Nat → OSt) : ∀ (x : LV), idl k x = true → argR obj ρ [] x x
  | .top, _ => by simp [argR]
  | .d x, _ => by simp [argR]
  | .anyb, _ => by simp [argR]
  | .ptr o c, hx => by simp only [idl,decide_eq_true_eq] at hx; simp only [argR,h o hx,and_self]
  | .rp o n e r c, hx => by simp only [idl,decide_eq_true_eq] at hx; simp only [argR,h o hx,and_self]
  | .ip .., _ => by simp [argR]
  | .sl o n e l m, hx => by simp only [idl,decide_eq_true_eq] at hx; simp only [argR,h o hx,and_self]
  | .fn f a b, hx => by
    simp only [idl,Bool.and_eq_true] at hx
    simp only [argR]; exact ⟨trivial, argRs_fix h obj a hx.1, argRs_fix h obj b hx.2⟩
  | .agg cs, hx => by simp only [idl] at hx; simp only [argR]; exact argRs_fix h obj cs hx
  | .tup cs, hx => by simp only [idl] at hx; simp only [argR]; exact argRs_fix h obj cs hx
  | .ifc t x, hx => by simp only [idl] at hx; simp only [argR]; exact ⟨trivial, argR_fix h obj x hx⟩
theorem argRs_fix (h : ∀ o, o < k → ρ[o]? = some o) (obj : Nat → OSt) : ∀ (xs : List LV), idlL k xs = true → argRs obj ρ [] xs xs
  | [], _ => by simp [argRs]
  | x :: xs, hx => by
    simp only [idlL,Bool.and_eq_true] at hx
    simp only [argRs]; exact ⟨argR_fix h obj x hx.1, argRs_fix h obj xs hx.2⟩
end
end
theorem range_at {k o : Nat} (h : o < k) : (List.range k)[o]? = some o := List.getElem?_range h
theorem piOf_range {k o : Nat} (h : o < k) : piOf (List.range k) 0 o = o := by unfold piOf; rw [range_at h]

theorem BackP {rv : List RV} {r : LV} {objs' : List LObj} {s : St} (hs : EndsO rv r objs' s) (hid : idl objs'.length r = true) (ho : objs'.all (idlO objs'.length) = true) : Back rv objs'.length r objs' s := by
  obtain ⟨h1, h2⟩ := hs
  unfold Ends0 at h1
  split at h1
  · rename_i vs hvs
    simp only [Option.some.injEq] at h1
    subst h1
    have ho' := ho
    rw [List.all_eq_true] at ho
    refine ⟨[], vs, List.range objs'.length, [], hvs, by simp, List.nodup_range, (fun _ h => by cases h), (fun _ h => by cases h), by simp, fun i o hi => ?_, ?_, ?_⟩
    · have hlt : i < objs'.length := by
        have := (List.getElem?_eq_some_iff.1 hi).1
        simpa using this
      have hio : o = i := by rw [List.getElem?_range hlt] at hi; cases hi; rfl
      subst hio
      refine ⟨objs'[o], List.getElem?_eq_getElem hlt, ?_⟩
      have h3 : (s.objs.take objs'.length)[o]? = some (some objs'[o]) := by rw [h2]; simp [hlt]
      rw [List.getElem?_take_of_lt hlt] at h3
      rw [rnO_fix (fun o h => piOf_range h) _ (ho _ (List.getElem_mem hlt))]
      simp only [adopt,St.obj,objL,h3]
    · rw [List.length_range]; exact ho'
    · exact argR_fix (fun o h => range_at h) _ _ hid
  · cases h1
/-- a function over objects that may name one another, all of which it hands back in the same places. -/
theorem tri_WP {P : Program} {G : Nat → Option (List DV)} {f : Nat} {fn : Func} {ir : Nat × C × List RV} {args : List LV} {objs objs' : List LObj} {r : LV} (hf : P.funcs[f]? = some fn) (hn : (fn.name != "runtime.NumGoroutine") = true) (hcv : convFn P fn = some ir) (hl : args.length ≤ ir.1) (hid : idl objs'.length r = true) (ho : objs'.all (idlO objs'.length) = true) (hlen : objs.length = objs'.length)
    (h : W P G (EndsO ir.2.2 r objs') [.c ir.2.1] ⟨argEnv 0 args, objs.map some⟩) : Tri P G f args objs r objs' := by
  refine tri_of hf (by simpa using hn) (N := ir.1) (c := ir.2.1) (rv := ir.2.2) hcv hl ?_
  simp only [W, Wx] at h
  refine vc_mono _ _ ⟨EndsO ir.2.2 r objs', fun _ _ => False, EndsO ir.2.2 r objs'⟩ _ (fun s hs => ?_) (fun _ _ h => h) (fun s hs => ?_) h
  all_goals
    rw [hlen]; exact BackP hs hid ho

theorem undefE : LV.undef = .d (.val (.tuple #[])) := rfl
def qo (n : Nat) (x : I) : IOp := ⟨some n, x, none, []⟩
def qm (n a : Nat) : IOp := ⟨some n, .mv (.t a), none, []⟩
def qd (n : Nat) (x : I) (l : List Nat) : IOp := ⟨some n, x, none, l⟩
def qg (n : Nat) (x : I) (g : Nat) (b : Bool) : IOp := ⟨some n, x, some (g, b), []⟩
def qe (n : Nat) (x : I) (g : Nat) (b : Bool) (l : List Nat) : IOp := ⟨some n, x, some (g, b), l⟩
def qn (x : I) : IOp := ⟨none, x, none, []⟩
def ql (x : I) (l : List Nat) : IOp := ⟨none, x, none, l⟩
def qf : Opd := .c (.val (.bool false))
def qt : Opd := .c (.val (.bool true))
def qk (i : Int) : Opd := .c (.val (.int .i64 i))
def q0 : DV := .val (.int .i64 0)
end Dv

namespace Dv
open Go


section
variable {G : Nat → Option (List DV)} {J : Nat → Prop} {w w' : World} {ι : Nat → Nat → Option Nat} {obj : Nat → OSt}
theorem Store.still (S : Store G J w ι obj) (hJ : ∀ b, J b → w'.heap[b]? = w.heap[b]?) (hO : ∀ b, Own ι obj b → w'.heap[b]? = w.heap[b]?) (hsh : ∀ b, (w.shape? b).isSome = true → w'.shape? b = w.shape? b) : Store G J w' ι obj := by
  refine ⟨fun o => ?_, S.inj, S.disj, fun b hb => by rw [hJ b hb]; exact S.jcell b hb, fun g row hg => ?_⟩
  · have h := S.rep o
    have hb : ∀ b, (obj o).own ι o b → w'.heap[b]? = w.heap[b]? := fun b hb => hO b ⟨o, hb⟩
    cases hs : obj o with
    | free => rw [hs] at h; exact h
    | dead => trivial
    | live ob =>
      rw [hs] at h hb
      obtain ⟨h, hkey⟩ := h
      cases ob with
      | box et cells =>
        obtain ⟨b, C, h1, h2, h3⟩ := h
        exact ⟨⟨b, C, h1, by rw [hb b h1]; exact h2, RepC.mono (fun _ h => h) hJ (fun _ _ _ h => h) hsh _ _ h3⟩, trivial⟩
      | dat et esz rows =>
        obtain ⟨h1, h2⟩ := h
        refine ⟨⟨h1, fun b hb' => ?_⟩, hkey⟩
        obtain ⟨⟨C, h3⟩, h4⟩ := h2 b hb'
        exact ⟨⟨C, by rw [hb b hb']; exact h3⟩, RowsD.mono (fun _ h => h) hJ _ _ _ _ (hb b hb') h4⟩
      | frz et esz rows =>
        obtain ⟨h1, h2⟩ := h
        refine ⟨⟨h1, fun b hb' => ?_⟩, trivial⟩
        obtain ⟨h3, h4⟩ := h2 b hb'
        exact ⟨h3, RowsD.mono (fun _ h => h) hJ _ _ _ _ (hJ b h3) h4⟩
  · obtain ⟨h1, h2, t, h3⟩ := S.glob g row hg
    exact ⟨h1, RowD.mono (fun _ h => h) hJ _ _ _ (hJ g h1) h2, t, by rw [shape_of_heap (hJ g h1)]; exact h3⟩
theorem shape_cells {w : World} {b : Nat} (h : (w.shape? b).isSome = true) : ∃ C t f, w.heap[b]? = some (.cells C t f) := by
  unfold World.shape? at h
  split at h
  · rename_i c e f hc; exact ⟨c, e, f, hc⟩
  · cases h

structure Mid (G : Nat → Option (List DV)) (obj : Nat → OSt) (J : Nat → Prop) (ι : Nat → Nat → Option Nat) (w : World) (n : Nat) (W : World) (J' : Nat → Prop) (ι' : Nat → Nat → Option Nat) : Prop where
  store : Store G J' W ι' obj
  ext : Ext obj obj J J' ι ι' w W
  own : ∀ b, Own ι' obj b → Own ι obj b ∨ n ≤ b
  std : ∀ b, J' b → J b ∨ n ≤ b ∨ Own ι obj b
  size : n ≤ W.heap.size

theorem Mid.grown {n : Nat} {W W' : World} {J' : Nat → Prop} {ι' : Nat → Nat → Option Nat} (S : Store G J w ι obj) (h : Mid G obj J ι w n W J' ι') (hn : w.heap.size ≤ n) {row : Option Nat} (hg : W.grownBy W' row) (hr : ∀ r, row = some r → w.heap.size ≤ r ∧ ((r < n ∧ (W'.shape? r) = W.shape? r) ∨ ∀ C t f, W.heap[r]? ≠ some (.cells C t f))) : Mid G obj J ι w n W' J' ι' := by
  have hlt : ∀ b, Own ι obj b → b < w.heap.size := fun b hb => by
    obtain ⟨C, t, f, h⟩ := S.own_cell hb
    exact (Array.getElem?_eq_some_iff.1 h).1
  have ne : ∀ b, (J' b ∨ Own ι' obj b) → some b ≠ row := fun b hb e => by
    obtain ⟨h1, h2⟩ := hr b e.symm
    have hc : ∃ C t f, W.heap[b]? = some (.cells C t f) := hb.elim (h.store.jcell b) h.store.own_cell
    rcases h2 with ⟨h2, _⟩ | h2
    · rcases hb with hb | hb
      · rcases h.std b hb with k | k | k
        · have := S.jlt b k; omega
        · omega
        · have := hlt b k; omega
      · rcases h.own b hb with k | k
        · have := hlt b k; omega
        · omega
    · obtain ⟨C, t, f, hc⟩ := hc
      exact h2 C t f hc
  have blk : ∀ b, (J' b ∨ Own ι' obj b) → W'.heap[b]? = W.heap[b]? := fun b hb => by
    have hc : ∃ C t f, W.heap[b]? = some (.cells C t f) := hb.elim (h.store.jcell b) h.store.own_cell
    obtain ⟨C, t, f, hc⟩ := hc
    exact hg.block b (Array.getElem?_eq_some_iff.1 hc).1 (ne b hb)
  have hsz := h.ext.ev.size
  have shp : ∀ b, b < W.heap.size → (W.shape? b).isSome = true → W'.shape? b = W.shape? b := fun b hb hc => by
    by_cases e : some b = row
    · obtain ⟨h1, h2⟩ := hr b e.symm
      rcases h2 with ⟨_, h2⟩ | h2
      · exact h2
      · obtain ⟨C, t, f, k⟩ := shape_cells hc
        exact absurd k (h2 C t f)
    · exact shape_of_heap (hg.block b hb e)
  refine ⟨h.store.still (fun b hb => blk b (.inl hb)) (fun b hb => blk b (.inr hb)) (fun b hb => ?_), ⟨⟨hg.os.trans h.ext.ev.os, hg.tape.trans h.ext.ev.tape, hg.output.trans h.ext.ev.output, Nat.le_trans hsz hg.size, fun b hb ho => ?_, fun b hb => ?_, h.ext.ev.jmono, h.ext.ev.jnew, h.ext.ev.imono⟩, h.ext.own⟩, h.own, h.std, Nat.le_trans h.size hg.size⟩
  · obtain ⟨C, t, f, k⟩ := shape_cells hb
    exact shp b (Array.getElem?_eq_some_iff.1 k).1 hb
  · rw [hg.block b (by omega) (fun e => by have := (hr b e.symm).1; omega)]; exact h.ext.ev.same b hb ho
  · rw [shape_of_heap (hg.block b (by omega) (fun e => by have := (hr b e.symm).1; omega))]; exact h.ext.ev.shape b hb
theorem Mid.call {n : Nat} {W W2 : World} {J' : Nat → Prop} {ι' : Nat → Nat → Option Nat} (S : Store G J w ι obj) (h : Mid G obj J ι w n W J' ι') (hn : w.heap.size ≤ n) {r : LV} {v : Value} (hA : After G obj obj J' ι' W r v W2) : ∃ J2 ι2, Mid G obj J ι w n W2 J2 ι2 ∧ Rep J2 W2 ι2 r v ∧ (∀ b, b < W.heap.size → ¬ Own ι' obj b → W2.heap[b]? = W.heap[b]?) ∧ W.heap.size ≤ W2.heap.size := by
  obtain ⟨J2, ι2, S2, R2, E2⟩ := hA
  have hsz := h.size
  refine ⟨J2, ι2, ⟨S2, h.ext.trans E2, fun b hb => ?_, fun b hb => ?_, Nat.le_trans h.size E2.ev.size⟩, R2, E2.ev.same, E2.ev.size⟩
  · rcases E2.own b hb with k | k
    · exact h.own b k
    · exact .inr (by omega)
  · rcases E2.ev.jnew b hb with k | k | k
    · exact h.std b k
    · exact .inr (.inl (by omega))
    · rcases h.own b k with k | k
      · exact .inr (.inr k)
      · exact .inr (.inl k)
end
end Dv

namespace Dv
open Go


section
variable {P : Program} {G : Nat → Option (List DV)} {N : Nat}
end

section
variable {P : Program} {G : Nat → Option (List DV)} {fin : St → Prop} {t : List It} {s : St} {env : List (Nat × LV)} {objs : List (Option LObj)} {os : List IOp} {log : List LogE}
theorem CallPan.data {k : Nat} {args fargs : List LV} {obj : Nat → OSt} {base : Nat} {v : Value} (hT : TriX P G k fargs [] v []) (ha : argRs obj [] [] args fargs) :
    CallPan P G k args obj base v { r := .top, rd := [], wr := [], nw := [] } :=
  ⟨⟨[], [], fargs, [], [], List.nodup_nil, (fun _ h => by cases h), (fun _ h => by cases h), rfl, (fun i o h => by simp at h), rfl, ha, Nat.le_refl _, hT, rfl⟩⟩
theorem CallPan.hand {k : Nat} {args fargs : List LV} {obj : Nat → OSt} {base : Nat} {v : Value} {fobjs fobjs' : List LObj} (ρ : List Nat) (hT : TriX P G k fargs fobjs v fobjs') (ha : argRs obj ρ [] args fargs) (hnd : ρ.Nodup) (ho : ρ.map obj = fobjs.map (fun ob => OSt.live (rnO (piOf ρ base) ob))) (hid : fobjs.all (idlO ρ.length) = true) (hle : fobjs.length ≤ fobjs'.length) :
    CallPan P G k args obj base v { r := .top, rd := ρ, wr := ρ.zip (fobjs'.map (rnO (piOf ρ base))), nw := (fobjs'.drop ρ.length).map (rnO (piOf ρ base)) } :=
  ⟨⟨ρ, [], fargs, fobjs, fobjs', hnd, (fun _ h => by cases h), (fun _ h => by cases h), by have := congrArg List.length ho; simpa using this.symm, (fun i o hi => by
    have h1 : (ρ.map obj)[i]? = some (obj o) := by rw [List.getElem?_map, hi]; rfl
    rw [ho, List.getElem?_map] at h1
    cases hf : fobjs[i]? with
    | none => rw [hf] at h1; cases h1
    | some ob => rw [hf] at h1; simp at h1; exact ⟨ob, rfl, h1.symm⟩), hid, ha, hle, hT, by simp [frzs]⟩⟩
end
end Dv

namespace Dv
open Go


section
variable {P : Program} {G : Nat → Option (List DV)} {J J0 : Nat → Prop} {w w0 : World} {ι ι0 : Nat → Nat → Option Nat}

theorem ends_of {fn : Func} {rv : List RV} {r : LV} {rs : List LV} (Z : List Nat) {s : St} {tmps : Array Value} (S : Store G J w ι s.obj) (he : ∀ t, Rep J w ι (s.get t) (tmps.getD t Go.undef)) (S0 : Store G J0 w0 ι0 (objL [])) (E : Ext (objL []) s.obj J0 J ι0 ι w0 w)
    (hrv : convRVs P fn.results.toList = some rv) (hrs : RVs.of s rv = some rs) (hZd : ∀ z ∈ Z, ∃ et e rows, s.obj z = .live (.dat et e rows) ∨ s.obj z = .live (.frz et e rows)) (hR : argR s.obj [] Z (oneOr rs) r) :
    ∃ v, (results fn tmps).run P w = .ok v w ∧ After G (objL []) (objL []) J0 ι0 w0 r v w := by
  obtain ⟨us, hus, hrus⟩ := RVs.sound (a := { tmps := tmps, defers := [] }) S he hrv hrs
  have hm : (fn.results.mapM (resF tmps)).run P w = .ok us.toArray w := by
    rw [Array.mapM_eq_mapM_toList, Sem.run_map, hus]; rfl
  have hv : ∃ v, (results fn tmps).run P w = .ok v w ∧ Rep J w ι (oneOr rs) v := by
    refine ⟨if h : us.toArray.size = 1 then us.toArray[0] else .tuple us.toArray, ?_, ?_⟩
    · rw [results_eq, Sem.run_bind, hm]
      rfl
    · have hul := hrus.length
      cases rs with
      | nil =>
        cases us with
        | nil => exact ⟨#[], rfl, trivial⟩
        | cons _ _ => simp at hul
      | cons x xs =>
        cases us with
        | nil => simp at hul
        | cons u us =>
          cases xs with
          | nil =>
            cases us with
            | nil => exact hrus.1
            | cons _ _ => simp at hul
          | cons y ys =>
            cases us with
            | nil => simp at hul
            | cons u2 us => exact ⟨_, by simp, hrus⟩
  obtain ⟨v, hv1, hv2⟩ := hv
  refine ⟨v, hv1, ?_⟩
  obtain ⟨S', hown⟩ := S.sub (ρ := []) (Z := Z) (fobjs := []) (base := 0) List.nodup_nil (fun _ _ h => by cases h) rfl (fun i o h => by simp at h) rfl
  refine ⟨_, _, S', argR_sound S _ _ v hR hv2, ⟨E.ev.os, E.ev.tape, E.ev.output, E.ev.size, E.ev.same, E.ev.shape, fun b hb => .inl (E.ev.jmono b hb), fun b hb => ?_, fun o n b hb => ?_⟩, ?_⟩
  · rcases hb with hb | ⟨z, hz1, hz2⟩
    · exact E.ev.jnew b hb
    · rcases E.own b ⟨z, hz2⟩ with h1 | h1
      · exact .inr (.inr h1)
      · exact .inr (.inl h1)
  · have := S0.rep o
    rw [objL_free (by simp)] at this
    rw [this n] at hb; cases hb
  · rintro b ⟨i, hb⟩
    obtain ⟨o, _, h2⟩ := hown i b hb
    exact E.own b ⟨o, h2⟩
end
section
variable {P : Program} {G : Nat → Option (List DV)} {D : List Deferred} {N : Nat} {obj0 : Nat → OSt} {J0 : Nat → Prop} {ι0 : Nat → Nat → Option Nat} {w0 : World} {Q : Exit → Act → World → Prop}
theorem at_args {args : List LV} {vs : Array Value} {n : Nat} {w : World} {fobjs : List LObj} (S0 : Store G J0 w ι0 (objL (fobjs.map some))) (hargs : RepL J0 w ι0 args vs.toList) (hn : args.length ≤ n) :
    AtS G [] n (objL (fobjs.map some)) J0 ι0 w ⟨argEnv 0 args, fobjs.map some⟩ { tmps := vs ++ Array.replicate (n - vs.size) Go.undef, defers := [] } w := by
  refine ⟨J0, ι0, ⟨S0, fun t => ?_, ?_, rfl⟩, Ext.refl ..⟩
  · have h1 := argEnv_rep args vs.toList 0 t hargs
    simp only [Nat.zero_le,if_true,Nat.sub_zero] at h1
    have h2 : (vs ++ Array.replicate (n - vs.size) Go.undef).getD t Go.undef = (vs.toList[t]?).getD Go.undef := by
      simp only [Array.getD_eq_getD_getElem?,Array.getElem?_append,Array.getElem?_toList]
      by_cases ht : t < vs.size
      · rw [if_pos ht]
      · rw [if_neg ht, Array.getElem?_eq_none (Nat.le_of_not_lt ht), Array.getElem?_replicate]
        split <;> rfl
    rw [h2]; exact h1
  · have hvl : vs.size = args.length := by have := hargs.length; simpa using this.symm
    simp; omega
end

section
variable {P : Program} {G G0 : Nat → Option (List DV)} {J J' : Nat → Prop} {w w' : World} {ι ι' : Nat → Nat → Option Nat} {obj obj' : Nat → OSt}
theorem Store.less (S : Store G J w ι obj) (hG : ∀ g row, G0 g = some row → G g = some row) : Store G0 J w ι obj := ⟨S.rep, S.inj, S.disj, S.jcell, fun g row h => S.glob g row (hG g row h)⟩
theorem After.more {r : LV} {v : Value} (S : Store G J w ι obj) (h : After G0 obj obj' J ι w r v w') : After G obj obj' J ι w r v w' := by
  obtain ⟨J', ι', S', R, E⟩ := h
  refine ⟨J', ι', ⟨S'.rep, S'.inj, S'.disj, S'.jcell, fun g row hg => ?_⟩, R, E⟩
  obtain ⟨h1, h2, t, h3⟩ := S.glob g row hg
  exact ⟨E.ev.jmono g h1, h2.ev S E.ev h1, t, by rw [E.ev.shape g (S.jlt g h1)]; exact h3⟩
theorem Tri.up {f : Nat} {args : List LV} {objs objs' : List LObj} {r : LV} (h : Tri P G0 f args objs r objs') (hG : ∀ g row, G0 g = some row → G g = some row) : Tri P G f args objs r objs' := by
  refine ⟨h.1, fun J ι w vs S hargs => (h.2 J ι w vs (S.less hG) hargs).mono fun e w' hr => ?_⟩
  obtain ⟨v, he, hA⟩ := hr
  exact ⟨v, he, After.more S hA⟩
theorem After.ofBelow {r : LV} {v : Value} (S : Store G J w ι obj) (hb : RowKit.Below w.heap.size w w') (hr : ∀ J' w' ι', Rep J' w' ι' r v) : After G obj obj J ι w r v w' := by
  have hsame : ∀ b, b < w.heap.size → w'.heap[b]? = w.heap[b]? := fun b h => hb.block b h
  have hE : Ev (Own ι obj) J J ι ι w w' := ⟨hb.os, hb.tape, hb.output, hb.size, fun b h _ => hsame b h, fun b h => shape_of_heap (hsame b h), fun _ h => h, fun _ h => .inl h, fun _ _ _ h => h⟩
  refine ⟨J, ι, S.still (fun b h => hsame b (S.jlt b h)) (fun b h => hsame b (S.own_lt h)) (fun b h => shape_of_heap (hsame b (shape_lt h))), hr _ _ _, hE, fun b h => .inl h⟩
end
end Dv

namespace Dv
open Go


theorem ask_drawn {α : Type} : ∀ (k : Ask α) (w : World), w.drawn ≤ (w.ask k).2.drawn
  | .done a, w => Nat.le_refl _
  | .ask what range k, w => by
    unfold World.ask
    dsimp only
    split
    · exact ask_drawn _ w
    · exact Nat.le_trans (Nat.le_succ _) (ask_drawn (k _) { w with drawn := w.drawn + 1 })
theorem sys_drawn (w : World) (c : Sys) : w.drawn ≤ (w.sys c).2.drawn := by
  unfold World.sys
  have h := ask_drawn (Kernel.perform c w.os) w
  split
  · exact Nat.le_refl _
  · rename_i e; rw [e] at h; exact h
theorem far_drawn {P : Program} {w w' : World} {a : Addr} {v : Value} {at_ : Bool} {l : List Addr} (h : w.farStore P a v at_ = .ok (w', l)) : w'.drawn = w.drawn := by
  unfold World.farStore at h
  split at h
  · split at h
    · rename_i r hr
      cases h
      unfold World.viewStore at hr
      simp only [bind,Except.bind,pure,Except.pure] at hr
      repeat' split at hr
      all_goals (try (cases hr; done))
      all_goals (cases hr; rfl)
    · cases h
  · cases h
theorem run_drawn (P : Program) {α : Type} : ∀ (s : Sem α) (w : World) (v : α) (w' : World), s.run P w = .ok v w' → w.drawn ≤ w'.drawn
  | .pure a, w, v, w', h => by cases h; exact Nat.le_refl _
  | .load m a k, w, v, w', h => by
    unfold Sem.run at h
    split at h
    · exact run_drawn P _ _ _ _ h
    · split at h
      · exact run_drawn P _ _ _ _ h
      · cases h
  | .store m a u k, w, v, w', h => by
    have key : (match w.cell? a with
      | some _ => if w.frozen? a then Result.halt (.unsupported (.unsafePointer "a write to bytes that a string shares")) w else k.run P (w.setCell a u)
      | none => match w.farStore P a u (m == Mode.atomic) with
        | .ok (w, _) => k.run P w
        | .error h => .halt h w) = .ok v w' → w.drawn ≤ w'.drawn := by
      intro hh
      split at hh
      · split at hh
        · cases hh
        · exact run_drawn P k (w.setCell a u) _ _ hh
      · split at hh
        · rename_i w1 l hf
          have := run_drawn P k w1 _ _ hh
          rw [far_drawn hf] at this
          exact this
        · cases hh
    cases u <;> first | exact key h | (cases h; done)
  | .new o k, w, v, w', h => run_drawn P (k w.heap.size) { w with heap := w.heap.push o } v w' h
  | .shape r k, w, v, w', h => run_drawn P (k (w.shape? r)) w v w' h
  | .freeze a n k, w, v, w', h => by
    have := run_drawn P k (w.freeze a n) v w' h
    have e : (w.freeze a n).drawn = w.drawn := by unfold World.freeze; split <;> rfl
    rw [e] at this
    exact this
  | .frozen a k, w, v, w', h => run_drawn P (k (w.frozen? a)) w v w' h
  | .getObj r k, w, v, w', h => by
    unfold Sem.run at h
    split at h
    · cases h
    · exact run_drawn P _ _ _ _ h
    · cases h
  | .setObj r o k, w, v, w', h => by
    unfold Sem.run at h
    split at h
    · cases h
    · exact run_drawn P k { w with heap := w.heap.setIfInBounds r o } v w' h
    · cases h
  | .choose q k, w, v, w', h => by
    unfold Sem.run at h
    split at h
    · exact run_drawn P (k 0) w v w' h
    · exact Nat.le_trans (Nat.le_succ _) (run_drawn P (k _) { w with drawn := w.drawn + 1 } v w' h)
  | .sys c k, w, v, w', h => Nat.le_trans (sys_drawn w c) (run_drawn P (k (w.sys c).1) (w.sys c).2 v w' h)
  | .program k, w, v, w', h => run_drawn P (k P) w v w' h
  | .mark _ k, w, v, w', h => run_drawn P k w v w' h
  | .halt x, w, v, w', h => by cases h
def quietO (o : Oper) : Bool := match o.op with
  | .move _ | .assign _ | .pick .. | .alloc _ | .box .. | .load .. | .store .. | .binOp .. | .fieldAddr .. | .indexAddr .. => true
  | _ => false
theorem quiet_run {P : Program} {ρ : Operand → Value} {o : Oper} (h : quietO o = true) {w w' : World} {n : Next} (hr : (execOp ρ o).run P w = .ok n w') : w.drawn ≤ w'.drawn ∧ ((∃ v, n = .value v) ∨ n = .skip) := by
  refine ⟨run_drawn P _ _ _ _ hr, ?_⟩
  obtain ⟨dst, op, type, pos, after, guard⟩ := o
  cases op <;> simp only [quietO,Bool.false_eq_true] at h <;> simp only [execOp,Sem.run_bind,Sem.run_pure] at hr <;> (try (cases hr; exact .inl ⟨_, rfl⟩)) <;>
    (first
     | (cases hs : Sem.run P _ w with
        | ok v w1 => rw [hs] at hr; simp only [Result.andThen_ok] at hr; cases hr; first | exact .inl ⟨_, rfl⟩ | exact .inr rfl
        | halt x w1 => rw [hs] at hr; cases hr)
     | (cases hs : Sem.run P (eqGuard _ _ _ _ _ _) w with
        | ok v w1 =>
          rw [hs] at hr; simp only [Result.andThen_ok] at hr
          cases hs2 : Sem.run P (Go.binOp _ _ _ _) w1 with
          | ok v2 w2 => rw [hs2] at hr; simp only [Result.andThen_ok] at hr; cases hr; exact .inl ⟨_, rfl⟩
          | halt x w2 => rw [hs2] at hr; cases hr
        | halt x w1 => rw [hs] at hr; cases hr))
section
variable {P : Program} {ops : Array Oper} {Q : Exit → Act → World → Prop}
def QD (n0 : Nat) (Q : Exit → Act → World → Prop) : Exit → Act → World → Prop := fun e a w => Q e a w ∧ ((e = .normal ∨ e = .ret) → n0 ≤ w.drawn)
theorem lets_QD {n0 : Nat} (h : LetsOut Q) : LetsOut (QD n0 Q) := by
  obtain ⟨a, w, h⟩ := h
  exact ⟨a, w, h, by rintro (h | h) <;> cases h⟩
theorem op_QD {o : Oper} (ho : quietO o = true) {n0 : Nat} {a : Act} {w : World} {K K' : Act → World → Prop} (hn : n0 ≤ w.drawn) (hK : ∀ a' w', n0 ≤ w'.drawn → K a' w' → K' a' w') (h : o.wp P a w K Q) : o.wp P a w K' (QD n0 Q) := by
  unfold Oper.wp at *
  cases hr : (execOp a.eval o).run P w with
  | ok n w' =>
    obtain ⟨h1, h2⟩ := quiet_run ho hr
    rw [hr] at h
    rcases h2 with ⟨v, rfl⟩ | rfl
    · exact hK _ _ (Nat.le_trans hn h1) h
    · exact hK _ _ (Nat.le_trans hn h1) h
  | halt x w' =>
    rw [hr] at h
    cases x <;> first | exact h.elim | exact ⟨h, by rintro (h | h) <;> cases h⟩
theorem wpList_QD {n0 : Nat} : ∀ (os : List Oper) (a : Act) (w : World), os.all quietO = true → n0 ≤ w.drawn → wpList P ops Q os a w → wpList P ops (QD n0 Q) os a w
  | [], a, w, _, hn, h => ⟨h, fun _ => hn⟩
  | o :: os, a, w, hq, hn, h => by
    simp only [List.all_cons,Bool.and_eq_true] at hq
    unfold wpList at *
    split
    · rename_i hw
      rw [if_pos hw] at h
      rcases h with h | ⟨h1, h2⟩
      · exact .inl (op_QD hq.1 hn (fun a' w' hn' h' => wpList_QD os a' w' hq.2 hn' h') h)
      · exact .inr ⟨h1, lets_QD h2⟩
    · rename_i hw
      rw [if_neg hw] at h
      exact wpList_QD os _ w hq.2 hn h
theorem wpAny_QD {n0 : Nat} (hq : ops.all quietO = true) : ∀ (fuel : Nat) (listed : Array Bool) (a : Act) (w : World), n0 ≤ w.drawn → wpAny P .any ops Q fuel listed a w → wpAny P .any ops (QD n0 Q) fuel listed a w
  | 0, listed, a, w, hn, h => ⟨h.1, h.2, fun _ => hn⟩
  | fuel + 1, listed, a, w, hn, h => by
    refine ⟨fun e => ⟨h.1 e, fun _ => hn⟩, fun i hi => ?_⟩
    have h2 := h.2 i hi
    unfold wpOp at *
    cases ho : ops[i]? with
    | none => rw [ho] at h2; exact wpAny_QD hq fuel _ a w hn h2
    | some o =>
      rw [ho] at h2
      have hqo : quietO o = true := by
        obtain ⟨hlt, rfl⟩ := Array.getElem?_eq_some_iff.1 ho
        exact (Array.all_eq_true.1 hq) i hlt
      dsimp only at h2 ⊢
      split
      · rename_i hw
        rw [if_pos hw] at h2
        rcases h2 with h2 | ⟨h3, h4⟩
        · exact .inl (op_QD hqo hn (fun a' w' hn' h' => wpAny_QD hq fuel _ a' w' hn' h') h2)
        · exact .inr ⟨h3, lets_QD h4⟩
      · rename_i hw
        rw [if_neg hw] at h2
        exact wpAny_QD hq fuel _ _ w hn h2
end
def quietC : Code → Bool
  | .skip => true
  | .region _ ops _ => ops.all quietO
  | .seq a b => quietC a && quietC b
  | .cond _ a b => quietC a && quietC b
  | .ret => true
  | _ => false
section
variable {P : Program} {G : Nat → Option (List DV)} {D : List Deferred} {N : Nat} {obj0 : Nat → OSt} {J0 : Nat → Prop} {ι0 : Nat → Nat → Option Nat} {w0 : World}
theorem vcQ_sound (n0 : Nat) : ∀ (code : Code) (c : C), quietC code = true → convC P N code = some c → ∀ (s : St) (K : Kont), vc P G c s K → ∀ a w, n0 ≤ w.drawn → AtS G D N obj0 J0 ι0 w0 s a w → code.wp P (QD n0 (KQ G D N obj0 J0 ι0 w0 K)) a w
  | .skip, c, hq, hc, s, K, h, a, w, hn, hA => by
    simp only [convC] at hc; cases hc
    exact wp_skip ⟨⟨s, hA, h⟩, fun _ => hn⟩
  | .region rid ops draw, c, hq, hc, s, K, h, a, w, hn, hA => by
    simp only [quietC] at hq
    simp only [convC] at hc
    split at hc
    · rename_i ios hios
      cases hc
      cases draw with
      | false =>
        simp only [Bool.false_eq_true,if_false,vc] at h
        simp only [convReg,Bool.false_eq_true,if_false] at hios
        obtain ⟨h1, h2⟩ := convOps_get hios
        refine wp_region_list (wpList_QD _ _ _ ?_ hn (seq_sound (Q := KQ G D N obj0 J0 ι0 w0 K) (K := K.n) (fun s a w hA hK => ⟨s, hA, hK⟩) (fun v s a w hd hO hX => ⟨v, s, rfl, hd, hO, hX⟩) _ _ _ _ _ h1 h2 h hA))
        rw [List.all_eq_true]
        intro o ho
        obtain ⟨i, hi, rfl⟩ := Array.getElem_of_mem (Array.mem_toList_iff.1 ho)
        exact (Array.all_eq_true.1 hq) i hi
      | true =>
        simp only [if_true,vc] at h
        have hd := draw_any (Q := KQ G D N obj0 J0 ι0 w0 K) (K := K.n) (fun s a w hA hK => ⟨s, hA, hK⟩) (fun v s a w hd hO hX => ⟨v, s, rfl, hd, hO, hX⟩) hios h hA
        exact wp_region_any hd.1 (wpAny_QD hq _ _ _ _ (Nat.le_succ_of_le hn) hd.2)
    · cases hc
  | .seq x y, c, hq, hc, s, K, h, a, w, hn, hA => by
    simp only [quietC,Bool.and_eq_true] at hq
    simp only [convC] at hc
    split at hc
    · rename_i cx cy h1 h2
      cases hc
      refine wp_seq (wp_mono (vcQ_sound n0 x cx hq.1 h1 s _ h a w hn hA) (fun e a' w' hQ => ?_))
      obtain ⟨hQ, hd⟩ := hQ
      cases e with
      | normal => obtain ⟨s', hA', h'⟩ := hQ; exact vcQ_sound n0 y cy hq.2 h2 s' K h' a' w' (hd (.inl rfl)) hA'
      | ret => exact ⟨hQ, hd⟩
      | exit i => exact ⟨hQ, hd⟩
      | goto l => exact ⟨hQ, hd⟩
      | panic ch => exact ⟨hQ, hd⟩
      | outgrown => exact ⟨hQ, hd⟩
    · cases hc
  | .cond x p q, c, hq, hc, s, K, h, a, w, hn, hA => by
    simp only [quietC,Bool.and_eq_true] at hq
    simp only [convC] at hc
    split at hc
    · rename_i cx cp cq h1 h2 h3
      cases hc
      simp only [vc] at h
      split at h
      · rename_i t ht
        have hv : a.eval x = .bool t := by
          obtain ⟨J, ι, S, E⟩ := hA.ex
          have hr := rep_ev S.store S.env h1
          rw [ht] at hr
          exact hr
        exact wp_cond_split hv (fun hh => vcQ_sound n0 p cp hq.1 h2 s K (by rw [if_pos hh] at h; exact h) a w hn hA) (fun hh => vcQ_sound n0 q cq hq.2 h3 s K (by rw [if_neg (by simp [hh])] at h; exact h) a w hn hA)
      · rename_i ht
        obtain ⟨t, hv⟩ : ∃ t, a.eval x = .bool t := by
          obtain ⟨J, ι, S, E⟩ := hA.ex
          have hr := rep_ev S.store S.env h1
          rw [ht] at hr
          exact hr
        exact wp_cond_split hv (fun hh => vcQ_sound n0 p cp hq.1 h2 s K h.1 a w hn hA) (fun hh => vcQ_sound n0 q cq hq.2 h3 s K h.2 a w hn hA)
      · exact h.elim
    · cases hc
  | .ret, c, hq, hc, s, K, h, a, w, hn, hA => by
    simp only [convC] at hc; cases hc
    exact wp_ret ⟨⟨s, hA, h⟩, fun _ => hn⟩
/-- a function of data alone, without calls: the count of the draws is no less then. -/
theorem tri_Q {f : Nat} {fn : Func} {ir : Nat × C × List RV} {args : List LV} {r : LV} (hf : P.funcs[f]? = some fn) (hn : (fn.name != "runtime.NumGoroutine") = true) (hcv : convFn P fn = some ir) (hl : args.length ≤ ir.1) (hid : idl 0 r = true)
    (hq : (match fn.body with | some c => quietC c | none => false) = true) (h : W P G (Ends ir.2.2 r) [.c ir.2.1] ⟨argEnv 0 args, []⟩) (J0 : Nat → Prop) (ι0 : Nat → Nat → Option Nat) (w0 : World) (vs : Array Value) (S0 : Store G J0 w0 ι0 (objL [])) (hargs : RepL J0 w0 ι0 args vs.toList) :
    Calls P f vs w0 (fun e w' => ∃ v, e = .returned v ∧ After G (objL []) (objL []) J0 ι0 w0 r v w' ∧ w0.drawn ≤ w'.drawn) := by
  unfold convFn at hcv
  split at hcv
  · rename_i code hbody
    split at hcv
    · rename_i c' rv' hc hrv
      cases hcv
      rw [hbody] at hq
      simp only [W, Wx] at h
      have hA := at_args (n := fn.ntmps) (fobjs := []) S0 hargs hl
      refine calls_of_wp hf hbody (wp_mono (vcQ_sound (D := []) (N := fn.ntmps) (obj0 := objL []) (J0 := J0) (ι0 := ι0) (w0 := w0) w0.drawn code c' hq hc _ _ h _ w0 (Nat.le_refl _) hA) (fun e a w hQ => ?_))
      obtain ⟨hQ, hd⟩ := hQ
      have fin : ∀ s, AtS G [] fn.ntmps (objL []) J0 ι0 w0 s a w → Ends rv' r s → w0.drawn ≤ w.drawn →
          a.defers = [] ∧ ∃ v, (results fn a.tmps).run P w = .ok v w ∧ ∃ v', Ending.returned v = .returned v' ∧ After G (objL []) (objL []) J0 ι0 w0 r v' w ∧ w0.drawn ≤ w.drawn := by
        intro s hA hB hdr
        obtain ⟨J, ι, S, E⟩ := hA.ex
        unfold Ends at hB
        split at hB
        · rename_i rs hrs
          cases hB
          refine ⟨S.defers, ?_⟩
          obtain ⟨v, hv1, hv2⟩ := ends_of (r := oneOr rs) [] S.store S.env S0 E hrv hrs (fun _ h => by cases h) (argR_any _ _ _ _ hid)
          exact ⟨v, hv1, v, rfl, hv2, hdr⟩
        · cases hB
      cases e with
      | normal => obtain ⟨s, hA, hB⟩ := hQ; exact fin s hA hB (hd (.inl rfl))
      | ret => obtain ⟨s, hA, hB⟩ := hQ; exact fin s hA hB (hd (.inr rfl))
      | exit i => obtain ⟨_, s, hA, hB⟩ := hQ; exact hB.elim
      | goto l => exact hQ.elim
      | panic ch => obtain ⟨v, s, h1, h2, h3, hk⟩ := hQ; exact hk.elim
      | outgrown => exact hQ.elim
    · cases hcv
  · cases hcv
end
end Dv
