/- The logical machine and its plain laws: parts V17, V18, V19, V20, V25, V21, proved sound. -/
import Derived.Test.YtkalnfkokkjliaaGreatDoorVC
import Derived.KernelRfl
import Derived.Below
set_option linter.unusedVariables false
set_option linter.unusedSimpArgs false
namespace Dv
open Go

class NC (i : I) : Prop where
  h : ∀ f as, i ≠ .call f as
instance {a} : NC (.mv a) := ⟨nofun⟩
instance {a b c} : NC (.pick a b c) := ⟨nofun⟩
instance {a b} : NC (.new a b) := ⟨nofun⟩
instance {a b} : NC (.box a b) := ⟨nofun⟩
instance {a b} : NC (.build a b) := ⟨nofun⟩
instance {a b c} : NC (.bsl a b c) := ⟨nofun⟩
instance {a} : NC (.ld1 a) := ⟨nofun⟩
instance {a b} : NC (.ldn a b) := ⟨nofun⟩
instance {a b c} : NC (.st a b c) := ⟨nofun⟩
instance {a} : NC (.nck a) := ⟨nofun⟩
instance {a b c} : NC (.bin a b c) := ⟨nofun⟩
instance {a b c} : NC (.eqb a b c) := ⟨nofun⟩
instance {a} : NC (.not a) := ⟨nofun⟩
instance {a b} : NC (.cvt a b) := ⟨nofun⟩
instance {a b} : NC (.fad a b) := ⟨nofun⟩
instance {a b} : NC (.fld1 a b) := ⟨nofun⟩
instance {a b c} : NC (.fldn a b c) := ⟨nofun⟩
instance {a b c} : NC (.ixa a b c) := ⟨nofun⟩
instance {a b c d} : NC (.ixr a b c d) := ⟨nofun⟩
instance {a b c} : NC (.ix1 a b c) := ⟨nofun⟩
instance {a b} : NC (.ixs a b) := ⟨nofun⟩
instance {a} : NC (.len a) := ⟨nofun⟩
instance {a} : NC (.lens a) := ⟨nofun⟩
instance {a b c} : NC (.mkf a b c) := ⟨nofun⟩
instance {a b} : NC (.ext a b) := ⟨nofun⟩
instance {a b c d e} : NC (.app a b c d e) := ⟨nofun⟩
instance {a b} : NC (.min a b) := ⟨nofun⟩
instance {a b} : NC (.max a b) := ⟨nofun⟩
instance {a b} : NC (.isnp a b) := ⟨nofun⟩
instance {a b} : NC (.isns a b) := ⟨nofun⟩
instance {a b c d} : NC (.eqs a b c d) := ⟨nofun⟩
instance {a} : NC (.neg a) := ⟨nofun⟩
instance {a b c d} : NC (.ixn a b c d) := ⟨nofun⟩
instance {a b c d e} : NC (.sli a b c d e) := ⟨nofun⟩
instance {a b c} : NC (.sls a b c) := ⟨nofun⟩
instance {a} : NC (.more a) := ⟨nofun⟩

inductive It where
  | c (code : C)
  | ops (l : List IOp)
  | opsD (l : List IOp) (log : List LogE)
  | blk (i : Nat)
  | lp (ts : List Nat) (m : Nat) (I : Nat → St → Prop) (k : Nat)
  | pn (p : St → Prop)
  | opsP (p : Nat) (pre : List Nat) (l : List IOp) (log : List LogE)
  | yd (Y : YO)
  | rt (n : St → Prop) (x : Nat → St → Prop)
def Wy : List It → YO
  | [] => noY
  | .yd Y :: _ => Y
  | .c _ :: t => Wy t
  | .ops _ :: t => Wy t
  | .opsD _ _ :: t => Wy t
  | .blk _ :: t => Wy t
  | .lp _ _ _ _ :: t => Wy t
  | .pn _ :: t => Wy t
  | .opsP _ _ _ _ :: t => Wy t
  | .rt _ _ :: _ => noY

section
variable (P : Program) (G : Nat → Option (List DV)) (fin : St → Prop)
mutual
def W : List It → St → Prop
  | [], s => fin s
  | .c code :: t, s => vc P G code s ⟨W t, fun i s' => Wx i t s', fin, Wy t⟩
  | .ops l :: t, s => vcOps P G (Wy t) (fun v s' => Wx PAN t (panicSt v s')) l s (W t)
  | .opsD l log :: t, s => vcOpsD P G (fun v s' => Wx PAN t (panicSt v s')) l s log (fun s' log' => indep log' = true ∧ W t s')
  | .opsP p pre l log :: _, s => vcPan P G p pre l s log
  | .pn _ :: t, s => W t s
  | .yd _ :: t, s => W t s
  | .rt n _ :: _, s => n s
  | .blk _ :: t, s => W t s
  | .lp ts m I k :: t, s => ∃ j, j < k ∧ ∃ s3, I j s3 ∧ Imp G m s s3
def Wx (i : Nat) : List It → St → Prop
  | [], _ => False
  | .c _ :: t, s => Wx i t s
  | .ops _ :: t, s => Wx i t s
  | .opsD _ _ :: t, s => Wx i t s
  | .blk j :: t, s => if i = j then W t s else Wx i t s
  | .lp _ _ _ _ :: t, s => Wx i t s
  | .pn p :: t, s => if i = PAN then p s else Wx i t s
  | .opsP _ _ _ _ :: t, s => Wx i t s
  | .yd _ :: t, s => Wx i t s
  | .rt _ x :: _, s => x i s
end
end

section
variable (P : Program) (G : Nat → Option (List DV)) (fin : St → Prop)
def WE (o : Option Eff) (d : Option Nat) (os : List IOp) (t : List It) (env : List (Nat × LV)) (objs : List (Option LObj)) : Prop := match o with
  | some e => W P G fin (.ops os :: t) ⟨putE d e.r env, updL e.wr objs ++ e.nw.map some⟩
  | none => False
def WED (o : Option Eff) (d : Option Nat) (pre : List Nat) (os : List IOp) (log : List LogE) (t : List It) (env : List (Nat × LV)) (objs : List (Option LObj)) : Prop := match o with
  | some e => W P G fin (.opsD os (log ++ [⟨pre, e.rd, (e.owned objs.length).map (·.1)⟩]) :: t) ⟨putE d e.r env, updL e.wr objs ++ e.nw.map some⟩
  | none => False
def WG (v : LV) (want : Bool) (d : Option Nat) (i : I) (pre : List Nat) (os : List IOp) (t : List It) (env : List (Nat × LV)) (objs : List (Option LObj)) : Prop := match v with
  | .d (.val (.bool b)) => if b = want then W P G fin (.ops (⟨d, i, none, pre⟩ :: os) :: t) ⟨env, objs⟩ else W P G fin (.ops os :: t) ⟨putE d .undef env, objs⟩
  | .d (.val (.tuple _)) => W P G fin (.ops os :: t) ⟨putE d .undef env, objs⟩
  | _ => False
def WGD (v : LV) (want : Bool) (d : Option Nat) (i : I) (pre : List Nat) (os : List IOp) (log : List LogE) (t : List It) (env : List (Nat × LV)) (objs : List (Option LObj)) : Prop := match v with
  | .d (.val (.bool b)) => if b = want then W P G fin (.opsD (⟨d, i, none, pre⟩ :: os) log :: t) ⟨env, objs⟩ else W P G fin (.opsD os (log ++ [⟨pre, [], []⟩]) :: t) ⟨putE d .undef env, objs⟩
  | .d (.val (.tuple _)) => W P G fin (.opsD os (log ++ [⟨pre, [], []⟩]) :: t) ⟨putE d .undef env, objs⟩
  | _ => False
def WC (v : LV) (a b : C) (t : List It) (env : List (Nat × LV)) (objs : List (Option LObj)) : Prop := match v with
  | .d (.val (.bool x)) => if x = true then W P G fin (.c a :: t) ⟨env, objs⟩ else W P G fin (.c b :: t) ⟨env, objs⟩
  | .anyb => W P G fin (.c a :: t) ⟨env, objs⟩ ∧ W P G fin (.c b :: t) ⟨env, objs⟩
  | _ => False
end

section
variable {P : Program} {G : Nat → Option (List DV)} {fin : St → Prop} {t : List It} {s : St} {env : List (Nat × LV)} {objs : List (Option LObj)} {os : List IOp} {log : List LogE}

theorem W_nil : W P G fin [] s = fin s := by simp only [W]
theorem W_seq {a b : C} : W P G fin (.c (.seq a b) :: t) s = W P G fin (.c a :: .c b :: t) s := by simp only [W,vc,Wx,Wy]
theorem W_skip : W P G fin (.c .skip :: t) s = W P G fin t s := by simp only [W,vc]
theorem W_ret : W P G fin (.c .ret :: t) s = fin s := by simp only [W,vc]
theorem W_exit {i : Nat} : W P G fin (.c (.exit i) :: t) s = Wx P G fin i t s := by simp only [W,vc]
theorem W_scope {b : C} : W P G fin (.c (.scope b) :: t) s = W P G fin (.c b :: t) s := by simp only [W,vc]
theorem W_block {i : Nat} {b : C} : W P G fin (.c (.block i b) :: t) s = W P G fin (.c b :: .blk i :: t) s := by simp only [W,vc,Wx,Wy]
theorem W_blk {i : Nat} : W P G fin (.blk i :: t) s = W P G fin t s := by simp only [W]
theorem W_reg {l : List IOp} : W P G fin (.c (.reg l) :: t) s = W P G fin (.ops l :: t) s := by simp only [W,vc]
theorem W_regD {l : List IOp} : W P G fin (.c (.regD l) :: t) s = W P G fin (.opsD l [] :: t) s := by simp only [W,vc]
theorem W_cond {c : Opd} {a b : C} : W P G fin (.c (.cond c a b) :: t) ⟨env, objs⟩ = WC P G fin (c.ev G (getE env)) a b t env objs := by simp only [W,vc,WC]; rfl
theorem WC_t {a b : C} : WC P G fin (.d (.val (.bool true))) a b t env objs = W P G fin (.c a :: t) ⟨env, objs⟩ := by simp only [WC,if_true]
theorem WC_f {a b : C} : WC P G fin (.d (.val (.bool false))) a b t env objs = W P G fin (.c b :: t) ⟨env, objs⟩ := by simp [WC]
theorem WC_any {a b : C} : WC P G fin .anyb a b t env objs = (W P G fin (.c a :: t) ⟨env, objs⟩ ∧ W P G fin (.c b :: t) ⟨env, objs⟩) := by simp only [WC]
theorem WC_split {x : Bool} {a b : C} (h1 : x = true → W P G fin (.c a :: t) ⟨env, objs⟩) (h2 : x = false → W P G fin (.c b :: t) ⟨env, objs⟩) : WC P G fin (.d (.val (.bool x))) a b t env objs := by
  cases x
  · rw [WC_f]; exact h2 rfl
  · rw [WC_t]; exact h1 rfl
theorem W_lp {ts : List Nat} {m : Nat} {I : Nat → St → Prop} {k : Nat} : W P G fin (.lp ts m I k :: t) s = (∃ j, j < k ∧ ∃ s3, I j s3 ∧ Imp G m s s3) := by simp only [W]
theorem Wx_c {i : Nat} {x : C} : Wx P G fin i (.c x :: t) s = Wx P G fin i t s := by simp only [Wx]
theorem Wx_ops {i : Nat} {x : List IOp} : Wx P G fin i (.ops x :: t) s = Wx P G fin i t s := by simp only [Wx]
theorem Wx_lp {i : Nat} {ts : List Nat} {m : Nat} {I : Nat → St → Prop} {k : Nat} : Wx P G fin i (.lp ts m I k :: t) s = Wx P G fin i t s := by simp only [Wx]
theorem Wx_blk {i j : Nat} : Wx P G fin i (.blk j :: t) s = if i = j then W P G fin t s else Wx P G fin i t s := by simp only [Wx]
theorem W_loop {b : C} (ts : List Nat) (ad : List Ad) (I : Nat → St → Prop) (N : Nat) (h0 : I N { (adopt ad s) with env := ts.map fun t => (t, (adopt ad s).get t) }) (h : ∀ k s', I k s' → W P G fin (.c b :: .lp ts (adopt ad s).objs.length I k :: t) s') : W P G fin (.c (.loop b) :: t) s := by
  simp only [W,vc]
  refine ⟨ts, I, N, ad, h0, fun k s' hk => ?_⟩
  have := h k s' hk
  simp only [W,Wx,Wy] at this
  exact this
def LoopI {α : Type} (Inv : α → Prop) (μ : α → Nat) (S : α → St) : Nat → St → Prop := fun m s => ∃ a, Inv a ∧ m = μ a ∧ s = S a
theorem W_loopI {α : Type} {b : C} (ts : List Nat) (ad : List Ad) (Inv : α → Prop) (μ : α → Nat) (S : α → St) (a0 : α) (hS : ({ (adopt ad s) with env := ts.map fun t => (t, (adopt ad s).get t) } : St) = S a0) (h0 : Inv a0)
    (h : ∀ a, Inv a → W P G fin (.c b :: .lp ts (adopt ad s).objs.length (LoopI Inv μ S) (μ a) :: t) (S a)) : W P G fin (.c (.loop b) :: t) s :=
  W_loop ts ad (LoopI Inv μ S) (μ a0) ⟨a0, h0, rfl, hS⟩ (fun k s' ⟨a, h1, h2, h3⟩ => by subst h2; subst h3; exact h a h1)
theorem W_lpI {α : Type} {ts : List Nat} {m : Nat} {Inv : α → Prop} {μ : α → Nat} {S : α → St} {k : Nat} (a' : α) (hok : s.okKeep ts m) (hS : s.keep ts m = S a') (hI : Inv a') (hμ : μ a' < k) : W P G fin (.lp ts m (LoopI Inv μ S) k :: t) s := by
  rw [W_lp]; exact ⟨μ a', hμ, _, ⟨a', hI, rfl, rfl⟩, hS ▸ Imp.keep hok⟩
theorem W_ops_nil : W P G fin (.ops [] :: t) s = W P G fin t s := by simp only [W,vcOps]
theorem W_opsD_q (h : (log.all fun e => e.wr.isEmpty) = true) : W P G fin (.opsD [] log :: t) s = W P G fin t s := by
  simp only [W,vcOpsD,indep,h,Bool.true_or]; exact propext ⟨fun h => h.2, fun h => ⟨trivial, h⟩⟩
theorem W_opsD_end (h : indep log = true) (hk : W P G fin t s) : W P G fin (.opsD [] log :: t) s := by simp only [W,vcOpsD]; exact ⟨h, hk⟩
theorem W_guard {d : Option Nat} {i : I} {g : Nat} {want : Bool} {pre : List Nat} : W P G fin (.ops (⟨d, i, some (g, want), pre⟩ :: os) :: t) ⟨env, objs⟩ = WG P G fin (getE env g) want d i pre os t env objs := by simp only [W,vcOps,vcG,vcE,WG]; rfl
theorem W_guardD {d : Option Nat} {i : I} {g : Nat} {want : Bool} {pre : List Nat} : W P G fin (.opsD (⟨d, i, some (g, want), pre⟩ :: os) log :: t) ⟨env, objs⟩ = WGD P G fin (getE env g) want d i pre os log t env objs := by simp only [W,vcOpsD,vcG,vcE,WGD]; rfl
theorem WG_tt {d : Option Nat} {i : I} {pre : List Nat} : WG P G fin (.d (.val (.bool true))) true d i pre os t env objs = W P G fin (.ops (⟨d, i, none, pre⟩ :: os) :: t) ⟨env, objs⟩ := by simp only [WG,if_true]
theorem WG_ff {d : Option Nat} {i : I} {pre : List Nat} : WG P G fin (.d (.val (.bool false))) false d i pre os t env objs = W P G fin (.ops (⟨d, i, none, pre⟩ :: os) :: t) ⟨env, objs⟩ := by simp only [WG,if_true]
theorem WG_tf {d : Option Nat} {i : I} {pre : List Nat} : WG P G fin (.d (.val (.bool true))) false d i pre os t env objs = W P G fin (.ops os :: t) ⟨putE d .undef env, objs⟩ := by simp [WG]
theorem WG_ft {d : Option Nat} {i : I} {pre : List Nat} : WG P G fin (.d (.val (.bool false))) true d i pre os t env objs = W P G fin (.ops os :: t) ⟨putE d .undef env, objs⟩ := by simp [WG]
theorem WG_u {d : Option Nat} {i : I} {pre : List Nat} {want : Bool} {v : Array Value} : WG P G fin (.d (.val (.tuple v))) want d i pre os t env objs = W P G fin (.ops os :: t) ⟨putE d .undef env, objs⟩ := by simp only [WG]
theorem WG_split {x want : Bool} {d : Option Nat} {i : I} {pre : List Nat} (h1 : x = want → W P G fin (.ops (⟨d, i, none, pre⟩ :: os) :: t) ⟨env, objs⟩) (h2 : x = (!want) → W P G fin (.ops os :: t) ⟨putE d .undef env, objs⟩) : WG P G fin (.d (.val (.bool x))) want d i pre os t env objs := by
  cases x <;> cases want
  · rw [WG_ff]; exact h1 rfl
  · rw [WG_ft]; exact h2 rfl
  · rw [WG_tf]; exact h2 rfl
  · rw [WG_tt]; exact h1 rfl
theorem WGD_tt {d : Option Nat} {i : I} {pre : List Nat} : WGD P G fin (.d (.val (.bool true))) true d i pre os log t env objs = W P G fin (.opsD (⟨d, i, none, pre⟩ :: os) log :: t) ⟨env, objs⟩ := by simp only [WGD,if_true]
theorem WGD_ff {d : Option Nat} {i : I} {pre : List Nat} : WGD P G fin (.d (.val (.bool false))) false d i pre os log t env objs = W P G fin (.opsD (⟨d, i, none, pre⟩ :: os) log :: t) ⟨env, objs⟩ := by simp only [WGD,if_true]
theorem WGD_tf {d : Option Nat} {i : I} {pre : List Nat} : WGD P G fin (.d (.val (.bool true))) false d i pre os log t env objs = W P G fin (.opsD os (log ++ [⟨pre, [], []⟩]) :: t) ⟨putE d .undef env, objs⟩ := by simp [WGD]
theorem WGD_ft {d : Option Nat} {i : I} {pre : List Nat} : WGD P G fin (.d (.val (.bool false))) true d i pre os log t env objs = W P G fin (.opsD os (log ++ [⟨pre, [], []⟩]) :: t) ⟨putE d .undef env, objs⟩ := by simp [WGD]
theorem WGD_u {d : Option Nat} {i : I} {pre : List Nat} {want : Bool} {v : Array Value} : WGD P G fin (.d (.val (.tuple v))) want d i pre os log t env objs = W P G fin (.opsD os (log ++ [⟨pre, [], []⟩]) :: t) ⟨putE d .undef env, objs⟩ := by simp only [WGD]
theorem WGD_split {x want : Bool} {d : Option Nat} {i : I} {pre : List Nat} (h1 : x = want → W P G fin (.opsD (⟨d, i, none, pre⟩ :: os) log :: t) ⟨env, objs⟩) (h2 : x = (!want) → W P G fin (.opsD os (log ++ [⟨pre, [], []⟩]) :: t) ⟨putE d .undef env, objs⟩) : WGD P G fin (.d (.val (.bool x))) want d i pre os log t env objs := by
  cases x <;> cases want
  · rw [WGD_ff]; exact h1 rfl
  · rw [WGD_ft]; exact h2 rfl
  · rw [WGD_tf]; exact h2 rfl
  · rw [WGD_tt]; exact h1 rfl
theorem WG_splitn {x want : Bool} {d : Option Nat} {i : I} {pre : List Nat} (h1 : x = (!want) → W P G fin (.ops (⟨d, i, none, pre⟩ :: os) :: t) ⟨env, objs⟩) (h2 : x = want → W P G fin (.ops os :: t) ⟨putE d .undef env, objs⟩) : WG P G fin (.d (.val (.bool (!x)))) want d i pre os t env objs :=
  WG_split (fun h => h1 (by cases x <;> cases want <;> simp_all)) (fun h => h2 (by cases x <;> cases want <;> simp_all))
theorem WC_splitn {x : Bool} {a b : C} (h1 : x = false → W P G fin (.c a :: t) ⟨env, objs⟩) (h2 : x = true → W P G fin (.c b :: t) ⟨env, objs⟩) : WC P G fin (.d (.val (.bool (!x)))) a b t env objs :=
  WC_split (fun h => h1 (by simpa using h)) (fun h => h2 (by simpa using h))
theorem WE_some {d : Option Nat} {e : Eff} : WE P G fin (some e) d os t env objs = W P G fin (.ops os :: t) ⟨putE d e.r env, updL e.wr objs ++ e.nw.map some⟩ := by simp only [WE]
theorem WED_some {d : Option Nat} {e : Eff} {pre : List Nat} : WED P G fin (some e) d pre os log t env objs = W P G fin (.opsD os (log ++ [⟨pre, e.rd, (e.owned objs.length).map (·.1)⟩]) :: t) ⟨putE d e.r env, updL e.wr objs ++ e.nw.map some⟩ := by simp only [WED]
theorem W_eff {d : Option Nat} {i : I} {pre : List Nat} (hi : ∀ f as, i ≠ .call f as) : W P G fin (.ops (⟨d, i, none, pre⟩ :: os) :: t) ⟨env, objs⟩ = WE P G fin (effF G (getE env) (objL objs) objs.length i) d os t env objs := by
  simp only [W,vcOps,vcG,vcE,WE]
  cases i <;> first | rfl | exact absurd rfl (hi _ _)
theorem W_effD {d : Option Nat} {i : I} {pre : List Nat} (hi : ∀ f as, i ≠ .call f as) : W P G fin (.opsD (⟨d, i, none, pre⟩ :: os) log :: t) ⟨env, objs⟩ = WED P G fin (effF G (getE env) (objL objs) objs.length i) d pre os log t env objs := by
  simp only [W,vcOpsD,vcG,vcE,WED]
  cases i <;> first | rfl | exact absurd rfl (hi _ _)
theorem W_effS {d : Option Nat} {i : I} [hi : NC i] {pre : List Nat} : W P G fin (.ops (⟨d, i, none, pre⟩ :: os) :: t) ⟨env, objs⟩ = WE P G fin (effF G (getE env) (objL objs) objs.length i) d os t env objs := W_eff hi.h
theorem WD_effS {d : Option Nat} {i : I} [hi : NC i] {pre : List Nat} : W P G fin (.opsD (⟨d, i, none, pre⟩ :: os) log :: t) ⟨env, objs⟩ = WED P G fin (effF G (getE env) (objL objs) objs.length i) d pre os log t env objs := W_effD hi.h
end


section
variable {P : Program} {G : Nat → Option (List DV)}
def YMono (Y : YO) : Prop := ∀ a o y K K', (∀ y b o, K y b o → K' y b o) → Y a o y K → Y a o y K'
theorem YMono.no : YMono noY := fun _ _ _ _ _ _ h => h.elim
theorem vcE_mono {Y : YO} (hm : YMono Y) {X X' : Value → Eff → St → Prop} {o : IOp} {s : St} {K K' : St → Eff → Prop} (hX : ∀ v e s, X v e s → X' v e s) (h : ∀ s e, K s e → K' s e) (hv : vcE P G Y X o s K) : vcE P G Y X' o s K' := by
  unfold vcE at hv ⊢
  split at hv
  · split at hv
    · rcases hv with ⟨e, h1, h2⟩ | ⟨p, e, h1, h2⟩
      · exact .inl ⟨e, h1, h _ _ h2⟩
      · exact .inr ⟨p, e, h1, hX _ _ _ h2⟩
    · unfold vcY at hv ⊢
      split at hv
      · exact hm _ _ _ _ _ (fun _ _ _ hk => h _ _ hk) hv
      · exact hv
  · split at hv
    · exact h _ _ hv
    · exact hv
theorem vcG_mono {Y : YO} (hm : YMono Y) {X X' : Value → Eff → St → Prop} {o : IOp} {s : St} {K K' : St → Eff → Prop} {K0 K0' : St → Prop} (hX : ∀ v e s, X v e s → X' v e s) (h : ∀ s e, K s e → K' s e) (h0 : ∀ s, K0 s → K0' s) (hv : vcG P G Y X o s K K0) : vcG P G Y X' o s K' K0' := by
  unfold vcG at hv ⊢
  split at hv
  · exact vcE_mono hm hX h hv
  · split at hv
    · split at hv
      · rename_i hb; rw [if_pos hb]; exact vcE_mono hm hX h hv
      · rename_i hb; rw [if_neg hb]; exact h0 _ hv
    · exact h0 _ hv
    · exact hv
theorem vcOps_mono {Y : YO} (hm : YMono Y) {X X' : Value → St → Prop} {K K' : St → Prop} (hX : ∀ v s, X v s → X' v s) (h : ∀ s, K s → K' s) : ∀ (os : List IOp) (s : St), vcOps P G Y X os s K → vcOps P G Y X' os s K'
  | [], s, hv => h s hv
  | o :: os, s, hv => by
    simp only [vcOps] at hv ⊢
    exact vcG_mono hm (fun v _ s hk => hX v s hk) (fun s e hk => vcOps_mono hm hX h os s hk) (fun s hk => vcOps_mono hm hX h os s hk) hv
theorem vcOpsD_mono {X X' : Value → St → Prop} {K K' : St → List LogE → Prop} (hX : ∀ v s, X v s → X' v s) (h : ∀ s l, K s l → K' s l) : ∀ (os : List IOp) (s : St) (log : List LogE), vcOpsD P G X os s log K → vcOpsD P G X' os s log K'
  | [], s, log, hv => h s log hv
  | o :: os, s, log, hv => by
    simp only [vcOpsD] at hv ⊢
    exact vcG_mono YMono.no (fun v _ s hk => ⟨hX v _ hk.1, hk.2⟩) (fun s e hk => vcOpsD_mono hX h os s _ hk) (fun s hk => vcOpsD_mono hX h os s _ hk) hv
theorem vc_monoY : ∀ (c : C) (s : St) (K K' : Kont), K'.y = K.y → YMono K.y → (∀ s, K.n s → K'.n s) → (∀ i s, K.x i s → K'.x i s) → (∀ s, K.r s → K'.r s) → vc P G c s K → vc P G c s K'
  | .skip, s, K, K', hy, hm, hn, hx, hr, h => hn s h
  | .reg ops, s, K, K', hy, hm, hn, hx, hr, h => (by simp only [vc] at h ⊢; rw [hy]; exact vcOps_mono hm (fun v s h => hx _ _ h) hn ops s h)
  | .regD ops, s, K, K', hy, hm, hn, hx, hr, h => vcOpsD_mono (fun v s h => hx _ _ h) (fun s l ⟨h1, h2⟩ => ⟨h1, hn s h2⟩) ops s [] h
  | .seq a b, s, K, K', hy, hm, hn, hx, hr, h => vc_monoY a s { K with n := fun s' => vc P G b s' K } { K' with n := fun s' => vc P G b s' K' } hy hm (fun s h => vc_monoY b s K K' hy hm hn hx hr h) hx hr h
  | .cond c a b, s, K, K', hy, hm, hn, hx, hr, h => by
    simp only [vc] at h ⊢
    split at h
    · split at h
      · rename_i hb; rw [if_pos hb]; exact vc_monoY a s K K' hy hm hn hx hr h
      · rename_i hb; rw [if_neg hb]; exact vc_monoY b s K K' hy hm hn hx hr h
    · exact ⟨vc_monoY a s K K' hy hm hn hx hr h.1, vc_monoY b s K K' hy hm hn hx hr h.2⟩
    · exact h
  | .block i b, s, K, K', hy, hm, hn, hx, hr, h => vc_monoY b s { K with x := fun j s' => if j = i then K.n s' else K.x j s' } { K' with x := fun j s' => if j = i then K'.n s' else K'.x j s' } hy hm hn (fun j s h => by
      dsimp only at h ⊢
      split at h
      · rename_i hb; rw [if_pos hb]; exact hn s h
      · rename_i hb; rw [if_neg hb]; exact hx j s h) hr h
  | .loop b, s, K, K', hy, hm, hn, hx, hr, h => by
    simp only [vc] at h ⊢
    obtain ⟨ts, I, N, ad, h0, h1⟩ := h
    exact ⟨ts, I, N, ad, h0, fun k s' hk => vc_monoY b s' { K with n := fun s'' => ∃ j, j < k ∧ ∃ s3, I j s3 ∧ Imp G (adopt ad s).objs.length s'' s3 } { K' with n := fun s'' => ∃ j, j < k ∧ ∃ s3, I j s3 ∧ Imp G (adopt ad s).objs.length s'' s3 } hy hm (fun s h => h) hx hr (h1 k s' hk)⟩
  | .exit i, s, K, K', hy, hm, hn, hx, hr, h => hx i s h
  | .ret, s, K, K', hy, hm, hn, hx, hr, h => hr s h
  | .scope b, s, K, K', hy, hm, hn, hx, hr, h => vc_monoY b s K K' hy hm hn hx hr h
  | .rfn g ps a b, s, K, K', hy, hm, hn, hx, hr, h => by
    simp only [vc] at h ⊢
    split at h
    · obtain ⟨jm, R, h1, h2⟩ := h
      refine ⟨jm, R, h1, fun yv objs' hR => ?_⟩
      rcases h2 yv objs' hR with ⟨h3, h4⟩ | ⟨h3, h4⟩
      · exact .inl ⟨h3, hn _ h4⟩
      · refine .inr ⟨h3, ?_⟩
        cases jm with
        | none => exact hr _ h4
        | some i => exact ⟨h4.1, hx _ _ h4.2⟩
    · exact h
theorem vc_mono (c : C) (s : St) (K K' : Kont) (hn : ∀ s, K.n s → K'.n s) (hx : ∀ i s, K.x i s → K'.x i s) (hr : ∀ s, K.r s → K'.r s) (h : vc P G c s K) (h1 : K.y = noY := by rfl) (h2 : K'.y = noY := by rfl) : vc P G c s K' :=
  vc_monoY c s K K' (h2.trans h1.symm) (h1 ▸ YMono.no) hn hx hr h
theorem roundY.mono {jm : Option Nat} {ps : List Nat} {a b : C} {s : St} : YMono (roundY P G jm ps a b s) := by
  intro as o y K K' hK h
  obtain ⟨h1, h2, h3, h4⟩ := h
  refine ⟨h1, h2, h3, ?_⟩
  have keyA : ∀ (s : St) (K1 K2 : Kont), vc P G a s K1 → K1.y = noY → K2.y = noY → (∀ s, K1.n s → K2.n s) → (∀ i s, K1.x i s → K2.x i s) → (∀ s, K1.r s → K2.r s) → vc P G a s K2 := fun s K1 K2 a4 e1 e2 a1 a2 a3 => vc_mono a s K1 K2 a1 a2 a3 a4 e1 e2
  refine keyA _ _ _ h4 rfl rfl ?_ (fun _ _ h => h) (fun _ h => h)
  intro s1 h5
  dsimp only at h5 ⊢
  have key : ∀ (K1 K2 : Kont), vc P G b s1 K1 → K1.y = noY → K2.y = noY → (∀ s, K1.n s → K2.n s) → (∀ i s, K1.x i s → K2.x i s) → (∀ s, K1.r s → K2.r s) → vc P G b s1 K2 := fun K1 K2 a4 e1 e2 a1 a2 a3 => vc_mono b s1 K1 K2 a1 a2 a3 a4 e1 e2
  refine key _ _ h5 rfl rfl ?_ ?_ ?_
  · exact fun s' h6 => hK _ _ _ h6
  · exact fun i s' h6 => ⟨h6.1, h6.2.1, hK _ _ _ h6.2.2⟩
  · exact fun s' h6 => ⟨h6.1, hK _ _ _ h6.2⟩
end


section
variable {P : Program} {G : Nat → Option (List DV)} {fin : St → Prop} {t : List It} {env : List (Nat × LV)} {objs : List (Option LObj)} {os : List IOp} {log : List LogE}
theorem W_call {d : Option Nat} {f : Opd} {as : List Opd} {pre : List Nat} {k : Nat} {fs cs : List LV} (e : Eff) (hc : callee (f.ev G (getE env)) = some (k, fs, cs)) (h : CallEff P G k (fs ++ as.map (·.ev G (getE env)) ++ cs) (objL objs) objs.length e)
    (hk : W P G fin (.ops os :: t) ⟨putE d e.r env, updL e.wr objs ++ e.nw.map some⟩) : W P G fin (.ops (⟨d, .call f as, none, pre⟩ :: os) :: t) ⟨env, objs⟩ := by
  simp only [W,vcOps,vcG,vcE]
  have hc' : callee (f.ev G (St.get ⟨env, objs⟩)) = some (k, fs, cs) := hc
  rw [hc']
  simp only [W] at hk
  exact .inl ⟨e, h, hk⟩
theorem WD_call {d : Option Nat} {f : Opd} {as : List Opd} {pre : List Nat} {k : Nat} {fs cs : List LV} (e : Eff) (hc : callee (f.ev G (getE env)) = some (k, fs, cs)) (h : CallEff P G k (fs ++ as.map (·.ev G (getE env)) ++ cs) (objL objs) objs.length e)
    (hk : W P G fin (.opsD os (log ++ [⟨pre, e.rd, (e.owned objs.length).map (·.1)⟩]) :: t) ⟨putE d e.r env, updL e.wr objs ++ e.nw.map some⟩) : W P G fin (.opsD (⟨d, .call f as, none, pre⟩ :: os) log :: t) ⟨env, objs⟩ := by
  simp only [W,vcOpsD,vcG,vcE]
  have hc' : callee (f.ev G (St.get ⟨env, objs⟩)) = some (k, fs, cs) := hc
  rw [hc']
  simp only [W] at hk
  exact .inl ⟨e, h, hk⟩

theorem CallEff.pure {k : Nat} {args fargs : List LV} {obj : Nat → OSt} {base : Nat} {r : LV} (Z : List Nat) (hT : Tri P G k fargs [] r []) (ha : argRs obj [] Z args fargs) (hZ : ∀ z ∈ Z, ∃ et e rows, obj z = .live (.dat et e rows) ∨ obj z = .live (.frz et e rows)) (hr : noJ r = true) :
    CallEff P G k args obj base { r := rn (piOf [] base) r, rd := Z, wr := [], nw := [] } :=
  ⟨⟨[], Z, true, fargs, [], r, [], (fun _ => true), (fun _ _ _ h => by cases h), List.nodup_nil, (fun _ _ h => by cases h), hZ, rfl, (fun i o h => by simp at h), rfl, ha, (fun _ => ⟨hr, rfl, rfl⟩), Nat.le_refl _, hT, rfl⟩⟩
theorem CallEff.data {k : Nat} {args fargs : List LV} {obj : Nat → OSt} {base : Nat} {r : LV} {fobjs' : List LObj} (hT : Tri P G k fargs [] r fobjs') (ha : argRs obj [] [] args fargs) :
    CallEff P G k args obj base { r := rn (piOf [] base) r, rd := [], wr := [], nw := fobjs'.map (rnO (piOf [] base)) } :=
  ⟨⟨[], [], false, fargs, [], r, fobjs', (fun _ => true), (fun _ _ _ h => by cases h), List.nodup_nil, (fun _ h => by cases h), (fun _ h => by cases h), rfl, (fun i o h => by simp at h), rfl, ha, (fun h => by cases h), Nat.zero_le _, hT, rfl⟩⟩

def Ends0 (rv : List RV) (r : LV) (s : St) : Prop := (match RVs.of s rv with | some vs => some (oneOr vs) | none => none) = some r
theorem CallEff.hand {k : Nat} {args fargs : List LV} {obj : Nat → OSt} {base : Nat} {r : LV} {fobjs fobjs' : List LObj} (ρ : List Nat) (hT : Tri P G k fargs fobjs r fobjs') (ha : argRs obj ρ [] args fargs) (hnd : ρ.Nodup) (ho : ρ.map obj = fobjs.map (fun ob => OSt.live (rnO (piOf ρ base) ob))) (hid : fobjs.all (idlO ρ.length) = true) (hle : fobjs.length ≤ fobjs'.length) :
    CallEff P G k args obj base { r := rn (piOf ρ base) r, rd := ρ, wr := ρ.zip (fobjs'.map (rnO (piOf ρ base))), nw := (fobjs'.drop ρ.length).map (rnO (piOf ρ base)) } :=
  ⟨⟨ρ, [], false, fargs, fobjs, r, fobjs', (fun _ => true), (fun _ _ _ h => by cases h), hnd, (fun _ h => by cases h), (fun _ h => by cases h), by have := congrArg List.length ho; simpa using this.symm, (fun i o hi => by
    have h1 : (ρ.map obj)[i]? = some (obj o) := by rw [List.getElem?_map, hi]; rfl
    rw [ho, List.getElem?_map] at h1
    cases hf : fobjs[i]? with
    | none => rw [hf] at h1; cases h1
    | some ob => rw [hf] at h1; simp at h1; exact ⟨ob, rfl, h1.symm⟩), hid, ha, (fun h => by cases h), hle, hT, by rw [List.filter_eq_self.2 (fun _ _ => rfl)]; simp [frzs]⟩⟩
theorem CallEff.frz {k : Nat} {args fargs : List LV} {obj : Nat → OSt} {base : Nat} {r : LV} (Z : List Nat) (hT : Tri P G k fargs [] r []) (ha : argRs obj [] Z args fargs) (hZ : ∀ z ∈ Z, ∃ et e rows, obj z = .live (.dat et e rows) ∨ obj z = .live (.frz et e rows)) :
    CallEff P G k args obj base { r := rn (piOf [] base) r, rd := Z, wr := frzs obj Z, nw := [] } :=
  ⟨⟨[], Z, false, fargs, [], r, [], (fun _ => true), (fun _ _ _ h => by cases h), List.nodup_nil, (fun _ _ h => by cases h), hZ, rfl, (fun i o h => by simp at h), rfl, ha, (fun h => by cases h), Nat.le_refl _, hT, rfl⟩⟩
theorem Back0 {rv : List RV} {r : LV} {s : St} {vs : List LV} (h : RVs.of s rv = some vs) (hr : argR s.obj [] [] (oneOr vs) r) : Back rv 0 r [] s :=
  ⟨[], vs, [], [], h, rfl, List.nodup_nil, (fun _ h => by cases h), (fun _ h => by cases h), rfl, (fun i o h => by simp at h), rfl, hr⟩

theorem BackZ {rv : List RV} {r : LV} {s : St} {vs : List LV} (Z : List Nat) (h : RVs.of s rv = some vs) (hZ : ∀ z ∈ Z, ∃ et e rows, s.obj z = .live (.dat et e rows) ∨ s.obj z = .live (.frz et e rows)) (hr : argR s.obj [] Z (oneOr vs) r) : Back rv 0 r [] s :=
  ⟨[], vs, [], Z, h, rfl, List.nodup_nil, (fun _ _ h => by cases h), hZ, rfl, (fun i o h => by simp at h), rfl, hr⟩
theorem BackO {rv : List RV} {s : St} {o et e n k lo : Nat} {rows : List (List DV)} (ad : List Ad) (h : RVs.of (adopt ad s) rv = some [.sl o n e lo k]) (ho : (adopt ad s).obj o = .live (.dat et e rows)) : Back rv 0 (.sl 0 n e lo k) [.dat et e rows] s :=
  ⟨ad, _, [o], [], h, rfl, (by simp), (fun _ h => by cases h), (fun _ h => by cases h), rfl, (fun i o' h => by
    cases i with
    | zero => simp at h; subst h; exact ⟨_, rfl, ho⟩
    | succ i => simp at h), rfl, by simp [oneOr,argR]⟩
theorem BackR {rv : List RV} {r : LV} {s : St} {vs : List LV} {k : Nat} {fobjs' : List LObj} (ad : List Ad) (ρ Z : List Nat) (h : RVs.of (adopt ad s) rv = some vs) (hk : ρ.take k = List.range k) (hnd : ρ.Nodup) (hz : ∀ z ∈ Z, z ∉ ρ) (hZ : ∀ z ∈ Z, ∃ et e rows, (adopt ad s).obj z = .live (.dat et e rows) ∨ (adopt ad s).obj z = .live (.frz et e rows))
    (ho : ρ.map (adopt ad s).obj = fobjs'.map (fun ob => OSt.live (rnO (piOf ρ 0) ob))) (hid : fobjs'.all (idlO ρ.length) = true) (hr : argR (adopt ad s).obj ρ Z (oneOr vs) r) : Back rv k r fobjs' s :=
  ⟨ad, vs, ρ, Z, h, hk, hnd, hz, hZ, by have := congrArg List.length ho; simpa using this.symm, (fun i o hi => by
    have h1 : (ρ.map (adopt ad s).obj)[i]? = some ((adopt ad s).obj o) := by rw [List.getElem?_map, hi]; rfl
    rw [ho, List.getElem?_map] at h1
    cases hf : fobjs'[i]? with
    | none => rw [hf] at h1; cases h1
    | some ob => rw [hf] at h1; simp at h1; exact ⟨ob, rfl, h1.symm⟩), hid, hr⟩
theorem get_map {α β : Type} {f : α → β} {l : List α} {k : Nat} (h : k < l.length) : (l.map f)[k]? = some (f l[k]) := by simp [h]
theorem get_mapD {α β : Type} {f : α → β} {l : List α} {k : Nat} (z : α) (h : k < l.length) : (l.map f)[k]? = some (f (l.getD k z)) := by simp [h,List.getD]
theorem lt_of_dec {k n : Nat} (h : decide ((k : Int) < (n : Int)) = true) : k < n := by simpa using h
theorem eq_of_dec {k n : Nat} (h : decide ((k : Int) < (n : Int)) = false) (hk : k ≤ n) : k = n := by
  have : ¬ (k < n) := by simpa using h
  omega
@[reducible] def i64 (n : Int) : DV := .val (.int .i64 n)
@[reducible] def bl (b : Bool) : DV := .val (.bool b)
theorem wrap_in {n : Int} (h1 : -9223372036854775808 ≤ n) (h2 : n ≤ 9223372036854775807) : IntKind.i64.wrap n = n := by
  simp [IntKind.wrap,IntKind.bits,IntKind.signed]; omega
theorem wrap_succ {k : Nat} (h : k < 9223372036854775807) : IntKind.i64.wrap ((k : Int) + 1) = ((k + 1 : Nat) : Int) := by
  rw [wrap_in (by omega) (by omega)]; rfl

/-- A FUNCTION KEEPS ITS CONTRACT, if its walk goes through. -/
theorem tri_W {f : Nat} {fn : Func} {ir : Nat × C × List RV} {args : List LV} {fobjs fobjs' : List LObj} {r : LV} (hf : P.funcs[f]? = some fn) (hn : (fn.name != "runtime.NumGoroutine") = true) (hcv : convFn P fn = some ir) (hl : args.length ≤ ir.1)
    (h : W P G (Back ir.2.2 fobjs.length r fobjs') [.c ir.2.1] ⟨argEnv 0 args, fobjs.map some⟩) : Tri P G f args fobjs r fobjs' := by
  refine tri_of hf (by simpa using hn) (N := ir.1) (c := ir.2.1) (rv := ir.2.2) hcv hl ?_
  simp only [W, Wx] at h
  exact h

mutual
theorem rn_data (π : Nat → Nat) : ∀ (x : LV), idl 0 x = true → rn π x = x
  | .top, _ => rfl
  | .d x, _ => rfl
  | .anyb, _ => rfl
  | .ptr .., h => by simp [idl] at h
  | .rp .., h => by simp [idl] at h
  | .ip .., _ => rfl
  | .sl .., h => by simp [idl] at h
  | .fn f a b, h => by
    simp only [idl,Bool.and_eq_true] at h
    simp only [rn,rnL_data π a h.1,rnL_data π b h.2]
  | .agg cs, h => by simp only [idl] at h; simp only [rn,rnL_data π cs h]
  | .tup cs, h => by simp only [idl] at h; simp only [rn,rnL_data π cs h]
  | .ifc t x, h => by simp only [idl] at h; simp only [rn,rn_data π x h]
  | .yl .., h => by simp [idl] at h
  | .mr .., h => by simp [idl] at h
theorem rnL_data (π : Nat → Nat) : ∀ (xs : List LV), idlL 0 xs = true → rnL π xs = xs
  | [], _ => rfl
  | x :: xs, h => by
    simp only [idlL,Bool.and_eq_true] at h
    simp only [rnL,rn_data π x h.1,rnL_data π xs h.2]
end

mutual
theorem argR_any (obj : Nat → OSt) (ρ Z : List Nat) : ∀ (x : LV), idl 0 x = true → argR obj ρ Z x x
  | .top, _ => by simp [argR]
  | .d x, _ => by simp [argR]
  | .anyb, _ => by simp [argR]
  | .ptr .., h => by simp [idl] at h
  | .rp .., h => by simp [idl] at h
  | .ip .., _ => by simp [argR]
  | .sl .., h => by simp [idl] at h
  | .fn f a b, h => by
    simp only [idl,Bool.and_eq_true] at h
    simp only [argR]; exact ⟨trivial, argRs_any obj ρ Z a h.1, argRs_any obj ρ Z b h.2⟩
  | .agg cs, h => by simp only [idl] at h; simp only [argR]; exact argRs_any obj ρ Z cs h
  | .tup cs, h => by simp only [idl] at h; simp only [argR]; exact argRs_any obj ρ Z cs h
  | .ifc t x, h => by simp only [idl] at h; simp only [argR]; exact ⟨trivial, argR_any obj ρ Z x h⟩
  | .yl .., h => by simp [idl] at h
  | .mr .., h => by simp [idl] at h
theorem argRs_any (obj : Nat → OSt) (ρ Z : List Nat) : ∀ (xs : List LV), idlL 0 xs = true → argRs obj ρ Z xs xs
  | [], _ => by simp [argRs]
  | x :: xs, h => by
    simp only [idlL,Bool.and_eq_true] at h
    simp only [argRs]; exact ⟨argR_any obj ρ Z x h.1, argRs_any obj ρ Z xs h.2⟩
end

theorem W_calld {d : Option Nat} {f : Opd} {as : List Opd} {pre : List Nat} {k : Nat} {fs cs fargs : List LV} {r : LV} (hT : Tri P G k fargs [] r []) (hc : callee (f.ev G (getE env)) = some (k, fs, cs)) (ha : fs ++ as.map (·.ev G (getE env)) ++ cs = fargs) (hid : idlL 0 fargs = true) (hr : idl 0 r = true)
    (hk : W P G fin (.ops os :: t) ⟨putE d r env, objs⟩) : W P G fin (.ops (⟨d, .call f as, none, pre⟩ :: os) :: t) ⟨env, objs⟩ := by
  refine W_call _ hc (CallEff.data hT (by rw [ha]; exact argRs_any _ _ _ _ hid)) ?_
  simpa [rn_data _ _ hr, updL] using hk
theorem WD_calld {d : Option Nat} {f : Opd} {as : List Opd} {pre : List Nat} {k : Nat} {fs cs fargs : List LV} {r : LV} (hT : Tri P G k fargs [] r []) (hc : callee (f.ev G (getE env)) = some (k, fs, cs)) (ha : fs ++ as.map (·.ev G (getE env)) ++ cs = fargs) (hid : idlL 0 fargs = true) (hr : idl 0 r = true)
    (hk : W P G fin (.opsD os (log ++ [⟨pre, [], []⟩]) :: t) ⟨putE d r env, objs⟩) : W P G fin (.opsD (⟨d, .call f as, none, pre⟩ :: os) log :: t) ⟨env, objs⟩ := by
  refine WD_call _ hc (CallEff.data hT (by rw [ha]; exact argRs_any _ _ _ _ hid)) ?_
  simpa [rn_data _ _ hr, updL, Eff.owned, nwp] using hk
theorem W_callz {d : Option Nat} {f : Opd} {as : List Opd} {pre : List Nat} {k : Nat} {fs cs fargs : List LV} {r : LV} (Z : List Nat) (hT : Tri P G k fargs [] r []) (hc : callee (f.ev G (getE env)) = some (k, fs, cs)) (ha : argRs (objL objs) [] Z (fs ++ as.map (·.ev G (getE env)) ++ cs) fargs)
    (hZ : ∀ z ∈ Z, ∃ et e rows, objL objs z = .live (.dat et e rows) ∨ objL objs z = .live (.frz et e rows)) (hj : noJ r = true) (hr : idl 0 r = true)
    (hk : W P G fin (.ops os :: t) ⟨putE d r env, objs⟩) : W P G fin (.ops (⟨d, .call f as, none, pre⟩ :: os) :: t) ⟨env, objs⟩ := by
  refine W_call _ hc (CallEff.pure Z hT ha hZ hj) ?_
  simpa [rn_data _ _ hr, updL] using hk
theorem WD_callz {d : Option Nat} {f : Opd} {as : List Opd} {pre : List Nat} {k : Nat} {fs cs fargs : List LV} {r : LV} (Z : List Nat) (hT : Tri P G k fargs [] r []) (hc : callee (f.ev G (getE env)) = some (k, fs, cs)) (ha : argRs (objL objs) [] Z (fs ++ as.map (·.ev G (getE env)) ++ cs) fargs)
    (hZ : ∀ z ∈ Z, ∃ et e rows, objL objs z = .live (.dat et e rows) ∨ objL objs z = .live (.frz et e rows)) (hj : noJ r = true) (hr : idl 0 r = true)
    (hk : W P G fin (.opsD os (log ++ [⟨pre, Z, []⟩]) :: t) ⟨putE d r env, objs⟩) : W P G fin (.opsD (⟨d, .call f as, none, pre⟩ :: os) log :: t) ⟨env, objs⟩ := by
  refine WD_call _ hc (CallEff.pure Z hT ha hZ hj) ?_
  simpa [rn_data _ _ hr, updL, Eff.owned, nwp] using hk
theorem W_callf {d : Option Nat} {f : Opd} {as : List Opd} {pre : List Nat} {k : Nat} {fs cs fargs : List LV} {r : LV} (Z : List Nat) (hT : Tri P G k fargs [] r []) (hc : callee (f.ev G (getE env)) = some (k, fs, cs)) (ha : argRs (objL objs) [] Z (fs ++ as.map (·.ev G (getE env)) ++ cs) fargs)
    (hZ : ∀ z ∈ Z, ∃ et e rows, objL objs z = .live (.dat et e rows) ∨ objL objs z = .live (.frz et e rows)) (hr : idl 0 r = true)
    (hk : W P G fin (.ops os :: t) ⟨putE d r env, updL (frzs (objL objs) Z) objs⟩) : W P G fin (.ops (⟨d, .call f as, none, pre⟩ :: os) :: t) ⟨env, objs⟩ := by
  refine W_call _ hc (CallEff.frz Z hT ha hZ) ?_
  simpa [rn_data _ _ hr] using hk
theorem WD_callf {d : Option Nat} {f : Opd} {as : List Opd} {pre : List Nat} {k : Nat} {fs cs fargs : List LV} {r : LV} (Z : List Nat) (hT : Tri P G k fargs [] r []) (hc : callee (f.ev G (getE env)) = some (k, fs, cs)) (ha : argRs (objL objs) [] Z (fs ++ as.map (·.ev G (getE env)) ++ cs) fargs)
    (hZ : ∀ z ∈ Z, ∃ et e rows, objL objs z = .live (.dat et e rows) ∨ objL objs z = .live (.frz et e rows)) (hr : idl 0 r = true)
    (hk : W P G fin (.opsD os (log ++ [⟨pre, Z, (frzs (objL objs) Z).map (·.1)⟩]) :: t) ⟨putE d r env, updL (frzs (objL objs) Z) objs⟩) : W P G fin (.opsD (⟨d, .call f as, none, pre⟩ :: os) log :: t) ⟨env, objs⟩ := by
  refine WD_call _ hc (CallEff.frz Z hT ha hZ) ?_
  simpa [rn_data _ _ hr, Eff.owned, nwp] using hk
theorem W_calln {d : Option Nat} {f : Opd} {as : List Opd} {pre : List Nat} {k : Nat} {fs cs fargs : List LV} {r : LV} {fobjs' : List LObj} (hT : Tri P G k fargs [] r fobjs') (hc : callee (f.ev G (getE env)) = some (k, fs, cs)) (ha : fs ++ as.map (·.ev G (getE env)) ++ cs = fargs) (hid : idlL 0 fargs = true)
    (hk : W P G fin (.ops os :: t) ⟨putE d (rn (piOf [] objs.length) r) env, objs ++ (fobjs'.map (rnO (piOf [] objs.length))).map some⟩) : W P G fin (.ops (⟨d, .call f as, none, pre⟩ :: os) :: t) ⟨env, objs⟩ := by
  refine W_call _ hc (CallEff.data hT (by rw [ha]; exact argRs_any _ _ _ _ hid)) ?_
  simpa [updL] using hk

theorem WD_calln {d : Option Nat} {f : Opd} {as : List Opd} {pre : List Nat} {k : Nat} {fs cs fargs : List LV} {r : LV} {fobjs' : List LObj} (hT : Tri P G k fargs [] r fobjs') (hc : callee (f.ev G (getE env)) = some (k, fs, cs)) (ha : fs ++ as.map (·.ev G (getE env)) ++ cs = fargs) (hid : idlL 0 fargs = true)
    (hk : W P G fin (.opsD os (log ++ [⟨pre, [], (nwp objs.length (fobjs'.map (rnO (piOf [] objs.length)))).map (·.1)⟩]) :: t) ⟨putE d (rn (piOf [] objs.length) r) env, objs ++ (fobjs'.map (rnO (piOf [] objs.length))).map some⟩) : W P G fin (.opsD (⟨d, .call f as, none, pre⟩ :: os) log :: t) ⟨env, objs⟩ := by
  refine WD_call _ hc (CallEff.data hT (by rw [ha]; exact argRs_any _ _ _ _ hid)) ?_
  simpa [updL, Eff.owned] using hk
theorem W_callo {d : Option Nat} {f : Opd} {as : List Opd} {pre : List Nat} {k : Nat} {fs cs fargs : List LV} {r : LV} {fobjs fobjs' : List LObj} (ρ : List Nat) (hT : Tri P G k fargs fobjs r fobjs') (hc : callee (f.ev G (getE env)) = some (k, fs, cs)) (ha : argRs (objL objs) ρ [] (fs ++ as.map (·.ev G (getE env)) ++ cs) fargs)
    (hnd : ρ.Nodup) (ho : ρ.map (objL objs) = fobjs.map (fun ob => OSt.live (rnO (piOf ρ objs.length) ob))) (hid : fobjs.all (idlO ρ.length) = true) (hle : fobjs.length ≤ fobjs'.length)
    (hk : W P G fin (.ops os :: t) ⟨putE d (rn (piOf ρ objs.length) r) env, updL (ρ.zip (fobjs'.map (rnO (piOf ρ objs.length)))) objs ++ ((fobjs'.drop ρ.length).map (rnO (piOf ρ objs.length))).map some⟩) : W P G fin (.ops (⟨d, .call f as, none, pre⟩ :: os) :: t) ⟨env, objs⟩ := by
  refine W_call _ hc (CallEff.hand ρ hT ha hnd ho hid hle) ?_
  simpa using hk
theorem WD_callo {d : Option Nat} {f : Opd} {as : List Opd} {pre : List Nat} {k : Nat} {fs cs fargs : List LV} {r : LV} {fobjs fobjs' : List LObj} (ρ : List Nat) (hT : Tri P G k fargs fobjs r fobjs') (hc : callee (f.ev G (getE env)) = some (k, fs, cs)) (ha : argRs (objL objs) ρ [] (fs ++ as.map (·.ev G (getE env)) ++ cs) fargs)
    (hnd : ρ.Nodup) (ho : ρ.map (objL objs) = fobjs.map (fun ob => OSt.live (rnO (piOf ρ objs.length) ob))) (hid : fobjs.all (idlO ρ.length) = true) (hle : fobjs.length ≤ fobjs'.length)
    (hk : W P G fin (.opsD os (log ++ [⟨pre, ρ, (nwp objs.length ((fobjs'.drop ρ.length).map (rnO (piOf ρ objs.length))) ++ ρ.zip (fobjs'.map (rnO (piOf ρ objs.length)))).map (·.1)⟩]) :: t) ⟨putE d (rn (piOf ρ objs.length) r) env, updL (ρ.zip (fobjs'.map (rnO (piOf ρ objs.length)))) objs ++ ((fobjs'.drop ρ.length).map (rnO (piOf ρ objs.length))).map some⟩) : W P G fin (.opsD (⟨d, .call f as, none, pre⟩ :: os) log :: t) ⟨env, objs⟩ := by
  refine WD_call _ hc (CallEff.hand ρ hT ha hnd ho hid hle) ?_
  simpa [Eff.owned] using hk

def EndsO (rv : List RV) (r : LV) (objs' : List LObj) (s : St) : Prop := Ends0 rv r s ∧ s.objs.take objs'.length = objs'.map some
theorem EndsO_iff {rv : List RV} {r : LV} {objs' : List LObj} {s : St} : EndsO rv r objs' s = (Ends0 rv r s ∧ s.objs.take objs'.length = objs'.map some) := rfl
theorem rnO_data (π : Nat → Nat) : ∀ (ob : LObj), idlO 0 ob = true → rnO π ob = ob
  | .box et cells, h => by simp only [rnO]; rw [rnL_data π cells h]
  | .mp es, h => by
    simp only [idlO,List.all_eq_true] at h
    simp only [rnO,LObj.mp.injEq]
    conv => rhs; rw [← List.map_id es]
    exact List.map_congr_left fun p hp => by simp [rn_data π p.2 (h p hp)]
  | .dat .., _ => rfl
  | .frz .., _ => rfl
theorem idl_up : (∀ (x : LV) (k : Nat), idl 0 x = true → idl k x = true) ∧ (∀ (xs : List LV) (k : Nat), idlL 0 xs = true → idlL k xs = true) := by
  have one : ∀ n, (∀ (x : LV) (k : Nat), sizeOf x < n → idl 0 x = true → idl k x = true) ∧ (∀ (xs : List LV) (k : Nat), sizeOf xs < n → idlL 0 xs = true → idlL k xs = true) := by
    intro n
    induction n with
    | zero => exact ⟨fun _ _ h => absurd h (by omega), fun _ _ h => absurd h (by omega)⟩
    | succ n ih =>
      refine ⟨fun x k hs h => ?_, fun xs k hs h => ?_⟩
      · cases x <;> simp only [idl,Bool.and_eq_true] at h ⊢ <;> (try (simp at h; done)) <;> simp at hs
        · exact ⟨ih.2 _ k (by omega) h.1, ih.2 _ k (by omega) h.2⟩
        · exact ih.2 _ k (by omega) h
        · exact ih.2 _ k (by omega) h
        · exact ih.1 _ k (by omega) h
      · cases xs with
        | nil => rfl
        | cons x xs =>
          simp only [idlL,Bool.and_eq_true] at h ⊢
          simp at hs
          exact ⟨ih.1 _ k (by omega) h.1, ih.2 _ k (by omega) h.2⟩
  exact ⟨fun x k => (one (sizeOf x + 1)).1 x k (by omega), fun xs k => (one (sizeOf xs + 1)).2 xs k (by omega)⟩
theorem idlO_up (k : Nat) : ∀ (ob : LObj), idlO 0 ob = true → idlO k ob = true
  | .box et cells, h => idl_up.2 cells k h
  | .mp es, h => by
    simp only [idlO,List.all_eq_true] at h ⊢
    exact fun p hp => idl_up.1 _ k (h p hp)
  | .dat .., _ => rfl
  | .frz .., _ => rfl
theorem BackS {rv : List RV} {r : LV} {objs' : List LObj} {s : St} {k : Nat} (hs : EndsO rv r objs' s) (hid : idl 0 r = true) (ho : objs'.all (idlO 0) = true) (hk : k = objs'.length) : Back rv k r objs' s := by
  obtain ⟨h1, h2⟩ := hs
  unfold Ends0 at h1
  split at h1
  · rename_i vs hvs
    simp only [Option.some.injEq] at h1
    subst h1
    rw [List.all_eq_true] at ho
    refine ⟨[], vs, List.range k, [], hvs, by simp, List.nodup_range, (fun _ h => by cases h), (fun _ h => by cases h), by simp [hk], fun i o hi => ?_, ?_, ?_⟩
    · have hlt : i < k := by
        have := (List.getElem?_eq_some_iff.1 hi).1
        simpa using this
      have hio : o = i := by rw [List.getElem?_range hlt] at hi; cases hi; rfl
      subst hio
      have hlt' : o < objs'.length := by omega
      refine ⟨objs'[o], List.getElem?_eq_getElem hlt', ?_⟩
      have h3 : (s.objs.take objs'.length)[o]? = some (some objs'[o]) := by rw [h2]; simp [hlt']
      rw [List.getElem?_take_of_lt hlt'] at h3
      rw [rnO_data _ _ (ho _ (List.getElem_mem hlt'))]
      simp only [adopt,St.obj,objL,h3]
    · rw [List.all_eq_true]; exact fun ob hob => idlO_up _ ob (ho ob hob)
    · exact argR_any _ _ _ _ hid
  · cases h1
/-- a function over objects that hold data, that hands back data. -/
theorem tri_WO {f : Nat} {fn : Func} {ir : Nat × C × List RV} {args : List LV} {objs objs' : List LObj} {r : LV} (hf : P.funcs[f]? = some fn) (hn : (fn.name != "runtime.NumGoroutine") = true) (hcv : convFn P fn = some ir) (hl : args.length ≤ ir.1) (hid : idl 0 r = true) (ho : objs'.all (idlO 0) = true) (hlen : objs.length = objs'.length)
    (h : W P G (EndsO ir.2.2 r objs') [.c ir.2.1] ⟨argEnv 0 args, objs.map some⟩) : Tri P G f args objs r objs' := by
  refine tri_of hf (by simpa using hn) (N := ir.1) (c := ir.2.1) (rv := ir.2.2) hcv hl ?_
  simp only [W, Wx] at h
  exact vc_mono _ _ ⟨EndsO ir.2.2 r objs', fun _ _ => False, EndsO ir.2.2 r objs', noY⟩ _ (fun s hs => BackS hs hid ho hlen) (fun _ _ h => h) (fun s hs => BackS hs hid ho hlen) h

def Ends (rv : List RV) (r : LV) (s : St) : Prop := (match RVs.of s rv with | some vs => some (oneOr vs) | none => none) = some r

/-- a function of data alone, that hands back what names no object. -/
theorem tri_W0 {f : Nat} {fn : Func} {ir : Nat × C × List RV} {args : List LV} {r : LV} (hf : P.funcs[f]? = some fn) (hn : (fn.name != "runtime.NumGoroutine") = true) (hcv : convFn P fn = some ir) (hl : args.length ≤ ir.1) (hid : idl 0 r = true)
    (h : W P G (Ends ir.2.2 r) [.c ir.2.1] ⟨argEnv 0 args, []⟩) : Tri P G f args [] r [] := by
  refine tri_of hf (by simpa using hn) (N := ir.1) (c := ir.2.1) (rv := ir.2.2) hcv hl ?_
  simp only [W, Wx] at h
  refine vc_mono _ _ ⟨Ends ir.2.2 r, fun _ _ => False, Ends ir.2.2 r, noY⟩ _ (fun s hs => ?_) (fun _ _ h => h) (fun s hs => ?_) h
  all_goals
    replace hs : Ends ir.2.2 r s := hs
    unfold Ends at hs
    split at hs
    · rename_i vs hvs
      cases hs
      exact Back0 hvs (argR_any _ _ _ _ hid)
    · cases hs
end
section
variable {P : Program} {G : Nat → Option (List DV)} {fin : St → Prop} {t : List It} {env : List (Nat × LV)} {objs : List (Option LObj)} {os : List IOp}
theorem W_rt {n : St → Prop} {x : Nat → St → Prop} {s : St} : W P G fin (.rt n x :: t) s = n s := by simp only [W]
theorem Wx_rt {i : Nat} {n : St → Prop} {x : Nat → St → Prop} {s : St} : Wx P G fin i (.rt n x :: t) s = x i s := by simp only [Wx]
theorem W_yd {Y : YO} {s : St} : W P G fin (.yd Y :: t) s = W P G fin t s := by simp only [W]
theorem Wx_yd {i : Nat} {Y : YO} {s : St} : Wx P G fin i (.yd Y :: t) s = Wx P G fin i t s := by simp only [Wx]
theorem W_rfn {g : Opd} {ps : List Nat} {a b : C} {k : Nat} {fs cs : List LV} (hc : callee (g.ev G (getE env)) = some (k, fs, cs)) (R : LV → List (Option LObj) → Prop)
    (h1 : ITri P G k (fs ++ [.yl objs.length] ++ cs) (objs ++ [none]) (roundY P G none ps a b ⟨env, objs⟩) R)
    (h2 : ∀ yv objs', R yv objs' → (yv = rdyV ∧ W P G fin t ⟨env, objs'⟩) ∨ (yv = leftV ∧ fin ⟨env, objs'⟩)) : W P G fin (.c (.rfn g ps a b) :: t) ⟨env, objs⟩ := by
  simp only [W,vc]
  have hc' : callee (g.ev G (St.get ⟨env, objs⟩)) = some (k, fs, cs) := hc
  rw [hc']
  exact ⟨none, R, h1, h2⟩
/-- AN ITERATOR KEEPS ITS CONTRACT, if its walk goes through. -/
theorem itri_W {f : Nat} {fn : Func} {ir : Nat × C × List RV} {args : List LV} {objs : List (Option LObj)} {Y : YO} {R : LV → List (Option LObj) → Prop} (hf : P.funcs[f]? = some fn) (hn : (fn.name != "runtime.NumGoroutine") = true) (hcv : convFn P fn = some ir) (hl : args.length ≤ ir.1) (hnr : norf ir.2.1 = true) (hrv : ir.2.2 = [])
    (h : W P G (fun s => R (s.get YS) s.objs) [.c ir.2.1, .yd Y] ⟨(YS, rdyV) :: argEnv 0 args, objs⟩) : ITri P G f args objs Y R := by
  refine itri_of hf (by simpa using hn) (N := ir.1) (c := ir.2.1) (rv := ir.2.2) hcv hl hnr ?_
  simp only [W, Wx, Wy] at h
  simp only [hrv, and_true]
  exact h
end
end Dv

namespace Dv
open Go


section
variable {π : Nat → Nat} {k : Nat}
mutual
theorem rn_fix (h : ∀ o, o < k → π o = o) : ∀ (x : LV), idl k x = true → rn π x = x
  | .top, _ => rfl
  | .d x, _ => rfl
  | .anyb, _ => rfl
  | .ptr o c, hx => by simp only [idl,decide_eq_true_eq] at hx; simp only [rn,h o hx]
  | .rp o n e r c, hx => by simp only [idl,decide_eq_true_eq] at hx; simp only [rn,h o hx]
  | .ip .., _ => rfl
  | .sl o n e l m, hx => by simp only [idl,decide_eq_true_eq] at hx; simp only [rn,h o hx]
  | .fn f a b, hx => by
    simp only [idl,Bool.and_eq_true] at hx
    simp only [rn,rnL_fix h a hx.1,rnL_fix h b hx.2]
  | .agg cs, hx => by simp only [idl] at hx; simp only [rn,rnL_fix h cs hx]
  | .tup cs, hx => by simp only [idl] at hx; simp only [rn,rnL_fix h cs hx]
  | .ifc t x, hx => by simp only [idl] at hx; simp only [rn,rn_fix h x hx]
  | .yl o, hx => by simp only [idl,decide_eq_true_eq] at hx; simp only [rn,h o hx]
  | .mr o, hx => by simp only [idl,decide_eq_true_eq] at hx; simp only [rn,h o hx]
theorem rnL_fix (h : ∀ o, o < k → π o = o) : ∀ (xs : List LV), idlL k xs = true → rnL π xs = xs
  | [], _ => rfl
  | x :: xs, hx => by
    simp only [idlL,Bool.and_eq_true] at hx
    simp only [rnL,rn_fix h x hx.1,rnL_fix h xs hx.2]
end
theorem rnO_fix (h : ∀ o, o < k → π o = o) : ∀ (ob : LObj), idlO k ob = true → rnO π ob = ob
  | .box et cells, hx => by simp only [rnO]; rw [rnL_fix h cells hx]
  | .mp es, hx => by
    simp only [idlO,List.all_eq_true] at hx
    simp only [rnO,LObj.mp.injEq]
    conv => rhs; rw [← List.map_id es]
    exact List.map_congr_left fun p hp => by simp [rn_fix h p.2 (hx p hp)]
  | .dat .., _ => rfl
  | .frz .., _ => rfl
end
section
variable {ρ : List Nat} {k : Nat}
mutual
theorem argR_fix (h : ∀ o, o < k → ρ[o]? = some o) (obj : Nat → OSt) : ∀ (x : LV), idl k x = true → argR obj ρ [] x x
  | .top, _ => by simp [argR]
  | .d x, _ => by simp [argR]
  | .anyb, _ => by simp [argR]
  | .ptr o c, hx => by simp only [idl,decide_eq_true_eq] at hx; simp only [argR,h o hx,and_self]
  | .rp o n e r c, hx => by simp only [idl,decide_eq_true_eq] at hx; simp only [argR,h o hx,and_self]
  | .ip .., _ => by simp [argR]
  | .sl o n e l m, hx => by simp only [idl,decide_eq_true_eq] at hx; simp only [argR,h o hx,and_self]
  | .fn f a b, hx => by
    simp only [idl,Bool.and_eq_true] at hx
    simp only [argR]; exact ⟨trivial, argRs_fix h obj a hx.1, argRs_fix h obj b hx.2⟩
  | .agg cs, hx => by simp only [idl] at hx; simp only [argR]; exact argRs_fix h obj cs hx
  | .tup cs, hx => by simp only [idl] at hx; simp only [argR]; exact argRs_fix h obj cs hx
  | .ifc t x, hx => by simp only [idl] at hx; simp only [argR]; exact ⟨trivial, argR_fix h obj x hx⟩
  | .yl o, hx => by simp only [idl,decide_eq_true_eq] at hx; simp only [argR,h o hx]
  | .mr o, hx => by simp only [idl,decide_eq_true_eq] at hx; simp only [argR,h o hx]
theorem argRs_fix (h : ∀ o, o < k → ρ[o]? = some o) (obj : Nat → OSt) : ∀ (xs : List LV), idlL k xs = true → argRs obj ρ [] xs xs
  | [], _ => by simp [argRs]
  | x :: xs, hx => by
    simp only [idlL,Bool.and_eq_true] at hx
    simp only [argRs]; exact ⟨argR_fix h obj x hx.1, argRs_fix h obj xs hx.2⟩
end
end
theorem range_at {k o : Nat} (h : o < k) : (List.range k)[o]? = some o := List.getElem?_range h
theorem piOf_range {k o : Nat} (h : o < k) : piOf (List.range k) 0 o = o := by unfold piOf; rw [range_at h]

theorem BackP {rv : List RV} {r : LV} {objs' : List LObj} {s : St} (hs : EndsO rv r objs' s) (hid : idl objs'.length r = true) (ho : objs'.all (idlO objs'.length) = true) : Back rv objs'.length r objs' s := by
  obtain ⟨h1, h2⟩ := hs
  unfold Ends0 at h1
  split at h1
  · rename_i vs hvs
    simp only [Option.some.injEq] at h1
    subst h1
    have ho' := ho
    rw [List.all_eq_true] at ho
    refine ⟨[], vs, List.range objs'.length, [], hvs, by simp, List.nodup_range, (fun _ h => by cases h), (fun _ h => by cases h), by simp, fun i o hi => ?_, ?_, ?_⟩
    · have hlt : i < objs'.length := by
        have := (List.getElem?_eq_some_iff.1 hi).1
        simpa using this
      have hio : o = i := by rw [List.getElem?_range hlt] at hi; cases hi; rfl
      subst hio
      refine ⟨objs'[o], List.getElem?_eq_getElem hlt, ?_⟩
      have h3 : (s.objs.take objs'.length)[o]? = some (some objs'[o]) := by rw [h2]; simp [hlt]
      rw [List.getElem?_take_of_lt hlt] at h3
      rw [rnO_fix (fun o h => piOf_range h) _ (ho _ (List.getElem_mem hlt))]
      simp only [adopt,St.obj,objL,h3]
    · rw [List.length_range]; exact ho'
    · exact argR_fix (fun o h => range_at h) _ _ hid
  · cases h1
/-- a function over objects that may name one another, all of which it hands back in the same places. -/
theorem tri_WP {P : Program} {G : Nat → Option (List DV)} {f : Nat} {fn : Func} {ir : Nat × C × List RV} {args : List LV} {objs objs' : List LObj} {r : LV} (hf : P.funcs[f]? = some fn) (hn : (fn.name != "runtime.NumGoroutine") = true) (hcv : convFn P fn = some ir) (hl : args.length ≤ ir.1) (hid : idl objs'.length r = true) (ho : objs'.all (idlO objs'.length) = true) (hlen : objs.length = objs'.length)
    (h : W P G (EndsO ir.2.2 r objs') [.c ir.2.1] ⟨argEnv 0 args, objs.map some⟩) : Tri P G f args objs r objs' := by
  refine tri_of hf (by simpa using hn) (N := ir.1) (c := ir.2.1) (rv := ir.2.2) hcv hl ?_
  simp only [W, Wx] at h
  refine vc_mono _ _ ⟨EndsO ir.2.2 r objs', fun _ _ => False, EndsO ir.2.2 r objs', noY⟩ _ (fun s hs => ?_) (fun _ _ h => h) (fun s hs => ?_) h
  all_goals
    rw [hlen]; exact BackP hs hid ho

theorem undefE : LV.undef = .d (.val (.tuple #[])) := rfl
def qo (n : Nat) (x : I) : IOp := ⟨some n, x, none, []⟩
def qm (n a : Nat) : IOp := ⟨some n, .mv (.t a), none, []⟩
def qd (n : Nat) (x : I) (l : List Nat) : IOp := ⟨some n, x, none, l⟩
def qg (n : Nat) (x : I) (g : Nat) (b : Bool) : IOp := ⟨some n, x, some (g, b), []⟩
def qe (n : Nat) (x : I) (g : Nat) (b : Bool) (l : List Nat) : IOp := ⟨some n, x, some (g, b), l⟩
def qn (x : I) : IOp := ⟨none, x, none, []⟩
def ql (x : I) (l : List Nat) : IOp := ⟨none, x, none, l⟩
def qf : Opd := .c (.val (.bool false))
def qt : Opd := .c (.val (.bool true))
def qk (i : Int) : Opd := .c (.val (.int .i64 i))
def q0 : DV := .val (.int .i64 0)
end Dv

namespace Dv
open Go


section
variable {G : Nat → Option (List DV)} {J : Nat → Prop} {w w' : World} {ι : Nat → Nat → Option Nat} {obj : Nat → OSt}
structure Mid (G : Nat → Option (List DV)) (obj : Nat → OSt) (J : Nat → Prop) (ι : Nat → Nat → Option Nat) (w : World) (n : Nat) (W : World) (J' : Nat → Prop) (ι' : Nat → Nat → Option Nat) : Prop where
  store : Store G J' W ι' obj
  ext : Ext obj obj J J' ι ι' w W
  own : ∀ b, Own ι' obj b → Own ι obj b ∨ n ≤ b
  std : ∀ b, J' b → J b ∨ n ≤ b ∨ Own ι obj b
  size : n ≤ W.heap.size

theorem Mid.call {n : Nat} {W W2 : World} {J' : Nat → Prop} {ι' : Nat → Nat → Option Nat} (S : Store G J w ι obj) (h : Mid G obj J ι w n W J' ι') (hn : w.heap.size ≤ n) {r : LV} {v : Value} (hA : After G obj obj J' ι' W r v W2) : ∃ J2 ι2, Mid G obj J ι w n W2 J2 ι2 ∧ Rep J2 W2 ι2 r v ∧ (∀ b, b < W.heap.size → ¬ Own ι' obj b → W2.heap[b]? = W.heap[b]?) ∧ W.heap.size ≤ W2.heap.size := by
  obtain ⟨J2, ι2, S2, R2, E2⟩ := hA
  have hsz := h.size
  refine ⟨J2, ι2, ⟨S2, h.ext.trans E2, fun b hb => ?_, fun b hb => ?_, Nat.le_trans h.size E2.ev.size⟩, R2, E2.ev.same, E2.ev.size⟩
  · rcases E2.own b hb with k | k
    · exact h.own b k
    · exact .inr (by omega)
  · rcases E2.ev.jnew b hb with k | k | k
    · exact h.std b k
    · exact .inr (.inl (by omega))
    · rcases h.own b k with k | k
      · exact .inr (.inr k)
      · exact .inr (.inl k)
end
end Dv

namespace Dv
open Go


section
variable {P : Program} {G : Nat → Option (List DV)} {N : Nat}
end

section
variable {P : Program} {G : Nat → Option (List DV)} {fin : St → Prop} {t : List It} {s : St} {env : List (Nat × LV)} {objs : List (Option LObj)} {os : List IOp} {log : List LogE}
theorem CallPan.data {k : Nat} {args fargs : List LV} {obj : Nat → OSt} {base : Nat} {v : Value} (hT : TriX P G k fargs [] v []) (ha : argRs obj [] [] args fargs) :
    CallPan P G k args obj base v { r := .top, rd := [], wr := [], nw := [] } :=
  ⟨⟨[], [], fargs, [], [], List.nodup_nil, (fun _ h => by cases h), (fun _ h => by cases h), rfl, (fun i o h => by simp at h), rfl, ha, Nat.le_refl _, hT, rfl⟩⟩
theorem CallPan.hand {k : Nat} {args fargs : List LV} {obj : Nat → OSt} {base : Nat} {v : Value} {fobjs fobjs' : List LObj} (ρ : List Nat) (hT : TriX P G k fargs fobjs v fobjs') (ha : argRs obj ρ [] args fargs) (hnd : ρ.Nodup) (ho : ρ.map obj = fobjs.map (fun ob => OSt.live (rnO (piOf ρ base) ob))) (hid : fobjs.all (idlO ρ.length) = true) (hle : fobjs.length ≤ fobjs'.length) :
    CallPan P G k args obj base v { r := .top, rd := ρ, wr := ρ.zip (fobjs'.map (rnO (piOf ρ base))), nw := (fobjs'.drop ρ.length).map (rnO (piOf ρ base)) } :=
  ⟨⟨ρ, [], fargs, fobjs, fobjs', hnd, (fun _ h => by cases h), (fun _ h => by cases h), by have := congrArg List.length ho; simpa using this.symm, (fun i o hi => by
    have h1 : (ρ.map obj)[i]? = some (obj o) := by rw [List.getElem?_map, hi]; rfl
    rw [ho, List.getElem?_map] at h1
    cases hf : fobjs[i]? with
    | none => rw [hf] at h1; cases h1
    | some ob => rw [hf] at h1; simp at h1; exact ⟨ob, rfl, h1.symm⟩), hid, ha, hle, hT, by simp [frzs]⟩⟩
end
end Dv

namespace Dv
open Go


section
variable {P : Program} {G : Nat → Option (List DV)}
theorem CallEff.handZ {k : Nat} {args fargs : List LV} {obj : Nat → OSt} {base : Nat} {r : LV} {fobjs fobjs' : List LObj} (ρ Z : List Nat) (hT : Tri P G k fargs fobjs r fobjs') (ha : argRs obj ρ Z args fargs) (hnd : ρ.Nodup) (hz : ∀ z ∈ Z, z ∉ ρ) (hZ : ∀ z ∈ Z, ∃ et e rows, obj z = .live (.dat et e rows) ∨ obj z = .live (.frz et e rows)) (ho : ρ.map obj = fobjs.map (fun ob => OSt.live (rnO (piOf ρ base) ob))) (hid : fobjs.all (idlO ρ.length) = true) (hle : fobjs.length ≤ fobjs'.length) :
    CallEff P G k args obj base { r := rn (piOf ρ base) r, rd := ρ ++ Z, wr := ρ.zip (fobjs'.map (rnO (piOf ρ base))) ++ frzs obj Z, nw := (fobjs'.drop ρ.length).map (rnO (piOf ρ base)) } :=
  ⟨⟨ρ, Z, false, fargs, fobjs, r, fobjs', (fun _ => true), (fun _ _ _ h => by cases h), hnd, hz, hZ, by have := congrArg List.length ho; simpa using this.symm, (fun i o hi => by
    have h1 : (ρ.map obj)[i]? = some (obj o) := by rw [List.getElem?_map, hi]; rfl
    rw [ho, List.getElem?_map] at h1
    cases hf : fobjs[i]? with
    | none => rw [hf] at h1; cases h1
    | some ob => rw [hf] at h1; simp at h1; exact ⟨ob, rfl, h1.symm⟩), hid, ha, (fun h => by cases h), hle, hT, by rw [List.filter_eq_self.2 (fun _ _ => rfl)]; simp⟩⟩
variable {fin : St → Prop} {env : List (Nat × LV)} {objs : List (Option LObj)} {os : List IOp} {t : List It} {log : List LogE}
theorem WD_callh {d : Option Nat} {f : Opd} {as : List Opd} {pre : List Nat} {k : Nat} {fs cs fargs : List LV} {r : LV} {fobjs fobjs' : List LObj} (ρ Z : List Nat) (hT : Tri P G k fargs fobjs r fobjs') (hc : callee (f.ev G (getE env)) = some (k, fs, cs)) (ha : argRs (objL objs) ρ Z (fs ++ as.map (·.ev G (getE env)) ++ cs) fargs)
    (hnd : ρ.Nodup) (hz : ∀ z ∈ Z, z ∉ ρ) (hZ : ∀ z ∈ Z, ∃ et e rows, objL objs z = .live (.dat et e rows) ∨ objL objs z = .live (.frz et e rows)) (ho : ρ.map (objL objs) = fobjs.map (fun ob => OSt.live (rnO (piOf ρ objs.length) ob))) (hid : fobjs.all (idlO ρ.length) = true) (hle : fobjs.length ≤ fobjs'.length)
    (hk : W P G fin (.opsD os (log ++ [⟨pre, ρ ++ Z, (nwp objs.length ((fobjs'.drop ρ.length).map (rnO (piOf ρ objs.length))) ++ (ρ.zip (fobjs'.map (rnO (piOf ρ objs.length))) ++ frzs (objL objs) Z)).map (·.1)⟩]) :: t) ⟨putE d (rn (piOf ρ objs.length) r) env, updL (ρ.zip (fobjs'.map (rnO (piOf ρ objs.length))) ++ frzs (objL objs) Z) objs ++ ((fobjs'.drop ρ.length).map (rnO (piOf ρ objs.length))).map some⟩) : W P G fin (.opsD (⟨d, .call f as, none, pre⟩ :: os) log :: t) ⟨env, objs⟩ := by
  refine WD_call _ hc (CallEff.handZ ρ Z hT ha hnd hz hZ ho hid hle) ?_
  simpa [Eff.owned] using hk
theorem CallEff.look {k : Nat} {args fargs : List LV} {obj : Nat → OSt} {base : Nat} {r : LV} {fobjs : List LObj} (ρ : List Nat) (hT : Tri P G k fargs fobjs r fobjs) (ha : argRs obj ρ [] args fargs) (hnd : ρ.Nodup) (ho : ρ.map obj = fobjs.map (fun ob => OSt.live (rnO (piOf ρ base) ob))) (hid : fobjs.all (idlO ρ.length) = true) :
    CallEff P G k args obj base { r := rn (piOf ρ base) r, rd := ρ, wr := [], nw := [] } := by
  have hlen : fobjs.length = ρ.length := by have := congrArg List.length ho; simpa using this.symm
  refine ⟨⟨ρ, [], false, fargs, fobjs, r, fobjs, (fun _ => false), (fun _ _ _ _ => rfl), hnd, (fun _ h => by cases h), (fun _ h => by cases h), hlen, (fun i o hi => ?_), hid, ha, (fun h => by cases h), Nat.le_refl _, hT, ?_⟩⟩
  · have h1 : (ρ.map obj)[i]? = some (obj o) := by rw [List.getElem?_map, hi]; rfl
    rw [ho, List.getElem?_map] at h1
    cases hf : fobjs[i]? with
    | none => rw [hf] at h1; cases h1
    | some ob => rw [hf] at h1; simp at h1; exact ⟨ob, rfl, h1.symm⟩
  · rw [List.drop_eq_nil_of_le (by omega)]
    simp [frzs]
theorem W_calll {d : Option Nat} {f : Opd} {as : List Opd} {pre : List Nat} {k : Nat} {fs cs fargs : List LV} {r : LV} {fobjs : List LObj} (ρ : List Nat) (hT : Tri P G k fargs fobjs r fobjs) (hc : callee (f.ev G (getE env)) = some (k, fs, cs)) (ha : argRs (objL objs) ρ [] (fs ++ as.map (·.ev G (getE env)) ++ cs) fargs)
    (hnd : ρ.Nodup) (ho : ρ.map (objL objs) = fobjs.map (fun ob => OSt.live (rnO (piOf ρ objs.length) ob))) (hid : fobjs.all (idlO ρ.length) = true)
    (hk : W P G fin (.ops os :: t) ⟨putE d (rn (piOf ρ objs.length) r) env, objs⟩) : W P G fin (.ops (⟨d, .call f as, none, pre⟩ :: os) :: t) ⟨env, objs⟩ := by
  refine W_call _ hc (CallEff.look ρ hT ha hnd ho hid) ?_
  simpa [updL] using hk
theorem WD_calll {d : Option Nat} {f : Opd} {as : List Opd} {pre : List Nat} {k : Nat} {fs cs fargs : List LV} {r : LV} {fobjs : List LObj} (ρ : List Nat) (hT : Tri P G k fargs fobjs r fobjs) (hc : callee (f.ev G (getE env)) = some (k, fs, cs)) (ha : argRs (objL objs) ρ [] (fs ++ as.map (·.ev G (getE env)) ++ cs) fargs)
    (hnd : ρ.Nodup) (ho : ρ.map (objL objs) = fobjs.map (fun ob => OSt.live (rnO (piOf ρ objs.length) ob))) (hid : fobjs.all (idlO ρ.length) = true)
    (hk : W P G fin (.opsD os (log ++ [⟨pre, ρ, []⟩]) :: t) ⟨putE d (rn (piOf ρ objs.length) r) env, objs⟩) : W P G fin (.opsD (⟨d, .call f as, none, pre⟩ :: os) log :: t) ⟨env, objs⟩ := by
  refine WD_call _ hc (CallEff.look ρ hT ha hnd ho hid) ?_
  simpa [Eff.owned, updL, nwp] using hk
end
end Dv

namespace Dv
open Go


section
variable {P : Program} {G : Nat → Option (List DV)} {J J0 : Nat → Prop} {w w0 : World} {ι ι0 : Nat → Nat → Option Nat}

end
section
variable {P : Program} {G : Nat → Option (List DV)} {D : Dk} {N : Nat} {obj0 : Nat → OSt} {J0 : Nat → Prop} {ι0 : Nat → Nat → Option Nat} {w0 : World} {Q : Exit → Act → World → Prop}
end

section
variable {P : Program} {G G0 : Nat → Option (List DV)} {J J' : Nat → Prop} {w w' : World} {ι ι' : Nat → Nat → Option Nat} {obj obj' : Nat → OSt}
theorem Store.less (S : Store G J w ι obj) (hG : ∀ g row, G0 g = some row → G g = some row) : Store G0 J w ι obj := ⟨S.rep, S.inj, S.disj, S.jcell, fun g row h => S.glob g row (hG g row h)⟩
theorem After.more {r : LV} {v : Value} (S : Store G J w ι obj) (h : After G0 obj obj' J ι w r v w') : After G obj obj' J ι w r v w' := by
  obtain ⟨J', ι', S', R, E⟩ := h
  refine ⟨J', ι', ⟨S'.rep, S'.inj, S'.disj, S'.jcell, fun g row hg => ?_⟩, R, E⟩
  obtain ⟨h1, h2, t, h3⟩ := S.glob g row hg
  exact ⟨E.ev.jmono g h1, h2.ev S E.ev h1, t, by rw [E.ev.shape g (S.jlt g h1)]; exact h3⟩
theorem Tri.up {f : Nat} {args : List LV} {objs objs' : List LObj} {r : LV} (h : Tri P G0 f args objs r objs') (hG : ∀ g row, G0 g = some row → G g = some row) : Tri P G f args objs r objs' := by
  refine ⟨h.1, fun J ι w vs S hargs => (h.2 J ι w vs (S.less hG) hargs).mono fun e w' hr => ?_⟩
  obtain ⟨v, he, hA⟩ := hr
  exact ⟨v, he, After.more S hA⟩
end
end Dv
