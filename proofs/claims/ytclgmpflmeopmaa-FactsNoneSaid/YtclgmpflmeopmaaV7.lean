/- The logical machine: part V7. -/
import Derived.Test.YtclgmpflmeopmaaV6
import Derived.Laws.StructEq
set_option linter.unusedVariables false
set_option linter.unusedSimpArgs false
namespace Dv
open Go

section
variable {P : Program} {G : Nat → Option (List DV)} {J : Nat → Prop} {w w' : World} {ι : Nat → Nat → Option Nat} {obj : Nat → OSt} {a : Act} {get : Nat → LV} {base : Nat}

theorem binV_run {op : BinOp} {x y v : Value} (h : binV op x y = some v) (T : TypeId) (X Y : Operand) (w : World) : (do eqGuard op T X Y x y; Go.binOp op T x y).run P w = .ok v w := by
  cases x <;> cases y <;> simp only [binV] at h <;> (try (cases h; done))
  · rename_i k a k' b
    cases op <;> simp only [] at h <;> (split at h <;> first | (cases h; done) | skip) <;> cases h <;>
      rename_i hc <;> first
        | (subst hc; simp [eqGuard, Go.binOp, Op.intArith, Op.intBits, Op.intCmp, andI, orI, xorI, andNotI]; done)
        | (obtain ⟨rfl, hb⟩ := hc; simp [eqGuard, Go.binOp, Op.intDiv, hb]; done)
        | (have hn : ¬ b < 0 := by omega
           simp [eqGuard, Go.binOp, Op.shift, hn, shlI, shrI]; done)
        | (have hn : ¬ b < 0 := by omega
           simp only [eqGuard, Go.binOp, Op.shift, Sem.run_bind, hn, shlI, shrI]; rfl)
  · rename_i a b
    cases op <;> simp only [] at h <;> (try (cases h; done)) <;> (try (split at h)) <;> (try (cases h; done)) <;> cases h <;> first
      | (simp [eqGuard, Go.binOp, Op.stringOp]; done)
      | (rename_i hc
         have hm : ¬ (((a.size + b.size : Nat) : Int) > IntKind.i64.max) := by
           have : IntKind.i64.max = 9223372036854775807 := by decide
           rw [this]; omega
         simp only [eqGuard, Go.binOp, Op.stringOp, if_neg hm, Sem.run_bind]
         simp)

theorem run_eq_bool {T : TypeId} (h : P.underlying T = some .bool) (x y : Bool) (w : World) : (Op.equal T (.bool x) (.bool y)).run P w = .ok (x == y) w := by
  have : Op.equal T (.bool x) (.bool y) = Op.equalIn (9999 + 1) T (.bool x) (.bool y) := rfl
  rw [this, Op.equalIn, Sem.run_bind, run_underlying h w]
  rfl

def isNeq : BinOp → Bool
  | .neq => true
  | _ => false

theorem eqb_run {op : BinOp} (ho : op = .eql ∨ op = .neq) {T : TypeId} (h : P.underlying T = some .bool) (X Y : Operand) (x y : Bool) (w : World) :
    (do eqGuard op T X Y (.bool x) (.bool y); Go.binOp op T (.bool x) (.bool y)).run P w = .ok (.bool (bif isNeq op then !(x == y) else x == y)) w := by
  rcases ho with rfl | rfl <;> simp [eqGuard, Go.binOp, run_eq_bool h, isNeq]

theorem run_isp {op : BinOp} (ho : op = .eql ∨ op = .neq) {T e : TypeId} (h : P.underlying T = some (.pointer e)) (X Y : Operand) (x : Option Addr) (w : World) :
    (do eqGuard op T X Y (.pointer x) (.pointer none); Go.binOp op T (.pointer x) (.pointer none)).run P w = .ok (.bool (bif isNeq op then !x.isNone else x.isNone)) w := by
  have hq : (Op.equal T (.pointer x) (.pointer none)).run P w = .ok x.isNone w := by
    have : Op.equal T (.pointer x) (.pointer none) = Op.equalIn (9999 + 1) T (.pointer x) (.pointer none) := rfl
    rw [this, Op.equalIn, Sem.run_bind, run_underlying h w]
    cases x <;> rfl
  rcases ho with rfl | rfl <;> simp [eqGuard, Go.binOp, hq, isNeq]

theorem run_iss {op : BinOp} (ho : op = .eql ∨ op = .neq) {T e : TypeId} (h : P.underlying T = some (.slice e)) (X Y : Operand) (x : Option Addr) (n c : Nat) (w : World) :
    (do eqGuard op T X Y (.slice x n c) (.slice none 0 0); Go.binOp op T (.slice x n c) (.slice none 0 0)).run P w = .ok (.bool (bif isNeq op then !x.isNone else x.isNone)) w := by
  have hq : (Op.equal T (.slice x n c) (.slice none 0 0)).run P w = .ok x.isNone w := by
    have : Op.equal T (.slice x n c) (.slice none 0 0) = Op.equalIn (9999 + 1) T (.slice x n c) (.slice none 0 0) := rfl
    rw [this, Op.equalIn, Sem.run_bind, run_underlying h w]
    cases x <;> rfl
  rcases ho with rfl | rfl <;> simp [eqGuard, Go.binOp, hq, isNeq]

theorem eqCells_inv {k : Nat} {ks : List Nat} {l m : List LV} {b : Bool} (h : eqCells (k :: ks) l m = some b) :
    ∃ va vb p q xs ys, l = .d (.val va) :: xs ∧ m = .d (.val vb) :: ys ∧ eqV k va vb = some p ∧ eqCells ks xs ys = some q ∧ b = (p && q) := by
  cases l with
  | nil => cases m <;> simp [eqCells] at h
  | cons x xs =>
    cases x with
    | d x =>
      cases x with
      | val va =>
        cases m with
        | nil => simp [eqCells] at h
        | cons y ys =>
          cases y with
          | d y =>
            cases y with
            | val vb =>
              simp only [eqCells] at h
              split at h
              · rename_i p q h3 h4
                exact ⟨va, vb, p, q, xs, ys, rfl, rfl, h3, h4, (Option.some.inj h).symm⟩
              · cases h
            | _ => simp [eqCells] at h
          | _ => simp [eqCells] at h
      | _ => cases m <;> simp [eqCells] at h
    | _ => cases m <;> simp [eqCells] at h

theorem run_eqFields {xs ys : Array Value} {ls ms : List LV} (hx : RepC J w ι ls xs.toList) (hy : RepC J w ι ms ys.toList) : ∀ (fs : List Field) (i : Nat) (ks : List Nat) (b : Bool), kindsT P i fs = some ks → eqCells ks (ls.drop i) (ms.drop i) = some b →
    (Op.eqFields 9999 xs ys fs).run P w = .ok b w
  | [], i, ks, b, hk, he => by
    simp only [kindsT] at hk; cases hk
    simp only [Op.eqFields]
    generalize ls.drop i = l at he
    generalize ms.drop i = m at he
    cases l <;> cases m <;> simp only [eqCells] at he <;> first | (cases he; rfl) | (cases he)
  | f :: fs, i, ks, b, hk, he => by
    simp only [kindsT] at hk
    split at hk
    · rename_i k ks' h1 h2
      split at hk
      · rename_i hc
        cases hk
        obtain ⟨hoff, hname⟩ := hc
        have hdx := hx.drop i
        have hdy := hy.drop i
        generalize hl : ls.drop i = l at he hdx
        generalize hm : ms.drop i = m at he hdy
        have := eqCells_inv he
        obtain ⟨va, vb, p, q, xs', ys', rfl, rfl, h3, h4, rfl⟩ := this
        have hlx : ls[i]? = some (.d (.val va)) := by
          have : (ls.drop i)[0]? = some (.d (.val va)) := by rw [hl]; rfl
          simpa using this
        have hly : ms[i]? = some (.d (.val vb)) := by
          have : (ms.drop i)[0]? = some (.d (.val vb)) := by rw [hm]; rfl
          simpa using this
        obtain ⟨ua, hua, _, hra⟩ := hx.get hlx
        obtain ⟨ub, hub, _, hrb⟩ := hy.get hly
        have hra' : ua = va := hra
        have hrb' : ub = vb := hrb
        subst hra'; subst hrb'
        have hxi : xs[i]? = some ua := by simpa using hua
        have hyi : ys[i]? = some ub := by simpa using hub
        have hrest := run_eqFields hx hy fs (i + 1) ks' q h2 (by
          rw [← List.drop_drop, ← List.drop_drop, hl, hm]; exact h4)
        have part1 : ∀ {v : Value} {cs : Array Value}, aggT P f.type = some false → cs[i]? = some v → (part f.type cs f.offset).run P w = .ok v w := fun ha hv => by
          rw [hoff]; simp [part, aggT_run ha, hv]
        simp only [Op.eqFields]
        rw [if_pos hname]
        have hkind : aggT P f.type = some false ∧ (Op.equalIn 9999 f.type ua ub).run P w = .ok p w := by
          unfold kindT at h1
          split at h1
          · rename_i k' hu
            cases h1
            refine ⟨by simp [aggT, hu], ?_⟩
            clear he hl hm hdx hdy hlx hly hra hrb hxi hyi hua hub hrest part1
            cases ua <;> cases ub <;> first | (simp [eqV] at h3; done) | skip
            simp only [eqV] at h3
            split at h3
            · rename_i hk; subst hk; cases h3
              exact run_equalIn_int w 9998 f.type _ k' _ _ hu
            · cases h3
          · rename_i hu
            cases h1
            refine ⟨by simp [aggT, hu], ?_⟩
            clear he hl hm hdx hdy hlx hly hra hrb hxi hyi hua hub hrest part1
            cases ua <;> cases ub <;> first | (simp [eqV] at h3; done) | skip
            simp only [eqV] at h3
            cases h3
            exact run_equalIn_bool' w 9998 f.type _ _ hu
          · rename_i hu
            cases h1
            refine ⟨by simp [aggT, hu], ?_⟩
            clear he hl hm hdx hdy hlx hly hra hrb hxi hyi hua hub hrest part1
            cases ua <;> cases ub <;> first | (simp [eqV] at h3; done) | skip
            simp only [eqV] at h3
            cases h3
            exact run_equalIn_string w 9998 f.type _ _ hu
          · cases h1
        simp only [Sem.run_bind, part1 hkind.1 hxi, part1 hkind.1 hyi, Result.andThen_ok, hkind.2]
        cases p
        · simp
        · simp only [Bool.not_true, Bool.false_eq_true, if_false, Bool.true_and]; exact hrest
      · cases hk
    · cases hk

theorem run_eqs {op : BinOp} (ho : op = .eql ∨ op = .neq) {T : TypeId} {ks : List Nat} (h : eqT P T = some ks) (X Y : Operand) {xs ys : Array Value} {ls ms : List LV} (hx : RepC J w ι ls xs.toList) (hy : RepC J w ι ms ys.toList) {b : Bool} (he : eqCells ks ls ms = some b) :
    (do eqGuard op T X Y (.agg xs) (.agg ys); Go.binOp op T (.agg xs) (.agg ys)).run P w = .ok (.bool (bif isNeq op then !b else b)) w := by
  unfold eqT at h
  split at h
  · rename_i fs hu
    split at h
    · rename_i hc
      have hfo : P.underlying T = some (.struct (P.fieldsOf T)) := by simp [Program.fieldsOf, hu]
      have hff : P.fieldsOf T = fs := by simp [Program.fieldsOf, hu]
      have heq : (Op.equalIn 10000 T (.agg xs) (.agg ys)).run P w = .ok b w := by
        rw [show (10000 : Nat) = 9999 + 1 from rfl, run_equalIn_struct w 9999 T xs ys hfo hc.1, hff]
        exact run_eqFields hx hy fs.toList 0 ks b h (by simpa using he)
      have hg := run_eqGuard_agg (P := P) w op T X Y xs ys hc.2
      rcases ho with rfl | rfl
      · rw [Sem.run_bind, hg]; simp only [Result.andThen_ok, run_eql_struct, heq]; rfl
      · rw [Sem.run_bind, hg]; simp only [Result.andThen_ok, run_neq_struct, heq]; rfl
    · cases h
  · cases h

theorem run_bound {v : Value} {y : Nat} {code : BoundsCode} {k : IntKind} {i : Int} (hv : v = .int k i) (h0 : 0 ≤ i) (hl : i.toNat ≤ y) (w : World) : (Instr.sliceBound v y code).run P w = .ok i.toNat w := by
  subst hv
  have : 0 ≤ i ∧ i ≤ (y : Int) := ⟨h0, by omega⟩
  simp [Instr.sliceBound, asIntOf, this]

/-- What a slice expression's bound comes to. -/
def BV (o : Option Value) (d v : Nat) : Prop := (o = none ∧ v = d) ∨ ∃ k i, o = some (.int k i) ∧ 0 ≤ i ∧ v = i.toNat

theorem run_sliceBounds {b : Bool} {len cap l h m : Nat} {lo hi mx : Option Value} (h1 : BV lo 0 l) (h2 : BV hi len h) (h3 : BV mx len m) (k1 : l ≤ h) (k2 : h ≤ m) (k3 : m ≤ len) (k4 : len ≤ cap) (hm : mx = none ∨ hi.isSome = true) (w : World) :
    ∃ m', m ≤ m' ∧ m' ≤ cap ∧ (Instr.sliceBounds b len cap lo hi mx).run P w = .ok (l, h, m') w := by
  rcases h3 with ⟨rfl, rfl⟩ | ⟨k3', i3, rfl, q3, rfl⟩
  · refine ⟨cap, k4, Nat.le_refl _, ?_⟩
    rcases h2 with ⟨rfl, rfl⟩ | ⟨k2', i2, rfl, q2, rfl⟩ <;> rcases h1 with ⟨rfl, rfl⟩ | ⟨k1', i1, rfl, q1, rfl⟩
    · simp [Instr.sliceBounds]
    · simp [Instr.sliceBounds, run_bound (P := P) rfl q1 (y := h) (by omega) w]
    · simp [Instr.sliceBounds, run_bound (P := P) rfl q2 (y := cap) (by omega) w]
    · simp [Instr.sliceBounds, run_bound (P := P) rfl q2 (y := cap) (by omega) w, run_bound (P := P) rfl q1 (y := i2.toNat) (by omega) w]
  · refine ⟨i3.toNat, Nat.le_refl _, by omega, ?_⟩
    rcases h2 with ⟨rfl, rfl⟩ | ⟨k2', i2, rfl, q2, rfl⟩
    · rcases hm with hm | hm <;> cases hm
    · rcases h1 with ⟨rfl, rfl⟩ | ⟨k1', i1, rfl, q1, rfl⟩
      · simp [Instr.sliceBounds, run_bound (P := P) rfl q3 (y := cap) (by omega) w, run_bound (P := P) rfl q2 (y := i3.toNat) (by omega) w]
      · simp [Instr.sliceBounds, run_bound (P := P) rfl q3 (y := cap) (by omega) w, run_bound (P := P) rfl q2 (y := i3.toNat) (by omega) w, run_bound (P := P) rfl q1 (y := i2.toNat) (by omega) w]

theorem run_sli {T e : TypeId} {n : Nat} (hu : P.underlying T = some (.slice e)) (hs : sizeT P e = some n) {sa : Option Addr} {len cap l h m : Nat} {lo hi mx : Option Value} (h1 : BV lo 0 l) (h2 : BV hi len h) (h3 : BV mx len m) (k1 : l ≤ h) (k2 : h ≤ m) (k3 : m ≤ len) (k4 : len ≤ cap)
    (hm : mx = none ∨ hi.isSome = true) (w : World) :
    ∃ m', m ≤ m' ∧ m' ≤ cap ∧ (Instr.sliceAt T (.slice sa len cap) lo hi mx).run P w = .ok (.slice (if m' = l then sa else sa.map (·.add (l * n))) (h - l) (m' - l)) w := by
  obtain ⟨i, hi', hn⟩ := info_of_sizeT hs
  obtain ⟨m', p1, p2, hrun⟩ := run_sliceBounds (P := P) (b := true) h1 h2 h3 k1 k2 k3 k4 hm w
  refine ⟨m', p1, p2, ?_⟩
  have hsz : (Go.sizeOf e).run P w = .ok n w := by simp [Go.sizeOf, typeInfo, hi', hn]
  simp only [Instr.sliceAt, Instr.slice, Sem.run_bind, run_underlying hu w, Result.andThen_ok, hrun, hsz, Sem.run_pure]

theorem run_sls {T : TypeId} (hu : P.underlying T = some .string) {s : ByteArray} {l h : Nat} {lo hi : Option Value} (h1 : BV lo 0 l) (h2 : BV hi s.size h) (k1 : l ≤ h) (k2 : h ≤ s.size) (w : World) :
    (Instr.sliceAt T (.string s) lo hi none).run P w = .ok (.string (s.extract l h)) w := by
  obtain ⟨m', _, _, hrun⟩ := run_sliceBounds (P := P) (b := false) (mx := none) (cap := s.size) h1 h2 (.inl ⟨rfl, rfl⟩) k1 k2 (Nat.le_refl _) (Nat.le_refl _) (.inl rfl) w
  simp only [Instr.sliceAt, Instr.slice, Sem.run_bind, run_underlying hu w, Result.andThen_ok]
  simp [hrun]

theorem bv_of (S : Store G J w ι obj) (he : ∀ t, Rep J w ι (get t) (a.tmps.getD t Go.undef)) {o : Option Operand} {o' : Option Opd} {d v : Nat} (ho : convOpdO o = some o') (hb : boundV d (o'.map (·.ev G get)) = some v) : BV (o.map a.eval) d v := by
  cases o with
  | none => simp only [convOpdO] at ho; cases ho; simp only [Option.map_none, boundV] at hb; exact .inl ⟨rfl, (Option.some.inj hb).symm⟩
  | some X =>
    simp only [convOpdO] at ho
    split at ho
    · rename_i y hy
      cases ho
      have hr := rep_ev S he hy
      simp only [Option.map_some] at hb
      unfold boundV at hb
      split at hb
      · rename_i hq; cases hq
      · rename_i k i hq
        rw [Option.some.inj hq] at hr
        have hX : a.eval X = .int k i := hr
        split at hb
        · rename_i h0
          exact .inr ⟨k, i, by simp [hX], h0, (Option.some.inj hb).symm⟩
        · cases hb
      · cases hb
    · cases ho

/-- a slice expression. -/
theorem sli_sound (S : Store G J w ι obj) (he : ∀ t, Rep J w ι (get t) (a.tmps.getD t Go.undef)) {X : Operand} {x : Opd} (hx : convOpd X = some x) {lo hi mx : Option Operand} {lo' hi' mx' : Option Opd} (hl : convOpdO lo = some lo') (hh : convOpdO hi = some hi') (hm : convOpdO mx = some mx')
    (hmh : (mx.isNone || hi.isSome) = true) {T el : TypeId} {n : Nat} (hu : P.underlying T = some (.slice el)) (hs : sizeT P el = some n) {e : Eff} (hE : effF G get obj base (.sli n x lo' hi' mx') = some e) :
    ∃ v, (Instr.sliceAt T (a.eval X) (lo.map a.eval) (hi.map a.eval) (mx.map a.eval)).run P w = .ok v w ∧ Rep J w ι e.r v ∧ e.nw = [] ∧ e.wr = [] := by
  have hrx := rep_ev S he hx
  have hmm : mx.map a.eval = none ∨ (hi.map a.eval).isSome = true := by
    cases mx with
    | none => exact .inl rfl
    | some _ => right; cases hi <;> simp at hmh ⊢
  simp only [effF] at hE
  split at hE
  · rename_i e' rows hev
    rw [hev] at hrx
    split at hE
    · rename_i l h m b1 b2 b3
      split at hE
      · rename_i hc
        obtain ⟨rfl, k1, k2, k3⟩ := hc
        cases hE
        obtain ⟨sa, len, cap, hv, hlen, hcap, hr⟩ := hrx
        subst hlen
        obtain ⟨m', p1, p2, hrun⟩ := run_sli (P := P) hu hs (sa := sa) (bv_of S he hl b1) (bv_of S he hh b2) (bv_of S he hm b3) k1 k2 k3 hcap hmm w
        refine ⟨_, by rw [hv]; exact hrun, ⟨_, h - l, m' - l, rfl, by simp; omega, by omega, ?_⟩, rfl, rfl⟩
        by_cases hz : h = l
        · left; simp [hz]
        · right
          rcases hr with hr | ⟨b, off, rfl, hJ, hr⟩
          · rw [hr] at k3; simp at k3; omega
          · refine ⟨b, off + l * e', ?_, hJ, (hr.drop l).take _⟩
            rw [if_neg (by omega)]
            simp [Addr.add_mid]
      · cases hE
    · cases hE
  · rename_i o on e' slo len hev
    rw [hev] at hrx
    split at hE
    · rename_i l h m b1 b2 b3
      split at hE
      · rename_i hc
        obtain ⟨rfl, k1, k2, k3⟩ := hc
        cases hE
        rcases hrx with ⟨hz, sa, hv⟩ | ⟨b, cap, et, C, hb, hv, hcap, hsh, hC⟩
        · subst hz
          obtain ⟨m', p1, p2, hrun⟩ := run_sli (P := P) hu hs (sa := sa) (cap := 0) (bv_of S he hl b1) (bv_of S he hh b2) (bv_of S he hm b3) k1 k2 k3 (Nat.le_refl _) hmm w
          rw [show h - l = 0 by omega, show m' - l = 0 by omega] at hrun
          exact ⟨_, by rw [hv]; exact hrun, .inl ⟨by omega, _, rfl⟩, rfl, rfl⟩
        · obtain ⟨m', p1, p2, hrun⟩ := run_sli (P := P) hu hs (sa := some ⟨b, slo * e', none⟩) (bv_of S he hl b1) (bv_of S he hh b2) (bv_of S he hm b3) k1 k2 k3 hcap hmm w
          refine ⟨_, by rw [hv]; exact hrun, ?_, rfl, rfl⟩
          by_cases hz : m' = l
          · left
            rw [show h - l = 0 by omega, show m' - l = 0 by omega]
            exact ⟨rfl, _, rfl⟩
          · right
            refine ⟨b, m' - l, et, C, hb, ?_, by omega, hsh, ?_⟩
            · rw [if_neg hz]
              simp [Addr.add_mid, Nat.add_mul]
            · refine Nat.le_trans (Nat.mul_le_mul_right _ ?_) hC
              omega
      · cases hE
    · cases hE
  · rename_i hev
    rw [hev] at hrx
    have hv : a.eval X = .slice none 0 0 := hrx
    split at hE
    · rename_i l h m b1 b2 b3
      split at hE
      · rename_i hc
        obtain ⟨k1, k2, k3⟩ := hc
        cases hE
        obtain ⟨m', p1, p2, hrun⟩ := run_sli (P := P) hu hs (sa := none) (len := 0) (cap := 0) (bv_of S he hl b1) (bv_of S he hh b2) (bv_of S he hm b3) k1 k2 k3 (Nat.le_refl _) hmm w
        refine ⟨_, by rw [hv]; exact hrun, ?_, rfl, rfl⟩
        show _ = _
        rw [show h - l = 0 by omega, show m' - l = 0 by omega]
        split <;> rfl
      · cases hE
    · cases hE
  · cases hE

theorem Rep.int_inv {x : Value} {v : Value} (h : Rep J w ι (.d (.val v)) x) : x = v := h

theorem run_fieldAt {T : TypeId} {fs : Array Field} {f : Field} {k n : Nat} (hu : P.underlying T = some (.struct fs)) (hf : fs[k]? = some f) (hs : sizeT P f.type = some (n + 1)) (b o : Nat) (w : World) :
    (Instr.fieldAt T (.pointer (some ⟨b, o, none⟩)) k).run P w = .ok (.pointer (some ⟨b, o + f.offset, none⟩)) w := by
  obtain ⟨i, hi, hn⟩ := info_of_sizeT hs
  have hz : (Go.sizeOf f.type).run P w = .ok (n + 1) w := by simp [Go.sizeOf, typeInfo, hi, hn]
  simp only [Instr.fieldAt, Sem.run_bind, run_underlying hu w, Result.andThen_ok, hf, Instr.sureAddr, Sem.run_pure, fieldPlace, hz]
  rw [if_neg (by omega)]
  simp [Addr.add_mid]

/-- THE OPERATIONS THAT LEAVE THE WORLD ALONE. -/
theorem run_ixa {T e : TypeId} {n : Nat} (hu : P.underlying T = some (.slice e)) (hs : sizeT P e = some n) (b o len cap : Nat) (k : IntKind) (i : Int) (h0 : 0 ≤ i) (hl : i.toNat < len) (w : World) :
    (Instr.indexAt T (.slice (some ⟨b, o, none⟩) len cap) (.int k i)).run P w = .ok (.pointer (some ⟨b, o + i.toNat * n, none⟩)) w := by
  obtain ⟨j, hj, hn⟩ := info_of_sizeT hs
  have hz : (Go.sizeOf e).run P w = .ok n w := by simp [Go.sizeOf, typeInfo, hj, hn]
  have hc : 0 ≤ i ∧ i < len := ⟨h0, by omega⟩
  simp only [Instr.indexAt, asIntOf, Sem.run_bind, Sem.run_pure, Result.andThen_ok, run_underlying hu w]
  rw [if_pos hc]
  simp [hz, Addr.add_mid]

theorem run_ixr {T e : TypeId} {n len : Nat} (hu : P.underlying T = some (.array len e)) (hs : sizeT P e = some n) (b o : Nat) (k : IntKind) (i : Int) (h0 : 0 ≤ i) (hl : i.toNat < len) (w : World) :
    (Instr.indexAt T (.pointer (some ⟨b, o, none⟩)) (.int k i)).run P w = .ok (.pointer (some ⟨b, o + i.toNat * n, none⟩)) w := by
  obtain ⟨j, hj, hn⟩ := info_of_sizeT hs
  have hz : (Go.sizeOf e).run P w = .ok n w := by simp [Go.sizeOf, typeInfo, hj, hn]
  have hc : 0 ≤ i ∧ i < len := ⟨h0, by omega⟩
  simp only [Instr.indexAt, asIntOf, Sem.run_bind, Sem.run_pure, Result.andThen_ok, run_underlying hu w, Instr.sureAddr]
  rw [if_pos hc]
  simp [hz, Addr.add_mid]

theorem run_ld1 {T : TypeId} (ha : aggT P T = some false) {b o : Nat} {v : Value} (hv : w.cell? ⟨b, o, none⟩ = some v) :
    (Instr.loadAt T (.pointer (some ⟨b, o, none⟩))).run P w = .ok v w := by
  simp [Instr.loadAt, Instr.sureAddr, loadVar, aggT_run ha, hv]

theorem run_ldn {T : TypeId} {n : Nat} (ha : aggT P T = some true) (hs : sizeT P T = some n) {b o : Nat} {vs : List Value} (hv : w.rangeAt b o vs) (hl : vs.length = n) :
    (Instr.loadAt T (.pointer (some ⟨b, o, none⟩))).run P w = .ok (.agg vs.toArray) w := by
  obtain ⟨i, hi, hn⟩ := info_of_sizeT hs
  have h1 : (loadCells ⟨b, o, none⟩ vs.length).run P w = .ok vs.toArray w := run_loadCells_list (P := P) w ⟨b, o, none⟩ vs (fun j v h => by rw [Addr.add_mid]; exact hv j v h)
  rw [hl] at h1
  simp [Instr.loadAt, Instr.sureAddr, loadVar, aggT_run ha, Go.sizeOf, typeInfo, hi, hn, h1]

theorem run_st {T : TypeId} {n : Nat} (hs : sizeT P T = some n) {b o : Nat} {v : Value} (ht : w.there b o v.cells.size) (hl : v.cells.size = n) (h1 : ∀ u ∈ v.cells.toList, u.oneCell' = true) :
    (Instr.storeAt T (.pointer (some ⟨b, o, none⟩)) v).run P w = .ok () (w.setCells b o v.cells.toList) := by
  obtain ⟨i, hi, hn⟩ := info_of_sizeT hs
  have := run_storeCells_cells (P := P) b o v.cells.toList 0 w (fun j hj => by simpa using (ht j (by simpa using hj)).1) (fun j hj => by simpa using (ht j (by simpa using hj)).2) h1
  simp only [Nat.add_zero] at this
  simp [Instr.storeAt, Instr.sureAddr, storeVar, Go.sizeOf, typeInfo, hi, hn, hl, this]

theorem toDs_rep : ∀ {cs : List LV} {ds : List DV} {vs : List Value}, LV.toDs cs = some ds → RepL J w ι cs vs → RepDL J w ds vs := by
  have one : ∀ (n : Nat), (∀ (x : LV) (d : DV) (v : Value), sizeOf x < n → LV.toD x = some d → Rep J w ι x v → RepD J w d v) ∧
      (∀ (xs : List LV) (ds : List DV) (vs : List Value), sizeOf xs < n → LV.toDs xs = some ds → RepL J w ι xs vs → RepDL J w ds vs) := by
    intro n
    induction n with
    | zero => exact ⟨fun _ _ _ h => absurd h (by omega), fun _ _ _ h => absurd h (by omega)⟩
    | succ n ih =>
      refine ⟨fun x d v hs h hr => ?_, fun xs ds vs hs h hr => ?_⟩
      · cases x with
        | d x => simp only [LV.toD] at h; cases h; exact hr
        | fn f p q =>
          simp only [LV.toD] at h
          split at h
          · rename_i p' q' h1 h2
            cases h
            obtain ⟨fs, cs, rfl, k1, k2⟩ := hr
            simp at hs
            exact ⟨fs, cs, rfl, ih.2 _ _ _ (by omega) h1 k1, ih.2 _ _ _ (by omega) h2 k2⟩
          · cases h
        | ifc t y =>
          simp only [LV.toD] at h
          split at h
          · rename_i y' h1
            cases h
            obtain ⟨z, rfl, k1⟩ := hr
            simp at hs
            exact ⟨z, rfl, ih.1 _ _ _ (by omega) h1 k1⟩
          · cases h
        | _ => simp [LV.toD] at h
      · cases xs with
        | nil =>
          simp only [LV.toDs] at h; cases h
          cases vs with
          | nil => trivial
          | cons _ _ => exact hr.elim
        | cons x xs =>
          simp only [LV.toDs] at h
          split at h
          · rename_i d ds' h1 h2
            cases h
            cases vs with
            | nil => exact hr.elim
            | cons v vs =>
              simp at hs
              exact ⟨ih.1 _ _ _ (by omega) h1 hr.1, ih.2 _ _ _ (by omega) h2 hr.2⟩
          · cases h
  intro cs ds vs h hr
  exact (one (sizeOf cs + 1)).2 cs ds vs (by omega) h hr

theorem rowsOf_rep (S : Store G J w ι obj) (he : ∀ t, Rep J w ι (get t) (a.tmps.getD t Go.undef)) {esz : Nat} : ∀ {xs : List Operand} {ys : List Opd} {rows : List (List DV)}, convOpds xs = some ys → rowsOf G get esz ys = some rows →
    All2 (fun (x : Operand) (r : List DV) => RepDL J w r (a.eval x).cells.toList ∧ (∀ v ∈ (a.eval x).cells.toList, v.oneCell' = true) ∧ r.length = esz) xs rows
  | [], ys, rows, h, k => by
    simp only [convOpds] at h; cases h
    simp only [rowsOf] at k; cases k
    exact .nil
  | x :: xs, ys, rows, h, k => by
    simp only [convOpds] at h
    split at h
    · rename_i y ys' h1 h2
      cases h
      simp only [rowsOf] at k
      split at k
      · rename_i cs hcs
        split at k
        · rename_i ds hds
          split at k
          · rename_i hl
            split at k
            · rename_i r hr
              cases k
              have hrx := cells_rep (rep_ev S he h1) hcs
              exact .cons ⟨toDs_rep hds hrx.toL, hrx.one, hl⟩ (rowsOf_rep S he h2 hr)
            · cases k
          · cases k
        · cases k
      · cases k
    · cases h

theorem splice_splice {α : Type} (l : List α) (o : Nat) (xs ys : List α) (h : o + xs.length + ys.length ≤ l.length) : splice (splice l o xs) (o + xs.length) ys = splice l o (xs ++ ys) := by
  unfold splice
  have h1 : (l.take o ++ xs).length = o + xs.length := by simp; omega
  rw [List.take_left' h1, ← h1, ← List.drop_drop, List.drop_left, h1, List.drop_drop, List.length_append, List.append_assoc, List.append_assoc, List.append_assoc, List.append_assoc]
  rw [show o + xs.length + ys.length = o + (xs.length + ys.length) by omega]

theorem fill_rows (n : Nat) : ∀ (vals : List Value) (k : Nat) (cells : Array Value), (∀ v ∈ vals, v.cells.size = n) → (k + vals.length) * n ≤ cells.size →
    ∃ cs, Instr.fill (fun i => some (i * n, n)) cells ((List.range' k vals.length).zip vals) = some cs ∧ cs.toList = splice cells.toList (k * n) (vals.map (·.cells.toList)).flatten
  | [], k, cells, _, _ => ⟨cells, by simp [Instr.fill], by simp [splice]⟩
  | v :: vals, k, cells, h, hl => by
    have hv := h v (by simp)
    simp only [List.length_cons] at hl
    have hle : (k + 1) * n ≤ cells.size := Nat.le_trans (Nat.mul_le_mul_right _ (by omega)) hl
    rw [Nat.add_mul] at hle
    have hfold : (v.cells.zipIdx.foldl (fun cs (p : Value × Nat) => cs.setIfInBounds (k * n + p.2) p.1) cells).toList = splice cells.toList (k * n) v.cells.toList := by
      have := fold_splice (k * n) v.cells.toList 0 cells (by simp [hv]; omega)
      simp only [Nat.add_zero] at this
      rw [← this, ← Array.foldl_toList]
      simp
    generalize hA : v.cells.zipIdx.foldl (fun cs (p : Value × Nat) => cs.setIfInBounds (k * n + p.2) p.1) cells = A at hfold
    have hAs : A.size = cells.size := by
      have := congrArg List.length hfold
      rw [splice_length _ _ _ (by simp [hv]; omega)] at this
      simpa using this
    obtain ⟨cs, k1, k2⟩ := fill_rows n vals (k + 1) A (fun u hu => h u (by simp [hu])) (by rw [hAs, show k + 1 + vals.length = k + (vals.length + 1) by omega]; exact hl)
    refine ⟨cs, ?_, ?_⟩
    · simp only [List.length_cons, List.range'_succ, List.zip_cons_cons, Instr.fill]
      rw [if_neg (by rw [hv]; simp; omega), hA]
      exact k1
    · rw [k2, hfold]
      simp only [List.map_cons, List.flatten_cons]
      have hvl : v.cells.toList.length = n := by simpa using hv
      have hfl : (vals.map (·.cells.toList)).flatten.length = vals.length * n := by
        have hh : ∀ u ∈ vals, u.cells.size = n := fun u hu => h u (by simp [hu])
        clear k1 k2 hl
        induction vals with
        | nil => simp
        | cons u us ih =>
          simp only [List.map_cons, List.flatten_cons, List.length_append, List.length_cons, Nat.add_mul]
          rw [ih (fun x hx => h x (by simp at hx ⊢; rcases hx with hx | hx <;> simp [hx])) (fun x hx => hh x (by simp [hx]))]
          have := hh u (by simp)
          simp [this]; omega
      have := splice_splice cells.toList (k * n) v.cells.toList (vals.map (·.cells.toList)).flatten (by
        have hcl : cells.toList.length = cells.size := Array.length_toList
        rw [hvl, hfl, hcl]
        have e : (k + (vals.length + 1)) * n = k * n + n + vals.length * n := by simp only [Nat.add_mul]; omega
        omega)
      rw [hvl] at this
      rw [show (k + 1) * n = k * n + n by rw [Nat.add_mul]; omega]
      exact this
end
end Dv
