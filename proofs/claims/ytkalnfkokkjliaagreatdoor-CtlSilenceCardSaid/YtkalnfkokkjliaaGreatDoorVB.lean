/- The logical machine and its plain laws: parts V6, V7, V8, V9, V10, V11, proved sound. -/
import Derived.Test.YtkalnfkokkjliaaGreatDoorVA
import Derived.Laws.StructEq
set_option linter.unusedVariables false
set_option linter.unusedSimpArgs false
namespace Dv
open Go

inductive All2 {α β : Type} (R : α → β → Prop) : List α → List β → Prop
  | nil : All2 R [] []
  | cons {x y xs ys} : R x y → All2 R xs ys → All2 R (x :: xs) (y :: ys)

section
variable {P : Program} {G : Nat → Option (List DV)} {J : Nat → Prop} {w w' : World} {ι : Nat → Nat → Option Nat} {obj : Nat → OSt} {a : Act} {get : Nat → LV} {base : Nat}

theorem fold_splice (off : Nat) : ∀ (vs : List Value) (k : Nat) (cells : Array Value), off + k + vs.length ≤ cells.size →
    ((vs.zipIdx k).foldl (fun cs (p : Value × Nat) => cs.setIfInBounds (off + p.2) p.1) cells).toList = splice cells.toList (off + k) vs
  | [], k, cells, h => by simp [splice]
  | v :: vs, k, cells, h => by
    simp only [List.length_cons] at h
    simp only [List.zipIdx_cons,List.foldl_cons]
    rw [fold_splice off vs (k + 1) (cells.setIfInBounds (off + k) v) (by simp; omega), Array.toList_setIfInBounds, ← Nat.add_assoc, splice_cons _ _ _ _ (by simp; omega)]

theorem fill_sound (S : Store G J w ι obj) (he : ∀ t, Rep J w ι (get t) (a.tmps.getD t Go.undef)) (place : Nat → Option (Nat × Nat)) :
    ∀ (parts : List (Nat × Operand)) (ps : List (Nat × Nat × Opd)) (lcells lcs : List LV) (cells : Array Value),
      All2 (fun (p : Nat × Operand) (q : Nat × Nat × Opd) => place p.1 = some (q.1, q.2.1) ∧ convOpd p.2 = some q.2.2) parts ps →
      RepC J w ι lcells cells.toList → fillL G get lcells ps = some lcs →
      ∃ cs, Instr.fill place cells (parts.map fun p => (p.1, a.eval p.2)) = some cs ∧ RepC J w ι lcs cs.toList
  | [], _, lcells, lcs, cells, h, hr, hf => by
    cases h
    simp only [fillL] at hf; cases hf
    exact ⟨cells, rfl, hr⟩
  | p :: parts, _, lcells, lcs, cells, h, hr, hf => by
    cases h with
    | cons h1 h2 =>
      rename_i q ps
      obtain ⟨hp, hx⟩ := h1
      obtain ⟨off, size, x⟩ := q
      simp only [fillL] at hf
      split at hf
      · rename_i cs hcs
        split at hf
        · rename_i hle
          have hrx := cells_rep (rep_ev S he hx) hcs
          have hl := hrx.length
          have hcl := hr.length
          simp only [Array.length_toList] at hl hcl
          have hsz : (a.eval p.2).cells.size = cs.length := hl.symm
          have hfold : ((a.eval p.2).cells.zipIdx.foldl (fun cs (p : Value × Nat) => cs.setIfInBounds (off + p.2) p.1) cells).toList = splice cells.toList off (a.eval p.2).cells.toList := by
            have := fold_splice off (a.eval p.2).cells.toList 0 cells (by simp [hsz]; omega)
            simp only [Nat.add_zero] at this
            rw [← this, ← Array.foldl_toList]
            simp
          obtain ⟨cs', k1, k2⟩ := fill_sound S he place parts ps (splice lcells off cs) lcs _ h2 (by rw [hfold]; exact hr.splice off hrx) hf
          refine ⟨cs', ?_, k2⟩
          simp only [List.map_cons,Instr.fill,hp]
          rw [if_neg (by rw [hsz]; simp; exact ⟨hle.1, by omega⟩)]
          exact k1
        · cases hf
      · cases hf

theorem placesT_spec {fs : Array Field} : ∀ {parts : List (Nat × Operand)} {ps : List (Nat × Nat × Opd)}, placesT P fs parts = some ps →
    All2 (fun (p : Nat × Operand) (q : Nat × Nat × Opd) => (∃ f, fs[p.1]? = some f ∧ q.1 = f.offset ∧ sizeT P f.type = some q.2.1) ∧ convOpd p.2 = some q.2.2) parts ps
  | [], ps, h => by cases h; exact .nil
  | (i, x) :: rest, ps, h => by
    simp only [placesT] at h
    split at h
    · rename_i f y r h1 h2 h3
      split at h
      · rename_i n hn
        cases h
        exact .cons ⟨⟨f, h1, rfl, hn⟩, h2⟩ (placesT_spec h3)
      · cases h
    · cases h

theorem placesA_spec {n : Nat} : ∀ {parts : List (Nat × Operand)} {ps : List (Nat × Nat × Opd)}, placesA n parts = some ps →
    All2 (fun (p : Nat × Operand) (q : Nat × Nat × Opd) => (some (p.1 * n, n) = some (q.1, q.2.1)) ∧ convOpd p.2 = some q.2.2) parts ps
  | [], ps, h => by cases h; exact .nil
  | (i, x) :: rest, ps, h => by
    simp only [placesA] at h
    split at h
    · rename_i y r h1 h2
      cases h
      exact .cons ⟨rfl, h1⟩ (placesA_spec h2)
    · cases h

theorem forall2_imp {α β : Type} {R T : α → β → Prop} (h : ∀ a b, R a b → T a b) : ∀ {xs : List α} {ys : List β}, All2 R xs ys → All2 T xs ys
  | _, _, .nil => .nil
  | _, _, .cons h1 h2 => .cons (h _ _ h1) (forall2_imp h h2)

theorem run_mapM_sizes : ∀ (fs : List Field) (w : World), (fs.all fun f => (sizeT P f.type).isSome) = true →
    (fs.mapM (fun f => do pure (f.offset, ← sizeOf f.type) : Field → Sem (Nat × Nat))).run P w = .ok (fs.map fun f => (f.offset, (sizeT P f.type).getD 0)) w
  | [], w, _ => rfl
  | f :: fs, w, h => by
    simp only [List.all_cons,Bool.and_eq_true] at h
    obtain ⟨n, hn⟩ := Option.isSome_iff_exists.1 h.1
    obtain ⟨i, hi, hs⟩ := info_of_sizeT hn
    have ih := run_mapM_sizes fs w h.2
    have hsz : (Go.sizeOf f.type).run P w = .ok n w := by simp [Go.sizeOf,typeInfo,hi,hs]
    simp only [List.mapM_cons,Sem.run_bind,hsz,Sem.run_pure,Result.andThen_ok,List.map_cons,hn,Option.getD_some]
    rw [ih]
    rfl

theorem run_mapM_sizesA (fs : Array Field) (w : World) (h : fieldsOk P fs = true) :
    (fs.mapM (fun f => do pure (f.offset, ← sizeOf f.type) : Field → Sem (Nat × Nat))).run P w = .ok (fs.map fun f => (f.offset, (sizeT P f.type).getD 0)) w := by
  rw [Array.mapM_eq_mapM_toList, Sem.run_map, run_mapM_sizes fs.toList w h]
  simp only [Result.andThen_ok]
  congr 1
  apply Array.ext'
  simp

theorem build_sound (S : Store G J w ι obj) (he : ∀ t, Rep J w ι (get t) (a.tmps.getD t Go.undef)) {T : TypeId} {parts : Array (Nat × Operand)} {zero : List DV} {ps : List (Nat × Nat × Opd)} {cs : List LV}
    (hc : convB P (.build T parts) = some (.build zero ps)) (hf : fillL G get (zero.map .d) ps = some cs) :
    ∃ v, (Instr.build T (parts.map fun (i, x) => (i, a.eval x))).run P w = .ok v w ∧ Rep J w ι (.agg cs) v := by
  simp only [convB] at hc
  have hparts : (parts.map fun (i, x) => (i, a.eval x)).toList = parts.toList.map fun p => (p.1, a.eval p.2) := by simp
  split at hc
  · rename_i z fs hz hu
    split at hc
    · rename_i hok
      split at hc
      · rename_i ps' hps
        cases hc
        obtain ⟨v, hv, hrep⟩ := zeroT_run (J := J) (w := w) (ι := ι) hz
        obtain ⟨cs', k1, k2⟩ := fill_sound S he (fun i => (fs.map fun f => (f.offset, (sizeT P f.type).getD 0))[i]?) parts.toList ps (zero.map .d) cs v.cells
          (forall2_imp (fun p q h => by
            obtain ⟨⟨f, h1, h2, h3⟩, h4⟩ := h
            exact ⟨by simp [h1,h2,h3], h4⟩) (placesT_spec hps)) hrep hf
        refine ⟨.agg cs', ?_, cs', rfl, k2⟩
        simp only [Instr.build,Sem.run_bind,hv,Result.andThen_ok,run_underlying hu w,Sem.run_map,run_mapM_sizesA fs w hok,hparts,Sem.run_pure]
        simp only [k1,Sem.run_pure]
      · cases hc
    · cases hc
  · rename_i z e hz hu
    split at hc
    · rename_i n hn
      split at hc
      · rename_i ps' hps
        cases hc
        obtain ⟨v, hv, hrep⟩ := zeroT_run (J := J) (w := w) (ι := ι) hz
        obtain ⟨i, hi, hs⟩ := info_of_sizeT hn
        obtain ⟨cs', k1, k2⟩ := fill_sound S he (fun i => some (i * n, n)) parts.toList ps (zero.map .d) cs v.cells (placesA_spec hps) hrep hf
        refine ⟨.agg cs', ?_, cs', rfl, k2⟩
        simp only [Instr.build,Sem.run_bind,hv,Result.andThen_ok,run_underlying hu w,Go.sizeOf,typeInfo,run_program,hi,hs,Sem.run_pure,hparts]
        simp only [k1,Sem.run_pure]
      · cases hc
    · cases hc
  · cases hc
end
end Dv

namespace Dv
open Go

section
variable {P : Program} {G : Nat → Option (List DV)} {J : Nat → Prop} {w w' : World} {ι : Nat → Nat → Option Nat} {obj : Nat → OSt} {a : Act} {get : Nat → LV} {base : Nat}

theorem binV_run {op : BinOp} {x y v : Value} (h : binV op x y = some v) (T : TypeId) (X Y : Operand) (w : World) : (do eqGuard op T X Y x y; Go.binOp op T x y).run P w = .ok v w := by
  cases x <;> cases y <;> simp only [binV] at h <;> (try (cases h; done))
  · rename_i k a k' b
    cases op <;> simp only [] at h <;> (split at h <;> first | (cases h; done) | skip) <;> cases h <;>
      rename_i hc <;> first
        | (subst hc; simp [eqGuard,Go.binOp,Op.intArith,Op.intBits,Op.intCmp,andI,orI,xorI,andNotI]; done)
        | (obtain ⟨rfl, hb⟩ := hc; simp [eqGuard,Go.binOp,Op.intDiv,hb]; done)
        | (have hn : ¬ b < 0 := by omega
           simp [eqGuard,Go.binOp,Op.shift,hn,shlI,shrI]; done)
        | (have hn : ¬ b < 0 := by omega
           simp only [eqGuard,Go.binOp,Op.shift,Sem.run_bind,hn,shlI,shrI]; rfl)
  · rename_i a b
    cases op <;> simp only [] at h <;> (try (cases h; done)) <;> (try (split at h)) <;> (try (cases h; done)) <;> cases h <;> first
      | (simp [eqGuard,Go.binOp,Op.stringOp]; done)
      | (rename_i hc
         have hm : ¬ (((a.size + b.size : Nat) : Int) > IntKind.i64.max) := by
           have : IntKind.i64.max = 9223372036854775807 := by decide
           rw [this]; omega
         simp only [eqGuard,Go.binOp,Op.stringOp,if_neg hm,Sem.run_bind]
         simp)

theorem run_eq_bool {T : TypeId} (h : P.underlying T = some .bool) (x y : Bool) (w : World) : (Op.equal T (.bool x) (.bool y)).run P w = .ok (x == y) w := by
  have : Op.equal T (.bool x) (.bool y) = Op.equalIn (9999 + 1) T (.bool x) (.bool y) := rfl
  rw [this, Op.equalIn, Sem.run_bind, run_underlying h w]
  rfl

def isNeq : BinOp → Bool
  | .neq => true
  | _ => false

theorem eqb_run {op : BinOp} (ho : op = .eql ∨ op = .neq) {T : TypeId} (h : P.underlying T = some .bool) (X Y : Operand) (x y : Bool) (w : World) :
    (do eqGuard op T X Y (.bool x) (.bool y); Go.binOp op T (.bool x) (.bool y)).run P w = .ok (.bool (bif isNeq op then !(x == y) else x == y)) w := by
  rcases ho with rfl | rfl <;> simp [eqGuard,Go.binOp,run_eq_bool h,isNeq]

theorem run_isp {op : BinOp} (ho : op = .eql ∨ op = .neq) {T e : TypeId} (h : P.underlying T = some (.pointer e)) (X Y : Operand) (x : Option Addr) (w : World) :
    (do eqGuard op T X Y (.pointer x) (.pointer none); Go.binOp op T (.pointer x) (.pointer none)).run P w = .ok (.bool (bif isNeq op then !x.isNone else x.isNone)) w := by
  have hq : (Op.equal T (.pointer x) (.pointer none)).run P w = .ok x.isNone w := by
    have : Op.equal T (.pointer x) (.pointer none) = Op.equalIn (9999 + 1) T (.pointer x) (.pointer none) := rfl
    rw [this, Op.equalIn, Sem.run_bind, run_underlying h w]
    cases x <;> rfl
  rcases ho with rfl | rfl <;> simp [eqGuard,Go.binOp,hq,isNeq]

theorem run_iss {op : BinOp} (ho : op = .eql ∨ op = .neq) {T e : TypeId} (h : P.underlying T = some (.slice e)) (X Y : Operand) (x : Option Addr) (n c : Nat) (w : World) :
    (do eqGuard op T X Y (.slice x n c) (.slice none 0 0); Go.binOp op T (.slice x n c) (.slice none 0 0)).run P w = .ok (.bool (bif isNeq op then !x.isNone else x.isNone)) w := by
  have hq : (Op.equal T (.slice x n c) (.slice none 0 0)).run P w = .ok x.isNone w := by
    have : Op.equal T (.slice x n c) (.slice none 0 0) = Op.equalIn (9999 + 1) T (.slice x n c) (.slice none 0 0) := rfl
    rw [this, Op.equalIn, Sem.run_bind, run_underlying h w]
    cases x <;> rfl
  rcases ho with rfl | rfl <;> simp [eqGuard,Go.binOp,hq,isNeq]

theorem eqCells_inv {k : Nat} {ks : List Nat} {l m : List LV} {b : Bool} (h : eqCells (k :: ks) l m = some b) :
    ∃ va vb p q xs ys, l = .d (.val va) :: xs ∧ m = .d (.val vb) :: ys ∧ eqV k va vb = some p ∧ eqCells ks xs ys = some q ∧ b = (p && q) := by
  cases l with
  | nil => cases m <;> simp [eqCells] at h
  | cons x xs =>
    cases x with
    | d x =>
      cases x with
      | val va =>
        cases m with
        | nil => simp [eqCells] at h
        | cons y ys =>
          cases y with
          | d y =>
            cases y with
            | val vb =>
              simp only [eqCells] at h
              split at h
              · rename_i p q h3 h4
                exact ⟨va, vb, p, q, xs, ys, rfl, rfl, h3, h4, (Option.some.inj h).symm⟩
              · cases h
            | _ => simp [eqCells] at h
          | _ => simp [eqCells] at h
      | _ => cases m <;> simp [eqCells] at h
    | _ => cases m <;> simp [eqCells] at h

theorem run_eqFields (d : Nat) {xs ys : Array Value} {ls ms : List LV} (hx : RepC J w ι ls xs.toList) (hy : RepC J w ι ms ys.toList) : ∀ (fs : List Field) (i : Nat) (ks : List Nat) (b : Bool), kindsT P i fs = some ks → eqCells ks (ls.drop i) (ms.drop i) = some b →
    (Op.eqFields (d + 1) xs ys fs).run P w = .ok b w
  | [], i, ks, b, hk, he => by
    simp only [kindsT] at hk; cases hk
    simp only [Op.eqFields]
    generalize ls.drop i = l at he
    generalize ms.drop i = m at he
    cases l <;> cases m <;> simp only [eqCells] at he <;> first | (cases he; rfl) | (cases he)
  | f :: fs, i, ks, b, hk, he => by
    simp only [kindsT] at hk
    split at hk
    · rename_i k ks' h1 h2
      split at hk
      · rename_i hc
        cases hk
        obtain ⟨hoff, hname⟩ := hc
        have hdx := hx.drop i
        have hdy := hy.drop i
        generalize hl : ls.drop i = l at he hdx
        generalize hm : ms.drop i = m at he hdy
        have := eqCells_inv he
        obtain ⟨va, vb, p, q, xs', ys', rfl, rfl, h3, h4, rfl⟩ := this
        have hlx : ls[i]? = some (.d (.val va)) := by
          have : (ls.drop i)[0]? = some (.d (.val va)) := by rw [hl]; rfl
          simpa using this
        have hly : ms[i]? = some (.d (.val vb)) := by
          have : (ms.drop i)[0]? = some (.d (.val vb)) := by rw [hm]; rfl
          simpa using this
        obtain ⟨ua, hua, _, hra⟩ := hx.get hlx
        obtain ⟨ub, hub, _, hrb⟩ := hy.get hly
        have hra' : ua = va := hra
        have hrb' : ub = vb := hrb
        subst hra'; subst hrb'
        have hxi : xs[i]? = some ua := by simpa using hua
        have hyi : ys[i]? = some ub := by simpa using hub
        have hrest := run_eqFields d hx hy fs (i + 1) ks' q h2 (by
          rw [← List.drop_drop, ← List.drop_drop, hl, hm]; exact h4)
        have part1 : ∀ {v : Value} {cs : Array Value}, aggT P f.type = some false → cs[i]? = some v → (part f.type cs f.offset).run P w = .ok v w := fun ha hv => by
          rw [hoff]; simp [part,aggT_run ha,hv]
        simp only [Op.eqFields]
        rw [if_pos hname]
        have hkind : aggT P f.type = some false ∧ (Op.equalIn (d + 1) f.type ua ub).run P w = .ok p w := by
          unfold kindT at h1
          split at h1
          · rename_i k' hu
            cases h1
            refine ⟨by simp [aggT,hu], ?_⟩
            clear he hl hm hdx hdy hlx hly hra hrb hxi hyi hua hub hrest part1
            cases ua <;> cases ub <;> first | (simp [eqV] at h3; done) | skip
            simp only [eqV] at h3
            split at h3
            · rename_i hk; subst hk; cases h3
              exact run_equalIn_int w d f.type _ k' _ _ hu
            · cases h3
          · rename_i hu
            cases h1
            refine ⟨by simp [aggT,hu], ?_⟩
            clear he hl hm hdx hdy hlx hly hra hrb hxi hyi hua hub hrest part1
            cases ua <;> cases ub <;> first | (simp [eqV] at h3; done) | skip
            simp only [eqV] at h3
            cases h3
            exact run_equalIn_bool' w d f.type _ _ hu
          · rename_i hu
            cases h1
            refine ⟨by simp [aggT,hu], ?_⟩
            clear he hl hm hdx hdy hlx hly hra hrb hxi hyi hua hub hrest part1
            cases ua <;> cases ub <;> first | (simp [eqV] at h3; done) | skip
            simp only [eqV] at h3
            cases h3
            exact run_equalIn_string w d f.type _ _ hu
          · cases h1
        simp only [Sem.run_bind,part1 hkind.1 hxi,part1 hkind.1 hyi,Result.andThen_ok,hkind.2]
        cases p
        · simp
        · simp only [Bool.not_true,Bool.false_eq_true,if_false,Bool.true_and]; exact hrest
      · cases hk
    · cases hk

theorem kind_part {t : TypeId} {k : Nat} (h : kindT P t = some k) : aggT P t = some false := by
  unfold kindT at h
  split at h <;> first | (cases h; done) | simp [aggT, *]
theorem kind_eq {t : TypeId} {k : Nat} (d : Nat) {ua ub : Value} {p : Bool} (h : kindT P t = some k) (h3 : eqV k ua ub = some p) : (Op.equalIn (d + 1) t ua ub).run P w = .ok p w := by
  unfold kindT at h
  split at h
  · rename_i k' hu
    cases h
    cases ua <;> cases ub <;> first | (simp [eqV] at h3; done) | skip
    simp only [eqV] at h3
    split at h3
    · rename_i hk; subst hk; cases h3
      exact run_equalIn_int w d t _ k' _ _ hu
    · cases h3
  · rename_i hu
    cases h
    cases ua <;> cases ub <;> first | (simp [eqV] at h3; done) | skip
    simp only [eqV] at h3
    cases h3
    exact run_equalIn_bool' w d t _ _ hu
  · rename_i hu
    cases h
    cases ua <;> cases ub <;> first | (simp [eqV] at h3; done) | skip
    simp only [eqV] at h3
    cases h3
    exact run_equalIn_string w d t _ _ hu
  · cases h
theorem eqCells_app : ∀ (ks ks2 : List Nat) (l m : List LV) (b : Bool), eqCells (ks ++ ks2) l m = some b → ∃ p q, eqCells ks (l.take ks.length) (m.take ks.length) = some p ∧ eqCells ks2 (l.drop ks.length) (m.drop ks.length) = some q ∧ b = (p && q)
  | [], ks2, l, m, b, h => ⟨true, b, by simp [eqCells], by simpa using h, by simp⟩
  | k :: ks, ks2, l, m, b, h => by
    rw [List.cons_append] at h
    obtain ⟨va, vb, p, q, xs, ys, rfl, rfl, h3, h4, rfl⟩ := eqCells_inv h
    obtain ⟨p2, q2, h5, h6, rfl⟩ := eqCells_app ks ks2 xs ys q h4
    refine ⟨p && p2, q2, ?_, by simpa using h6, by rw [Bool.and_assoc]⟩
    simp only [List.length_cons,List.take_succ_cons,eqCells,h3,h5]
theorem run_eqFieldsN {xs ys : Array Value} {ls ms : List LV} (hx : RepC J w ι ls xs.toList) (hy : RepC J w ι ms ys.toList) : ∀ (fs : List Field) (i : Nat) (ks : List Nat) (b : Bool), kindsN P i fs = some ks → eqCells ks (ls.drop i) (ms.drop i) = some b →
    (Op.eqFields 9999 xs ys fs).run P w = .ok b w
  | [], i, ks, b, hk, he => by
    simp only [kindsN] at hk; cases hk
    simp only [Op.eqFields]
    generalize ls.drop i = l at he
    generalize ms.drop i = m at he
    cases l <;> cases m <;> simp only [eqCells] at he <;> first | (cases he; rfl) | (cases he)
  | f :: fs, i, ks, b, hk, he => by
    simp only [kindsN] at hk
    split at hk
    · rename_i hc
      obtain ⟨hoff, hname⟩ := hc
      split at hk
      · rename_i k h1
        split at hk
        · rename_i ks' h2
          cases hk
          have hdx := hx.drop i
          have hdy := hy.drop i
          generalize hl : ls.drop i = l at he hdx
          generalize hm : ms.drop i = m at he hdy
          have := eqCells_inv he
          obtain ⟨va, vb, p, q, xs', ys', rfl, rfl, h3, h4, rfl⟩ := this
          have hlx : ls[i]? = some (.d (.val va)) := by
            have : (ls.drop i)[0]? = some (.d (.val va)) := by rw [hl]; rfl
            simpa using this
          have hly : ms[i]? = some (.d (.val vb)) := by
            have : (ms.drop i)[0]? = some (.d (.val vb)) := by rw [hm]; rfl
            simpa using this
          obtain ⟨ua, hua, _, hra⟩ := hx.get hlx
          obtain ⟨ub, hub, _, hrb⟩ := hy.get hly
          have hra' : ua = va := hra
          have hrb' : ub = vb := hrb
          subst hra'; subst hrb'
          have hxi : xs[i]? = some ua := by simpa using hua
          have hyi : ys[i]? = some ub := by simpa using hub
          have hrest := run_eqFieldsN hx hy fs (i + 1) ks' q h2 (by
            rw [← List.drop_drop, ← List.drop_drop, hl, hm]; exact h4)
          have part1 : ∀ {v : Value} {cs : Array Value}, cs[i]? = some v → (part f.type cs f.offset).run P w = .ok v w := fun hv => by
            rw [hoff]; simp [part,aggT_run (kind_part h1),hv]
          simp only [Op.eqFields]
          rw [if_pos hname]
          simp only [Sem.run_bind,part1 hxi,part1 hyi,Result.andThen_ok,kind_eq (w := w) 9998 h1 h3]
          cases p
          · simp
          · simp only [Bool.not_true,Bool.false_eq_true,if_false,Bool.true_and]; exact hrest
        · cases hk
      · split at hk
        · rename_i gs hu
          split at hk
          · rename_i ks1 h1
            split at hk
            · rename_i hcond
              obtain ⟨g1, g2, g3⟩ := hcond
              split at hk
              · rename_i ks' h2
                cases hk
                obtain ⟨p, q, e1, e2, rfl⟩ := eqCells_app ks1 ks' _ _ _ he
                have hrest := run_eqFieldsN hx hy fs (i + ks1.length) ks' q h2 (by rw [← List.drop_drop, ← List.drop_drop]; exact e2)
                have partn : ∀ {cs : Array Value}, (part f.type cs f.offset).run P w = .ok (.agg (cs.extract i (i + ks1.length))) w := fun {cs} => by
                  obtain ⟨ti, hi, hn⟩ := info_of_sizeT g2
                  rw [hoff]
                  simp [part,aggT_run g3,Go.sizeOf,typeInfo,hi,hn]
                have hcut : ∀ {cs : Array Value}, (cs.extract i (i + ks1.length)).toList = (cs.toList.drop i).take ks1.length := fun {cs} => by simp [List.take_drop]
                have hxn : RepC J w ι ((ls.drop i).take ks1.length) (xs.extract i (i + ks1.length)).toList := by rw [hcut]; exact (hx.drop i).take _
                have hyn : RepC J w ι ((ms.drop i).take ks1.length) (ys.extract i (i + ks1.length)).toList := by rw [hcut]; exact (hy.drop i).take _
                have hfo : P.underlying f.type = some (.struct (P.fieldsOf f.type)) := by simp [Program.fieldsOf,hu]
                have hff : P.fieldsOf f.type = gs := by simp [Program.fieldsOf,hu]
                have heq : (Op.equalIn 9999 f.type (.agg (xs.extract i (i + ks1.length))) (.agg (ys.extract i (i + ks1.length)))).run P w = .ok p w := by
                  rw [show (9999 : Nat) = 9998 + 1 from rfl, run_equalIn_struct w 9998 f.type _ _ hfo g1, hff]
                  exact run_eqFields 9997 hxn hyn gs.toList 0 ks1 p h1 (by simpa using e1)
                simp only [Op.eqFields]
                rw [if_pos hname]
                simp only [Sem.run_bind,partn,Result.andThen_ok,heq]
                cases p
                · simp
                · simp only [Bool.not_true,Bool.false_eq_true,if_false,Bool.true_and]; exact hrest
              · cases hk
            · cases hk
          · cases hk
        · cases hk
    · cases hk

theorem run_eqs {op : BinOp} (ho : op = .eql ∨ op = .neq) {T : TypeId} {ks : List Nat} (h : eqT P T = some ks) (X Y : Operand) {xs ys : Array Value} {ls ms : List LV} (hx : RepC J w ι ls xs.toList) (hy : RepC J w ι ms ys.toList) {b : Bool} (he : eqCells ks ls ms = some b) :
    (do eqGuard op T X Y (.agg xs) (.agg ys); Go.binOp op T (.agg xs) (.agg ys)).run P w = .ok (.bool (bif isNeq op then !b else b)) w := by
  unfold eqT at h
  split at h
  · rename_i fs hu
    split at h
    · rename_i hc
      have hfo : P.underlying T = some (.struct (P.fieldsOf T)) := by simp [Program.fieldsOf,hu]
      have hff : P.fieldsOf T = fs := by simp [Program.fieldsOf,hu]
      have heq : (Op.equalIn 10000 T (.agg xs) (.agg ys)).run P w = .ok b w := by
        rw [show (10000 : Nat) = 9999 + 1 from rfl, run_equalIn_struct w 9999 T xs ys hfo hc.1, hff]
        exact run_eqFieldsN hx hy fs.toList 0 ks b h (by simpa using he)
      have hg := run_eqGuard_agg (P := P) w op T X Y xs ys hc.2
      rcases ho with rfl | rfl
      · rw [Sem.run_bind, hg]; simp only [Result.andThen_ok,run_eql_struct,heq]; rfl
      · rw [Sem.run_bind, hg]; simp only [Result.andThen_ok,run_neq_struct,heq]; rfl
    · cases h
  · cases h

theorem run_bound {v : Value} {y : Nat} {code : BoundsCode} {k : IntKind} {i : Int} (hv : v = .int k i) (h0 : 0 ≤ i) (hl : i.toNat ≤ y) (w : World) : (Instr.sliceBound v y code).run P w = .ok i.toNat w := by
  subst hv
  have : 0 ≤ i ∧ i ≤ (y : Int) := ⟨h0, by omega⟩
  simp [Instr.sliceBound,asIntOf,this]

def BV (o : Option Value) (d v : Nat) : Prop := (o = none ∧ v = d) ∨ ∃ k i, o = some (.int k i) ∧ 0 ≤ i ∧ v = i.toNat

theorem run_sliceBounds {b : Bool} {len cap l h m : Nat} {lo hi mx : Option Value} (h1 : BV lo 0 l) (h2 : BV hi len h) (h3 : BV mx len m) (k1 : l ≤ h) (k2 : h ≤ m) (k3 : m ≤ len) (k4 : len ≤ cap) (hm : mx = none ∨ hi.isSome = true) (w : World) :
    ∃ m', m ≤ m' ∧ m' ≤ cap ∧ (Instr.sliceBounds b len cap lo hi mx).run P w = .ok (l, h, m') w := by
  rcases h3 with ⟨rfl, rfl⟩ | ⟨k3', i3, rfl, q3, rfl⟩
  · refine ⟨cap, k4, Nat.le_refl _, ?_⟩
    rcases h2 with ⟨rfl, rfl⟩ | ⟨k2', i2, rfl, q2, rfl⟩ <;> rcases h1 with ⟨rfl, rfl⟩ | ⟨k1', i1, rfl, q1, rfl⟩
    · simp [Instr.sliceBounds]
    · simp [Instr.sliceBounds,run_bound (P := P) rfl q1 (y := h) (by omega) w]
    · simp [Instr.sliceBounds,run_bound (P := P) rfl q2 (y := cap) (by omega) w]
    · simp [Instr.sliceBounds,run_bound (P := P) rfl q2 (y := cap) (by omega) w,run_bound (P := P) rfl q1 (y := i2.toNat) (by omega) w]
  · refine ⟨i3.toNat, Nat.le_refl _, by omega, ?_⟩
    rcases h2 with ⟨rfl, rfl⟩ | ⟨k2', i2, rfl, q2, rfl⟩
    · rcases hm with hm | hm <;> cases hm
    · rcases h1 with ⟨rfl, rfl⟩ | ⟨k1', i1, rfl, q1, rfl⟩
      · simp [Instr.sliceBounds,run_bound (P := P) rfl q3 (y := cap) (by omega) w,run_bound (P := P) rfl q2 (y := i3.toNat) (by omega) w]
      · simp [Instr.sliceBounds,run_bound (P := P) rfl q3 (y := cap) (by omega) w,run_bound (P := P) rfl q2 (y := i3.toNat) (by omega) w,run_bound (P := P) rfl q1 (y := i2.toNat) (by omega) w]

theorem run_sli {T e : TypeId} {n : Nat} (hu : P.underlying T = some (.slice e)) (hs : sizeT P e = some n) {sa : Option Addr} {len cap l h m : Nat} {lo hi mx : Option Value} (h1 : BV lo 0 l) (h2 : BV hi len h) (h3 : BV mx len m) (k1 : l ≤ h) (k2 : h ≤ m) (k3 : m ≤ len) (k4 : len ≤ cap)
    (hm : mx = none ∨ hi.isSome = true) (w : World) :
    ∃ m', m ≤ m' ∧ m' ≤ cap ∧ (Instr.sliceAt T (.slice sa len cap) lo hi mx).run P w = .ok (.slice (if m' = l then sa else sa.map (·.add (l * n))) (h - l) (m' - l)) w := by
  obtain ⟨i, hi', hn⟩ := info_of_sizeT hs
  obtain ⟨m', p1, p2, hrun⟩ := run_sliceBounds (P := P) (b := true) h1 h2 h3 k1 k2 k3 k4 hm w
  refine ⟨m', p1, p2, ?_⟩
  have hsz : (Go.sizeOf e).run P w = .ok n w := by simp [Go.sizeOf,typeInfo,hi',hn]
  simp only [Instr.sliceAt,Instr.slice,Sem.run_bind,run_underlying hu w,Result.andThen_ok,hrun,hsz,Sem.run_pure]

theorem run_sls {T : TypeId} (hu : P.underlying T = some .string) {s : ByteArray} {l h : Nat} {lo hi : Option Value} (h1 : BV lo 0 l) (h2 : BV hi s.size h) (k1 : l ≤ h) (k2 : h ≤ s.size) (w : World) :
    (Instr.sliceAt T (.string s) lo hi none).run P w = .ok (.string (s.extract l h)) w := by
  obtain ⟨m', _, _, hrun⟩ := run_sliceBounds (P := P) (b := false) (mx := none) (cap := s.size) h1 h2 (.inl ⟨rfl, rfl⟩) k1 k2 (Nat.le_refl _) (Nat.le_refl _) (.inl rfl) w
  simp only [Instr.sliceAt,Instr.slice,Sem.run_bind,run_underlying hu w,Result.andThen_ok]
  simp [hrun]

theorem bv_of (S : Store G J w ι obj) (he : ∀ t, Rep J w ι (get t) (a.tmps.getD t Go.undef)) {o : Option Operand} {o' : Option Opd} {d v : Nat} (ho : convOpdO o = some o') (hb : boundV d (o'.map (·.ev G get)) = some v) : BV (o.map a.eval) d v := by
  cases o with
  | none => simp only [convOpdO] at ho; cases ho; simp only [Option.map_none,boundV] at hb; exact .inl ⟨rfl, (Option.some.inj hb).symm⟩
  | some X =>
    simp only [convOpdO] at ho
    split at ho
    · rename_i y hy
      cases ho
      have hr := rep_ev S he hy
      simp only [Option.map_some] at hb
      unfold boundV at hb
      split at hb
      · rename_i hq; cases hq
      · rename_i k i hq
        rw [Option.some.inj hq] at hr
        have hX : a.eval X = .int k i := hr
        split at hb
        · rename_i h0
          exact .inr ⟨k, i, by simp [hX], h0, (Option.some.inj hb).symm⟩
        · cases hb
      · cases hb
    · cases ho

theorem sli_sound (S : Store G J w ι obj) (he : ∀ t, Rep J w ι (get t) (a.tmps.getD t Go.undef)) {X : Operand} {x : Opd} (hx : convOpd X = some x) {lo hi mx : Option Operand} {lo' hi' mx' : Option Opd} (hl : convOpdO lo = some lo') (hh : convOpdO hi = some hi') (hm : convOpdO mx = some mx')
    (hmh : (mx.isNone || hi.isSome) = true) {T el : TypeId} {n : Nat} (hu : P.underlying T = some (.slice el)) (hs : sizeT P el = some n) {e : Eff} (hE : effF G get obj base (.sli n x lo' hi' mx') = some e) :
    ∃ v, (Instr.sliceAt T (a.eval X) (lo.map a.eval) (hi.map a.eval) (mx.map a.eval)).run P w = .ok v w ∧ Rep J w ι e.r v ∧ e.nw = [] ∧ e.wr = [] := by
  have hrx := rep_ev S he hx
  have hmm : mx.map a.eval = none ∨ (hi.map a.eval).isSome = true := by
    cases mx with
    | none => exact .inl rfl
    | some _ => right; cases hi <;> simp at hmh ⊢
  simp only [effF] at hE
  split at hE
  · rename_i e' rows hev
    rw [hev] at hrx
    split at hE
    · rename_i l h m b1 b2 b3
      split at hE
      · rename_i hc
        obtain ⟨rfl, k1, k2, k3⟩ := hc
        cases hE
        obtain ⟨sa, len, cap, hv, hlen, hcap, hr⟩ := hrx
        subst hlen
        obtain ⟨m', p1, p2, hrun⟩ := run_sli (P := P) hu hs (sa := sa) (bv_of S he hl b1) (bv_of S he hh b2) (bv_of S he hm b3) k1 k2 k3 hcap hmm w
        refine ⟨_, by rw [hv]; exact hrun, ⟨_, h - l, m' - l, rfl, by simp; omega, by omega, ?_⟩, rfl, rfl⟩
        by_cases hz : h = l
        · left; simp [hz]
        · right
          rcases hr with hr | ⟨b, off, rfl, hJ, hr⟩
          · rw [hr] at k3; simp at k3; omega
          · refine ⟨b, off + l * e', ?_, hJ, (hr.drop l).take _⟩
            rw [if_neg (by omega)]
            simp [Addr.add_mid]
      · cases hE
    · cases hE
  · rename_i o on e' slo len hev
    rw [hev] at hrx
    split at hE
    · rename_i l h m b1 b2 b3
      split at hE
      · rename_i hc
        obtain ⟨rfl, k1, k2, k3⟩ := hc
        cases hE
        rcases hrx with ⟨hz, sa, hv⟩ | ⟨b, cap, et, C, hb, hv, hcap, hsh, hC⟩
        · subst hz
          obtain ⟨m', p1, p2, hrun⟩ := run_sli (P := P) hu hs (sa := sa) (cap := 0) (bv_of S he hl b1) (bv_of S he hh b2) (bv_of S he hm b3) k1 k2 k3 (Nat.le_refl _) hmm w
          rw [show h - l = 0 by omega, show m' - l = 0 by omega] at hrun
          exact ⟨_, by rw [hv]; exact hrun, .inl ⟨by omega, _, rfl⟩, rfl, rfl⟩
        · obtain ⟨m', p1, p2, hrun⟩ := run_sli (P := P) hu hs (sa := some ⟨b, slo * e', none⟩) (bv_of S he hl b1) (bv_of S he hh b2) (bv_of S he hm b3) k1 k2 k3 hcap hmm w
          refine ⟨_, by rw [hv]; exact hrun, ?_, rfl, rfl⟩
          by_cases hz : m' = l
          · left
            rw [show h - l = 0 by omega, show m' - l = 0 by omega]
            exact ⟨rfl, _, rfl⟩
          · right
            refine ⟨b, m' - l, et, C, hb, ?_, by omega, hsh, ?_⟩
            · rw [if_neg hz]
              simp [Addr.add_mid,Nat.add_mul]
            · refine Nat.le_trans (Nat.mul_le_mul_right _ ?_) hC
              omega
      · cases hE
    · cases hE
  · rename_i hev
    rw [hev] at hrx
    have hv : a.eval X = .slice none 0 0 := hrx
    split at hE
    · rename_i l h m b1 b2 b3
      split at hE
      · rename_i hc
        obtain ⟨k1, k2, k3⟩ := hc
        cases hE
        obtain ⟨m', p1, p2, hrun⟩ := run_sli (P := P) hu hs (sa := none) (len := 0) (cap := 0) (bv_of S he hl b1) (bv_of S he hh b2) (bv_of S he hm b3) k1 k2 k3 (Nat.le_refl _) hmm w
        refine ⟨_, by rw [hv]; exact hrun, ?_, rfl, rfl⟩
        show _ = _
        rw [show h - l = 0 by omega, show m' - l = 0 by omega]
        split <;> rfl
      · cases hE
    · cases hE
  · cases hE

theorem run_fieldAt {T : TypeId} {fs : Array Field} {f : Field} {k n : Nat} (hu : P.underlying T = some (.struct fs)) (hf : fs[k]? = some f) (hs : sizeT P f.type = some (n + 1)) (b o : Nat) (w : World) :
    (Instr.fieldAt T (.pointer (some ⟨b, o, none⟩)) k).run P w = .ok (.pointer (some ⟨b, o + f.offset, none⟩)) w := by
  obtain ⟨i, hi, hn⟩ := info_of_sizeT hs
  have hz : (Go.sizeOf f.type).run P w = .ok (n + 1) w := by simp [Go.sizeOf,typeInfo,hi,hn]
  simp only [Instr.fieldAt,Sem.run_bind,run_underlying hu w,Result.andThen_ok,hf,Instr.sureAddr,Sem.run_pure,fieldPlace,hz]
  rw [if_neg (by omega)]
  simp [Addr.add_mid]

theorem run_ixa {T e : TypeId} {n : Nat} (hu : P.underlying T = some (.slice e)) (hs : sizeT P e = some n) (b o len cap : Nat) (k : IntKind) (i : Int) (h0 : 0 ≤ i) (hl : i.toNat < len) (w : World) :
    (Instr.indexAt T (.slice (some ⟨b, o, none⟩) len cap) (.int k i)).run P w = .ok (.pointer (some ⟨b, o + i.toNat * n, none⟩)) w := by
  obtain ⟨j, hj, hn⟩ := info_of_sizeT hs
  have hz : (Go.sizeOf e).run P w = .ok n w := by simp [Go.sizeOf,typeInfo,hj,hn]
  have hc : 0 ≤ i ∧ i < len := ⟨h0, by omega⟩
  simp only [Instr.indexAt,asIntOf,Sem.run_bind,Sem.run_pure,Result.andThen_ok,run_underlying hu w]
  rw [if_pos hc]
  simp [hz,Addr.add_mid]

theorem run_ixr {T e : TypeId} {n len : Nat} (hu : P.underlying T = some (.array len e)) (hs : sizeT P e = some n) (b o : Nat) (k : IntKind) (i : Int) (h0 : 0 ≤ i) (hl : i.toNat < len) (w : World) :
    (Instr.indexAt T (.pointer (some ⟨b, o, none⟩)) (.int k i)).run P w = .ok (.pointer (some ⟨b, o + i.toNat * n, none⟩)) w := by
  obtain ⟨j, hj, hn⟩ := info_of_sizeT hs
  have hz : (Go.sizeOf e).run P w = .ok n w := by simp [Go.sizeOf,typeInfo,hj,hn]
  have hc : 0 ≤ i ∧ i < len := ⟨h0, by omega⟩
  simp only [Instr.indexAt,asIntOf,Sem.run_bind,Sem.run_pure,Result.andThen_ok,run_underlying hu w,Instr.sureAddr]
  rw [if_pos hc]
  simp [hz,Addr.add_mid]

theorem run_ld1 {T : TypeId} (ha : aggT P T = some false) {b o : Nat} {v : Value} (hv : w.cell? ⟨b, o, none⟩ = some v) :
    (Instr.loadAt T (.pointer (some ⟨b, o, none⟩))).run P w = .ok v w := by
  simp [Instr.loadAt,Instr.sureAddr,loadVar,aggT_run ha,hv]

theorem run_ldn {T : TypeId} {n : Nat} (ha : aggT P T = some true) (hs : sizeT P T = some n) {b o : Nat} {vs : List Value} (hv : w.rangeAt b o vs) (hl : vs.length = n) :
    (Instr.loadAt T (.pointer (some ⟨b, o, none⟩))).run P w = .ok (.agg vs.toArray) w := by
  obtain ⟨i, hi, hn⟩ := info_of_sizeT hs
  have h1 : (loadCells ⟨b, o, none⟩ vs.length).run P w = .ok vs.toArray w := run_loadCells_list (P := P) w ⟨b, o, none⟩ vs (fun j v h => by rw [Addr.add_mid]; exact hv j v h)
  rw [hl] at h1
  simp [Instr.loadAt,Instr.sureAddr,loadVar,aggT_run ha,Go.sizeOf,typeInfo,hi,hn,h1]

theorem run_st {T : TypeId} {n : Nat} (hs : sizeT P T = some n) {b o : Nat} {v : Value} (ht : w.there b o v.cells.size) (hl : v.cells.size = n) (h1 : ∀ u ∈ v.cells.toList, u.oneCell' = true) :
    (Instr.storeAt T (.pointer (some ⟨b, o, none⟩)) v).run P w = .ok () (w.setCells b o v.cells.toList) := by
  obtain ⟨i, hi, hn⟩ := info_of_sizeT hs
  have := run_storeCells_cells (P := P) b o v.cells.toList 0 w (fun j hj => by simpa using (ht j (by simpa using hj)).1) (fun j hj => by simpa using (ht j (by simpa using hj)).2) h1
  simp only [Nat.add_zero] at this
  simp [Instr.storeAt,Instr.sureAddr,storeVar,Go.sizeOf,typeInfo,hi,hn,hl,this]

theorem rowsOf_rep (S : Store G J w ι obj) (he : ∀ t, Rep J w ι (get t) (a.tmps.getD t Go.undef)) {esz : Nat} : ∀ {xs : List Operand} {ys : List Opd} {rows : List (List DV)}, convOpds xs = some ys → rowsOf G get esz ys = some rows →
    All2 (fun (x : Operand) (r : List DV) => RepDL J w r (a.eval x).cells.toList ∧ (∀ v ∈ (a.eval x).cells.toList, v.oneCell' = true) ∧ r.length = esz) xs rows
  | [], ys, rows, h, k => by
    simp only [convOpds] at h; cases h
    simp only [rowsOf] at k; cases k
    exact .nil
  | x :: xs, ys, rows, h, k => by
    simp only [convOpds] at h
    split at h
    · rename_i y ys' h1 h2
      cases h
      simp only [rowsOf] at k
      split at k
      · rename_i cs hcs
        split at k
        · rename_i ds hds
          split at k
          · rename_i hl
            split at k
            · rename_i r hr
              cases k
              have hrx := cells_rep (rep_ev S he h1) hcs
              exact .cons ⟨toDs_rep hds hrx.toL, hrx.one, hl⟩ (rowsOf_rep S he h2 hr)
            · cases k
          · cases k
        · cases k
      · cases k
    · cases h

theorem boxOf_rep (S : Store G J w ι obj) (he : ∀ t, Rep J w ι (get t) (a.tmps.getD t Go.undef)) : ∀ {xs : List Operand} {ys : List Opd} {cs : List LV}, convOpds xs = some ys → boxOf G get ys = some cs →
    RepC J w ι cs (((xs.map a.eval).map (·.cells.toList)).flatten) ∧ (∀ v ∈ xs.map a.eval, v.cells.size = 1) ∧ cs.length = xs.length
  | [], ys, cs, h, k => by
    simp only [convOpds] at h; cases h
    simp only [boxOf] at k; cases k
    exact ⟨trivial, by simp, rfl⟩
  | x :: xs, ys, cs, h, k => by
    simp only [convOpds] at h
    split at h
    · rename_i y ys' h1 h2
      cases h
      simp only [boxOf] at k
      split at k
      · rename_i c hcs
        split at k
        · rename_i hl
          split at k
          · rename_i r hr
            cases k
            have hrx := cells_rep (rep_ev S he h1) hcs
            obtain ⟨k1, k2, k3⟩ := boxOf_rep S he h2 hr
            have hsz : (a.eval x).cells.size = 1 := by
              have := hrx.length
              simp at this; omega
            refine ⟨?_, ?_, by rw [List.length_append, List.length_cons, k3, hl]; omega⟩
            · rw [List.map_cons, List.map_cons, List.flatten_cons]
              exact RepC.append hrx k1
            · intro v hv
              rw [List.map_cons] at hv
              rcases List.mem_cons.1 hv with rfl | hv
              · exact hsz
              · exact k2 v hv
          · cases k
        · cases k
      · cases k
    · cases h

theorem splice_splice {α : Type} (l : List α) (o : Nat) (xs ys : List α) (h : o + xs.length + ys.length ≤ l.length) : splice (splice l o xs) (o + xs.length) ys = splice l o (xs ++ ys) := by
  unfold splice
  have h1 : (l.take o ++ xs).length = o + xs.length := by simp; omega
  rw [List.take_left' h1, ← h1, ← List.drop_drop, List.drop_left, h1, List.drop_drop, List.length_append, List.append_assoc, List.append_assoc, List.append_assoc, List.append_assoc]
  rw [show o + xs.length + ys.length = o + (xs.length + ys.length) by omega]

theorem fill_rows (n : Nat) : ∀ (vals : List Value) (k : Nat) (cells : Array Value), (∀ v ∈ vals, v.cells.size = n) → (k + vals.length) * n ≤ cells.size →
    ∃ cs, Instr.fill (fun i => some (i * n, n)) cells ((List.range' k vals.length).zip vals) = some cs ∧ cs.toList = splice cells.toList (k * n) (vals.map (·.cells.toList)).flatten
  | [], k, cells, _, _ => ⟨cells, by simp [Instr.fill], by simp [splice]⟩
  | v :: vals, k, cells, h, hl => by
    have hv := h v (by simp)
    simp only [List.length_cons] at hl
    have hle : (k + 1) * n ≤ cells.size := Nat.le_trans (Nat.mul_le_mul_right _ (by omega)) hl
    rw [Nat.add_mul] at hle
    have hfold : (v.cells.zipIdx.foldl (fun cs (p : Value × Nat) => cs.setIfInBounds (k * n + p.2) p.1) cells).toList = splice cells.toList (k * n) v.cells.toList := by
      have := fold_splice (k * n) v.cells.toList 0 cells (by simp [hv]; omega)
      simp only [Nat.add_zero] at this
      rw [← this, ← Array.foldl_toList]
      simp
    generalize hA : v.cells.zipIdx.foldl (fun cs (p : Value × Nat) => cs.setIfInBounds (k * n + p.2) p.1) cells = A at hfold
    have hAs : A.size = cells.size := by
      have := congrArg List.length hfold
      rw [splice_length _ _ _ (by simp [hv]; omega)] at this
      simpa using this
    obtain ⟨cs, k1, k2⟩ := fill_rows n vals (k + 1) A (fun u hu => h u (by simp [hu])) (by rw [hAs, show k + 1 + vals.length = k + (vals.length + 1) by omega]; exact hl)
    refine ⟨cs, ?_, ?_⟩
    · simp only [List.length_cons,List.range'_succ,List.zip_cons_cons,Instr.fill]
      rw [if_neg (by rw [hv]; simp; omega), hA]
      exact k1
    · rw [k2, hfold]
      simp only [List.map_cons,List.flatten_cons]
      have hvl : v.cells.toList.length = n := by simpa using hv
      have hfl : (vals.map (·.cells.toList)).flatten.length = vals.length * n := by
        have hh : ∀ u ∈ vals, u.cells.size = n := fun u hu => h u (by simp [hu])
        clear k1 k2 hl
        induction vals with
        | nil => simp
        | cons u us ih =>
          simp only [List.map_cons,List.flatten_cons,List.length_append,List.length_cons,Nat.add_mul]
          rw [ih (fun x hx => h x (by simp at hx ⊢; rcases hx with hx | hx <;> simp [hx])) (fun x hx => hh x (by simp [hx]))]
          have := hh u (by simp)
          simp [this]; omega
      have := splice_splice cells.toList (k * n) v.cells.toList (vals.map (·.cells.toList)).flatten (by
        have hcl : cells.toList.length = cells.size := Array.length_toList
        rw [hvl, hfl, hcl]
        have e : (k + (vals.length + 1)) * n = k * n + n + vals.length * n := by simp only [Nat.add_mul]; omega
        omega)
      rw [hvl] at this
      rw [show (k + 1) * n = k * n + n by rw [Nat.add_mul]; omega]
      exact this
end
end Dv

namespace Dv
open Go

section
variable {P : Program} {G : Nat → Option (List DV)} {J : Nat → Prop} {w w' : World} {ι : Nat → Nat → Option Nat} {obj : Nat → OSt} {a : Act} {get : Nat → LV} {base : Nat}

theorem Goes.value {o : Oper} {s : Sem Value} {v : Value} {w' : World} {post : Value → World → Prop} (he : execOp a.eval o = (do pure (.value (← s)))) (hr : s.run P w = .ok v w') (hp : post v w') : Goes P o a w post :=
  Goes.of_run (by rw [he, Sem.run_bind, hr]; rfl) hp

theorem ld_sound (S : Store G J w ι obj) (he : ∀ t, Rep J w ι (get t) (a.tmps.getD t Go.undef)) {x : Opd} {X : Operand} (hx : convOpd X = some x) {T : TypeId} {e : Eff} (ha : aggT P T = some false) (hE : effF G get obj base (.ld1 x) = some e) :
    ∃ v, (Instr.loadAt T (a.eval X)).run P w = .ok v w ∧ Rep J w ι e.r v ∧ e.nw = [] ∧ e.wr = [] := by
  have hrx := rep_ev S he hx
  simp only [effF] at hE
  split at hE
  · rename_i o col hev
    rw [hev] at hrx
    split at hE
    · rename_i et cells ho
      split at hE
      · rename_i v hv
        cases hE
        obtain ⟨b, hb, hval⟩ := hrx
        have h0 := S.rep o
        rw [ho] at h0
        obtain ⟨⟨b', C, h1, h2, h3⟩, _⟩ := h0
        rw [hb] at h1; cases h1
        obtain ⟨u, hu, h1c, hru⟩ := h3.get hv
        rw [hval]
        exact ⟨u, run_ld1 ha (by rw [cell_of_row w b col C et _ h2]; simpa using hu), hru, rfl, rfl⟩
      · cases hE
    · cases hE
  · rename_i row col hev
    rw [hev] at hrx
    split at hE
    · rename_i v hv
      cases hE
      obtain ⟨b, off, hb, hval, hr⟩ := hrx
      obtain ⟨u, hu, h1c, hru⟩ := hr.get hv
      rw [hval]
      exact ⟨u, run_ld1 ha hu, hru, rfl, rfl⟩
    · cases hE
  · rename_i o n esz row col hev
    rw [hev] at hrx
    split at hE
    · rename_i et esz' rows ho
      split at hE
      · rename_i hc
        obtain ⟨rfl, rfl⟩ := hc
        split at hE
        · rename_i r hr
          split at hE
          · rename_i v hv
            cases hE
            obtain ⟨b, hb, hval⟩ := hrx
            have h0 := S.rep o
            rw [ho] at h0
            obtain ⟨⟨_, h1⟩, _⟩ := h0
            obtain ⟨_, h2⟩ := h1 b hb
            obtain ⟨_, h3⟩ := h2.get hr
            obtain ⟨u, hu, h1c, hru⟩ := h3.get hv
            rw [Nat.zero_add] at hu
            rw [hval]
            exact ⟨u, run_ld1 ha hu, hru, rfl, rfl⟩
          · cases hE
        · cases hE
      · cases hE
    · cases hE
  · cases hE

theorem ldn_sound (S : Store G J w ι obj) (he : ∀ t, Rep J w ι (get t) (a.tmps.getD t Go.undef)) {x : Opd} {X : Operand} (hx : convOpd X = some x) {T : TypeId} {n : Nat} {e : Eff} (ha : aggT P T = some true) (hs : sizeT P T = some n)
    (hE : effF G get obj base (.ldn n x) = some e) :
    ∃ v, (Instr.loadAt T (a.eval X)).run P w = .ok v w ∧ Rep J w ι e.r v ∧ e.nw = [] ∧ e.wr = [] := by
  have hrx := rep_ev S he hx
  have ofRow : ∀ {b off : Nat} {row : List DV}, RowD J w row b off → ∀ col, ((row.drop col).take n).length = n →
      ∃ v, (Instr.loadAt T (.pointer (some ⟨b, off + col, none⟩))).run P w = .ok v w ∧ Rep J w ι (.agg (((row.drop col).take n).map .d)) v := by
    intro b off row hr col hl
    obtain ⟨vs, v1, v2, v3⟩ := ((hr.drop col).take n).vals
    exact ⟨_, run_ldn ha hs v3 (by rw [← v1.length, hl]), vs.toArray, rfl, RepDL.mapC v1 v2⟩
  simp only [effF] at hE
  split at hE
  · rename_i o col hev
    rw [hev] at hrx
    split at hE
    · rename_i et cells ho
      split at hE
      · rename_i hl
        cases hE
        obtain ⟨b, hb, hval⟩ := hrx
        have h0 := S.rep o
        rw [ho] at h0
        obtain ⟨⟨b', C, h1, h2, h3⟩, _⟩ := h0
        rw [hb] at h1; cases h1
        have h4 := (h3.drop col).take n
        rw [hval]
        exact ⟨_, run_ldn ha hs (rangeAt_of_row h2 col n) (by rw [← h4.length, hl]), ⟨_, rfl, by simpa using h4⟩, rfl, rfl⟩
      · cases hE
    · cases hE
  · rename_i row col hev
    rw [hev] at hrx
    split at hE
    · rename_i hl
      cases hE
      obtain ⟨b, off, hb, hval, hr⟩ := hrx
      rw [hval]
      obtain ⟨v, k1, k2⟩ := ofRow hr col hl
      exact ⟨v, k1, k2, rfl, rfl⟩
    · cases hE
  · rename_i o m esz row col hev
    rw [hev] at hrx
    split at hE
    · rename_i et esz' rows ho
      split at hE
      · rename_i hc
        obtain ⟨rfl, rfl⟩ := hc
        split at hE
        · rename_i r hr
          split at hE
          · rename_i hl
            cases hE
            obtain ⟨b, hb, hval⟩ := hrx
            have h0 := S.rep o
            rw [ho] at h0
            obtain ⟨⟨_, h1⟩, _⟩ := h0
            obtain ⟨_, h2⟩ := h1 b hb
            obtain ⟨_, h3⟩ := h2.get hr
            rw [Nat.zero_add] at h3
            rw [hval]
            obtain ⟨v, k1, k2⟩ := ofRow h3 col hl
            exact ⟨v, k1, k2, rfl, rfl⟩
          · cases hE
        · cases hE
      · cases hE
    · cases hE
  · cases hE

theorem st_sound (S : Store G J w ι obj) (he : ∀ t, Rep J w ι (get t) (a.tmps.getD t Go.undef)) {x y : Opd} {X Y : Operand} (hx : convOpd X = some x) (hy : convOpd Y = some y) {T : TypeId} {n : Nat} {e : Eff} (hs : sizeT P T = some n)
    (hE : effF G get obj base (.st n x y) = some e) :
    ∃ w', (Instr.storeAt T (a.eval X) (a.eval Y)).run P w = .ok () w' ∧ After G obj (applyO obj base e) J ι w e.r Go.undef w' := by
  have hrx := rep_ev S he hx
  have hry := rep_ev S he hy
  simp only [effF] at hE
  split at hE
  · rename_i cs hcs
    have hrc := cells_rep hry hcs
    split at hE
    · rename_i hl
      have hvl : (a.eval Y).cells.size = n := by have := hrc.length; simp at this; omega
      split at hE
      · rename_i o col hev
        rw [hev] at hrx
        split at hE
        · rename_i et cells ho
          split at hE
          · rename_i hle
            cases hE
            obtain ⟨b, hb, ht, hA⟩ := After.setBox S ho hrc hle
            obtain ⟨b', hb', hval⟩ := hrx
            rw [hb] at hb'; cases hb'
            rw [hval]
            exact ⟨_, run_st hs (by simpa using ht) hvl hrc.one, hA⟩
          · cases hE
        · cases hE
      · rename_i o m esz row col hev
        rw [hev] at hrx
        split at hE
        · rename_i et esz' rows ho
          split at hE
          · rename_i hc
            obtain ⟨rfl, rfl⟩ := hc
            split at hE
            · rename_i ds hds
              split at hE
              · rename_i r hr
                split at hE
                · rename_i hle
                  cases hE
                  obtain ⟨b, hb, ht, hA⟩ := After.setDat S ho hr (toDs_rep hds hrc.toL) hrc.one hle
                  obtain ⟨b', hb', hval⟩ := hrx
                  rw [hb] at hb'; cases hb'
                  rw [hval]
                  exact ⟨_, run_st hs (by simpa using ht) hvl hrc.one, hA⟩
                · cases hE
              · cases hE
            · cases hE
          · cases hE
        · cases hE
      · cases hE
    · cases hE
  · cases hE

theorem ixa_sound (S : Store G J w ι obj) (he : ∀ t, Rep J w ι (get t) (a.tmps.getD t Go.undef)) {x i : Opd} {X Y : Operand} (hx : convOpd X = some x) (hy : convOpd Y = some i) {T el : TypeId} {n : Nat} {e : Eff} (hu : P.underlying T = some (.slice el)) (hs : sizeT P el = some n)
    (hE : effF G get obj base (.ixa n x i) = some e) :
    ∃ v, (Instr.indexAt T (a.eval X) (a.eval Y)).run P w = .ok v w ∧ Rep J w ι e.r v ∧ e.nw = [] ∧ e.wr = [] := by
  have hrx := rep_ev S he hx
  have hry := rep_ev S he hy
  simp only [effF] at hE
  split at hE
  · rename_i k j hev
    rw [hev] at hry
    have hY : a.eval Y = .int k j := hry
    split at hE
    · rename_i h0
      split at hE
      · rename_i el' rows hxe
        rw [hxe] at hrx
        split at hE
        · rename_i hel
          split at hE
          · rename_i r hr
            cases hE
            obtain ⟨sa, m, cap, hval, hm, hcap, hrows⟩ := hrx
            have hlt : j.toNat < rows.length := (List.getElem?_eq_some_iff.1 hr).1
            rcases hrows with hrows | ⟨b, off, rfl, hb, hrows⟩
            · rw [hrows] at hlt; simp at hlt
            · subst hel
              obtain ⟨_, hrow⟩ := hrows.get hr
              rw [hval, hY]
              exact ⟨_, run_ixa hu hs b off m cap k j h0 (by omega) w, ⟨b, off + j.toNat * el', hb, by simp, hrow⟩, rfl, rfl⟩
          · cases hE
        · cases hE
      · rename_i o m el' lo len hxe
        rw [hxe] at hrx
        have real : ∀ {b cap : Nat}, a.eval X = .slice (some ⟨b, lo * el', none⟩) len cap → el' = n → j.toNat < len →
            (Instr.indexAt T (a.eval X) (a.eval Y)).run P w = .ok (.pointer (some ⟨b, (lo + j.toNat) * el', none⟩)) w := by
          intro b cap hval hel hlt
          rw [hval, hY]
          have := run_ixa (P := P) hu hs b (lo * el') len cap k j h0 hlt w
          rw [← hel] at this
          rw [this, Nat.add_mul]
        split at hE
        · rename_i et el'' rows ho
          split at hE
          · rename_i hc
            obtain ⟨hel, hel2, hm, hlt⟩ := hc
            split at hE
            · rename_i r hr
              cases hE
              rcases hrx with ⟨h1, _⟩ | ⟨b, cap, et', C, hb, hval, hcap, _⟩
              · omega
              · have h0' := S.rep o
                rw [ho] at h0'
                obtain ⟨⟨_, h1⟩, _⟩ := h0'
                rw [hm] at hb
                obtain ⟨hJ, hrows⟩ := h1 b hb
                obtain ⟨_, hrow⟩ := hrows.get hr
                refine ⟨_, real hval hel hlt, ⟨b, (lo + j.toNat) * el', hJ, by simp, ?_⟩, rfl, rfl⟩
                rw [Nat.zero_add, hel2, ← hel] at hrow
                exact hrow
            · cases hE
          · cases hE
        · split at hE
          · rename_i hc
            obtain ⟨hel, he1, hm, hlt⟩ := hc
            cases hE
            rcases hrx with ⟨h1, _⟩ | ⟨b, cap, et', C, hb, hval, hcap, _⟩
            · omega
            · rw [hm] at hb
              exact ⟨_, real hval hel hlt, ⟨b, hb, by rw [he1]; simp⟩, rfl, rfl⟩
          · cases hE
        · split at hE
          · rename_i hc
            obtain ⟨hel, hlt⟩ := hc
            cases hE
            rcases hrx with ⟨h1, _⟩ | ⟨b, cap, et', C, hb, hval, hcap, _⟩
            · omega
            · exact ⟨_, real hval hel hlt, ⟨b, hb, by simp⟩, rfl, rfl⟩
          · cases hE
      · cases hE
    · cases hE
  · cases hE

theorem ixr_sound (S : Store G J w ι obj) (he : ∀ t, Rep J w ι (get t) (a.tmps.getD t Go.undef)) {x i : Opd} {X Y : Operand} (hx : convOpd X = some x) (hy : convOpd Y = some i) {T el : TypeId} {n len : Nat} {e : Eff} (hu : P.underlying T = some (.array len el)) (hs : sizeT P el = some n)
    (hE : effF G get obj base (.ixr len n x i) = some e) :
    ∃ v, (Instr.indexAt T (a.eval X) (a.eval Y)).run P w = .ok v w ∧ Rep J w ι e.r v ∧ e.nw = [] ∧ e.wr = [] := by
  have hrx := rep_ev S he hx
  have hry := rep_ev S he hy
  simp only [effF] at hE
  split at hE
  · rename_i k j hev
    rw [hev] at hry
    have hY : a.eval Y = .int k j := hry
    split at hE
    · rename_i h0
      split at hE
      · rename_i o col hxe
        rw [hxe] at hrx
        cases hE
        obtain ⟨b, hb, hval⟩ := hrx
        rw [hval, hY]
        exact ⟨_, run_ixr hu hs b col k j h0.1 h0.2 w, ⟨b, hb, rfl⟩, rfl, rfl⟩
      · rename_i o m es r c hxe
        rw [hxe] at hrx
        cases hE
        obtain ⟨b, hb, hval⟩ := hrx
        rw [hval, hY]
        exact ⟨_, run_ixr hu hs b _ k j h0.1 h0.2 w, ⟨b, hb, by simp; omega⟩, rfl, rfl⟩
      · rename_i r c hxe
        rw [hxe] at hrx
        cases hE
        obtain ⟨b, off, hb, hval, hr⟩ := hrx
        rw [hval, hY]
        exact ⟨_, run_ixr hu hs b _ k j h0.1 h0.2 w, ⟨b, off, hb, by simp; omega, hr⟩, rfl, rfl⟩
      · cases hE
    · cases hE
  · cases hE

theorem run_part {t : TypeId} {cs : Array Value} {off : Nat} {v : Value} (ha : aggT P t = some false) (hv : cs[off]? = some v) : (part t cs off).run P w = .ok v w := by
  simp [part,aggT_run ha,hv]
theorem run_partn {t : TypeId} {cs : Array Value} {off n : Nat} (ha : aggT P t = some true) (hs : sizeT P t = some n) : (part t cs off).run P w = .ok (.agg (cs.extract off (off + n))) w := by
  obtain ⟨i, hi, hn⟩ := info_of_sizeT hs
  simp [part,aggT_run ha,Go.sizeOf,typeInfo,hi,hn]

theorem All2.map_eq {α β : Type} {xs : List α} {ys : List β} {R : α → β → Prop} (h : All2 R xs ys) : xs.length = ys.length := by
  induction h with
  | nil => rfl
  | cons _ _ ih => simp [ih]

theorem elemT_spec {e : TypeId} {n b : Nat} (h : elemT P e = some (n, b)) : ∃ i z, P.info? e = some i ∧ i.zero = some z ∧ i.size = n ∧ i.bytes = b ∧ z.cells.size = i.size ∧ 0 < i.bytes ∧ 0 < i.size := by
  unfold elemT at h
  split at h
  · rename_i i hi
    split at h
    · rename_i z hz
      split at h
      · rename_i hc
        cases h
        exact ⟨i, z, hi, hz, rfl, rfl, hc.1, hc.2.1, hc.2.2⟩
      · cases h
    · cases h
  · cases h

theorem zip_parts {β γ : Type} (f : β → γ) : ∀ (l : List (Nat × β)) (k : Nat), l.map (·.1) = List.range' k l.length → l.map (fun p => (p.1, f p.2)) = (List.range' k (l.map (fun p => f p.2)).length).zip (l.map (fun p => f p.2))
  | [], k, _ => rfl
  | p :: l, k, h => by
    simp only [List.map_cons,List.length_cons,List.range'_succ,List.cons.injEq] at h
    simp only [List.map_cons,List.length_cons,List.range'_succ,List.zip_cons_cons]
    rw [← zip_parts f l (k + 1) h.2, h.1]

theorem All2.flat {esz : Nat} : ∀ {xs : List Operand} {rows : List (List DV)}, All2 (fun (x : Operand) (r : List DV) => RepDL J w r (a.eval x).cells.toList ∧ (∀ v ∈ (a.eval x).cells.toList, v.oneCell' = true) ∧ r.length = esz) xs rows →
    RepDL J w rows.flatten ((xs.map a.eval).map (·.cells.toList)).flatten ∧ (∀ v ∈ ((xs.map a.eval).map (·.cells.toList)).flatten, v.oneCell' = true) ∧ (∀ r ∈ rows, r.length = esz) ∧ (∀ v ∈ xs.map a.eval, v.cells.size = esz)
  | _, _, .nil => ⟨trivial, (fun _ h => by cases h), (fun _ h => by cases h), (fun _ h => by cases h)⟩
  | _, _, .cons h1 h2 => by
    obtain ⟨k1, k2, k3, k4⟩ := All2.flat h2
    obtain ⟨h3, h4, h5⟩ := h1
    simp only [List.map_cons,List.flatten_cons]
    refine ⟨RepDL.append h3 k1, fun v hv => ?_, fun r hr => ?_, fun v hv => ?_⟩
    · rcases List.mem_append.1 hv with hv | hv
      · exact h4 v hv
      · exact k2 v hv
    · rcases List.mem_cons.1 hr with rfl | hr
      · exact h5
      · exact k3 r hr
    · rcases List.mem_cons.1 hv with rfl | hv
      · have := h3.length
        simp at this; omega
      · exact k4 v hv

theorem bsl_sound (S : Store G J w ι obj) (he : ∀ t, Rep J w ι (get t) (a.tmps.getD t Go.undef)) {T : TypeId} {n : Nat} {parts : Array (Nat × Operand)} {et esz : Nat} {ys : List Opd} {e : Eff} (hc : convB P (.buildSlice T n parts) = some (.bsl et esz ys))
    (hb : obj base = .free) (hE : effF G get obj base (.bsl et esz ys) = some e) :
    ∃ v w', (Instr.buildSlice T n (parts.map fun (i, x) => (i, a.eval x))).run P w = .ok v w' ∧ After G obj (applyO obj base e) J ι w e.r v w' := by
  simp only [convB] at hc
  split at hc
  · rename_i el hu
    split at hc
    · rename_i size bs xs h1 h2
      split at hc
      · rename_i hcond
        cases hc
        obtain ⟨hfit, hidx⟩ := hcond
        obtain ⟨i, z, hi, hz, hsz, _, hzc, _, hpos⟩ := elemT_spec h1
        simp only [effF] at hE
        split at hE
        · rename_i rows hrows
          cases hE
          have hA := rowsOf_rep S he h2 hrows
          have hlen := hA.map_eq
          have hpl : parts.toList.length = n := by have := congrArg List.length hidx; simpa using this
          rw [List.length_map, hpl] at hlen
          obtain ⟨f1, f2, f3, f4⟩ := hA.flat
          have hvals : (parts.map fun (i, x) => (i, a.eval x)).toList = (List.range' 0 ((parts.toList.map (·.2)).map a.eval).length).zip ((parts.toList.map (·.2)).map a.eval) := by
            have := zip_parts a.eval parts.toList 0 (by rw [hidx, hpl, List.range_eq_range'])
            rw [Array.toList_map, List.map_map]
            exact this
          let C0 : Array Value := (Array.range (n * esz)).map ((if n * esz = 0 then #[] else z.cells)[· % (if n * esz = 0 then #[] else z.cells).size]!)
          have hC0 : C0.size = n * esz := by simp [C0]
          have hvl : ((parts.toList.map (·.2)).map a.eval).length = n := by simpa using hpl
          obtain ⟨cs, k1, k2⟩ := fill_rows esz ((parts.toList.map (·.2)).map a.eval) 0 C0 f4 (by rw [hvl, Nat.zero_add, hC0]; exact Nat.le_refl _)
          have hrun : (Instr.buildSlice T n (parts.map fun (i, x) => (i, a.eval x))).run P w = .ok (.slice (some ⟨w.heap.size, 0, none⟩) n n) (w.alloc (.cells cs et)) := by
            have hfit' : ¬ n * esz > 2 ^ 24 := by omega
            have hso : ∀ w : World, (Go.sizeOf et).run P w = .ok esz w := fun w => by simp [Go.sizeOf,typeInfo,hi,hsz]
            have hze : ∀ w : World, (zeroValue et).run P w = .ok z w := fun w => by simp [zeroValue,typeInfo,hi,hz]
            by_cases h0 : n * esz = 0
            · have k1' := k1
              simp only [C0,if_pos h0] at k1'
              simp only [Instr.buildSlice,Sem.run_bind,run_underlying hu w,Result.andThen_ok,hso,if_neg hfit',Sem.run_pure,if_pos h0,hvals,k1']
              simp [newRow]
            · have k1' := k1
              simp only [C0,if_neg h0] at k1'
              simp only [Instr.buildSlice,Sem.run_bind,run_underlying hu w,Result.andThen_ok,hso,if_neg hfit',Sem.run_pure,if_neg h0,hze,hvals,k1']
              simp [newRow]
          have hcl : cs.toList = ((parts.toList.map (·.2)).map a.eval |>.map (·.cells.toList)).flatten := by
            rw [k2]
            have hfl : (((parts.toList.map (·.2)).map a.eval).map (·.cells.toList)).flatten.length = C0.toList.length := by
              have hcl0 : C0.toList.length = n * esz := by rw [← hC0]; exact Array.length_toList
              rw [← f1.length, flatten_len f3, hcl0, ← hlen]
            simp only [Nat.zero_mul]
            unfold splice
            rw [Nat.zero_add, hfl]
            simp
          refine ⟨_, _, hrun, ?_⟩
          have hcsz : cs.size = n * esz := by
            have : cs.toList.length = cs.size := Array.length_toList
            rw [← this, hcl, ← f1.length, flatten_len f3, ← hlen]
          have := After.dat (G := G) (J := J) (w := w) (ι := ι) S hb et esz rows cs w.drawn n (by omega) (by rw [hcsz]; exact Nat.le_refl _) (fun ι' E => by
            refine RowsD.ofBlock (RepDL.mono (fun _ h => h) (S.same E) _ _ f1) f2 f3 (heap_alloc_new' { w with drawn := w.drawn } _) (fun j u hu => ?_)
            rw [← hcl] at hu
            simpa using hu)
          rw [← hlen] at this ⊢
          exact this
        · split at hE
          · rename_i hesz
            split at hE
            · rename_i cl hcl
              cases hE
              subst hesz
              obtain ⟨b1, b2, b3⟩ := boxOf_rep S he h2 hcl
              have hpl : parts.toList.length = n := by have := congrArg List.length hidx; simpa using this
              rw [List.length_map, hpl] at b3
              have hvals : (parts.map fun (i, x) => (i, a.eval x)).toList = (List.range' 0 ((parts.toList.map (·.2)).map a.eval).length).zip ((parts.toList.map (·.2)).map a.eval) := by
                have := zip_parts a.eval parts.toList 0 (by rw [hidx, hpl, List.range_eq_range'])
                rw [Array.toList_map, List.map_map]
                exact this
              let C0 : Array Value := (Array.range (n * 1)).map ((if n * 1 = 0 then #[] else z.cells)[· % (if n * 1 = 0 then #[] else z.cells).size]!)
              have hC0 : C0.size = n * 1 := by simp [C0]
              have hvl : ((parts.toList.map (·.2)).map a.eval).length = n := by simpa using hpl
              obtain ⟨cs, k1, k2⟩ := fill_rows 1 ((parts.toList.map (·.2)).map a.eval) 0 C0 b2 (by rw [hvl, Nat.zero_add, hC0]; exact Nat.le_refl _)
              have hrun : (Instr.buildSlice T n (parts.map fun (i, x) => (i, a.eval x))).run P w = .ok (.slice (some ⟨w.heap.size, 0, none⟩) n n) (w.alloc (.cells cs et)) := by
                have hfit' : ¬ n * 1 > 2 ^ 24 := by omega
                have hso : ∀ w : World, (Go.sizeOf et).run P w = .ok 1 w := fun w => by simp [Go.sizeOf,typeInfo,hi,hsz]
                have hze : ∀ w : World, (zeroValue et).run P w = .ok z w := fun w => by simp [zeroValue,typeInfo,hi,hz]
                by_cases h0 : n * 1 = 0
                · have k1' := k1
                  simp only [C0,if_pos h0] at k1'
                  simp only [Instr.buildSlice,Sem.run_bind,run_underlying hu w,Result.andThen_ok,hso,if_neg hfit',Sem.run_pure,if_pos h0,hvals,k1']
                  simp [newRow]
                · have k1' := k1
                  simp only [C0,if_neg h0] at k1'
                  simp only [Instr.buildSlice,Sem.run_bind,run_underlying hu w,Result.andThen_ok,hso,if_neg hfit',Sem.run_pure,if_neg h0,hze,hvals,k1']
                  simp [newRow]
              have hfl : (((parts.toList.map (·.2)).map a.eval).map (·.cells.toList)).flatten.length = n := by rw [← b1.length, b3]
              have hC0l : C0.toList.length = n := by rw [Array.length_toList, hC0, Nat.mul_one]
              have hcl2 : cs.toList = (((parts.toList.map (·.2)).map a.eval).map (·.cells.toList)).flatten := by
                rw [k2]
                simp only [Nat.zero_mul]
                unfold splice
                rw [Nat.zero_add, hfl, ← hC0l]
                simp
              have hcsz : cs.size = n := by
                have : cs.toList.length = cs.size := Array.length_toList
                rw [← this, hcl2, hfl]
              have hA := After.box (G := G) (J := J) (w := w) (ι := ι) S hb et cl cs (by rw [hcl2]; exact b1)
              obtain ⟨J', ι', q1, ⟨b, q2, q3⟩, q4⟩ := hA
              have hbe : b = w.heap.size := by
                have := q3
                simp at this
                exact this.symm
              subst hbe
              refine ⟨_, _, hrun, J', ι', q1, .inr ⟨_, n, et, n, q2, ?_, ?_, ?_, ?_⟩, q4⟩
              · rw [Nat.zero_mul, b3]
              · rw [b3]; exact Nat.le_refl _
              · simp only [World.shape?,heap_alloc_new']
                rw [hcsz]
              · omega
            · cases hE
          · cases hE
      · cases hc
    · cases hc
  · cases hc

set_option maxHeartbeats 1000000 in
theorem eff_sound (S : Store G J w ι obj) (he : ∀ t, Rep J w ι (get t) (a.tmps.getD t Go.undef)) {i : I} {e : Eff} (hE : effF G get obj base i = some e) (hfree : ∀ j, j < e.nw.length → obj (base + j) = .free) {o : Oper} (hc : convB P o.op = some i) :
    Goes P o a w (After G obj (applyO obj base e) J ι w e.r) := by
  obtain ⟨dst, op, type, pos, after, guard⟩ := o
  dsimp only at hc
  have stay : ∀ {e : Eff} {v : Value}, e.nw = [] → e.wr = [] → Rep J w ι e.r v → After G obj (applyO obj base e) J ι w e.r v w := by
    intro e v h1 h2 h3
    simp only [applyO,h1,h2,newO,updO]
    exact After.stay S h3
  cases op with
  | move x =>
    simp only [convB] at hc
    split at hc
    · rename_i y hy; cases hc
      simp only [effF] at hE; cases hE
      exact Goes.of_run rfl (stay rfl rfl (rep_ev S he hy))
    · cases hc
  | assign x =>
    simp only [convB] at hc
    split at hc
    · rename_i y hy; cases hc
      simp only [effF] at hE; cases hE
      exact Goes.of_run rfl (stay rfl rfl (rep_ev S he hy))
    · cases hc
  | pick c x y =>
    simp only [convB] at hc
    split at hc
    · rename_i c' x' y' h1 h2 h3; cases hc
      simp only [effF] at hE
      split at hE
      · rename_i b hb
        cases hE
        have hrc := rep_ev S he h1
        rw [hb] at hrc
        have hcv : a.eval c = .bool b := hrc
        refine Goes.of_run (v := if b then a.eval x else a.eval y) (by simp [execOp,hcv,asBool]) (stay rfl rfl ?_)
        cases b
        · exact rep_ev S he h3
        · exact rep_ev S he h2
      · cases hE
    · cases hc
  | alloc T =>
    simp only [convB] at hc
    split at hc
    · rename_i z hz; cases hc
      simp only [effF] at hE; cases hE
      obtain ⟨v, hv, hr⟩ := zeroT_run (J := J) (w := w) (ι := ι) hz
      have hb : obj base = .free := by simpa using hfree 0 (by simp)
      have := After.box S hb T (z.map .d) v.cells hr
      exact Goes.value (s := Instr.alloc T true (.tuple #[])) rfl (by simp [Instr.alloc,hv,newVar,newRow]) this
    · cases hc
  | box T x =>
    simp only [convB] at hc
    split at hc
    · rename_i y hy; cases hc
      simp only [effF] at hE
      split at hE
      · rename_i cs hcs
        cases hE
        have hb : obj base = .free := by simpa using hfree 0 (by simp)
        have := After.box S hb T cs (a.eval x).cells (cells_rep (rep_ev S he hy) hcs)
        exact Goes.value (s := Instr.box T (a.eval x)) rfl (by simp [Instr.box,newVar,newRow]) this
      · cases hE
    · cases hc
  | build T parts =>
    have hc' := hc
    obtain ⟨zero, ps, rfl⟩ : ∃ zero ps, i = .build zero ps := by
      simp only [convB] at hc
      split at hc
      · split at hc
        · split at hc
          · cases hc; exact ⟨_, _, rfl⟩
          · cases hc
        · cases hc
      · split at hc
        · split at hc
          · cases hc; exact ⟨_, _, rfl⟩
          · cases hc
        · cases hc
      · cases hc
    simp only [effF] at hE
    split at hE
    · rename_i cs hcs
      cases hE
      obtain ⟨v, hv, hr⟩ := build_sound S he hc' hcs
      exact Goes.value (s := Instr.build T (parts.map fun (i, x) => (i, a.eval x))) rfl hv (stay rfl rfl hr)
    · cases hE
  | buildSlice T n parts =>
    have hc' := hc
    obtain ⟨et, esz, ys, rfl⟩ : ∃ et esz ys, i = .bsl et esz ys := by
      simp only [convB] at hc
      split at hc
      · split at hc
        · split at hc
          · cases hc; exact ⟨_, _, _, rfl⟩
          · cases hc
        · cases hc
      · cases hc
    have hb : obj base = .free := by
      have hlen : 0 < e.nw.length := by
        simp only [effF] at hE
        split at hE
        · cases hE; simp
        · split at hE
          · split at hE
            · cases hE; simp
            · cases hE
          · cases hE
      simpa using hfree 0 hlen
    obtain ⟨v, w', hv, hA⟩ := bsl_sound S he hc' hb hE
    refine Goes.of_run (v := v) (w' := w') ?_ hA
    simp only [execOp,Sem.run_bind]
    rw [hv]
    rfl
  | load T x =>
    simp only [convB] at hc
    split at hc
    · rename_i y n h1 h2 h3; cases hc
      obtain ⟨v, hv, hr, h4, h5⟩ := ldn_sound S he h1 h2 h3 hE
      exact Goes.value (s := Instr.loadAt T (a.eval x)) rfl hv (stay h4 h5 hr)
    · rename_i y n h1 h2 h3; cases hc
      obtain ⟨v, hv, hr, h4, h5⟩ := ld_sound S he h1 h2 hE
      exact Goes.value (s := Instr.loadAt T (a.eval x)) rfl hv (stay h4 h5 hr)
    · cases hc
  | store T x y =>
    simp only [convB] at hc
    split at hc
    · rename_i x' y' n h1 h2 h3; cases hc
      obtain ⟨w', hv, hA⟩ := st_sound S he h1 h2 h3 hE
      refine Goes.of_skip (w' := w') ?_ hA
      simp [execOp,hv]
    · cases hc
  | nilCheck x =>
    simp only [convB] at hc
    split at hc
    · rename_i y hy; cases hc
      have hrx := rep_ev S he hy
      simp only [effF] at hE
      split at hE <;> first | (cases hE; done) | skip
      · rename_i o col hev
        cases hE
        rw [hev] at hrx
        obtain ⟨b, hb, hv⟩ := hrx
        exact Goes.of_run (v := a.eval x) (by simp [execOp,hv]) (stay rfl rfl ⟨b, hb, hv⟩)
      · rename_i o n e r c hev
        cases hE
        rw [hev] at hrx
        obtain ⟨b, hb, hv⟩ := hrx
        exact Goes.of_run (v := a.eval x) (by simp [execOp,hv]) (stay rfl rfl ⟨b, hb, hv⟩)
      · rename_i r c hev
        cases hE
        rw [hev] at hrx
        obtain ⟨b, off, hb, hv, h⟩ := hrx
        exact Goes.of_run (v := a.eval x) (by simp [execOp,hv]) (stay rfl rfl ⟨b, off, hb, hv, h⟩)
    · cases hc
  | binOp bop T x y T2 =>
    have two : ∀ {x' y' : Opd}, convOpd x = some x' → convOpd y = some y' → effF G get obj base (.bin bop x' y') = some e → Goes P ⟨dst, .binOp bop T x y T2, type, pos, after, guard⟩ a w (After G obj (applyO obj base e) J ι w e.r) := by
      intro x' y' h1 h2 hE
      have hrx := rep_ev S he h1
      have hry := rep_ev S he h2
      simp only [effF] at hE
      split at hE
      · rename_i p q hp hq
        rw [hp] at hrx; rw [hq] at hry
        split at hE
        · rename_i v hv
          cases hE
          have e1 : a.eval x = p := hrx
          have e2 : a.eval y = q := hry
          exact Goes.value (s := (do eqGuard bop T x y (a.eval x) (a.eval y); Go.binOp bop T (a.eval x) (a.eval y))) rfl (by rw [e1, e2]; exact binV_run hv T x y w) (stay rfl rfl rfl)
        · cases hE
      · cases hE
    have bl : ∀ {x' y' : Opd} {neg : Bool}, (bop = .eql ∨ bop = .neq) → neg = isNeq bop → P.underlying T = some .bool → convOpd x = some x' → convOpd y = some y' → effF G get obj base (.eqb neg x' y') = some e →
        Goes P ⟨dst, .binOp bop T x y T2, type, pos, after, guard⟩ a w (After G obj (applyO obj base e) J ι w e.r) := by
      intro x' y' neg ho hneg hu h1 h2 hE
      have hrx := rep_ev S he h1
      have hry := rep_ev S he h2
      simp only [effF] at hE
      split at hE
      · rename_i p q hp hq
        rw [hp] at hrx; rw [hq] at hry
        cases hE
        have e1 : a.eval x = .bool p := hrx
        have e2 : a.eval y = .bool q := hry
        exact Goes.value (s := (do eqGuard bop T x y (a.eval x) (a.eval y); Go.binOp bop T (a.eval x) (a.eval y))) rfl (by rw [e1, e2, hneg]; exact eqb_run ho hu x y p q w) (stay rfl rfl rfl)
      · cases hE
    simp only [convB] at hc
    split at hc
    · rename_i x' y' h1 h2
      cases hU : P.underlying T with
      | none => simp [hU] at hc
      | some d =>
        rw [hU] at hc
        cases d with
        | bool =>
          cases bop <;> dsimp only at hc <;> first | (cases hc; done) | skip
          · cases hc; exact bl (.inl rfl) rfl hU h1 h2 hE
          · cases hc; exact bl (.inr rfl) rfl hU h1 h2 hE
        | int k => cases bop <;> (dsimp only at hc; cases hc; exact two h1 h2 hE)
        | string => cases bop <;> (dsimp only at hc; cases hc; exact two h1 h2 hE)
        | struct fs =>
          have go : ∀ {neg : Bool}, (bop = .eql ∨ bop = .neq) → neg = isNeq bop → (match eqT P T with | some ks => some (I.eqs neg ks x' y') | none => none) = some i → Goes P ⟨dst, .binOp bop T x y T2, type, pos, after, guard⟩ a w (After G obj (applyO obj base e) J ι w e.r) := by
            intro neg ho hneg hc
            split at hc
            · rename_i ks hks
              cases hc
              have hrx := rep_ev S he h1
              have hry := rep_ev S he h2
              simp only [effF] at hE
              split at hE
              · rename_i p q hp hq
                rw [hp] at hrx; rw [hq] at hry
                split at hE
                · rename_i b hb
                  cases hE
                  obtain ⟨xs, e1, hxs⟩ := hrx
                  obtain ⟨ys, e2, hys⟩ := hry
                  exact Goes.value (s := (do eqGuard bop T x y (a.eval x) (a.eval y); Go.binOp bop T (a.eval x) (a.eval y))) rfl (by rw [e1, e2, hneg]; exact run_eqs ho hks x y hxs hys hb) (stay rfl rfl rfl)
                · cases hE
              · cases hE
            · cases hc
          cases bop <;> dsimp only at hc <;> first | (cases hc; done) | skip
          · exact go (.inl rfl) rfl hc
          · exact go (.inr rfl) rfl hc
        | pointer pe =>
          have go : ∀ {neg : Bool}, (bop = .eql ∨ bop = .neq) → neg = isNeq bop → (if nilP y = true then some (I.isnp neg x') else none) = some i → Goes P ⟨dst, .binOp bop T x y T2, type, pos, after, guard⟩ a w (After G obj (applyO obj base e) J ι w e.r) := by
            intro neg ho hneg hc
            split at hc
            · rename_i hnil
              cases hc
              have hy : a.eval y = .pointer none := by
                unfold nilP at hnil
                split at hnil
                · rfl
                · cases hnil
              have hrx := rep_ev S he h1
              have fin : ∀ {v : Option Addr} {r : Bool}, a.eval x = .pointer v → r = (bif isNeq bop then !v.isNone else v.isNone) → e = { r := .bool r } → Goes P ⟨dst, .binOp bop T x y T2, type, pos, after, guard⟩ a w (After G obj (applyO obj base e) J ι w e.r) := by
                intro v r hv hr he'
                subst he'
                exact Goes.value (s := (do eqGuard bop T x y (a.eval x) (a.eval y); Go.binOp bop T (a.eval x) (a.eval y))) rfl (by rw [hv, hy]; exact run_isp ho hU x y v w) (stay rfl rfl (by rw [hr]; rfl))
              simp only [effF] at hE
              split at hE <;> first | (cases hE; done) | skip
              · rename_i hev
                rw [hev] at hrx
                obtain ⟨b, _, hv⟩ := hrx
                exact fin hv (by rw [hneg]; cases isNeq bop <;> rfl) (Option.some.inj hE).symm
              · rename_i hev
                rw [hev] at hrx
                obtain ⟨b, _, hv⟩ := hrx
                exact fin hv (by rw [hneg]; cases isNeq bop <;> rfl) (Option.some.inj hE).symm
              · rename_i hev
                rw [hev] at hrx
                obtain ⟨b, off, _, hv, _⟩ := hrx
                exact fin hv (by rw [hneg]; cases isNeq bop <;> rfl) (Option.some.inj hE).symm
              · rename_i hev
                rw [hev] at hrx
                have hv : a.eval x = .pointer none := hrx
                exact fin hv (by rw [hneg]; cases isNeq bop <;> rfl) (Option.some.inj hE).symm
            · cases hc
          cases bop <;> dsimp only at hc <;> first | (cases hc; done) | skip
          · exact go (.inl rfl) rfl hc
          · exact go (.inr rfl) rfl hc
        | slice se =>
          have go : ∀ {neg : Bool}, (bop = .eql ∨ bop = .neq) → neg = isNeq bop → (if nilS y = true then some (I.isns neg x') else none) = some i → Goes P ⟨dst, .binOp bop T x y T2, type, pos, after, guard⟩ a w (After G obj (applyO obj base e) J ι w e.r) := by
            intro neg ho hneg hc
            split at hc
            · rename_i hnil
              cases hc
              have hy : a.eval y = .slice none 0 0 := by
                unfold nilS at hnil
                split at hnil
                · rfl
                · cases hnil
              have hrx := rep_ev S he h1
              have fin : ∀ {v : Option Addr} {n c : Nat}, a.eval x = .slice v n c → (e.nw = [] ∧ e.wr = [] ∧ Rep J w ι e.r (.bool (bif isNeq bop then !v.isNone else v.isNone))) → Goes P ⟨dst, .binOp bop T x y T2, type, pos, after, guard⟩ a w (After G obj (applyO obj base e) J ι w e.r) := by
                intro v n c hv hr
                exact Goes.value (s := (do eqGuard bop T x y (a.eval x) (a.eval y); Go.binOp bop T (a.eval x) (a.eval y))) rfl (by rw [hv, hy]; exact run_iss ho hU x y v n c w) (stay hr.1 hr.2.1 hr.2.2)
              simp only [effF] at hE
              split at hE <;> first | (cases hE; done) | skip
              · rename_i hev
                cases hE
                rw [hev] at hrx
                have hv : a.eval x = .slice none 0 0 := hrx
                exact fin hv ⟨rfl, rfl, by rw [hneg]; cases isNeq bop <;> rfl⟩
              · rename_i hev
                cases hE
                rw [hev] at hrx
                obtain ⟨sa, n, cap, hv, _, _, hr⟩ := hrx
                refine fin hv ⟨rfl, rfl, ?_⟩
                dsimp only
                split
                · exact ⟨_, rfl⟩
                · rename_i hne
                  rcases hr with hr | ⟨b, off, hsa, _⟩
                  · exact absurd (by rw [hr]; rfl) hne
                  · rw [hneg, hsa]; cases isNeq bop <;> rfl
              · rename_i hev
                cases hE
                rw [hev] at hrx
                rcases hrx with ⟨hz, sa, hv⟩ | ⟨b, cap, et', C, hb, hv, _⟩
                · refine fin hv ⟨rfl, rfl, ?_⟩
                  dsimp only
                  rw [if_pos hz]
                  exact ⟨_, rfl⟩
                · refine fin hv ⟨rfl, rfl, ?_⟩
                  dsimp only
                  split
                  · exact ⟨_, rfl⟩
                  · rw [hneg]; cases isNeq bop <;> rfl
            · cases hc
          cases bop <;> dsimp only at hc <;> first | (cases hc; done) | skip
          · exact go (.inl rfl) rfl hc
          · exact go (.inr rfl) rfl hc
        | _ => cases bop <;> (dsimp only at hc; cases hc)
    · cases hc
  | unOp uop T x =>
    cases uop <;> simp only [convB] at hc <;> first | (cases hc; done) | skip
    · split at hc
      · rename_i y hy; cases hc
        have hrx := rep_ev S he hy
        simp only [effF] at hE
        split at hE
        · rename_i k p hp
          rw [hp] at hrx
          cases hE
          have e1 : a.eval x = .int k p := hrx
          exact Goes.value (s := Op.unary .neg (a.eval x)) rfl (by rw [e1]; rfl) (stay rfl rfl rfl)
        · cases hE
      · cases hc
    · split at hc
      · rename_i y hy; cases hc
        have hrx := rep_ev S he hy
        simp only [effF] at hE
        split at hE
        · rename_i p hp
          rw [hp] at hrx
          cases hE
          have e1 : a.eval x = .bool p := hrx
          exact Goes.value (s := Op.unary .not (a.eval x)) rfl (by rw [e1]; rfl) (stay rfl rfl rfl)
        · cases hE
      · cases hc
  | convert S' T x =>
    simp only [convB] at hc
    split at hc
    · rename_i y k k' h1 h2 h3; cases hc
      have hrx := rep_ev S he h1
      simp only [effF] at hE
      split at hE
      · rename_i kk n hp
        rw [hp] at hrx
        cases hE
        have e1 : a.eval x = .int kk n := hrx
        refine Goes.value (s := Go.convert S' T (a.eval x)) rfl ?_ (stay rfl rfl rfl)
        rw [e1]
        simp only [Go.convert,Sem.run_bind,run_underlying h2 w,run_underlying h3 w,Result.andThen_ok]
        rfl
      · cases hE
    · cases hc
  | fieldAddr T x f =>
    simp only [convB] at hc
    split at hc
    · rename_i y fs h1 h2
      split at hc
      · rename_i fd h3
        split at hc
        · rename_i n h4
          cases hc
          have hrx := rep_ev S he h1
          simp only [effF] at hE
          split at hE <;> first | (cases hE; done) | skip
          · rename_i o col hev
            cases hE
            rw [hev] at hrx
            obtain ⟨b, hb, hv⟩ := hrx
            exact Goes.value (s := Instr.fieldAt T (a.eval x) f) rfl (by rw [hv]; exact run_fieldAt h2 h3 h4 b col w) (stay rfl rfl ⟨b, hb, rfl⟩)
          · rename_i o n' e' r c hev
            cases hE
            rw [hev] at hrx
            obtain ⟨b, hb, hv⟩ := hrx
            exact Goes.value (s := Instr.fieldAt T (a.eval x) f) rfl (by rw [hv]; exact run_fieldAt h2 h3 h4 b _ w) (stay rfl rfl ⟨b, hb, by simp; omega⟩)
          · rename_i r c hev
            cases hE
            rw [hev] at hrx
            obtain ⟨b, off, hb, hv, h⟩ := hrx
            exact Goes.value (s := Instr.fieldAt T (a.eval x) f) rfl (by rw [hv]; exact run_fieldAt h2 h3 h4 b _ w) (stay rfl rfl ⟨b, off, hb, by simp; omega, h⟩)
        · cases hc
      · cases hc
    · cases hc
  | field T x f =>
    simp only [convB] at hc
    split at hc
    · rename_i y fs h1 h2
      split at hc
      · rename_i fd h3
        split at hc
        · rename_i n h4 h5
          cases hc
          have hrx := rep_ev S he h1
          simp only [effF] at hE
          split at hE
          · rename_i cs hev
            rw [hev] at hrx
            obtain ⟨xs, hv, hcs⟩ := hrx
            split at hE
            · rename_i hl
              cases hE
              refine Goes.value (s := Instr.field T (a.eval x) f) rfl (v := .agg (xs.extract fd.offset (fd.offset + n))) (by
                rw [hv]
                simp only [Instr.field,Sem.run_bind,run_underlying h2 w,Result.andThen_ok,h3,asAgg,Sem.run_pure,run_partn h4 h5]) (stay rfl rfl ⟨_, rfl, ?_⟩)
              have := (hcs.drop fd.offset).take n
              simpa [Array.toList_extract, List.extract_eq_take_drop] using this
            · cases hE
          · cases hE
        · rename_i n h4 h5
          cases hc
          have hrx := rep_ev S he h1
          simp only [effF] at hE
          split at hE
          · rename_i cs hev
            rw [hev] at hrx
            obtain ⟨xs, hv, hcs⟩ := hrx
            split at hE
            · rename_i v hl
              cases hE
              obtain ⟨u, hu, _, hru⟩ := hcs.get hl
              refine Goes.value (s := Instr.field T (a.eval x) f) rfl (v := u) (by
                rw [hv]
                simp only [Instr.field,Sem.run_bind,run_underlying h2 w,Result.andThen_ok,h3,asAgg,Sem.run_pure]
                exact run_part h4 (by simpa using hu)) (stay rfl rfl hru)
            · cases hE
          · cases hE
        · cases hc
      · cases hc
    · cases hc
  | indexAddr T x y =>
    simp only [convB] at hc
    split at hc
    · rename_i x' y' el h1 h2 h3
      split at hc
      · rename_i n h4; cases hc
        obtain ⟨v, hv, hr, h5, h6⟩ := ixa_sound S he h1 h2 h3 h4 hE
        exact Goes.value (s := Instr.indexAt T (a.eval x) (a.eval y)) rfl hv (stay h5 h6 hr)
      · cases hc
    · rename_i x' y' len el h1 h2 h3
      split at hc
      · rename_i n h4; cases hc
        obtain ⟨v, hv, hr, h5, h6⟩ := ixr_sound S he h1 h2 h3 h4 hE
        exact Goes.value (s := Instr.indexAt T (a.eval x) (a.eval y)) rfl hv (stay h5 h6 hr)
      · cases hc
    · cases hc
  | index T x y =>
    simp only [convB] at hc
    split at hc
    · rename_i x' y' len el h1 h2 h3
      split at hc
      · rename_i h4 h5; cases hc
        have hrx := rep_ev S he h1
        have hry := rep_ev S he h2
        simp only [effF] at hE
        split at hE
        · rename_i k j hev
          rw [hev] at hry
          have hY : a.eval y = .int k j := hry
          split at hE
          · rename_i h0
            split at hE
            · rename_i cs hxe
              rw [hxe] at hrx
              obtain ⟨xs, hv, hcs⟩ := hrx
              split at hE
              · rename_i v hl
                cases hE
                obtain ⟨u, hu, _, hru⟩ := hcs.get hl
                obtain ⟨ii, hii, hn⟩ := info_of_sizeT h5
                have hcnd : 0 ≤ j ∧ j < (len : Int) := ⟨h0.1, by omega⟩
                refine Goes.value (s := Instr.index T (a.eval x) (a.eval y)) rfl (v := u) (by
                  rw [hv, hY]
                  have hsz : (Go.sizeOf el).run P w = .ok 1 w := by simp [Go.sizeOf,typeInfo,hii,hn]
                  simp only [Instr.index,asIntOf,Sem.run_bind,Sem.run_pure,Result.andThen_ok,run_underlying h3 w]
                  rw [if_pos hcnd]
                  simp only [Sem.run_bind,hsz,Result.andThen_ok]
                  exact run_part h4 (by simpa using hu)) (stay rfl rfl hru)
              · cases hE
            · cases hE
          · cases hE
        · cases hE
      · rename_i n h4 h5; cases hc
        have hrx := rep_ev S he h1
        have hry := rep_ev S he h2
        simp only [effF] at hE
        split at hE
        · rename_i k j hev
          rw [hev] at hry
          have hY : a.eval y = .int k j := hry
          split at hE
          · rename_i h0
            split at hE
            · rename_i cs hxe
              rw [hxe] at hrx
              obtain ⟨xs, hv, hcs⟩ := hrx
              split at hE
              · rename_i hl
                cases hE
                obtain ⟨ii, hii, hn⟩ := info_of_sizeT h5
                have hcnd : 0 ≤ j ∧ j < (len : Int) := ⟨h0.1, by omega⟩
                refine Goes.value (s := Instr.index T (a.eval x) (a.eval y)) rfl (v := .agg (xs.extract (j.toNat * n) (j.toNat * n + n))) (by
                  rw [hv, hY]
                  have hsz : (Go.sizeOf el).run P w = .ok n w := by simp [Go.sizeOf,typeInfo,hii,hn]
                  simp only [Instr.index,asIntOf,Sem.run_bind,Sem.run_pure,Result.andThen_ok,run_underlying h3 w]
                  rw [if_pos hcnd]
                  simp only [Sem.run_bind,hsz,Result.andThen_ok]
                  exact run_partn h4 h5) (stay rfl rfl ⟨_, rfl, ?_⟩)
                have := (hcs.drop (j.toNat * n)).take n
                simpa [Array.toList_extract, List.extract_eq_take_drop] using this
              · cases hE
            · cases hE
          · cases hE
        · cases hE
      · cases hc
    · rename_i x' y' h1 h2 h3
      cases hc
      have hrx := rep_ev S he h1
      have hry := rep_ev S he h2
      simp only [effF] at hE
      split at hE
      · rename_i k j s hev hxe
        rw [hev] at hry; rw [hxe] at hrx
        have hY : a.eval y = .int k j := hry
        have hX : a.eval x = .string s := hrx
        split at hE
        · rename_i h0
          split at hE
          · rename_i b hb
            cases hE
            refine Goes.value (s := Instr.index T (a.eval x) (a.eval y)) rfl (v := .int .u8 b.toNat) (by
              rw [hX, hY]
              simp only [Instr.index,asIntOf,Sem.run_bind,Sem.run_pure,Result.andThen_ok,run_underlying h3 w]
              rw [if_pos h0]
              have : s[j.toNat]? = some b := by
                have hlt : j.toNat < s.data.toList.length := (List.getElem?_eq_some_iff.1 hb).1
                have hlt' : j.toNat < s.size := by simpa using hlt
                rw [getElem?_pos s j.toNat hlt']
                have := (List.getElem?_eq_some_iff.1 hb).2
                rw [← this]; rfl
              rw [this]; rfl) (stay rfl rfl rfl)
          · cases hE
        · cases hE
      · cases hE
    · cases hc
  | slice T x lo hi mx =>
    simp only [convB] at hc
    split at hc
    · rename_i x' lo' hi' mx' el h1 h2 h3 h4 hu
      split at hc
      · rename_i n h5
        split at hc
        · rename_i hmh
          cases hc
          obtain ⟨v, hv, hr, h6, h7⟩ := sli_sound S he h1 h2 h3 h4 hmh hu h5 hE
          exact Goes.value (s := Instr.sliceAt T (a.eval x) (lo.map a.eval) (hi.map a.eval) (mx.map a.eval)) rfl hv (stay h6 h7 hr)
        · cases hc
      · cases hc
    · rename_i x' lo' hi' h1 h2 h3 h4 hu
      cases hc
      have hmx : mx = none := by
        cases mx with
        | none => rfl
        | some X => simp only [convOpdO] at h4; split at h4 <;> cases h4
      subst hmx
      have hrx := rep_ev S he h1
      simp only [effF] at hE
      split at hE
      · rename_i s hev
        rw [hev] at hrx
        have hv : a.eval x = .string s := hrx
        split at hE
        · rename_i l h b1 b2
          split at hE
          · rename_i hcnd
            cases hE
            exact Goes.value (s := Instr.sliceAt T (a.eval x) (lo.map a.eval) (hi.map a.eval) none) rfl (v := .string (s.extract l h)) (by rw [hv]; exact run_sls hu (bv_of S he h2 b1) (bv_of S he h3 b2) hcnd.1 hcnd.2 w) (stay rfl rfl rfl)
          · cases hE
        · cases hE
      · cases hE
    · cases hc
  | makeFunc f p q =>
    simp only [convB] at hc
    split at hc
    · rename_i p' q' h1 h2; cases hc
      simp only [effF] at hE; cases hE
      refine Goes.of_run (v := .func f (p.map a.eval) (q.map a.eval)) rfl (stay rfl rfl ⟨_, _, rfl, ?_, ?_⟩)
      · have := rep_evs S he h1; simpa using this
      · have := rep_evs S he h2; simpa using this
    · cases hc
  | extract x k =>
    simp only [convB] at hc
    split at hc
    · rename_i y hy; cases hc
      have hrx := rep_ev S he hy
      simp only [effF] at hE
      split at hE
      · rename_i vs hev
        rw [hev] at hrx
        obtain ⟨xs, hv, hvs⟩ := hrx
        split at hE
        · rename_i v hl
          cases hE
          obtain ⟨u, hu, hru⟩ := hvs.get hl
          exact Goes.value (s := Instr.extract (a.eval x) k) rfl (v := u) (by
            rw [hv]
            have : xs[k]? = some u := by simpa using hu
            simp [Instr.extract,this]) (stay rfl rfl hru)
        · cases hE
      · cases hE
    · cases hc
  | call c =>
    obtain ⟨callee, args, ts⟩ := c
    cases callee with
    | value f =>
      simp only [convB] at hc
      split at hc
      · cases hc; simp [effF] at hE
      · cases hc
    | invoke r m => simp [convB] at hc
    | builtin b =>
      cases b with
      | len =>
        simp only [convB] at hc
        split at hc
        · rename_i x T hargs hT
          have ha : args = #[x] := by apply Array.ext'; simpa using hargs
          subst ha
          have hx : execOp a.eval ⟨dst, .call ⟨.builtin .len, #[x], ts⟩, type, pos, after, guard⟩ = (do pure (.value (← Builtin.len_ ts type #[a.eval x]))) := by simp [execOp,resolve,invoke,builtin]
          split at hc
          · rename_i y h1 h2; cases hc
            have hrx := rep_ev S he h1
            simp only [effF] at hE
            split at hE
            · rename_i s hev
              cases hE
              rw [hev] at hrx
              have hv : a.eval x = .string s := hrx
              exact Goes.value hx (v := .int .i64 s.size) (by simp [Builtin.len_,hT,run_underlying h2,hv,goInt]) (stay rfl rfl rfl)
            · cases hE
          · rename_i y el h1 h2; cases hc
            have hrx := rep_ev S he h1
            have sl : ∀ {sa : Option Addr} {n cap : Nat}, a.eval x = .slice sa n cap → (Builtin.len_ ts type #[a.eval x]).run P w = .ok (.int .i64 n) w := by
              intro sa n cap hv
              simp [Builtin.len_,hT,run_underlying h2,hv,goInt]
            simp only [effF] at hE
            split at hE
            · rename_i e' rows hev
              cases hE
              rw [hev] at hrx
              obtain ⟨sa, n, cap, hv, hn, _⟩ := hrx
              exact Goes.value hx (sl hv) (stay rfl rfl (by rw [hn]; rfl))
            · rename_i hev
              cases hE
              rw [hev] at hrx
              have hv : a.eval x = .slice none 0 0 := hrx
              exact Goes.value hx (sl hv) (stay rfl rfl rfl)
            · rename_i o n e' lo len hev
              cases hE
              rw [hev] at hrx
              rcases hrx with ⟨h0, sa, hv⟩ | ⟨b, cap, et', C, hb, hv, _⟩
              · exact Goes.value hx (sl hv) (stay rfl rfl (by rw [h0]; rfl))
              · exact Goes.value hx (sl hv) (stay rfl rfl rfl)
            · cases hE
          · cases hc
        · cases hc
      | append =>
        simp only [convB] at hc
        split at hc
        · rename_i x y tx ty hargs hts
          have ha : args = #[x, y] := by apply Array.ext'; simpa using hargs
          have ht : ts = #[tx, ty] := by apply Array.ext'; simpa using hts
          subst ha; subst ht
          split at hc
          · rename_i x' y' el h1 h2 h3 h4
            split at hc
            · rename_i n b h5
              cases hc
              obtain ⟨i, z, hi, hz, rfl, rfl, hzc, hb0, hs0⟩ := elemT_spec h5
              have hk : (∃ e', P.underlying ty = some (.slice e')) ∨ P.underlying ty = some .string := by
                unfold srcT at h4
                split at h4
                · rename_i e' hq; exact .inl ⟨e', hq⟩
                · rename_i hq; exact .inr hq
                · cases h4
              have hrx := rep_ev S he h1
              have hry := rep_ev S he h2
              simp only [effF] at hE
              split at hE
              · rename_i new rd hsrc
                obtain ⟨news, s1, s2, s3⟩ := src_sound (P := P) (tx := ty) S hk hsrc hry
                split at hE
                · rename_i hev
                  rw [hev] at hrx
                  have hv : a.eval x = .slice none 0 0 := hrx
                  split at hE
                  · rename_i hfit
                    cases hE
                    have hb : obj base = .free := by simpa using hfree 0 (by simp)
                    obtain ⟨u, w', hrun, hA⟩ := After.appNil (P := P) (t := tx) (ty := type) S hb h3 hi hz hzc hb0 s1 s2 s3 hfit
                    exact Goes.value (s := Builtin.append_ #[tx, ty] type #[a.eval x, a.eval y]) (by simp [execOp,resolve,invoke,builtin]) (by rw [hv]; exact hrun) hA
                  · cases hE
                · rename_i o n e' lo len hev
                  rw [hev] at hrx
                  split at hE
                  · rename_i et' e'' rows ho
                    split at hE
                    · rename_i hcond
                      obtain ⟨rfl, rfl, rfl, rfl, rfl, rfl, hfit⟩ := hcond
                      cases hE
                      obtain ⟨u, w', hrun, hA⟩ := After.appOwn (P := P) (t := tx) (ty := type) S ho hrx h3 hi hz hzc hb0 s1 s2 s3 hfit
                      exact Goes.value (s := Builtin.append_ #[tx, ty] type #[a.eval x, a.eval y]) (by simp [execOp,resolve,invoke,builtin]) hrun hA
                    · cases hE
                  · cases hE
                · cases hE
              · cases hE
            · cases hc
          · cases hc
        · cases hc
      | min =>
        simp only [convB] at hc
        split at hc
        · rename_i x y hargs
          have ha : args = #[x, y] := by apply Array.ext'; simpa using hargs
          subst ha
          split at hc
          · rename_i x' y' h1 h2
            cases hc
            have hrx := rep_ev S he h1
            have hry := rep_ev S he h2
            simp only [effF] at hE
            split at hE
            · rename_i k p k' q hp hq
              cases hE
              rw [hp] at hrx; rw [hq] at hry
              have hx : a.eval x = .int k p := hrx
              have hy : a.eval y = .int k' q := hry
              exact Goes.value (s := Builtin.min_ ts type #[a.eval x, a.eval y]) (by simp [execOp,resolve,invoke,builtin]) (v := .int k (if q < p then q else p)) (by rw [hx, hy]; simp [Builtin.min_,Builtin.min2]) (stay rfl rfl rfl)
            · cases hE
          · cases hc
        · cases hc
      | max =>
        simp only [convB] at hc
        split at hc
        · rename_i x y hargs
          have ha : args = #[x, y] := by apply Array.ext'; simpa using hargs
          subst ha
          split at hc
          · rename_i x' y' h1 h2
            cases hc
            have hrx := rep_ev S he h1
            have hry := rep_ev S he h2
            simp only [effF] at hE
            split at hE
            · rename_i k p k' q hp hq
              cases hE
              rw [hp] at hrx; rw [hq] at hry
              have hx : a.eval x = .int k p := hrx
              have hy : a.eval y = .int k' q := hry
              exact Goes.value (s := Builtin.max_ ts type #[a.eval x, a.eval y]) (by simp [execOp,resolve,invoke,builtin]) (v := .int k (if q > p then q else p)) (by rw [hx, hy]; simp [Builtin.max_,Builtin.max2]) (stay rfl rfl rfl)
            · cases hE
          · cases hc
        · cases hc
      | _ => simp [convB] at hc
  | _ => simp [convB] at hc
end
end Dv

namespace Dv
open Go


mutual
def rn (π : Nat → Nat) : LV → LV
  | .top => .top
  | .anyb => .anyb
  | .d x => .d x
  | .ptr o c => .ptr (π o) c
  | .rp o n e r c => .rp (π o) n e r c
  | .ip r c => .ip r c
  | .sl o n e l k => .sl (π o) n e l k
  | .fn f a b => .fn f (rnL π a) (rnL π b)
  | .agg cs => .agg (rnL π cs)
  | .tup vs => .tup (rnL π vs)
  | .ifc t v => .ifc t (rn π v)
  | .yl o => .yl (π o)
  | .mr o => .mr (π o)
def rnL (π : Nat → Nat) : List LV → List LV
  | [] => []
  | x :: xs => rn π x :: rnL π xs
end

def rnO (π : Nat → Nat) : LObj → LObj
  | .box et cells => .box et (rnL π cells)
  | .dat et e rows => .dat et e rows
  | .frz et e rows => .frz et e rows
  | .mp es => .mp (es.map fun p => (p.1, rn π p.2))

mutual
def idl (k : Nat) : LV → Bool
  | .top => true
  | .anyb => true
  | .d _ => true
  | .ptr o _ => decide (o < k)
  | .rp o _ _ _ _ => decide (o < k)
  | .ip _ _ => true
  | .sl o _ _ _ _ => decide (o < k)
  | .fn _ a b => idlL k a && idlL k b
  | .agg cs => idlL k cs
  | .tup vs => idlL k vs
  | .ifc _ v => idl k v
  | .yl o => decide (o < k)
  | .mr o => decide (o < k)
def idlL (k : Nat) : List LV → Bool
  | [] => true
  | x :: xs => idl k x && idlL k xs
end
def idlO (k : Nat) : LObj → Bool
  | .box _ cells => idlL k cells
  | .dat .. => true
  | .frz .. => true
  | .mp es => es.all fun p => idl k p.2

section
variable {J J' : Nat → Prop} {w : World} {ι ι' : Nat → Nat → Option Nat} {π : Nat → Nat} {k0 : Nat}
mutual
theorem Rep.rn (h : ∀ o n b, o < k0 → ι (π o) n = some b → ι' o n = some b) : ∀ (x : LV) (v : Value), idl k0 x = true → Rep J w ι (rn π x) v → Rep J w ι' x v
  | .top, _, _, _ => trivial
  | .anyb, _, _, k => k
  | .d x, v, _, k => k
  | .ptr o col, v, q, k => by simp only [idl,decide_eq_true_eq] at q; obtain ⟨b, hb, rfl⟩ := k; exact ⟨b, h _ _ _ q hb, rfl⟩
  | .rp o n e r c, v, q, k => by simp only [idl,decide_eq_true_eq] at q; obtain ⟨b, hb, rfl⟩ := k; exact ⟨b, h _ _ _ q hb, rfl⟩
  | .ip r c, v, _, k => k
  | .sl o n e l m, v, q, k => by
    simp only [idl,decide_eq_true_eq] at q
    rcases k with k | ⟨b, cap, et, C, hb, k⟩
    · exact .inl k
    · exact .inr ⟨b, cap, et, C, h _ _ _ q hb, k⟩
  | .fn f a b, v, q, k => by simp only [idl,Bool.and_eq_true] at q; obtain ⟨fs, cs, rfl, k1, k2⟩ := k; exact ⟨fs, cs, rfl, RepL.rn h a _ q.1 k1, RepL.rn h b _ q.2 k2⟩
  | .agg cs, v, q, k => by simp only [idl] at q; obtain ⟨xs, rfl, k1⟩ := k; exact ⟨xs, rfl, RepC.rn h cs _ q k1⟩
  | .tup vs, v, q, k => by simp only [idl] at q; obtain ⟨xs, rfl, k1⟩ := k; exact ⟨xs, rfl, RepL.rn h vs _ q k1⟩
  | .ifc t x, v, q, k => by simp only [idl] at q; obtain ⟨y, rfl, k1⟩ := k; exact ⟨y, rfl, Rep.rn h x y q k1⟩
  | .yl o, v, q, k => by simp only [idl,decide_eq_true_eq] at q; obtain ⟨b, hb, rfl⟩ := k; exact ⟨b, h _ _ _ q hb, rfl⟩
  | .mr o, v, q, k => by simp only [idl,decide_eq_true_eq] at q; obtain ⟨b, hb, rfl⟩ := k; exact ⟨b, h _ _ _ q hb, rfl⟩
theorem RepL.rn (h : ∀ o n b, o < k0 → ι (π o) n = some b → ι' o n = some b) : ∀ (xs : List LV) (vs : List Value), idlL k0 xs = true → RepL J w ι (rnL π xs) vs → RepL J w ι' xs vs
  | [], [], _, _ => trivial
  | x :: xs, v :: vs, q, k => by
    simp only [idlL,Bool.and_eq_true] at q
    exact ⟨Rep.rn h x v q.1 k.1, RepL.rn h xs vs q.2 k.2⟩
  | [], _ :: _, _, k => k.elim
  | _ :: _, [], _, k => k.elim
theorem RepC.rn (h : ∀ o n b, o < k0 → ι (π o) n = some b → ι' o n = some b) : ∀ (xs : List LV) (vs : List Value), idlL k0 xs = true → RepC J w ι (rnL π xs) vs → RepC J w ι' xs vs
  | [], [], _, _ => trivial
  | x :: xs, v :: vs, q, k => by
    simp only [idlL,Bool.and_eq_true] at q
    exact ⟨k.1, Rep.rn h x v q.1 k.2.1, RepC.rn h xs vs q.2 k.2.2⟩
  | [], _ :: _, _, k => k.elim
  | _ :: _, [], _, k => k.elim
end
mutual
theorem Rep.unrn (h : ∀ o n b, ι o n = some b → ι' (π o) n = some b) : ∀ (x : LV) (v : Value), Rep J w ι x v → Rep J w ι' (Dv.rn π x) v
  | .top, _, _ => trivial
  | .anyb, _, k => k
  | .d x, v, k => k
  | .ptr o col, v, k => by obtain ⟨b, hb, rfl⟩ := k; exact ⟨b, h _ _ _ hb, rfl⟩
  | .rp o n e r c, v, k => by obtain ⟨b, hb, rfl⟩ := k; exact ⟨b, h _ _ _ hb, rfl⟩
  | .ip r c, v, k => k
  | .sl o n e l q, v, k => by
    rcases k with k | ⟨b, cap, et, C, hb, k⟩
    · exact .inl k
    · exact .inr ⟨b, cap, et, C, h _ _ _ hb, k⟩
  | .fn f a b, v, k => by obtain ⟨fs, cs, rfl, k1, k2⟩ := k; exact ⟨fs, cs, rfl, RepL.unrn h a _ k1, RepL.unrn h b _ k2⟩
  | .agg cs, v, k => by obtain ⟨xs, rfl, k1⟩ := k; exact ⟨xs, rfl, RepC.unrn h cs _ k1⟩
  | .tup vs, v, k => by obtain ⟨xs, rfl, k1⟩ := k; exact ⟨xs, rfl, RepL.unrn h vs _ k1⟩
  | .ifc t x, v, k => by obtain ⟨y, rfl, k1⟩ := k; exact ⟨y, rfl, Rep.unrn h x y k1⟩
  | .yl o, v, k => by obtain ⟨b, hb, rfl⟩ := k; exact ⟨b, h _ _ _ hb, rfl⟩
  | .mr o, v, k => by obtain ⟨b, hb, rfl⟩ := k; exact ⟨b, h _ _ _ hb, rfl⟩
theorem RepL.unrn (h : ∀ o n b, ι o n = some b → ι' (π o) n = some b) : ∀ (xs : List LV) (vs : List Value), RepL J w ι xs vs → RepL J w ι' (rnL π xs) vs
  | [], [], _ => trivial
  | x :: xs, v :: vs, k => ⟨Rep.unrn h x v k.1, RepL.unrn h xs vs k.2⟩
  | [], _ :: _, k => k.elim
  | _ :: _, [], k => k.elim
theorem RepC.unrn (h : ∀ o n b, ι o n = some b → ι' (π o) n = some b) : ∀ (xs : List LV) (vs : List Value), RepC J w ι xs vs → RepC J w ι' (rnL π xs) vs
  | [], [], _ => trivial
  | x :: xs, v :: vs, k => ⟨k.1, Rep.unrn h x v k.2.1, RepC.unrn h xs vs k.2.2⟩
  | [], _ :: _, k => k.elim
  | _ :: _, [], k => k.elim
end
theorem RepM.rn (h : ∀ o n b, o < k0 → ι (π o) n = some b → ι' o n = some b) : ∀ (xs : List (Int × LV)) (vs : List MapEntry), (xs.all fun p => idl k0 p.2) = true → RepM J w ι (xs.map fun p => (p.1, Dv.rn π p.2)) vs → RepM J w ι' xs vs
  | [], [], _, _ => trivial
  | (i, x) :: xs, v :: vs, q, k => by
    simp only [List.all_cons,Bool.and_eq_true] at q
    exact ⟨k.1, Rep.rn h x _ q.1 k.2.1, RepM.rn h xs vs q.2 k.2.2⟩
  | [], _ :: _, _, k => k.elim
  | _ :: _, [], _, k => k.elim
theorem RepM.unrn (h : ∀ o n b, ι o n = some b → ι' (π o) n = some b) : ∀ (xs : List (Int × LV)) (vs : List MapEntry), RepM J w ι xs vs → RepM J w ι' (xs.map fun p => (p.1, Dv.rn π p.2)) vs
  | [], [], _ => trivial
  | (i, x) :: xs, v :: vs, k => ⟨k.1, Rep.unrn h x _ k.2.1, RepM.unrn h xs vs k.2.2⟩
  | [], _ :: _, k => k.elim
  | _ :: _, [], k => k.elim
end


def objL (objs : List (Option LObj)) (o : Nat) : OSt :=
  match objs[o]? with
  | none => .free
  | some none => .dead
  | some (some ob) => .live ob

def entersT (P : Program) (f : Nat) : Bool := match P.funcs[f]? with
  | some fn => fn.name != "runtime.NumGoroutine" && fn.body.isSome
  | none => false

def Tri (P : Program) (G : Nat → Option (List DV)) (f : Nat) (args : List LV) (objs : List LObj) (r : LV) (objs' : List LObj) : Prop :=
  entersT P f = true ∧ ∀ J ι w (vs : Array Value), Store G J w ι (objL (objs.map some)) → RepL J w ι args vs.toList →
    Calls P f vs w (fun e w' => ∃ v, e = .returned v ∧ After G (objL (objs.map some)) (objL (objs'.map some)) J ι w r v w')

def rowsAt (obj : Nat → OSt) (Z : List Nat) (o n esz lo len : Nat) (rs : List (List DV)) : Prop :=
  match obj o with
  | .live (.frz _ e rows) => o ∈ Z ∧ e = esz ∧ n = rows.length ∧ lo + len ≤ rows.length ∧ rs = (rows.drop lo).take len
  | .live (.dat _ e rows) => o ∈ Z ∧ e = esz ∧ n = rows.length ∧ lo + len ≤ rows.length ∧ rs = (rows.drop lo).take len
  | _ => False

mutual
def argR (obj : Nat → OSt) (ρ Z : List Nat) : LV → LV → Prop
  | _, .top => True
  | .anyb, .anyb => True
  | .d x, .d y => x = y ∨ (x = .val (.slice none 0 0) ∧ ∃ esz, y = .lst esz [])
  | .ptr o c, .ptr i c' => ρ[i]? = some o ∧ c = c'
  | .yl o, .yl i => ρ[i]? = some o
  | .mr o, .mr i => ρ[i]? = some o
  | .rp o n e r c, .rp i n' e' r' c' => ρ[i]? = some o ∧ n = n' ∧ e = e' ∧ r = r' ∧ c = c'
  | .ip r c, .ip r' c' => r = r' ∧ c = c'
  | .sl o n e l k, .sl i n' e' l' k' => ρ[i]? = some o ∧ n = n' ∧ e = e' ∧ l = l' ∧ k = k'
  | .sl o n e l k, .d (.lst e' rs) => e = e' ∧ rowsAt obj Z o n e l k rs
  | .agg xs, .agg ys => argRs obj ρ Z xs ys
  | .tup xs, .tup ys => argRs obj ρ Z xs ys
  | .fn f a b, .fn f' a' b' => f = f' ∧ argRs obj ρ Z a a' ∧ argRs obj ρ Z b b'
  | .d (.fn f a b), .fn f' a' b' => f = f' ∧ a' = a.map .d ∧ b' = b.map .d
  | .ifc t x, .ifc t' y => t = t' ∧ argR obj ρ Z x y
  | _, _ => False
def argRs (obj : Nat → OSt) (ρ Z : List Nat) : List LV → List LV → Prop
  | [], [] => True
  | x :: xs, y :: ys => argR obj ρ Z x y ∧ argRs obj ρ Z xs ys
  | _, _ => False
end

mutual
def noJ : LV → Bool
  | .top => true
  | .anyb => true
  | .d (.val _) => true
  | .d (.lst _ rows) => rows.isEmpty
  | .d _ => false
  | .ptr _ _ => true
  | .rp _ _ _ _ _ => true
  | .ip _ _ => false
  | .sl _ _ _ _ _ => true
  | .fn _ a b => noJs a && noJs b
  | .agg cs => noJs cs
  | .tup vs => noJs vs
  | .ifc _ v => noJ v
  | .yl _ => true
  | .mr _ => true
def noJs : List LV → Bool
  | [] => true
  | x :: xs => noJ x && noJs xs
end

section
variable {J J' : Nat → Prop} {w : World} {ι : Nat → Nat → Option Nat}
mutual
theorem Rep.noJ (hh : True) : ∀ (x : LV) (v : Value), noJ x = true → Rep J w ι x v → Rep J' w ι x v
  | .top, _, _, _ => trivial
  | .anyb, _, _, k => k
  | .d (.val u), v, _, k => k
  | .d (.lst e rows), v, h, k => by
    simp only [Dv.noJ,List.isEmpty_iff] at h
    subst h
    obtain ⟨a, n, cap, rfl, hn, hc, _⟩ := k
    exact ⟨a, n, cap, rfl, hn, hc, .inl rfl⟩
  | .d (.fn _ _ _), v, h, k => by simp [Dv.noJ] at h
  | .d (.ifc _ _), v, h, k => by simp [Dv.noJ] at h
  | .d (.agg _), v, h, k => by simp [Dv.noJ] at h
  | .ptr o col, v, _, k => k
  | .rp o n e r c, v, _, k => k
  | .ip r c, v, h, k => by simp [Dv.noJ] at h
  | .sl o n e l q, v, _, k => k
  | .fn f a b, v, h, k => by
    simp only [Dv.noJ,Bool.and_eq_true] at h
    obtain ⟨fs, cs, rfl, k1, k2⟩ := k; exact ⟨fs, cs, rfl, RepL.noJ hh a _ h.1 k1, RepL.noJ hh b _ h.2 k2⟩
  | .agg cs, v, h, k => by
    simp only [Dv.noJ] at h
    obtain ⟨xs, rfl, k1⟩ := k; exact ⟨xs, rfl, RepC.noJ hh cs _ h k1⟩
  | .tup vs, v, h, k => by
    simp only [Dv.noJ] at h
    obtain ⟨xs, rfl, k1⟩ := k; exact ⟨xs, rfl, RepL.noJ hh vs _ h k1⟩
  | .ifc t x, v, h, k => by
    simp only [Dv.noJ] at h
    obtain ⟨y, rfl, k1⟩ := k; exact ⟨y, rfl, Rep.noJ hh x y h k1⟩
  | .yl o, v, _, k => k
  | .mr o, v, _, k => k
theorem RepL.noJ (hh : True) : ∀ (xs : List LV) (vs : List Value), noJs xs = true → RepL J w ι xs vs → RepL J' w ι xs vs
  | [], [], _, _ => trivial
  | x :: xs, v :: vs, h, k => by
    simp only [Dv.noJs,Bool.and_eq_true] at h
    exact ⟨Rep.noJ hh x v h.1 k.1, RepL.noJ hh xs vs h.2 k.2⟩
  | [], _ :: _, _, k => k.elim
  | _ :: _, [], _, k => k.elim
theorem RepC.noJ (hh : True) : ∀ (xs : List LV) (vs : List Value), noJs xs = true → RepC J w ι xs vs → RepC J' w ι xs vs
  | [], [], _, _ => trivial
  | x :: xs, v :: vs, h, k => by
    simp only [Dv.noJs,Bool.and_eq_true] at h
    exact ⟨k.1, Rep.noJ hh x v h.1 k.2.1, RepC.noJ hh xs vs h.2 k.2.2⟩
  | [], _ :: _, _, k => k.elim
  | _ :: _, [], _, k => k.elim
end
end
end Dv

namespace Dv
open Go

section
variable {P : Program} {G : Nat → Option (List DV)} {J J' : Nat → Prop} {w w' : World} {ι ι' : Nat → Nat → Option Nat} {obj : Nat → OSt}

def OwnZ (ι : Nat → Nat → Option Nat) (obj : Nat → OSt) (Z : List Nat) (b : Nat) : Prop := ∃ z ∈ Z, (obj z).own ι z b

def subι (ι : Nat → Nat → Option Nat) (ρ : List Nat) (i n : Nat) : Option Nat := match ρ[i]? with
  | some o => ι o n
  | none => none

theorem rowsAt_sound (S : Store G J w ι obj) {Z : List Nat} {o n esz lo len : Nat} {rs : List (List DV)} (h : rowsAt obj Z o n esz lo len rs) {v : Value} (hv : Rep J w ι (.sl o n esz lo len) v) (ι'' : Nat → Nat → Option Nat) :
    Rep (fun b => J b ∨ OwnZ ι obj Z b) w ι'' (.d (.lst esz rs)) v := by
  unfold rowsAt at h
  have hrep := S.rep o
  split at h
  · rename_i et e rows ho
    obtain ⟨_, rfl, rfl, hle, rfl⟩ := h
    rw [ho] at hrep
    obtain ⟨⟨_, hd⟩, _⟩ := hrep
    have hll : ((rows.drop lo).take len).length = len := by simp; omega
    rcases hv with ⟨rfl, a, rfl⟩ | ⟨b, cap, et', C, hb, rfl, hcap, _⟩
    · exact ⟨a, 0, 0, rfl, by simp, Nat.le_refl _, .inl (by simp)⟩
    · obtain ⟨hJ, hrows⟩ := hd b hb
      have := RowsD.mono (J' := fun b => J b ∨ OwnZ ι obj Z b) (w' := w) (fun b h => .inl h) (fun _ _ => rfl) e _ _ _ rfl ((hrows.drop lo).take len)
      exact ⟨_, len, cap, rfl, hll.symm, hcap, .inr ⟨b, lo * e, rfl, .inl hJ, by simpa using this⟩⟩
  · rename_i et e rows ho
    obtain ⟨hz, rfl, rfl, hle, rfl⟩ := h
    rw [ho] at hrep
    obtain ⟨⟨_, hd⟩, _⟩ := hrep
    have hll : ((rows.drop lo).take len).length = len := by simp; omega
    rcases hv with ⟨rfl, a, rfl⟩ | ⟨b, cap, et', C, hb, rfl, hcap, _⟩
    · exact ⟨a, 0, 0, rfl, by simp, Nat.le_refl _, .inl (by simp)⟩
    · obtain ⟨_, hrows⟩ := hd b hb
      have := RowsD.mono (J' := fun b => J b ∨ OwnZ ι obj Z b) (w' := w) (fun b h => .inl h) (fun _ _ => rfl) e _ _ _ rfl ((hrows.drop lo).take len)
      exact ⟨_, len, cap, rfl, hll.symm, hcap, .inr ⟨b, lo * e, rfl, .inr ⟨o, hz, by rw [ho]; exact hb⟩, by simpa using this⟩⟩
  · exact h.elim

theorem sub_some {ρ : List Nat} {i o n b : Nat} (h : ρ[i]? = some o) (hb : ι o n = some b) : subι ι ρ i n = some b := by simp only [subι,h,hb]

mutual
theorem argR_sound (S : Store G J w ι obj) {ρ Z : List Nat} : ∀ (x y : LV) (v : Value), argR obj ρ Z x y → Rep J w ι x v → Rep (fun b => J b ∨ OwnZ ι obj Z b) w (subι ι ρ) y v
  | x, .top, _, _, _ => trivial
  | .anyb, .anyb, _, _, k => k
  | .d x, .d y, v, h, k => by
    have h' : x = y ∨ (x = .val (.slice none 0 0) ∧ ∃ esz, y = .lst esz []) := by simpa only [argR] using h
    rcases h' with rfl | ⟨rfl, esz, rfl⟩
    · exact RepD.mono (fun b h => .inl h) (fun _ _ => rfl) _ _ k
    · have hv : v = .slice none 0 0 := k
      subst hv
      exact ⟨none, 0, 0, rfl, by simp, Nat.le_refl _, .inl rfl⟩
  | .ptr o c, .ptr i c', v, h, k => by
    obtain ⟨h1, rfl⟩ : ρ[i]? = some o ∧ c = c' := by simpa only [argR] using h
    obtain ⟨b, hb, rfl⟩ := k
    exact ⟨b, sub_some h1 hb, rfl⟩
  | .yl o, .yl i, v, h, k => by
    have h1 : ρ[i]? = some o := by simpa only [argR] using h
    obtain ⟨b, hb, rfl⟩ := k
    exact ⟨b, sub_some h1 hb, rfl⟩
  | .mr o, .mr i, v, h, k => by
    have h1 : ρ[i]? = some o := by simpa only [argR] using h
    obtain ⟨b, hb, rfl⟩ := k
    exact ⟨b, sub_some h1 hb, rfl⟩
  | .rp o n e r c, .rp i n' e' r' c', v, h, k => by
    obtain ⟨h1, rfl, rfl, rfl, rfl⟩ : ρ[i]? = some o ∧ n = n' ∧ e = e' ∧ r = r' ∧ c = c' := by simpa only [argR] using h
    obtain ⟨b, hb, rfl⟩ := k
    exact ⟨b, sub_some h1 hb, rfl⟩
  | .ip r c, .ip r' c', v, h, k => by
    obtain ⟨rfl, rfl⟩ : r = r' ∧ c = c' := by simpa only [argR] using h
    obtain ⟨b, off, hb, rfl, hr⟩ := k
    exact ⟨b, off, .inl hb, rfl, RowD.mono (fun b h => .inl h) (fun _ _ => rfl) _ _ _ rfl hr⟩
  | .sl o n e l m, .sl i n' e' l' m', v, h, k => by
    obtain ⟨h1, rfl, rfl, rfl, rfl⟩ : ρ[i]? = some o ∧ n = n' ∧ e = e' ∧ l = l' ∧ m = m' := by simpa only [argR] using h
    rcases k with k | ⟨b, cap, et, C, hb, k⟩
    · exact .inl k
    · exact .inr ⟨b, cap, et, C, sub_some h1 hb, k⟩
  | .sl o n e l m, .d (.lst e' rs), v, h, k => by
    obtain ⟨rfl, h1⟩ : e = e' ∧ rowsAt obj Z o n e l m rs := by simpa only [argR] using h
    exact rowsAt_sound S h1 k _
  | .agg xs, .agg ys, v, h, k => by
    have h' : argRs obj ρ Z xs ys := by simpa only [argR] using h
    obtain ⟨us, rfl, k1⟩ := k
    exact ⟨us, rfl, RepC.ofL (argRs_sound S xs ys _ h' k1.toL) k1.one⟩
  | .tup xs, .tup ys, v, h, k => by
    have h' : argRs obj ρ Z xs ys := by simpa only [argR] using h
    obtain ⟨us, rfl, k1⟩ := k
    exact ⟨us, rfl, argRs_sound S xs ys _ h' k1⟩
  | .fn f a b, .fn f' a' b', v, h, k => by
    obtain ⟨rfl, h1, h2⟩ : f = f' ∧ argRs obj ρ Z a a' ∧ argRs obj ρ Z b b' := by simpa only [argR] using h
    obtain ⟨fs, cs, rfl, k1, k2⟩ := k
    exact ⟨fs, cs, rfl, argRs_sound S a a' _ h1 k1, argRs_sound S b b' _ h2 k2⟩
  | .d (.fn f a b), .fn f' a' b', v, h, k => by
    obtain ⟨rfl, rfl, rfl⟩ : f = f' ∧ a' = a.map .d ∧ b' = b.map .d := by simpa only [argR] using h
    obtain ⟨fs, cs, rfl, k1, k2⟩ := k
    exact ⟨fs, cs, rfl, (RepDL.mono (fun b h => .inl h) (fun _ _ => rfl) _ _ k1).toL, (RepDL.mono (fun b h => .inl h) (fun _ _ => rfl) _ _ k2).toL⟩
  | .ifc t x, .ifc t' y, v, h, k => by
    obtain ⟨rfl, h1⟩ : t = t' ∧ argR obj ρ Z x y := by simpa only [argR] using h
    obtain ⟨z, rfl, k1⟩ := k
    exact ⟨z, rfl, argR_sound S x y z h1 k1⟩
  | .mr _, .d _, _, h, _ | .mr _, .ptr .., _, h, _ | .mr _, .rp .., _, h, _ | .mr _, .ip .., _, h, _ | .mr _, .sl .., _, h, _ | .mr _, .fn .., _, h, _ | .mr _, .agg _, _, h, _ | .mr _, .tup _, _, h, _ | .mr _, .ifc .., _, h, _ | .mr _, .anyb, _, h, _ | .mr _, .yl _, _, h, _ | .d _, .mr _, _, h, _ | .ptr .., .mr _, _, h, _ | .rp .., .mr _, _, h, _ | .ip .., .mr _, _, h, _ | .sl .., .mr _, _, h, _ | .fn .., .mr _, _, h, _ | .agg _, .mr _, _, h, _ | .tup _, .mr _, _, h, _ | .ifc .., .mr _, _, h, _ | .anyb, .mr _, _, h, _ | .yl _, .mr _, _, h, _ | .top, .mr _, _, h, _ => by simp [argR] at h
  | .yl _, .d _, _, h, _ | .yl _, .ptr .., _, h, _ | .yl _, .rp .., _, h, _ | .yl _, .ip .., _, h, _ | .yl _, .sl .., _, h, _ | .yl _, .fn .., _, h, _ | .yl _, .agg _, _, h, _ | .yl _, .tup _, _, h, _ | .yl _, .ifc .., _, h, _ | .yl _, .anyb, _, h, _  => by simp [argR] at h
  | .d _, .yl _, _, h, _ | .ptr .., .yl _, _, h, _ | .rp .., .yl _, _, h, _ | .ip .., .yl _, _, h, _ | .sl .., .yl _, _, h, _ | .fn .., .yl _, _, h, _ | .agg _, .yl _, _, h, _ | .tup _, .yl _, _, h, _ | .ifc .., .yl _, _, h, _ | .anyb, .yl _, _, h, _ | .top, .yl _, _, h, _ => by simp [argR] at h
  | .top, .d _, _, h, _ | .top, .ptr .., _, h, _ | .top, .rp .., _, h, _ | .top, .ip .., _, h, _ | .top, .sl .., _, h, _ | .top, .fn .., _, h, _ | .top, .agg _, _, h, _ | .top, .tup _, _, h, _ | .top, .ifc .., _, h, _ => by simp [argR] at h
  | .ptr .., .d _, _, h, _ | .ptr .., .rp .., _, h, _ | .ptr .., .ip .., _, h, _ | .ptr .., .sl .., _, h, _ | .ptr .., .fn .., _, h, _ | .ptr .., .agg _, _, h, _ | .ptr .., .tup _, _, h, _ | .ptr .., .ifc .., _, h, _ => by simp [argR] at h
  | .rp .., .d _, _, h, _ | .rp .., .ptr .., _, h, _ | .rp .., .ip .., _, h, _ | .rp .., .sl .., _, h, _ | .rp .., .fn .., _, h, _ | .rp .., .agg _, _, h, _ | .rp .., .tup _, _, h, _ | .rp .., .ifc .., _, h, _ => by simp [argR] at h
  | .ip .., .d _, _, h, _ | .ip .., .ptr .., _, h, _ | .ip .., .rp .., _, h, _ | .ip .., .sl .., _, h, _ | .ip .., .fn .., _, h, _ | .ip .., .agg _, _, h, _ | .ip .., .tup _, _, h, _ | .ip .., .ifc .., _, h, _ => by simp [argR] at h
  | .sl .., .d (.val _), _, h, _ | .sl .., .d (.fn ..), _, h, _ | .sl .., .d (.ifc ..), _, h, _ | .sl .., .d (.agg _), _, h, _ | .sl .., .ptr .., _, h, _ | .sl .., .rp .., _, h, _ | .sl .., .ip .., _, h, _ | .sl .., .fn .., _, h, _ | .sl .., .agg _, _, h, _ | .sl .., .tup _, _, h, _ | .sl .., .ifc .., _, h, _ => by simp [argR] at h
  | .agg _, .d _, _, h, _ | .agg _, .ptr .., _, h, _ | .agg _, .rp .., _, h, _ | .agg _, .ip .., _, h, _ | .agg _, .sl .., _, h, _ | .agg _, .fn .., _, h, _ | .agg _, .tup _, _, h, _ | .agg _, .ifc .., _, h, _ => by simp [argR] at h
  | .tup _, .d _, _, h, _ | .tup _, .ptr .., _, h, _ | .tup _, .rp .., _, h, _ | .tup _, .ip .., _, h, _ | .tup _, .sl .., _, h, _ | .tup _, .fn .., _, h, _ | .tup _, .agg _, _, h, _ | .tup _, .ifc .., _, h, _ => by simp [argR] at h
  | .fn .., .d _, _, h, _ | .fn .., .ptr .., _, h, _ | .fn .., .rp .., _, h, _ | .fn .., .ip .., _, h, _ | .fn .., .sl .., _, h, _ | .fn .., .agg _, _, h, _ | .fn .., .tup _, _, h, _ | .fn .., .ifc .., _, h, _ => by simp [argR] at h
  | .ifc .., .d _, _, h, _ | .ifc .., .ptr .., _, h, _ | .ifc .., .rp .., _, h, _ | .ifc .., .ip .., _, h, _ | .ifc .., .sl .., _, h, _ | .ifc .., .fn .., _, h, _ | .ifc .., .agg _, _, h, _ | .ifc .., .tup _, _, h, _ => by simp [argR] at h
  | .d (.val _), .ptr .., _, h, _ | .d (.val _), .rp .., _, h, _ | .d (.val _), .ip .., _, h, _ | .d (.val _), .sl .., _, h, _ | .d (.val _), .fn .., _, h, _ | .d (.val _), .agg _, _, h, _ | .d (.val _), .tup _, _, h, _ | .d (.val _), .ifc .., _, h, _ => by simp [argR] at h
  | .d (.lst ..), .ptr .., _, h, _ | .d (.lst ..), .rp .., _, h, _ | .d (.lst ..), .ip .., _, h, _ | .d (.lst ..), .sl .., _, h, _ | .d (.lst ..), .fn .., _, h, _ | .d (.lst ..), .agg _, _, h, _ | .d (.lst ..), .tup _, _, h, _ | .d (.lst ..), .ifc .., _, h, _ => by simp [argR] at h
  | .d (.fn ..), .ptr .., _, h, _ | .d (.fn ..), .rp .., _, h, _ | .d (.fn ..), .ip .., _, h, _ | .d (.fn ..), .sl .., _, h, _ | .d (.fn ..), .agg _, _, h, _ | .d (.fn ..), .tup _, _, h, _ | .d (.fn ..), .ifc .., _, h, _ => by simp [argR] at h
  | .d (.ifc ..), .ptr .., _, h, _ | .d (.ifc ..), .rp .., _, h, _ | .d (.ifc ..), .ip .., _, h, _ | .d (.ifc ..), .sl .., _, h, _ | .d (.ifc ..), .fn .., _, h, _ | .d (.ifc ..), .agg _, _, h, _ | .d (.ifc ..), .tup _, _, h, _ | .d (.ifc ..), .ifc .., _, h, _ => by simp [argR] at h
  | .d (.agg _), .ptr .., _, h, _ | .d (.agg _), .rp .., _, h, _ | .d (.agg _), .ip .., _, h, _ | .d (.agg _), .sl .., _, h, _ | .d (.agg _), .fn .., _, h, _ | .d (.agg _), .agg _, _, h, _ | .d (.agg _), .tup _, _, h, _ | .d (.agg _), .ifc .., _, h, _ => by simp [argR] at h
  | .anyb, .d _, _, h, _ | .anyb, .ptr .., _, h, _ | .anyb, .rp .., _, h, _ | .anyb, .ip .., _, h, _ | .anyb, .sl .., _, h, _ | .anyb, .fn .., _, h, _ | .anyb, .agg _, _, h, _ | .anyb, .tup _, _, h, _ | .anyb, .ifc .., _, h, _ => by simp [argR] at h
  | .top, .anyb, _, h, _ | .d (.val _), .anyb, _, h, _ | .d (.lst ..), .anyb, _, h, _ | .d (.fn ..), .anyb, _, h, _ | .d (.ifc ..), .anyb, _, h, _ | .d (.agg _), .anyb, _, h, _ | .ptr .., .anyb, _, h, _ | .rp .., .anyb, _, h, _ | .ip .., .anyb, _, h, _ | .sl .., .anyb, _, h, _ | .fn .., .anyb, _, h, _ | .agg _, .anyb, _, h, _ | .tup _, .anyb, _, h, _ | .ifc .., .anyb, _, h, _ => by simp [argR] at h
theorem argRs_sound (S : Store G J w ι obj) {ρ Z : List Nat} : ∀ (xs ys : List LV) (vs : List Value), argRs obj ρ Z xs ys → RepL J w ι xs vs → RepL (fun b => J b ∨ OwnZ ι obj Z b) w (subι ι ρ) ys vs
  | [], [], [], _, _ => trivial
  | x :: xs, y :: ys, v :: vs, h, k => by
    have h' : argR obj ρ Z x y ∧ argRs obj ρ Z xs ys := by simpa only [argRs] using h
    exact ⟨argR_sound S x y v h'.1 k.1, argRs_sound S xs ys vs h'.2 k.2⟩
  | [], _ :: _, _, h, _ => by simp [argRs] at h
  | _ :: _, [], _, h, _ => by simp [argRs] at h
  | [], [], _ :: _, _, k => k.elim
  | _ :: _, _ :: _, [], _, k => k.elim
end
end
end Dv

namespace Dv
open Go

def piOf (ρ : List Nat) (base i : Nat) : Nat := match ρ[i]? with
  | some o => o
  | none => base + (i - ρ.length)

def frzs (obj : Nat → OSt) : List Nat → List (Nat × LObj)
  | [] => []
  | z :: Z => match obj z with
    | .live (.dat et e rows) => (z, .frz et e rows) :: frzs obj Z
    | _ => frzs obj Z

structure CallEff (P : Program) (G : Nat → Option (List DV)) (f : Nat) (args : List LV) (obj : Nat → OSt) (base : Nat) (e : Eff) : Prop where
  mk ::
  ex : ∃ (ρ Z : List Nat) (tmp : Bool) (fargs : List LV) (fobjs : List LObj) (r : LV) (fobjs' : List LObj) (keep : Nat → Bool), (∀ (i o : Nat), ρ[i]? = some o → keep o = false → fobjs'[i]? = fobjs[i]?) ∧
    ρ.Nodup ∧ (∀ z ∈ Z, z ∉ ρ) ∧ (∀ z ∈ Z, ∃ et e rows, obj z = .live (.dat et e rows) ∨ obj z = .live (.frz et e rows)) ∧ fobjs.length = ρ.length ∧ (∀ (i o : Nat), ρ[i]? = some o → ∃ ob, fobjs[i]? = some ob ∧ obj o = .live (rnO (piOf ρ base) ob)) ∧ fobjs.all (idlO ρ.length) = true ∧
    argRs obj ρ Z args fargs ∧ (tmp = true → noJ r = true ∧ fobjs' = [] ∧ ρ = []) ∧ fobjs.length ≤ fobjs'.length ∧
    Tri P G f fargs fobjs r fobjs' ∧
    e = { r := rn (piOf ρ base) r, rd := ρ ++ Z, wr := ((ρ.zip (fobjs'.map (rnO (piOf ρ base)))).filter fun p => keep p.1) ++ (if tmp then [] else frzs obj Z), nw := (fobjs'.drop ρ.length).map (rnO (piOf ρ base)) }

def TriX (P : Program) (G : Nat → Option (List DV)) (f : Nat) (args : List LV) (objs : List LObj) (p : Value) (objs' : List LObj) : Prop :=
  entersT P f = true ∧ ∀ J ι w (vs : Array Value), Store G J w ι (objL (objs.map some)) → RepL J w ι args vs.toList →
    Calls P f vs w (fun e w' => e = .panicked [{ v := p, recovered := false }] ∧ After G (objL (objs.map some)) (objL (objs'.map some)) J ι w .top Go.undef w')

structure CallPan (P : Program) (G : Nat → Option (List DV)) (f : Nat) (args : List LV) (obj : Nat → OSt) (base : Nat) (p : Value) (e : Eff) : Prop where
  mk ::
  ex : ∃ (ρ Z : List Nat) (fargs : List LV) (fobjs fobjs' : List LObj),
    ρ.Nodup ∧ (∀ z ∈ Z, z ∉ ρ) ∧ (∀ z ∈ Z, ∃ et e rows, obj z = .live (.dat et e rows) ∨ obj z = .live (.frz et e rows)) ∧ fobjs.length = ρ.length ∧ (∀ (i o : Nat), ρ[i]? = some o → ∃ ob, fobjs[i]? = some ob ∧ obj o = .live (rnO (piOf ρ base) ob)) ∧ fobjs.all (idlO ρ.length) = true ∧
    argRs obj ρ Z args fargs ∧ fobjs.length ≤ fobjs'.length ∧
    TriX P G f fargs fobjs p fobjs' ∧
    e = { r := .top, rd := ρ ++ Z, wr := (ρ.zip (fobjs'.map (rnO (piOf ρ base)))) ++ frzs obj Z, nw := (fobjs'.drop ρ.length).map (rnO (piOf ρ base)) }

section
variable {P : Program} {G : Nat → Option (List DV)} {J J' : Nat → Prop} {w w' : World} {ι ι' : Nat → Nat → Option Nat} {obj : Nat → OSt}

theorem noJ_rn (π : Nat → Nat) : (∀ x : LV, noJ x = true → noJ (rn π x) = true) ∧ (∀ xs : List LV, noJs xs = true → noJs (rnL π xs) = true) := by
  have one : ∀ n, (∀ x : LV, sizeOf x < n → noJ x = true → noJ (rn π x) = true) ∧ (∀ xs : List LV, sizeOf xs < n → noJs xs = true → noJs (rnL π xs) = true) := by
    intro n
    induction n with
    | zero => exact ⟨fun _ h => absurd h (by omega), fun _ h => absurd h (by omega)⟩
    | succ n ih =>
      refine ⟨fun x hs h => ?_, fun xs hs h => ?_⟩
      · cases x <;> simp only [rn] <;> (try exact h) <;> simp only [noJ,Bool.and_eq_true] at h ⊢ <;> simp at hs
        · exact ⟨ih.2 _ (by omega) h.1, ih.2 _ (by omega) h.2⟩
        · exact ih.2 _ (by omega) h
        · exact ih.2 _ (by omega) h
        · exact ih.1 _ (by omega) h
      · cases xs with
        | nil => rfl
        | cons x xs =>
          simp only [rnL,noJs,Bool.and_eq_true] at h ⊢
          simp at hs
          exact ⟨ih.1 _ (by omega) h.1, ih.2 _ (by omega) h.2⟩
  exact ⟨fun x => (one (sizeOf x + 1)).1 x (by omega), fun xs => (one (sizeOf xs + 1)).2 xs (by omega)⟩

theorem newO_get : ∀ (l : List LObj) (base : Nat) (obj : Nat → OSt) (o : Nat), newO base l obj o = if base ≤ o then (match l[o - base]? with | some ob => .live ob | none => obj o) else obj o
  | [], base, obj, o => by simp [newO]
  | ob :: r, base, obj, o => by
    simp only [newO]
    by_cases h : o = base
    · subst h; simp
    · rw [if_neg h, newO_get r (base + 1) obj o]
      by_cases h2 : base + 1 ≤ o
      · rw [if_pos h2, if_pos (by omega)]
        have : o - base = (o - (base + 1)) + 1 := by omega
        rw [this]; simp
      · rw [if_neg h2, if_neg (by omega)]

theorem updO_append : ∀ (l m : List (Nat × LObj)) (obj : Nat → OSt), updO (l ++ m) obj = updO l (updO m obj)
  | [], _, _ => rfl
  | (k, ob) :: r, m, obj => by simp only [List.cons_append,updO,updO_append r m obj]

theorem updO_zip : ∀ (ρ : List Nat) (l : List LObj) (obj : Nat → OSt) (o : Nat), ρ.Nodup → ρ.length ≤ l.length →
    (∀ (i : Nat), ρ[i]? = some o → ∃ ob, l[i]? = some ob ∧ updO (ρ.zip l) obj o = .live ob) ∧ (o ∉ ρ → updO (ρ.zip l) obj o = obj o)
  | [], l, obj, o, _, _ => ⟨fun i h => by simp at h, fun _ => rfl⟩
  | k :: ρ, [], obj, o, _, h => by simp at h
  | k :: ρ, x :: l, obj, o, hn, h => by
    have hn' := List.nodup_cons.1 hn
    obtain ⟨h1, h2⟩ := updO_zip ρ l obj o hn'.2 (by simpa using h)
    refine ⟨fun i hi => ?_, fun ho => ?_⟩
    · cases i with
      | zero =>
        simp at hi; subst hi
        exact ⟨x, by simp, by simp [updO]⟩
      | succ i =>
        have hi' : ρ[i]? = some o := by simpa using hi
        obtain ⟨ob, k1, k2⟩ := h1 i hi'
        refine ⟨ob, by simpa using k1, ?_⟩
        simp only [List.zip_cons_cons,updO]
        have hok : o ≠ k := fun e => hn'.1 (by rw [← e]; exact List.mem_of_getElem? hi')
        rw [if_neg hok]
        exact k2
    · simp only [List.mem_cons,not_or] at ho
      simp only [List.zip_cons_cons,updO]
      rw [if_neg ho.1]; exact h2 ho.2

theorem updO_frzs (obj0 : Nat → OSt) : ∀ (Z : List Nat) (obj : Nat → OSt) (o : Nat),
    (o ∈ Z → ∀ et e rows, obj0 o = .live (.dat et e rows) → updO (frzs obj0 Z) obj o = .live (.frz et e rows)) ∧ ((o ∉ Z ∨ ∀ et e rows, obj0 o ≠ .live (.dat et e rows)) → updO (frzs obj0 Z) obj o = obj o)
  | [], obj, o => ⟨(fun h => by cases h), (fun _ => rfl)⟩
  | z :: Z, obj, o => by
    obtain ⟨h1, h2⟩ := updO_frzs obj0 Z obj o
    refine ⟨fun ho et e rows hob => ?_, fun ho => ?_⟩
    · simp only [frzs]
      by_cases hz : o = z
      · subst hz; rw [hob]; simp [updO]
      · have hoZ : o ∈ Z := (List.mem_cons.1 ho).resolve_left hz
        split
        · simp only [updO]; rw [if_neg hz]; exact h1 hoZ et e rows hob
        · exact h1 hoZ et e rows hob
    · simp only [frzs]
      have hr : updO (frzs obj0 Z) obj o = obj o := h2 (ho.imp (fun h hm => h (by simp [hm])) id)
      split
      · rename_i et e rows hob
        simp only [updO]
        by_cases hz : o = z
        · subst hz
          rcases ho with ho | ho
          · exact absurd (by simp) ho
          · exact absurd hob (ho et e rows)
        · rw [if_neg hz]; exact hr
      · exact hr

theorem objL_map (l : List LObj) (o : Nat) : objL (l.map some) o = (match l[o]? with | some ob => .live ob | none => .free) := by
  unfold objL
  rw [List.getElem?_map]
  cases l[o]? <;> rfl

theorem nodup_inj : ∀ {l : List Nat} {i j : Nat}, l.Nodup → (hi : i < l.length) → (hj : j < l.length) → l[i] = l[j] → i = j
  | [], i, _, _, hi, _, _ => by simp at hi
  | x :: l, 0, 0, _, _, _, _ => rfl
  | x :: l, 0, j + 1, hn, _, hj, h => by
    have := (List.nodup_cons.1 hn).1
    simp at h hj
    exact absurd (by rw [h]; exact List.getElem_mem _) this
  | x :: l, i + 1, 0, hn, hi, _, h => by
    have := (List.nodup_cons.1 hn).1
    simp at h hi
    exact absurd (by rw [← h]; exact List.getElem_mem _) this
  | x :: l, i + 1, j + 1, hn, hi, hj, h => by
    simp at h hi hj
    rw [nodup_inj (List.nodup_cons.1 hn).2 hi hj h]

theorem piOf_old {ρ : List Nat} {base i o : Nat} (h : ρ[i]? = some o) : piOf ρ base i = o := by simp [piOf,h]
theorem piOf_new {ρ : List Nat} {base i : Nat} (h : ρ.length ≤ i) : piOf ρ base i = base + (i - ρ.length) := by
  simp [piOf,List.getElem?_eq_none h]

theorem enter_run {f : Nat} (h : entersT P f = true) (args : Array Value) (w : World) : (callFunc f args).run P w = .ok (.enter f args) w := by
  unfold entersT at h
  split at h
  · rename_i fn hfn
    simp only [Bool.and_eq_true,bne_iff_ne,ne_eq] at h
    obtain ⟨h1, h2⟩ := h
    have h3 : fn.body.isNone = false := by cases hb : fn.body <;> simp_all
    simp only [callFunc,Sem.run_bind,run_program,Result.andThen_ok,hfn,h3]
    rw [if_neg (by simpa using h1)]
    rfl
  · cases h

theorem Store.sub (S : Store G J w ι obj) {ρ Z : List Nat} {fobjs : List LObj} {base : Nat} (hn : ρ.Nodup) (hz : ∀ z ∈ Z, z ∉ ρ) (hl : fobjs.length = ρ.length)
    (ho : ∀ (i o : Nat), ρ[i]? = some o → ∃ ob, fobjs[i]? = some ob ∧ obj o = .live (rnO (piOf ρ base) ob)) (hid : fobjs.all (idlO ρ.length) = true) (hZd : ∀ z ∈ Z, ∃ et e rows, obj z = .live (.dat et e rows) ∨ obj z = .live (.frz et e rows)) :
    Store G (fun b => J b ∨ OwnZ ι obj Z b) w (subι ι ρ) (objL (fobjs.map some)) ∧ (∀ i b, (objL (fobjs.map some) i).own (subι ι ρ) i b → ∃ o, ρ[i]? = some o ∧ (obj o).own ι o b) := by
  have hown : ∀ i b, (objL (fobjs.map some) i).own (subι ι ρ) i b → ∃ o, ρ[i]? = some o ∧ (obj o).own ι o b := by
    intro i b h
    rw [objL_map] at h
    cases hi : fobjs[i]? with
    | none => rw [hi] at h; exact h.elim
    | some ob =>
      rw [hi] at h
      have hlt : i < ρ.length := by rw [← hl]; exact (List.getElem?_eq_some_iff.1 hi).1
      obtain ⟨ob', k1, k2⟩ := ho i _ (List.getElem?_eq_getElem hlt)
      rw [hi] at k1; cases k1
      refine ⟨ρ[i], List.getElem?_eq_getElem hlt, ?_⟩
      rw [k2]
      cases ob <;> (simp [OSt.own,LObj.own,rnO,subι,List.getElem?_eq_getElem hlt] at h ⊢; try exact h)
  refine ⟨⟨fun i => ?_, ?_, ?_, ?_, ?_⟩, hown⟩
  · rw [objL_map]
    cases hi : fobjs[i]? with
    | none =>
      intro n
      have : ρ[i]? = none := List.getElem?_eq_none (by rw [← hl]; exact List.getElem?_eq_none_iff.1 hi)
      simp [subι,this]
    | some ob =>
      have hlt : i < ρ.length := by rw [← hl]; exact (List.getElem?_eq_some_iff.1 hi).1
      have hρ := List.getElem?_eq_getElem hlt
      obtain ⟨ob', k1, k2⟩ := ho i _ hρ
      rw [hi] at k1; cases k1
      have hrep := S.rep ρ[i]
      rw [k2] at hrep
      have hsub : ∀ n, subι ι ρ i n = ι ρ[i] n := fun n => by simp [subι,hρ]
      have hidl : idlO ρ.length ob = true := (List.all_eq_true.1 hid) ob (List.mem_of_getElem? hi)
      cases ob with
      | box et cells =>
        obtain ⟨⟨b, C, h1, h2, h3⟩, _⟩ := hrep
        refine ⟨⟨b, C, by rw [hsub]; exact h1, h2, ?_⟩, trivial⟩
        have h4 : RepC J w (subι ι ρ) cells C.toList := RepC.rn (k0 := ρ.length) (π := piOf ρ base) (fun o n b ho hb => by
          have hq := List.getElem?_eq_getElem ho
          rw [piOf_old hq] at hb
          simp [subι,hq,hb]) cells _ (by simpa [idlO] using hidl) h3
        exact RepC.mono (fun _ h => .inl h) (fun _ _ => rfl) (fun _ _ _ h => h) (fun _ _ => rfl) _ _ h4
      | mp es =>
        obtain ⟨⟨b, C, c, h1, h2, h3⟩, _⟩ := hrep
        refine ⟨⟨b, C, c, by rw [hsub]; exact h1, h2, ?_⟩, trivial⟩
        have h4 : RepM J w (subι ι ρ) es C.toList := RepM.rn (k0 := ρ.length) (π := piOf ρ base) (fun o n b ho hb => by
          have hq := List.getElem?_eq_getElem ho
          rw [piOf_old hq] at hb
          simp [subι,hq,hb]) es _ (by simpa [idlO] using hidl) h3
        exact RepM.mono (fun _ h => .inl h) (fun _ _ => rfl) (fun _ _ _ h => h) (fun _ _ => rfl) _ _ h4
      | dat et e rows =>
        obtain ⟨⟨h1, h2⟩, h3⟩ := hrep
        refine ⟨⟨by rw [hsub]; exact h1, fun b hb => ?_⟩, fun n hn => by rw [hsub]; exact h3 n hn⟩
        rw [hsub] at hb
        obtain ⟨h4, h5⟩ := h2 b hb
        exact ⟨h4, RowsD.mono (fun _ h => .inl h) (fun _ _ => rfl) _ _ _ _ rfl h5⟩
      | frz et e rows =>
        obtain ⟨⟨h1, h2⟩, h3⟩ := hrep
        refine ⟨⟨by rw [hsub]; exact h1, fun b hb => ?_⟩, trivial⟩
        rw [hsub] at hb
        obtain ⟨h4, h5⟩ := h2 b hb
        exact ⟨.inl h4, RowsD.mono (fun _ h => .inl h) (fun _ _ => rfl) _ _ _ _ rfl h5⟩
  · intro i i' b h h'
    obtain ⟨o, k1, k2⟩ := hown i b h
    obtain ⟨o', k1', k2'⟩ := hown i' b h'
    have := S.inj o o' b k2 k2'
    subst this
    have hi := (List.getElem?_eq_some_iff.1 k1).1
    have hi' := (List.getElem?_eq_some_iff.1 k1').1
    have e1 := (List.getElem?_eq_some_iff.1 k1).2
    have e2 := (List.getElem?_eq_some_iff.1 k1').2
    exact nodup_inj hn hi hi' (e1.trans e2.symm)
  · rintro i b h hJ
    obtain ⟨o, k1, k2⟩ := hown i b h
    rcases hJ with hJ | ⟨z, hz1, hz2⟩
    · exact S.disj o b k2 hJ
    · have := S.inj o z b k2 hz2
      subst this
      exact hz o hz1 (List.mem_of_getElem? k1)
  · rintro b (h | ⟨z, _, h⟩)
    · exact S.jcell b h
    · rename_i hz
      exact S.own_dat (hZd z hz) h
  · intro g row hg
    obtain ⟨h1, h2, h3⟩ := S.glob g row hg
    exact ⟨.inl h1, RowD.mono (fun _ h => .inl h) (fun _ _ => rfl) _ _ _ rfl h2, h3⟩

theorem After.call (S : Store G J w ι obj) {ρ Z : List Nat} {tmp : Bool} {fobjs fobjs' : List LObj} {base : Nat} {r : LV} {v : Value} (hn : ρ.Nodup) (hz : ∀ z ∈ Z, z ∉ ρ) (hl : fobjs.length = ρ.length)
    (ho : ∀ (i o : Nat), ρ[i]? = some o → ∃ ob, fobjs[i]? = some ob ∧ obj o = .live (rnO (piOf ρ base) ob)) (hid : fobjs.all (idlO ρ.length) = true)
    (hZd : ∀ z ∈ Z, ∃ et e rows, obj z = .live (.dat et e rows) ∨ obj z = .live (.frz et e rows)) (htmp : tmp = true → noJ r = true ∧ fobjs' = [] ∧ ρ = []) (hle : fobjs.length ≤ fobjs'.length) (hfree : ∀ j, j < fobjs'.length - ρ.length → obj (base + j) = .free)
    (hA : After G (objL (fobjs.map some)) (objL (fobjs'.map some)) (fun b => J b ∨ OwnZ ι obj Z b) (subι ι ρ) w r v w') :
    After G obj (applyO obj base { r := rn (piOf ρ base) r, rd := ρ ++ Z, wr := (ρ.zip (fobjs'.map (rnO (piOf ρ base)))) ++ (if tmp then [] else frzs obj Z), nw := (fobjs'.drop ρ.length).map (rnO (piOf ρ base)) }) J ι w (rn (piOf ρ base) r) v w' := by
  obtain ⟨SF, hownF⟩ := S.sub (base := base) hn hz hl ho hid hZd
  obtain ⟨J2, ι2, S2, hr, E2⟩ := hA
  -- names
  generalize hm : fobjs'.length = m at *
  have hkm : ρ.length ≤ m := by omega
  have hnew : ∀ j, j < m - ρ.length → ∀ n, ι (base + j) n = none := fun j hj => by
    have := S.rep (base + j); rw [hfree j hj] at this; exact this
  have hρlive : ∀ {i o : Nat}, ρ[i]? = some o → ∃ ob, obj o = .live ob := fun h => by obtain ⟨ob, _, k⟩ := ho _ _ h; exact ⟨_, k⟩
  have hinj : ∀ i i', i < m → i' < m → piOf ρ base i = piOf ρ base i' → i = i' := by
    intro i i' hi hi' h
    rcases Nat.lt_or_ge i ρ.length with h1 | h1 <;> rcases Nat.lt_or_ge i' ρ.length with h2 | h2
    · rw [piOf_old (List.getElem?_eq_getElem h1), piOf_old (List.getElem?_eq_getElem h2)] at h
      exact nodup_inj hn h1 h2 h
    · rw [piOf_old (List.getElem?_eq_getElem h1), piOf_new h2] at h
      obtain ⟨ob, k⟩ := hρlive (List.getElem?_eq_getElem h1)
      rw [h, hfree _ (by omega)] at k; cases k
    · rw [piOf_new h1, piOf_old (List.getElem?_eq_getElem h2)] at h
      obtain ⟨ob, k⟩ := hρlive (List.getElem?_eq_getElem h2)
      rw [← h, hfree _ (by omega)] at k; cases k
    · rw [piOf_new h1, piOf_new h2] at h; omega
  let idx : Nat → Option Nat := fun o => (List.range m).find? (fun i => piOf ρ base i == o)
  have hidx : ∀ i, i < m → idx (piOf ρ base i) = some i := by
    intro i hi
    cases hx : idx (piOf ρ base i) with
    | none =>
      have := List.find?_eq_none.1 hx i (by simpa using hi)
      simp at this
    | some i' =>
      have h1 := List.find?_some hx
      have h2 : i' < m := by simpa using List.mem_of_find?_eq_some hx
      simp only [beq_iff_eq] at h1
      rw [hinj i' i h2 hi h1]
  have hidx' : ∀ o i, idx o = some i → i < m ∧ piOf ρ base i = o := by
    intro o i hx
    have h1 := List.find?_some hx
    have h2 : i < m := by simpa using List.mem_of_find?_eq_some hx
    exact ⟨h2, by simpa using h1⟩
  let ι' : Nat → Nat → Option Nat := fun o n => match idx o with | some i => ι2 i n | none => ι o n
  have hι' : ∀ i n, i < m → ι' (piOf ρ base i) n = ι2 i n := fun i n hi => by simp only [ι',hidx i hi]
  have hι0 : ∀ o n, idx o = none → ι' o n = ι o n := fun o n h => by simp only [ι',h]
  have hι2none : ∀ i n, m ≤ i → ι2 i n = none := fun i n hi => by
    have := S2.rep i
    rw [objL_map, List.getElem?_eq_none (by rw [hm]; exact hi)] at this
    exact this n
  have himono : ∀ o n b, ι o n = some b → ι' o n = some b := by
    intro o n b hb
    cases hx : idx o with
    | none => rw [hι0 o n hx]; exact hb
    | some i =>
      obtain ⟨hi, hpi⟩ := hidx' o i hx
      rw [← hpi, hι' i n hi]
      rcases Nat.lt_or_ge i ρ.length with h1 | h1
      · rw [piOf_old (List.getElem?_eq_getElem h1)] at hpi
        exact E2.ev.imono i n b (by simp [subι,List.getElem?_eq_getElem h1,hpi,hb])
      · rw [piOf_new h1] at hpi
        rw [← hpi, hnew _ (by omega)] at hb; cases hb
  have hun : ∀ o n b, ι2 o n = some b → ι' (piOf ρ base o) n = some b := by
    intro o n b hb
    rcases Nat.lt_or_ge o m with h1 | h1
    · rw [hι' o n h1]; exact hb
    · rw [hι2none o n h1] at hb; cases hb
  let J' : Nat → Prop := fun b => if tmp = true then J b else J2 b
  have hJJ' : ∀ b, J b → J' b := fun b hb => by
    simp only [J']; split
    · exact hb
    · exact E2.ev.jmono b (.inl hb)
  have hownFle : ∀ b, Own (subι ι ρ) (objL (fobjs.map some)) b → ∃ o, o ∈ ρ ∧ (obj o).own ι o b := fun b ⟨i, hi⟩ => by
    obtain ⟨o, k1, k2⟩ := hownF i b hi
    exact ⟨o, List.mem_of_getElem? k1, k2⟩
  have E : Ev (Own ι obj) J J' ι ι' w w' := by
    refine ⟨E2.ev.os, E2.ev.tape, E2.ev.output, E2.ev.size, fun b hb hno => E2.ev.same b hb (fun h => ?_), E2.ev.shape, hJJ', fun b hb => ?_, himono⟩
    · obtain ⟨o, _, k⟩ := hownFle b h; exact hno ⟨o, k⟩
    · simp only [J'] at hb
      split at hb
      · exact .inl hb
      · rcases E2.ev.jnew b hb with (h | ⟨z, _, h⟩) | h | h
        · exact .inl h
        · exact .inr (.inr ⟨z, h⟩)
        · exact .inr (.inl h)
        · obtain ⟨o, _, k⟩ := hownFle b h; exact .inr (.inr ⟨o, k⟩)
  -- what the objects are
  generalize hobj' : applyO obj base { r := rn (piOf ρ base) r, rd := ρ ++ Z, wr := (ρ.zip (fobjs'.map (rnO (piOf ρ base)))) ++ (if tmp then [] else frzs obj Z), nw := (fobjs'.drop ρ.length).map (rnO (piOf ρ base)) } = obj'
  have hob1 : ∀ i ob, fobjs'[i]? = some ob → obj' (piOf ρ base i) = .live (rnO (piOf ρ base) ob) := by
    intro i ob hi
    have him : i < m := by rw [← hm]; exact (List.getElem?_eq_some_iff.1 hi).1
    rw [← hobj']
    simp only [applyO,newO_get]
    rcases Nat.lt_or_ge i ρ.length with h1 | h1
    · have hρi := List.getElem?_eq_getElem h1
      rw [piOf_old hρi]
      have hupd := ((updO_zip ρ (fobjs'.map (rnO (piOf ρ base))) (updO (if tmp then [] else frzs obj Z) obj) ρ[i] hn (by simp; omega)).1 i hρi)
      obtain ⟨ob', k1, k2⟩ := hupd
      rw [List.getElem?_map, hi] at k1
      simp only [Option.map_some,Option.some.injEq] at k1
      subst k1
      rw [updO_append, k2]
      split
      · rename_i hb
        split
        · rename_i ob2 hob2
          obtain ⟨ob3, k3⟩ := hρlive hρi
          have hlt : ρ[i] - base < m - ρ.length := by
            have := (List.getElem?_eq_some_iff.1 hob2).1
            simp at this; omega
          have := hfree _ hlt
          rw [show base + (ρ[i] - base) = ρ[i] by omega, k3] at this
          cases this
        · rfl
      · rfl
    · rw [piOf_new h1, if_pos (by omega)]
      have : base + (i - ρ.length) - base = i - ρ.length := by omega
      rw [this, List.getElem?_map, List.getElem?_drop, show ρ.length + (i - ρ.length) = i by omega, hi]
      rfl
  have hZobj : ∀ {o : Nat}, o ∉ ρ → updO ((ρ.zip (fobjs'.map (rnO (piOf ρ base)))) ++ (if tmp then [] else frzs obj Z)) obj o = updO (if tmp then [] else frzs obj Z) obj o := fun h => by
    rw [updO_append]
    exact (updO_zip ρ _ _ _ hn (by simp; omega)).2 h
  have hnoidx : ∀ o, idx o = none → o ∉ ρ ∧ obj' o = updO (if tmp then [] else frzs obj Z) obj o := by
    intro o hx
    have hno : ∀ i, i < m → piOf ρ base i ≠ o := fun i hi h => by rw [← h, hidx i hi] at hx; cases hx
    have hρ : o ∉ ρ := fun h => by
      obtain ⟨i, hi, he⟩ := List.mem_iff_getElem.1 h
      exact hno i (by omega) (by rw [piOf_old (List.getElem?_eq_getElem hi)]; exact he)
    refine ⟨hρ, ?_⟩
    rw [← hobj']
    simp only [applyO,newO_get]
    split
    · rename_i hb
      split
      · rename_i ob hob
        have hlt := (List.getElem?_eq_some_iff.1 hob).1
        simp at hlt
        exact absurd (by rw [piOf_new (by omega)]; omega) (hno (ρ.length + (o - base)) (by omega))
      · exact hZobj hρ
    · exact hZobj hρ
  -- what is owned
  have hown2 : ∀ o b, (obj' o).own ι' o b → (∃ i, i < m ∧ piOf ρ base i = o ∧ (objL (fobjs'.map some) i).own ι2 i b) ∨ (idx o = none ∧ obj' o = obj o ∧ (obj o).own ι o b ∧ (tmp = false → o ∉ Z)) := by
    intro o b h
    cases hx : idx o with
    | some i =>
      obtain ⟨hi, hpi⟩ := hidx' o i hx
      left
      refine ⟨i, hi, hpi, ?_⟩
      have hget := List.getElem?_eq_getElem (l := fobjs') (i := i) (by omega)
      rw [objL_map, hget]
      rw [← hpi, hob1 i _ hget] at h
      have : ∀ ob : LObj, (OSt.live (rnO (piOf ρ base) ob)).own ι' (piOf ρ base i) b → (OSt.live ob).own ι2 i b := fun ob h => by
        cases ob <;> (simp [OSt.own,LObj.own,rnO,hι' i _ hi] at h ⊢; try exact h)
      exact this _ h
    | none =>
      right
      obtain ⟨hρ, hob⟩ := hnoidx o hx
      have hk : ∀ n, ι' o n = ι o n := fun n => hι0 o n hx
      by_cases ht : tmp = true
      · rw [if_pos ht] at hob
        simp only [updO] at hob
        rw [hob] at h
        exact ⟨rfl, hob, (OSt.own_keep hk).1 h, fun hf => by rw [ht] at hf; cases hf⟩
      · rw [if_neg ht] at hob
        by_cases hd : o ∈ Z ∧ ∃ et e rows, obj o = .live (.dat et e rows)
        · obtain ⟨hZ, et, e, rows, hd⟩ := hd
          rw [(updO_frzs obj Z obj o).1 hZ et e rows hd] at hob
          rw [hob] at h
          exact h.elim
        · have hob' : obj' o = obj o := by
            rw [hob]
            refine (updO_frzs obj Z obj o).2 ?_
            rcases Classical.em (o ∈ Z) with hZ | hZ
            · exact .inr (fun et e rows hh => hd ⟨hZ, et, e, rows, hh⟩)
            · exact .inl hZ
          rw [hob'] at h
          refine ⟨rfl, hob', (OSt.own_keep hk).1 h, fun _ hZ => ?_⟩
          obtain ⟨et, e, rows, hh | hh⟩ := hZd o hZ
          · exact hd ⟨hZ, et, e, rows, hh⟩
          · rw [hh] at h; exact h
  have hlt : ∀ o b, (obj o).own ι o b → b < w.heap.size := fun o b h => S.own_lt ⟨o, h⟩
  have hcallee : ∀ i b, (objL (fobjs'.map some) i).own ι2 i b → (∃ o, o ∈ ρ ∧ (obj o).own ι o b) ∨ w.heap.size ≤ b := fun i b h => (E2.own b ⟨i, h⟩).imp (hownFle b) id
  have hρidx : ∀ o, o ∈ ρ → idx o ≠ none := fun o ho' hx => (hnoidx o hx).1 ho'
  have S' : Store G J' w' ι' obj' := by
    refine ⟨fun o => ?_, ?_, ?_, ?_, ?_⟩
    · cases hx : idx o with
      | some i =>
        obtain ⟨hi, hpi⟩ := hidx' o i hx
        have hget := List.getElem?_eq_getElem (l := fobjs') (i := i) (by omega)
        have h2 := S2.rep i
        rw [objL_map, hget] at h2
        rw [← hpi, hob1 i _ hget]
        have htf : tmp ≠ true := fun ht => by
          have := (htmp ht).2.1
          rw [this] at hm; simp at hm; omega
        have hJ2 : ∀ b, J2 b → J' b := fun b hb => by simp only [J']; rw [if_neg htf]; exact hb
        generalize fobjs'[i] = ob at h2 ⊢
        cases ob with
        | box et cells =>
          obtain ⟨⟨b, C, h3, h4, h5⟩, _⟩ := h2
          exact ⟨⟨b, C, by rw [hι' i 0 hi]; exact h3, h4, RepC.mono hJ2 (fun _ _ => rfl) (fun _ _ _ h => h) (fun _ _ => rfl) _ _ (RepC.unrn hun _ _ h5)⟩, trivial⟩
        | mp es =>
          obtain ⟨⟨b, C, c, h3, h4, h5⟩, _⟩ := h2
          exact ⟨⟨b, C, c, by rw [hι' i 0 hi]; exact h3, h4, RepM.mono hJ2 (fun _ _ => rfl) (fun _ _ _ h => h) (fun _ _ => rfl) _ _ (RepM.unrn hun _ _ h5)⟩, trivial⟩
        | dat et e rows =>
          obtain ⟨⟨h3, h4⟩, h5⟩ := h2
          refine ⟨⟨by rw [hι' i _ hi]; exact h3, fun b hb => ?_⟩, fun n hn' => by rw [hι' i n hi]; exact h5 n hn'⟩
          rw [hι' i _ hi] at hb
          obtain ⟨h6, h7⟩ := h4 b hb
          exact ⟨h6, RowsD.mono hJ2 (fun _ _ => rfl) _ _ _ _ rfl h7⟩
        | frz et e rows =>
          obtain ⟨⟨h3, h4⟩, h5⟩ := h2
          refine ⟨⟨by rw [hι' i _ hi]; exact h3, fun b hb => ?_⟩, trivial⟩
          rw [hι' i _ hi] at hb
          obtain ⟨h6, h7⟩ := h4 b hb
          exact ⟨hJ2 b h6, RowsD.mono hJ2 (fun _ _ => rfl) _ _ _ _ rfl h7⟩
      | none =>
        obtain ⟨hρ, hob⟩ := hnoidx o hx
        have hk : ∀ n, ι' o n = ι o n := fun n => hι0 o n hx
        have hblk : ∀ b, (obj o).own ι o b → w'.heap[b]? = w.heap[b]? := fun b hb => E2.ev.same b (hlt o b hb) (fun h => by
          obtain ⟨o', h1, h2⟩ := hownFle b h
          have := S.inj o o' b hb h2
          subst this; exact hρ h1)
        have keep := OStRep.keep S E hk hblk
        by_cases ht : tmp = true
        · rw [if_pos ht] at hob
          simp only [updO] at hob
          rw [hob]; exact keep
        · rw [if_neg ht] at hob
          by_cases hZ : o ∈ Z
          · obtain ⟨et, e, rows, hd | hd⟩ := hZd o hZ
            rotate_left 1
            · rw [(updO_frzs obj Z obj o).2 (.inr (fun _ _ _ hh => by rw [hd] at hh; cases hh))] at hob
              rw [hob]; exact keep
            rw [(updO_frzs obj Z obj o).1 hZ et e rows hd] at hob
            rw [hob]
            rw [hd] at keep
            obtain ⟨⟨h1, h2⟩, _⟩ := keep
            refine ⟨⟨h1, fun b hb => ?_⟩, trivial⟩
            obtain ⟨_, h3⟩ := h2 b hb
            refine ⟨?_, h3⟩
            simp only [J']; rw [if_neg ht]
            refine E2.ev.jmono b (.inr ⟨o, hZ, ?_⟩)
            rw [hd]
            rw [hk] at hb; exact hb
          · rw [(updO_frzs obj Z obj o).2 (.inl hZ)] at hob
            rw [hob]; exact keep
    · intro o o' b h h'
      rcases hown2 o b h with ⟨i, hi, hpi, k⟩ | ⟨hx, _, k, _⟩ <;> rcases hown2 o' b h' with ⟨i', hi', hpi', k'⟩ | ⟨hx', _, k', _⟩
      · rw [← hpi, ← hpi', S2.inj i i' b k k']
      · rcases hcallee i b k with ⟨o2, h1, h2⟩ | h1
        · have := S.inj _ _ _ h2 k'
          subst this
          exact absurd hx' (hρidx _ h1)
        · have := hlt _ _ k'; omega
      · rcases hcallee i' b k' with ⟨o2, h1, h2⟩ | h1
        · have := S.inj _ _ _ h2 k
          subst this
          exact absurd hx (hρidx _ h1)
        · have := hlt _ _ k; omega
      · exact S.inj _ _ _ k k'
    · intro o b h hJb
      rcases hown2 o b h with ⟨i, hi, hpi, k⟩ | ⟨hx, _, k, hZ⟩
      · have htf : tmp ≠ true := fun ht => by
          have := (htmp ht).2.1
          rw [this] at hm; simp at hm; omega
        simp only [J'] at hJb
        rw [if_neg htf] at hJb
        exact S2.disj i b k hJb
      · simp only [J'] at hJb
        split at hJb
        · exact S.disj o b k hJb
        · rename_i htf
          rcases E2.ev.jnew b hJb with (h1 | ⟨z, hz1, hz2⟩) | h1 | h1
          · exact S.disj o b k h1
          · have := S.inj _ _ _ k hz2
            subst this
            exact hZ (by simpa using htf) hz1
          · have := hlt _ _ k; omega
          · obtain ⟨o2, h3, h4⟩ := hownFle b h1
            have := S.inj _ _ _ k h4
            subst this
            exact hρidx _ h3 hx
    · intro b hb
      simp only [J'] at hb
      split at hb
      · rw [S.same E b hb]; exact S.jcell b hb
      · exact S2.jcell b hb
    · intro g row hg
      obtain ⟨h1, h2, t, h3⟩ := S.glob g row hg
      exact ⟨hJJ' g h1, h2.ev S E h1, t, by rw [E.shape g (S.jlt g h1)]; exact h3⟩
  refine ⟨J', ι', S', ?_, E, ?_⟩
  · have h1 := Rep.unrn hun r v hr
    by_cases ht : tmp = true
    · have hnr : noJ (rn (piOf ρ base) r) = true := by
        have : ∀ (x : LV), noJ x = true → noJ (rn (piOf ρ base) x) = true := by
          intro x
          exact (noJ_rn (piOf ρ base)).1 x
        exact this r (htmp ht).1
      exact Rep.noJ trivial _ _ hnr h1
    · have : J' = J2 := by funext b; simp only [J']; rw [if_neg ht]
      rw [this]; exact h1
  · rintro b ⟨o, h⟩
    rcases hown2 o b h with ⟨i, hi, hpi, k⟩ | ⟨hx, _, k, _⟩
    · rcases hcallee i b k with ⟨o2, h1, h2⟩ | h1
      · exact .inl ⟨o2, h2⟩
      · exact .inr h1
    · exact .inl ⟨o, k⟩
end
end Dv
