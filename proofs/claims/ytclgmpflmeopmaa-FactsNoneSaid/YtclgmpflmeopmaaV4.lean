/- The logical machine: part V4. -/
import Derived.Test.YtclgmpflmeopmaaV3
set_option linter.unusedVariables false
set_option linter.unusedSimpArgs false
namespace Dv
open Go

/-! ## From the model's operations -/
def liftD : Value → Option DV
  | .agg cs => if cs.all (·.oneCell') then some (.agg (cs.toList.map .val)) else none
  | v => some (.val v)

def convOpd : Operand → Option Opd
  | .tmp t => some (.t t)
  | .const v => match liftD v with
    | some x => some (.c x)
    | none => none
  | .global g => some (.g g)
  | .func f => some (.f f)

def convOpds : List Operand → Option (List Opd)
  | [] => some []
  | x :: xs => match convOpd x, convOpds xs with
    | some x, some xs => some (x :: xs)
    | _, _ => none

def convOpdO : Option Operand → Option (Option Opd)
  | none => some none
  | some x => match convOpd x with
    | some y => some (some y)
    | none => none

/-- A nil that is written out. -/
def nilP : Operand → Bool
  | .const (.pointer none) => true
  | _ => false
def nilS : Operand → Bool
  | .const (.slice none 0 0) => true
  | _ => false

def sizeT (P : Program) (t : TypeId) : Option Nat := match P.info? t with
  | some i => some i.size
  | none => none

def aggT (P : Program) (t : TypeId) : Option Bool := match P.underlying t with
  | some (.struct _) => some true
  | some (.array _ _) => some true
  | some _ => some false
  | none => none

def zeroT (P : Program) (t : TypeId) : Option (List DV) := match P.info? t with
  | some i => match i.zero with
    | some z => if z.cells.all (·.oneCell') then some (z.cells.toList.map .val) else none
    | none => none
  | none => none

/-- A struct's or an array's parts: where they lie, how great they are. -/
def placesT (P : Program) (fs : Array Field) : List (Nat × Operand) → Option (List (Nat × Nat × Opd))
  | [] => some []
  | (i, x) :: rest => match fs[i]?, convOpd x, placesT P fs rest with
    | some f, some x, some r => match sizeT P f.type with
      | some n => some ((f.offset, n, x) :: r)
      | none => none
    | _, _, _ => none

def elemT (P : Program) (t : TypeId) : Option (Nat × Nat) := match P.info? t with
  | some i => match i.zero with
    | some z => if z.cells.size = i.size ∧ 0 < i.bytes ∧ 0 < i.size then some (i.size, i.bytes) else none
    | none => none
  | none => none

def srcT (P : Program) (t : TypeId) : Bool := match P.underlying t with
  | some (.slice _) => true
  | some .string => true
  | _ => false

def kindT (P : Program) (t : TypeId) : Option Nat := match P.underlying t with
  | some (.int _) => some 0
  | some .bool => some 1
  | some .string => some 2
  | _ => none
def kindsT (P : Program) : Nat → List Field → Option (List Nat)
  | _, [] => some []
  | i, f :: fs => match kindT P f.type, kindsT P (i + 1) fs with
    | some k, some ks => if f.offset = i ∧ f.name ≠ "_" then some (k :: ks) else none
    | _, _ => none
/-- The kinds of a struct's cells, if it may be compared cell by cell. -/
def eqT (P : Program) (t : TypeId) : Option (List Nat) := match P.underlying t with
  | some (.struct fs) => if P.stoodInHeld t = false ∧ P.eqGuardType P.depth t = false then kindsT P 0 fs.toList else none
  | _ => none

def fieldsOk (P : Program) (fs : Array Field) : Bool := fs.toList.all fun f => (sizeT P f.type).isSome

/-- An array's parts. -/
def placesA (n : Nat) : List (Nat × Operand) → Option (List (Nat × Nat × Opd))
  | [] => some []
  | (i, x) :: rest => match convOpd x, placesA n rest with
    | some x, some r => some ((i * n, n, x) :: r)
    | _, _ => none

def convI (P : Program) : Op → Option I
  | .move x => match convOpd x with | some x => some (.mv x) | none => none
  | .assign x => match convOpd x with | some x => some (.mv x) | none => none
  | .pick c a b => match convOpd c, convOpd a, convOpd b with | some c, some a, some b => some (.pick c a b) | _, _, _ => none
  | .alloc T => match zeroT P T with | some z => some (.new T z) | none => none
  | .box T x => match convOpd x with | some x => some (.box T x) | none => none
  | .load T x => match convOpd x, aggT P T, sizeT P T with
    | some x, some true, some n => some (.ldn n x)
    | some x, some false, some _ => some (.ld1 x)
    | _, _, _ => none
  | .store T x y => match convOpd x, convOpd y, sizeT P T with | some x, some y, some n => some (.st n x y) | _, _, _ => none
  | .nilCheck x => match convOpd x with | some x => some (.nck x) | none => none
  | .binOp op T X Y _ => match convOpd X, convOpd Y with
    | some x, some y => match P.underlying T, op with
      | some .bool, .eql => some (.eqb false x y)
      | some .bool, .neq => some (.eqb true x y)
      | some (.int _), op => some (.bin op x y)
      | some .string, op => some (.bin op x y)
      | some (.struct _), .eql => match eqT P T with | some ks => some (.eqs false ks x y) | none => none
      | some (.struct _), .neq => match eqT P T with | some ks => some (.eqs true ks x y) | none => none
      | some (.pointer _), .eql => if nilP Y then some (.isnp false x) else none
      | some (.pointer _), .neq => if nilP Y then some (.isnp true x) else none
      | some (.slice _), .eql => if nilS Y then some (.isns false x) else none
      | some (.slice _), .neq => if nilS Y then some (.isns true x) else none
      | _, _ => none
    | _, _ => none
  | .unOp .neg _ x => match convOpd x with | some x => some (.neg x) | none => none
  | .unOp .not _ x => match convOpd x with | some x => some (.not x) | none => none
  | .convert S T x => match convOpd x, P.underlying S, P.underlying T with | some x, some (.int _), some (.int k) => some (.cvt k x) | _, _, _ => none
  | .fieldAddr T x f => match convOpd x, P.underlying T with
    | some x, some (.struct fs) => match fs[f]? with
      | some f => match sizeT P f.type with
        | some (_ + 1) => some (.fad f.offset x)
        | _ => none
      | none => none
    | _, _ => none
  | .field T x f => match convOpd x, P.underlying T with
    | some x, some (.struct fs) => match fs[f]? with
      | some f => match aggT P f.type, sizeT P f.type with
        | some true, some n => some (.fldn f.offset n x)
        | some false, some _ => some (.fld1 f.offset x)
        | _, _ => none
      | none => none
    | _, _ => none
  | .indexAddr T x i => match convOpd x, convOpd i, P.underlying T with
    | some x, some i, some (.slice e) => match sizeT P e with | some n => some (.ixa n x i) | none => none
    | some x, some i, some (.array len e) => match sizeT P e with | some n => some (.ixr len n x i) | none => none
    | _, _, _ => none
  | .index T x i => match convOpd x, convOpd i, P.underlying T with
    | some x, some i, some (.array len e) => match aggT P e, sizeT P e with | some false, some 1 => some (.ix1 len x i) | some true, some n => some (.ixn len n x i) | _, _ => none
    | some x, some i, some .string => some (.ixs x i)
    | _, _, _ => none
  | .makeFunc f a b => match convOpds a.toList, convOpds b.toList with | some a, some b => some (.mkf f a b) | _, _ => none
  | .extract x i => match convOpd x with | some x => some (.ext x i) | none => none
  | .call ⟨.builtin .len, args, ts⟩ => match args.toList, ts[0]? with
    | [x], some T => match convOpd x, P.underlying T with
      | some x, some .string => some (.lens x)
      | some x, some (.slice _) => some (.len x)
      | _, _ => none
    | _, _ => none
  | .call ⟨.builtin .append, args, ts⟩ => match args.toList, ts.toList with
    | [x, y], [tx, ty] => match convOpd x, convOpd y, P.underlying tx, srcT P ty with
      | some x, some y, some (.slice e), true => match elemT P e with | some (n, b) => some (.app e n b x y) | none => none
      | _, _, _, _ => none
    | _, _ => none
  | .build T parts => match zeroT P T, P.underlying T with
    | some z, some (.struct fs) => if fieldsOk P fs then (match placesT P fs parts.toList with | some ps => some (.build z ps) | none => none) else none
    | some z, some (.array _ e) => match sizeT P e with
      | some n => match placesA n parts.toList with | some ps => some (.build z ps) | none => none
      | none => none
    | _, _ => none
  | .buildSlice T n parts => match P.underlying T with
    | some (.slice e) => match elemT P e, convOpds (parts.toList.map (·.2)) with
      | some (size, _), some xs => if n * size ≤ 16777216 ∧ parts.toList.map (·.1) = List.range n then some (.bsl e size xs) else none
      | _, _ => none
    | _ => none
  | .call ⟨.builtin .min, args, ts⟩ => match args.toList with
    | [x, y] => match convOpd x, convOpd y with | some x, some y => some (.min x y) | _, _ => none
    | _ => none
  | .slice T x lo hi mx => match convOpd x, convOpdO lo, convOpdO hi, convOpdO mx, P.underlying T with
    | some x, some lo', some hi', some mx', some (.slice e) => match sizeT P e with | some n => if mx.isNone || hi.isSome then some (.sli n x lo' hi' mx') else none | none => none
    | some x, some lo, some hi, some none, some .string => some (.sls x lo hi)
    | _, _, _, _, _ => none
  | .call ⟨.value f, args, ts⟩ => match convOpd f, convOpds args.toList with | some f, some args => some (.call f args) | _, _ => none
  | _ => none

/-! ## Running -/
def Goes (P : Program) (o : Oper) (a : Act) (w : World) (post : Value → World → Prop) : Prop :=
  ∀ next Q, (∀ v w', post v w' → next (a.put o.dst v) w') → o.wp P a w next Q

theorem Goes.of_run {P : Program} {o : Oper} {a : Act} {w w' : World} {v : Value} {post : Value → World → Prop} (h : (execOp a.eval o).run P w = .ok (.value v) w') (hp : post v w') : Goes P o a w post :=
  fun next Q hn => by unfold Oper.wp; rw [h]; exact hn v w' hp
theorem Goes.of_skip {P : Program} {o : Oper} {a : Act} {w w' : World} {post : Value → World → Prop} (h : (execOp a.eval o).run P w = .ok .skip w') (hp : post Go.undef w') : Goes P o a w post :=
  fun next Q hn => by unfold Oper.wp; rw [h]; exact hn _ w' hp

def updO : List (Nat × LObj) → (Nat → OSt) → Nat → OSt
  | [], obj => obj
  | (k, ob) :: r, obj => fun o => if o = k then .live ob else updO r obj o
def newO : Nat → List LObj → (Nat → OSt) → Nat → OSt
  | _, [], obj => obj
  | k, ob :: r, obj => fun o => if o = k then .live ob else newO (k + 1) r obj o
def applyO (obj : Nat → OSt) (base : Nat) (e : Eff) : Nat → OSt := newO base e.nw (updO e.wr obj)

/-- What is so behind an operation. -/
def After (G : Nat → Option (List DV)) (obj obj' : Nat → OSt) (J : Nat → Prop) (ι : Nat → Nat → Option Nat) (w : World) (r : LV) (v : Value) (w' : World) : Prop :=
  ∃ J' ι', Store G J' w' ι' obj' ∧ Rep J' w' ι' r v ∧ Ext obj obj' J J' ι ι' w w'

section
variable {P : Program} {G : Nat → Option (List DV)} {J : Nat → Prop} {w : World} {ι : Nat → Nat → Option Nat} {obj : Nat → OSt} {a : Act} {get : Nat → LV} {base : Nat}

theorem After.stay (S : Store G J w ι obj) {r : LV} {v : Value} (h : Rep J w ι r v) : After G obj obj J ι w r v w := ⟨J, ι, S, h, Ext.refl ..⟩

theorem liftD_rep {v : Value} {x : DV} (h : liftD v = some x) : RepD J w x v := by
  cases v <;> simp only [liftD] at h <;> first
    | (cases h; rfl; done)
    | skip
  split at h
  · rename_i cs hall
    cases h
    rw [Array.all_eq_true_iff_forall_mem] at hall
    refine ⟨cs, rfl, ?_, fun v hv => hall v (by simpa using hv)⟩
    have : ∀ l : List Value, RepDL J w (l.map .val) l := fun l => by
      induction l with
      | nil => trivial
      | cons y l ih => exact ⟨rfl, ih⟩
    exact this _
  · cases h

theorem rep_ev (S : Store G J w ι obj) (he : ∀ t, Rep J w ι (get t) (a.tmps.getD t Go.undef)) {x : Operand} {y : Opd} (h : convOpd x = some y) : Rep J w ι (y.ev G get) (a.eval x) := by
  cases x with
  | tmp t => cases h; exact he t
  | const v =>
    simp only [convOpd] at h
    split at h
    · rename_i x hx; cases h; exact liftD_rep hx
    · cases h
  | global g =>
    cases h
    simp only [Opd.ev, Act.eval]
    cases hg : G g with
    | none => trivial
    | some row => obtain ⟨h1, h2⟩ := S.glob g row hg; exact ⟨g, 0, h1, rfl, h2⟩
  | func f => cases h; exact ⟨#[], #[], rfl, trivial, trivial⟩

theorem rep_evs (S : Store G J w ι obj) (he : ∀ t, Rep J w ι (get t) (a.tmps.getD t Go.undef)) : ∀ {xs : List Operand} {ys : List Opd}, convOpds xs = some ys → RepL J w ι (ys.map (·.ev G get)) (xs.map a.eval)
  | [], ys, h => by cases h; trivial
  | x :: xs, ys, h => by
    simp only [convOpds] at h
    split at h
    · rename_i y ys' h1 h2; cases h; exact ⟨rep_ev S he h1, rep_evs S he h2⟩
    · cases h

theorem RepDL.mapC {cs : List DV} {vs : List Value} (h : RepDL J w cs vs) (k : ∀ v ∈ vs, v.oneCell' = true) : RepC J w ι (cs.map .d) vs := RepC.ofL h.toL k

theorem cells_rep {x : LV} {v : Value} {cs : List LV} (h : Rep J w ι x v) (hc : x.cells = some cs) : RepC J w ι cs v.cells.toList := by
  cases x with
  | top => cases hc
  | anyb => cases hc; obtain ⟨b, rfl⟩ := h; exact ⟨rfl, ⟨b, rfl⟩, trivial⟩
  | d x =>
    cases x with
    | val u =>
      simp only [LV.cells] at hc
      split at hc
      · rename_i h1
        cases hc
        have hv : v = u := h
        subst hv
        have : v.cells = #[v] := by cases v <;> first | rfl | (simp [Value.oneCell'] at h1; done)
        rw [this]
        exact ⟨h1, rfl, trivial⟩
      · cases hc
    | lst esz rows => cases hc; obtain ⟨a, n, cap, rfl, h⟩ := h; exact ⟨rfl, ⟨a, n, cap, rfl, h⟩, trivial⟩
    | fn f fs cs => cases hc; obtain ⟨f1, f2, rfl, h⟩ := h; exact ⟨rfl, ⟨f1, f2, rfl, h⟩, trivial⟩
    | ifc t y => cases hc; obtain ⟨z, rfl, h⟩ := h; exact ⟨rfl, ⟨z, rfl, h⟩, trivial⟩
    | agg ds =>
      simp only [LV.cells] at hc; cases hc
      obtain ⟨xs, rfl, h1, h2⟩ := h
      exact RepDL.mapC h1 h2
  | ptr o c => cases hc; obtain ⟨b, hb, rfl⟩ := h; exact ⟨rfl, ⟨b, hb, rfl⟩, trivial⟩
  | rp o n e r c => cases hc; obtain ⟨b, hb, rfl⟩ := h; exact ⟨rfl, ⟨b, hb, rfl⟩, trivial⟩
  | ip r c => cases hc; obtain ⟨b, off, hb, rfl, h⟩ := h; exact ⟨rfl, ⟨b, off, hb, rfl, h⟩, trivial⟩
  | sl o n e l k =>
    cases hc
    have h' := h
    rcases h with ⟨_, a, rfl⟩ | ⟨b, cap, et, C, _, rfl, _⟩
    · exact ⟨rfl, h', trivial⟩
    · exact ⟨rfl, h', trivial⟩
  | fn f fs cs => cases hc; obtain ⟨f1, f2, rfl, h⟩ := h; exact ⟨rfl, ⟨f1, f2, rfl, h⟩, trivial⟩
  | agg cs => cases hc; obtain ⟨xs, rfl, h⟩ := h; exact h
  | tup vs => cases hc
  | ifc t y => cases hc; obtain ⟨z, rfl, h⟩ := h; exact ⟨rfl, ⟨z, rfl, h⟩, trivial⟩

theorem info_of_sizeT {t : TypeId} {n : Nat} (h : sizeT P t = some n) : ∃ i, P.info? t = some i ∧ i.size = n := by
  unfold sizeT at h
  split at h
  · rename_i i hi; cases h; exact ⟨i, hi, rfl⟩
  · cases h

theorem zeroT_run {t : TypeId} {z : List DV} (h : zeroT P t = some z) : ∃ v : Value, (zeroValue t).run P w = .ok v w ∧ RepC J w ι (z.map .d) v.cells.toList := by
  unfold zeroT at h
  split at h
  · rename_i i hi
    split at h
    · rename_i v hv
      split at h
      · rename_i hall
        cases h
        refine ⟨v, by simp [zeroValue, typeInfo, hi, hv], RepDL.mapC ?_ ?_⟩
        · have : ∀ l : List Value, RepDL J w (l.map .val) l := fun l => by
            induction l with
            | nil => trivial
            | cons y l ih => exact ⟨rfl, ih⟩
          exact this _
        · rw [Array.all_eq_true_iff_forall_mem] at hall
          exact fun v hv => hall v (by simpa using hv)
      · cases h
    · cases h
  · cases h

theorem aggT_run {t : TypeId} {b : Bool} (h : aggT P t = some b) : (isAgg t).run P w = .ok b w := by
  unfold aggT at h
  unfold isAgg
  cases hu : P.underlying t with
  | none => simp [hu] at h
  | some d =>
    rw [Sem.run_bind, run_underlying hu w]
    rw [hu] at h
    cases d <;> first | (cases h; rfl)

/-- A new box. -/
theorem After.box (S : Store G J w ι obj) (hb : obj base = .free) (et : TypeId) (cells : List LV) (C : Array Value) (h : RepC J w ι cells C.toList) :
    After G obj (fun o => if o = base then .live (.box et cells) else obj o) J ι w (.ptr base 0) (.pointer (some ⟨w.heap.size, 0, none⟩)) (w.alloc (.cells C et)) := by
  have hfree : ∀ n, ι base n = none := by have := S.rep base; rw [hb] at this; exact this
  let ι' : Nat → Nat → Option Nat := fun o n => if o = base then (if n = 0 then some w.heap.size else none) else ι o n
  have hi : ∀ o n b, ι o n = some b → ι' o n = some b := fun o n b hob => by
    by_cases ho : o = base
    · subst ho; rw [hfree] at hob; cases hob
    · simp only [ι', if_neg ho]; exact hob
  have E : Ev (Own ι obj) J J ι ι' w (w.alloc (.cells C et)) := Ev.alloc _ _ w w.drawn _ hi
  have hT := Store.turn S base (.live (.box et cells)) E (fun o ho n => by simp only [ι', if_neg ho]) (fun b hlt _ => heap_alloc_old' w _ b hlt)
    ⟨⟨w.heap.size, C, by simp [ι'], heap_alloc_new' w _, h.ev S E⟩, trivial⟩ (fun b hob => by
      have : ι' base 0 = some b := hob
      simp [ι'] at this; exact .inr (by omega))
  exact ⟨J, ι', hT.1, ⟨w.heap.size, by simp [ι'], rfl⟩, hT.2⟩

/-- A new row of data. -/
theorem After.dat (S : Store G J w ι obj) (hb : obj base = .free) (et : TypeId) (esz : Nat) (rows : List (List DV)) (C : Array Value) (n : Nat) (cap : Nat) (hcap : rows.length ≤ cap) (hC : cap * esz ≤ C.size)
    (h : ∀ ι' : Nat → Nat → Option Nat, Ev (Own ι obj) J J ι ι' w ({ w with drawn := n }.alloc (.cells C et)) → RowsD J ({ w with drawn := n }.alloc (.cells C et)) esz rows w.heap.size 0) :
    After G obj (fun o => if o = base then .live (.dat et esz rows) else obj o) J ι w (.sl base rows.length esz 0 rows.length) (.slice (some ⟨w.heap.size, 0, none⟩) rows.length cap) ({ w with drawn := n }.alloc (.cells C et)) := by
  have hfree : ∀ n, ι base n = none := by have := S.rep base; rw [hb] at this; exact this
  let ι' : Nat → Nat → Option Nat := fun o n => if o = base then (if n = rows.length then some w.heap.size else none) else ι o n
  have hi : ∀ o n b, ι o n = some b → ι' o n = some b := fun o n b hob => by
    by_cases ho : o = base
    · subst ho; rw [hfree] at hob; cases hob
    · simp only [ι', if_neg ho]; exact hob
  have E : Ev (Own ι obj) J J ι ι' w ({ w with drawn := n }.alloc (.cells C et)) := Ev.alloc _ _ w n _ hi
  have hnew : ({ w with drawn := n }.alloc (.cells C et)).heap[w.heap.size]? = some (.cells C et (0, 0)) := heap_alloc_new' { w with drawn := n } _
  have hT := Store.turn S base (.live (.dat et esz rows)) E (fun o ho n => by simp only [ι', if_neg ho]) (fun b hlt _ => heap_alloc_old' { w with drawn := n } _ b hlt)
    ⟨⟨.inr (by simp [ι']), fun b hob => by
        simp [ι'] at hob; subst hob
        exact ⟨⟨C, hnew⟩, h ι' E⟩⟩, fun m hm => by simp only [ι', if_true]; rw [if_neg (by omega)]⟩
    (fun b hob => by
      have : ι' base rows.length = some b := hob
      simp [ι'] at this; exact .inr (by omega))
  refine ⟨J, ι', hT.1, .inr ⟨w.heap.size, cap, et, C.size, by simp [ι'], by simp, hcap, ?_, by simpa using hC⟩, hT.2⟩
  simp only [World.shape?, hnew]

/-- Cells set in a box. -/
theorem After.setBox (S : Store G J w ι obj) {o : Nat} {et : TypeId} {cells cs : List LV} {vs : List Value} {col : Nat} (ho : obj o = .live (.box et cells)) (h : RepC J w ι cs vs) (hl : col + cs.length ≤ cells.length) :
    ∃ b, ι o 0 = some b ∧ w.there b col vs.length ∧ After G obj (fun k => if k = o then .live (.box et (splice cells col cs)) else obj k) J ι w .undef Go.undef (w.setCells b col vs) := by
  have h0 := S.rep o
  rw [ho] at h0
  obtain ⟨⟨b, C, h1, h2, h3⟩, _⟩ := h0
  have hlen : C.size = cells.length := by rw [h3.length]; simp
  have hown : Own ι obj b := ⟨o, by rw [ho]; exact h1⟩
  have E : Ev (Own ι obj) J J ι ι w (w.setCells b col vs) := Ev.setCells J w b col vs hown (fun _ _ _ h => h)
  obtain ⟨C', k1, k2⟩ := heap_setCells vs col w C h2 (by rw [← h.length]; omega)
  refine ⟨b, h1, fun j hj => ?_, ?_⟩
  · have : col + j < C.size := by rw [← h.length] at hj; omega
    simp [World.cell?, World.frozen?, h2, this]
  · have hT := Store.turn S o (.live (.box et (splice cells col cs))) E (fun _ _ _ => rfl) (fun k hk hn => heap_setCells_other (fun e => hn (by rw [ho, e]; exact h1)) vs col w)
      ⟨⟨b, C', h1, k1, by rw [k2]; exact (h3.splice col h).ev S E⟩, trivial⟩ (fun k hk => .inl (by rw [ho]; exact hk))
    exact ⟨J, ι, hT.1, rfl, hT.2⟩

/-- A row set in data. -/
theorem After.setDat (S : Store G J w ι obj) {o : Nat} {et : TypeId} {esz : Nat} {rows : List (List DV)} {row col : Nat} {r ds : List DV} {vs : List Value} (ho : obj o = .live (.dat et esz rows)) (hr : rows[row]? = some r)
    (h : RepDL J w ds vs) (h1' : ∀ v ∈ vs, v.oneCell' = true) (hl : col + ds.length ≤ r.length) :
    ∃ b, ι o rows.length = some b ∧ w.there b (row * esz + col) vs.length ∧
      After G obj (fun k => if k = o then .live (.dat et esz (rows.set row (splice r col ds))) else obj k) J ι w .undef Go.undef (w.setCells b (row * esz + col) vs) := by
  have h0 := S.rep o
  rw [ho] at h0
  obtain ⟨⟨hsome, hdat⟩, hkey⟩ := h0
  have hne : rows ≠ [] := by intro e; rw [e] at hr; simp at hr
  obtain ⟨b, h1⟩ := Option.isSome_iff_exists.1 (hsome.resolve_left hne)
  obtain ⟨⟨C, h2⟩, h3⟩ := hdat b h1
  have hown : Own ι obj b := ⟨o, by rw [ho]; exact h1⟩
  have E : Ev (Own ι obj) J J ι ι w (w.setCells b (row * esz + col) vs) := Ev.setCells J w b _ vs hown (fun _ _ _ h => h)
  obtain ⟨hrl, hrow⟩ := h3.get hr
  simp only [Nat.zero_add] at hrow
  have hcell : ∀ j, j < r.length → (w.cell? ⟨b, row * esz + j, none⟩).isSome = true := fun j hj => by
    obtain ⟨v, hv, _⟩ := hrow.get (List.getElem?_eq_getElem hj)
    rw [hv]; rfl
  have hthere : w.there b (row * esz + col) vs.length := fun j hj => by
    rw [← h.length] at hj
    have := hcell (col + j) (by omega)
    rw [← Nat.add_assoc] at this
    refine ⟨this, ?_⟩
    simp [World.frozen?, h2]
  have hout : ∀ x : Addr, x.block = b → (x.off < row * esz + col ∨ row * esz + col + vs.length ≤ x.off) → (w.setCells b (row * esz + col) vs).cell? x = w.cell? x := fun x hx hj =>
    World.cell?_setCells_out b vs _ w x (fun _ _ => hj)
  have hin := World.rangeAt_setCells_same w b (row * esz + col) vs hthere
  -- the rows behind
  have hJsame : ∀ k, J k → (w.setCells b (row * esz + col) vs).heap[k]? = w.heap[k]? := S.same E
  have hrows : RowsD J (w.setCells b (row * esz + col) vs) esz (rows.set row (splice r col ds)) b 0 := by
    refine RowsD.of (fun i x hx => ?_)
    simp only [Nat.zero_add]
    by_cases hi : i = row
    · subst hi
      have hilt : i < rows.length := (List.getElem?_eq_some_iff.1 hr).1
      rw [List.getElem?_set_self hilt] at hx
      cases hx
      refine ⟨by rw [splice_length _ _ _ (by omega)]; exact hrl, ?_⟩
      obtain ⟨us, u1, u2, u3⟩ := hrow.vals
      have hus : us.length = r.length := u1.length.symm
      refine RowD.of (vs := splice us col vs) ?_ ?_ ?_
      · have e1 : RepC J w ι (splice (r.map .d) col (ds.map .d)) (splice us col vs) := RepC.splice col (RepDL.mapC u1 u2) (RepDL.mapC h h1')
        have e2 : splice (r.map LV.d) col (ds.map LV.d) = (splice r col ds).map .d := by simp [splice]
        rw [e2] at e1
        have e3 := (e1.ev S E).toL
        have : ∀ (xs : List DV) (vs : List Value), RepL J (w.setCells b (i * esz + col) (vs : List Value)) ι (xs.map .d) vs → True := fun _ _ _ => trivial
        clear this
        have back : ∀ {w0 : World} (xs : List DV) (ys : List Value), RepL J w0 ι (xs.map .d) ys → RepDL J w0 xs ys := fun {w0} xs => by
          induction xs with
          | nil => intro ys h; cases ys with
            | nil => trivial
            | cons _ _ => exact h.elim
          | cons x xs ih => intro ys h; cases ys with
            | nil => exact h.elim
            | cons y ys => exact ⟨h.1, ih ys h.2⟩
        exact back _ _ e3
      · intro v hv
        have e1 : RepC J w ι (splice (r.map .d) col (ds.map .d)) (splice us col vs) := RepC.splice col (RepDL.mapC u1 u2) (RepDL.mapC h h1')
        exact e1.one v hv
      · intro j v hv
        have hvl : vs.length = ds.length := h.length.symm
        by_cases hj1 : j < col
        · rw [hout _ rfl (.inl (by show i * esz + j < _; omega))]
          refine u3 j v ?_
          rw [← hv]
          simp only [splice, List.append_assoc]
          rw [List.getElem?_append_left (by simp; omega), List.getElem?_take_of_lt hj1]
        · by_cases hj2 : j < col + vs.length
          · have := hin (j - col) v (by
              rw [← hv]
              simp only [splice]
              rw [List.getElem?_append_left (by simp; omega), List.getElem?_append_right (by simp; omega)]
              congr 1; simp; omega)
            rwa [show i * esz + col + (j - col) = i * esz + j by omega] at this
          · rw [hout _ rfl (.inr (by show _ ≤ i * esz + j; omega))]
            refine u3 j v ?_
            rw [← hv]
            simp only [splice]
            rw [List.getElem?_append_right (by simp; omega), List.getElem?_drop]
            congr 1; simp; omega
    · rw [List.getElem?_set_ne (fun e => hi e.symm)] at hx
      obtain ⟨k1, k2⟩ := h3.get hx
      refine ⟨k1, ?_⟩
      simp only [Nat.zero_add] at k2
      obtain ⟨us, u1, u2, u3⟩ := k2.vals
      have hvl : vs.length = ds.length := h.length.symm
      refine RowD.of (vs := us) (RepDL.mono (fun _ h => h) hJsame _ _ u1) u2 (fun j v hv => ?_)
      have hj : j < us.length := (List.getElem?_eq_some_iff.1 hv).1
      rw [← u1.length, k1] at hj
      rw [hout _ rfl ?_]
      · exact u3 j v hv
      · show i * esz + j < _ ∨ _ ≤ i * esz + j
        rcases Nat.lt_or_gt_of_ne hi with hlt | hgt
        · left
          have : (i + 1) * esz ≤ row * esz := Nat.mul_le_mul_right _ hlt
          rw [Nat.add_mul] at this; omega
        · right
          have : (row + 1) * esz ≤ i * esz := Nat.mul_le_mul_right _ hgt
          rw [Nat.add_mul] at this; omega
  obtain ⟨C', k1, k2⟩ : ∃ C', (w.setCells b (row * esz + col) vs).heap[b]? = some (.cells C' et (0, 0)) ∧ True := by
    have hs : row * esz + col + vs.length ≤ C.size ∨ vs.length = 0 := by
      rcases Nat.eq_zero_or_pos vs.length with hz | hz
      · exact .inr hz
      · left
        have := (hthere (vs.length - 1) (by omega)).1
        simp only [World.cell?, h2] at this
        simp at this
        omega
    rcases hs with hs | hs
    · obtain ⟨C', k1, _⟩ := heap_setCells vs _ w C h2 hs; exact ⟨C', k1, trivial⟩
    · have : vs = [] := by simpa using hs
      subst this; exact ⟨C, h2, trivial⟩
  refine ⟨b, h1, hthere, ?_⟩
  have hT := Store.turn S o (.live (.dat et esz (rows.set row (splice r col ds)))) E (fun _ _ _ => rfl) (fun k hk hn => heap_setCells_other (fun e => hn (by rw [ho, e]; exact h1)) vs _ w)
    ⟨⟨.inr (by simp [h1]), fun k hk => by
        rw [List.length_set, h1] at hk; cases hk
        exact ⟨⟨C', k1⟩, hrows⟩⟩, fun n hn => by rw [List.length_set] at hn; exact hkey n hn⟩
    (fun k hk => .inl (by
      rw [ho]
      simp only [OSt.own, LObj.own, List.length_set] at hk ⊢
      exact hk))
  exact ⟨J, ι, hT.1, rfl, hT.2⟩
end
end Dv
