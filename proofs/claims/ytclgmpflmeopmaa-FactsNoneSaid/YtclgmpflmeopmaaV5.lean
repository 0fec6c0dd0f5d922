/- The logical machine: part V5. -/
import Derived.Test.YtclgmpflmeopmaaV4
set_option linter.unusedVariables false
set_option linter.unusedSimpArgs false
namespace Dv
open Go

section
variable {P : Program} {G : Nat → Option (List DV)} {J : Nat → Prop} {w w' : World} {ι : Nat → Nat → Option Nat} {obj : Nat → OSt} {a : Act} {get : Nat → LV} {base : Nat}

theorem RepDL.append : ∀ {xs ys : List DV} {vs us : List Value}, RepDL J w xs vs → RepDL J w ys us → RepDL J w (xs ++ ys) (vs ++ us)
  | [], ys, [], us, _, h => h
  | x :: xs, ys, v :: vs, us, h, k => ⟨h.1, RepDL.append h.2 k⟩
  | [], _, _ :: _, _, h, _ => h.elim
  | _ :: _, _, [], _, h, _ => h.elim

theorem RowsD.rowLen {b esz : Nat} : ∀ {rs : List (List DV)} {off : Nat}, RowsD J w esz rs b off → ∀ r ∈ rs, r.length = esz
  | [], _, _, r, h => by cases h
  | x :: xs, off, h, r, hr => by
    rcases List.mem_cons.1 hr with rfl | hr
    · exact h.1
    · exact RowsD.rowLen h.2.2 r hr

/-- Rows in a block whose first cells are known. -/
theorem RowsD.ofBlock {rows : List (List DV)} {esz b : Nat} {vs : List Value} {C : Array Value} {et : TypeId} {fr : Nat × Nat} (h : RepDL J w rows.flatten vs) (h1 : ∀ v ∈ vs, v.oneCell' = true) (hl : ∀ r ∈ rows, r.length = esz)
    (hb : w.heap[b]? = some (.cells C et fr)) (hC : ∀ (j : Nat) (v : Value), vs[j]? = some v → C[j]? = some v) : RowsD J w esz rows b 0 := by
  refine RowsD.unflat hl (RowD.of h h1 (fun j v hv => ?_))
  rw [Nat.zero_add, cell_of_row w b j C et fr hb]
  exact hC j v hv

theorem flatten_len {rows : List (List DV)} {esz : Nat} (hl : ∀ r ∈ rows, r.length = esz) : rows.flatten.length = rows.length * esz := by
  induction rows with
  | nil => simp
  | cons r rs ih =>
    simp only [List.flatten_cons, List.length_append, List.length_cons, Nat.add_mul]
    rw [ih (fun x hx => hl x (by simp [hx])), hl r (by simp)]; omega

/-- What the source of an append yields. -/
theorem src_sound (S : Store G J w ι obj) {esz : Nat} {y : LV} {v : Value} {new : List (List DV)} {rd : List Nat} {tx : TypeId} (hk : (∃ e', P.underlying tx = some (.slice e')) ∨ P.underlying tx = some .string)
    (h : srcRows obj esz y = some (new, rd)) (hy : Rep J w ι y v) :
    ∃ news, Src P esz tx v new.length news w ∧ RepDL J w new.flatten news ∧ (∀ r ∈ new, r.length = esz) := by
  have ofRows : ∀ (b off n cap : Nat), n = new.length → RowsD J w esz new b off → ∃ news, Src P esz tx (.slice (some ⟨b, off, none⟩) n cap) new.length news w ∧ RepDL J w new.flatten news ∧ (∀ r ∈ new, r.length = esz) := by
    intro b off n cap hn hr
    subst hn
    obtain ⟨k1, k2⟩ := hr.flat
    obtain ⟨vs, v1, v2, v3⟩ := k1.vals
    have hcell : ∀ j u, vs[j]? = some u → w.cell? ((⟨b, off, none⟩ : Addr).add j) = some u := fun j u hu => by rw [Addr.add_mid]; exact v3 j u hu
    have hlen : vs.length = new.length * esz := by rw [← v1.length, k2]
    exact ⟨vs, ⟨hk, fun _ => rfl, run_firstCells_some w esz _ _ _ cap vs hlen hcell, run_firstCells_some w.drew esz _ _ _ cap vs hlen (by simpa using hcell), hlen, v2⟩, v1, hr.rowLen⟩
  have ofNone : ∀ (a : Option Addr) (cap : Nat), new = [] → ∃ news, Src P esz tx (.slice a 0 cap) new.length news w ∧ RepDL J w new.flatten news ∧ (∀ r ∈ new, r.length = esz) := by
    intro a cap hn
    subst hn
    refine ⟨[], ?_, trivial, fun _ h => by cases h⟩
    cases a with
    | none => exact ⟨hk, fun _ => rfl, run_firstCells_none w esz 0 0 cap, run_firstCells_none w.drew esz 0 0 cap, by simp, fun _ h => by cases h⟩
    | some a => exact ⟨hk, fun _ => rfl, run_firstCells_some w esz 0 a 0 cap [] (by simp) (fun j u hu => by simp at hu), run_firstCells_some w.drew esz 0 a 0 cap [] (by simp) (fun j u hu => by simp at hu), by simp, fun _ h => by cases h⟩
  cases y with
  | d x =>
    cases x with
    | lst e rows =>
      simp only [srcRows] at h
      split at h
      · rename_i he
        cases h; subst he
        obtain ⟨a, n, cap, rfl, hn, hc, hr⟩ := hy
        rcases hr with hr | ⟨b, off, rfl, hb, hr⟩
        · rw [hr] at hn; simp at hn; subst hn; exact ofNone a cap hr
        · exact ofRows b off n cap hn hr
      · cases h
    | val u =>
      have hvu : v = u := hy
      subst hvu
      cases v with
      | slice sa n c =>
        cases sa with
        | some _ => simp [srcRows] at h
        | none =>
          cases n with
          | succ _ => simp [srcRows] at h
          | zero =>
            cases c with
            | succ _ => simp [srcRows] at h
            | zero => simp [srcRows] at h; exact ofNone none 0 h.1
      | string s =>
        simp only [srcRows] at h
        split at h
        · rename_i he
          cases h; subst he
          have hbc := byteCells_length s
          have hlen : (s.data.toList.map fun b => [DV.val (Value.int IntKind.u8 (b.toNat : Int))]).length = s.size := by simp
          refine ⟨byteCells s, ?_, ?_, ?_⟩
          · rw [hlen]
            exact ⟨hk, fun _ => rfl, firstCells_string s w, firstCells_string s w.drew, by rw [hbc, Nat.mul_one], fun u hu => by
              obtain ⟨_, _, rfl⟩ := List.mem_map.1 hu; rfl⟩
          · have : ∀ l : List UInt8, RepDL J w (l.map fun b => [DV.val (Value.int IntKind.u8 (b.toNat : Int))]).flatten (l.map fun b => Value.int .u8 b.toNat) := fun l => by
              induction l with
              | nil => trivial
              | cons x l ih => exact ⟨rfl, ih⟩
            exact this _
          · intro r hr
            obtain ⟨b, _, rfl⟩ := List.mem_map.1 hr
            rfl
        · cases h
      | _ => simp [srcRows] at h
    | fn f a b => simp [srcRows] at h
    | ifc t y => simp [srcRows] at h
    | agg cs => simp [srcRows] at h
  | sl o n e lo len =>
    simp only [srcRows] at h
    have hrep := S.rep o
    split at h
    · rename_i et e' rows ho
      split at h
      · rename_i hc
        obtain ⟨rfl, rfl, rfl, hle⟩ := hc
        cases h
        rw [ho] at hrep
        obtain ⟨⟨hs, hd⟩, _⟩ := hrep
        have hll : ((rows.drop lo).take len).length = len := by simp; omega
        rcases hy with ⟨rfl, a, rfl⟩ | ⟨b, cap, et', C, hb, rfl, hcap, _, _⟩
        · exact ofNone a 0 (by simp)
        · exact ofRows b (lo * _) len cap hll.symm (by have := ((hd b hb).2.drop lo).take len; simpa using this)
      · cases h
    · rename_i et e' rows ho
      split at h
      · rename_i hc
        obtain ⟨rfl, rfl, rfl, hle⟩ := hc
        cases h
        rw [ho] at hrep
        obtain ⟨⟨hs, hd⟩, _⟩ := hrep
        have hll : ((rows.drop lo).take len).length = len := by simp; omega
        rcases hy with ⟨rfl, a, rfl⟩ | ⟨b, cap, et', C, hb, rfl, hcap, _, _⟩
        · exact ofNone a 0 (by simp)
        · exact ofRows b (lo * _) len cap hll.symm (by have := ((hd b hb).2.drop lo).take len; simpa using this)
      · cases h
    · cases h
  | top => simp [srcRows] at h
  | anyb => simp [srcRows] at h
  | ptr o c => simp [srcRows] at h
  | rp o n e r c => simp [srcRows] at h
  | ip r c => simp [srcRows] at h
  | fn f a b => simp [srcRows] at h
  | agg cs => simp [srcRows] at h
  | tup cs => simp [srcRows] at h
  | ifc t y => simp [srcRows] at h

theorem fit_next {need cap bytes : Nat} (h : cap < need) (hb : need * bytes ≤ 70368744177664) : Builtin.nextslicecap need cap * bytes ≤ 281474976710656 := by
  have h1 := nextslicecap_le h
  have h2 : Builtin.nextslicecap need cap * bytes ≤ 2 * need * bytes := Nat.mul_le_mul_right _ h1
  rw [Nat.mul_assoc] at h2
  omega

/-- append to a slice that is nil. -/
theorem After.appNil (S : Store G J w ι obj) (hb : obj base = .free) {t tx ty et : TypeId} {i : TypeInfo} {z : Value} {v : Value} {new : List (List DV)} {news : List Value} (ht : P.underlying t = some (.slice et)) (hi : P.info? et = some i) (hz : i.zero = some z)
    (hzs : z.cells.size = i.size) (hbytes : 0 < i.bytes)
    (hsrc : Src P i.size tx v new.length news w) (hrep : RepDL J w new.flatten news) (hrl : ∀ r ∈ new, r.length = i.size) (hfit : new.length * i.bytes ≤ 70368744177664) :
    ∃ u w', (Builtin.append_ #[t, tx] ty #[.slice none 0 0, v]).run P w = .ok u w' ∧
      After G obj (fun o => if o = base then .live (.dat et i.size new) else obj o) J ι w (.sl base new.length i.size 0 new.length) u w' := by
  rcases Nat.eq_zero_or_pos new.length with h0 | h0
  · have hn : new = [] := by simpa using h0
    subst hn
    have hnews : news = [] := by have := hsrc.newsLen; simpa using this
    subst hnews
    refine ⟨.slice none 0 0, w, run_append_nothing w t tx ty et i ht hi none 0 0 (Nat.le_refl _) v hsrc, ?_⟩
    have hfree : ∀ n, ι base n = none := by have := S.rep base; rw [hb] at this; exact this
    have hT := Store.turn S base (.live (.dat et i.size [])) (Ev.refl (Own ι obj) J ι w) (fun _ _ _ => rfl) (fun _ _ _ => rfl)
      ⟨⟨.inl rfl, fun b hb => by rw [hfree] at hb; cases hb⟩, fun n _ => hfree n⟩ (fun b hb => by
        have : ι base 0 = some b := hb
        rw [hfree] at this; cases this)
    exact ⟨J, ι, hT.1, .inl ⟨rfl, none, rfl⟩, hT.2⟩
  · have hlt : 0 < 0 + new.length := by omega
    have h63 : ((0 + new.length : Nat) : Int) ≤ 9223372036854775807 := by
      have : new.length * 1 ≤ new.length * i.bytes := Nat.mul_le_mul_left _ hbytes
      omega
    have hrun := run_append_grow_src w t tx ty et i z ht hi hz none 0 0 [] (run_firstCells_none w.drew i.size 0 0 0) v new.length news hsrc hlt h63 (fit_next hlt (by simpa using hfit))
    have hge := grownCap_ge w (0 + new.length) 0 et
    refine ⟨_, _, hrun, ?_⟩
    simp only [Nat.zero_add, List.nil_append] at *
    have hl : news.length = new.length * i.size := hsrc.newsLen
    have hsz : (news.toArray ++ Builtin.zeroCells z.cells (grownCap w new.length 0 et - new.length)).size = grownCap w new.length 0 et * i.size := by
      simp only [Array.size_append, List.size_toArray, size_zeroCells, hzs, hl, ← Nat.add_mul]
      congr 1; omega
    refine After.dat S hb et i.size new _ (w.drawn + 1) (grownCap w new.length 0 et) hge (by rw [hsz]; exact Nat.le_refl _) (fun ι' E => ?_)
    refine RowsD.ofBlock (RepDL.mono (fun _ h => h) (S.same E) _ _ hrep) hsrc.one hrl (heap_alloc_new' { w with drawn := w.drawn + 1 } _) (fun j u hu => ?_)
    have hj : j < news.length := (List.getElem?_eq_some_iff.1 hu).1
    rw [Array.getElem?_append_left (by simpa using hj)]
    simpa using hu

/-- append to a slice of the call's own. -/
theorem After.appOwn (S : Store G J w ι obj) {o : Nat} {t tx ty et : TypeId} {i : TypeInfo} {z : Value} {v x : Value} {rows new : List (List DV)} {news : List Value} (ho : obj o = .live (.dat et i.size rows))
    (hx : Rep J w ι (.sl o rows.length i.size 0 rows.length) x) (ht : P.underlying t = some (.slice et)) (hi : P.info? et = some i) (hz : i.zero = some z)
    (hzs : z.cells.size = i.size) (hbytes : 0 < i.bytes)
    (hsrc : Src P i.size tx v new.length news w) (hrep : RepDL J w new.flatten news) (hrl : ∀ r ∈ new, r.length = i.size) (hfit : (rows ++ new).length * i.bytes ≤ 70368744177664) :
    ∃ u w', (Builtin.append_ #[t, tx] ty #[x, v]).run P w = .ok u w' ∧
      After G obj (fun k => if k = o then .live (.dat et i.size (rows ++ new)) else obj k) J ι w (.sl o (rows.length + new.length) i.size 0 (rows.length + new.length)) u w' := by
  have h0 := S.rep o
  rw [ho] at h0
  obtain ⟨⟨hsome, hdat⟩, hkey⟩ := h0
  rw [List.length_append] at hfit
  have hl : news.length = new.length * i.size := hsrc.newsLen
  have h63 : ((rows.length + new.length : Nat) : Int) ≤ 9223372036854775807 := by
    have : (rows.length + new.length) * 1 ≤ (rows.length + new.length) * i.bytes := Nat.mul_le_mul_left _ hbytes
    omega
  -- the elder cells
  obtain ⟨sa, cap, rfl, hcap, olds, hold, hor, hor1, hrowl, hblk⟩ : ∃ (sa : Option Addr) (cap : Nat), x = .slice sa rows.length cap ∧ rows.length ≤ cap ∧ ∃ olds : List Value,
      (Builtin.firstCells i.size rows.length (.slice sa rows.length cap)).run P w.drew = .ok olds.toArray w.drew ∧ RepDL J w rows.flatten olds ∧ (∀ v ∈ olds, v.oneCell' = true) ∧ (∀ r ∈ rows, r.length = i.size) ∧
      ((cap = 0 ∧ rows.length = 0) ∨ ∃ b C, sa = some ⟨b, 0, none⟩ ∧ ι o rows.length = some b ∧ w.heap[b]? = some (.cells C et (0, 0)) ∧ cap * i.size ≤ C.size ∧ RowsD J w i.size rows b 0) := by
    rcases hx with ⟨h1, sa, rfl⟩ | ⟨b, cap, et', C', hb, rfl, hc, hS, hC'⟩
    · have hn : rows = [] := by simpa using h1
      subst hn
      refine ⟨sa, 0, rfl, Nat.le_refl _, [], ?_, trivial, (fun _ h => by cases h), (fun _ h => by cases h), .inl ⟨rfl, rfl⟩⟩
      cases sa with
      | none => exact run_firstCells_none w.drew i.size 0 0 0
      | some a => exact run_firstCells_some w.drew i.size 0 a 0 0 [] (by simp) (fun j u hu => by simp at hu)
    · obtain ⟨⟨C, h2⟩, h3⟩ := hdat b hb
      obtain ⟨k1, k2⟩ := h3.flat
      obtain ⟨vs, v1, v2, v3⟩ := k1.vals
      have hcs : C'= C.size := by simp only [World.shape?, h2] at hS; cases hS; rfl
      subst hcs
      refine ⟨some ⟨b, 0, none⟩, cap, by simp, hc, vs, ?_, v1, v2, h3.rowLen, .inr ⟨b, C, rfl, hb, h2, by simpa using hC', h3⟩⟩
      refine run_firstCells_some w.drew i.size _ _ _ cap vs (by rw [← v1.length, k2]) (fun j u hu => ?_)
      rw [Addr.add_mid]
      exact v3 j u hu
  by_cases hroom : rows.length + new.length ≤ cap
  · rcases hblk with ⟨rfl, hr0⟩ | ⟨b, C, rfl, hb, h2, hC, h3⟩
    · -- nothing to append to nothing
      have hn : new = [] := by
        have : new.length = 0 := by omega
        simpa using this
      subst hn
      have hnews : news = [] := by simpa using hl
      subst hnews
      have hrn : rows = [] := by simpa using hr0
      subst hrn
      refine ⟨_, w, run_append_nothing w t tx ty et i ht hi sa 0 0 (Nat.le_refl _) v hsrc, ?_⟩
      have hT := Store.turn S o (.live (.dat et i.size ([] ++ []))) (Ev.refl (Own ι obj) J ι w) (fun _ _ _ => rfl) (fun _ _ _ => rfl)
        (by have := S.rep o; rw [ho] at this; exact this) (fun b hb => .inl (by rw [ho]; exact hb))
      exact ⟨J, ι, hT.1, .inl ⟨rfl, sa, rfl⟩, hT.2⟩
    · have hlen : news.length + rows.length * i.size ≤ C.size := by
        rw [hl, ← Nat.add_mul]
        exact Nat.le_trans (Nat.mul_le_mul_right _ (by omega)) hC
      have hc1 : ∀ j, j < news.length → (w.cell? ⟨b, 0 + rows.length * i.size + j, none⟩).isSome = true := fun j hj => by
        rw [cell_of_row w b _ C et _ h2]
        simp; omega
      have hf1 : ∀ j, j < news.length → w.frozen? ⟨b, 0 + rows.length * i.size + j, none⟩ = false := fun j hj => by simp [World.frozen?, h2]
      have hrun := run_append_room_src w t tx ty et i ht hi b 0 rows.length cap v new.length news hsrc hroom hc1 hf1
      simp only [Nat.zero_add] at hrun
      refine ⟨_, _, hrun, ?_⟩
      have hown : Own ι obj b := ⟨o, by rw [ho]; exact hb⟩
      let ι' : Nat → Nat → Option Nat := fun k n => if k = o ∧ n = rows.length + new.length then some b else ι k n
      have hi' : ∀ k n c, ι k n = some c → ι' k n = some c := fun k n c hc => by
        by_cases hk : k = o ∧ n = rows.length + new.length
        · obtain ⟨rfl, rfl⟩ := hk
          rcases Nat.eq_zero_or_pos new.length with hz | hz
          · rw [hz, Nat.add_zero] at hc ⊢
            rw [hb] at hc; cases hc
            simp [ι', hz]
          · rw [hkey _ (by omega)] at hc; cases hc
        · simp only [ι', if_neg hk]; exact hc
      have E : Ev (Own ι obj) J J ι ι' w (w.setCells b (rows.length * i.size) news) := Ev.setCells J w b _ news hown hi'
      obtain ⟨C', k1, k2⟩ := heap_setCells news (rows.length * i.size) w C h2 (by omega)
      have hCl : C'.size = C.size := by
        have := congrArg List.length k2
        rw [splice_length _ _ _ (by simp; omega)] at this
        simpa using this
      have holdl : olds.length = rows.length * i.size := by rw [← hor.length, flatten_len hrowl]
      have holdC : ∀ (j : Nat) (u : Value), olds[j]? = some u → C[j]? = some u := by
        obtain ⟨q1, q2⟩ := h3.flat
        obtain ⟨us, u1, u2, u3⟩ := q1.vals
        have : us = olds := by
          have : ∀ {xs : List DV} {a b : List Value}, True := trivial
          have hh := run_firstCells_some (P := P) w.drew i.size rows.length ⟨b, 0, none⟩ rows.length cap us (by rw [← u1.length, q2]) (fun j u hu => by rw [Addr.add_mid]; exact u3 j u hu)
          rw [hh] at hold
          injection hold with e1 _
          exact (List.toArray_inj e1)
        subst this
        intro j u hu
        have := u3 j u hu
        rw [Nat.zero_add, cell_of_row w b _ C et _ h2] at this
        exact this
      have hrowsN : RowsD J (w.setCells b (rows.length * i.size) news) i.size (rows ++ new) b 0 := by
        refine RowsD.ofBlock (vs := olds ++ news) ?_ ?_ ?_ k1 ?_
        · rw [List.flatten_append]
          exact RepDL.mono (fun _ h => h) (S.same E) _ _ (RepDL.append hor hrep)
        · intro u hu
          rcases List.mem_append.1 hu with hu | hu
          · exact hor1 u hu
          · exact hsrc.one u hu
        · intro r hr
          rcases List.mem_append.1 hr with hr | hr
          · exact hrowl r hr
          · exact hrl r hr
        · intro j u hu
          have hk : C'[j]? = C'.toList[j]? := by simp
          rw [hk, k2]
          unfold splice
          by_cases hj : j < olds.length
          · rw [List.getElem?_append_left hj] at hu
            rw [List.append_assoc, List.getElem?_append_left (by simp; omega), List.getElem?_take_of_lt (by omega)]
            simpa using holdC j u hu
          · rw [List.getElem?_append_right (by omega)] at hu
            have hj2 : j - olds.length < news.length := (List.getElem?_eq_some_iff.1 hu).1
            rw [List.getElem?_append_left (by simp; omega), List.getElem?_append_right (by simp; omega), ← hu]
            congr 1
            simp; omega
      have hT := Store.turn S o (.live (.dat et i.size (rows ++ new))) E (fun k hk n => by simp only [ι']; rw [if_neg (fun h => hk h.1)])
        (fun k hk hn => heap_setCells_other (fun e => hn (by rw [ho, e]; exact hb)) news _ w)
        ⟨⟨.inr (by simp [ι']), fun c hc => by
            simp [ι'] at hc; subst hc
            exact ⟨⟨C', k1⟩, hrowsN⟩⟩, fun n hn => by
            rw [List.length_append] at hn
            simp only [ι']; rw [if_neg (by omega)]; exact hkey n (by omega)⟩
        (fun c hc => .inl (by
          simp [OSt.own, LObj.own, ι'] at hc
          rw [ho]; subst hc; exact hb))
      refine ⟨J, ι', hT.1, .inr ⟨b, cap, et, C.size, by simp [ι'], by simp, by omega, ?_, by simpa using hC⟩, hT.2⟩
      simp only [World.shape?, k1, hCl]
  · have hlt : cap < rows.length + new.length := by omega
    have hrun := run_append_grow_src w t tx ty et i z ht hi hz sa rows.length cap olds hold v new.length news hsrc hlt h63 (fit_next hlt hfit)
    have hge := grownCap_ge w (rows.length + new.length) cap et
    refine ⟨_, _, hrun, ?_⟩
    generalize grownCap w (rows.length + new.length) cap et = gc at *
    let ι' : Nat → Nat → Option Nat := fun k n => if k = o ∧ n = rows.length + new.length then some w.heap.size else ι k n
    have hpos : 0 < new.length := by omega
    have hi' : ∀ k n c, ι k n = some c → ι' k n = some c := fun k n c hc => by
      by_cases hk : k = o ∧ n = rows.length + new.length
      · obtain ⟨rfl, rfl⟩ := hk
        rw [hkey _ (by omega)] at hc; cases hc
      · simp only [ι', if_neg hk]; exact hc
    have holdl : olds.length = rows.length * i.size := by rw [← hor.length, flatten_len hrowl]
    have hsz : ((olds ++ news).toArray ++ Builtin.zeroCells z.cells (gc - (rows.length + new.length))).size = gc * i.size := by
      simp only [Array.size_append, List.size_toArray, size_zeroCells, hzs, List.length_append, holdl, hl, ← Nat.add_mul]
      congr 1; omega
    generalize hCC : (olds ++ news).toArray ++ Builtin.zeroCells z.cells (gc - (rows.length + new.length)) = C at *
    have E : Ev (Own ι obj) J J ι ι' w ({ w with drawn := w.drawn + 1 }.alloc (.cells C et)) := Ev.alloc _ _ w _ _ hi'
    have hnew : ({ w with drawn := w.drawn + 1 }.alloc (.cells C et)).heap[w.heap.size]? = some (.cells C et (0, 0)) := heap_alloc_new' { w with drawn := w.drawn + 1 } _
    have hrowsN : RowsD J ({ w with drawn := w.drawn + 1 }.alloc (.cells C et)) i.size (rows ++ new) w.heap.size 0 := by
      refine RowsD.ofBlock (vs := olds ++ news) ?_ ?_ ?_ hnew ?_
      · rw [List.flatten_append]
        exact RepDL.mono (fun _ h => h) (S.same E) _ _ (RepDL.append hor hrep)
      · intro u hu
        rcases List.mem_append.1 hu with hu | hu
        · exact hor1 u hu
        · exact hsrc.one u hu
      · intro r hr
        rcases List.mem_append.1 hr with hr | hr
        · exact hrowl r hr
        · exact hrl r hr
      · intro j u hu
        rw [← hCC]
        have hj : j < (olds ++ news).length := (List.getElem?_eq_some_iff.1 hu).1
        rw [Array.getElem?_append_left (by simpa using hj)]
        simpa using hu
    have hT := Store.turn S o (.live (.dat et i.size (rows ++ new))) E (fun k hk n => by simp only [ι']; rw [if_neg (fun h => hk h.1)])
      (fun k hk hn => heap_alloc_old' { w with drawn := w.drawn + 1 } _ k hk)
      ⟨⟨.inr (by simp [ι']), fun c hc => by
          simp [ι'] at hc; subst hc
          exact ⟨⟨C, hnew⟩, hrowsN⟩⟩, fun n hn => by
          rw [List.length_append] at hn
          simp only [ι']; rw [if_neg (by omega)]; exact hkey n (by omega)⟩
      (fun c hc => .inr (by simp [OSt.own, LObj.own, ι'] at hc; omega))
    refine ⟨J, ι', hT.1, .inr ⟨w.heap.size, gc, et, C.size, by simp [ι'], by simp, hge, ?_, by simp [hsz]⟩, hT.2⟩
    show ({ w with drawn := w.drawn + 1 }.alloc (.cells C et)).shape? w.heap.size = _
    simp only [World.shape?, hnew]
end
end Dv
