/- The logical machine: part V8. -/
import Derived.Test.YtclgmpflmeopmaaV7
set_option linter.unusedVariables false
set_option linter.unusedSimpArgs false
namespace Dv
open Go

section
variable {P : Program} {G : Nat → Option (List DV)} {J : Nat → Prop} {w w' : World} {ι : Nat → Nat → Option Nat} {obj : Nat → OSt} {a : Act} {get : Nat → LV} {base : Nat}

theorem Goes.value {o : Oper} {s : Sem Value} {v : Value} {w' : World} {post : Value → World → Prop} (he : execOp a.eval o = (do pure (.value (← s)))) (hr : s.run P w = .ok v w') (hp : post v w') : Goes P o a w post :=
  Goes.of_run (by rw [he, Sem.run_bind, hr]; rfl) hp

/-- what a load reads. -/
theorem ld_sound (S : Store G J w ι obj) (he : ∀ t, Rep J w ι (get t) (a.tmps.getD t Go.undef)) {x : Opd} {X : Operand} (hx : convOpd X = some x) {T : TypeId} {e : Eff} (ha : aggT P T = some false) (hE : effF G get obj base (.ld1 x) = some e) :
    ∃ v, (Instr.loadAt T (a.eval X)).run P w = .ok v w ∧ Rep J w ι e.r v ∧ e.nw = [] ∧ e.wr = [] := by
  have hrx := rep_ev S he hx
  simp only [effF] at hE
  split at hE
  · rename_i o col hev
    rw [hev] at hrx
    split at hE
    · rename_i et cells ho
      split at hE
      · rename_i v hv
        cases hE
        obtain ⟨b, hb, hval⟩ := hrx
        have h0 := S.rep o
        rw [ho] at h0
        obtain ⟨⟨b', C, h1, h2, h3⟩, _⟩ := h0
        rw [hb] at h1; cases h1
        obtain ⟨u, hu, h1c, hru⟩ := h3.get hv
        rw [hval]
        exact ⟨u, run_ld1 ha (by rw [cell_of_row w b col C et _ h2]; simpa using hu), hru, rfl, rfl⟩
      · cases hE
    · cases hE
  · rename_i row col hev
    rw [hev] at hrx
    split at hE
    · rename_i v hv
      cases hE
      obtain ⟨b, off, hb, hval, hr⟩ := hrx
      obtain ⟨u, hu, h1c, hru⟩ := hr.get hv
      rw [hval]
      exact ⟨u, run_ld1 ha hu, hru, rfl, rfl⟩
    · cases hE
  · rename_i o n esz row col hev
    rw [hev] at hrx
    split at hE
    · rename_i et esz' rows ho
      split at hE
      · rename_i hc
        obtain ⟨rfl, rfl⟩ := hc
        split at hE
        · rename_i r hr
          split at hE
          · rename_i v hv
            cases hE
            obtain ⟨b, hb, hval⟩ := hrx
            have h0 := S.rep o
            rw [ho] at h0
            obtain ⟨⟨_, h1⟩, _⟩ := h0
            obtain ⟨_, h2⟩ := h1 b hb
            obtain ⟨_, h3⟩ := h2.get hr
            obtain ⟨u, hu, h1c, hru⟩ := h3.get hv
            rw [Nat.zero_add] at hu
            rw [hval]
            exact ⟨u, run_ld1 ha hu, hru, rfl, rfl⟩
          · cases hE
        · cases hE
      · cases hE
    · cases hE
  · cases hE

theorem rangeAt_of_row {b : Nat} {C : Array Value} {et : TypeId} {fr : Nat × Nat} (h : w.heap[b]? = some (.cells C et fr)) (col n : Nat) : w.rangeAt b col ((C.toList.drop col).take n) := fun j v hv => by
  rw [cell_of_row w b (col + j) C et fr h]
  rw [List.getElem?_take] at hv
  split at hv
  · rw [List.getElem?_drop] at hv; simpa using hv
  · cases hv

theorem ldn_sound (S : Store G J w ι obj) (he : ∀ t, Rep J w ι (get t) (a.tmps.getD t Go.undef)) {x : Opd} {X : Operand} (hx : convOpd X = some x) {T : TypeId} {n : Nat} {e : Eff} (ha : aggT P T = some true) (hs : sizeT P T = some n)
    (hE : effF G get obj base (.ldn n x) = some e) :
    ∃ v, (Instr.loadAt T (a.eval X)).run P w = .ok v w ∧ Rep J w ι e.r v ∧ e.nw = [] ∧ e.wr = [] := by
  have hrx := rep_ev S he hx
  have ofRow : ∀ {b off : Nat} {row : List DV}, RowD J w row b off → ∀ col, ((row.drop col).take n).length = n →
      ∃ v, (Instr.loadAt T (.pointer (some ⟨b, off + col, none⟩))).run P w = .ok v w ∧ Rep J w ι (.agg (((row.drop col).take n).map .d)) v := by
    intro b off row hr col hl
    obtain ⟨vs, v1, v2, v3⟩ := ((hr.drop col).take n).vals
    exact ⟨_, run_ldn ha hs v3 (by rw [← v1.length, hl]), vs.toArray, rfl, RepDL.mapC v1 v2⟩
  simp only [effF] at hE
  split at hE
  · rename_i o col hev
    rw [hev] at hrx
    split at hE
    · rename_i et cells ho
      split at hE
      · rename_i hl
        cases hE
        obtain ⟨b, hb, hval⟩ := hrx
        have h0 := S.rep o
        rw [ho] at h0
        obtain ⟨⟨b', C, h1, h2, h3⟩, _⟩ := h0
        rw [hb] at h1; cases h1
        have h4 := (h3.drop col).take n
        rw [hval]
        exact ⟨_, run_ldn ha hs (rangeAt_of_row h2 col n) (by rw [← h4.length, hl]), ⟨_, rfl, by simpa using h4⟩, rfl, rfl⟩
      · cases hE
    · cases hE
  · rename_i row col hev
    rw [hev] at hrx
    split at hE
    · rename_i hl
      cases hE
      obtain ⟨b, off, hb, hval, hr⟩ := hrx
      rw [hval]
      obtain ⟨v, k1, k2⟩ := ofRow hr col hl
      exact ⟨v, k1, k2, rfl, rfl⟩
    · cases hE
  · rename_i o m esz row col hev
    rw [hev] at hrx
    split at hE
    · rename_i et esz' rows ho
      split at hE
      · rename_i hc
        obtain ⟨rfl, rfl⟩ := hc
        split at hE
        · rename_i r hr
          split at hE
          · rename_i hl
            cases hE
            obtain ⟨b, hb, hval⟩ := hrx
            have h0 := S.rep o
            rw [ho] at h0
            obtain ⟨⟨_, h1⟩, _⟩ := h0
            obtain ⟨_, h2⟩ := h1 b hb
            obtain ⟨_, h3⟩ := h2.get hr
            rw [Nat.zero_add] at h3
            rw [hval]
            obtain ⟨v, k1, k2⟩ := ofRow h3 col hl
            exact ⟨v, k1, k2, rfl, rfl⟩
          · cases hE
        · cases hE
      · cases hE
    · cases hE
  · cases hE

theorem st_sound (S : Store G J w ι obj) (he : ∀ t, Rep J w ι (get t) (a.tmps.getD t Go.undef)) {x y : Opd} {X Y : Operand} (hx : convOpd X = some x) (hy : convOpd Y = some y) {T : TypeId} {n : Nat} {e : Eff} (hs : sizeT P T = some n)
    (hE : effF G get obj base (.st n x y) = some e) :
    ∃ w', (Instr.storeAt T (a.eval X) (a.eval Y)).run P w = .ok () w' ∧ After G obj (applyO obj base e) J ι w e.r Go.undef w' := by
  have hrx := rep_ev S he hx
  have hry := rep_ev S he hy
  simp only [effF] at hE
  split at hE
  · rename_i cs hcs
    have hrc := cells_rep hry hcs
    split at hE
    · rename_i hl
      have hvl : (a.eval Y).cells.size = n := by have := hrc.length; simp at this; omega
      split at hE
      · rename_i o col hev
        rw [hev] at hrx
        split at hE
        · rename_i et cells ho
          split at hE
          · rename_i hle
            cases hE
            obtain ⟨b, hb, ht, hA⟩ := After.setBox S ho hrc hle
            obtain ⟨b', hb', hval⟩ := hrx
            rw [hb] at hb'; cases hb'
            rw [hval]
            exact ⟨_, run_st hs (by simpa using ht) hvl hrc.one, hA⟩
          · cases hE
        · cases hE
      · rename_i o m esz row col hev
        rw [hev] at hrx
        split at hE
        · rename_i et esz' rows ho
          split at hE
          · rename_i hc
            obtain ⟨rfl, rfl⟩ := hc
            split at hE
            · rename_i ds hds
              split at hE
              · rename_i r hr
                split at hE
                · rename_i hle
                  cases hE
                  obtain ⟨b, hb, ht, hA⟩ := After.setDat S ho hr (toDs_rep hds hrc.toL) hrc.one hle
                  obtain ⟨b', hb', hval⟩ := hrx
                  rw [hb] at hb'; cases hb'
                  rw [hval]
                  exact ⟨_, run_st hs (by simpa using ht) hvl hrc.one, hA⟩
                · cases hE
              · cases hE
            · cases hE
          · cases hE
        · cases hE
      · cases hE
    · cases hE
  · cases hE

theorem ixa_sound (S : Store G J w ι obj) (he : ∀ t, Rep J w ι (get t) (a.tmps.getD t Go.undef)) {x i : Opd} {X Y : Operand} (hx : convOpd X = some x) (hy : convOpd Y = some i) {T el : TypeId} {n : Nat} {e : Eff} (hu : P.underlying T = some (.slice el)) (hs : sizeT P el = some n)
    (hE : effF G get obj base (.ixa n x i) = some e) :
    ∃ v, (Instr.indexAt T (a.eval X) (a.eval Y)).run P w = .ok v w ∧ Rep J w ι e.r v ∧ e.nw = [] ∧ e.wr = [] := by
  have hrx := rep_ev S he hx
  have hry := rep_ev S he hy
  simp only [effF] at hE
  split at hE
  · rename_i k j hev
    rw [hev] at hry
    have hY : a.eval Y = .int k j := hry
    split at hE
    · rename_i h0
      split at hE
      · rename_i el' rows hxe
        rw [hxe] at hrx
        split at hE
        · rename_i hel
          split at hE
          · rename_i r hr
            cases hE
            obtain ⟨sa, m, cap, hval, hm, hcap, hrows⟩ := hrx
            have hlt : j.toNat < rows.length := (List.getElem?_eq_some_iff.1 hr).1
            rcases hrows with hrows | ⟨b, off, rfl, hb, hrows⟩
            · rw [hrows] at hlt; simp at hlt
            · subst hel
              obtain ⟨_, hrow⟩ := hrows.get hr
              rw [hval, hY]
              exact ⟨_, run_ixa hu hs b off m cap k j h0 (by omega) w, ⟨b, off + j.toNat * el', hb, by simp, hrow⟩, rfl, rfl⟩
          · cases hE
        · cases hE
      · rename_i o m el' lo len hxe
        rw [hxe] at hrx
        have real : ∀ {b cap : Nat}, a.eval X = .slice (some ⟨b, lo * el', none⟩) len cap → el' = n → j.toNat < len →
            (Instr.indexAt T (a.eval X) (a.eval Y)).run P w = .ok (.pointer (some ⟨b, (lo + j.toNat) * el', none⟩)) w := by
          intro b cap hval hel hlt
          rw [hval, hY]
          have := run_ixa (P := P) hu hs b (lo * el') len cap k j h0 hlt w
          rw [← hel] at this
          rw [this, Nat.add_mul]
        split at hE
        · rename_i et el'' rows ho
          split at hE
          · rename_i hc
            obtain ⟨hel, hel2, hm, hlt⟩ := hc
            split at hE
            · rename_i r hr
              cases hE
              rcases hrx with ⟨h1, _⟩ | ⟨b, cap, et', C, hb, hval, hcap, _⟩
              · omega
              · have h0' := S.rep o
                rw [ho] at h0'
                obtain ⟨⟨_, h1⟩, _⟩ := h0'
                rw [hm] at hb
                obtain ⟨hJ, hrows⟩ := h1 b hb
                obtain ⟨_, hrow⟩ := hrows.get hr
                refine ⟨_, real hval hel hlt, ⟨b, (lo + j.toNat) * el', hJ, by simp, ?_⟩, rfl, rfl⟩
                rw [Nat.zero_add, hel2, ← hel] at hrow
                exact hrow
            · cases hE
          · cases hE
        · split at hE
          · rename_i hc
            obtain ⟨hel, hlt⟩ := hc
            cases hE
            rcases hrx with ⟨h1, _⟩ | ⟨b, cap, et', C, hb, hval, hcap, _⟩
            · omega
            · exact ⟨_, real hval hel hlt, ⟨b, hb, by simp⟩, rfl, rfl⟩
          · cases hE
      · cases hE
    · cases hE
  · cases hE

theorem ixr_sound (S : Store G J w ι obj) (he : ∀ t, Rep J w ι (get t) (a.tmps.getD t Go.undef)) {x i : Opd} {X Y : Operand} (hx : convOpd X = some x) (hy : convOpd Y = some i) {T el : TypeId} {n len : Nat} {e : Eff} (hu : P.underlying T = some (.array len el)) (hs : sizeT P el = some n)
    (hE : effF G get obj base (.ixr len n x i) = some e) :
    ∃ v, (Instr.indexAt T (a.eval X) (a.eval Y)).run P w = .ok v w ∧ Rep J w ι e.r v ∧ e.nw = [] ∧ e.wr = [] := by
  have hrx := rep_ev S he hx
  have hry := rep_ev S he hy
  simp only [effF] at hE
  split at hE
  · rename_i k j hev
    rw [hev] at hry
    have hY : a.eval Y = .int k j := hry
    split at hE
    · rename_i h0
      split at hE
      · rename_i o col hxe
        rw [hxe] at hrx
        cases hE
        obtain ⟨b, hb, hval⟩ := hrx
        rw [hval, hY]
        exact ⟨_, run_ixr hu hs b col k j h0.1 h0.2 w, ⟨b, hb, rfl⟩, rfl, rfl⟩
      · rename_i o m es r c hxe
        rw [hxe] at hrx
        cases hE
        obtain ⟨b, hb, hval⟩ := hrx
        rw [hval, hY]
        exact ⟨_, run_ixr hu hs b _ k j h0.1 h0.2 w, ⟨b, hb, by simp; omega⟩, rfl, rfl⟩
      · rename_i r c hxe
        rw [hxe] at hrx
        cases hE
        obtain ⟨b, off, hb, hval, hr⟩ := hrx
        rw [hval, hY]
        exact ⟨_, run_ixr hu hs b _ k j h0.1 h0.2 w, ⟨b, off, hb, by simp; omega, hr⟩, rfl, rfl⟩
      · cases hE
    · cases hE
  · cases hE

theorem run_part {t : TypeId} {cs : Array Value} {off : Nat} {v : Value} (ha : aggT P t = some false) (hv : cs[off]? = some v) : (part t cs off).run P w = .ok v w := by
  simp [part, aggT_run ha, hv]
theorem run_partn {t : TypeId} {cs : Array Value} {off n : Nat} (ha : aggT P t = some true) (hs : sizeT P t = some n) : (part t cs off).run P w = .ok (.agg (cs.extract off (off + n))) w := by
  obtain ⟨i, hi, hn⟩ := info_of_sizeT hs
  simp [part, aggT_run ha, Go.sizeOf, typeInfo, hi, hn]

theorem All2.map_eq {α β : Type} {xs : List α} {ys : List β} {R : α → β → Prop} (h : All2 R xs ys) : xs.length = ys.length := by
  induction h with
  | nil => rfl
  | cons _ _ ih => simp [ih]

theorem elemT_spec {e : TypeId} {n b : Nat} (h : elemT P e = some (n, b)) : ∃ i z, P.info? e = some i ∧ i.zero = some z ∧ i.size = n ∧ i.bytes = b ∧ z.cells.size = i.size ∧ 0 < i.bytes ∧ 0 < i.size := by
  unfold elemT at h
  split at h
  · rename_i i hi
    split at h
    · rename_i z hz
      split at h
      · rename_i hc
        cases h
        exact ⟨i, z, hi, hz, rfl, rfl, hc.1, hc.2.1, hc.2.2⟩
      · cases h
    · cases h
  · cases h

theorem zip_parts {β γ : Type} (f : β → γ) : ∀ (l : List (Nat × β)) (k : Nat), l.map (·.1) = List.range' k l.length → l.map (fun p => (p.1, f p.2)) = (List.range' k (l.map (fun p => f p.2)).length).zip (l.map (fun p => f p.2))
  | [], k, _ => rfl
  | p :: l, k, h => by
    simp only [List.map_cons, List.length_cons, List.range'_succ, List.cons.injEq] at h
    simp only [List.map_cons, List.length_cons, List.range'_succ, List.zip_cons_cons]
    rw [← zip_parts f l (k + 1) h.2, h.1]

theorem All2.flat {esz : Nat} : ∀ {xs : List Operand} {rows : List (List DV)}, All2 (fun (x : Operand) (r : List DV) => RepDL J w r (a.eval x).cells.toList ∧ (∀ v ∈ (a.eval x).cells.toList, v.oneCell' = true) ∧ r.length = esz) xs rows →
    RepDL J w rows.flatten ((xs.map a.eval).map (·.cells.toList)).flatten ∧ (∀ v ∈ ((xs.map a.eval).map (·.cells.toList)).flatten, v.oneCell' = true) ∧ (∀ r ∈ rows, r.length = esz) ∧ (∀ v ∈ xs.map a.eval, v.cells.size = esz)
  | _, _, .nil => ⟨trivial, (fun _ h => by cases h), (fun _ h => by cases h), (fun _ h => by cases h)⟩
  | _, _, .cons h1 h2 => by
    obtain ⟨k1, k2, k3, k4⟩ := All2.flat h2
    obtain ⟨h3, h4, h5⟩ := h1
    simp only [List.map_cons, List.flatten_cons]
    refine ⟨RepDL.append h3 k1, fun v hv => ?_, fun r hr => ?_, fun v hv => ?_⟩
    · rcases List.mem_append.1 hv with hv | hv
      · exact h4 v hv
      · exact k2 v hv
    · rcases List.mem_cons.1 hr with rfl | hr
      · exact h5
      · exact k3 r hr
    · rcases List.mem_cons.1 hv with rfl | hv
      · have := h3.length
        simp at this; omega
      · exact k4 v hv

/-- a slice out of parts. -/
theorem bsl_sound (S : Store G J w ι obj) (he : ∀ t, Rep J w ι (get t) (a.tmps.getD t Go.undef)) {T : TypeId} {n : Nat} {parts : Array (Nat × Operand)} {et esz : Nat} {ys : List Opd} {e : Eff} (hc : convI P (.buildSlice T n parts) = some (.bsl et esz ys))
    (hb : obj base = .free) (hE : effF G get obj base (.bsl et esz ys) = some e) :
    ∃ v w', (Instr.buildSlice T n (parts.map fun (i, x) => (i, a.eval x))).run P w = .ok v w' ∧ After G obj (applyO obj base e) J ι w e.r v w' := by
  simp only [convI] at hc
  split at hc
  · rename_i el hu
    split at hc
    · rename_i size bs xs h1 h2
      split at hc
      · rename_i hcond
        cases hc
        obtain ⟨hfit, hidx⟩ := hcond
        obtain ⟨i, z, hi, hz, hsz, _, hzc, _, hpos⟩ := elemT_spec h1
        simp only [effF] at hE
        split at hE
        · rename_i rows hrows
          cases hE
          have hA := rowsOf_rep S he h2 hrows
          have hlen := hA.map_eq
          have hpl : parts.toList.length = n := by have := congrArg List.length hidx; simpa using this
          rw [List.length_map, hpl] at hlen
          obtain ⟨f1, f2, f3, f4⟩ := hA.flat
          have hvals : (parts.map fun (i, x) => (i, a.eval x)).toList = (List.range' 0 ((parts.toList.map (·.2)).map a.eval).length).zip ((parts.toList.map (·.2)).map a.eval) := by
            have := zip_parts a.eval parts.toList 0 (by rw [hidx, hpl, List.range_eq_range'])
            rw [Array.toList_map, List.map_map]
            exact this
          let C0 : Array Value := (Array.range (n * esz)).map ((if n * esz = 0 then #[] else z.cells)[· % (if n * esz = 0 then #[] else z.cells).size]!)
          have hC0 : C0.size = n * esz := by simp [C0]
          have hvl : ((parts.toList.map (·.2)).map a.eval).length = n := by simpa using hpl
          obtain ⟨cs, k1, k2⟩ := fill_rows esz ((parts.toList.map (·.2)).map a.eval) 0 C0 f4 (by rw [hvl, Nat.zero_add, hC0]; exact Nat.le_refl _)
          have hrun : (Instr.buildSlice T n (parts.map fun (i, x) => (i, a.eval x))).run P w = .ok (.slice (some ⟨w.heap.size, 0, none⟩) n n) (w.alloc (.cells cs et)) := by
            have hfit' : ¬ n * esz > 2 ^ 24 := by omega
            have hso : ∀ w : World, (Go.sizeOf et).run P w = .ok esz w := fun w => by simp [Go.sizeOf, typeInfo, hi, hsz]
            have hze : ∀ w : World, (zeroValue et).run P w = .ok z w := fun w => by simp [zeroValue, typeInfo, hi, hz]
            by_cases h0 : n * esz = 0
            · have k1' := k1
              simp only [C0, if_pos h0] at k1'
              simp only [Instr.buildSlice, Sem.run_bind, run_underlying hu w, Result.andThen_ok, hso, if_neg hfit', Sem.run_pure, if_pos h0, hvals, k1']
              simp [newRow]
            · have k1' := k1
              simp only [C0, if_neg h0] at k1'
              simp only [Instr.buildSlice, Sem.run_bind, run_underlying hu w, Result.andThen_ok, hso, if_neg hfit', Sem.run_pure, if_neg h0, hze, hvals, k1']
              simp [newRow]
          have hcl : cs.toList = ((parts.toList.map (·.2)).map a.eval |>.map (·.cells.toList)).flatten := by
            rw [k2]
            have hfl : (((parts.toList.map (·.2)).map a.eval).map (·.cells.toList)).flatten.length = C0.toList.length := by
              have hcl0 : C0.toList.length = n * esz := by rw [← hC0]; exact Array.length_toList
              rw [← f1.length, flatten_len f3, hcl0, ← hlen]
            simp only [Nat.zero_mul]
            unfold splice
            rw [Nat.zero_add, hfl]
            simp
          refine ⟨_, _, hrun, ?_⟩
          have hcsz : cs.size = n * esz := by
            have : cs.toList.length = cs.size := Array.length_toList
            rw [← this, hcl, ← f1.length, flatten_len f3, ← hlen]
          have := After.dat (G := G) (J := J) (w := w) (ι := ι) S hb et esz rows cs w.drawn n (by omega) (by rw [hcsz]; exact Nat.le_refl _) (fun ι' E => by
            refine RowsD.ofBlock (RepDL.mono (fun _ h => h) (S.same E) _ _ f1) f2 f3 (heap_alloc_new' { w with drawn := w.drawn } _) (fun j u hu => ?_)
            rw [← hcl] at hu
            simpa using hu)
          rw [← hlen] at this ⊢
          exact this
        · cases hE
      · cases hc
    · cases hc
  · cases hc

set_option maxHeartbeats 1000000 in
/-- THE OPERATIONS THAT ARE NO CALLS DO WHAT effF SAYS. -/
theorem eff_sound (S : Store G J w ι obj) (he : ∀ t, Rep J w ι (get t) (a.tmps.getD t Go.undef)) {i : I} {e : Eff} (hE : effF G get obj base i = some e) (hfree : ∀ j, j < e.nw.length → obj (base + j) = .free) {o : Oper} (hc : convI P o.op = some i) :
    Goes P o a w (After G obj (applyO obj base e) J ι w e.r) := by
  obtain ⟨dst, op, type, pos, after, guard⟩ := o
  dsimp only at hc
  have stay : ∀ {e : Eff} {v : Value}, e.nw = [] → e.wr = [] → Rep J w ι e.r v → After G obj (applyO obj base e) J ι w e.r v w := by
    intro e v h1 h2 h3
    simp only [applyO, h1, h2, newO, updO]
    exact After.stay S h3
  cases op with
  | move x =>
    simp only [convI] at hc
    split at hc
    · rename_i y hy; cases hc
      simp only [effF] at hE; cases hE
      exact Goes.of_run rfl (stay rfl rfl (rep_ev S he hy))
    · cases hc
  | assign x =>
    simp only [convI] at hc
    split at hc
    · rename_i y hy; cases hc
      simp only [effF] at hE; cases hE
      exact Goes.of_run rfl (stay rfl rfl (rep_ev S he hy))
    · cases hc
  | pick c x y =>
    simp only [convI] at hc
    split at hc
    · rename_i c' x' y' h1 h2 h3; cases hc
      simp only [effF] at hE
      split at hE
      · rename_i b hb
        cases hE
        have hrc := rep_ev S he h1
        rw [hb] at hrc
        have hcv : a.eval c = .bool b := hrc
        refine Goes.of_run (v := if b then a.eval x else a.eval y) (by simp [execOp, hcv, asBool]) (stay rfl rfl ?_)
        cases b
        · exact rep_ev S he h3
        · exact rep_ev S he h2
      · cases hE
    · cases hc
  | alloc T =>
    simp only [convI] at hc
    split at hc
    · rename_i z hz; cases hc
      simp only [effF] at hE; cases hE
      obtain ⟨v, hv, hr⟩ := zeroT_run (J := J) (w := w) (ι := ι) hz
      have hb : obj base = .free := by simpa using hfree 0 (by simp)
      have := After.box S hb T (z.map .d) v.cells hr
      exact Goes.value (s := Instr.alloc T true (.tuple #[])) rfl (by simp [Instr.alloc, hv, newVar, newRow]) this
    · cases hc
  | box T x =>
    simp only [convI] at hc
    split at hc
    · rename_i y hy; cases hc
      simp only [effF] at hE
      split at hE
      · rename_i cs hcs
        cases hE
        have hb : obj base = .free := by simpa using hfree 0 (by simp)
        have := After.box S hb T cs (a.eval x).cells (cells_rep (rep_ev S he hy) hcs)
        exact Goes.value (s := Instr.box T (a.eval x)) rfl (by simp [Instr.box, newVar, newRow]) this
      · cases hE
    · cases hc
  | build T parts =>
    have hc' := hc
    obtain ⟨zero, ps, rfl⟩ : ∃ zero ps, i = .build zero ps := by
      simp only [convI] at hc
      split at hc
      · split at hc
        · split at hc
          · cases hc; exact ⟨_, _, rfl⟩
          · cases hc
        · cases hc
      · split at hc
        · split at hc
          · cases hc; exact ⟨_, _, rfl⟩
          · cases hc
        · cases hc
      · cases hc
    simp only [effF] at hE
    split at hE
    · rename_i cs hcs
      cases hE
      obtain ⟨v, hv, hr⟩ := build_sound S he hc' hcs
      exact Goes.value (s := Instr.build T (parts.map fun (i, x) => (i, a.eval x))) rfl hv (stay rfl rfl hr)
    · cases hE
  | buildSlice T n parts =>
    have hc' := hc
    obtain ⟨et, esz, ys, rfl⟩ : ∃ et esz ys, i = .bsl et esz ys := by
      simp only [convI] at hc
      split at hc
      · split at hc
        · split at hc
          · cases hc; exact ⟨_, _, _, rfl⟩
          · cases hc
        · cases hc
      · cases hc
    have hb : obj base = .free := by
      have hlen : 0 < e.nw.length := by
        simp only [effF] at hE
        split at hE
        · cases hE; simp
        · cases hE
      simpa using hfree 0 hlen
    obtain ⟨v, w', hv, hA⟩ := bsl_sound S he hc' hb hE
    refine Goes.of_run (v := v) (w' := w') ?_ hA
    simp only [execOp, Sem.run_bind]
    rw [hv]
    rfl
  | load T x =>
    simp only [convI] at hc
    split at hc
    · rename_i y n h1 h2 h3; cases hc
      obtain ⟨v, hv, hr, h4, h5⟩ := ldn_sound S he h1 h2 h3 hE
      exact Goes.value (s := Instr.loadAt T (a.eval x)) rfl hv (stay h4 h5 hr)
    · rename_i y n h1 h2 h3; cases hc
      obtain ⟨v, hv, hr, h4, h5⟩ := ld_sound S he h1 h2 hE
      exact Goes.value (s := Instr.loadAt T (a.eval x)) rfl hv (stay h4 h5 hr)
    · cases hc
  | store T x y =>
    simp only [convI] at hc
    split at hc
    · rename_i x' y' n h1 h2 h3; cases hc
      obtain ⟨w', hv, hA⟩ := st_sound S he h1 h2 h3 hE
      refine Goes.of_skip (w' := w') ?_ hA
      simp [execOp, hv]
    · cases hc
  | nilCheck x =>
    simp only [convI] at hc
    split at hc
    · rename_i y hy; cases hc
      have hrx := rep_ev S he hy
      simp only [effF] at hE
      split at hE <;> first | (cases hE; done) | skip
      · rename_i o col hev
        cases hE
        rw [hev] at hrx
        obtain ⟨b, hb, hv⟩ := hrx
        exact Goes.of_run (v := a.eval x) (by simp [execOp, hv]) (stay rfl rfl ⟨b, hb, hv⟩)
      · rename_i o n e r c hev
        cases hE
        rw [hev] at hrx
        obtain ⟨b, hb, hv⟩ := hrx
        exact Goes.of_run (v := a.eval x) (by simp [execOp, hv]) (stay rfl rfl ⟨b, hb, hv⟩)
      · rename_i r c hev
        cases hE
        rw [hev] at hrx
        obtain ⟨b, off, hb, hv, h⟩ := hrx
        exact Goes.of_run (v := a.eval x) (by simp [execOp, hv]) (stay rfl rfl ⟨b, off, hb, hv, h⟩)
    · cases hc
  | binOp bop T x y T2 =>
    have two : ∀ {x' y' : Opd}, convOpd x = some x' → convOpd y = some y' → effF G get obj base (.bin bop x' y') = some e → Goes P ⟨dst, .binOp bop T x y T2, type, pos, after, guard⟩ a w (After G obj (applyO obj base e) J ι w e.r) := by
      intro x' y' h1 h2 hE
      have hrx := rep_ev S he h1
      have hry := rep_ev S he h2
      simp only [effF] at hE
      split at hE
      · rename_i p q hp hq
        rw [hp] at hrx; rw [hq] at hry
        split at hE
        · rename_i v hv
          cases hE
          have e1 : a.eval x = p := hrx
          have e2 : a.eval y = q := hry
          exact Goes.value (s := (do eqGuard bop T x y (a.eval x) (a.eval y); Go.binOp bop T (a.eval x) (a.eval y))) rfl (by rw [e1, e2]; exact binV_run hv T x y w) (stay rfl rfl rfl)
        · cases hE
      · cases hE
    have bl : ∀ {x' y' : Opd} {neg : Bool}, (bop = .eql ∨ bop = .neq) → neg = isNeq bop → P.underlying T = some .bool → convOpd x = some x' → convOpd y = some y' → effF G get obj base (.eqb neg x' y') = some e →
        Goes P ⟨dst, .binOp bop T x y T2, type, pos, after, guard⟩ a w (After G obj (applyO obj base e) J ι w e.r) := by
      intro x' y' neg ho hneg hu h1 h2 hE
      have hrx := rep_ev S he h1
      have hry := rep_ev S he h2
      simp only [effF] at hE
      split at hE
      · rename_i p q hp hq
        rw [hp] at hrx; rw [hq] at hry
        cases hE
        have e1 : a.eval x = .bool p := hrx
        have e2 : a.eval y = .bool q := hry
        exact Goes.value (s := (do eqGuard bop T x y (a.eval x) (a.eval y); Go.binOp bop T (a.eval x) (a.eval y))) rfl (by rw [e1, e2, hneg]; exact eqb_run ho hu x y p q w) (stay rfl rfl rfl)
      · cases hE
    simp only [convI] at hc
    split at hc
    · rename_i x' y' h1 h2
      cases hU : P.underlying T with
      | none => simp [hU] at hc
      | some d =>
        rw [hU] at hc
        cases d with
        | bool =>
          cases bop <;> dsimp only at hc <;> first | (cases hc; done) | skip
          · cases hc; exact bl (.inl rfl) rfl hU h1 h2 hE
          · cases hc; exact bl (.inr rfl) rfl hU h1 h2 hE
        | int k => cases bop <;> (dsimp only at hc; cases hc; exact two h1 h2 hE)
        | string => cases bop <;> (dsimp only at hc; cases hc; exact two h1 h2 hE)
        | struct fs =>
          have go : ∀ {neg : Bool}, (bop = .eql ∨ bop = .neq) → neg = isNeq bop → (match eqT P T with | some ks => some (I.eqs neg ks x' y') | none => none) = some i → Goes P ⟨dst, .binOp bop T x y T2, type, pos, after, guard⟩ a w (After G obj (applyO obj base e) J ι w e.r) := by
            intro neg ho hneg hc
            split at hc
            · rename_i ks hks
              cases hc
              have hrx := rep_ev S he h1
              have hry := rep_ev S he h2
              simp only [effF] at hE
              split at hE
              · rename_i p q hp hq
                rw [hp] at hrx; rw [hq] at hry
                split at hE
                · rename_i b hb
                  cases hE
                  obtain ⟨xs, e1, hxs⟩ := hrx
                  obtain ⟨ys, e2, hys⟩ := hry
                  exact Goes.value (s := (do eqGuard bop T x y (a.eval x) (a.eval y); Go.binOp bop T (a.eval x) (a.eval y))) rfl (by rw [e1, e2, hneg]; exact run_eqs ho hks x y hxs hys hb) (stay rfl rfl rfl)
                · cases hE
              · cases hE
            · cases hc
          cases bop <;> dsimp only at hc <;> first | (cases hc; done) | skip
          · exact go (.inl rfl) rfl hc
          · exact go (.inr rfl) rfl hc
        | pointer pe =>
          have go : ∀ {neg : Bool}, (bop = .eql ∨ bop = .neq) → neg = isNeq bop → (if nilP y = true then some (I.isnp neg x') else none) = some i → Goes P ⟨dst, .binOp bop T x y T2, type, pos, after, guard⟩ a w (After G obj (applyO obj base e) J ι w e.r) := by
            intro neg ho hneg hc
            split at hc
            · rename_i hnil
              cases hc
              have hy : a.eval y = .pointer none := by
                unfold nilP at hnil
                split at hnil
                · rfl
                · cases hnil
              have hrx := rep_ev S he h1
              have fin : ∀ {v : Option Addr} {r : Bool}, a.eval x = .pointer v → r = (bif isNeq bop then !v.isNone else v.isNone) → e = { r := .bool r } → Goes P ⟨dst, .binOp bop T x y T2, type, pos, after, guard⟩ a w (After G obj (applyO obj base e) J ι w e.r) := by
                intro v r hv hr he'
                subst he'
                exact Goes.value (s := (do eqGuard bop T x y (a.eval x) (a.eval y); Go.binOp bop T (a.eval x) (a.eval y))) rfl (by rw [hv, hy]; exact run_isp ho hU x y v w) (stay rfl rfl (by rw [hr]; rfl))
              simp only [effF] at hE
              split at hE <;> first | (cases hE; done) | skip
              · rename_i hev
                rw [hev] at hrx
                obtain ⟨b, _, hv⟩ := hrx
                exact fin hv (by rw [hneg]; cases isNeq bop <;> rfl) (Option.some.inj hE).symm
              · rename_i hev
                rw [hev] at hrx
                obtain ⟨b, _, hv⟩ := hrx
                exact fin hv (by rw [hneg]; cases isNeq bop <;> rfl) (Option.some.inj hE).symm
              · rename_i hev
                rw [hev] at hrx
                obtain ⟨b, off, _, hv, _⟩ := hrx
                exact fin hv (by rw [hneg]; cases isNeq bop <;> rfl) (Option.some.inj hE).symm
              · rename_i hev
                rw [hev] at hrx
                have hv : a.eval x = .pointer none := hrx
                exact fin hv (by rw [hneg]; cases isNeq bop <;> rfl) (Option.some.inj hE).symm
            · cases hc
          cases bop <;> dsimp only at hc <;> first | (cases hc; done) | skip
          · exact go (.inl rfl) rfl hc
          · exact go (.inr rfl) rfl hc
        | slice se =>
          have go : ∀ {neg : Bool}, (bop = .eql ∨ bop = .neq) → neg = isNeq bop → (if nilS y = true then some (I.isns neg x') else none) = some i → Goes P ⟨dst, .binOp bop T x y T2, type, pos, after, guard⟩ a w (After G obj (applyO obj base e) J ι w e.r) := by
            intro neg ho hneg hc
            split at hc
            · rename_i hnil
              cases hc
              have hy : a.eval y = .slice none 0 0 := by
                unfold nilS at hnil
                split at hnil
                · rfl
                · cases hnil
              have hrx := rep_ev S he h1
              have fin : ∀ {v : Option Addr} {n c : Nat}, a.eval x = .slice v n c → (e.nw = [] ∧ e.wr = [] ∧ Rep J w ι e.r (.bool (bif isNeq bop then !v.isNone else v.isNone))) → Goes P ⟨dst, .binOp bop T x y T2, type, pos, after, guard⟩ a w (After G obj (applyO obj base e) J ι w e.r) := by
                intro v n c hv hr
                exact Goes.value (s := (do eqGuard bop T x y (a.eval x) (a.eval y); Go.binOp bop T (a.eval x) (a.eval y))) rfl (by rw [hv, hy]; exact run_iss ho hU x y v n c w) (stay hr.1 hr.2.1 hr.2.2)
              simp only [effF] at hE
              split at hE <;> first | (cases hE; done) | skip
              · rename_i hev
                cases hE
                rw [hev] at hrx
                have hv : a.eval x = .slice none 0 0 := hrx
                exact fin hv ⟨rfl, rfl, by rw [hneg]; cases isNeq bop <;> rfl⟩
              · rename_i hev
                cases hE
                rw [hev] at hrx
                obtain ⟨sa, n, cap, hv, _, _, hr⟩ := hrx
                refine fin hv ⟨rfl, rfl, ?_⟩
                dsimp only
                split
                · exact ⟨_, rfl⟩
                · rename_i hne
                  rcases hr with hr | ⟨b, off, hsa, _⟩
                  · exact absurd (by rw [hr]; rfl) hne
                  · rw [hneg, hsa]; cases isNeq bop <;> rfl
              · rename_i hev
                cases hE
                rw [hev] at hrx
                rcases hrx with ⟨hz, sa, hv⟩ | ⟨b, cap, et', C, hb, hv, _⟩
                · refine fin hv ⟨rfl, rfl, ?_⟩
                  dsimp only
                  rw [if_pos hz]
                  exact ⟨_, rfl⟩
                · refine fin hv ⟨rfl, rfl, ?_⟩
                  dsimp only
                  split
                  · exact ⟨_, rfl⟩
                  · rw [hneg]; cases isNeq bop <;> rfl
            · cases hc
          cases bop <;> dsimp only at hc <;> first | (cases hc; done) | skip
          · exact go (.inl rfl) rfl hc
          · exact go (.inr rfl) rfl hc
        | _ => cases bop <;> (dsimp only at hc; cases hc)
    · cases hc
  | unOp uop T x =>
    cases uop <;> simp only [convI] at hc <;> first | (cases hc; done) | skip
    · split at hc
      · rename_i y hy; cases hc
        have hrx := rep_ev S he hy
        simp only [effF] at hE
        split at hE
        · rename_i k p hp
          rw [hp] at hrx
          cases hE
          have e1 : a.eval x = .int k p := hrx
          exact Goes.value (s := Op.unary .neg (a.eval x)) rfl (by rw [e1]; rfl) (stay rfl rfl rfl)
        · cases hE
      · cases hc
    · split at hc
      · rename_i y hy; cases hc
        have hrx := rep_ev S he hy
        simp only [effF] at hE
        split at hE
        · rename_i p hp
          rw [hp] at hrx
          cases hE
          have e1 : a.eval x = .bool p := hrx
          exact Goes.value (s := Op.unary .not (a.eval x)) rfl (by rw [e1]; rfl) (stay rfl rfl rfl)
        · cases hE
      · cases hc
  | convert S' T x =>
    simp only [convI] at hc
    split at hc
    · rename_i y k k' h1 h2 h3; cases hc
      have hrx := rep_ev S he h1
      simp only [effF] at hE
      split at hE
      · rename_i kk n hp
        rw [hp] at hrx
        cases hE
        have e1 : a.eval x = .int kk n := hrx
        refine Goes.value (s := Go.convert S' T (a.eval x)) rfl ?_ (stay rfl rfl rfl)
        rw [e1]
        simp only [Go.convert, Sem.run_bind, run_underlying h2 w, run_underlying h3 w, Result.andThen_ok]
        rfl
      · cases hE
    · cases hc
  | fieldAddr T x f =>
    simp only [convI] at hc
    split at hc
    · rename_i y fs h1 h2
      split at hc
      · rename_i fd h3
        split at hc
        · rename_i n h4
          cases hc
          have hrx := rep_ev S he h1
          simp only [effF] at hE
          split at hE <;> first | (cases hE; done) | skip
          · rename_i o col hev
            cases hE
            rw [hev] at hrx
            obtain ⟨b, hb, hv⟩ := hrx
            exact Goes.value (s := Instr.fieldAt T (a.eval x) f) rfl (by rw [hv]; exact run_fieldAt h2 h3 h4 b col w) (stay rfl rfl ⟨b, hb, rfl⟩)
          · rename_i o n' e' r c hev
            cases hE
            rw [hev] at hrx
            obtain ⟨b, hb, hv⟩ := hrx
            exact Goes.value (s := Instr.fieldAt T (a.eval x) f) rfl (by rw [hv]; exact run_fieldAt h2 h3 h4 b _ w) (stay rfl rfl ⟨b, hb, by simp; omega⟩)
          · rename_i r c hev
            cases hE
            rw [hev] at hrx
            obtain ⟨b, off, hb, hv, h⟩ := hrx
            exact Goes.value (s := Instr.fieldAt T (a.eval x) f) rfl (by rw [hv]; exact run_fieldAt h2 h3 h4 b _ w) (stay rfl rfl ⟨b, off, hb, by simp; omega, h⟩)
        · cases hc
      · cases hc
    · cases hc
  | field T x f =>
    simp only [convI] at hc
    split at hc
    · rename_i y fs h1 h2
      split at hc
      · rename_i fd h3
        split at hc
        · rename_i n h4 h5
          cases hc
          have hrx := rep_ev S he h1
          simp only [effF] at hE
          split at hE
          · rename_i cs hev
            rw [hev] at hrx
            obtain ⟨xs, hv, hcs⟩ := hrx
            split at hE
            · rename_i hl
              cases hE
              refine Goes.value (s := Instr.field T (a.eval x) f) rfl (v := .agg (xs.extract fd.offset (fd.offset + n))) (by
                rw [hv]
                simp only [Instr.field, Sem.run_bind, run_underlying h2 w, Result.andThen_ok, h3, asAgg, Sem.run_pure, run_partn h4 h5]) (stay rfl rfl ⟨_, rfl, ?_⟩)
              have := (hcs.drop fd.offset).take n
              simpa [Array.toList_extract, List.extract_eq_take_drop] using this
            · cases hE
          · cases hE
        · rename_i n h4 h5
          cases hc
          have hrx := rep_ev S he h1
          simp only [effF] at hE
          split at hE
          · rename_i cs hev
            rw [hev] at hrx
            obtain ⟨xs, hv, hcs⟩ := hrx
            split at hE
            · rename_i v hl
              cases hE
              obtain ⟨u, hu, _, hru⟩ := hcs.get hl
              refine Goes.value (s := Instr.field T (a.eval x) f) rfl (v := u) (by
                rw [hv]
                simp only [Instr.field, Sem.run_bind, run_underlying h2 w, Result.andThen_ok, h3, asAgg, Sem.run_pure]
                exact run_part h4 (by simpa using hu)) (stay rfl rfl hru)
            · cases hE
          · cases hE
        · cases hc
      · cases hc
    · cases hc
  | indexAddr T x y =>
    simp only [convI] at hc
    split at hc
    · rename_i x' y' el h1 h2 h3
      split at hc
      · rename_i n h4; cases hc
        obtain ⟨v, hv, hr, h5, h6⟩ := ixa_sound S he h1 h2 h3 h4 hE
        exact Goes.value (s := Instr.indexAt T (a.eval x) (a.eval y)) rfl hv (stay h5 h6 hr)
      · cases hc
    · rename_i x' y' len el h1 h2 h3
      split at hc
      · rename_i n h4; cases hc
        obtain ⟨v, hv, hr, h5, h6⟩ := ixr_sound S he h1 h2 h3 h4 hE
        exact Goes.value (s := Instr.indexAt T (a.eval x) (a.eval y)) rfl hv (stay h5 h6 hr)
      · cases hc
    · cases hc
  | index T x y =>
    simp only [convI] at hc
    split at hc
    · rename_i x' y' len el h1 h2 h3
      split at hc
      · rename_i h4 h5; cases hc
        have hrx := rep_ev S he h1
        have hry := rep_ev S he h2
        simp only [effF] at hE
        split at hE
        · rename_i k j hev
          rw [hev] at hry
          have hY : a.eval y = .int k j := hry
          split at hE
          · rename_i h0
            split at hE
            · rename_i cs hxe
              rw [hxe] at hrx
              obtain ⟨xs, hv, hcs⟩ := hrx
              split at hE
              · rename_i v hl
                cases hE
                obtain ⟨u, hu, _, hru⟩ := hcs.get hl
                obtain ⟨ii, hii, hn⟩ := info_of_sizeT h5
                have hcnd : 0 ≤ j ∧ j < (len : Int) := ⟨h0.1, by omega⟩
                refine Goes.value (s := Instr.index T (a.eval x) (a.eval y)) rfl (v := u) (by
                  rw [hv, hY]
                  have hsz : (Go.sizeOf el).run P w = .ok 1 w := by simp [Go.sizeOf, typeInfo, hii, hn]
                  simp only [Instr.index, asIntOf, Sem.run_bind, Sem.run_pure, Result.andThen_ok, run_underlying h3 w]
                  rw [if_pos hcnd]
                  simp only [Sem.run_bind, hsz, Result.andThen_ok]
                  exact run_part h4 (by simpa using hu)) (stay rfl rfl hru)
              · cases hE
            · cases hE
          · cases hE
        · cases hE
      · rename_i n h4 h5; cases hc
        have hrx := rep_ev S he h1
        have hry := rep_ev S he h2
        simp only [effF] at hE
        split at hE
        · rename_i k j hev
          rw [hev] at hry
          have hY : a.eval y = .int k j := hry
          split at hE
          · rename_i h0
            split at hE
            · rename_i cs hxe
              rw [hxe] at hrx
              obtain ⟨xs, hv, hcs⟩ := hrx
              split at hE
              · rename_i hl
                cases hE
                obtain ⟨ii, hii, hn⟩ := info_of_sizeT h5
                have hcnd : 0 ≤ j ∧ j < (len : Int) := ⟨h0.1, by omega⟩
                refine Goes.value (s := Instr.index T (a.eval x) (a.eval y)) rfl (v := .agg (xs.extract (j.toNat * n) (j.toNat * n + n))) (by
                  rw [hv, hY]
                  have hsz : (Go.sizeOf el).run P w = .ok n w := by simp [Go.sizeOf, typeInfo, hii, hn]
                  simp only [Instr.index, asIntOf, Sem.run_bind, Sem.run_pure, Result.andThen_ok, run_underlying h3 w]
                  rw [if_pos hcnd]
                  simp only [Sem.run_bind, hsz, Result.andThen_ok]
                  exact run_partn h4 h5) (stay rfl rfl ⟨_, rfl, ?_⟩)
                have := (hcs.drop (j.toNat * n)).take n
                simpa [Array.toList_extract, List.extract_eq_take_drop] using this
              · cases hE
            · cases hE
          · cases hE
        · cases hE
      · cases hc
    · rename_i x' y' h1 h2 h3
      cases hc
      have hrx := rep_ev S he h1
      have hry := rep_ev S he h2
      simp only [effF] at hE
      split at hE
      · rename_i k j s hev hxe
        rw [hev] at hry; rw [hxe] at hrx
        have hY : a.eval y = .int k j := hry
        have hX : a.eval x = .string s := hrx
        split at hE
        · rename_i h0
          split at hE
          · rename_i b hb
            cases hE
            refine Goes.value (s := Instr.index T (a.eval x) (a.eval y)) rfl (v := .int .u8 b.toNat) (by
              rw [hX, hY]
              simp only [Instr.index, asIntOf, Sem.run_bind, Sem.run_pure, Result.andThen_ok, run_underlying h3 w]
              rw [if_pos h0]
              have : s[j.toNat]? = some b := by
                have hlt : j.toNat < s.data.toList.length := (List.getElem?_eq_some_iff.1 hb).1
                have hlt' : j.toNat < s.size := by simpa using hlt
                rw [getElem?_pos s j.toNat hlt']
                have := (List.getElem?_eq_some_iff.1 hb).2
                rw [← this]; rfl
              rw [this]; rfl) (stay rfl rfl rfl)
          · cases hE
        · cases hE
      · cases hE
    · cases hc
  | slice T x lo hi mx =>
    simp only [convI] at hc
    split at hc
    · rename_i x' lo' hi' mx' el h1 h2 h3 h4 hu
      split at hc
      · rename_i n h5
        split at hc
        · rename_i hmh
          cases hc
          obtain ⟨v, hv, hr, h6, h7⟩ := sli_sound S he h1 h2 h3 h4 hmh hu h5 hE
          exact Goes.value (s := Instr.sliceAt T (a.eval x) (lo.map a.eval) (hi.map a.eval) (mx.map a.eval)) rfl hv (stay h6 h7 hr)
        · cases hc
      · cases hc
    · rename_i x' lo' hi' h1 h2 h3 h4 hu
      cases hc
      have hmx : mx = none := by
        cases mx with
        | none => rfl
        | some X => simp only [convOpdO] at h4; split at h4 <;> cases h4
      subst hmx
      have hrx := rep_ev S he h1
      simp only [effF] at hE
      split at hE
      · rename_i s hev
        rw [hev] at hrx
        have hv : a.eval x = .string s := hrx
        split at hE
        · rename_i l h b1 b2
          split at hE
          · rename_i hcnd
            cases hE
            exact Goes.value (s := Instr.sliceAt T (a.eval x) (lo.map a.eval) (hi.map a.eval) none) rfl (v := .string (s.extract l h)) (by rw [hv]; exact run_sls hu (bv_of S he h2 b1) (bv_of S he h3 b2) hcnd.1 hcnd.2 w) (stay rfl rfl rfl)
          · cases hE
        · cases hE
      · cases hE
    · cases hc
  | makeFunc f p q =>
    simp only [convI] at hc
    split at hc
    · rename_i p' q' h1 h2; cases hc
      simp only [effF] at hE; cases hE
      refine Goes.of_run (v := .func f (p.map a.eval) (q.map a.eval)) rfl (stay rfl rfl ⟨_, _, rfl, ?_, ?_⟩)
      · have := rep_evs S he h1; simpa using this
      · have := rep_evs S he h2; simpa using this
    · cases hc
  | extract x k =>
    simp only [convI] at hc
    split at hc
    · rename_i y hy; cases hc
      have hrx := rep_ev S he hy
      simp only [effF] at hE
      split at hE
      · rename_i vs hev
        rw [hev] at hrx
        obtain ⟨xs, hv, hvs⟩ := hrx
        split at hE
        · rename_i v hl
          cases hE
          obtain ⟨u, hu, hru⟩ := hvs.get hl
          exact Goes.value (s := Instr.extract (a.eval x) k) rfl (v := u) (by
            rw [hv]
            have : xs[k]? = some u := by simpa using hu
            simp [Instr.extract, this]) (stay rfl rfl hru)
        · cases hE
      · cases hE
    · cases hc
  | call c =>
    obtain ⟨callee, args, ts⟩ := c
    cases callee with
    | value f =>
      simp only [convI] at hc
      split at hc
      · cases hc; simp [effF] at hE
      · cases hc
    | invoke r m => simp [convI] at hc
    | builtin b =>
      cases b with
      | len =>
        simp only [convI] at hc
        split at hc
        · rename_i x T hargs hT
          have ha : args = #[x] := by apply Array.ext'; simpa using hargs
          subst ha
          have hx : execOp a.eval ⟨dst, .call ⟨.builtin .len, #[x], ts⟩, type, pos, after, guard⟩ = (do pure (.value (← Builtin.len_ ts type #[a.eval x]))) := by simp [execOp, resolve, invoke, builtin]
          split at hc
          · rename_i y h1 h2; cases hc
            have hrx := rep_ev S he h1
            simp only [effF] at hE
            split at hE
            · rename_i s hev
              cases hE
              rw [hev] at hrx
              have hv : a.eval x = .string s := hrx
              exact Goes.value hx (v := .int .i64 s.size) (by simp [Builtin.len_, hT, run_underlying h2, hv, goInt]) (stay rfl rfl rfl)
            · cases hE
          · rename_i y el h1 h2; cases hc
            have hrx := rep_ev S he h1
            have sl : ∀ {sa : Option Addr} {n cap : Nat}, a.eval x = .slice sa n cap → (Builtin.len_ ts type #[a.eval x]).run P w = .ok (.int .i64 n) w := by
              intro sa n cap hv
              simp [Builtin.len_, hT, run_underlying h2, hv, goInt]
            simp only [effF] at hE
            split at hE
            · rename_i e' rows hev
              cases hE
              rw [hev] at hrx
              obtain ⟨sa, n, cap, hv, hn, _⟩ := hrx
              exact Goes.value hx (sl hv) (stay rfl rfl (by rw [hn]; rfl))
            · rename_i hev
              cases hE
              rw [hev] at hrx
              have hv : a.eval x = .slice none 0 0 := hrx
              exact Goes.value hx (sl hv) (stay rfl rfl rfl)
            · rename_i o n e' lo len hev
              cases hE
              rw [hev] at hrx
              rcases hrx with ⟨h0, sa, hv⟩ | ⟨b, cap, et', C, hb, hv, _⟩
              · exact Goes.value hx (sl hv) (stay rfl rfl (by rw [h0]; rfl))
              · exact Goes.value hx (sl hv) (stay rfl rfl rfl)
            · cases hE
          · cases hc
        · cases hc
      | append =>
        simp only [convI] at hc
        split at hc
        · rename_i x y tx ty hargs hts
          have ha : args = #[x, y] := by apply Array.ext'; simpa using hargs
          have ht : ts = #[tx, ty] := by apply Array.ext'; simpa using hts
          subst ha; subst ht
          split at hc
          · rename_i x' y' el h1 h2 h3 h4
            split at hc
            · rename_i n b h5
              cases hc
              obtain ⟨i, z, hi, hz, rfl, rfl, hzc, hb0, hs0⟩ := elemT_spec h5
              have hk : (∃ e', P.underlying ty = some (.slice e')) ∨ P.underlying ty = some .string := by
                unfold srcT at h4
                split at h4
                · rename_i e' hq; exact .inl ⟨e', hq⟩
                · rename_i hq; exact .inr hq
                · cases h4
              have hrx := rep_ev S he h1
              have hry := rep_ev S he h2
              simp only [effF] at hE
              split at hE
              · rename_i new rd hsrc
                obtain ⟨news, s1, s2, s3⟩ := src_sound (P := P) (tx := ty) S hk hsrc hry
                split at hE
                · rename_i hev
                  rw [hev] at hrx
                  have hv : a.eval x = .slice none 0 0 := hrx
                  split at hE
                  · rename_i hfit
                    cases hE
                    have hb : obj base = .free := by simpa using hfree 0 (by simp)
                    obtain ⟨u, w', hrun, hA⟩ := After.appNil (P := P) (t := tx) (ty := type) S hb h3 hi hz hzc hb0 s1 s2 s3 hfit
                    exact Goes.value (s := Builtin.append_ #[tx, ty] type #[a.eval x, a.eval y]) (by simp [execOp, resolve, invoke, builtin]) (by rw [hv]; exact hrun) hA
                  · cases hE
                · rename_i o n e' lo len hev
                  rw [hev] at hrx
                  split at hE
                  · rename_i et' e'' rows ho
                    split at hE
                    · rename_i hcond
                      obtain ⟨rfl, rfl, rfl, rfl, rfl, rfl, hfit⟩ := hcond
                      cases hE
                      obtain ⟨u, w', hrun, hA⟩ := After.appOwn (P := P) (t := tx) (ty := type) S ho hrx h3 hi hz hzc hb0 s1 s2 s3 hfit
                      exact Goes.value (s := Builtin.append_ #[tx, ty] type #[a.eval x, a.eval y]) (by simp [execOp, resolve, invoke, builtin]) hrun hA
                    · cases hE
                  · cases hE
                · cases hE
              · cases hE
            · cases hc
          · cases hc
        · cases hc
      | min =>
        simp only [convI] at hc
        split at hc
        · rename_i x y hargs
          have ha : args = #[x, y] := by apply Array.ext'; simpa using hargs
          subst ha
          split at hc
          · rename_i x' y' h1 h2
            cases hc
            have hrx := rep_ev S he h1
            have hry := rep_ev S he h2
            simp only [effF] at hE
            split at hE
            · rename_i k p k' q hp hq
              cases hE
              rw [hp] at hrx; rw [hq] at hry
              have hx : a.eval x = .int k p := hrx
              have hy : a.eval y = .int k' q := hry
              exact Goes.value (s := Builtin.min_ ts type #[a.eval x, a.eval y]) (by simp [execOp, resolve, invoke, builtin]) (v := .int k (if q < p then q else p)) (by rw [hx, hy]; simp [Builtin.min_, Builtin.min2]) (stay rfl rfl rfl)
            · cases hE
          · cases hc
        · cases hc
      | _ => simp [convI] at hc
  | _ => simp [convI] at hc
end
end Dv
