/- The logical machine and its plain laws: parts S14, S15, S16, S17, proved sound. -/
import Derived.Test.YtcfcigjkijkhdaaDoorSD
import Derived.Test.YtcfcigjkijkhdaaDoorSC
set_option linter.unusedVariables false
set_option linter.unusedSimpArgs false
namespace Dv
open Go Go.Proofs
/-- an entry's fields, as the model's value. -/
def entL (e : EntD) : List Value := [.int .i64 e.kind, .int .i64 e.a, .int .i64 e.b, .int .i64 e.op.kind, .int .i64 e.op.a, .int .i64 e.op.b, .int .i64 e.op.c, .int .i64 e.op.d, .int .i64 e.op.e, .int .i64 e.op.f]
theorem entry_calls {G : Nat → Option (List DV)} (h : OG G) {J : Nat → Prop} {ι : Nat → Nat → Option Nat} {w : World} (S : Store G J w ι (objL [])) (t : ByteArray) (ht : t.size ≤ 1000000) :
    Calls Tryd.prog 8 #[.string t] w fun e w' => e = .returned (.tuple #[.agg ⟨entL ((entryE t).getD zeroEnt)⟩, .bool (entryE t).isSome]) ∧ RowKit.Below w.heap.size w w' := by
  refine ((entry_tri h t ht).plain S (vs := #[.string t]) ⟨rfl, trivial⟩).mono fun e w' hh => ?_
  obtain ⟨v, rfl, ⟨J', ι', _, hr, _⟩, hB⟩ := hh
  obtain ⟨us, rfl, hr⟩ := hr
  obtain ⟨us⟩ := us
  match us, hr with
  | [a, b], ⟨h1, h2, _⟩ =>
    have h2 : b = .bool _ := h2
    subst h2
    obtain ⟨cs, rfl, hcs⟩ := h1
    obtain ⟨cl⟩ := cs
    generalize (entryE t).getD zeroEnt = q at *
    match cl, hcs with
    | [c0, c1, c2, c3, c4, c5, c6, c7, c8, c9], ⟨_, e0, _, e1, _, e2, _, e3, _, e4, _, e5, _, e6, _, e7, _, e8, _, e9, _⟩ =>
      simp only [LV.int, Rep, RepD] at e0 e1 e2 e3 e4 e5 e6 e7 e8 e9
      subst e0 e1 e2 e3 e4 e5 e6 e7 e8 e9
      exact ⟨rfl, hB⟩
def stepL (p : List EntD × List Int) (x : Nat × ByteArray) : List EntD × List Int := stepP entryE x.2 x.1 p
def parseS (s : ByteArray) : List EntD × List Int := (linesT 1 s).foldl stepL ([], [])
def cellsE (l : List EntD) : List Value := (l.map entL).flatten
def cellsN (l : List Int) : List Value := (l.map fun n => [Value.int .i64 n]).flatten
theorem resP_eq (p : List EntD × List Int) : resP p = .tup [.d (.lst 10 ((p.1.map entL).map fun r => r.map DV.val)), .d (.lst 1 ((p.2.map fun n => [Value.int .i64 n]).map fun r => r.map DV.val))] := by
  simp only [resP, entsV, entRows, numR, List.map_map]
  rfl
theorem cellsN_app (l : List Int) (n : Int) : cellsN (l ++ [n]) = cellsN l ++ [.int .i64 n] := by simp [cellsN]
theorem cellsE_app (l : List EntD) (e : EntD) : cellsE (l ++ [e]) = cellsE l ++ entL e := by simp [cellsE]
end Dv
namespace Go.Proofs
open Go.RowKit Go.Shelf
attribute [local go_sem] Oper.semAt_some
theorem lines_in (n : Nat) (s : ByteArray) (w : World) :
    CallsIn Fence.wide n Tryd.prog 35 #[.string s] w fun e w' => e = .returned (.func (.func 49) #[] #[.pointer (some ⟨w.heap.size, 0, none⟩)]) ∧ w' = w.alloc (.cells #[.string s] 9) := by
  refine callsIn_of_wp Tryd.func35 rfl trivial ?_ rfl
  simp only [Tryd.ntmps35, List.size_toArray, List.length_cons, List.length_nil, Nat.reduceAdd, Nat.reduceSub, Array.replicate_succ, Array.replicate_zero, List.push_toArray, List.append_toArray, List.nil_append, List.cons_append]
  gi_wp2
  go_ret
  exact ⟨rfl, rfl⟩

/-- what Parse keeps of its world, of what was read so far. -/
def PInv (w : World) (n0 : Nat) (pre : List (Nat × ByteArray)) (W : World) : Prop :=
  Below w.heap.size w W ∧ (∃ v, Boxed W w.heap.size 32 v ∧ W.ownsRow n0 25 10 v (pre.foldl Dv.stepL ([], [])).1.length (Dv.cellsE (pre.foldl Dv.stepL ([], [])).1)) ∧
  (∃ v, Boxed W (w.heap.size + 1) 33 v ∧ W.ownsRow n0 3 1 v (pre.foldl Dv.stepL ([], [])).2.length (Dv.cellsN (pre.foldl Dv.stepL ([], [])).2)) ∧ n0 ≤ W.heap.size ∧ (pre.foldl Dv.stepL ([], [])).1.length ≤ pre.length ∧ (pre.foldl Dv.stepL ([], [])).2.length ≤ pre.length

theorem ownsRow_away {A A' : World} {row : Option Nat} {n0 : Nat} {e : TypeId} {size : Nat} {v : Value} {k : Nat} {xs : List Value} (hr : A.ownsRow n0 e size v k xs) (hg : A.grownBy A' row) (h : ∀ r, row = some r → r < n0 ∨ ∃ o : Obj, A.heap[r]? = some o ∧ o.isCells = false) : A'.ownsRow n0 e size v k xs := by
  refine hr.kept hg ?_
  rcases hr.2 with ⟨rfl, _⟩ | ⟨g, cap, cur, rfl, hb, hgb, _⟩
  · exact .inl rfl
  · refine .inr fun e' => ?_
    rcases h g (by simpa [Value.ownBlock] using e'.symm) with h1 | ⟨o, ho, hc⟩
    · omega
    · rw [hgb] at ho; cases ho; cases hc
theorem pinv_own (w : World) (n0 B : Nat) (h0 : n0 = w.heap.size + 3) (hB : B = w.heap.size + 1 + 1) : OwnB B n0 (PInv w n0) := by
  rintro s A A' row ⟨h1, ⟨v, h2, h3⟩, ⟨u, h4, h5⟩, h6, h7⟩ hg hr
  have hne : ∀ k, k < B → some k ≠ row := fun k hk e => by
    rcases hr k e.symm with rfl | ⟨h, _⟩ <;> omega
  refine ⟨h1.grown hg (by omega) (fun k e => ?_), ⟨v, h2.kept hg (hne _ (by omega)), ownsRow_away h3 hg (fun r e => ?_)⟩, ⟨u, h4.kept hg (hne _ (by omega)), ownsRow_away h5 hg (fun r e => ?_)⟩, Nat.le_trans h6 hg.size, h7⟩
  · rcases hr k e with rfl | ⟨h, _⟩ <;> omega
  · rcases hr r e with rfl | ⟨_, h⟩
    · exact .inl (by omega)
    · exact .inr h
  · rcases hr r e with rfl | ⟨_, h⟩
    · exact .inl (by omega)
    · exact .inr h
set_option maxRecDepth 100000 in
set_option maxHeartbeats 2000000 in
theorem parse_tri {G : Nat → Option (List Dv.DV)} (h : Dv.OG G) (s : ByteArray) (hs : s.size ≤ 900000) : Dv.Tri Tryd.prog G 14 [.d (.val (.string s))] [] (Dv.resP (Dv.parseS s)) [] := by
  refine ⟨by decide, fun J ι w vs S hR => ?_⟩
  obtain ⟨vl⟩ := vs
  match vl, hR with
  | [vt], ⟨ht, _⟩ =>
  have ht : vt = .string s := ht
  subst ht
  refine (callsIn_wide (n := 8)).1 ?_
  refine callsIn_of_wp_marks Tryd.func14 rfl trivial ?_ rfl
  simp only [Tryd.ntmps14, List.size_toArray, List.length_cons, List.length_nil, Nat.reduceAdd, Nat.reduceSub, Array.replicate_succ, Array.replicate_zero, List.push_toArray, List.append_toArray, List.nil_append, List.cons_append]
  gi_wp2_with (refine ⟨trivial, ?_⟩; gi_at_call 35; refine (lines_in _ _ _).mono ?_; rintro e w' ⟨rfl, rfl⟩)
  obtain ⟨W0, hW0⟩ : ∃ W0, ((w.alloc (Obj.cells #[Value.slice none 0 0] 32)).alloc (Obj.cells #[Value.slice none 0 0] 33)).alloc (Obj.cells #[Value.string s] 9) = W0 := ⟨_, rfl⟩
  have hsz : W0.heap.size = w.heap.size + 3 := by rw [← hW0]; simp
  have hB0 : Below w.heap.size w W0 := by
    rw [← hW0]
    exact (((Below.refl _ w).alloc (Nat.le_refl _) _).alloc (by simp) _).alloc (by simp; omega) _
  have b0 : Boxed W0 w.heap.size 32 (.slice none 0 0) := by rw [← hW0]; exact ((Boxed.new w _ _).alloc _).alloc _
  have b1 : Boxed W0 (w.heap.size + 1) 33 (.slice none 0 0) := by
    rw [← hW0]
    have := (Boxed.new (w.alloc (Obj.cells #[Value.slice none 0 0] 32)) 33 (.slice none 0 0)).alloc (Obj.cells #[Value.string s] 9)
    rwa [World.size_alloc] at this
  have b2 : Boxed W0 (w.heap.size + 1 + 1) 9 (.string s) := by
    rw [← hW0]
    have := Boxed.new ((w.alloc (Obj.cells #[Value.slice none 0 0] 32)).alloc (Obj.cells #[Value.slice none 0 0] 33)) 9 (.string s)
    rwa [World.size_alloc, World.size_alloc] at this
  rw [hW0]
  have hst : ∀ A, Below w.heap.size w A → Dv.Store G J A ι (Dv.objL []) := fun A hb => S.still (fun b h => hb.block b (S.jlt b h)) (fun b h => hb.block b (S.own_lt h)) (fun b h => Dv.shape_of_heap (hb.block b (Dv.shape_lt h)))
  refine wpIn_rangeFunc_box (n := 8) rfl (by decide) (gf := 49) (lb := #[.pointer (some ⟨w.heap.size + 1 + 1, 0, none⟩)]) rfl trivial (enters_of Tryd.func49 (by kernel_rfl) rfl)
    (encs := fun x : Nat × ByteArray => #[.int .i64 (x.1 : Nat), .string x.2]) (B := w.heap.size + 1 + 1) (N := s.size) (Px := fun x => x.2.size ≤ s.size) (xs := Dv.linesT 1 s) (by omega) (fun _ => rfl) (PInv w W0.heap.size) (pinv_own w _ _ hsz rfl)
    ⟨hB0, ⟨_, b0, World.ownsRow_nil _ _ _ _⟩, ⟨_, b1, World.ownsRow_nil _ _ _ _⟩, Nat.le_refl _, Nat.le_refl _, Nat.le_refl _⟩
    (fun x => { tmps := #[.string s, undef, .slice none 0 0, .slice none 0 0, .pointer (some ⟨w.heap.size, 0, none⟩), .pointer (some ⟨w.heap.size + 1, 0, none⟩), .int .i64 (x.1 : Nat), .string x.2, undef, undef, .string s, .func (.func 49) #[] #[.pointer (some ⟨w.heap.size + 1 + 1, 0, none⟩)], .int .i64 (x.1 : Nat), .string x.2, undef, undef, undef, undef, undef, undef, undef, undef, undef, undef, undef, undef, undef, undef, undef, undef, undef, undef, undef, undef, undef, undef, undef], defers := [] })
    (fun l K W hK hKI hY hold h0 => lines1_in h 7 (by decide) l _ s hs K hK (fun pre A hj => ⟨J, ι, hst A (hKI pre A hj).1⟩) hY W ((hold _ (by omega)).trans b2) h0) ?assign ?body ?done
  case assign =>
    intro l x W K hK
    gi_wp2
    exact hK
  case body =>
    rintro l pre ⟨k, line⟩ W hI hlen hpx
    dsimp only at hpx
    have hI0 := hI
    have hfold : ∀ p : List Dv.EntD × List Int, (pre.foldl Dv.stepL ([], [])) = p → (pre ++ [(k, line)]).foldl Dv.stepL ([], []) = Dv.stepP Dv.entryE line k p := fun p hp => by
      rw [List.foldl_append, hp]; rfl
    have hskip : (line = ⟨#[]⟩ ∨ line.data.toList[0]? = some 35) → PInv w W0.heap.size (pre ++ [(k, line)]) W := fun hc => by
      have h2 := hfold _ rfl
      rw [Dv.stepP, if_pos hc] at h2
      obtain ⟨i1, i2, i3, i4, i5, i6⟩ := hI
      refine ⟨i1, ?_, ?_, i4, ?_, ?_⟩ <;> rw [h2]
      · exact i2
      · exact i3
      · rw [List.length_append]; omega
      · rw [List.length_append]; omega
    by_cases hl0 : line = ⟨#[]⟩
    · have hP := hskip (.inl hl0)
      subst hl0
      gi_wp2
      rw [← hsz]
      exact ⟨KeepsFrom.refl _ _, hP⟩
    have hl1 : line.size ≠ 0 := fun e => hl0 (Dv.data_ext (List.eq_nil_of_length_eq_zero (by rw [Dv.bs_len]; exact e)))
    have hnl : ¬ line.toList = [] := by rw [ByteArray.toList_eq]; exact fun e => hl0 (Dv.data_ext e)
    have hq : ∀ hp : 0 < line.size, line.data.toList[0]? = some (line[0]'hp) := fun hp => by
      rw [List.getElem?_eq_getElem (by rw [Dv.bs_len]; exact hp)]; rfl
    obtain ⟨hBW, ⟨v, hv, hvr⟩, ⟨u, hu, hur⟩, hWs, hln1, hln2⟩ := hI
    gi_wp2
    · have hx := ‹line.toList.isEmpty = true ∨ _›
      have hp := ‹0 < line.size›
      have h35 : line.data.toList[0]? = some 35 := by
        rcases hx with hx | hx
        · exact absurd (List.isEmpty_iff.1 hx) hnl
        · rw [hq hp]
          have : ((line[0]'hp).toNat : Int) = 35 := by simpa using hx
          congr 1
          exact UInt8.toNat_inj.1 (by rw [show (line[0]'hp).toNat = 35 by omega]; rfl)
      rw [← hsz]
      exact ⟨KeepsFrom.refl _ _, hskip (.inr h35)⟩
    have hx := ‹line.toList.isEmpty = false ∧ _›
    have hp := ‹0 < line.size›
    have h35 : ¬ line.data.toList[0]? = some 35 := by
      rw [hq hp]
      intro e
      have e : line[0]'hp = 35 := Option.some.inj e
      have := hx.2
      rw [e] at this
      exact absurd this (by decide)
    have hst2 := hfold _ rfl
    rw [Dv.stepP, if_neg (by rintro (e | e); exact hl0 e; exact h35 e)] at hst2
    have hSW := hst W hBW
    refine ⟨trivial, ?_⟩
    refine CallsIn.mono (CallsIn.inRound l (callsIn_wide.2 (Dv.entry_calls h hSW line (by omega)))) ?_
    rintro e W2 ⟨rfl, hB2⟩
    have hv2 : Boxed W2 w.heap.size 32 v := (hB2.block _ hv.lt).trans hv
    have hu2 : Boxed W2 (w.heap.size + 1) 33 u := (hB2.block _ hu.lt).trans hu
    have hg2 : W.grownBy W2 none := ⟨hB2.os, hB2.tape, hB2.output, hB2.size, fun k hk _ => hB2.block k hk⟩
    have hvr2 := ownsRow_away hvr hg2 (fun r e => by cases e)
    have hur2 := ownsRow_away hur hg2 (fun r e => by cases e)
    have hBW2 : Below w.heap.size w W2 := hBW.trans (hB2.mono hBW.size)
    cases he : Dv.entryE line with
    | none =>
      simp only [Option.getD_none, Option.isSome_none, Dv.entL, Dv.zeroEnt, Dv.zeroOp]
      have hu3 := hu2.alloc (Obj.cells #[Value.int IntKind.i64 0, Value.int IntKind.i64 0, Value.int IntKind.i64 0, Value.int IntKind.i64 0, Value.int IntKind.i64 0, Value.int IntKind.i64 0, Value.int IntKind.i64 0, Value.int IntKind.i64 0, Value.int IntKind.i64 0, Value.int IntKind.i64 0] 25)
      have hc3 := hu3.cell
      have hf3 := hu3.frozen
      have hur3 := hur2.alloc (Obj.cells #[Value.int IntKind.i64 0, Value.int IntKind.i64 0, Value.int IntKind.i64 0, Value.int IntKind.i64 0, Value.int IntKind.i64 0, Value.int IntKind.i64 0, Value.int IntKind.i64 0, Value.int IntKind.i64 0, Value.int IntKind.i64 0, Value.int IntKind.i64 0] 25)
      obtain ⟨i0, z0, q1, q2, q3, q4, q5, _⟩ := Dv.elemT_spec (P := Tryd.prog) (e := 3) (n := 1) (b := 8) (by kernel_rfl)
      have hWX : ((W2.alloc (Obj.cells #[Value.int IntKind.i64 0, Value.int IntKind.i64 0, Value.int IntKind.i64 0, Value.int IntKind.i64 0, Value.int IntKind.i64 0, Value.int IntKind.i64 0, Value.int IntKind.i64 0, Value.int IntKind.i64 0, Value.int IntKind.i64 0, Value.int IntKind.i64 0] 25)).alloc (Obj.cells #[Value.int IntKind.i64 (k : Nat)] 3)).heap.size = W2.heap.size + 1 + 1 := by simp
      have hs2 := hB2.size
      gi_wp2_with (gi_at_builtin; refine wpListIn_append_own _ rfl _ _ 33 rfl W0.heap.size 3 i0 z0 1 8 Tryd.underlying33 q1 q2 q3 q4 (q5.trans q3) (by decide) _ _ _ rfl (hur3.alloc _) ⟨W2.heap.size + 1, 0, none⟩ 1 1 [.int .i64 (k : Nat)] rfl rfl (fun j u hj => cells_new (W2.alloc (Obj.cells #[Value.int IntKind.i64 0, Value.int IntKind.i64 0, Value.int IntKind.i64 0, Value.int IntKind.i64 0, Value.int IntKind.i64 0, Value.int IntKind.i64 0, Value.int IntKind.i64 0, Value.int IntKind.i64 0, Value.int IntKind.i64 0, Value.int IntKind.i64 0] 25)) _ _ _ (by simp) j u hj) (by simp [Value.oneCell']) (by simp only [Go.maxLen]; omega) (by omega) (by simp only [hWX]; omega) (fun v' w3 hown' hg3 hz => ?_); obtain ⟨hb3, hbs, hrow', hKO, hBel, hsame, hoth⟩ := box_append hu3 (by decide) hur3 (by simp; omega) (by omega) hown' hg3; obtain ⟨g', cap', rfl⟩ := ownsRow_succ hown'; have hc4 := hb3.cell; have hf4 := hb3.frozen)
      rw [he] at hst2
      have hst2 : (pre ++ [(k, line)]).foldl Dv.stepL ([], []) = ((pre.foldl Dv.stepL ([], [])).1, (pre.foldl Dv.stepL ([], [])).2 ++ [(k : Int)]) := hst2
      refine ⟨(KeepsFrom.of_grownBy hg2 (fun r e => by cases e)).trans (((KeepsOthers.alloc W2 (Obj.cells #[Value.int IntKind.i64 0, Value.int IntKind.i64 0, Value.int IntKind.i64 0, Value.int IntKind.i64 0, Value.int IntKind.i64 0, Value.int IntKind.i64 0, Value.int IntKind.i64 0, Value.int IntKind.i64 0, Value.int IntKind.i64 0, Value.int IntKind.i64 0] 25)).from _).trans (hKO.from _)), ?_, ?_⟩
      · first
          | exact (Below.heap_alloc _ _ _ (show w.heap.size + 1 + 1 < W2.heap.size by omega)).trans (hB2.block _ (by omega))
          | exact (hsame _ (by omega) (by omega)).trans ((Below.heap_alloc _ _ _ (show w.heap.size + 1 + 1 < W2.heap.size by omega)).trans (hB2.block _ (by omega)))
      rw [← hsz]
      refine ⟨(hBW2.alloc (by omega) _).trans (hBel _ (by omega)), ?_, ?_, Nat.le_trans hWs (Nat.le_trans hs2 (Nat.le_trans (by simp) hKO.size)), ?_, ?_⟩ <;> rw [hst2]
      · exact ⟨v, (hsame _ (by omega) (by omega)).trans (hv2.alloc _), hoth _ _ _ _ _ (hvr2.alloc _) (by decide)⟩
      · exact ⟨_, hbs, by rw [List.length_append, Dv.cellsN_app]; exact hrow'⟩
      · rw [List.length_append]; dsimp only; omega
      · rw [List.length_append, List.length_append]; simp only [List.length_cons, List.length_nil]; omega
    | some e =>
      simp only [Option.getD_some, Option.isSome_some, Dv.entL]
      have hv3 := hv2.alloc (Obj.cells #[Value.int IntKind.i64 e.kind, Value.int IntKind.i64 e.a, Value.int IntKind.i64 e.b, Value.int IntKind.i64 e.op.kind, Value.int IntKind.i64 e.op.a, Value.int IntKind.i64 e.op.b, Value.int IntKind.i64 e.op.c, Value.int IntKind.i64 e.op.d, Value.int IntKind.i64 e.op.e, Value.int IntKind.i64 e.op.f] 25)
      have hc3 := hv3.cell
      have hf3 := hv3.frozen
      have hvr3 := hvr2.alloc (Obj.cells #[Value.int IntKind.i64 e.kind, Value.int IntKind.i64 e.a, Value.int IntKind.i64 e.b, Value.int IntKind.i64 e.op.kind, Value.int IntKind.i64 e.op.a, Value.int IntKind.i64 e.op.b, Value.int IntKind.i64 e.op.c, Value.int IntKind.i64 e.op.d, Value.int IntKind.i64 e.op.e, Value.int IntKind.i64 e.op.f] 25)
      obtain ⟨i0, z0, q1, q2, q3, q4, q5, _⟩ := Dv.elemT_spec (P := Tryd.prog) (e := 25) (n := 10) (b := 80) (by kernel_rfl)
      have hWX : ((W2.alloc (Obj.cells #[Value.int IntKind.i64 e.kind, Value.int IntKind.i64 e.a, Value.int IntKind.i64 e.b, Value.int IntKind.i64 e.op.kind, Value.int IntKind.i64 e.op.a, Value.int IntKind.i64 e.op.b, Value.int IntKind.i64 e.op.c, Value.int IntKind.i64 e.op.d, Value.int IntKind.i64 e.op.e, Value.int IntKind.i64 e.op.f] 25)).alloc (Obj.cells #[Value.int IntKind.i64 e.kind, Value.int IntKind.i64 e.a, Value.int IntKind.i64 e.b, Value.int IntKind.i64 e.op.kind, Value.int IntKind.i64 e.op.a, Value.int IntKind.i64 e.op.b, Value.int IntKind.i64 e.op.c, Value.int IntKind.i64 e.op.d, Value.int IntKind.i64 e.op.e, Value.int IntKind.i64 e.op.f] 25)).heap.size = W2.heap.size + 1 + 1 := by simp
      have hs2 := hB2.size
      gi_wp2_with (gi_at_builtin; refine wpListIn_append_own _ rfl _ _ 32 rfl W0.heap.size 25 i0 z0 10 80 Tryd.underlying32 q1 q2 q3 q4 (q5.trans q3) (by decide) _ _ _ rfl (hvr3.alloc _) ⟨W2.heap.size + 1, 0, none⟩ 1 1 (Dv.entL e) rfl rfl (fun j u hj => cells_new (W2.alloc (Obj.cells #[Value.int IntKind.i64 e.kind, Value.int IntKind.i64 e.a, Value.int IntKind.i64 e.b, Value.int IntKind.i64 e.op.kind, Value.int IntKind.i64 e.op.a, Value.int IntKind.i64 e.op.b, Value.int IntKind.i64 e.op.c, Value.int IntKind.i64 e.op.d, Value.int IntKind.i64 e.op.e, Value.int IntKind.i64 e.op.f] 25)) _ _ _ (by simp) j u hj) (by simp [Dv.entL, Value.oneCell']) (by simp only [Go.maxLen]; omega) (by omega) (by simp only [hWX]; omega) (fun v' w3 hown' hg3 hz => ?_); obtain ⟨hb3, hbs, hrow', hKO, hBel, hsame, hoth⟩ := box_append hv3 (by decide) hvr3 (by simp; omega) (by omega) hown' hg3; obtain ⟨g', cap', rfl⟩ := ownsRow_succ hown'; have hc4 := hb3.cell; have hf4 := hb3.frozen)
      rw [he] at hst2
      have hst2 : (pre ++ [(k, line)]).foldl Dv.stepL ([], []) = ((pre.foldl Dv.stepL ([], [])).1 ++ [e], (pre.foldl Dv.stepL ([], [])).2) := hst2
      refine ⟨(KeepsFrom.of_grownBy hg2 (fun r e => by cases e)).trans (((KeepsOthers.alloc W2 (Obj.cells #[Value.int IntKind.i64 e.kind, Value.int IntKind.i64 e.a, Value.int IntKind.i64 e.b, Value.int IntKind.i64 e.op.kind, Value.int IntKind.i64 e.op.a, Value.int IntKind.i64 e.op.b, Value.int IntKind.i64 e.op.c, Value.int IntKind.i64 e.op.d, Value.int IntKind.i64 e.op.e, Value.int IntKind.i64 e.op.f] 25)).from _).trans (hKO.from _)), ?_, ?_⟩
      · first
          | exact (Below.heap_alloc _ _ _ (show w.heap.size + 1 + 1 < W2.heap.size by omega)).trans (hB2.block _ (by omega))
          | exact (hsame _ (by omega) (by omega)).trans ((Below.heap_alloc _ _ _ (show w.heap.size + 1 + 1 < W2.heap.size by omega)).trans (hB2.block _ (by omega)))
      rw [← hsz]
      refine ⟨(hBW2.alloc (by omega) _).trans (hBel _ (by omega)), ?_, ?_, Nat.le_trans hWs (Nat.le_trans hs2 (Nat.le_trans (by simp) hKO.size)), ?_, ?_⟩ <;> rw [hst2]
      · exact ⟨_, hbs, by rw [List.length_append, Dv.cellsE_app]; exact hrow'⟩
      · exact ⟨u, (hsame _ (by omega) (by omega)).trans (hu2.alloc _), hoth _ _ _ _ _ (hur2.alloc _) (by decide)⟩
      · rw [List.length_append, List.length_append]; simp only [List.length_cons, List.length_nil]; omega
      · rw [List.length_append]; dsimp only; omega
  case done =>
    rintro D W hD ⟨hb, ⟨v, hv, hvr⟩, ⟨u, hu, hur⟩, _⟩ hK
    have hvc := hv.cell
    have huc := hu.cell
    gi_wp2
    refine wpIn_wide.2 ?_
    have mixed : Tryd.prog.follows .mixedOrders = true := by kernel_rfl
    go_region_o
    have hKd : W.drew.heap[D]? = some (.deferred (some [])) := hK
    gi_wp2
    refine ⟨by simp, .inl ⟨_, _, rfl, run_takeDeferred hKd, ?_⟩⟩
    have h1 := ownsRow_putObj (World.ownsRow.drew hvr) (.deferred none) hKd rfl
    have h2 := ownsRow_putObj (World.ownsRow.drew hur) (.deferred none) hKd rfl
    have hB4 : Below w.heap.size w (W.drew.putObj D (.deferred none)) := by
      have hd : Below w.heap.size w W.drew := ⟨hb.os, hb.tape, hb.output, hb.size, hb.block⟩
      exact hd.grown (grownBy_putObj' W.drew D (.deferred none)) hb.size (fun k e => by cases e; omega)
    refine ⟨.tuple #[v, u], ?_, _, rfl, ?_⟩
    · simp [results, Tryd.f14, go_sem]
    · rw [Dv.resP_eq]
      exact Dv.after_two S hB4 (n0 := W0.heap.size) (by omega) (by rw [List.length_map]; exact h1) (by rw [List.length_map]; exact h2) (fun r hr => by
        obtain ⟨e, _, rfl⟩ := List.mem_map.1 hr
        exact ⟨rfl, by simp [Dv.entL, Value.oneCell']⟩) (fun r hr => by
        obtain ⟨e, _, rfl⟩ := List.mem_map.1 hr
        exact ⟨rfl, by simp [Value.oneCell']⟩)
end Go.Proofs

namespace Dv
open Go Go.Proofs

theorem index_no (c : UInt8) : ∀ D : List UInt8, c ∉ D → Lib.index D [c] = -1
  | [], _ => by rw [Lib.index]; rfl
  | b :: l, h => by
    simp only [List.mem_cons, not_or] at h
    rw [Lib.index, if_neg (by simp [List.isPrefixOf, h.1]), index_no c l h.2]
    rfl
theorem index_at (c : UInt8) (r : List UInt8) : ∀ h : List UInt8, c ∉ h → Lib.index (h ++ c :: r) [c] = (h.length : Int)
  | [], _ => by rw [List.nil_append, Lib.index, if_pos (by simp [List.isPrefixOf])]; rfl
  | b :: l, h => by
    simp only [List.mem_cons, not_or] at h
    rw [List.cons_append, Lib.index, if_neg (by simp [List.isPrefixOf, h.1]), index_at c r l h.2, if_neg (by rw [beq_iff_eq]; omega)]
    simp
def TT (c : UInt8) (m : Bool) (r : List UInt8) : List UInt8 := if m = true then c :: r else []
theorem cut_of (c : UInt8) (h r : List UInt8) (m : Bool) (hc : c ∉ h) (hm : m = false → r = []) : Lib.cut (h ++ TT c m r) [c] = (h, r, m) := by
  cases m with
  | false =>
    rw [hm rfl]
    rw [show h ++ TT c false [] = h from List.append_nil h]
    unfold Lib.cut
    rw [index_no c h hc, if_neg (by decide)]
  | true =>
    unfold Lib.cut TT
    rw [if_pos rfl, index_at c r h hc, if_pos (by omega), Int.toNat_natCast, List.take_left]
    simp
theorem split_first (c : UInt8) : ∀ D : List UInt8, ∃ h m r, D = h ++ TT c m r ∧ c ∉ h ∧ (m = false → r = [])
  | [] => ⟨[], false, [], rfl, by simp, fun _ => rfl⟩
  | b :: l => by
    by_cases hb : b = c
    · exact ⟨[], true, l, by rw [hb]; rfl, by simp, fun e => by cases e⟩
    · obtain ⟨h, m, r, h1, h2, h3⟩ := split_first c l
      exact ⟨b :: h, m, r, by rw [h1]; rfl, by simp only [List.mem_cons, not_or]; exact ⟨Ne.symm hb, h2⟩, h3⟩
theorem cutS_of (c : UInt8) (s a b : ByteArray) (m : Bool) (hd : s.data.toList = a.data.toList ++ TT c m b.data.toList) (hc : c ∉ a.data.toList) (hm : m = false → b = ⟨#[]⟩) : cutS s c = (a, b, m) := by
  unfold cutS
  rw [hd, cut_of c _ _ m hc (fun e => by rw [hm e])]
theorem cut_text (c : UInt8) (s : ByteArray) : s.data.toList = (cutS s c).1.data.toList ++ TT c (cutS s c).2.2 (cutS s c).2.1.data.toList ∧ c ∉ (cutS s c).1.data.toList ∧ ((cutS s c).2.2 = false → (cutS s c).2.1 = ⟨#[]⟩) := by
  obtain ⟨h, m, r, h1, h2, h3⟩ := split_first c s.data.toList
  rw [cutS_of c s ⟨h.toArray⟩ ⟨r.toArray⟩ m h1 h2 (fun e => by rw [h3 e])]
  exact ⟨h1, h2, fun e => by dsimp only; rw [h3 e]⟩
theorem TT_inj {c : UInt8} {m m' : Bool} {a b : ByteArray} (h : TT c m a.data.toList = TT c m' b.data.toList) (h1 : m = false → a = ⟨#[]⟩) (h2 : m' = false → b = ⟨#[]⟩) : m = m' ∧ a = b := by
  cases m <;> cases m'
  · exact ⟨rfl, by rw [h1 rfl, h2 rfl]⟩
  · simp [TT] at h
  · simp [TT] at h
  · simp only [TT, if_true, List.cons.injEq, true_and] at h
    exact ⟨rfl, data_ext h⟩
theorem tail_TT (ns : List Int) (m : Bool) (r : ByteArray) (hm : m = false → r = ⟨#[]⟩) : ∃ (m2 : Bool) (r2 : ByteArray), tailT ns ++ TT 32 m r.data.toList = TT 32 m2 r2.data.toList ∧ (m2 = false → r2 = ⟨#[]⟩) := by
  cases ns with
  | nil => exact ⟨m, r, rfl, hm⟩
  | cons n ns => exact ⟨true, ⟨((itoaB n).data.toList ++ (tailT ns ++ TT 32 m r.data.toList)).toArray⟩, by simp [tailT, TT], fun e => by cases e⟩
theorem ofNums_some : ∀ (n : Nat) (rest : ByteArray) (m : Bool) (acc : List Int) {l : List Int} {r : ByteArray} {m' : Bool}, (m = false → rest = ⟨#[]⟩) → ofNums n rest m acc = some (l, r, m') →
    ∃ ns : List Int, l = acc ++ ns ∧ ns.length = n ∧ TT 32 m rest.data.toList = tailT ns ++ TT 32 m' r.data.toList ∧ (m' = false → r = ⟨#[]⟩)
  | 0, rest, m, acc, l, r, m', hm, h => by
    simp only [ofNums, Option.some.injEq, Prod.mk.injEq] at h
    obtain ⟨rfl, rfl, rfl⟩ := h
    exact ⟨[], by simp, rfl, rfl, hm⟩
  | n + 1, rest, m, acc, l, r, m', hm, h => by
    rw [ofNums] at h
    split at h
    · cases h
    rename_i hm1
    split at h
    · cases h
    rename_i hn
    obtain ⟨c1, c2, c3⟩ := cut_text 32 rest
    obtain ⟨ns, h1, h2, h3, h4⟩ := ofNums_some n _ _ _ c3 h
    refine ⟨numW (cutS rest 32).1 :: ns, by rw [h1, List.append_assoc]; rfl, by rw [List.length_cons, h2], ?_, h4⟩
    have hm1 : m = true := by simpa using hm1
    have hw := numW_back (cutS rest 32).1 (by omega)
    rw [hm1, TT, if_pos rfl, c1, h3]
    simp only [tailT, List.flatMap_cons]
    rw [hw]
    simp
theorem ofNums_of : ∀ (ns : List Int) (rest : ByteArray) (m : Bool) (acc : List Int) (r : ByteArray) (m' : Bool), (∀ n ∈ ns, 0 ≤ n ∧ n ≤ 1000000) → TT 32 m rest.data.toList = tailT ns ++ TT 32 m' r.data.toList → (m = false → rest = ⟨#[]⟩) → (m' = false → r = ⟨#[]⟩) →
    ofNums ns.length rest m acc = some (acc ++ ns, r, m')
  | [], rest, m, acc, r, m', _, h, h1, h2 => by
    obtain ⟨rfl, rfl⟩ := TT_inj h h1 h2
    simp [ofNums]
  | n :: ns, rest, m, acc, r, m', hr, h, h1, h2 => by
    have hn := hr n List.mem_cons_self
    have hmt : m = true := by
      cases m with
      | true => rfl
      | false => simp [TT, tailT] at h
    subst hmt
    obtain ⟨m2, r2, h3, h4⟩ := tail_TT ns m' r h2
    have hd : rest.data.toList = (itoaB n).data.toList ++ TT 32 m2 r2.data.toList := by
      rw [← h3]
      simpa [TT, tailT] using h
    have hc := cutS_of 32 rest (itoaB n) r2 m2 hd (dig_blank (itoaB_dig n hn.1)) h4
    rw [List.length_cons, ofNums, if_neg (by decide), hc]
    dsimp only
    rw [numW_put n hn.1 hn.2, if_neg (by omega), ofNums_of ns r2 m2 _ r m' (fun x hx => hr x (List.mem_cons_of_mem _ hx)) h3.symm h4 h2, List.append_assoc]
    rfl
theorem wordE_nat (k : Int) (h : 1 ≤ k ∧ k ≤ 14) : wordE k = wordsK.getD k.toNat ⟨#[]⟩ := by unfold wordE; rw [if_pos h]
theorem wordE_rng {k : Int} (h : wordE k ≠ ⟨#[]⟩) : 1 ≤ k ∧ k ≤ 14 := Decidable.byContradiction fun h2 => h (word_none k h2)
theorem words_injK : ∀ i, i < 15 → ∀ j, j < 15 → wordsK.getD i ⟨#[]⟩ = wordsK.getD j ⟨#[]⟩ → i = j := by decide +kernel
theorem wordE_inj {a b : Int} (h : wordE a = wordE b) (hn : wordE a ≠ ⟨#[]⟩) : a = b := by
  have ha := wordE_rng hn
  have hb := wordE_rng (by rw [← h]; exact hn)
  rw [wordE_nat a ha, wordE_nat b hb] at h
  have := words_injK _ (by omega) _ (by omega) h
  omega
theorem wordE_blank (k : Int) : (32 : UInt8) ∉ (wordE k).data.toList := by
  have : ∀ i, i < 15 → (32 : UInt8) ∉ (wordsK.getD i ⟨#[]⟩).data.toList := by decide +kernel
  by_cases h : 1 ≤ k ∧ k ≤ 14
  · rw [wordE_nat k h]; exact this k.toNat (by omega)
  · rw [word_none k h]; simp
/-- the op's words of an entry. -/
def restE (e : EntD) : ByteArray := if hasOp e.kind = true then textO e.op else ⟨#[]⟩
theorem wordsE_data {e : EntD} (h : entOkB e = true) : (wordsE e).data.toList = (wordE e.kind).data.toList ++ (tailT (numsE e) ++ TT 32 (hasOp e.kind) (restE e).data.toList) := by
  unfold wordsE wordsB restE TT
  rw [if_pos h]
  split
  · rw [ByteArray.data_append, Array.toList_append, textL_data, List.append_assoc, ByteArray.data_append, Array.toList_append]
    rfl
  · rw [textL_data, List.append_nil]
theorem restE_nil (e : EntD) : hasOp e.kind = false → restE e = ⟨#[]⟩ := fun h => by unfold restE; rw [if_neg (by rw [h]; decide)]
theorem numsE_rng {e : EntD} (h : entOkB e = true) : ∀ n ∈ numsE e, 0 ≤ n ∧ n ≤ 1000000 := fun n hn => by
  obtain ⟨_, ha, hb, _⟩ := entOk_rng h
  have := List.mem_of_mem_take hn
  simp only [List.mem_cons, List.not_mem_nil, or_false] at this
  rcases this with rfl | rfl
  · exact ha
  · exact hb
theorem numsE_len (e : EntD) : (numsE e).length = manyE e.kind := by
  have := manyE_le e.kind
  rw [numsE, List.length_take]; simp; omega
theorem numsE_get {e : EntD} (h : entOkB e = true) : (numsE e).getD 0 0 = e.a ∧ (numsE e).getD 1 0 = e.b := by
  have h0 := manyE_le e.kind
  rw [entOk_eq, Bool.and_eq_true, decide_eq_true_eq] at h
  obtain ⟨⟨_, _, _, _, _, _, h6, h7⟩, _⟩ := h
  unfold numsE
  rcases (show manyE e.kind = 0 ∨ manyE e.kind = 1 ∨ manyE e.kind = 2 by omega) with hm | hm | hm <;> rw [hm]
  · exact ⟨(h7 (by omega)).symm, (h6 (by omega)).symm⟩
  · exact ⟨rfl, (h6 (by omega)).symm⟩
  · exact ⟨rfl, rfl⟩
theorem entF_some (c : ByteArray × ByteArray × Bool) : ∀ (f k : Nat) (e : EntD), entF c f k = some e → ∃ j, k ≤ j ∧ j < k + f ∧ entTry c j = some e
  | 0, k, e, h => by simp [entF] at h
  | f + 1, k, e, h => by
    rw [entF] at h
    cases ht : entTry c k with
    | some x => rw [ht] at h; cases h; exact ⟨k, Nat.le_refl _, by omega, ht⟩
    | none =>
      rw [ht] at h
      obtain ⟨j, h1, h2, h3⟩ := entF_some c f (k + 1) e h
      exact ⟨j, by omega, by omega, h3⟩
theorem entF_skip (c : ByteArray × ByteArray × Bool) (j : Nat) (e : EntD) (he : entTry c j = some e) : ∀ (f k : Nat), k ≤ j → j < k + f → (∀ i, k ≤ i → i < j → entTry c i = none) → entF c f k = some e
  | 0, k, h1, h2, _ => by omega
  | f + 1, k, h1, h2, h3 => by
    rw [entF]
    by_cases hk : k = j
    · subst hk; rw [he]
    · rw [h3 k (Nat.le_refl _) (by omega)]
      exact entF_skip c j e he f (k + 1) (by omega) (by omega) (fun i hi hj => h3 i (by omega) hj)
theorem entryE_of {e : EntD} (h : entOkB e = true) : entryE (wordsE e) = some e := by
  obtain ⟨hk, _, _, hop⟩ := entOk_rng h
  have hne : wordE e.kind ≠ ⟨#[]⟩ := fun e' => wordE_ne hk (by rw [e']; rfl)
  obtain ⟨m, rest, h1, h2⟩ := tail_TT (numsE e) (hasOp e.kind) (restE e) (restE_nil e)
  have hc := cutS_of 32 (wordsE e) (wordE e.kind) rest m (by rw [wordsE_data h, h1]) (wordE_blank _) h2
  have hkn : ((e.kind.toNat : Nat) : Int) = e.kind := by omega
  have hof : ofE e.kind rest m = (e, true) := by
    have h3 := ofNums_of (numsE e) rest m [] (restE e) (hasOp e.kind) (numsE_rng h) h1.symm h2 (restE_nil e)
    rw [numsE_len, List.nil_append] at h3
    unfold ofE
    rw [h3]
    dsimp only
    have hoo : ofOp e.kind (restE e) (hasOp e.kind) = (e.op, false) := by
      unfold ofOp restE
      unfold opPart at hop
      cases hh : hasOp e.kind with
      | true =>
        rw [hh, if_pos rfl] at hop
        rw [if_pos ⟨rfl, rfl⟩, if_pos rfl, parseO_text hop]; rfl
      | false =>
        rw [hh, if_neg (by decide), decide_eq_true_eq] at hop
        rw [if_neg (by simp), hop]
    obtain ⟨g0, g1⟩ := numsE_get h
    rw [hoo, g0, g1]
    dsimp only
    rw [show (⟨e.kind, e.a, e.b, e.op⟩ : EntD) = e from rfl, h]
    rfl
  unfold entryE
  rw [hc]
  refine entF_skip _ e.kind.toNat e ?_ 15 0 (Nat.zero_le _) (by omega) (fun i _ hi => ?_)
  · unfold entTry
    dsimp only
    rw [hkn, if_neg (by rintro (e' | e'); exact e' rfl; exact hne e'), hof, if_pos rfl]
  · unfold entTry
    rw [if_pos]
    refine .inl fun e' => ?_
    have := wordE_inj e'.symm hne
    omega
theorem entryE_some {s : ByteArray} {e : EntD} (h : entryE s = some e) : entOkB e = true ∧ wordsE e = s := by
  obtain ⟨c1, c2, c3⟩ := cut_text 32 s
  unfold entryE at h
  generalize cutS s 32 = c at *
  obtain ⟨j, _, _, ht⟩ := entF_some _ _ _ _ h
  unfold entTry at ht
  split at ht
  · cases ht
  rename_i hw
  split at ht
  case isFalse => cases ht
  rename_i ho
  have he := Option.some.inj ht
  have hwj : wordE j = c.1 := Decidable.byContradiction fun e' => hw (.inl e')
  have hne : wordE j ≠ ⟨#[]⟩ := fun e' => hw (.inr (by rw [← hwj]; exact e'))
  unfold ofE at he ho
  cases hn : ofNums (manyE j) c.2.1 c.2.2 [] with
  | none => rw [hn] at ho; cases ho
  | some p =>
    obtain ⟨l, r, m⟩ := p
    rw [hn] at he ho
    dsimp only at he ho
    rw [Bool.and_eq_true] at ho
    obtain ⟨ho1, ho2⟩ := ho
    rw [he] at ho2
    obtain ⟨ns, h1, h2, h3, h4⟩ := ofNums_some _ _ _ _ c3 hn
    rw [List.nil_append] at h1
    subst h1
    have hkind : e.kind = j := by rw [← he]
    have hnums : numsE e = l := by
      rw [← he]
      have := manyE_le j
      unfold numsE
      dsimp only
      rw [← h2]
      match l, h2 with
      | [], _ => rfl
      | [x], _ => rfl
      | [x, y], _ => rfl
      | _ :: _ :: _ :: _, h2 => simp at h2; omega
    refine ⟨ho2, data_ext ?_⟩
    rw [wordsE_data ho2, hnums, hkind, c1, ← hwj, h3]
    congr 2
    obtain ⟨_, _, _, hop⟩ := entOk_rng ho2
    unfold opPart at hop
    unfold restE
    rw [hkind] at hop ⊢
    have heop : e.op = (ofOp j r m).1 := by rw [← he]
    unfold ofOp at heop ho1
    cases hh : hasOp j with
    | true =>
      rw [hh, if_pos rfl] at hop
      rw [hh] at heop ho1
      cases m with
      | false =>
        rw [if_neg (by simp)] at heop
        rw [heop] at hop
        exact absurd hop (by decide)
      | true =>
        rw [if_pos ⟨rfl, rfl⟩] at heop ho1
        cases hp : parseO r with
        | none => rw [hp] at ho1; cases ho1
        | some o =>
          rw [hp] at heop
          have heop : e.op = o := heop
          rw [if_pos rfl, heop, (parseO_back hp).2]
    | false =>
      rw [hh, if_neg (by simp)] at ho1
      have hm : m = false := by simpa using ho1
      rw [hm, if_neg (by decide)]
      rfl
end Dv

namespace Dv
open Go Go.Proofs

theorem valGo_ok : ∀ (l : List UInt8) (f n : Nat), l.length ≤ f → allDig l → valGo l f (n : Int) = (valN l n : Int)
  | [], _, n, _, _ => by rw [valGo, valN]
  | b :: l, 0, n, h, _ => by simp at h
  | b :: l, f + 1, n, h, hd => by
    have hb := hd b List.mem_cons_self
    rw [valGo, if_pos hb, valN, ← valGo_ok l f _ (by simpa using h) (fun x hx => hd x (List.mem_cons_of_mem _ hx))]
    congr 1
    omega
theorem valW_put (n : Int) (h0 : 0 ≤ n) (h1 : n ≤ 1000000) : valW (itoaB n) = n := by
  have hz := itoaB_size n h0 h1
  have hl := bs_len (itoaB n)
  unfold valW
  rw [itoaB_data n h0] at hl ⊢
  rw [show (0 : Int) = ((0 : Nat) : Int) from rfl, valGo_ok _ 8 0 (by omega) (dec_dig _ _ (Nat.lt_succ_self _)), dec_val _ _ (Nat.lt_succ_self _)]
  omega
theorem joinGo_data : ∀ (ws : List ByteArray) (acc : ByteArray), (joinGo ws false acc).data.toList = acc.data.toList ++ (ws.map (·.data.toList)).flatMap (fun x => 32 :: x)
  | [], acc => by simp [joinGo]
  | w :: ws, acc => by
    rw [joinGo, joinGo_data ws]
    simp [sepB]
theorem joinGo_words (t : ByteArray) : joinGo (wordsO t) true ⟨#[]⟩ = t := by
  have h := words_eq t
  cases hw : wordsO t with
  | nil => have := (words_len t).1; rw [hw] at this; simp at this
  | cons w ws =>
    rw [hw, List.map_cons] at h
    have hj := splitL_join 32 _ _ _ h.symm
    apply data_ext
    rw [joinGo, joinGo_data, hj]
    simp
theorem splitL_tail (r : List UInt8) : ∀ (ns : List Int) (w : List UInt8), (32 : UInt8) ∉ w → (∀ n ∈ ns, 0 ≤ n) → splitL 32 (w ++ (tailT ns ++ 32 :: r)) = w :: (ns.map (fun n => (itoaB n).data.toList) ++ splitL 32 r)
  | [], w, h, _ => by simpa [tailT] using splitL_put 32 w r h
  | n :: ns, w, h, hn => by
    have ih := splitL_tail r ns (itoaB n).data.toList (dig_blank (itoaB_dig n (hn n List.mem_cons_self))) (fun x hx => hn x (List.mem_cons_of_mem _ hx))
    have : w ++ (tailT (n :: ns) ++ 32 :: r) = w ++ 32 :: ((itoaB n).data.toList ++ (tailT ns ++ 32 :: r)) := by simp [tailT]
    rw [this, splitL_put 32 w _ h, ih]
    rfl
theorem words_ent {e : EntD} (h : entOkB e = true) : wordsO (wordsE e) = wordE e.kind :: ((numsE e).map itoaB ++ (if hasOp e.kind = true then wordsO (textO e.op) else [])) := by
  have hr : ∀ n ∈ numsE e, 0 ≤ n := fun n hn => (numsE_rng h n hn).1
  apply map_data_inj
  rw [words_eq, wordsE_data h]
  unfold restE TT
  split
  · rw [splitL_tail _ _ _ (wordE_blank _) hr]
    simp [List.map_map, Function.comp_def, words_eq]
  · rw [List.append_nil, tailT_map, splitL_words 32 _ _ (wordE_blank _)]
    · simp [List.map_map, Function.comp_def]
    · intro x hx
      obtain ⟨n, hn, rfl⟩ := List.mem_map.1 hx
      exact dig_blank (itoaB_dig n (hr n hn))
theorem ent23_of {e : EntD} (h : entOkB e = true) : ent23 (wordsO (wordsE e)) e.kind.toNat = e := by
  obtain ⟨hk, ha, hb, hop⟩ := entOk_rng h
  have hkn : ((e.kind.toNat : Nat) : Int) = e.kind := by omega
  have hm := manyE_le e.kind
  have hnl := numsE_len e
  obtain ⟨g0, g1⟩ := numsE_get h
  rw [words_ent h]
  have hdrop : (wordE e.kind :: ((numsE e).map itoaB ++ (if hasOp e.kind = true then wordsO (textO e.op) else []))).drop (1 + manyE e.kind) = if hasOp e.kind = true then wordsO (textO e.op) else [] := by
    rw [Nat.add_comm, List.drop_succ_cons, List.drop_append, List.drop_eq_nil_of_le (by rw [List.length_map, hnl]; omega), List.length_map, hnl, Nat.sub_self, List.nil_append, List.drop_zero]
  have hA : (if 0 < manyE e.kind then valW ((wordE e.kind :: ((numsE e).map itoaB ++ (if hasOp e.kind = true then wordsO (textO e.op) else []))).getD 1 ⟨#[]⟩) else 0) = e.a := by
    split
    · rename_i h0
      have : (wordE e.kind :: ((numsE e).map itoaB ++ (if hasOp e.kind = true then wordsO (textO e.op) else []))).getD 1 ⟨#[]⟩ = itoaB e.a := by
        simp only [List.getD_eq_getElem?_getD, List.getElem?_cons_succ]
        rw [List.getElem?_append_left (by rw [List.length_map, hnl]; omega), List.getElem?_map]
        rw [← g0]
        rw [List.getD_eq_getElem?_getD, List.getElem?_eq_getElem (by omega : 0 < (numsE e).length)]
        rfl
      rw [this, valW_put _ ha.1 ha.2]
    · rw [← g0, List.eq_nil_of_length_eq_zero (by omega : (numsE e).length = 0)]; rfl
  have hB : (if 1 < manyE e.kind then valW ((wordE e.kind :: ((numsE e).map itoaB ++ (if hasOp e.kind = true then wordsO (textO e.op) else []))).getD 2 ⟨#[]⟩) else 0) = e.b := by
    split
    · rename_i h0
      have : (wordE e.kind :: ((numsE e).map itoaB ++ (if hasOp e.kind = true then wordsO (textO e.op) else []))).getD 2 ⟨#[]⟩ = itoaB e.b := by
        simp only [List.getD_eq_getElem?_getD, List.getElem?_cons_succ]
        rw [List.getElem?_append_left (by rw [List.length_map, hnl]; omega), List.getElem?_map]
        rw [← g1]
        rw [List.getD_eq_getElem?_getD, List.getElem?_eq_getElem (by omega : 1 < (numsE e).length)]
        rfl
      rw [this, valW_put _ hb.1 hb.2]
    · rw [← g1, List.getD_eq_getElem?_getD, List.getElem?_eq_none (by omega)]; rfl
  have hO : (if hasOp e.kind = true then (parse8 (joinGo (if hasOp e.kind = true then wordsO (textO e.op) else []) true ⟨#[]⟩)).getD zeroOp else zeroOp) = e.op := by
    unfold opPart at hop
    split
    · rename_i hh
      rw [if_pos hh] at hop
      rw [joinGo_words, parse8_eq, parseO_text hop]; rfl
    · rename_i hh
      rw [if_neg hh, decide_eq_true_eq] at hop
      exact hop.symm
  unfold ent23
  rw [hkn, hdrop, hA, hB, hO]
theorem ent23F_some (s : ByteArray) (W : List ByteArray) : ∀ (f k : Nat) (e : EntD), ent23F s W f k = some e → ∃ j, k ≤ j ∧ j < k + f ∧ ent23Try s W j = some (some e)
  | 0, k, e, h => by simp [ent23F] at h
  | f + 1, k, e, h => by
    rw [ent23F] at h
    cases ht : ent23Try s W k with
    | some x => rw [ht] at h; dsimp only at h; subst h; exact ⟨k, Nat.le_refl _, by omega, ht⟩
    | none =>
      rw [ht] at h
      obtain ⟨j, h1, h2, h3⟩ := ent23F_some s W f (k + 1) e h
      exact ⟨j, by omega, by omega, h3⟩
theorem ent23F_skip (s : ByteArray) (W : List ByteArray) (j : Nat) (e : EntD) (he : ent23Try s W j = some (some e)) : ∀ (f k : Nat), k ≤ j → j < k + f → (∀ i, k ≤ i → i < j → ent23Try s W i = none) → ent23F s W f k = some e
  | 0, k, h1, h2, _ => by omega
  | f + 1, k, h1, h2, h3 => by
    rw [ent23F]
    by_cases hk : k = j
    · subst hk; rw [he]
    · rw [h3 k (Nat.le_refl _) (by omega)]
      exact ent23F_skip s W j e he f (k + 1) (by omega) (by omega) (fun i hi hj => h3 i (by omega) hj)
theorem entry23_of {e : EntD} (h : entOkB e = true) : entry23 (wordsE e) = some e := by
  obtain ⟨hk, _⟩ := entOk_rng h
  have hne : wordE e.kind ≠ ⟨#[]⟩ := fun e' => wordE_ne hk (by rw [e']; rfl)
  have hkn : ((e.kind.toNat : Nat) : Int) = e.kind := by omega
  have hW := words_ent h
  have h0 : (wordsO (wordsE e)).getD 0 ⟨#[]⟩ = wordE e.kind := by rw [hW]; rfl
  unfold entry23
  refine ent23F_skip _ _ e.kind.toNat e ?_ 14 1 (by omega) (by omega) (fun i _ hi => ?_)
  · unfold ent23Try
    rw [if_neg (by rw [h0, hkn]; simp), if_neg, ent23_of h, if_pos rfl]
    rw [hW, hkn, List.length_cons, List.length_append, List.length_map, numsE_len]
    omega
  · unfold ent23Try
    rw [if_pos]
    rw [h0]
    intro e'
    have := wordE_inj e' hne
    omega
theorem entry23_some {s : ByteArray} {e : EntD} (h : entry23 s = some e) : entOkB e = true ∧ wordsE e = s := by
  unfold entry23 at h
  obtain ⟨j, h1, h2, ht⟩ := ent23F_some _ _ _ _ _ h
  unfold ent23Try at ht
  split at ht
  · cases ht
  rename_i hw
  split at ht
  · cases ht
  split at ht
  case isFalse => cases ht
  rename_i hs
  have he : ent23 (wordsO s) j = e := by cases ht; rfl
  rw [he] at hs
  refine ⟨?_, hs⟩
  cases hok : entOkB e with
  | true => rfl
  | false =>
    have hn : s = ⟨#[]⟩ := by rw [← hs]; exact wordsE_nil hok
    have hw : (wordsO s).getD 0 ⟨#[]⟩ = wordE j := Decidable.byContradiction hw
    rw [hn] at hw
    exact absurd (by rw [← hw]; rfl) (wordE_ne (k := (j : Int)) (by omega))
theorem entry23_eq (s : ByteArray) : entry23 s = entryE s := by
  cases h : entry23 s with
  | some e =>
    obtain ⟨h1, h2⟩ := entry23_some h
    rw [← h2, entryE_of h1]
  | none =>
    cases h3 : entryE s with
    | none => rfl
    | some e =>
      obtain ⟨h1, h2⟩ := entryE_some h3
      rw [← h2, entry23_of h1] at h
      cases h
end Dv

namespace Dv
open Go Go.Proofs

def foldL : List (List UInt8) → Int → List EntD × List Int → List EntD × List Int
  | [], _, p => p
  | h :: t, n, p => foldL t (n + 1) (stepP entryE ⟨h.toArray⟩ n p)
theorem stepP_nil (en : ByteArray → Option EntD) (n : Int) (p : List EntD × List Int) : stepP en ⟨#[]⟩ n p = p := by unfold stepP; rw [if_pos (.inl rfl)]
theorem bytes_arr (a : ByteArray) : (⟨a.data.toList.toArray⟩ : ByteArray) = a := data_ext rfl
theorem lines_fold : ∀ (m : Nat) (t : ByteArray), t.size ≤ m → ∀ (k : Nat) (p : List EntD × List Int), (linesT k t).foldl stepL p = foldL (splitL 10 t.data.toList) k p := by
  intro m
  induction m with
  | zero =>
    intro t ht k p
    have h0 : t.data.toList = [] := List.eq_nil_of_length_eq_zero (by rw [bs_len]; omega)
    rw [linesT_nil k t (by omega), h0]
    simp only [splitL, foldL, List.foldl_nil]
    rw [stepP_nil]
  | succ m ih =>
    intro t ht k p
    by_cases h0 : t.size = 0
    · have hd : t.data.toList = [] := List.eq_nil_of_length_eq_zero (by rw [bs_len]; omega)
      rw [linesT_nil k t h0, hd]
      simp only [splitL, foldL, List.foldl_nil]
      rw [stepP_nil]
    · have hl := cutS_less t 10 h0
      obtain ⟨c1, c2, c3⟩ := cut_text 10 t
      rw [linesT_cons k t h0, List.foldl_cons, c1]
      generalize cutS t 10 = c at *
      obtain ⟨a, b, mm⟩ := c
      dsimp only at *
      cases mm with
      | false =>
        rw [c3 rfl, linesT_nil _ _ rfl]
        have : a.data.toList ++ TT 10 false (⟨#[]⟩ : ByteArray).data.toList = a.data.toList := List.append_nil _
        rw [this, splitL_one 10 _ c2]
        simp only [foldL, List.foldl_nil, bytes_arr]
        rfl
      | true =>
        rw [ih b (by omega), TT, if_pos rfl, splitL_put 10 _ _ c2]
        simp only [foldL, bytes_arr]
        rw [show ((k + 1 : Nat) : Int) = (k : Int) + 1 by omega]
        rfl
theorem step_eq : stepP entry23 = stepP entryE := by
  have : entry23 = entryE := funext entry23_eq
  rw [this]
theorem p23_fold : ∀ (D : List UInt8) (line : ByteArray) (n : Int) (p : List EntD × List Int) (h : List UInt8) (t : List (List UInt8)), splitL 10 D = h :: t → p23 D line n p = foldL ((line.data.toList ++ h) :: t) n p
  | [], line, n, p, h, t, hs => by
    simp only [splitL, List.cons.injEq] at hs
    obtain ⟨rfl, rfl⟩ := hs
    rw [p23, foldL, foldL, List.append_nil, bytes_arr, step_eq]
  | c :: r, line, n, p, h, t, hs => by
    rw [p23]
    by_cases hc : c = 10
    · subst hc
      rw [if_pos (by decide)]
      rw [splitL, if_pos rfl] at hs
      simp only [List.cons.injEq] at hs
      obtain ⟨rfl, rfl⟩ := hs
      obtain ⟨h2, t2, hr⟩ := List.exists_cons_of_ne_nil (splitL_ne 10 r)
      rw [p23_fold r ⟨#[]⟩ (n + 1) _ h2 t2 hr, step_eq, hr, List.append_nil]
      conv => rhs; rw [foldL, bytes_arr]
      rfl
    · rw [if_neg (fun e => hc (UInt8.toNat_inj.1 (by rw [e]; rfl)))]
      rw [splitL, if_neg hc] at hs
      obtain ⟨h2, t2, hr⟩ := List.exists_cons_of_ne_nil (splitL_ne 10 r)
      rw [hr] at hs
      simp only [List.cons.injEq] at hs
      obtain ⟨rfl, rfl⟩ := hs
      rw [p23_fold r _ n p h2 t2 hr]
      congr 2
      simp
theorem parseS_fold (s : ByteArray) : parseS s = foldL (splitL 10 s.data.toList) 1 ([], []) := lines_fold s.size s (Nat.le_refl _) 1 _
theorem parse_eq (s : ByteArray) : p23 s.data.toList ⟨#[]⟩ 1 ([], []) = parseS s := by
  obtain ⟨h, t, hr⟩ := List.exists_cons_of_ne_nil (splitL_ne 10 s.data.toList)
  rw [parseS_fold, p23_fold _ _ _ _ h t hr, hr]
  rfl

/-! a line's entry, or that it is wrong -/
def lineE (h : List UInt8) : List EntD := if h = [] ∨ h[0]? = some 35 then [] else (entryE ⟨h.toArray⟩).toList
def lineW (h : List UInt8) : Bool := !decide (h = [] ∨ h[0]? = some 35) && (entryE ⟨h.toArray⟩).isNone
def wrongL : List (List UInt8) → Int → List Int
  | [], _ => []
  | h :: t, n => (if lineW h = true then [n] else []) ++ wrongL t (n + 1)
theorem stepP_line (h : List UInt8) (n : Int) (p : List EntD × List Int) : stepP entryE ⟨h.toArray⟩ n p = (p.1 ++ lineE h, p.2 ++ if lineW h = true then [n] else []) := by
  have e1 : ((⟨h.toArray⟩ : ByteArray) = ⟨#[]⟩) ↔ h = [] := ⟨fun e => congrArg (fun b : ByteArray => b.data.toList) e, fun e => by rw [e]⟩
  unfold stepP lineE lineW
  by_cases hs : h = [] ∨ h[0]? = some 35
  · rw [if_pos (hs.imp_left e1.2), if_pos hs, decide_eq_true hs]
    simp
  · rw [if_neg (fun e => hs (e.imp_left e1.1)), if_neg hs, decide_eq_false hs]
    cases entryE ⟨h.toArray⟩ with
    | none => simp
    | some e => simp
theorem foldL_eq : ∀ (L : List (List UInt8)) (n : Int) (p : List EntD × List Int), foldL L n p = (p.1 ++ L.flatMap lineE, p.2 ++ wrongL L n)
  | [], n, p => by simp [foldL, wrongL]
  | h :: t, n, p => by
    rw [foldL, foldL_eq t, stepP_line]
    simp [wrongL, List.append_assoc]
theorem wrongL_len : ∀ (L : List (List UInt8)) (n : Int), (wrongL L n).length = L.countP lineW
  | [], _ => rfl
  | h :: t, n => by
    rw [wrongL, List.length_append, wrongL_len t, List.countP_cons]
    split <;> simp <;> omega
theorem parseS_eq (s : ByteArray) : parseS s = ((splitL 10 s.data.toList).flatMap lineE, wrongL (splitL 10 s.data.toList) 1) := by
  rw [parseS_fold, foldL_eq]; simp
theorem parse_right {s : ByteArray} {e : EntD} (h : e ∈ (parseS s).1) : entOkB e = true := by
  rw [parseS_eq] at h
  obtain ⟨l, _, hl⟩ := List.mem_flatMap.1 h
  unfold lineE at hl
  split at hl
  · cases hl
  · cases he : entryE ⟨l.toArray⟩ with
    | none => rw [he] at hl; cases hl
    | some x =>
      rw [he] at hl
      simp only [Option.toList_some, List.mem_singleton] at hl
      rw [hl]
      exact (entryE_some he).1
theorem splitL_app (c : UInt8) (b : List UInt8) : ∀ a : List UInt8, splitL c (a ++ c :: b) = splitL c a ++ splitL c b
  | [] => by simp [splitL]
  | x :: a => by
    have ih := splitL_app c b a
    rw [List.cons_append, splitL, splitL]
    split
    · rw [ih]; rfl
    · rw [ih]
      obtain ⟨h, t, hr⟩ := List.exists_cons_of_ne_nil (splitL_ne c a)
      rw [hr]
      rfl

/-! a script told and read -/
def okY (l : List UInt8) : Prop := (10 : UInt8) ∉ l ∧ (35 : UInt8) ∉ l
theorem okY.append {a b : List UInt8} (h : okY a) (k : okY b) : okY (a ++ b) := ⟨by simp [h.1, k.1], by simp [h.2, k.2]⟩
theorem okY.cons {b : List UInt8} (k : okY b) : okY (32 :: b) := ⟨by simp [k.1], by simp [k.2]⟩
theorem okY_nil : okY [] := ⟨by simp, by simp⟩
theorem okY_dig {l : List UInt8} (h : allDig l) : okY l := ⟨fun hm => by
  have := h _ hm
  have e : (10 : UInt8).toNat = 10 := rfl
  omega, fun hm => by
  have := h _ hm
  have e : (35 : UInt8).toNat = 35 := rfl
  omega⟩
theorem okY_tail : ∀ ns : List Int, (∀ n ∈ ns, 0 ≤ n) → okY (tailT ns)
  | [], _ => okY_nil
  | n :: ns, h => by
    have : tailT (n :: ns) = 32 :: ((itoaB n).data.toList ++ tailT ns) := by simp [tailT]
    rw [this]
    exact ((okY_dig (itoaB_dig n (h n List.mem_cons_self))).append (okY_tail ns (fun x hx => h x (List.mem_cons_of_mem _ hx)))).cons
theorem okY_word (k : Int) : okY (wordE k).data.toList := by
  have : ∀ i, i < 15 → (10 : UInt8) ∉ (wordsK.getD i ⟨#[]⟩).data.toList ∧ (35 : UInt8) ∉ (wordsK.getD i ⟨#[]⟩).data.toList := by decide +kernel
  by_cases h : 1 ≤ k ∧ k ≤ 14
  · rw [wordE_nat k h]; exact this k.toNat (by omega)
  · rw [word_none k h]; exact okY_nil
theorem okY_name (k : Int) : okY (nameOf k).data.toList := by
  have : ∀ i, i < 22 → (10 : UInt8) ∉ (namesL.getD i ⟨#[]⟩).data.toList ∧ (35 : UInt8) ∉ (namesL.getD i ⟨#[]⟩).data.toList := by decide +kernel
  by_cases h : 1 ≤ k ∧ k ≤ 21
  · rw [nameOf_nat k h]; exact this k.toNat (by omega)
  · rw [name_none k h]; exact okY_nil
theorem okY_text (o : OpD) : okY (textO o).data.toList := by
  by_cases h : opOkB o = true
  · rw [textO_data h]
    exact (okY_name _).append (okY_tail _ (fun n hn => (nums_rng h n (List.mem_of_mem_take hn)).1))
  · rw [textO_off h]; exact okY_nil
theorem okY_words (e : EntD) : okY (wordsE e).data.toList := by
  cases h : entOkB e with
  | false => rw [wordsE_nil h]; exact okY_nil
  | true =>
    rw [wordsE_data h]
    refine (okY_word _).append ((okY_tail _ (fun n hn => (numsE_rng h n hn).1)).append ?_)
    unfold TT restE
    split
    · exact (okY_text _).cons
    · exact okY_nil
theorem textGo_data : ∀ (l : List EntD) (acc : ByteArray), (textGo l acc).data.toList = acc.data.toList ++ (l.filter entOkB).flatMap (fun e => (wordsE e).data.toList ++ [10])
  | [], acc => by simp [textGo]
  | e :: l, acc => by
    rw [textGo, textGo_data l]
    by_cases h : entOkB e = true
    · rw [if_pos h, List.filter_cons_of_pos h]
      simp
    · rw [if_neg h, List.filter_cons_of_neg h]
theorem split_text : ∀ l : List EntD, splitL 10 (l.flatMap (fun e => (wordsE e).data.toList ++ [10])) = l.map (fun e => (wordsE e).data.toList) ++ [[]]
  | [] => rfl
  | e :: l => by
    rw [List.flatMap_cons, List.append_assoc, show [10] ++ l.flatMap (fun e => (wordsE e).data.toList ++ [10]) = 10 :: l.flatMap (fun e => (wordsE e).data.toList ++ [10]) from rfl, splitL_put 10 _ _ (okY_words e).1, split_text l]
    rfl
theorem line_words {e : EntD} (h : entOkB e = true) : lineE (wordsE e).data.toList = [e] ∧ lineW (wordsE e).data.toList = false := by
  have hs : ¬ ((wordsE e).data.toList = [] ∨ (wordsE e).data.toList[0]? = some 35) := by
    rintro (h1 | h1)
    · exact wordsE_ne h (by rw [← bs_len, h1]; rfl)
    · exact (okY_words e).2 (List.mem_of_getElem? h1)
  unfold lineE lineW
  rw [if_neg hs, decide_eq_false hs, bytes_arr, entryE_of h]
  exact ⟨rfl, rfl⟩
theorem line_nil : lineE [] = [] ∧ lineW [] = false := ⟨rfl, rfl⟩
theorem flat_words : ∀ l : List EntD, (∀ e ∈ l, entOkB e = true) → (l.map (fun e => (wordsE e).data.toList)).flatMap lineE = l ∧ (l.map (fun e => (wordsE e).data.toList)).countP lineW = 0
  | [], _ => ⟨rfl, rfl⟩
  | e :: l, h => by
    obtain ⟨h1, h2⟩ := flat_words l (fun x hx => h x (List.mem_cons_of_mem _ hx))
    obtain ⟨h3, h4⟩ := line_words (h e List.mem_cons_self)
    rw [List.map_cons, List.flatMap_cons, h1, h3, List.countP_cons, h2, h4]
    exact ⟨rfl, rfl⟩
theorem parse_text (l : List EntD) : parseS (textE l) = (l.filter entOkB, []) := by
  have hd : (textE l).data.toList = (l.filter entOkB).flatMap (fun e => (wordsE e).data.toList ++ [10]) := by
    unfold textE; rw [textGo_data]; rfl
  obtain ⟨h1, h2⟩ := flat_words (l.filter entOkB) (fun e he => (List.mem_filter.1 he).2)
  rw [parseS_eq, hd, split_text]
  have hw : wrongL ((l.filter entOkB).map (fun e => (wordsE e).data.toList) ++ [[]]) 1 = [] := by
    apply List.eq_nil_of_length_eq_zero
    rw [wrongL_len, List.countP_append, h2]
    rfl
  rw [hw, List.flatMap_append, h1]
  simp [line_nil.1]
theorem parse_back (s : ByteArray) : parseS (textE (parseS s).1) = ((parseS s).1, []) := by
  rw [parse_text, List.filter_eq_self.2 (fun e he => parse_right he)]
theorem parse_join (a b : ByteArray) : (parseS (a ++ ⟨#[10]⟩ ++ b)).1 = (parseS (a ++ ⟨#[10]⟩)).1 ++ (parseS b).1 ∧ (parseS (a ++ ⟨#[10]⟩ ++ b)).2.length = (parseS (a ++ ⟨#[10]⟩)).2.length + (parseS b).2.length := by
  have h1 : (a ++ ⟨#[10]⟩ ++ b).data.toList = a.data.toList ++ 10 :: b.data.toList := by simp
  have h2 : (a ++ ⟨#[10]⟩).data.toList = a.data.toList ++ 10 :: [] := by simp
  simp only [parseS_eq, h1, h2, splitL_app, wrongL_len]
  constructor
  · simp [splitL, line_nil.1]
  · simp [splitL, List.countP_cons, line_nil.2]

/-! a blank more -/
theorem words_full {e : EntD} (h : entOkB e = true) : ([] : List UInt8) ∉ splitL 32 (wordsE e).data.toList := by
  obtain ⟨hk, _, _, hop⟩ := entOk_rng h
  have hit : ∀ (ns : List Int), (∀ n ∈ ns, 0 ≤ n) → ([] : List UInt8) ∉ (ns.map itoaB).map (·.data.toList) := fun ns hn hm => by
    obtain ⟨w, hw, he⟩ := List.mem_map.1 hm
    obtain ⟨n, hn2, rfl⟩ := List.mem_map.1 hw
    rw [itoaB_data n (hn n hn2)] at he
    exact dec_ne _ he
  rw [← words_eq, words_ent h]
  intro hm
  simp only [List.map_cons, List.map_append, List.mem_cons, List.mem_append] at hm
  rcases hm with hm | hm | hm
  · exact wordE_ne hk (by rw [← bs_len, ← hm]; rfl)
  · exact hit _ (fun n hn => (numsE_rng h n hn).1) hm
  · unfold opPart at hop
    split at hm
    · rename_i hh
      rw [if_pos hh] at hop
      rw [words_text hop, List.map_cons, List.mem_cons] at hm
      rcases hm with hm | hm
      · exact nameOf_ne _ (opOk_kind hop) (data_ext hm.symm)
      · exact hit _ (fun n hn => (nums_rng hop n (List.mem_of_mem_take hn)).1) hm
    · cases hm
theorem blank_behind {e : EntD} (h : entOkB e = true) : entryE (wordsE e ++ ⟨#[32]⟩) = none := by
  cases h2 : entryE (wordsE e ++ ⟨#[32]⟩) with
  | none => rfl
  | some x =>
    obtain ⟨h3, h4⟩ := entryE_some h2
    refine absurd ?_ (words_full h3)
    rw [h4]
    have : (wordsE e ++ ⟨#[32]⟩).data.toList = (wordsE e).data.toList ++ 32 :: [] := by simp
    rw [this, splitL_app]
    simp [splitL]
theorem blank_ahead {e : EntD} (h : entOkB e = true) : entryE (⟨#[32]⟩ ++ wordsE e) = none := by
  cases h2 : entryE (⟨#[32]⟩ ++ wordsE e) with
  | none => rfl
  | some x =>
    obtain ⟨h3, h4⟩ := entryE_some h2
    refine absurd ?_ (words_full h3)
    rw [h4]
    have : (⟨#[32]⟩ ++ wordsE e).data.toList = 32 :: (wordsE e).data.toList := by simp
    rw [this]
    simp [splitL]
end Dv
