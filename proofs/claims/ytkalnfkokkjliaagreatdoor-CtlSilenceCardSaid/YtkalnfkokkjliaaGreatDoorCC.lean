/- The logical machine and its plain laws: parts C15, C16, C18, proved sound. -/
import Derived.Test.YtkalnfkokkjliaaGreatDoorA2
import Derived.Test.YtkalnfkokkjliaaGreatDoorCA
import Derived.Test.YtkalnfkokkjliaaGreatDoorCB
set_option linter.unusedVariables false
set_option linter.unusedSimpArgs false
namespace Dv
open Go Go.Proofs

def quietS (n d : Nat) : StateD := ⟨(List.range n).map fun i => ⟨decide (d ≤ i), false, false, 1, 0⟩, [], 1, 1, 0, 1⟩
def noneV : LV := .tup [opV zeroOp, .bool false]
noncomputable def runIs (f : Nat) (args : List LV) : Bool := match runF tabF (tabT (irsOf Tryz.prog) []) 3000 60 false f args [] with
  | some (.tup vs, o) => sameLs vs [opV zeroOp, .bool false] && sameObs o []
  | _ => false
theorem runIs_tri {f : Nat} {args : List LV} (h : runIs f args = true) : Tri Tryz.prog tabF f args [] noneV [] := by
  unfold runIs at h
  split at h
  · rename_i vs o hr
    rw [Bool.and_eq_true] at h
    obtain ⟨h1, h2⟩ := h
    have h3 := sameLs_eq _ _ h1
    have h4 := sameObs_eq h2
    cases h3
    cases h4
    exact run_tri (l := []) (fun _ h => by cases h) hr
  · cases h
def reps0 (n : Nat) : List MsgD := List.replicate n ⟨0, 0, 0, 0, 0, 0, 0, 0, 0, 0, 0⟩
noncomputable def silIs (c : ConfD) (now : Int) (n d : Nat) : Bool := runIs 200 [confV c, stateV (quietS n d), .int now] && runIs 199 [stateV (quietS n d), msgsV (reps0 n), .int now]
end Dv

namespace Dv
open Go Go.Proofs

def quietN (d i : Nat) : NodeD := ⟨decide (d ≤ i), false, false, 1, 0⟩
structure SilP (c : ConfD) (d : Nat) (x : CtlD) : Prop where
  ok : XOK x
  cf : x.c = c
  down : x.down = false
  st : x.s = quietS c.nodes.toNat d
  lines : ∀ l ∈ x.lines, l.heard = 0 ∧ l.report = msg0
  sh : ∀ k, k < 25 → x.sh.getD k shZ = shZ
  us : x.j.us ≤ 9 + 10 * d
  cnt : x.j.cnt = 1 + d
  n : 2000 ≤ x.j.n
theorem quietS_len (n d : Nat) : (quietS n d).nodes.length = n := by simp [quietS]
theorem quietS_at (n d i : Nat) (h : i < n) : noA (quietS n d) i = quietN d i := by
  unfold noA quietS
  simp [List.getD,h,quietN]
theorem silent_none (lease now : Int) (h : ¬ lease ≤ now) : ∀ (us : List Bool) (hs : List Int) (i : Int), (∀ x ∈ hs, x = 0) → silentL lease now us hs i = -1
  | [], _, _, _ => by cases ‹List Int› <;> rfl
  | _ :: _, [], _, _ => rfl
  | u :: us, x :: hs, i, hz => by
    have hx := hz x (by simp)
    unfold silentL
    rw [if_neg (by subst hx; omega)]
    exact silent_none lease now h us hs (i + 1) (fun y hy => hz y (by simp [hy]))
theorem silent_off (lease now : Int) : ∀ (us : List Bool) (hs : List Int) (i : Int), (∀ u ∈ us, u = false) → silentL lease now us hs i = -1
  | [], _, _, _ => by cases ‹List Int› <;> rfl
  | _ :: _, [], _, _ => rfl
  | u :: us, x :: hs, i, hz => by
    have hx := hz u (by simp)
    unfold silentL
    rw [if_neg (by subst hx; simp)]
    exact silent_off lease now us hs (i + 1) (fun y hy => hz y (by simp [hy]))
theorem silent_at (lease now : Int) (h : lease ≤ now) : ∀ (us : List Bool) (hs : List Int) (i : Int) (d : Nat), (∀ x ∈ hs, x = 0) → us.length = hs.length → d < us.length → (∀ j, j < us.length → us.getD j false = decide (d ≤ j)) → silentL lease now us hs i = i + d
  | [], _, _, _, _, _, hd, _ => absurd hd (Nat.not_lt_zero _)
  | _ :: _, [], _, _, _, hl, _, _ => by cases hl
  | u :: us, x :: hs, i, d, hz, hl, hd, hu => by
    have hx := hz x (by simp)
    have hu0 := hu 0 (by simp)
    unfold silentL
    cases d with
    | zero =>
      have : u = true := by simpa using hu0
      rw [if_pos ⟨this, by omega⟩]
      simp
    | succ d =>
      have : u = false := by simpa using hu0
      rw [if_neg (by rw [this]; simp)]
      rw [silent_at lease now h us hs (i + 1) d (fun y hy => hz y (by simp [hy])) (by simpa using hl) (by simpa using hd) (fun j hj => by
        have := hu (j + 1) (by simpa using hj)
        simpa using this)]
      omega
theorem SilP.hrs0 {c : ConfD} {d : Nat} {x : CtlD} (h : SilP c d x) : ∀ v ∈ x.hrs x.lines.length, v = 0 := by
  intro v hv
  unfold CtlD.hrs at hv
  obtain ⟨l, hl, rfl⟩ := List.mem_map.1 hv
  exact (h.lines l (List.mem_of_mem_take hl)).1
theorem SilP.len {c : ConfD} {d : Nat} {x : CtlD} (h : SilP c d x) : x.lines.length = c.nodes.toNat := by
  rw [h.ok.lines, h.st, quietS_len]
theorem SilP.nodes {c : ConfD} {d : Nat} {x : CtlD} (h : SilP c d x) : 1 ≤ c.nodes.toNat ∧ c.nodes.toNat ≤ 6 := by
  have := h.ok.right.len
  rw [h.st, quietS_len] at this
  exact this
theorem SilP.ups {c : ConfD} {d : Nat} {x : CtlD} (h : SilP c d x) (j : Nat) (hj : j < c.nodes.toNat) : (x.ups x.lines.length).getD j false = decide (d ≤ j) := by
  unfold CtlD.ups
  rw [h.st, h.len]
  simp [List.getD,hj,quietS_at _ d j hj,quietN]
theorem SilP.early {c : ConfD} {d : Nat} {x : CtlD} (h : SilP c d x) {now : Int} (hn : ¬ c.lease ≤ now) : x.silI now = -1 := by
  unfold CtlD.silI
  rw [h.cf]
  exact silent_none _ _ hn _ _ _ h.hrs0
theorem SilP.at {c : ConfD} {d : Nat} {x : CtlD} (h : SilP c d x) {now : Int} (hn : c.lease ≤ now) (hd : d < c.nodes.toNat) : x.silI now = d := by
  unfold CtlD.silI
  rw [h.cf, silent_at _ _ hn _ _ 0 d h.hrs0 (by rw [ups_len, hrs_len x (Nat.le_refl _)]) (by rw [ups_len, h.len]; exact hd) (fun j hj => h.ups j (by rw [ups_len, h.len] at hj; exact hj))]
  omega
theorem SilP.over {c : ConfD} {x : CtlD} (h : SilP c c.nodes.toNat x) (now : Int) : x.silI now = -1 := by
  unfold CtlD.silI
  refine silent_off _ _ _ _ _ (fun u hu => ?_)
  unfold CtlD.ups at hu
  obtain ⟨i, hi, rfl⟩ := List.mem_map.1 hu
  rw [List.mem_range, h.len] at hi
  rw [h.st, quietS_at _ _ i hi]
  simp [quietN]
  omega
theorem SilP.reps {c : ConfD} {d : Nat} {x : CtlD} (h : SilP c d x) : x.reps x.lines.length = reps0 c.nodes.toNat := by
  unfold CtlD.reps reps0
  rw [List.take_length, ← h.len]
  rw [List.eq_replicate_iff]
  refine ⟨by simp, fun m hm => ?_⟩
  obtain ⟨l, hl, rfl⟩ := List.mem_map.1 hm
  exact (h.lines l hl).2
theorem tellL_keeps (x : CtlD) (q : Option MsgD) (now : Int) (l : LineD) (h : l.heard = 0 ∧ l.report = msg0) : (tellL x q now l).1.heard = 0 ∧ (tellL x q now l).1.report = msg0 := by
  unfold tellL
  split
  · exact h
  · split
    · exact ⟨h.1, rfl⟩
    split
    · exact h
    · exact h
theorem tells_lines (y : CtlD) (had : Int → Int) (now : Int) (h : ∀ l ∈ y.lines, l.heard = 0 ∧ l.report = msg0) : ∀ k, ∀ l ∈ (tellsX y had now k).1.lines, l.heard = 0 ∧ l.report = msg0
  | 0 => h
  | k + 1 => by
    have ih := tells_lines y had now h k
    intro l hl
    change l ∈ (tellsX y had now k).1.lines.set k _ at hl
    rcases List.mem_or_eq_of_mem_set hl with hl | rfl
    · exact ih l hl
    · refine tellL_keeps _ _ _ _ ?_
      by_cases hk : k < (tellsX y had now k).1.lines.length
      · have : (tellsX y had now k).1.lines.getD k line0 ∈ (tellsX y had now k).1.lines := by simp [List.getD,hk]
        exact ih _ this
      · have : (tellsX y had now k).1.lines.getD k line0 = line0 := by simp [List.getD,hk]
        rw [this]
        exact ⟨rfl, rfl⟩
theorem tells_few (y : CtlD) (had : Int → Int) (now : Int) (d : Nat) (h : ∀ i, i < d → orderM y.s had i = none) : ∀ k, (tellsX y had now k).2.length ≤ k - d
  | 0 => by simp [tellsX]
  | k + 1 => by
    have ih := tells_few y had now d h k
    show ((tellsX y had now k).2 ++ (tellL (tellsX y had now k).1 (orderM y.s had k) now ((tellsX y had now k).1.lines.getD k line0)).2.toList).length ≤ k + 1 - d
    rw [List.length_append]
    by_cases hk : k < d
    · rw [h k hk]
      simp only [tellL,Option.toList,List.length_nil]
      omega
    · have : ∀ q : Option MsgD, q.toList.length ≤ 1 := fun q => by cases q <;> simp
      have := this (tellL (tellsX y had now k).1 (orderM y.s had k) now ((tellsX y had now k).1.lines.getD k line0)).2
      omega
theorem silOrder (n d i : Nat) (had : Int → Int) (hi : i < d) (hd : d ≤ n) : orderM (quietS n d) had i = none := by
  unfold orderM
  rw [quietS_at n d i (by omega)]
  rw [if_pos (by simp [quietN]; omega)]
theorem SilP.tells {c : ConfD} {d : Nat} {y : CtlD} (h : SilP c d y) (had : Int → Int) (now : Int) (k : Nat) : SilP c d (tellsX y had now k).1 := by
  have t := tells_of y had now k
  refine ⟨⟨by rw [t.c, t.s]; exact h.ok.right, by rw [t.j]; exact h.ok.jn, by rw [t.sh]; exact h.ok.sh, by rw [t.len, t.s]; exact h.ok.lines⟩, by rw [t.c, h.cf], by rw [t.down, h.down], by rw [t.s, h.st], tells_lines y had now h.lines k, by rw [t.sh]; exact h.sh, by rw [t.j]; exact h.us, by rw [t.j]; exact h.cnt, by rw [t.j]; exact h.n⟩
end Dv

namespace Dv
open Go Go.Proofs

theorem quiet_new {c : ConfD} (h : mayB c = true) : ({ newD c with term := 1 } : StateD) = quietS c.nodes.toNat 0 := by
  unfold newD quietS
  rw [if_pos h]
  have : List.replicate c.nodes.toNat node1 = (List.range c.nodes.toNat).map fun i => (⟨decide (0 ≤ i), false, false, 1, 0⟩ : NodeD) := by
    symm
    rw [List.eq_replicate_iff]
    refine ⟨by simp, fun n hn => ?_⟩
    obtain ⟨i, _, rfl⟩ := List.mem_map.1 hn
    rfl
  simp only [this]
def downO (d : Nat) : OpD := ⟨7, d, 0, 0, 0, 0, 0⟩
theorem quiet_down {c : ConfD} {n d : Nat} (hr : RightP c (quietS n d)) (hd : d < n) (h6 : n ≤ 6) : applyD c (quietS n d) (downO d) = (quietS n (d + 1), 0) := by
  have hok : opOkB (downO d) = true := by
    rcases (show d = 0 ∨ d = 1 ∨ d = 2 ∨ d = 3 ∨ d = 4 ∨ d = 5 by omega) with rfl | rfl | rfl | rfl | rfl | rfl <;> decide
  rw [app_node ((right_iff c _).2 hr) hok (show jobK 7 = false by decide) (show nodeK 7 = true by decide), if_neg (by rw [quietS_len]; show ¬ (n : Int) ≤ d; omega)]
  show downD (quietS n d) (downO d) = _
  have hN : nodeA (quietS n d) (downO d).a = quietN d d := by
    show (quietS n d).nodes.getD (d : Int).toNat zeroNode = _
    exact quietS_at n d d hd
  unfold downD
  rw [hN, if_neg (by simp [quietN])]
  have hj : (quietN d d).job = 0 := rfl
  rw [hj]
  simp only [ne_eq,not_true_eq_false,if_false,hN]
  refine Prod.ext ?_ rfl
  show setN (quietS n d) (d : Int) { quietN d d with up := false, moving := false } = quietS n (d + 1)
  unfold setN quietS
  simp only [StateD.mk.injEq,and_true]
  refine List.ext_getElem (by simp) (fun i h1 h2 => ?_)
  rw [List.getElem_set]
  simp only [Int.toNat_natCast,List.getElem_map,List.getElem_range]
  split
  · rename_i he
    subst he
    simp [quietN]
  · rename_i he
    simp only [NodeD.mk.injEq,and_true]
    have : (d ≤ i) ↔ (d + 1 ≤ i) := by omega
    simp [this]
theorem put_down {d : Nat} (hd : d < 6) : (putO (downO d)).length = 3 := by
  rcases (show d = 0 ∨ d = 1 ∨ d = 2 ∨ d = 3 ∨ d = 4 ∨ d = 5 by omega) with rfl | rfl | rfl | rfl | rfl | rfl <;> decide +kernel
theorem numB_one {n : Int} (h : 0 ≤ n ∧ n < 128) : (numB n).length = 1 := by
  unfold numB
  rw [if_pos (by unfold isNum most53; simp; omega), digs_lt 8 h.2]
  rfl
theorem SilP.room {c : ConfD} {d : Nat} {x : CtlD} (h : SilP c d x) (hd : d < c.nodes.toNat) : x.j.room (putO (downO d)).length = true := by
  have h6 := h.nodes.2
  have hus := h.us
  have hn := h.n
  rw [put_down (by omega)]
  unfold JnD.room roomJ roomL
  rw [h.cnt, numB_one (by omega)]
  rw [show (numB ((3 + 1 : Nat) : Int)).length = 1 from numB_one (by omega)]
  simp
  omega
theorem SilP.fresh0 {c : ConfD} {d : Nat} {x : CtlD} (h : SilP c d x) (hd : d < c.nodes.toNat) : x.freshE (downO d) = 0 ∧ x.freshJ (downO d) = x.j ∧ (applyD x.c x.s (downO d)).1 = quietS c.nodes.toNat (d + 1) := by
  have hrm := h.room hd
  have hap : applyD x.c x.s (downO d) = (quietS c.nodes.toNat (d + 1), 0) := by
    have hr := h.ok.right
    rw [h.st] at hr ⊢
    exact quiet_down hr hd h.nodes.2
  have hj1 : x.jn1 (downO d) = x.j := by unfold CtlD.jn1; rw [if_pos hrm]
  refine ⟨?_, ?_, by rw [hap]⟩
  · unfold CtlD.freshE
    rw [hj1, hap, if_neg (by simp), if_pos hrm]
  · unfold CtlD.freshJ
    rw [hj1, hap, if_neg (by simp)]
theorem recF_len {cnt : Int} {p : List Int} (hc : 0 ≤ cnt ∧ cnt < 128) (hp : 1 ≤ p.length ∧ p.length ≤ 100) : (recF cnt p).length = p.length + 7 := by
  unfold recF
  have h1 : (numB cnt ++ p).length = p.length + 1 := by rw [List.length_append, numB_one hc]; omega
  rw [putF_len (by omega), h1, numB_one (by omega)]
  omega
theorem SilP.next {c : ConfD} {d : Nat} {x : CtlD} (h : SilP c d x) (hd : d < c.nodes.toNat) (now : Int) : SilP c (d + 1) (x.noteX (downO d) now) := by
  obtain ⟨h1, h2, h3⟩ := h.fresh0 hd
  have hok := h.ok.note (downO d) now
  have h6 := h.nodes.2
  have hrec := recF_len (cnt := x.j.cnt) (p := putO (downO d)) (by rw [h.cnt]; omega) (by rw [put_down (by omega)]; omega)
  rw [put_down (by omega)] at hrec
  unfold CtlD.noteX at hok ⊢
  rw [if_pos h1] at hok ⊢
  rw [h2, h3] at hok ⊢
  refine ⟨hok, h.cf, h.down, rfl, ?_, ?_, ?_, ?_, h.n⟩
  · intro l hl
    change l ∈ alsoL now (downO d) x.lines at hl
    unfold alsoL at hl
    rw [if_pos (.inl rfl)] at hl
    rcases List.mem_or_eq_of_mem_set hl with hl | rfl
    · exact h.lines l hl
    · refine ⟨?_, rfl⟩
      show (if (downO d).kind = 8 then now else (x.lines.getD (downO d).a.toNat line0).heard) = 0
      rw [if_neg (show ¬ (downO d).kind = 8 from (by decide : ¬ (7 : Int) = 8))]
      have hlt : (downO d).a.toNat < x.lines.length := by rw [h.len]; show (d : Int).toNat < _; omega
      exact (h.lines _ (by rw [List.getD, List.getElem?_eq_getElem hlt]; exact List.getElem_mem hlt)).1
  · intro k hk
    show (alsoSh (downO d) x.sh).getD k shZ = shZ
    unfold alsoSh
    rw [if_neg (show ¬ (downO d).kind = 13 from (by decide : ¬ (7 : Int) = 13)), if_neg (show ¬ ((downO d).kind = 2 ∨ (downO d).kind = 15) from (by decide : ¬ ((7 : Int) = 2 ∨ (7 : Int) = 15)))]
    exact h.sh k hk
  · show x.j.us + (recF x.j.cnt (putO (downO d))).length ≤ 9 + 10 * (d + 1)
    have := h.us
    omega
  · show IntKind.i64.wrap (x.j.cnt + 1) = 1 + ((d + 1 : Nat) : Int)
    rw [h.cnt, wrap_in (by omega) (by omega)]
    omega
theorem sil_boot {c : ConfD} (h : mayB c = true) {n : Nat} (hn : c.disk = n) (h2 : 2000 ≤ n ∧ n ≤ 65536) (room : Int) : SilP c 0 (ctl1 c n 0 room 0 (List.replicate 25 shZ) 0 0) := by
  have hok := ctl1_ok h (n := n) (by omega) 0 room 0 (List.replicate 25 shZ) (by rw [List.length_replicate]) 0 0
  have hf := freshT h (n := n) (by omega) 0 room 0 (List.replicate 25 shZ) 0 0
  have hs := ctl1_jobs h (n := n) (by omega) 0 room 0 (List.replicate 25 shZ) 0 0
  have hX : (ctl0 c n 0 room 0 (List.replicate 25 shZ) 0 0).noteX termO 0 = { (ctl0 c n 0 room 0 (List.replicate 25 shZ) 0 0) with j := ((ctl0 c n 0 room 0 (List.replicate 25 shZ) 0 0).freshJ termO).add (putO termO), s := (applyD c (newD c) termO).1, noted := IntKind.i64.wrap (0 + 1), sh := List.replicate 25 shZ, lines := List.replicate (newD c).nodes.length (lineN 0) } := by
    unfold CtlD.noteX
    rw [if_pos hf]
    rfl
  have hfj : (ctl0 c n 0 room 0 (List.replicate 25 shZ) 0 0).freshJ termO = ⟨n, List.replicate n 0, IntKind.i64.wrap (0 + 1), 0, -1, 0⟩ := by
    have hrm : (ctl0 c n 0 room 0 (List.replicate 25 shZ) 0 0).j.room (putO termO).length = true := by
      rw [putT]
      show (decide (1 ≤ 2 ∧ 2 ≤ 3900) && roomL (n - 2 * (n / 4)) 0 (2 + (numB 0).length)) = true
      rw [show (numB 0).length = 1 by decide +kernel]
      unfold roomL
      rw [show (numB (2 + 1 : Nat)).length = 1 by decide +kernel]
      simp
      omega
    unfold CtlD.freshJ CtlD.jn1
    rw [if_pos hrm]
    split <;> rfl
  have hrec := recF_len (cnt := 0) (p := putO termO) (by omega) (by rw [putT]; decide)
  rw [putT] at hrec
  refine ⟨hok, ?_, ?_, ?_, ?_, ?_, ?_, ?_, ?_⟩
  · unfold ctl1; rw [hX]; rfl
  · unfold ctl1; rw [hX]; rfl
  · unfold ctl1
    show ((ctl0 c n 0 room 0 (List.replicate 25 shZ) 0 0).noteX termO 0).s = _
    rw [hs, quiet_new h]
  · unfold ctl1; rw [hX]
    intro l hl
    change l ∈ List.replicate (newD c).nodes.length (lineN 0) at hl
    rw [List.eq_of_mem_replicate hl]
    exact ⟨rfl, rfl⟩
  · unfold ctl1; rw [hX]
    intro k hk
    show (List.replicate 25 shZ).getD k shZ = shZ
    rw [List.getD, List.getElem?_replicate, if_pos hk]
    rfl
  · unfold ctl1; rw [hX, hfj]
    show 0 + (recF 0 (putO termO)).length ≤ 9 + 10 * 0
    rw [putT]
    simp only [List.length_cons,List.length_nil] at hrec
    omega
  · unfold ctl1; rw [hX, hfj]
    show IntKind.i64.wrap (0 + 1) = 1 + ((0 : Nat) : Int)
    decide
  · unfold ctl1; rw [hX, hfj]
    exact h2.1
end Dv
