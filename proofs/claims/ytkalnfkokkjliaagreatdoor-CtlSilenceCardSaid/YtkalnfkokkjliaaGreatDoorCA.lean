/- The logical machine and its plain laws: parts C1, C2, C3, C4, C5, C6, C7, proved sound. -/
import Derived.Test.YtkalnfkokkjliaaGreatDoorNA
import Derived.Test.YtkalnfkokkjliaaGreatDoorPB
import Derived.Test.YtkalnfkokkjliaaGreatDoorO1
import Derived.Test.YtkalnfkokkjliaaGreatDoorD7
import Derived.Test.YtkalnfkokkjliaaGreatDoorD18
import Derived.Test.YtkalnfkokkjliaaGreatDoorQ9
import Derived.Test.YtkalnfkokkjliaaGreatDoorDA
import Derived.Test.YtkalnfkokkjliaaGreatDoorI9
set_option linter.unusedVariables false
set_option linter.unusedSimpArgs false
namespace Dv
open Go Go.Proofs
variable {G : Nat → Option (List DV)}

def BytesP (l : List Int) : Prop := ∀ c ∈ l, 0 ≤ c ∧ c ≤ 255
theorem BytesP.cat {a b : List Int} (ha : BytesP a) (hb : BytesP b) : BytesP (a ++ b) := fun c hc => (List.mem_append.1 hc).elim (ha c) (hb c)
theorem digs_rng : ∀ (f : Nat) (m : Int), 0 ≤ m → m < 256 * 128 ^ f → BytesP (digs f m)
  | 0, m, h, h2 => by
    intro c hc
    unfold digs at hc
    simp only [List.mem_singleton] at hc
    subst hc
    omega
  | f + 1, m, h, h2 => by
    intro c hc
    unfold digs at hc
    split at hc
    · rcases List.mem_cons.1 hc with rfl | hc
      · omega
      · refine digs_rng f _ (by omega) ?_ c hc
        rw [Int.pow_succ] at h2
        omega
    · simp only [List.mem_singleton] at hc; subst hc; omega
theorem numB_rng (n : Int) : BytesP (numB n) := by
  unfold numB
  split
  · rename_i h
    unfold isNum most53 at h
    rw [decide_eq_true_eq] at h
    exact digs_rng 8 n h.1 (by omega)
  · intro c hc; cases hc
theorem listB_rng (l : List Int) : BytesP (listB l) := by
  unfold listB
  split
  · refine BytesP.cat (numB_rng _) (fun c hc => ?_)
    obtain ⟨x, _, hx⟩ := List.mem_flatMap.1 hc
    exact numB_rng x c hx
  · intro c hc; cases hc
theorem u8_rng (n : Int) : 0 ≤ IntKind.u8.wrap n ∧ IntKind.u8.wrap n ≤ 255 := by
  show 0 ≤ n % 256 ∧ n % 256 ≤ 255
  omega
theorem sumB_rng (n : Int) : BytesP (sumB n) := by
  intro c hc
  simp only [sumB,List.mem_cons,List.not_mem_nil,or_false] at hc
  rcases hc with rfl | rfl | rfl | rfl <;> exact u8_rng _
theorem putF_rng {p : List Int} (h : BytesP p) : BytesP (putF p) := by
  unfold putF
  split
  · intro c hc; cases hc
  · exact (((numB_rng _).cat h).cat (sumB_rng _)).cat (fun c hc => by simp only [List.mem_singleton] at hc; subst hc; omega)
theorem overB_rng {l : List Int} {a : Nat} {b : List Int} (hl : BytesP l) (hb : BytesP b) : BytesP (overB l a b) :=
  BytesP.cat (BytesP.cat (fun c hc => hl c (List.mem_of_mem_take hc)) hb) (fun c hc => hl c (List.mem_of_mem_drop hc))
theorem zero_rng (n : Nat) : BytesP (List.replicate n 0) := fun c hc => by rw [List.eq_of_mem_replicate hc]; omega
theorem putO_byt (o : OpD) : BytesP (putO o) := by
  unfold putO
  split
  · exact listB_rng _
  · intro c hc; cases hc
theorem putI_byt (s : StateD) : BytesP (putI s) := by
  unfold putI
  split
  · exact listB_rng _
  · intro c hc; cases hc
theorem listB_le (l : List Int) : (listB l).length ≤ 9 * l.length + 9 := by
  unfold listB
  split
  · have h1 := flat_le l
    have h2 := numB_le (l.length : Int)
    rw [List.length_append]; omega
  · simp
theorem putO_le (o : OpD) : (putO o).length ≤ 90 := by
  unfold putO
  split
  · have h1 := listB_le (o.kind :: (numsL o).take (manyK o.kind))
    have h3 : (o.kind :: (numsL o).take (manyK o.kind)).length ≤ 7 := by rw [List.length_cons, List.length_take]; simp [numsL]; omega
    omega
  · simp
theorem putI_le (s : StateD) : (putI s).length ≤ 3000 := by
  unfold putI
  split
  · rename_i h
    have h1 := listB_le (numsI s)
    have h2 : (numsI s).length ≤ 320 := by
      unfold numsI
      rw [List.length_append, numsJ_len s (Nat.le_refl _)]
      simp only [List.length_cons,List.length_nil]
      omega
    omega
  · simp
theorem saveB_rng {l : List Int} {fr sz : Nat} {b : List Int} {age : Int} (hl : BytesP l) (hb : BytesP b) : BytesP (saveB l fr sz b age) :=
  overB_rng (overB_rng hl (zero_rng _)) (putF_rng ((numB_rng _).cat hb))
theorem compB_rng {n : Nat} {l pic : List Int} {cnt : Int} (hl : BytesP l) (hb : BytesP pic) : BytesP (compB n l pic cnt) := overB_rng (saveB_rng hl hb) (zero_rng _)

structure JnD where
  n : Nat
  l : List Int
  s : Int
  cnt : Int
  age : Int
  us : Nat
def jO (j : JnD) : List LObj := jnO j.n j.l j.s j.cnt j.age j.us
structure JnOK (j : JnD) : Prop where
  len : j.l.length = j.n
  size : 64 ≤ j.n ∧ j.n ≤ 65536
  byt : BytesP j.l
  used : j.us ≤ j.n - 2 * (j.n / 4)
def JnD.room (j : JnD) (k : Nat) : Bool := roomJ j.n j.us j.cnt k
def JnD.add (j : JnD) (p : List Int) : JnD := { j with l := overB j.l (2 * (j.n / 4) + j.us) (recF j.cnt p), s := IntKind.i64.wrap (j.s + 1), cnt := IntKind.i64.wrap (j.cnt + 1), us := j.us + (recF j.cnt p).length }
def JnD.packE (j : JnD) (pic : List Int) : Int := if j.age = j.cnt ∨ startE j.l 0 (j.n / 4) pic j.cnt ≠ 0 then 3 else 0
def JnD.pack (j : JnD) (pic : List Int) : JnD := if j.age = j.cnt ∨ startE j.l 0 (j.n / 4) pic j.cnt ≠ 0 then j else { j with l := compB j.n j.l pic j.cnt, s := IntKind.i64.wrap (IntKind.i64.wrap (IntKind.i64.wrap (j.s + 1) + 1) + 1), age := j.cnt, us := 0 }
theorem jroom_tri (j : JnD) (h : JnOK j) (k : Nat) (hk : k ≤ 900000) : Tri Tryz.prog G 183 [.ptr 0 0, .int k] (jO j) (.bool (j.room k)) (jO j) := roomJ_tri j.n j.l j.s j.cnt j.age j.us k h.len h.size.2 h.used hk
theorem jadd_tri (j : JnD) (h : JnOK j) (p : List Int) (hr : j.room p.length = true) : Tri Tryz.prog G 33 [.ptr 0 0, bytesV p] (jO j) (.int 0) (jO (j.add p)) := jappend_tri j.n j.l j.s j.cnt j.age j.us p h.len (by have := h.size; omega) h.used hr
theorem jpack_tri (j : JnD) (h : JnOK j) (pic : List Int) (hp : pic.length ≤ 90000) : Tri Tryz.prog G 31 [.ptr 0 0, bytesV pic] (jO j) (.int (j.packE pic)) (jO (j.pack pic)) := by
  obtain ⟨n, l, s, cnt, age, us⟩ := j
  unfold JnD.packE JnD.pack
  dsimp only
  by_cases h1 : age = cnt
  · rw [if_pos (.inl h1), if_pos (.inl h1)]
    subst h1
    exact compactSame_tri n l s age us pic
  by_cases h2 : startE l 0 (n / 4) pic cnt = 0
  · rw [if_neg (by simp [h1,h2]), if_neg (by simp [h1,h2])]
    exact compact_tri n l s cnt age us pic h.len h.size h.byt hp h1 h2
  · rw [if_pos (.inr h2), if_pos (.inr h2)]
    exact compactErr_tri n l s cnt age us pic h.len h.size h.byt hp h1 h2
theorem JnD.room_fit {j : JnD} {p : List Int} (hr : j.room p.length = true) : j.us + (recF j.cnt p).length ≤ j.n - 2 * (j.n / 4) := by
  unfold JnD.room roomJ roomL at hr
  rw [Bool.and_eq_true, decide_eq_true_eq, decide_eq_true_eq] at hr
  have hrl : (numB j.cnt ++ p).length = p.length + (numB j.cnt).length := by rw [List.length_append, Nat.add_comm]
  unfold recF
  rw [putF_len (by omega), hrl]
  omega
theorem JnOK.add {j : JnD} (h : JnOK j) {p : List Int} (hp : BytesP p) (hr : j.room p.length = true) : JnOK (j.add p) := by
  have hf := JnD.room_fit hr
  have hs := h.size
  have hlen := h.len
  refine ⟨?_, h.size, overB_rng h.byt (putF_rng ((numB_rng _).cat hp)), hf⟩
  show (overB j.l (2 * (j.n / 4) + j.us) (recF j.cnt p)).length = j.n
  rw [overB_len (by omega), h.len]
theorem JnOK.pack {j : JnD} (h : JnOK j) {pic : List Int} (hp : BytesP pic) : JnOK (j.pack pic) := by
  have hs := h.size
  have hlen := h.len
  unfold JnD.pack
  split
  · exact h
  · rename_i hc
    refine ⟨?_, h.size, compB_rng h.byt hp, by show 0 ≤ _; omega⟩
    show (overB (saveB j.l 0 (j.n / 4) pic j.cnt) (2 * (j.n / 4)) (List.replicate (j.n - 2 * (j.n / 4)) 0)).length = j.n
    have hsl := saveB_len (l := j.l) (sz := j.n / 4) (b := pic) (age := j.cnt) (by omega) (by simp at hc; exact hc.2)
    rw [overB_len (by rw [List.length_replicate]; omega), hsl, hlen]
theorem JnD.add_n (j : JnD) (p : List Int) : (j.add p).n = j.n := rfl
theorem JnD.pack_n (j : JnD) (p : List Int) : (j.pack p).n = j.n := by unfold JnD.pack; split <;> rfl
end Dv

namespace Dv
open Go Go.Proofs
variable {G : Nat → Option (List DV)}

structure LineD where
  gen : Int
  has : Bool
  order : MsgD
  sent : Int
  heard : Int
  report : MsgD
def lnR (l : LineD) : List DV := [i64 l.gen, bl l.has] ++ (msgR l.order ++ ([i64 l.sent, i64 l.heard] ++ msgR l.report))
structure CtlD where
  c : ConfD
  s : StateD
  j : JnD
  room : Int
  term : Int
  sh : List ShD
  wr : Int
  lines : List LineD
  down : Bool
  noted : Int
def ctlB (x : CtlD) : LObj := .box 195 [.int x.c.nodes, .int x.c.queues, .int x.c.quota, .int x.c.wave, .int x.c.lease, .int x.c.retry, .int x.c.deadline, .int x.c.room, .int x.c.disk, .ptr 2 0, .ptr 1 0, .ptr 6 0, nodesV x.s.nodes, jobsV x.s.jobs, .int x.s.goal, .int x.s.prior, .int x.s.mode, .int x.s.term, .sl 7 x.lines.length 26 0 x.lines.length, .bool x.down, .int x.noted]
def linesO (l : List LineD) : LObj := .dat 197 26 (l.map lnR)
def ctlO (x : CtlD) : List LObj := [ctlB x, .box 160 [.ptr 2 0, .ptr 3 0, .ptr 4 0, .int x.j.cnt, .int x.j.age], .box 150 [.sl 5 x.j.n 1 0 x.j.n, .d (.val (.slice none 0 0)), .int x.j.s], .box 243 [.ptr 2 0, .int 0, .int ((x.j.n / 4 : Nat) : Int)], .box 245 [.ptr 2 0, .int ((2 * (x.j.n / 4) : Nat) : Int), .int ((x.j.n - 2 * (x.j.n / 4) : Nat) : Int), .int x.j.us], .dat 5 1 (byteR x.j.l), .box 190 ([.int x.room, .int x.term] ++ (x.sh.flatMap shC ++ [.int x.wr])), linesO x.lines]
theorem ctlO_idl (k : Nat) (hk : 8 ≤ k) (x : CtlD) : (ctlO x).all (idlO k) = true := by
  have h : ∀ i, i < 8 → i < k := fun i hi => by omega
  simp [ctlO,ctlB,linesO,List.all_cons,List.all_nil,idlO,Bool.and_true,idlL_cat,shC_idl,idlL,idl,LV.int,LV.bool,nodesV,jobsV,h]

def ir98 : Nat × C × List RV := (9,
(.seq (.reg [qo 2 (.mv qf)])
 (.seq (.reg [qm 3 0,
 qo 4 (.bin .geq (.t 3) (qk 0)),
 qm 5 4,
 qg 6 (.mv (.t 0)) 5 true,
 qg 7 (.bin .leq (.t 6) (qk 1000000)) 5 true,
 qo 8 (.pick (.t 5) (.t 7) qf),
 qm 2 8])
 .ret)),
[(.t 2)])
theorem irOk98 : convFn Tryz.prog Tryz.f98 = some ir98 := by kernel_rfl
def ir119 : Nat × C × List RV := (58,
(.seq (.reg [qo 3 (.box 37 (.t 1)),
 qo 4 (.new 30 [(.val (.slice none 0 0)),(.val (.slice none 0 0)),q0,q0,q0,q0]),
 qo 5 (.mv (.c (.val (.slice none 0 0)))),
 qo 6 (.mv (qk 0))])
 (.seq (.regD [qm 11 0,
 qd 12 (.nck (.t 11)) [0],
 qd 13 (.fad 0 (.t 12)) [1,0],
 qd 14 (.ldn 9 (.t 13)) [2,1,0],
 qm 15 0,
 qd 16 (.nck (.t 15)) [4],
 qd 17 (.fad 12 (.t 16)) [5,4],
 qd 18 (.ldn 6 (.t 17)) [6,5,4],
 qo 19 (.ldn 7 (.t 3)),
 qd 20 (.call (.f 24) [(.t 14),(.t 18),(.t 19)]) [3,2,1,0,7,6,5,4,8],
 qd 10 (.mv (.t 20)) [9,3,2,1,0,7,6,5,4,8],
 qd 21 (.ext (.t 10) 0) [10,9,3,2,1,0,7,6,5,4,8],
 qd 22 (.ext (.t 10) 1) [10,9,3,2,1,0,7,6,5,4,8],
 qo 7 (.new 30 [(.val (.slice none 0 0)),(.val (.slice none 0 0)),q0,q0,q0,q0]),
 ql (.st 6 (.t 7) (.t 21)) [13,11,10,9,3,2,1,0,7,6,5,4,8],
 qd 8 (.mv (.t 22)) [12,10,9,3,2,1,0,7,6,5,4,8,14,13,11]])
 (.seq (.seq (.reg [qm 23 8,
 qo 24 (.bin .neq (.t 23) (qk 0))])
 (.cond (.t 24) (.seq (.reg [qo 25 (.ldn 6 (.t 7)),
 qm 26 8,
 qn (.st 6 (.t 4) (.t 25)),
 qo 5 (.mv (.c (.val (.slice none 0 0)))),
 qm 6 26])
 .ret)
 .skip))
 (.seq (.reg [qo 27 (.ldn 7 (.t 3)),
 qo 28 (.call (.f 203) [(.t 27)]),
 qm 9 28])
 (.seq (.seq (.reg [qm 29 0,
 qo 30 (.nck (.t 29)),
 qo 31 (.fad 10 (.t 30)),
 qo 32 (.ld1 (.t 31)),
 qm 33 9,
 qo 34 (.len (.t 33)),
 qo 35 (.call (.f 183) [(.t 32),(.t 34)]),
 qo 36 (.not (.t 35))])
 (.cond (.t 36) (.regD [qm 37 0,
 qd 38 (.nck (.t 37)) [0],
 qd 39 (.fad 10 (.t 38)) [1,0],
 qd 40 (.ld1 (.t 39)) [2,1,0],
 qm 41 0,
 qd 42 (.nck (.t 41)) [4],
 qd 43 (.fad 12 (.t 42)) [5,4],
 qd 44 (.ldn 6 (.t 43)) [6,5,4],
 qd 45 (.call (.f 204) [(.t 44)]) [7,6,5,4],
 qd 46 (.call (.f 31) [(.t 40),(.t 45)]) [3,2,1,0,8,7,6,5,4]])
 .skip))
 (.seq (.seq (.reg [qm 47 0,
 qo 48 (.nck (.t 47)),
 qo 49 (.fad 10 (.t 48)),
 qo 50 (.ld1 (.t 49)),
 qm 51 9,
 qo 52 (.len (.t 51)),
 qo 53 (.call (.f 183) [(.t 50),(.t 52)]),
 qo 54 (.not (.t 53))])
 (.cond (.t 54) (.seq (.reg [qo 55 (.ldn 6 (.t 7)),
 qn (.st 6 (.t 4) (.t 55)),
 qo 5 (.mv (.c (.val (.slice none 0 0)))),
 qo 6 (.mv (qk 3))])
 .ret)
 .skip))
 (.seq (.reg [qo 56 (.ldn 6 (.t 7)),
 qm 57 9,
 qn (.st 6 (.t 4) (.t 56)),
 qm 5 57,
 qo 6 (.mv (qk 0))])
 .ret))))))),
[(.cn 4 6),(.t 5),(.t 6)])
theorem irOk119 : convFn Tryz.prog Tryz.f119 = some ir119 := by kernel_rfl
def ir109 : Nat × C × List RV := (12,
(.seq (.reg [qo 2 (.mv qf)])
 (.seq (.reg [qm 3 0,
 qo 4 (.isnp true (.t 3)),
 qm 5 4,
 qg 6 (.mv (.t 0)) 5 true,
 qg 7 (.nck (.t 6)) 5 true,
 qg 8 (.fad 19 (.t 7)) 5 true,
 qg 9 (.ld1 (.t 8)) 5 true,
 qg 10 (.not (.t 9)) 5 true,
 qo 11 (.pick (.t 5) (.t 10) qf),
 qm 2 11])
 .ret)),
[(.t 2)])
theorem irOk109 : convFn Tryz.prog Tryz.f109 = some ir109 := by kernel_rfl
theorem time_tri (n : Int) : Tri Tryz.prog G 98 [.int n] [] (.bool (decide (0 ≤ n ∧ n ≤ 1000000))) [] := by
  refine tri_W0 Tryz.func98 (by decide) irOk98 (Nat.le_of_ble_eq_true rfl) rfl ?_
  simp only [ir98,go_sem,simprocAttr]
  by_cases h1 : 0 ≤ n
  · simp only [decide_eq_true (show n ≥ 0 from h1),h1,true_and,go_sem,simprocAttr]
  · simp only [decide_eq_false (show ¬ n ≥ 0 from h1),h1,false_and,decide_false,go_sem,simprocAttr]
theorem calive_tri (x : CtlD) : Tri Tryz.prog G 109 [.ptr 0 0] (ctlO x) (.bool (!x.down)) (ctlO x) := by
  refine tri_WP Tryz.func109 (by decide) irOk109 (Nat.le_of_ble_eq_true rfl) rfl (ctlO_idl _ (Nat.le_refl 8) _) rfl ?_
  simp only [ctlO,ctlB,List.cons_append,List.nil_append,ir109,go_sem,simprocAttr]
theorem catAdd_tri (x : CtlD) : Tri Tryz.prog G 127 [.ptr 0 20, .int 1] (ctlO x) (.int (IntKind.i64.wrap (x.noted + 1))) (ctlO { x with noted := IntKind.i64.wrap (x.noted + 1) }) := by
  refine tri_WP Tryz.func127 (by decide) irOk127 (Nat.le_of_ble_eq_true rfl) rfl (ctlO_idl _ (Nat.le_refl 8) _) rfl ?_
  simp only [ctlO,ctlB,List.cons_append,List.nil_append,ir127,go_sem,simprocAttr]
def CtlD.state (x : CtlD) : StateD := if x.down = true then ⟨[], [], 0, 0, 0, 0⟩ else x.s
structure XOK (x : CtlD) : Prop where
  right : RightP x.c x.s
  jn : JnOK x.j
  sh : x.sh.length = 25
  lines : x.lines.length = x.s.nodes.length
def CtlD.jn1 (x : CtlD) (o : OpD) : JnD := if x.j.room (putO o).length = true then x.j else x.j.pack (putI x.s)
def CtlD.freshE (x : CtlD) (o : OpD) : Int := if (applyD x.c x.s o).2 ≠ 0 then (applyD x.c x.s o).2 else if (x.jn1 o).room (putO o).length = true then 0 else 3
def CtlD.freshJ (x : CtlD) (o : OpD) : JnD := if (applyD x.c x.s o).2 ≠ 0 then x.j else x.jn1 o
def CtlD.freshB (x : CtlD) (o : OpD) : LV := if x.freshE o ≠ 0 then .d (.val (.slice none 0 0)) else bytesV (putO o)
set_option maxHeartbeats 1000000 in
theorem fresh_tri (x : CtlD) (h : XOK x) (o : OpD) : Tri Tryz.prog bookG 119 [.ptr 0 0, opV o] (ctlO x) (.tup [stateV (applyD x.c x.s o).1, x.freshB o, .int (x.freshE o)]) (ctlO { x with j := x.freshJ o }) := by
  have hap := apply_tri x.c x.s o
  have hpu := oput_tri o
  have hpl : (putO o).length ≤ 900000 := by have := putO_le o; omega
  have hr1 := jroom_tri (G := bookG) x.j h.jn (putO o).length hpl
  have hin := put_tri (G := bookG) x.s (by have := h.right.len; omega) (by have := h.right.jobs; omega)
  have hpk := jpack_tri (G := bookG) x.j h.jn (putI x.s) (by have := putI_le x.s; omega)
  have hr2 := jroom_tri (G := bookG) (x.j.pack (putI x.s)) (h.jn.pack (putI_byt _)) (putO o).length hpl
  have hn2 : (x.j.pack (putI x.s)).n = x.j.n := JnD.pack_n _ _
  simp only [jO,jnO,hn2,bytesV] at hr1 hpk hr2 hpu hin
  unfold CtlD.freshB CtlD.freshE CtlD.freshJ CtlD.jn1
  by_cases h1 : (applyD x.c x.s o).2 = 0
  case neg =>
    simp only [ne_eq,h1,not_false_eq_true,if_true]
    refine tri_WP Tryz.func119 (by decide) irOk119 (Nat.le_of_ble_eq_true rfl) rfl (ctlO_idl _ (Nat.le_refl 8) _) rfl ?_
    simp only [ctlO,ctlB,linesO,bytesV,List.cons_append,List.nil_append,ir119,go_sem,simprocAttr]
    refine WD_calld (hap) rfl rfl rfl rfl ?_; simp only [go_sem,simprocAttr]
    refine W_opsD_end rfl ?_
    simp only [show ((applyD x.c x.s o).2 != 0) = true from bne_iff_ne.2 h1,go_sem,simprocAttr]
  simp only [ne_eq,h1,not_true_eq_false,if_false]
  by_cases h2 : x.j.room (putO o).length = true
  case pos =>
    rw [h2] at hr1
    simp only [h2,if_true,not_true_eq_false,if_false]
    refine tri_WP Tryz.func119 (by decide) irOk119 (Nat.le_of_ble_eq_true rfl) rfl (ctlO_idl _ (Nat.le_refl 8) _) rfl ?_
    simp only [ctlO,ctlB,linesO,bytesV,List.cons_append,List.nil_append,ir119,go_sem,simprocAttr]
    refine WD_calld (hap) rfl rfl rfl rfl ?_; simp only [go_sem,simprocAttr]
    refine W_opsD_end rfl ?_
    simp only [h1,go_sem,simprocAttr]
    refine W_calld (hpu) rfl rfl rfl rfl ?_; simp only [go_sem,simprocAttr]
    simp only [byteR_len,go_sem,simprocAttr]
    refine W_callo [1, 2, 3, 4, 5] (hr1) rfl (by simp only [argRs,argR,List.map_cons,List.map_nil,go_sem,simprocAttr]) (by decide) (by simp only [go_sem,simprocAttr]) (by simp only [go_sem,simprocAttr,List.all_cons,List.all_nil]) (by simp) ?_; simp only [go_sem,simprocAttr]
    simp only [byteR_len,go_sem,simprocAttr]
    refine W_callo [1, 2, 3, 4, 5] (hr1) rfl (by simp only [argRs,argR,List.map_cons,List.map_nil,go_sem,simprocAttr]) (by decide) (by simp only [go_sem,simprocAttr]) (by simp only [go_sem,simprocAttr,List.all_cons,List.all_nil]) (by simp) ?_; simp only [go_sem,simprocAttr]
  have hr1f : roomJ x.j.n x.j.us x.j.cnt (putO o).length = false := by cases hq : roomJ x.j.n x.j.us x.j.cnt (putO o).length <;> simp_all [JnD.room]
  simp only [JnD.room,hr1f] at hr1
  simp only [h2,if_false]
  generalize hj2 : x.j.pack (putI x.s) = j2 at *
  generalize x.j.packE (putI x.s) = e2 at *
  obtain ⟨n2, l2, s2, c2, a2, u2⟩ := j2
  subst hn2
  dsimp only at hpk hr2
  have hbody : ∀ r : Bool, JnD.room ⟨x.j.n, l2, s2, c2, a2, u2⟩ (putO o).length = r → Tri Tryz.prog bookG 119 [.ptr 0 0, opV o] (ctlO x) (.tup [stateV (applyD x.c x.s o).1, if r = true then bytesV (putO o) else .d (.val (.slice none 0 0)), .int (if r = true then 0 else 3)]) (ctlO { x with j := ⟨x.j.n, l2, s2, c2, a2, u2⟩ }) := by
    intro r hr
    rw [hr] at hr2
    refine tri_WP Tryz.func119 (by decide) irOk119 (Nat.le_of_ble_eq_true rfl) (by cases r <;> rfl) (ctlO_idl _ (Nat.le_refl 8) _) rfl ?_
    simp only [ctlO,ctlB,linesO,bytesV,List.cons_append,List.nil_append,ir119,go_sem,simprocAttr]
    refine WD_calld (hap) rfl rfl rfl rfl ?_; simp only [go_sem,simprocAttr]
    refine W_opsD_end rfl ?_
    simp only [h1,go_sem,simprocAttr]
    refine W_calld (hpu) rfl rfl rfl rfl ?_; simp only [go_sem,simprocAttr]
    simp only [byteR_len,go_sem,simprocAttr]
    refine W_callo [1, 2, 3, 4, 5] (hr1) rfl (by simp only [argRs,argR,List.map_cons,List.map_nil,go_sem,simprocAttr]) (by decide) (by simp only [go_sem,simprocAttr]) (by simp only [go_sem,simprocAttr,List.all_cons,List.all_nil]) (by simp) ?_; simp only [go_sem,simprocAttr]
    refine WD_calld (hin) rfl rfl rfl rfl ?_; simp only [go_sem,simprocAttr]
    refine WD_callo [1, 2, 3, 4, 5] (hpk) rfl (by simp only [argRs,argR,List.map_cons,List.map_nil,go_sem,simprocAttr]) (by decide) (by simp only [go_sem,simprocAttr]) (by simp only [go_sem,simprocAttr,List.all_cons,List.all_nil]) (by simp) ?_; simp only [go_sem,simprocAttr]
    refine W_opsD_end rfl ?_
    simp only [go_sem,simprocAttr]
    simp only [byteR_len,go_sem,simprocAttr]
    refine W_callo [1, 2, 3, 4, 5] (hr2) rfl (by simp only [argRs,argR,List.map_cons,List.map_nil,go_sem,simprocAttr]) (by decide) (by simp only [go_sem,simprocAttr]) (by simp only [go_sem,simprocAttr,List.all_cons,List.all_nil]) (by simp) ?_; simp only [go_sem,simprocAttr]
    cases r with
    | true => simp only [hr,go_sem,simprocAttr]
    | false => simp only [hr,go_sem,simprocAttr]
  have := hbody _ rfl
  split at this <;> simp_all
end Dv

namespace Dv
open Go Go.Proofs
variable {G : Nat → Option (List DV)}

def ir103 : Nat × C × List RV := (58,
(.seq (.reg [qo 6 (.mv (qk 0))])
 (.seq (.reg [qm 8 0,
 qm 9 1,
 qo 10 (.call (.f 126) [(.t 8),(.t 9)]),
 qm 7 10])
 (.seq (.block 0 (.seq (.reg [qm 12 0,
 qo 13 (.isnp false (.t 12)),
 qm 11 13])
 (.cond (.t 11) (.seq (.reg [qo 6 (.mv (qk 1))])
 .ret)
 (.seq (.reg [qm 15 7,
 qo 16 (.isnp false (.t 15)),
 qm 17 16,
 qg 18 (.mv (.t 2)) 17 false,
 qg 19 (.bin .lss (.t 18) (qk 1)) 17 false,
 qo 20 (.pick (.t 17) qt (.t 19)),
 qm 21 20,
 qg 22 (.mv (.t 2)) 21 false,
 qg 23 (.mv (.t 7)) 21 false,
 qg 24 (.nck (.t 23)) 21 false,
 qg 25 (.fad 0 (.t 24)) 21 false,
 qg 26 (.fad 0 (.t 25)) 21 false,
 qg 27 (.ld1 (.t 26)) 21 false,
 qg 28 (.bin .neq (.t 22) (.t 27)) 21 false,
 qg 29 (.mv (.t 28)) 21 false,
 qg 30 (.mv (.t 2)) 29 true,
 qg 31 (.mv (.t 7)) 29 true,
 qg 32 (.nck (.t 31)) 29 true,
 qg 33 (.fad 2 (.t 32)) 29 true,
 qg 34 (.fad 0 (.t 33)) 29 true,
 qg 35 (.ld1 (.t 34)) 29 true,
 qg 36 (.bin .neq (.t 30) (.t 35)) 29 true,
 qg 37 (.pick (.t 29) (.t 36) qf) 21 false,
 qo 38 (.pick (.t 21) qt (.t 37)),
 qm 14 38])
 (.cond (.t 14) (.seq (.reg [qo 6 (.mv (qk 4))])
 .ret)
 (.seq (.reg [qm 40 2,
 qm 41 7,
 qo 42 (.nck (.t 41)),
 qo 43 (.fad 2 (.t 42)),
 qo 44 (.fad 0 (.t 43)),
 qo 45 (.ld1 (.t 44)),
 qo 46 (.bin .eql (.t 40) (.t 45)),
 qm 39 46])
 (.cond (.t 39) (.reg [qm 47 7,
 qm 48 7,
 qm 49 7,
 qo 50 (.nck (.t 49)),
 qo 51 (.fad 2 (.t 50)),
 qo 52 (.ldn 2 (.t 51)),
 qo 53 (.build [q0,(.val (.slice none 0 0))] []),
 qo 54 (.nck (.t 47)),
 qo 55 (.fad 0 (.t 54)),
 qn (.st 2 (.t 55) (.t 52)),
 qo 56 (.nck (.t 48)),
 qo 57 (.fad 2 (.t 56)),
 qn (.st 2 (.t 57) (.t 53))])
 .skip)))))))
 (.seq (.reg [qo 6 (.mv (qk 0))])
 .ret)))),
[(.t 6)])
theorem irOk103 : convFn Tryz.prog Tryz.f103 = some ir103 := by kernel_rfl


def commitD (x : ShD) (epoch : Int) : ShD := if epoch = x.se then ⟨x.se, x.sd, 0, []⟩ else x
section
variable (A B : List LV) (a b c d x y : LV) (n : Nat)
theorem q4_0 (h : A.length = n) : (A ++ a :: b :: c :: d :: B)[n]? = some a := by subst h; simp
theorem q4_2 (h : A.length = n) : (A ++ a :: b :: c :: d :: B)[n + 2]? = some c := by subst h; simp
theorem q4_t (h : A.length = n) : ((A ++ a :: b :: c :: d :: B).drop (n + 2)).take 2 = [c, d] := by subst h; rw [List.drop_append]; simp [List.drop_eq_nil_of_le]
theorem q4_s0 (h : A.length = n) : (A ++ a :: b :: c :: d :: B).take n ++ [x, y] ++ (A ++ a :: b :: c :: d :: B).drop (n + 2) = A ++ x :: y :: c :: d :: B := by subst h; rw [List.drop_append]; simp
theorem q4_s2 (h : A.length = n) : (A ++ a :: b :: c :: d :: B).take (n + 2) ++ [x, y] ++ (A ++ a :: b :: c :: d :: B).drop (n + 4) = A ++ a :: b :: x :: y :: B := by subst h; rw [List.drop_append, List.take_append]; simp [List.take_of_length_le,List.drop_eq_nil_of_le]
end
theorem sto_split (room term : Int) (sh : List ShD) (wr : Int) (k : Nat) (h : k < sh.length) : ∃ A B : List LV, A.length = 2 + 4 * k ∧ (∀ x : ShD, LV.int room :: LV.int term :: ((sh.set k x).flatMap shC ++ [LV.int wr]) = A ++ .int x.ce :: datV x.cd :: .int x.se :: datV x.sd :: B) ∧ ∀ x : ShD, sh.getD k shZ = x → LV.int room :: LV.int term :: (sh.flatMap shC ++ [LV.int wr]) = A ++ .int x.ce :: datV x.cd :: .int x.se :: datV x.sd :: B := by
  have hl := shC_len sh
  have h2 : ∀ x : ShD, LV.int room :: LV.int term :: ((sh.set k x).flatMap shC ++ [LV.int wr]) = (.int room :: .int term :: (sh.flatMap shC ++ [.int wr])).take (2 + 4 * k) ++ .int x.ce :: datV x.cd :: .int x.se :: datV x.sd :: (sh.flatMap shC ++ [LV.int wr]).drop (2 + 4 * k + 2) := by
    intro x
    rw [← shC_set2 (.int room) (.int term) (.int wr) x sh k h]
    simp [shC]
  refine ⟨_, _, ?_, h2, fun x hx => ?_⟩
  · rw [List.length_take]; simp only [List.length_cons,List.length_append,hl,List.length_nil]; omega
  · rw [← h2 x, ← hx]; simp [List.getD,h]
theorem storeCommit_tri (room term : Int) (sh : List ShD) (wr : Int) (k : Nat) (hk : 1 ≤ k ∧ k ≤ 24) (hs : sh.length = 25) (ep : Int) (he : 1 ≤ ep) (r : Int) (hr : r = if ep = (sh.getD k shZ).ce ∨ ep = (sh.getD k shZ).se then 0 else 4) : Tri Tryz.prog G 103 [.ptr 0 0, .int k, .int ep] (stO room term sh wr) (.int r) (stO room term (sh.set k (commitD (sh.getD k shZ) ep)) wr) := by
  have hj := storeJob_tri (G := G) room term sh wr k hk
  obtain ⟨A, B, hA, hB, hC⟩ := sto_split room term sh wr k (by omega)
  have hC := hC _ rfl
  have hid1 := stO_idl 1 room term (sh.set k (commitD (sh.getD k shZ) ep)) wr
  have hid2 := stO_idl 1 room term sh wr
  have hrn := shC_rn
  generalize sh.getD k shZ = x at *
  obtain ⟨ce, cd, se, sd⟩ := x
  simp only [stO,List.cons_append,List.nil_append] at hj
  refine tri_WP Tryz.func103 (by decide) irOk103 (Nat.le_of_ble_eq_true rfl) rfl hid1 rfl ?_
  simp only [stO,List.cons_append,List.nil_append,ir103,go_sem,simprocAttr]
  refine W_calll [0] (hj) rfl (by simp only [argRs,argR,List.map_cons,List.map_nil,go_sem,simprocAttr,rnL_cat,shC_rn,idlL_cat,shC_idl]) (by decide) (by simp only [go_sem,simprocAttr,rnL_cat,shC_rn,idlL_cat,shC_idl]) (by simp only [go_sem,simprocAttr,List.all_cons,List.all_nil,rnL_cat,shC_rn,idlL_cat,shC_idl]) ?_; simp only [go_sem,simprocAttr,rnL_cat,shC_rn,idlL_cat,shC_idl]
  simp only [LV.int] at hB hC
  rw [hC, hB]
  dsimp only at hr
  generalize hm : 2 + 4 * k = m at *
  have g0 := q4_0 A B (LV.d (.val (.int .i64 ce))) (datV cd) (LV.d (.val (.int .i64 se))) (datV sd) m hA
  have g2 := q4_2 A B (LV.d (.val (.int .i64 ce))) (datV cd) (LV.d (.val (.int .i64 se))) (datV sd) m hA
  have gt := q4_t A B (LV.d (.val (.int .i64 ce))) (datV cd) (LV.d (.val (.int .i64 se))) (datV sd) m hA
  have gs0 := q4_s0 A B (LV.d (.val (.int .i64 ce))) (datV cd) (LV.d (.val (.int .i64 se))) (datV sd) (LV.d (.val (.int .i64 se))) (datV sd) m hA
  have gs2 := q4_s2 A B (LV.d (.val (.int .i64 se))) (datV sd) (LV.d (.val (.int .i64 se))) (datV sd) (LV.d (.val (.int .i64 0))) (LV.d (.val (.slice none 0 0))) m hA
  have gl : ∀ a b c d : LV, (A ++ a :: b :: c :: d :: B).length = m + 4 + B.length := by intros; rw [List.length_append, hA]; simp; omega
  have c1 : m + 2 ≤ m + 4 + B.length := by omega
  have c2 : m + 4 ≤ m + 4 + B.length := by omega
  clear hB hC hid1 hid2
  simp only [decide_eq_false (show ¬ ep < 1 by omega),g0,go_sem,simprocAttr]
  by_cases e2 : ep = se
  · have hr0 : r = 0 := by rw [hr, if_pos (.inr e2)]
    have hcm : commitD ⟨ce, cd, se, sd⟩ ep = ⟨se, sd, 0, []⟩ := by unfold commitD; rw [if_pos e2]
    have b2 : (ep == se) = true := beq_iff_eq.2 e2
    have b3 : (ep != se) = false := by rw [e2]; exact bne_self_eq_false _
    subst hr0
    simp only [hcm,show datV [] = LV.d (.val (.slice none 0 0)) from rfl]
    cases b1 : (ep != ce) <;> simp only [b1,b2,b3,g0,g2,gt,gs0,gs2,gl,c1,c2,if_true,go_sem,simprocAttr]
  · have hcm : commitD ⟨ce, cd, se, sd⟩ ep = ⟨ce, cd, se, sd⟩ := by unfold commitD; rw [if_neg e2]
    have b2 : (ep == se) = false := beq_eq_false_iff_ne.2 e2
    have b3 : (ep != se) = true := bne_iff_ne.2 e2
    simp only [hcm]
    by_cases e1 : ep = ce
    · have hr0 : r = 0 := by rw [hr, if_pos (.inl e1)]
      have b1 : (ep != ce) = false := by rw [e1]; exact bne_self_eq_false _
      subst hr0
      simp only [b1,b2,b3,g0,g2,go_sem,simprocAttr]
    · have hr0 : r = 4 := by rw [hr, if_neg (by simp [e1,e2])]
      have b1 : (ep != ce) = true := bne_iff_ne.2 e1
      subst hr0
      simp only [b1,b2,b3,g0,g2,go_sem,simprocAttr]

def ir188 : Nat × C × List RV := (16,
(.seq (.reg [qo 2 (.box 72 (.t 0)),
 qo 3 (.box 3 (.t 1)),
 qo 4 (.mv (.c (.val (.map none))))])
 (.seq (.reg [qo 7 (.mkf (.func 237) [] [(.t 2),(.t 3)]),
 qm 5 7])
 (.seq (.reg [qo 8 (.mkf (.func 238) [] [(.t 2)]),
 qm 6 8])
 (.seq (.reg [qo 9 ((.more .mkm)),
 qo 10 (.mkf (.func 239) [] [(.t 2)]),
 qn ((.more (.mup (.t 9) (qk 13) (.t 10)))),
 qm 11 6,
 qn ((.more (.mup (.t 9) (qk 2) (.t 11)))),
 qm 12 6,
 qn ((.more (.mup (.t 9) (qk 15) (.t 12)))),
 qm 13 5,
 qn ((.more (.mup (.t 9) (qk 7) (.t 13)))),
 qm 14 5,
 qn ((.more (.mup (.t 9) (qk 8) (.t 14)))),
 qm 15 9,
 qm 4 15])
 .ret)))),
[(.t 4)])
theorem irOk188 : convFn Tryz.prog Tryz.f188 = some ir188 := by kernel_rfl
def ir237 : Nat × C × List RV := (26,
(.seq (.reg [qo 3 (.box 37 (.t 0))])
 (.seq (.regD [qo 5 (.ld1 (.t 1)),
 qd 6 (.nck (.t 5)) [0],
 qd 7 (.fad 18 (.t 6)) [1,0],
 qd 8 (.ld1 (.t 7)) [2,1,0],
 qo 9 (.fad 1 (.t 3)),
 qd 10 (.ld1 (.t 9)) [4],
 qd 11 (.ixa 26 (.t 8) (.t 10)) [3,2,1,0,5,4],
 qd 4 (.mv (.t 11)) [6,3,2,1,0,5,4]])
 (.seq (.reg [qm 12 4,
 qm 13 4,
 qo 14 (.build [q0,q0,q0,q0,q0,q0,q0,q0,q0,q0,q0] []),
 qo 15 (.nck (.t 12)),
 qo 16 (.fad 1 (.t 15)),
 qn (.st 1 (.t 16) qf),
 qo 17 (.nck (.t 13)),
 qo 18 (.fad 15 (.t 17)),
 qn (.st 11 (.t 18) (.t 14))])
 (.seq (.reg [qo 19 (.fad 0 (.t 3)),
 qo 20 (.ld1 (.t 19)),
 qo 21 (.bin .eql (.t 20) (qk 8))])
 (.cond (.t 21) (.reg [qm 22 4,
 qo 23 (.ld1 (.t 2)),
 qo 24 (.nck (.t 22)),
 qo 25 (.fad 14 (.t 24)),
 qn (.st 1 (.t 25) (.t 23))])
 .skip))))),
[])
theorem irOk237 : convFn Tryz.prog Tryz.f237 = some ir237 := by kernel_rfl
def ir238 : Nat × C × List RV := (10,
(.seq (.reg [qo 2 (.box 37 (.t 0))])
 (.regD [qo 3 (.ld1 (.t 1)),
 qd 4 (.nck (.t 3)) [0],
 qd 5 (.fad 11 (.t 4)) [1,0],
 qd 6 (.ld1 (.t 5)) [2,1,0],
 qo 7 (.fad 1 (.t 2)),
 qd 8 (.ld1 (.t 7)) [4],
 qd 9 (.call (.f 102) [(.t 6),(.t 8)]) [3,2,1,0,5,4]])),
[])
theorem irOk238 : convFn Tryz.prog Tryz.f238 = some ir238 := by kernel_rfl
def ir239 : Nat × C × List RV := (12,
(.seq (.reg [qo 2 (.box 37 (.t 0))])
 (.regD [qo 3 (.ld1 (.t 1)),
 qd 4 (.nck (.t 3)) [0],
 qd 5 (.fad 11 (.t 4)) [1,0],
 qd 6 (.ld1 (.t 5)) [2,1,0],
 qo 7 (.fad 1 (.t 2)),
 qd 8 (.ld1 (.t 7)) [4],
 qo 9 (.fad 2 (.t 2)),
 qd 10 (.ld1 (.t 9)) [6],
 qd 11 (.call (.f 103) [(.t 6),(.t 8),(.t 10)]) [3,2,1,0,5,4,7,6]])),
[])
theorem irOk239 : convFn Tryz.prog Tryz.f239 = some ir239 := by kernel_rfl
def ir100 : Nat × C × List RV := (53,
(.seq (.reg [qo 4 (.box 37 (.t 1)),
 qo 6 (.mv (qk 0))])
 (.seq (.reg [qm 14 0,
 qo 15 (.ldn 7 (.t 4)),
 qo 16 (.call (.f 119) [(.t 14),(.t 15)]),
 qm 13 16,
 qo 17 (.ext (.t 13) 0),
 qo 18 (.ext (.t 13) 1),
 qo 19 (.ext (.t 13) 2),
 qo 7 (.new 30 [(.val (.slice none 0 0)),(.val (.slice none 0 0)),q0,q0,q0,q0]),
 qn (.st 6 (.t 7) (.t 17)),
 qm 8 18,
 qm 9 19])
 (.seq (.seq (.reg [qm 20 9,
 qo 21 (.bin .neq (.t 20) (qk 0))])
 (.cond (.t 21) (.seq (.reg [qm 22 9,
 qm 6 22])
 .ret)
 .skip))
 (.seq (.seq (.reg [qm 23 0,
 qo 24 (.nck (.t 23)),
 qo 25 (.fad 10 (.t 24)),
 qo 26 (.ld1 (.t 25)),
 qm 27 8,
 qo 28 (.call (.f 33) [(.t 26),(.t 27)]),
 qm 10 28])
 (.seq (.reg [qm 29 10,
 qo 30 (.bin .neq (.t 29) (qk 0))])
 (.cond (.t 30) (.seq (.reg [qm 31 10,
 qm 6 31])
 .ret)
 .skip)))
 (.seq (.reg [qm 32 0,
 qo 33 (.ldn 6 (.t 7)),
 qo 34 (.nck (.t 32)),
 qo 35 (.fad 12 (.t 34)),
 qn (.st 6 (.t 35) (.t 33))])
 (.seq (.reg [qm 36 0,
 qo 37 (.nck (.t 36)),
 qo 38 (.fad 20 (.t 37)),
 qo 39 (.call (.f 127) [(.t 38),(qk 1)])])
 (.seq (.seq (.regD [qm 41 0,
 qm 42 2,
 qd 43 (.call (.f 188) [(.t 41),(.t 42)]) [0,1],
 qo 44 (.fad 0 (.t 4)),
 qd 45 (.ld1 (.t 44)) [3],
 qd 46 ((.more (.mlk .nilFunc true (.t 43) (.t 45)))) [2,0,1,4,3],
 qd 40 (.mv (.t 46)) [5,2,0,1,4,3],
 qd 47 (.ext (.t 40) 0) [6,5,2,0,1,4,3],
 qd 48 (.ext (.t 40) 1) [6,5,2,0,1,4,3],
 qd 11 (.mv (.t 47)) [7,6,5,2,0,1,4,3],
 qd 12 (.mv (.t 48)) [8,6,5,2,0,1,4,3,9,7]])
 (.seq (.reg [qm 49 12])
 (.cond (.t 49) (.reg [qm 50 11,
 qo 51 (.ldn 7 (.t 4)),
 qo 52 (.call (.t 50) [(.t 51)])])
 .skip)))
 (.seq (.reg [qo 6 (.mv (qk 0))])
 .ret)))))))),
[(.t 6)])
theorem irOk100 : convFn Tryz.prog Tryz.f100 = some ir100 := by kernel_rfl


def boxX : LObj := .box 72 [.ptr 0 0]
def forgV : LV := .fn (.func 237) [] [.ptr 8 0, .ptr 9 0]
def endV : LV := .fn (.func 238) [] [.ptr 8 0]
def savV : LV := .fn (.func 239) [] [.ptr 8 0]
def alsoM : LObj := .mp [(13, savV), (2, endV), (15, endV), (7, forgV), (8, forgV)]
theorem also_tri (x : CtlD) (now : Int) : Tri Tryz.prog G 188 [.ptr 0 0, .int now] (ctlO x) (.mr 10) (ctlO x ++ [boxX, .box 3 [.int now], alsoM]) := by
  refine tri_W Tryz.func188 (by decide) irOk188 (Nat.le_of_ble_eq_true rfl) ?_
  simp only [ctlO,ctlB,linesO,List.cons_append,List.nil_append,ir188,go_sem,simprocAttr]
  refine BackR [] [0, 1, 2, 3, 4, 5, 6, 7, 8, 9, 10] [] (vs := [.mr 10]) rfl rfl (by decide) (by simp) (by simp) ?_ (by show (ctlO x ++ [boxX, .box 3 [.int now], alsoM]).all (idlO 11) = true; rw [List.all_append, ctlO_idl _ (by omega)]; rfl) ?_
  · simp only [List.map_cons,List.map_nil,rnO,rnL,rnL_cat,shC_rn]
    rfl
  simp [oneOr,argR,argRs,LV.int,LV.bool,boxX,alsoM,savV,endV,forgV]
end Dv

namespace Dv
open Go Go.Proofs
variable {G : Nat → Option (List DV)}

def msg0 : MsgD := zeroMsg
def line0 : LineD := ⟨0, false, msg0, 0, 0, msg0⟩
def forgL (now : Int) (k : Int) (l : LineD) : LineD := { l with has := false, report := msg0, heard := if k = 8 then now else l.heard }
theorem forget_tri (x : CtlD) (now : Int) (o : OpD) (i : Nat) (hi : i < x.lines.length) (ho : o.a = i) : Tri Tryz.prog G 237 [opV o, .ptr 8 0, .ptr 9 0] (ctlO x ++ [boxX, .box 3 [.int now]]) (.tup []) (ctlO { x with lines := x.lines.set i (forgL now o.kind (x.lines.getD i line0)) } ++ [boxX, .box 3 [.int now]]) := by
  have hid : (ctlO { x with lines := x.lines.set i (forgL now o.kind (x.lines.getD i line0)) } ++ [boxX, .box 3 [.int now]]).all (idlO 10) = true := by rw [List.all_append, ctlO_idl _ (by omega)]; rfl
  refine tri_WP Tryz.func237 (by decide) irOk237 (Nat.le_of_ble_eq_true rfl) rfl hid rfl ?_
  have hg := get_mapD (f := lnR) line0 hi
  generalize x.lines.getD i line0 = l at *
  obtain ⟨lg, lh, ⟨q0, q1, q2, q3, q4, q5, q6, q7, q8, q9, q10⟩, ls, le, ⟨r0, r1, r2, r3, r4, r5, r6, r7, r8, r9, r10⟩⟩ := l
  simp only [lnR,msgR,List.cons_append,List.nil_append] at hg
  obtain ⟨k, a, b, c, d, e, f⟩ := o
  dsimp only at ho
  subst ho
  simp only [ctlO,ctlB,linesO,boxX,List.length_set,List.cons_append,List.nil_append,ir237,go_sem,simprocAttr]
  have hgs : ∀ v, ((x.lines.map lnR).set i v)[i]? = some v := fun v => List.getElem?_set_self (by simpa using hi)
  by_cases hk : k = 8
  · subst hk
    simp only [hi,hg,hgs,forgL,lnR,msgR,msg0,zeroMsg,List.map_set,List.length_set,List.length_map,List.set_set,List.cons_append,List.nil_append,if_true,go_sem,simprocAttr]
  · simp only [hi,hg,hgs,hk,beq_eq_false_iff_ne.2 hk,forgL,lnR,msgR,msg0,zeroMsg,List.map_set,List.length_set,List.length_map,List.set_set,List.cons_append,List.nil_append,if_false,go_sem,simprocAttr]
theorem endF_tri (x : CtlD) (hs : x.sh.length = 25) (o : OpD) (i : Nat) (hi : 1 ≤ i ∧ i ≤ 24) (ho : o.a = i) : Tri Tryz.prog G 238 [opV o, .ptr 8 0] (ctlO x ++ [boxX]) (.tup []) (ctlO { x with sh := x.sh.set i shZ } ++ [boxX]) := by
  have hid : (ctlO { x with sh := x.sh.set i shZ } ++ [boxX]).all (idlO 9) = true := by rw [List.all_append, ctlO_idl _ (by omega)]; rfl
  have he := storeEnd_tri (G := G) x.room x.term x.sh x.wr i hi hs
  simp only [stO,List.cons_append,List.nil_append] at he
  refine tri_WP Tryz.func238 (by decide) irOk238 (Nat.le_of_ble_eq_true rfl) rfl hid rfl ?_
  simp only [ctlO,ctlB,linesO,boxX,ho,List.cons_append,List.nil_append,ir238,go_sem,simprocAttr]
  refine WD_callo [6] (he) rfl (by simp only [argRs,argR,List.map_cons,List.map_nil,go_sem,simprocAttr,rnL_cat,shC_rn,idlL_cat,shC_idl]) (by decide) (by simp only [go_sem,simprocAttr,rnL_cat,shC_rn,idlL_cat,shC_idl]) (by simp only [go_sem,simprocAttr,List.all_cons,List.all_nil,rnL_cat,shC_rn,idlL_cat,shC_idl]) (by simp) ?_; simp only [go_sem,simprocAttr,rnL_cat,shC_rn,idlL_cat,shC_idl]
  refine W_opsD_end rfl ?_
  simp only [go_sem,simprocAttr]
theorem savF_tri (x : CtlD) (hs : x.sh.length = 25) (o : OpD) (i : Nat) (hi : 1 ≤ i ∧ i ≤ 24) (ho : o.a = i) (hb : 1 ≤ o.b) : Tri Tryz.prog G 239 [opV o, .ptr 8 0] (ctlO x ++ [boxX]) (.tup []) (ctlO { x with sh := x.sh.set i (commitD (x.sh.getD i shZ) o.b) } ++ [boxX]) := by
  have hid : (ctlO { x with sh := x.sh.set i (commitD (x.sh.getD i shZ) o.b) } ++ [boxX]).all (idlO 9) = true := by rw [List.all_append, ctlO_idl _ (by omega)]; rfl
  have he := storeCommit_tri (G := G) x.room x.term x.sh x.wr i hi hs o.b hb _ rfl
  simp only [stO,List.cons_append,List.nil_append] at he
  refine tri_WP Tryz.func239 (by decide) irOk239 (Nat.le_of_ble_eq_true rfl) rfl hid rfl ?_
  simp only [ctlO,ctlB,linesO,boxX,ho,List.cons_append,List.nil_append,ir239,go_sem,simprocAttr]
  refine WD_callo [6] (he) rfl (by simp only [argRs,argR,List.map_cons,List.map_nil,go_sem,simprocAttr,rnL_cat,shC_rn,idlL_cat,shC_idl]) (by decide) (by simp only [go_sem,simprocAttr,rnL_cat,shC_rn,idlL_cat,shC_idl]) (by simp only [go_sem,simprocAttr,List.all_cons,List.all_nil,rnL_cat,shC_rn,idlL_cat,shC_idl]) (by simp) ?_; simp only [go_sem,simprocAttr,rnL_cat,shC_rn,idlL_cat,shC_idl]
  refine W_opsD_end rfl ?_
  simp only [go_sem,simprocAttr]
end Dv

namespace Dv
open Go Go.Proofs

def alsoSh (o : OpD) (sh : List ShD) : List ShD := if o.kind = 13 then sh.set o.a.toNat (commitD (sh.getD o.a.toNat shZ) o.b) else if o.kind = 2 ∨ o.kind = 15 then sh.set o.a.toNat shZ else sh
def alsoL (now : Int) (o : OpD) (l : List LineD) : List LineD := if o.kind = 7 ∨ o.kind = 8 then l.set o.a.toNat (forgL now o.kind (l.getD o.a.toNat line0)) else l
def CtlD.noteX (x : CtlD) (o : OpD) (now : Int) : CtlD := if x.freshE o = 0 then { x with j := (x.freshJ o).add (putO o), s := (applyD x.c x.s o).1, noted := IntKind.i64.wrap (x.noted + 1), sh := alsoSh o x.sh, lines := alsoL now o x.lines } else { x with j := x.freshJ o }
theorem fresh_ok {x : CtlD} {o : OpD} (he : x.freshE o = 0) : (applyD x.c x.s o).2 = 0 ∧ (x.freshJ o).room (putO o).length = true ∧ x.freshB o = bytesV (putO o) := by
  have he2 := he
  unfold CtlD.freshE at he
  split at he
  · rename_i h; exact absurd he h
  · rename_i h
    split at he
    · rename_i h2
      refine ⟨by simpa using h, ?_, ?_⟩
      · unfold CtlD.freshJ; rw [if_neg h]; exact h2
      · unfold CtlD.freshB; rw [if_neg (by simpa using he2)]
    · cases he
theorem XOK.jn1 {x : CtlD} (h : XOK x) (o : OpD) : JnOK (x.freshJ o) := by
  unfold CtlD.freshJ CtlD.jn1
  split
  · exact h.jn
  split
  · exact h.jn
  · exact h.jn.pack (putI_byt _)
theorem ok_job {c : ConfD} {s : StateD} {o : OpD} (hp : RightP c s) (h : (applyD c s o).2 = 0) (hk : jobK o.kind = true) : 1 ≤ o.a ∧ o.a ≤ s.jobs.length := by
  have hr := (right_iff c s).2 hp
  unfold applyD appD at h
  rw [if_neg (by rw [hr]; decide)] at h
  split at h
  · cases h
  split at h
  · cases h
  · rename_i h1 h2
    simp only [hk,true_and] at h2
    omega
theorem ok_node {c : ConfD} {s : StateD} {o : OpD} (hp : RightP c s) (h : (applyD c s o).2 = 0) (hk : nodeK o.kind = true) : 0 ≤ o.a ∧ o.a < s.nodes.length := by
  have hr := (right_iff c s).2 hp
  unfold applyD appD at h
  rw [if_neg (by rw [hr]; decide)] at h
  split at h
  · cases h
  split at h
  · cases h
  split at h
  · cases h
  · rename_i h0 h1 h2
    have := opOk_nums (o := o) (by simpa using h0)
    simp only [hk,true_and] at h2
    omega
theorem ok_saved {c : ConfD} {s : StateD} {o : OpD} (hp : RightP c s) (h : (applyD c s o).2 = 0) (hn : opOkB o = true) (hk : o.kind = 13) : 1 ≤ o.b := by
  have ha := ok_job hp h (by rw [hk]; rfl)
  obtain ⟨k, h1, h2, h3, h4⟩ := job_of hp ha
  rw [app_job ((right_iff c s).2 hp) hn (by rw [hk]; rfl) (by rw [hk]; rfl), if_neg (by omega)] at h
  unfold deedD at h
  simp only [hk] at h
  unfold savedD at h
  have hnum := (hp.num k h3).epoch
  rw [← h4] at hnum
  simp only [Int.reduceEq,if_false,if_true] at h
  split at h
  · cases h
  split at h
  · cases h
  · rename_i h5; omega
set_option maxHeartbeats 2000000 in
theorem note_tri (x : CtlD) (h : XOK x) (o : OpD) (now : Int) : Tri Tryz.prog bookG 100 [.ptr 0 0, opV o, .int now] (ctlO x) (.int (x.freshE o)) (ctlO (x.noteX o now)) := by
  have hf := fresh_tri x h o
  unfold CtlD.noteX
  by_cases he : x.freshE o = 0
  case neg =>
    simp only [he,if_false]
    generalize x.freshJ o = J at *
    generalize x.freshB o = B at *
    generalize x.freshE o = e at *
    simp only [ctlO,ctlB,linesO,List.cons_append,List.nil_append] at hf
    refine tri_WP Tryz.func100 (by decide) irOk100 (Nat.le_of_ble_eq_true rfl) rfl (ctlO_idl _ (Nat.le_refl 8) _) rfl ?_
    simp only [ctlO,ctlB,linesO,List.cons_append,List.nil_append,ir100,go_sem,simprocAttr]
    refine W_callo [0, 1, 2, 3, 4, 5, 6, 7] (hf) rfl (by simp only [argRs,argR,List.map_cons,List.map_nil,go_sem,simprocAttr,rnL_cat,shC_rn,idlL_cat,shC_idl]) (by decide) (by simp only [go_sem,simprocAttr,rnL_cat,shC_rn,idlL_cat,shC_idl]) (by simp only [go_sem,simprocAttr,List.all_cons,List.all_nil,rnL_cat,shC_rn,idlL_cat,shC_idl]) (by simp) ?_; simp only [go_sem,simprocAttr,rnL_cat,shC_rn,idlL_cat,shC_idl]
    simp only [show (e != 0) = true from bne_iff_ne.2 he,go_sem,simprocAttr]
  obtain ⟨h1, h2, h3⟩ := fresh_ok he
  have hj1 := h.jn1 o
  have hjob := fun hk => ok_job h.right h1 (o := o) hk
  have hnode := fun hk => ok_node h.right h1 (o := o) hk
  have hnums : opOkB o = true := by
    cases hq : opOkB o with
    | true => rfl
    | false =>
      have hr := (right_iff x.c x.s).2 h.right
      unfold applyD appD at h1
      rw [if_neg (by rw [hr]; decide), if_pos hq] at h1
      cases h1
  rw [h3, he] at hf
  rw [if_pos he, he]
  have ha := jadd_tri (G := bookG) (x.freshJ o) hj1 (putO o) h2
  have hn1 : (x.freshJ o).n = x.j.n := by unfold CtlD.freshJ CtlD.jn1; split; · rfl
                                          split; · rfl
                                          · exact JnD.pack_n _ _
  generalize x.freshJ o = J at *
  generalize hJ2 : J.add (putO o) = J2 at *
  have hn2 : J2.n = x.j.n := by rw [← hJ2, JnD.add_n, hn1]
  generalize (applyD x.c x.s o).1 = t at *
  have hadd := catAdd_tri (G := bookG) { x with j := J2, s := t }
  have hal := also_tri (G := bookG) { x with j := J2, s := t, noted := IntKind.i64.wrap (x.noted + 1) } now
  have hsl := h.sh
  have hll := h.lines
  simp only [jO,jnO,hn1,hn2,bytesV] at ha
  simp only [ctlO,ctlB,linesO,boxX,alsoM,hn1,hn2,bytesV,List.cons_append,List.nil_append] at hf hadd hal
  refine tri_WP Tryz.func100 (by decide) irOk100 (Nat.le_of_ble_eq_true rfl) rfl (ctlO_idl _ (Nat.le_refl 8) _) rfl ?_
  simp only [ctlO,ctlB,linesO,hn2,List.cons_append,List.nil_append,ir100,go_sem,simprocAttr]
  refine W_callo [0, 1, 2, 3, 4, 5, 6, 7] (hf) rfl (by simp only [argRs,argR,List.map_cons,List.map_nil,go_sem,simprocAttr,rnL_cat,shC_rn,idlL_cat,shC_idl]) (by decide) (by simp only [go_sem,simprocAttr,rnL_cat,shC_rn,idlL_cat,shC_idl]) (by simp only [go_sem,simprocAttr,List.all_cons,List.all_nil,rnL_cat,shC_rn,idlL_cat,shC_idl]) (by simp) ?_; simp only [go_sem,simprocAttr,rnL_cat,shC_rn,idlL_cat,shC_idl]
  refine W_callo [1, 2, 3, 4, 5] (ha) rfl (by simp only [argRs,argR,List.map_cons,List.map_nil,go_sem,simprocAttr]) (by decide) (by simp only [go_sem,simprocAttr]) (by simp only [go_sem,simprocAttr,List.all_cons,List.all_nil]) (by simp) ?_; simp only [go_sem,simprocAttr]
  refine W_callo [0, 1, 2, 3, 4, 5, 6, 7] (hadd) rfl (by simp only [argRs,argR,List.map_cons,List.map_nil,go_sem,simprocAttr,rnL_cat,shC_rn,idlL_cat,shC_idl]) (by decide) (by simp only [go_sem,simprocAttr,rnL_cat,shC_rn,idlL_cat,shC_idl]) (by simp only [go_sem,simprocAttr,List.all_cons,List.all_nil,rnL_cat,shC_rn,idlL_cat,shC_idl]) (by simp) ?_; simp only [go_sem,simprocAttr,rnL_cat,shC_rn,idlL_cat,shC_idl]
  refine WD_callo [0, 1, 2, 3, 4, 5, 6, 7] (hal) rfl (by simp only [argRs,argR,List.map_cons,List.map_nil,go_sem,simprocAttr,rnL_cat,shC_rn,idlL_cat,shC_idl]) (by decide) (by simp only [go_sem,simprocAttr,rnL_cat,shC_rn,idlL_cat,shC_idl]) (by simp only [go_sem,simprocAttr,List.all_cons,List.all_nil,rnL_cat,shC_rn,idlL_cat,shC_idl]) (by simp) ?_; simp only [go_sem,simprocAttr,rnL_cat,shC_rn,idlL_cat,shC_idl]
  have hlj := h.right.jobs
  have hsavb : o.kind = 13 → 1 ≤ o.b := fun hk => ok_saved h.right h1 hnums hk
  by_cases k13 : o.kind = 13
  · obtain ⟨q1, q2⟩ := hjob (by rw [k13]; rfl)
    obtain ⟨i, hi⟩ : ∃ i : Nat, o.a = i := ⟨o.a.toNat, by omega⟩
    have hc := savF_tri (G := bookG) { x with j := J2, s := t, noted := IntKind.i64.wrap (x.noted + 1) } hsl o i (by omega) hi (hsavb k13)
    simp only [ctlO,ctlB,linesO,boxX,hn2,List.cons_append,List.nil_append] at hc
    have hA : alsoSh o x.sh = x.sh.set i (commitD (x.sh.getD i shZ) o.b) := by unfold alsoSh; rw [if_pos k13, hi]; rfl
    have hL : alsoL now o x.lines = x.lines := by unfold alsoL; rw [if_neg (by rw [k13]; decide)]
    simp only [hA,hL]
    have hm : (if o.kind = 13 then some (rn (piOf [0, 1, 2, 3, 4, 5, 6, 7] 10) savV) else if o.kind = 2 then some (rn (piOf [0, 1, 2, 3, 4, 5, 6, 7] 10) endV) else if o.kind = 15 then some (rn (piOf [0, 1, 2, 3, 4, 5, 6, 7] 10) endV) else if o.kind = 7 then some (rn (piOf [0, 1, 2, 3, 4, 5, 6, 7] 10) forgV) else if o.kind = 8 then some (rn (piOf [0, 1, 2, 3, 4, 5, 6, 7] 10) forgV) else none) = some (rn (piOf [0, 1, 2, 3, 4, 5, 6, 7] 10) savV) := by rw [k13]; rfl
    simp only [hm]
    simp only [savV,go_sem,simprocAttr]
    refine W_opsD_end rfl ?_
    simp only [go_sem,simprocAttr]
    refine W_callo [0, 1, 2, 3, 4, 5, 6, 7, 10] (hc) rfl (by simp only [argRs,argR,List.map_cons,List.map_nil,go_sem,simprocAttr,rnL_cat,shC_rn,idlL_cat,shC_idl]) (by decide) (by simp only [go_sem,simprocAttr,rnL_cat,shC_rn,idlL_cat,shC_idl]) (by simp only [go_sem,simprocAttr,List.all_cons,List.all_nil,rnL_cat,shC_rn,idlL_cat,shC_idl]) (by simp) ?_; simp only [go_sem,simprocAttr,rnL_cat,shC_rn,idlL_cat,shC_idl]
  by_cases kE : o.kind = 2 ∨ o.kind = 15
  · obtain ⟨q1, q2⟩ := hjob (by rcases kE with k | k <;> (rw [k]; rfl))
    obtain ⟨i, hi⟩ : ∃ i : Nat, o.a = i := ⟨o.a.toNat, by omega⟩
    have hc := endF_tri (G := bookG) { x with j := J2, s := t, noted := IntKind.i64.wrap (x.noted + 1) } hsl o i (by omega) hi
    simp only [ctlO,ctlB,linesO,boxX,hn2,List.cons_append,List.nil_append] at hc
    have hA : alsoSh o x.sh = x.sh.set i shZ := by unfold alsoSh; rw [if_neg k13, if_pos kE, hi]; rfl
    have hL : alsoL now o x.lines = x.lines := by unfold alsoL; rw [if_neg (by omega)]
    simp only [hA,hL]
    have hm : (if o.kind = 13 then some (rn (piOf [0, 1, 2, 3, 4, 5, 6, 7] 10) savV) else if o.kind = 2 then some (rn (piOf [0, 1, 2, 3, 4, 5, 6, 7] 10) endV) else if o.kind = 15 then some (rn (piOf [0, 1, 2, 3, 4, 5, 6, 7] 10) endV) else if o.kind = 7 then some (rn (piOf [0, 1, 2, 3, 4, 5, 6, 7] 10) forgV) else if o.kind = 8 then some (rn (piOf [0, 1, 2, 3, 4, 5, 6, 7] 10) forgV) else none) = some (rn (piOf [0, 1, 2, 3, 4, 5, 6, 7] 10) endV) := by rcases kE with k | k <;> (rw [k]; rfl)
    simp only [hm]
    simp only [endV,go_sem,simprocAttr]
    refine W_opsD_end rfl ?_
    simp only [go_sem,simprocAttr]
    refine W_callo [0, 1, 2, 3, 4, 5, 6, 7, 10] (hc) rfl (by simp only [argRs,argR,List.map_cons,List.map_nil,go_sem,simprocAttr,rnL_cat,shC_rn,idlL_cat,shC_idl]) (by decide) (by simp only [go_sem,simprocAttr,rnL_cat,shC_rn,idlL_cat,shC_idl]) (by simp only [go_sem,simprocAttr,List.all_cons,List.all_nil,rnL_cat,shC_rn,idlL_cat,shC_idl]) (by simp) ?_; simp only [go_sem,simprocAttr,rnL_cat,shC_rn,idlL_cat,shC_idl]
  by_cases kF : o.kind = 7 ∨ o.kind = 8
  · obtain ⟨q1, q2⟩ := hnode (by rcases kF with k | k <;> (rw [k]; rfl))
    obtain ⟨i, hi⟩ : ∃ i : Nat, o.a = i := ⟨o.a.toNat, by omega⟩
    have hc := forget_tri (G := bookG) { x with j := J2, s := t, noted := IntKind.i64.wrap (x.noted + 1) } now o i (by show i < x.lines.length; omega) hi
    simp only [ctlO,ctlB,linesO,boxX,hn2,List.length_set,List.cons_append,List.nil_append] at hc
    have hA : alsoSh o x.sh = x.sh := by unfold alsoSh; rw [if_neg k13, if_neg kE]
    have hL : alsoL now o x.lines = x.lines.set i (forgL now o.kind (x.lines.getD i line0)) := by unfold alsoL; rw [if_pos kF, hi]; rfl
    simp only [hA,hL,List.length_set]
    have hm : (if o.kind = 13 then some (rn (piOf [0, 1, 2, 3, 4, 5, 6, 7] 10) savV) else if o.kind = 2 then some (rn (piOf [0, 1, 2, 3, 4, 5, 6, 7] 10) endV) else if o.kind = 15 then some (rn (piOf [0, 1, 2, 3, 4, 5, 6, 7] 10) endV) else if o.kind = 7 then some (rn (piOf [0, 1, 2, 3, 4, 5, 6, 7] 10) forgV) else if o.kind = 8 then some (rn (piOf [0, 1, 2, 3, 4, 5, 6, 7] 10) forgV) else none) = some (rn (piOf [0, 1, 2, 3, 4, 5, 6, 7] 10) forgV) := by rcases kF with k | k <;> (rw [k]; rfl)
    simp only [hm]
    simp only [forgV,go_sem,simprocAttr]
    refine W_opsD_end rfl ?_
    simp only [go_sem,simprocAttr]
    refine W_callo [0, 1, 2, 3, 4, 5, 6, 7, 10, 11] (hc) rfl (by simp only [argRs,argR,List.map_cons,List.map_nil,go_sem,simprocAttr,rnL_cat,shC_rn,idlL_cat,shC_idl]) (by decide) (by simp only [go_sem,simprocAttr,rnL_cat,shC_rn,idlL_cat,shC_idl]) (by simp only [go_sem,simprocAttr,List.all_cons,List.all_nil,rnL_cat,shC_rn,idlL_cat,shC_idl]) (by simp) ?_; simp only [go_sem,simprocAttr,rnL_cat,shC_rn,idlL_cat,shC_idl]
  have hA : alsoSh o x.sh = x.sh := by unfold alsoSh; rw [if_neg k13, if_neg kE]
  have hL : alsoL now o x.lines = x.lines := by unfold alsoL; rw [if_neg kF]
  simp only [hA,hL]
  rw [not_or] at kE kF
  simp only [k13,kE.1,kE.2,kF.1,kF.2,if_false,go_sem,simprocAttr]
  refine W_opsD_end rfl ?_
  simp only [go_sem,simprocAttr]
end Dv

namespace Dv
open Go Go.Proofs

def ir99 : Nat × C × List RV := (55,
(.seq (.reg [qo 3 (.box 23 (.t 0)),
 qo 6 (.new 30 [(.val (.slice none 0 0)),(.val (.slice none 0 0)),q0,q0,q0,q0]),
 qo 7 (.mv qf)])
 (.seq (.reg [qo 15 (.ldn 9 (.t 3)),
 qo 16 (.call (.f 15) [(.t 15)]),
 qo 8 (.new 30 [(.val (.slice none 0 0)),(.val (.slice none 0 0)),q0,q0,q0,q0]),
 qn (.st 6 (.t 8) (.t 16))])
 (.seq (.seq (.reg [qm 17 1,
 qo 18 (.len (.t 17)),
 qo 19 (.bin .gtr (.t 18) (qk 0))])
 (.cond (.t 19) (.seq (.reg [qo 9 (.mv qf)])
 (.seq (.reg [qo 21 (.ldn 9 (.t 3)),
 qm 22 1,
 qo 23 (.call (.f 132) [(.t 21),(.t 22)]),
 qm 20 23,
 qo 24 (.ext (.t 20) 0),
 qo 25 (.ext (.t 20) 1),
 qn (.st 6 (.t 8) (.t 24)),
 qm 9 25])
 (.seq (.reg [qm 26 9,
 qo 27 (.not (.t 26))])
 (.cond (.t 27) (.seq (.reg [qo 28 (.build [(.val (.slice none 0 0)),(.val (.slice none 0 0)),q0,q0,q0,q0] []),
 qn (.st 6 (.t 6) (.t 28)),
 qo 7 (.mv qf)])
 .ret)
 .skip))))
 .skip))
 (.seq (.seq (.reg [qm 29 2,
 qo 30 (.len (.t 29)),
 qo 31 (.mv (qk 0))])
 (.block 0 (.loop (.seq (.reg [qo 32 (.bin .lss (.t 31) (.t 30))])
 (.seq (.cond (.t 32) .skip
 (.exit 0))
 (.seq (.block 1 (.seq (.reg [qo 33 (.ixa 1 (.t 29) (.t 31)),
 qo 34 (.ld1 (.t 33)),
 qm 11 34])
 (.seq (.reg [qm 36 11,
 qo 37 (.call (.f 133) [(.t 36)]),
 qm 35 37,
 qo 38 (.ext (.t 35) 0),
 qo 39 (.ext (.t 35) 1),
 qo 12 (.new 37 [q0,q0,q0,q0,q0,q0,q0]),
 qn (.st 7 (.t 12) (.t 38)),
 qm 13 39])
 (.seq (.seq (.reg [qm 40 13,
 qo 41 (.not (.t 40))])
 (.cond (.t 41) (.seq (.reg [qo 42 (.build [(.val (.slice none 0 0)),(.val (.slice none 0 0)),q0,q0,q0,q0] []),
 qn (.st 6 (.t 6) (.t 42)),
 qo 7 (.mv qf)])
 .ret)
 .skip))
 (.seq (.reg [qo 14 (.mv (qk 0))])
 (.seq (.reg [qo 44 (.ldn 9 (.t 3)),
 qo 45 (.ldn 6 (.t 8)),
 qo 46 (.ldn 7 (.t 12)),
 qo 47 (.call (.f 24) [(.t 44),(.t 45),(.t 46)]),
 qm 43 47,
 qo 48 (.ext (.t 43) 0),
 qo 49 (.ext (.t 43) 1),
 qn (.st 6 (.t 8) (.t 48)),
 qm 14 49])
 (.seq (.reg [qm 50 14,
 qo 51 (.bin .neq (.t 50) (qk 0))])
 (.cond (.t 51) (.seq (.reg [qo 52 (.build [(.val (.slice none 0 0)),(.val (.slice none 0 0)),q0,q0,q0,q0] []),
 qn (.st 6 (.t 6) (.t 52)),
 qo 7 (.mv qf)])
 .ret)
 .skip))))))))
 (.reg [qo 53 (.bin .add (.t 31) (qk 1)),
 qm 31 53])))))))
 (.seq (.reg [qo 54 (.ldn 6 (.t 8)),
 qn (.st 6 (.t 6) (.t 54)),
 qo 7 (.mv qt)])
 .ret))))),
[(.cn 6 6),(.t 7)])
theorem irOk99 : convFn Tryz.prog Tryz.f99 = some ir99 := by kernel_rfl
def ir37 : Nat × C × List RV := (122,
(.seq (.reg [qo 4 (.box 23 (.t 0)),
 qo 8 (.mv (.c (.val (.pointer none)))),
 qo 9 (.mv (qk 0))])
 (.seq (.seq (.reg [qo 20 (.ldn 9 (.t 4)),
 qo 21 (.call (.f 64) [(.t 20)]),
 qo 22 (.not (.t 21)),
 qm 23 22,
 qg 24 (.mv (.t 1)) 23 false,
 qg 25 (.call (.f 79) [(.t 24)]) 23 false,
 qg 26 (.bin .lss (.t 25) (qk 64)) 23 false,
 qo 27 (.pick (.t 23) qt (.t 26)),
 qm 28 27,
 qg 29 (.mv (.t 2)) 28 false,
 qg 30 (.isnp false (.t 29)) 28 false,
 qo 31 (.pick (.t 28) qt (.t 30)),
 qm 32 31,
 qg 33 (.mv (.t 3)) 32 false,
 qg 34 (.call (.f 98) [(.t 33)]) 32 false,
 qg 35 (.not (.t 34)) 32 false,
 qo 36 (.pick (.t 32) qt (.t 35))])
 (.cond (.t 36) (.seq (.reg [qo 8 (.mv (.c (.val (.pointer none)))),
 qo 9 (.mv (qk 1))])
 .ret)
 .skip))
 (.seq (.reg [qm 38 1,
 qo 39 (.call (.f 29) [(.t 38)]),
 qm 37 39,
 qo 40 (.ext (.t 37) 0),
 qo 41 (.ext (.t 37) 1),
 qo 42 (.ext (.t 37) 2),
 qo 43 (.ext (.t 37) 3),
 qm 10 40,
 qm 11 41,
 qm 12 42,
 qm 13 43])
 (.seq (.reg [qo 45 (.ldn 9 (.t 4)),
 qm 46 11,
 qm 47 12,
 qo 48 (.call (.f 99) [(.t 45),(.t 46),(.t 47)]),
 qm 44 48,
 qo 49 (.ext (.t 44) 0),
 qo 50 (.ext (.t 44) 1),
 qo 14 (.new 30 [(.val (.slice none 0 0)),(.val (.slice none 0 0)),q0,q0,q0,q0]),
 qn (.st 6 (.t 14) (.t 49)),
 qm 15 50])
 (.seq (.seq (.reg [qm 51 15,
 qo 52 (.not (.t 51))])
 (.cond (.t 52) (.seq (.reg [qo 8 (.mv (.c (.val (.pointer none)))),
 qo 9 (.mv (qk 2))])
 .ret)
 .skip))
 (.seq (.reg [qo 53 (.ldn 9 (.t 4)),
 qm 54 1,
 qm 55 10,
 qm 56 2,
 qo 57 (.ldn 6 (.t 14)),
 qo 58 (.build [q0,q0,q0,q0,q0,q0,q0,q0,q0,(.val (.pointer none)),(.val (.pointer none)),(.val (.pointer none)),(.val (.slice none 0 0)),(.val (.slice none 0 0)),q0,q0,q0,q0,(.val (.slice none 0 0)),(.val (.bool false)),q0] [(0,9,(.t 53)),(9,1,(.t 54)),(10,1,(.t 55)),(11,1,(.t 56)),(12,6,(.t 57))]),
 qo 59 (.box 195 (.t 58)),
 qm 16 59])
 (.seq (.seq (.reg [qo 60 (.fad 0 (.t 14)),
 qo 61 (.ld1 (.t 60)),
 qo 62 (.len (.t 61)),
 qo 63 (.mv (qk 0))])
 (.block 0 (.loop (.seq (.reg [qo 64 (.bin .lss (.t 63) (.t 62))])
 (.seq (.cond (.t 64) .skip
 (.exit 0))
 (.seq (.block 1 (.reg [qm 65 16,
 qm 66 16,
 qo 67 (.nck (.t 66)),
 qo 68 (.fad 18 (.t 67)),
 qo 69 (.ld1 (.t 68)),
 qm 70 3,
 qo 71 (.build [q0,(.val (.bool false)),q0,q0,q0,q0,q0,q0,q0,q0,q0,q0,q0,q0,q0,q0,q0,q0,q0,q0,q0,q0,q0,q0,q0,q0] [(14,1,(.t 70))]),
 qo 72 (.bsl 197 26 [(.t 71)]),
 qo 73 (.app 197 26 208 (.t 69) (.t 72)),
 qo 74 (.nck (.t 65)),
 qo 75 (.fad 18 (.t 74)),
 qn (.st 1 (.t 75) (.t 73))]))
 (.reg [qo 76 (.bin .add (.t 63) (qk 1)),
 qm 63 76])))))))
 (.seq (.seq (.reg [qm 77 16,
 qo 78 (.build [q0,q0,q0,q0,q0,q0,q0] [(0,1,(qk 21))]),
 qm 79 3,
 qo 80 (.call (.f 100) [(.t 77),(.t 78),(.t 79)]),
 qm 17 80])
 (.seq (.reg [qm 81 17,
 qo 82 (.bin .neq (.t 81) (qk 0))])
 (.cond (.t 82) (.seq (.reg [qm 83 17,
 qo 8 (.mv (.c (.val (.pointer none)))),
 qm 9 83])
 .ret)
 .skip)))
 (.seq (.reg [qm 84 2,
 qm 85 16,
 qo 86 (.nck (.t 85)),
 qo 87 (.fad 12 (.t 86)),
 qo 88 (.fad 5 (.t 87)),
 qo 89 (.ld1 (.t 88)),
 qo 90 (.call (.f 101) [(.t 84),(.t 89)])])
 (.seq (.seq (.reg [qm 91 16,
 qo 92 (.nck (.t 91)),
 qo 93 (.fad 12 (.t 92)),
 qo 94 (.fad 1 (.t 93)),
 qo 95 (.ld1 (.t 94)),
 qo 96 (.len (.t 95)),
 qo 97 (.mv (qk 0))])
 (.block 2 (.loop (.seq (.reg [qo 98 (.bin .lss (.t 97) (.t 96))])
 (.seq (.cond (.t 98) .skip
 (.exit 2))
 (.seq (.block 3 (.seq (.reg [qm 99 97,
 qo 100 (.ixa 12 (.t 95) (.t 97)),
 qo 101 (.ldn 12 (.t 100)),
 qo 19 (.new 119 [q0,q0,q0,q0,q0,q0,q0,q0,q0,q0,q0,q0]),
 qm 18 99,
 qn (.st 12 (.t 19) (.t 101))])
 (.block 4 (.seq (.reg [qo 103 (.fad 6 (.t 19)),
 qo 104 (.ld1 (.t 103)),
 qo 105 (.bin .eql (.t 104) (qk 4)),
 qm 102 105])
 (.cond (.t 102) (.reg [qm 106 2,
 qm 107 18,
 qo 108 (.bin .add (.t 107) (qk 1)),
 qo 109 (.call (.f 102) [(.t 106),(.t 108)])])
 (.seq (.reg [qo 111 (.fad 11 (.t 19)),
 qo 112 (.ld1 (.t 111)),
 qo 113 (.bin .neq (.t 112) (qk 0)),
 qm 110 113])
 (.cond (.t 110) (.reg [qm 114 2,
 qm 115 18,
 qo 116 (.bin .add (.t 115) (qk 1)),
 qo 117 (.fad 11 (.t 19)),
 qo 118 (.ld1 (.t 117)),
 qo 119 (.call (.f 103) [(.t 114),(.t 116),(.t 118)])])
 .skip)))))))
 (.reg [qo 120 (.bin .add (.t 97) (qk 1)),
 qm 97 120])))))))
 (.seq (.reg [qm 121 16,
 qm 8 121,
 qo 9 (.mv (qk 0))])
 .ret))))))))))),
[(.t 8),(.t 9)])
theorem irOk37 : convFn Tryz.prog Tryz.f37 = some ir37 := by kernel_rfl


theorem alsoSh_len (o : OpD) (l : List ShD) : (alsoSh o l).length = l.length := by
  unfold alsoSh
  split
  · rw [List.length_set]
  split
  · rw [List.length_set]
  · rfl
theorem alsoL_len (now : Int) (o : OpD) (l : List LineD) : (alsoL now o l).length = l.length := by
  unfold alsoL
  split
  · rw [List.length_set]
  · rfl
theorem XOK.note {x : CtlD} (h : XOK x) (o : OpD) (now : Int) : XOK (x.noteX o now) := by
  unfold CtlD.noteX
  split
  · rename_i he
    obtain ⟨h1, h2, h3⟩ := fresh_ok he
    have hr := apply_right h.right o
    have h4 := h.right.nodes
    have h5 := hr.nodes
    refine ⟨hr, (h.jn1 o).add (putO_byt o) h2, by show (alsoSh o x.sh).length = 25; rw [alsoSh_len, h.sh], ?_⟩
    show (alsoL now o x.lines).length = (applyD x.c x.s o).1.nodes.length
    rw [alsoL_len, h.lines]
    omega
  · exact ⟨h.right, h.jn1 o, h.sh, h.lines⟩
theorem noteX_c (x : CtlD) (o : OpD) (now : Int) : (x.noteX o now).c = x.c := by unfold CtlD.noteX; split <;> rfl
theorem noteX_n (x : CtlD) (o : OpD) (now : Int) : (x.noteX o now).j.n = x.j.n := by
  have h : (x.freshJ o).n = x.j.n := by
    unfold CtlD.freshJ CtlD.jn1
    split
    · rfl
    split
    · rfl
    · exact JnD.pack_n _ _
  unfold CtlD.noteX
  split
  · exact h
  · exact h
theorem read0_tri (c : ConfD) : Tri Tryz.prog bookG 99 [confV c, bytesV [], .d (.lst 1 [])] [] (.tup [stateV (newD c), .bool true]) [] := by
  have hn := new_tri (G := bookG) c
  refine tri_W0 Tryz.func99 (by decide) irOk99 (Nat.le_of_ble_eq_true rfl) rfl ?_
  simp only [bytesV,byteR,List.map_nil,ir99,go_sem,simprocAttr]
  refine W_calld (hn) rfl rfl rfl rfl ?_; simp only [go_sem,simprocAttr]
  refine W_loopI [3, 6, 7, 8, 29, 30, 31] [] (fun k : Nat => k = 0) (fun k => 1 - k) (fun _ => ⟨[(3, .ptr 0 0), (6, .ptr 1 0), (7, .bool false), (8, .ptr 2 0), (29, .d (.lst 1 [])), (30, .int 0), (31, .int 0)], [some (.box 23 [.int c.nodes, .int c.queues, .int c.quota, .int c.wave, .int c.lease, .int c.retry, .int c.deadline, .int c.room, .int c.disk]), some (.box 30 [.d (.val (.slice none 0 0)), .d (.val (.slice none 0 0)), .int 0, .int 0, .int 0, .int 0]), some (.box 30 [nodesV (newD c).nodes, jobsV (newD c).jobs, .int (newD c).goal, .int (newD c).prior, .int (newD c).mode, .int (newD c).term])]⟩) 0 ?_ rfl (fun k hk => ?_)
  · simp only [go_sem,simprocAttr]
  simp only [go_sem,simprocAttr]
end Dv

namespace Dv
open Go Go.Proofs

def termO : OpD := ⟨21, 0, 0, 0, 0, 0, 0⟩
def lineN (now : Int) : LineD := ⟨0, false, msg0, 0, now, msg0⟩
def ctl0 (c : ConfD) (n : Nat) (s room term : Int) (sh : List ShD) (wr now : Int) : CtlD := ⟨c, newD c, ⟨n, List.replicate n 0, IntKind.i64.wrap (s + 1), 0, -1, 0⟩, room, term, sh, wr, List.replicate (newD c).nodes.length (lineN now), false, 0⟩
def CtlD.fence (x : CtlD) : CtlD := { x with term := if x.s.term > x.term then x.s.term else x.term }
def ctl1 (c : ConfD) (n : Nat) (s room term : Int) (sh : List ShD) (wr now : Int) : CtlD := ((ctl0 c n s room term sh wr now).noteX termO now).fence
def ctlB2 (x : CtlD) : LObj := .box 195 [.int x.c.nodes, .int x.c.queues, .int x.c.quota, .int x.c.wave, .int x.c.lease, .int x.c.retry, .int x.c.deadline, .int x.c.room, .int x.c.disk, .ptr 0 0, .ptr 5 0, .ptr 2 0, nodesV x.s.nodes, jobsV x.s.jobs, .int x.s.goal, .int x.s.prior, .int x.s.mode, .int x.s.term, .sl 4 x.lines.length 26 0 x.lines.length, .bool x.down, .int x.noted]
def bootO (x : CtlD) : List LObj := [.box 150 [.sl 1 x.j.n 1 0 x.j.n, .d (.val (.slice none 0 0)), .int x.j.s], .dat 5 1 (byteR x.j.l), .box 190 ([.int x.room, .int x.term] ++ (x.sh.flatMap shC ++ [.int x.wr])), ctlB2 x, linesO x.lines, .box 160 [.ptr 0 0, .ptr 6 0, .ptr 7 0, .int x.j.cnt, .int x.j.age], .box 243 [.ptr 0 0, .int 0, .int ((x.j.n / 4 : Nat) : Int)], .box 245 [.ptr 0 0, .int ((2 * (x.j.n / 4) : Nat) : Int), .int ((x.j.n - 2 * (x.j.n / 4) : Nat) : Int), .int x.j.us]]
theorem bootO_idl (k : Nat) (hk : 8 ≤ k) (x : CtlD) : (bootO x).all (idlO k) = true := by
  have h : ∀ i, i < 8 → i < k := fun i hi => by omega
  simp [bootO,ctlB2,linesO,List.all_cons,List.all_nil,idlO,Bool.and_true,idlL_cat,shC_idl,idlL,idl,LV.int,LV.bool,nodesV,jobsV,h]
theorem termO_ok {c : ConfD} (h : mayB c = true) : applyD c (newD c) termO = ({ newD c with term := 1 }, 0) := by
  have hr := (right_iff c (newD c)).2 (new_rightT h)
  rw [app_none hr (by decide) (by decide) (by decide)]
  have h0 : (newD c).term = 0 := by unfold newD; rw [if_pos h]
  show newtermD (newD c) = _
  unfold newtermD
  rw [h0]
  rfl
theorem putT : putO termO = [1, 21] := by decide +kernel
theorem freshT {c : ConfD} (h : mayB c = true) {n : Nat} (hn : 64 ≤ n ∧ n ≤ 65536) (s room term : Int) (sh : List ShD) (wr now : Int) : (ctl0 c n s room term sh wr now).freshE termO = 0 := by
  have hrm : (ctl0 c n s room term sh wr now).j.room (putO termO).length = true := by
    rw [putT]
    show (decide (1 ≤ 2 ∧ 2 ≤ 3900) && roomL (n - 2 * (n / 4)) 0 (2 + (numB 0).length)) = true
    rw [show (numB 0).length = 1 by decide +kernel]
    unfold roomL
    rw [show (numB (2 + 1 : Nat)).length = 1 by decide +kernel]
    simp
    omega
  unfold CtlD.freshE CtlD.jn1
  show (if (applyD c (newD c) termO).2 ≠ 0 then (applyD c (newD c) termO).2 else if (if (ctl0 c n s room term sh wr now).j.room (putO termO).length = true then (ctl0 c n s room term sh wr now).j else (ctl0 c n s room term sh wr now).j.pack (putI (newD c))).room (putO termO).length = true then 0 else 3) = 0
  rw [termO_ok h, if_neg (fun h => h rfl), if_pos hrm, if_pos hrm]
theorem ctl0_ok {c : ConfD} (h : mayB c = true) {n : Nat} (hn : 64 ≤ n ∧ n ≤ 65536) (s room term : Int) (sh : List ShD) (hs : sh.length = 25) (wr now : Int) : XOK (ctl0 c n s room term sh wr now) :=
  ⟨new_rightT h, ⟨List.length_replicate, hn, zero_rng _, Nat.zero_le _⟩, hs, List.length_replicate⟩
theorem ctl1_ok {c : ConfD} (h : mayB c = true) {n : Nat} (hn : 64 ≤ n ∧ n ≤ 65536) (s room term : Int) (sh : List ShD) (hs : sh.length = 25) (wr now : Int) : XOK (ctl1 c n s room term sh wr now) := by
  have := (ctl0_ok h hn s room term sh hs wr now).note termO now
  exact ⟨this.right, this.jn, this.sh, this.lines⟩
theorem ctl1_jobs {c : ConfD} (h : mayB c = true) {n : Nat} (hn : 64 ≤ n ∧ n ≤ 65536) (s room term : Int) (sh : List ShD) (wr now : Int) : ((ctl0 c n s room term sh wr now).noteX termO now).s = { newD c with term := 1 } := by
  unfold CtlD.noteX
  rw [if_pos (freshT h hn s room term sh wr now)]
  show (applyD c (newD c) termO).1 = _
  rw [termO_ok h]
def bootS (c : ConfD) (n : Nat) (s room term : Int) (sh : List ShD) (wr now : Int) (k : Nat) : St := ⟨[(1, .ptr 0 0), (2, .ptr 2 0), (3, .int now), (4, .ptr 3 0), (8, .d (.val (.pointer none))), (9, .int 0), (16, .ptr 8 0), (62, .int (newD c).nodes.length), (63, .int k)],
  [some (.box 150 [.sl 1 n 1 0 n, .d (.val (.slice none 0 0)), .int (IntKind.i64.wrap (s + 1))]), some (.dat 5 1 (byteR (List.replicate n 0))), some (.box 190 (.int room :: .int term :: (sh.flatMap shC ++ [.int wr]))),
   some (.box 23 [.int c.nodes, .int c.queues, .int c.quota, .int c.wave, .int c.lease, .int c.retry, .int c.deadline, .int c.room, .int c.disk]),
   some (.box 160 [.ptr 0 0, .ptr 5 0, .ptr 6 0, .int 0, .int (-1)]), some (.box 243 [.ptr 0 0, .int 0, .int ((n / 4 : Nat) : Int)]), some (.box 245 [.ptr 0 0, .int ((2 * (n / 4) : Nat) : Int), .int ((n - 2 * (n / 4) : Nat) : Int), .int 0]),
   some (.box 30 [nodesV (newD c).nodes, jobsV (newD c).jobs, .int (newD c).goal, .int (newD c).prior, .int (newD c).mode, .int (newD c).term]),
   some (.box 195 [.int c.nodes, .int c.queues, .int c.quota, .int c.wave, .int c.lease, .int c.retry, .int c.deadline, .int c.room, .int c.disk, .ptr 0 0, .ptr 4 0, .ptr 2 0, nodesV (newD c).nodes, jobsV (newD c).jobs, .int (newD c).goal, .int (newD c).prior, .int (newD c).mode, .int (newD c).term, .sl 9 k 26 0 k, .bool false, .int 0]),
   some (linesO (List.replicate k (lineN now)))]⟩
def bootT (c : ConfD) (n : Nat) (y : CtlD) : List (Option LObj) :=
  [some (.box 150 [.sl 1 n 1 0 n, .d (.val (.slice none 0 0)), .int y.j.s]), some (.dat 5 1 (byteR y.j.l)), some (.box 190 (.int y.room :: .int (if y.s.term > y.term then y.s.term else y.term) :: (y.sh.flatMap shC ++ [.int y.wr]))),
   some (.box 23 [.int c.nodes, .int c.queues, .int c.quota, .int c.wave, .int c.lease, .int c.retry, .int c.deadline, .int c.room, .int c.disk]),
   some (.box 160 [.ptr 0 0, .ptr 5 0, .ptr 6 0, .int y.j.cnt, .int y.j.age]), some (.box 243 [.ptr 0 0, .int 0, .int ((n / 4 : Nat) : Int)]), some (.box 245 [.ptr 0 0, .int ((2 * (n / 4) : Nat) : Int), .int ((n - 2 * (n / 4) : Nat) : Int), .int y.j.us]),
   some (.box 30 [nodesV (newD c).nodes, jobsV (newD c).jobs, .int (newD c).goal, .int (newD c).prior, .int (newD c).mode, .int (newD c).term]),
   some (.box 195 [.int y.c.nodes, .int y.c.queues, .int y.c.quota, .int y.c.wave, .int y.c.lease, .int y.c.retry, .int y.c.deadline, .int y.c.room, .int y.c.disk, .ptr 0 0, .ptr 4 0, .ptr 2 0, nodesV y.s.nodes, .d (.lst 12 []), .int y.s.goal, .int y.s.prior, .int y.s.mode, .int y.s.term, .sl 9 y.lines.length 26 0 y.lines.length, .bool y.down, .int y.noted]),
   some (linesO y.lines)]
set_option maxHeartbeats 2000000 in
theorem boot0_tri (c : ConfD) (hm : mayB c = true) (n : Nat) (hn : 64 ≤ n ∧ n ≤ 65536) (s room term : Int) (sh : List ShD) (hs : sh.length = 25) (wr now : Int) (hnow : 0 ≤ now ∧ now ≤ 1000000) : Tri Tryz.prog bookG 37 [confV c, .ptr 0 0, .ptr 2 0, .int now] (dskO (List.replicate n 0) s ++ stO room term sh wr) (.tup [.ptr 3 0, .int 0]) (bootO (ctl1 c n s room term sh wr now)) := by
  have hlen : (List.replicate n (0 : Int)).length = n := List.length_replicate
  have hmay := may_tri (G := bookG) c
  rw [hm] at hmay
  have hsz := diskSize_tri (G := bookG) (List.replicate n 0) s
  have htm := time_tri (G := bookG) now
  rw [decide_eq_true hnow] at htm
  have hop := jopen0_tri (G := bookG) n s hn
  have hrd := read0_tri c
  have hnote := note_tri (ctl0 c n s room term sh wr now) (ctl0_ok hm hn s room term sh hs wr now) termO now
  have hjn := noteX_n (ctl0 c n s room term sh wr now) termO now
  have hst := ctl1_jobs hm hn s room term sh wr now
  rw [freshT hm hn] at hnote
  unfold ctl1
  have hl6 : (newD c).nodes.length ≤ 6 := (new_rightT hm).len.2
  have hj0 : (newD c).jobs = [] := by unfold newD; rw [if_pos hm]
  generalize hy : (ctl0 c n s room term sh wr now).noteX termO now = y at *
  have hfe := storeFence_tri (G := bookG) y.room y.term y.sh y.wr y.s.term
  simp only [dskO,hlen] at hsz hop
  simp only [jnP,bytesV] at hop
  simp only [bytesV] at hrd
  simp only [ctlO,ctlB,linesO,ctl0,hjn,List.cons_append,List.nil_append] at hnote
  simp only [stO,List.cons_append,List.nil_append] at hfe
  refine tri_W Tryz.func37 (by decide) irOk37 (Nat.le_of_ble_eq_true rfl) ?_
  simp only [dskO,stO,hlen,List.cons_append,List.nil_append,ir37,go_sem,simprocAttr]
  refine W_calld (hmay) rfl rfl rfl rfl ?_; simp only [go_sem,simprocAttr]
  refine W_callo [0, 1] (hsz) rfl (by simp only [argRs,argR,List.map_cons,List.map_nil,go_sem,simprocAttr]) (by decide) (by simp only [go_sem,simprocAttr]) (by simp only [go_sem,simprocAttr,List.all_cons,List.all_nil]) (by simp) ?_; simp only [go_sem,simprocAttr]
  simp only [decide_eq_false (show ¬ ((n : Nat) : Int) < 64 by omega),go_sem,simprocAttr]
  refine W_calld (htm) rfl rfl rfl rfl ?_; simp only [go_sem,simprocAttr]
  refine W_callo [0, 1] (hop) rfl (by simp only [argRs,argR,List.map_cons,List.map_nil,go_sem,simprocAttr]) (by decide) (by simp only [go_sem,simprocAttr]) (by simp only [go_sem,simprocAttr,List.all_cons,List.all_nil]) (by simp) ?_; simp only [go_sem,simprocAttr]
  refine W_calld (hrd) rfl rfl rfl rfl ?_; simp only [go_sem,simprocAttr]
  refine W_loopI [1, 2, 3, 4, 8, 9, 16, 62, 63] [.b 8 18 197 26] (fun k : Nat => k ≤ (newD c).nodes.length) (fun k => (newD c).nodes.length - k) (bootS c n s room term sh wr now) 0 ?_ (Nat.zero_le _) (fun k hk => ?_)
  · simp only [bootS,linesO,List.replicate_zero,List.map_nil,Int.natCast_zero,go_sem,simprocAttr]
  simp only [bootS,linesO,go_sem,simprocAttr]
  by_cases hlt : k < (newD c).nodes.length
  · have hrep : (List.replicate (k + 1) (lineN now)).map lnR = (List.replicate k (lineN now)).map lnR ++ [lnR (lineN now)] := by rw [List.replicate_succ', List.map_append]; rfl
    simp only [decide_eq_true (show ((k : Nat) : Int) < (((newD c).nodes.length : Nat) : Int) by omega),go_sem,simprocAttr]
    have hln : lnR (lineN now) = [i64 0, bl false, i64 0, i64 0, i64 0, i64 0, i64 0, i64 0, i64 0, i64 0, i64 0, i64 0, i64 0, i64 0, i64 now, i64 0, i64 0, i64 0, i64 0, i64 0, i64 0, i64 0, i64 0, i64 0, i64 0, i64 0] := rfl
    have c1 : (k + 1) * 208 ≤ 70368744177664 := by omega
    simp only [List.length_append,List.length_map,List.length_replicate,List.length_cons,List.length_nil,Nat.zero_add,c1,go_sem,simprocAttr]
    refine W_lpI (k + 1) ?_ ?_ (show k + 1 ≤ (newD c).nodes.length by omega) (show (newD c).nodes.length - (k + 1) < (newD c).nodes.length - k by omega)
    · simp only [idlL_cat,shC_idl,go_sem,simprocAttr]
    · simp only [wrap_succ (show k < 9223372036854775807 by omega),hrep,hln,List.length_replicate,List.length_append,List.length_cons,List.length_nil,Nat.zero_add,List.cons_append,List.nil_append,bootS,linesO,go_sem,simprocAttr]
  obtain rfl : k = (newD c).nodes.length := by omega
  simp only [decide_eq_false (show ¬ (((newD c).nodes.length : Nat) : Int) < (((newD c).nodes.length : Nat) : Int) by omega),go_sem,simprocAttr]
  simp only [termO,List.length_replicate] at hnote
  refine W_callo [8, 4, 0, 5, 6, 1, 2, 9] (hnote) rfl (by simp only [argRs,argR,List.map_cons,List.map_nil,go_sem,simprocAttr,rnL_cat,shC_rn,idlL_cat,shC_idl,List.length_replicate]) (by decide) (by simp only [go_sem,simprocAttr,rnL_cat,shC_rn,idlL_cat,shC_idl,List.length_replicate]) (by simp only [go_sem,simprocAttr,List.all_cons,List.all_nil,rnL_cat,shC_rn,idlL_cat,shC_idl,List.length_replicate]) (by simp) ?_; simp only [go_sem,simprocAttr,rnL_cat,shC_rn,idlL_cat,shC_idl,List.length_replicate]
  have hyj : y.s.jobs = [] := by rw [hst]; exact hj0
  refine W_callo [2] (hfe) rfl (by simp only [argRs,argR,List.map_cons,List.map_nil,go_sem,simprocAttr,rnL_cat,shC_rn,idlL_cat,shC_idl]) (by decide) (by simp only [go_sem,simprocAttr,rnL_cat,shC_rn,idlL_cat,shC_idl]) (by simp only [go_sem,simprocAttr,List.all_cons,List.all_nil,rnL_cat,shC_rn,idlL_cat,shC_idl]) (by simp) ?_; simp only [go_sem,simprocAttr,rnL_cat,shC_rn,idlL_cat,shC_idl]
  simp only [hyj,List.map_nil,List.length_nil,Int.natCast_zero,go_sem,simprocAttr]
  refine W_loopI [8, 9, 16, 95, 96, 97] [] (fun k : Nat => k = 0) (fun k => 1 - k) (fun _ => ⟨[(8, .d (.val (.pointer none))), (9, .int 0), (16, .ptr 8 0), (95, .d (.lst 12 [])), (96, .int 0), (97, .int 0)], bootT c n y⟩) 0 ?_ rfl (fun k hk => ?_)
  · simp only [bootT,linesO,hyj,List.map_nil,go_sem,simprocAttr]
  subst hk
  simp only [bootT,linesO,hyj,List.map_nil,go_sem,simprocAttr]
  have hid := bootO_idl 8 (Nat.le_refl 8) y.fence
  simp only [CtlD.fence,bootO,ctlB2,linesO,hjn,hyj,List.map_nil,nodesV,jobsV,LV.int,LV.bool] at hid ⊢
  refine BackR [] [0, 1, 2, 8, 9, 4, 5, 6] [] (vs := [.ptr 8 0, .int 0]) rfl rfl (by decide) (by simp) (by simp) ?_ hid ?_
  · simp only [List.map_cons,List.map_nil,rnO,rnL,rnL_cat,shC_rn]
    rfl
  simp [oneOr,argR,argRs,LV.int,LV.bool]
end Dv
