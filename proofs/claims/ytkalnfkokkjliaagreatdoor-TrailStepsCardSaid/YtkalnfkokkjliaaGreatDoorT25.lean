/- trail.Diff: what is different of two states. -/
import Derived.Test.YtkalnfkokkjliaaGreatDoorT24
import Derived.Test.YtkalnfkokkjliaaGreatDoorPA
import Derived.Test.YtkalnfkokkjliaaGreatDoorDB
set_option linter.unusedVariables false
set_option linter.unusedSimpArgs false
namespace Dv
open Go Go.Proofs
variable {G : Nat → Option (List DV)}

def ir25 : Nat × C × List RV := (178,
(.seq (.reg [qo 2 (.box 30 (.t 0)),
 qo 3 (.box 30 (.t 1)),
 qo 4 (.mv (.c (.val (.slice none 0 0))))])
 (.seq (.reg [qo 5 (.new 48 [(.val (.slice none 0 0))])])
 (.seq (.reg [qo 16 (.mkf (.func 75) [] [(.t 5)]),
 qo 6 (.new 139 [(.val .nilFunc)]),
 qn (.st 1 (.t 6) (.t 16))])
 (.seq (.reg [qo 17 (.mkf (.func 76) [] [(.t 6)]),
 qm 7 17])
 (.seq (.seq (.reg [qo 18 (.fad 0 (.t 2)),
 qo 19 (.ld1 (.t 18)),
 qo 20 (.len (.t 19)),
 qo 21 (.fad 0 (.t 3)),
 qo 22 (.ld1 (.t 21)),
 qo 23 (.len (.t 22)),
 qo 24 (.min (.t 20) (.t 23)),
 qo 25 (.mv (qk 0))])
 (.block 0 (.loop (.seq (.reg [qo 26 (.bin .lss (.t 25) (.t 24))])
 (.seq (.cond (.t 26) .skip
 (.exit 0))
 (.seq (.block 1 (.seq (.reg [qm 27 25,
 qm 8 27])
 (.seq (.regD [qo 28 (.fad 0 (.t 2)),
 qd 29 (.ld1 (.t 28)) [0],
 qm 30 8,
 qd 31 (.ixa 5 (.t 29) (.t 30)) [1,0,2],
 qd 32 (.ldn 5 (.t 31)) [3,1,0,2],
 qo 33 (.fad 0 (.t 3)),
 qd 34 (.ld1 (.t 33)) [5],
 qm 35 8,
 qd 36 (.ixa 5 (.t 34) (.t 35)) [6,5,7],
 qd 37 (.ldn 5 (.t 36)) [8,6,5,7],
 qm 38 8,
 qd 39 (.call (.f 77) [(.t 38)]) [10],
 qd 40 (.bin .add (.c (.val (.string ⟨#[110,111,100,101,32]⟩))) (.t 39)) [11,10],
 qo 9 (.new 102 [(.val (.bool false)),(.val (.bool false)),(.val (.bool false)),q0,q0]),
 qo 10 (.new 102 [(.val (.bool false)),(.val (.bool false)),(.val (.bool false)),q0,q0]),
 ql (.st 5 (.t 9) (.t 32)) [13,4,3,1,0,2,11,10,14],
 ql (.st 5 (.t 10) (.t 37)) [14,9,8,6,5,7,15,13,4,3,1,0,2,11,10],
 qd 11 (.mv (.t 40)) [12,11,10,16,14,9,8,6,5,7,15,13,4,3,1,0,2]])
 (.seq (.seq (.regD [qo 41 (.ld1 (.t 6)),
 qo 42 (.fad 0 (.t 9)),
 qd 43 (.ld1 (.t 42)) [1],
 qo 44 (.fad 0 (.t 10)),
 qd 45 (.ld1 (.t 44)) [3],
 qd 46 (.eqb true (.t 43) (.t 45)) [2,1,4,3],
 qm 47 11,
 qo 48 (.fad 0 (.t 10)),
 qd 49 (.ld1 (.t 48)) [7],
 qd 50 (.call (.f 78) [(.t 49),(.c (.val (.string ⟨#[32,117,112]⟩))),(.c (.val (.string ⟨#[32,100,111,119,110]⟩)))]) [8,7],
 qd 51 (.bin .add (.t 47) (.t 50)) [6,9,8,7]])
 (.seq (.reg [qd 52 (.call (.t 41) [(.t 46),(.t 51)]) [0,5,2,1,4,3,10,6,9,8,7]])
 (.regD [])))
 (.seq (.seq (.regD [qo 53 (.ld1 (.t 6)),
 qo 54 (.fad 1 (.t 9)),
 qd 55 (.ld1 (.t 54)) [1],
 qo 56 (.fad 1 (.t 10)),
 qd 57 (.ld1 (.t 56)) [3],
 qd 58 (.eqb true (.t 55) (.t 57)) [2,1,4,3],
 qm 59 11,
 qo 60 (.fad 1 (.t 10)),
 qd 61 (.ld1 (.t 60)) [7],
 qd 62 (.call (.f 78) [(.t 61),(.c (.val (.string ⟨#[32,99,111,114,100,111,110,101,100]⟩))),(.c (.val (.string ⟨#[32,111,112,101,110]⟩)))]) [8,7],
 qd 63 (.bin .add (.t 59) (.t 62)) [6,9,8,7]])
 (.seq (.reg [qd 64 (.call (.t 53) [(.t 58),(.t 63)]) [0,5,2,1,4,3,10,6,9,8,7]])
 (.regD [])))
 (.seq (.seq (.regD [qo 65 (.ld1 (.t 6)),
 qo 66 (.fad 2 (.t 9)),
 qd 67 (.ld1 (.t 66)) [1],
 qo 68 (.fad 2 (.t 10)),
 qd 69 (.ld1 (.t 68)) [3],
 qd 70 (.eqb true (.t 67) (.t 69)) [2,1,4,3],
 qm 71 11,
 qo 72 (.fad 2 (.t 10)),
 qd 73 (.ld1 (.t 72)) [7],
 qd 74 (.call (.f 78) [(.t 73),(.c (.val (.string ⟨#[32,109,111,118,105,110,103]⟩))),(.c (.val (.string ⟨#[32,115,116,105,108,108]⟩)))]) [8,7],
 qd 75 (.bin .add (.t 71) (.t 74)) [6,9,8,7]])
 (.seq (.reg [qd 76 (.call (.t 65) [(.t 70),(.t 75)]) [0,5,2,1,4,3,10,6,9,8,7]])
 (.regD [])))
 (.seq (.reg [qm 77 7,
 qm 78 11,
 qo 79 (.bin .add (.t 78) (.c (.val (.string ⟨#[32,118,101,114,115,105,111,110]⟩)))),
 qo 80 (.fad 3 (.t 9)),
 qo 81 (.ld1 (.t 80)),
 qo 82 (.fad 3 (.t 10)),
 qo 83 (.ld1 (.t 82)),
 qo 84 (.call (.t 77) [(.t 79),(.t 81),(.t 83)])])
 (.reg [qm 85 7,
 qm 86 11,
 qo 87 (.bin .add (.t 86) (.c (.val (.string ⟨#[32,106,111,98]⟩)))),
 qo 88 (.fad 4 (.t 9)),
 qo 89 (.ld1 (.t 88)),
 qo 90 (.fad 4 (.t 10)),
 qo 91 (.ld1 (.t 90)),
 qo 92 (.call (.t 85) [(.t 87),(.t 89),(.t 91)])]))))))))
 (.reg [qo 93 (.bin .add (.t 25) (qk 1)),
 qm 25 93])))))))
 (.seq (.seq (.reg [qo 94 (.fad 1 (.t 3)),
 qo 95 (.ld1 (.t 94)),
 qo 96 (.len (.t 95)),
 qo 97 (.mv (qk 0))])
 (.block 2 (.loop (.seq (.reg [qo 98 (.bin .lss (.t 97) (.t 96))])
 (.seq (.cond (.t 98) .skip
 (.exit 2))
 (.seq (.block 3 (.seq (.reg [qm 99 97,
 qo 100 (.ixa 12 (.t 95) (.t 97)),
 qo 101 (.ldn 12 (.t 100)),
 qo 13 (.new 119 [q0,q0,q0,q0,q0,q0,q0,q0,q0,q0,q0,q0]),
 qm 12 99,
 qn (.st 12 (.t 13) (.t 101))])
 (.seq (.reg [qm 102 12,
 qo 103 (.bin .add (.t 102) (qk 1)),
 qo 104 (.call (.f 77) [(.t 103)]),
 qo 105 (.bin .add (.c (.val (.string ⟨#[106,111,98,32]⟩))) (.t 104)),
 qm 14 105])
 (.seq (.seq (.reg [qm 106 12,
 qo 107 (.fad 1 (.t 2)),
 qo 108 (.ld1 (.t 107)),
 qo 109 (.len (.t 108)),
 qo 110 (.bin .geq (.t 106) (.t 109))])
 (.cond (.t 110) (.seq (.reg [qo 111 (.ld1 (.t 6)),
 qm 112 14,
 qo 113 (.bin .add (.t 112) (.c (.val (.string ⟨#[32,110,101,119]⟩)))),
 qo 114 (.call (.t 111) [qt,(.t 113)])])
 (.exit 3))
 .skip))
 (.seq (.reg [qo 115 (.fad 1 (.t 2)),
 qo 116 (.ld1 (.t 115)),
 qm 117 12,
 qo 118 (.ixa 12 (.t 116) (.t 117)),
 qo 119 (.ldn 12 (.t 118)),
 qo 15 (.new 119 [q0,q0,q0,q0,q0,q0,q0,q0,q0,q0,q0,q0]),
 qn (.st 12 (.t 15) (.t 119))])
 (.seq (.reg [qm 120 7,
 qm 121 14,
 qo 122 (.bin .add (.t 121) (.c (.val (.string ⟨#[32,112,104,97,115,101]⟩)))),
 qo 123 (.fad 6 (.t 15)),
 qo 124 (.ld1 (.t 123)),
 qo 125 (.fad 6 (.t 13)),
 qo 126 (.ld1 (.t 125)),
 qo 127 (.call (.t 120) [(.t 122),(.t 124),(.t 126)])])
 (.seq (.reg [qm 128 7,
 qm 129 14,
 qo 130 (.bin .add (.t 129) (.c (.val (.string ⟨#[32,105,110,99]⟩)))),
 qo 131 (.fad 7 (.t 15)),
 qo 132 (.ld1 (.t 131)),
 qo 133 (.fad 7 (.t 13)),
 qo 134 (.ld1 (.t 133)),
 qo 135 (.call (.t 128) [(.t 130),(.t 132),(.t 134)])])
 (.seq (.reg [qm 136 7,
 qm 137 14,
 qo 138 (.bin .add (.t 137) (.c (.val (.string ⟨#[32,110,111,100,101,115]⟩)))),
 qo 139 (.fad 8 (.t 15)),
 qo 140 (.ld1 (.t 139)),
 qo 141 (.fad 8 (.t 13)),
 qo 142 (.ld1 (.t 141)),
 qo 143 (.call (.t 136) [(.t 138),(.t 140),(.t 142)])])
 (.reg [qm 144 7,
 qm 145 14,
 qo 146 (.bin .add (.t 145) (.c (.val (.string ⟨#[32,101,112,111,99,104]⟩)))),
 qo 147 (.fad 11 (.t 15)),
 qo 148 (.ld1 (.t 147)),
 qo 149 (.fad 11 (.t 13)),
 qo 150 (.ld1 (.t 149)),
 qo 151 (.call (.t 144) [(.t 146),(.t 148),(.t 150)])])))))))))
 (.reg [qo 152 (.bin .add (.t 97) (qk 1)),
 qm 97 152])))))))
 (.seq (.reg [qm 153 7,
 qo 154 (.fad 2 (.t 2)),
 qo 155 (.ld1 (.t 154)),
 qo 156 (.fad 2 (.t 3)),
 qo 157 (.ld1 (.t 156)),
 qo 158 (.call (.t 153) [(.c (.val (.string ⟨#[103,111,97,108]⟩))),(.t 155),(.t 157)])])
 (.seq (.reg [qm 159 7,
 qo 160 (.fad 3 (.t 2)),
 qo 161 (.ld1 (.t 160)),
 qo 162 (.fad 3 (.t 3)),
 qo 163 (.ld1 (.t 162)),
 qo 164 (.call (.t 159) [(.c (.val (.string ⟨#[112,114,105,111,114]⟩))),(.t 161),(.t 163)])])
 (.seq (.reg [qm 165 7,
 qo 166 (.fad 4 (.t 2)),
 qo 167 (.ld1 (.t 166)),
 qo 168 (.fad 4 (.t 3)),
 qo 169 (.ld1 (.t 168)),
 qo 170 (.call (.t 165) [(.c (.val (.string ⟨#[109,111,100,101]⟩))),(.t 167),(.t 169)])])
 (.seq (.reg [qm 171 7,
 qo 172 (.fad 5 (.t 2)),
 qo 173 (.ld1 (.t 172)),
 qo 174 (.fad 5 (.t 3)),
 qo 175 (.ld1 (.t 174)),
 qo 176 (.call (.t 171) [(.c (.val (.string ⟨#[116,101,114,109]⟩))),(.t 173),(.t 175)])])
 (.seq (.reg [qo 177 (.ld1 (.t 5)),
 qm 4 177])
 .ret))))))))))),
[(.t 4)])
theorem irOk25 : convFn Tryz.prog Tryz.f25 = some ir25 := by kernel_rfl


def nodeT (k : Nat) (a b : NodeD) (o : List ByteArray) : List ByteArray :=
  let h : ByteArray := ⟨#[110, 111, 100, 101, 32]⟩ ++ itoaT k
  numT (h ++ ⟨#[32, 106, 111, 98]⟩) a.job b.job (numT (h ++ ⟨#[32, 118, 101, 114, 115, 105, 111, 110]⟩) a.version b.version (telB (!(a.moving == b.moving)) (h ++ if b.moving = true then ⟨#[32, 109, 111, 118, 105, 110, 103]⟩ else ⟨#[32, 115, 116, 105, 108, 108]⟩) (telB (!(a.cordon == b.cordon)) (h ++ if b.cordon = true then ⟨#[32, 99, 111, 114, 100, 111, 110, 101, 100]⟩ else ⟨#[32, 111, 112, 101, 110]⟩) (telB (!(a.up == b.up)) (h ++ if b.up = true then ⟨#[32, 117, 112]⟩ else ⟨#[32, 100, 111, 119, 110]⟩) o))))
def jobT (k : Nat) (a b : JobD) (o : List ByteArray) : List ByteArray :=
  let h : ByteArray := ⟨#[106, 111, 98, 32]⟩ ++ itoaT ((k + 1 : Nat) : Int)
  numT (h ++ ⟨#[32, 101, 112, 111, 99, 104]⟩) a.epoch b.epoch (numT (h ++ ⟨#[32, 110, 111, 100, 101, 115]⟩) a.nodes b.nodes (numT (h ++ ⟨#[32, 105, 110, 99]⟩) a.inc b.inc (numT (h ++ ⟨#[32, 112, 104, 97, 115, 101]⟩) a.phase b.phase o)))
def nodesT (s t : StateD) : Nat → List ByteArray
  | 0 => []
  | k + 1 => nodeT k (noA s k) (noA t k) (nodesT s t k)
def jobsT (s t : StateD) (o : List ByteArray) : Nat → List ByteArray
  | 0 => o
  | k + 1 => if s.jobs.length ≤ k then telB true (⟨#[106, 111, 98, 32]⟩ ++ itoaT ((k + 1 : Nat) : Int) ++ ⟨#[32, 110, 101, 119]⟩) (jobsT s t o k) else jobT k (joA s k) (joA t k) (jobsT s t o k)
def diffT (s t : StateD) : List ByteArray :=
  numT ⟨#[116, 101, 114, 109]⟩ s.term t.term (numT ⟨#[109, 111, 100, 101]⟩ s.mode t.mode (numT ⟨#[112, 114, 105, 111, 114]⟩ s.prior t.prior (numT ⟨#[103, 111, 97, 108]⟩ s.goal t.goal (jobsT s t (nodesT s t (min s.nodes.length t.nodes.length)) t.jobs.length))))
theorem telB_le (b : Bool) (w : ByteArray) (o : List ByteArray) : (telB b w o).length ≤ o.length + 1 := by unfold telB; split <;> simp
theorem numT_le (h : ByteArray) (a b : Int) (o : List ByteArray) : (numT h a b o).length ≤ o.length + 1 := telB_le ..
theorem nodesT_le (s t : StateD) : ∀ k, (nodesT s t k).length ≤ 5 * k
  | 0 => Nat.le_refl _
  | k + 1 => by
    have := nodesT_le s t k
    unfold nodesT nodeT
    refine Nat.le_trans (numT_le ..) (Nat.succ_le_succ (Nat.le_trans (numT_le ..) (Nat.succ_le_succ (Nat.le_trans (telB_le ..) (Nat.succ_le_succ (Nat.le_trans (telB_le ..) (Nat.succ_le_succ (Nat.le_trans (telB_le ..) (Nat.succ_le_succ this)))))))))
theorem jobsT_le (s t : StateD) (o : List ByteArray) : ∀ k, (jobsT s t o k).length ≤ o.length + 4 * k
  | 0 => Nat.le_refl _
  | k + 1 => by
    have := jobsT_le s t o k
    unfold jobsT
    split
    · have := telB_le true (⟨#[106, 111, 98, 32]⟩ ++ itoaT ((k + 1 : Nat) : Int) ++ ⟨#[32, 110, 101, 119]⟩) (jobsT s t o k); omega
    · unfold jobT
      refine Nat.le_trans (numT_le ..) (Nat.succ_le_succ (Nat.le_trans (numT_le ..) (Nat.succ_le_succ (Nat.le_trans (numT_le ..) (Nat.succ_le_succ (Nat.le_trans (numT_le ..) (Nat.succ_le_succ this)))))))
structure Told (t : StateD) : Prop where
  nodes : t.nodes.length ≤ 6
  jobs : t.jobs.length ≤ 24
  node : ∀ k, k < t.nodes.length → (0 ≤ (noA t k).version ∧ (noA t k).version ≤ 1000000000000) ∧ (0 ≤ (noA t k).job ∧ (noA t k).job ≤ 1000000000000)
  job : ∀ k, k < t.jobs.length → (0 ≤ (joA t k).phase ∧ (joA t k).phase ≤ 1000000000000) ∧ (0 ≤ (joA t k).inc ∧ (joA t k).inc ≤ 1000000000000) ∧ (0 ≤ (joA t k).nodes ∧ (joA t k).nodes ≤ 1000000000000) ∧ (0 ≤ (joA t k).epoch ∧ (joA t k).epoch ≤ 1000000000000)
  goal : 0 ≤ t.goal ∧ t.goal ≤ 1000000000000
  prior : 0 ≤ t.prior ∧ t.prior ≤ 1000000000000
  mode : 0 ≤ t.mode ∧ t.mode ≤ 1000000000000
  term : 0 ≤ t.term ∧ t.term ≤ 1000000000000
theorem RightP.told {c : ConfD} {t : StateD} (h : RightP c t) : Told t := by
  refine ⟨h.len.2, h.jobs, fun k hk => ⟨by have := h.ver k hk; omega, by have := h.job k hk; have := h.jobs; omega⟩, fun k hk => ?_, by have := h.goal; omega, by have := h.prior; omega, by have := h.mode; omega, by have := h.term; omega⟩
  have hn := h.num k hk
  refine ⟨by have := hn.phase; omega, by have := hn.inc; omega, ?_, by have := hn.epoch; have := hn.inc; omega⟩
  cases hp : placedB (joA t k).phase with
  | true =>
    have q := h.placed k hk hp
    have h1 := q.hi
    have h2 : (2 : Int) ^ t.nodes.length ≤ 2 ^ 6 := by
      have := h.len.2
      exact_mod_cast Nat.pow_le_pow_right (by decide) this
    have := q.lo
    constructor
    · exact this
    · have : (2 : Int) ^ 6 = 64 := by decide
      omega
  | false => rw [h.idle k hk hp]; decide
def cellsDT (s : StateD) : List LV := [nodesV s.nodes, jobsV s.jobs, .int s.goal, .int s.prior, .int s.mode, .int s.term]
def bDiff (s t : StateD) (o : List ByteArray) : List (Option LObj) := [some (.box 30 (cellsDT s)), some (.box 30 (cellsDT t)), some (.box 48 [.sl 4 o.length 1 0 o.length]), some (.box 139 [.fn (.func 75) [] [.ptr 2 0]]), some (.dat 9 1 (strR o))]
def difS1 (s t : StateD) (k : Nat) : St := ⟨[(2, .ptr 0 0), (3, .ptr 1 0), (5, .ptr 2 0), (6, .ptr 3 0), (7, .fn (.func 76) [] [.ptr 3 0]), (24, .int ((min s.nodes.length t.nodes.length : Nat) : Int)), (25, .int k)], bDiff s t (nodesT s t k)⟩
def difS2 (s t : StateD) (O : List ByteArray) (k : Nat) : St := ⟨[(2, .ptr 0 0), (3, .ptr 1 0), (5, .ptr 2 0), (6, .ptr 3 0), (7, .fn (.func 76) [] [.ptr 3 0]), (95, jobsV t.jobs), (96, .int t.jobs.length), (97, .int k)], bDiff s t (jobsT s t O k)⟩
set_option maxHeartbeats 4000000 in
theorem diff_tri (hG : G 2 = some powR) (s t : StateD) (hs : s.nodes.length ≤ 6 ∧ s.jobs.length ≤ 24) (ht : Told t) : Tri Tryz.prog G 25 [stateV s, stateV t] [] (.d (.lst 1 (strR (diffT s t)))) [] := by
  have hmin : (if ((t.nodes.length : Nat) : Int) < ((s.nodes.length : Nat) : Int) then ((t.nodes.length : Nat) : Int) else ((s.nodes.length : Nat) : Int)) = ((min s.nodes.length t.nodes.length : Nat) : Int) := by
    split <;> omega
  have hmn : min s.nodes.length t.nodes.length ≤ s.nodes.length ∧ min s.nodes.length t.nodes.length ≤ t.nodes.length := by omega
  refine tri_W Tryz.func25 (by decide) irOk25 (Nat.le_of_ble_eq_true rfl) ?_
  simp only [ir25,go_sem,simprocAttr]
  refine W_loopI [2, 3, 5, 6, 7, 24, 25] [.b 2 0 9 1] (fun k : Nat => k ≤ min s.nodes.length t.nodes.length) (fun k => min s.nodes.length t.nodes.length - k) (difS1 s t) 0 ?_ (Nat.zero_le _) (fun k hk => ?_)
  · simp only [difS1,bDiff,cellsDT,nodesT,strR,Int.natCast_zero,hmin,go_sem,simprocAttr]
  simp only [difS1,bDiff,cellsDT,go_sem,simprocAttr]
  by_cases hlt : k < min s.nodes.length t.nodes.length
  · have hga := get_mapD (f := nodeR) zeroNode (show k < s.nodes.length by omega)
    have hgb := get_mapD (f := nodeR) zeroNode (show k < t.nodes.length by omega)
    have hTn := ht.node k (by omega)
    have hlen := nodesT_le s t k
    have hnx : nodesT s t (k + 1) = nodeT k (noA s k) (noA t k) (nodesT s t k) := rfl
    have hk6 := ht.nodes
    unfold noA at hTn hnx
    generalize s.nodes.getD k zeroNode = a at *
    generalize t.nodes.getD k zeroNode = b at *
    simp only [nodeR] at hga hgb
    unfold nodeT at hnx
    dsimp only at hnx
    simp only [decide_eq_true (show ((k : Nat) : Int) < ((min s.nodes.length t.nodes.length : Nat) : Int) by omega),hga,hgb,go_sem,simprocAttr]
    refine WD_calld (itoaT_tri hG (k : Int) (by omega) (by omega)) rfl rfl rfl rfl ?_; simp only [go_sem,simprocAttr]
    have hh := itoaT_head #[110, 111, 100, 101, 32] (k : Int) (by decide) (by omega) (by omega)
    simp only [itoaT_fits #[110,111,100,101,32] (k : Int) (by decide) (by omega) (by omega), go_sem, simprocAttr]
    generalize (⟨#[110, 111, 100, 101, 32]⟩ : ByteArray) ++ itoaT (k : Int) = h at *
    refine W_opsD_end rfl ?_
    simp only [go_sem,simprocAttr]
    generalize ho0 : nodesT s t k = o0 at *
    refine WD_calld (pick26_tri b.up ⟨#[32, 117, 112]⟩ ⟨#[32, 100, 111, 119, 110]⟩) rfl rfl rfl rfl ?_; simp only [go_sem,simprocAttr]
    simp only [szI hh b.up #[32,117,112] #[32, 100, 111, 119, 110] (by decide) (by decide), go_sem, simprocAttr]
    refine W_callo [2, 4] (tell_tri (!(a.up == b.up)) (h ++ if b.up = true then ⟨#[32, 117, 112]⟩ else ⟨#[32, 100, 111, 119, 110]⟩) o0 (by omega)) rfl (by simp only [argRs,argR,List.map_cons,List.map_nil,go_sem,simprocAttr,outO]) (by decide) (by simp only [go_sem,simprocAttr,outO]) (by simp only [go_sem,simprocAttr,List.all_cons,List.all_nil,outO]) (Nat.le_refl _) ?_
    simp only [go_sem,simprocAttr,outO]
    refine W_opsD_end rfl ?_
    simp only [go_sem,simprocAttr]
    obtain ⟨o1, ho1⟩ : ∃ q, q = telB (!(a.up == b.up)) (h ++ if b.up = true then ⟨#[32, 117, 112]⟩ else ⟨#[32, 100, 111, 119, 110]⟩) o0 := ⟨_, rfl⟩
    have lo1 := telB_le (!(a.up == b.up)) (h ++ if b.up = true then ⟨#[32, 117, 112]⟩ else ⟨#[32, 100, 111, 119, 110]⟩) o0
    rw [← ho1] at hnx lo1 ⊢
    refine WD_calld (pick26_tri b.cordon ⟨#[32, 99, 111, 114, 100, 111, 110, 101, 100]⟩ ⟨#[32, 111, 112, 101, 110]⟩) rfl rfl rfl rfl ?_; simp only [go_sem,simprocAttr]
    simp only [szI hh b.cordon #[32,99,111,114,100,111,110,101,100] #[32, 111, 112, 101, 110] (by decide) (by decide), go_sem, simprocAttr]
    refine W_callo [2, 4] (tell_tri (!(a.cordon == b.cordon)) (h ++ if b.cordon = true then ⟨#[32, 99, 111, 114, 100, 111, 110, 101, 100]⟩ else ⟨#[32, 111, 112, 101, 110]⟩) o1 (by omega)) rfl (by simp only [argRs,argR,List.map_cons,List.map_nil,go_sem,simprocAttr,outO]) (by decide) (by simp only [go_sem,simprocAttr,outO]) (by simp only [go_sem,simprocAttr,List.all_cons,List.all_nil,outO]) (Nat.le_refl _) ?_
    simp only [go_sem,simprocAttr,outO]
    refine W_opsD_end rfl ?_
    simp only [go_sem,simprocAttr]
    obtain ⟨o2, ho2⟩ : ∃ q, q = telB (!(a.cordon == b.cordon)) (h ++ if b.cordon = true then ⟨#[32, 99, 111, 114, 100, 111, 110, 101, 100]⟩ else ⟨#[32, 111, 112, 101, 110]⟩) o1 := ⟨_, rfl⟩
    have lo2 := telB_le (!(a.cordon == b.cordon)) (h ++ if b.cordon = true then ⟨#[32, 99, 111, 114, 100, 111, 110, 101, 100]⟩ else ⟨#[32, 111, 112, 101, 110]⟩) o1
    rw [← ho2] at hnx lo2 ⊢
    refine WD_calld (pick26_tri b.moving ⟨#[32, 109, 111, 118, 105, 110, 103]⟩ ⟨#[32, 115, 116, 105, 108, 108]⟩) rfl rfl rfl rfl ?_; simp only [go_sem,simprocAttr]
    simp only [szI hh b.moving #[32,109,111,118,105,110,103] #[32, 115, 116, 105, 108, 108] (by decide) (by decide), go_sem, simprocAttr]
    refine W_callo [2, 4] (tell_tri (!(a.moving == b.moving)) (h ++ if b.moving = true then ⟨#[32, 109, 111, 118, 105, 110, 103]⟩ else ⟨#[32, 115, 116, 105, 108, 108]⟩) o2 (by omega)) rfl (by simp only [argRs,argR,List.map_cons,List.map_nil,go_sem,simprocAttr,outO]) (by decide) (by simp only [go_sem,simprocAttr,outO]) (by simp only [go_sem,simprocAttr,List.all_cons,List.all_nil,outO]) (Nat.le_refl _) ?_
    simp only [go_sem,simprocAttr,outO]
    refine W_opsD_end rfl ?_
    simp only [go_sem,simprocAttr]
    obtain ⟨o3, ho3⟩ : ∃ q, q = telB (!(a.moving == b.moving)) (h ++ if b.moving = true then ⟨#[32, 109, 111, 118, 105, 110, 103]⟩ else ⟨#[32, 115, 116, 105, 108, 108]⟩) o2 := ⟨_, rfl⟩
    have lo3 := telB_le (!(a.moving == b.moving)) (h ++ if b.moving = true then ⟨#[32, 109, 111, 118, 105, 110, 103]⟩ else ⟨#[32, 115, 116, 105, 108, 108]⟩) o2
    rw [← ho3] at hnx lo3 ⊢
    simp only [szB hh #[32,118,101,114,115,105,111,110] (by decide), szB hh #[32, 106, 111, 98] (by decide), go_sem, simprocAttr]
    refine W_callo [3, 2, 4] (number_tri hG (h ++ ⟨#[32, 118, 101, 114, 115, 105, 111, 110]⟩) a.version b.version o3 (by omega) (szH hh #[32, 118, 101, 114, 115, 105, 111, 110] (by decide)) hTn.1) rfl (by simp only [argRs,argR,List.map_cons,List.map_nil,go_sem,simprocAttr,numO]) (by decide) (by simp only [go_sem,simprocAttr,numO]) (by simp only [go_sem,simprocAttr,List.all_cons,List.all_nil,numO]) (Nat.le_refl _) ?_
    simp only [go_sem,simprocAttr,numO]
    obtain ⟨o4, ho4⟩ : ∃ q, q = numT (h ++ ⟨#[32, 118, 101, 114, 115, 105, 111, 110]⟩) a.version b.version o3 := ⟨_, rfl⟩
    have lo4 := numT_le (h ++ ⟨#[32, 118, 101, 114, 115, 105, 111, 110]⟩) a.version b.version o3
    rw [← ho4] at hnx lo4 ⊢
    simp only [szB hh #[32,106,111,98] (by decide), go_sem, simprocAttr]
    refine W_callo [3, 2, 4] (number_tri hG (h ++ ⟨#[32, 106, 111, 98]⟩) a.job b.job o4 (by omega) (szH hh #[32, 106, 111, 98] (by decide)) hTn.2) rfl (by simp only [argRs,argR,List.map_cons,List.map_nil,go_sem,simprocAttr,numO]) (by decide) (by simp only [go_sem,simprocAttr,numO]) (by simp only [go_sem,simprocAttr,List.all_cons,List.all_nil,numO]) (Nat.le_refl _) ?_
    simp only [go_sem,simprocAttr,numO]
    obtain ⟨o5, ho5⟩ : ∃ q, q = numT (h ++ ⟨#[32, 106, 111, 98]⟩) a.job b.job o4 := ⟨_, rfl⟩
    have lo5 := numT_le (h ++ ⟨#[32, 106, 111, 98]⟩) a.job b.job o4
    rw [← ho5] at hnx lo5 ⊢
    refine W_lpI (k + 1) ?_ ?_ (by omega) (by omega)
    · simp only [go_sem,simprocAttr]
    · simp only [difS1,bDiff,cellsDT,hnx,wrap_succ (show k < 9223372036854775807 by omega),go_sem,simprocAttr]
  have hk2 : k = min s.nodes.length t.nodes.length := by omega
  subst hk2
  simp only [decide_eq_false (show ¬ ((min s.nodes.length t.nodes.length : Nat) : Int) < ((min s.nodes.length t.nodes.length : Nat) : Int) by omega),go_sem,simprocAttr]
  have hlO := nodesT_le s t (min s.nodes.length t.nodes.length)
  have hk6 := ht.nodes
  have hj24 := ht.jobs
  obtain ⟨O, hO⟩ : ∃ q, q = nodesT s t (min s.nodes.length t.nodes.length) := ⟨_, rfl⟩
  have hD : diffT s t = numT ⟨#[116, 101, 114, 109]⟩ s.term t.term (numT ⟨#[109, 111, 100, 101]⟩ s.mode t.mode (numT ⟨#[112, 114, 105, 111, 114]⟩ s.prior t.prior (numT ⟨#[103, 111, 97, 108]⟩ s.goal t.goal (jobsT s t O t.jobs.length)))) := by rw [hO]; rfl
  rw [← hO] at hlO ⊢
  refine W_loopI [2, 3, 5, 6, 7, 95, 96, 97] [] (fun j : Nat => j ≤ t.jobs.length) (fun j => t.jobs.length - j) (difS2 s t O) 0 ?_ (Nat.zero_le _) (fun k hk => ?_)
  · simp only [difS2,bDiff,cellsDT,jobsV,List.length_map,jobsT,Int.natCast_zero,go_sem,simprocAttr]
  simp only [difS2,bDiff,cellsDT,go_sem,simprocAttr]
  by_cases hlt : k < t.jobs.length
  · have hgb := get_mapD (f := jobR) zeroJob (show k < t.jobs.length by omega)
    have hTj := ht.job k (by omega)
    have hlen := jobsT_le s t O k
    unfold joA at hTj
    simp only [decide_eq_true (show ((k : Nat) : Int) < ((t.jobs.length : Nat) : Int) by omega),hgb,jobR,wrap_succ (show k < 9223372036854775807 by omega),go_sem,simprocAttr]
    refine W_calld (itoaT_tri hG ((k + 1 : Nat) : Int) (by omega) (by omega)) rfl rfl rfl rfl ?_; simp only [go_sem,simprocAttr]
    have hh := itoaT_head #[106, 111, 98, 32] ((k + 1 : Nat) : Int) (by decide) (by omega) (by omega)
    simp only [itoaT_fits #[106,111,98,32] ((k + 1 : Nat) : Int) (by decide) (by omega) (by omega), List.length_map, go_sem, simprocAttr]
    by_cases hn : s.jobs.length ≤ k
    · have hnx : jobsT s t O (k + 1) = telB true (⟨#[106, 111, 98, 32]⟩ ++ itoaT ((k + 1 : Nat) : Int) ++ ⟨#[32, 110, 101, 119]⟩) (jobsT s t O k) := by simp only [jobsT,hn,if_true]
      generalize ho0 : jobsT s t O k = o0 at *
      generalize (⟨#[106, 111, 98, 32]⟩ : ByteArray) ++ itoaT ((k + 1 : Nat) : Int) = h at *
      simp only [decide_eq_true (show ((s.jobs.length : Nat) : Int) ≤ ((k : Nat) : Int) by omega),szB hh #[32,110,101,119] (by decide), go_sem, simprocAttr]
      refine W_callo [2, 4] (tell_tri true (h ++ ⟨#[32, 110, 101, 119]⟩) o0 (by omega)) rfl (by simp only [argRs,argR,List.map_cons,List.map_nil,go_sem,simprocAttr,outO]) (by decide) (by simp only [go_sem,simprocAttr,outO]) (by simp only [go_sem,simprocAttr,List.all_cons,List.all_nil,outO]) (Nat.le_refl _) ?_
      simp only [go_sem,simprocAttr,outO]
      refine W_lpI (k + 1) ?_ ?_ (by omega) (by omega)
      · simp only [go_sem,simprocAttr]
      · simp only [difS2,bDiff,cellsDT,hnx,wrap_succ (show k < 9223372036854775807 by omega),go_sem,simprocAttr]
    · have hga := get_mapD (f := jobR) zeroJob (show k < s.jobs.length by omega)
      have hnx : jobsT s t O (k + 1) = jobT k (joA s k) (joA t k) (jobsT s t O k) := by simp only [jobsT,hn,if_false]
      unfold joA at hnx
      generalize s.jobs.getD k zeroJob = a at *
      generalize t.jobs.getD k zeroJob = b at *
      simp only [jobR] at hga
      unfold jobT at hnx
      dsimp only at hnx
      generalize ho0 : jobsT s t O k = o0 at *
      generalize (⟨#[106, 111, 98, 32]⟩ : ByteArray) ++ itoaT ((k + 1 : Nat) : Int) = h at *
      simp only [decide_eq_false (show ¬ ((s.jobs.length : Nat) : Int) ≤ ((k : Nat) : Int) by omega),hga,go_sem,simprocAttr]
      simp only [szB hh #[32,112,104,97,115,101] (by decide), go_sem, simprocAttr]
      refine W_callo [3, 2, 4] (number_tri hG (h ++ ⟨#[32, 112, 104, 97, 115, 101]⟩) a.phase b.phase o0 (by omega) (szH hh #[32, 112, 104, 97, 115, 101] (by decide)) hTj.1) rfl (by simp only [argRs,argR,List.map_cons,List.map_nil,go_sem,simprocAttr,numO]) (by decide) (by simp only [go_sem,simprocAttr,numO]) (by simp only [go_sem,simprocAttr,List.all_cons,List.all_nil,numO]) (Nat.le_refl _) ?_
      simp only [go_sem,simprocAttr,numO]
      obtain ⟨o1, ho1⟩ : ∃ q, q = numT (h ++ ⟨#[32, 112, 104, 97, 115, 101]⟩) a.phase b.phase o0 := ⟨_, rfl⟩
      have lo1 := numT_le (h ++ ⟨#[32, 112, 104, 97, 115, 101]⟩) a.phase b.phase o0
      rw [← ho1] at hnx lo1 ⊢
      simp only [szB hh #[32,105,110,99] (by decide), go_sem, simprocAttr]
      refine W_callo [3, 2, 4] (number_tri hG (h ++ ⟨#[32, 105, 110, 99]⟩) a.inc b.inc o1 (by omega) (szH hh #[32, 105, 110, 99] (by decide)) hTj.2.1) rfl (by simp only [argRs,argR,List.map_cons,List.map_nil,go_sem,simprocAttr,numO]) (by decide) (by simp only [go_sem,simprocAttr,numO]) (by simp only [go_sem,simprocAttr,List.all_cons,List.all_nil,numO]) (Nat.le_refl _) ?_
      simp only [go_sem,simprocAttr,numO]
      obtain ⟨o2, ho2⟩ : ∃ q, q = numT (h ++ ⟨#[32, 105, 110, 99]⟩) a.inc b.inc o1 := ⟨_, rfl⟩
      have lo2 := numT_le (h ++ ⟨#[32, 105, 110, 99]⟩) a.inc b.inc o1
      rw [← ho2] at hnx lo2 ⊢
      simp only [szB hh #[32,110,111,100,101,115] (by decide), go_sem, simprocAttr]
      refine W_callo [3, 2, 4] (number_tri hG (h ++ ⟨#[32, 110, 111, 100, 101, 115]⟩) a.nodes b.nodes o2 (by omega) (szH hh #[32, 110, 111, 100, 101, 115] (by decide)) hTj.2.2.1) rfl (by simp only [argRs,argR,List.map_cons,List.map_nil,go_sem,simprocAttr,numO]) (by decide) (by simp only [go_sem,simprocAttr,numO]) (by simp only [go_sem,simprocAttr,List.all_cons,List.all_nil,numO]) (Nat.le_refl _) ?_
      simp only [go_sem,simprocAttr,numO]
      obtain ⟨o3, ho3⟩ : ∃ q, q = numT (h ++ ⟨#[32, 110, 111, 100, 101, 115]⟩) a.nodes b.nodes o2 := ⟨_, rfl⟩
      have lo3 := numT_le (h ++ ⟨#[32, 110, 111, 100, 101, 115]⟩) a.nodes b.nodes o2
      rw [← ho3] at hnx lo3 ⊢
      simp only [szB hh #[32,101,112,111,99,104] (by decide), go_sem, simprocAttr]
      refine W_callo [3, 2, 4] (number_tri hG (h ++ ⟨#[32, 101, 112, 111, 99, 104]⟩) a.epoch b.epoch o3 (by omega) (szH hh #[32, 101, 112, 111, 99, 104] (by decide)) hTj.2.2.2) rfl (by simp only [argRs,argR,List.map_cons,List.map_nil,go_sem,simprocAttr,numO]) (by decide) (by simp only [go_sem,simprocAttr,numO]) (by simp only [go_sem,simprocAttr,List.all_cons,List.all_nil,numO]) (Nat.le_refl _) ?_
      simp only [go_sem,simprocAttr,numO]
      obtain ⟨o4, ho4⟩ : ∃ q, q = numT (h ++ ⟨#[32, 101, 112, 111, 99, 104]⟩) a.epoch b.epoch o3 := ⟨_, rfl⟩
      have lo4 := numT_le (h ++ ⟨#[32, 101, 112, 111, 99, 104]⟩) a.epoch b.epoch o3
      rw [← ho4] at hnx lo4 ⊢
      refine W_lpI (k + 1) ?_ ?_ (by omega) (by omega)
      · simp only [go_sem,simprocAttr]
      · simp only [difS2,bDiff,cellsDT,hnx,wrap_succ (show k < 9223372036854775807 by omega),go_sem,simprocAttr]
  have hkk : k = t.jobs.length := by omega
  subst hkk
  have hlJ := jobsT_le s t O t.jobs.length
  have hhT : ∀ l : Array UInt8, l.size ≤ 900 → (⟨l⟩ : ByteArray).size ≤ 900 := fun _ h => h
  simp only [decide_eq_false (show ¬ ((t.jobs.length : Nat) : Int) < ((t.jobs.length : Nat) : Int) by omega),go_sem,simprocAttr]
  rw [hD]
  generalize jobsT s t O t.jobs.length = o0 at *
  refine W_callo [3, 2, 4] (number_tri hG (⟨#[103, 111, 97, 108]⟩) s.goal t.goal o0 (by omega) (hhT _ (by decide)) ht.goal) rfl (by simp only [argRs,argR,List.map_cons,List.map_nil,go_sem,simprocAttr,numO]) (by decide) (by simp only [go_sem,simprocAttr,numO]) (by simp only [go_sem,simprocAttr,List.all_cons,List.all_nil,numO]) (Nat.le_refl _) ?_
  simp only [go_sem,simprocAttr,numO]
  obtain ⟨o1, ho1⟩ : ∃ q, q = numT (⟨#[103, 111, 97, 108]⟩) s.goal t.goal o0 := ⟨_, rfl⟩
  have lo1 := numT_le (⟨#[103, 111, 97, 108]⟩) s.goal t.goal o0
  rw [← ho1] at lo1 ⊢
  refine W_callo [3, 2, 4] (number_tri hG (⟨#[112, 114, 105, 111, 114]⟩) s.prior t.prior o1 (by omega) (hhT _ (by decide)) ht.prior) rfl (by simp only [argRs,argR,List.map_cons,List.map_nil,go_sem,simprocAttr,numO]) (by decide) (by simp only [go_sem,simprocAttr,numO]) (by simp only [go_sem,simprocAttr,List.all_cons,List.all_nil,numO]) (Nat.le_refl _) ?_
  simp only [go_sem,simprocAttr,numO]
  obtain ⟨o2, ho2⟩ : ∃ q, q = numT (⟨#[112, 114, 105, 111, 114]⟩) s.prior t.prior o1 := ⟨_, rfl⟩
  have lo2 := numT_le (⟨#[112, 114, 105, 111, 114]⟩) s.prior t.prior o1
  rw [← ho2] at lo2 ⊢
  refine W_callo [3, 2, 4] (number_tri hG (⟨#[109, 111, 100, 101]⟩) s.mode t.mode o2 (by omega) (hhT _ (by decide)) ht.mode) rfl (by simp only [argRs,argR,List.map_cons,List.map_nil,go_sem,simprocAttr,numO]) (by decide) (by simp only [go_sem,simprocAttr,numO]) (by simp only [go_sem,simprocAttr,List.all_cons,List.all_nil,numO]) (Nat.le_refl _) ?_
  simp only [go_sem,simprocAttr,numO]
  obtain ⟨o3, ho3⟩ : ∃ q, q = numT (⟨#[109, 111, 100, 101]⟩) s.mode t.mode o2 := ⟨_, rfl⟩
  have lo3 := numT_le (⟨#[109, 111, 100, 101]⟩) s.mode t.mode o2
  rw [← ho3] at lo3 ⊢
  refine W_callo [3, 2, 4] (number_tri hG (⟨#[116, 101, 114, 109]⟩) s.term t.term o3 (by omega) (hhT _ (by decide)) ht.term) rfl (by simp only [argRs,argR,List.map_cons,List.map_nil,go_sem,simprocAttr,numO]) (by decide) (by simp only [go_sem,simprocAttr,numO]) (by simp only [go_sem,simprocAttr,List.all_cons,List.all_nil,numO]) (Nat.le_refl _) ?_
  simp only [go_sem,simprocAttr,numO]
  obtain ⟨o4, ho4⟩ : ∃ q, q = numT (⟨#[116, 101, 114, 109]⟩) s.term t.term o3 := ⟨_, rfl⟩
  have lo4 := numT_le (⟨#[116, 101, 114, 109]⟩) s.term t.term o3
  rw [← ho4] at lo4 ⊢
  exact BackZ [4] rfl (by simp [St.obj,objL]) (by simp [St.obj,objL,oneOr,St.get,getE,argR,rowsAt,strR_len,List.take_of_length_le])
end Dv
