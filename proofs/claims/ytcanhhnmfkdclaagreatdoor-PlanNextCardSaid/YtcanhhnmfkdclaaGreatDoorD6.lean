/- wave.Next. -/
import Derived.Test.YtcanhhnmfkdclaaGreatDoorD5
set_option linter.unusedVariables false
set_option linter.unusedSimpArgs false
namespace Dv
open Go Go.Proofs
variable {G : Nat → Option (List DV)}

def tellF : Nat → Nat
  | 0 => 37
  | 1 => 38
  | _ => 39
def tellT (c : ConfD) (s : StateD) (now : Int) : Nat → NodeD → Int → Option OpD
  | 0 => openO s
  | 1 => clearO c s now
  | _ => shutO c s
def tell (c : ConfD) (s : StateD) (now : Int) (i : Nat) (n : NodeD) (k : Nat) : OpD × Bool := match i with
  | 0 => (⟨17, k, 0, 0, 0, 0, 0⟩, openB s n)
  | 1 => ((clearO c s now n k).getD zeroOp, (clearO c s now n k).isSome)
  | _ => (⟨16, k, 0, 0, 0, 0, 0⟩, shutB c s n)
theorem tellT_eq (c : ConfD) (s : StateD) (now : Int) (i : Nat) (n : NodeD) (k : Nat) : tellT c s now i n k = if (tell c s now i n k).2 = true then some (tell c s now i n k).1 else none := by
  match i with
  | 0 => rfl
  | 1 => simp only [tellT,tell]; cases clearO c s now n k <;> rfl
  | i + 2 => rfl
theorem tell_tri (c : ConfD) (s : StateD) (now : Int) (i k : Nat) (hs : NJ s) (hk : k < s.nodes.length) (h1 : -1000000000 ≤ now + c.deadline ∧ now + c.deadline ≤ 1000000000) :
    Tri Tryz.prog G (tellF i) [viewV c s now, .int k] [] (.tup [opV (tell c s now i (s.nodes.getD k zeroNode) k).1, .bool (tell c s now i (s.nodes.getD k zeroNode) k).2]) [] := by
  match i with
  | 0 => exact open_tri c s now k hs hk
  | 1 => exact clear_tri c s now k hs hk h1
  | i + 2 => exact shut_tri c s now k hs hk
def restT (c : ConfD) (s : StateD) (now : Int) : Nat → Option OpD
  | 0 => match firstO (openO s) s.nodes 0 with
    | some o => some o
    | none => match firstO (clearO c s now) s.nodes 0 with
      | some o => some o
      | none => firstO (shutO c s) s.nodes 0
  | 1 => match firstO (clearO c s now) s.nodes 0 with
    | some o => some o
    | none => firstO (shutO c s) s.nodes 0
  | 2 => firstO (shutO c s) s.nodes 0
  | _ => none
theorem restT_eq (c : ConfD) (s : StateD) (now : Int) (i : Nat) (hi : i < 3) : restT c s now i = match firstO (tellT c s now i) s.nodes 0 with | some o => some o | none => restT c s now (i + 1) := by
  match i, hi with
  | 0, _ => rfl
  | 1, _ => rfl
  | 2, _ => simp only [restT,tellT]; cases firstO (shutO c s) s.nodes 0 <;> rfl
def fnsV (c : ConfD) (s : StateD) (now : Int) : List LV := [.fn (.func 37) [viewV c s now] [], .fn (.func 38) [viewV c s now] [], .fn (.func 39) [viewV c s now] []]
theorem fnsV_get (c : ConfD) (s : StateD) (now : Int) (i : Nat) (hi : i < 3) : ((fnsV c s now).drop (i * 1)).take 1 = [.fn (.func (tellF i)) [viewV c s now] []] := by
  match i, hi with
  | 0, _ => rfl
  | 1, _ => rfl
  | 2, _ => rfl
def viewL (c : ConfD) (s : StateD) (now : Int) : List LV := [.int c.nodes, .int c.queues, .int c.quota, .int c.wave, .int c.lease, .int c.retry, .int c.deadline, .int c.room, .int c.disk, nodesV s.nodes, jobsV s.jobs, .int s.goal, .int s.prior, .int s.mode, .int s.term, .int now]
def nextO (c : ConfD) (s : StateD) (now : Int) : List (Option LObj) := [some (.box 23 [.int c.nodes, .int c.queues, .int c.quota, .int c.wave, .int c.lease, .int c.retry, .int c.deadline, .int c.room, .int c.disk]), some (.box 27 [nodesV s.nodes, jobsV s.jobs, .int s.goal, .int s.prior, .int s.mode, .int s.term]), some (.box 32 [.int 0, .int 0, .int 0, .int 0, .int 0, .int 0, .int 0]), some (.box 70 (viewL c s now))]
def nextS (c : ConfD) (s : StateD) (now : Int) (i : Nat) : St := ⟨[(4, .ptr 1 0), (6, .ptr 2 0), (7, .bool false), (31, .agg (fnsV c s now)), (32, .int i)], nextO c s now⟩
def nextS2 (c : ConfD) (s : StateD) (now : Int) (i k : Nat) : St := ⟨[(4, .ptr 1 0), (6, .ptr 2 0), (7, .bool false), (10, .ptr 4 0), (31, .agg (fnsV c s now)), (32, .int i), (37, .int s.nodes.length), (38, .int k)], nextO c s now ++ [some (.box 73 [.fn (.func (tellF i)) [viewV c s now] []])]⟩
theorem next_tri (c : ConfD) (s : StateD) (now : Int) (hs : NJ s) (h1 : -1000000000 ≤ now + c.deadline ∧ now + c.deadline ≤ 1000000000) : Tri Tryz.prog G 25 [confV c, stateV s, .int now] [] (optV (nextW c s now)) [] := by
  refine tri_W0 Tryz.func25 (by decide) irOk25 (Nat.le_of_ble_eq_true rfl) rfl ?_
  unfold nextW
  simp only [ir25,go_sem,simprocAttr]
  cases hm : (s.mode == 1) with
  | true =>
    have hm' : s.mode = 1 := by simpa using hm
    simp only [hm',go_sem,simprocAttr,optV,Option.getD_none,Option.isSome_none]
  | false =>
  have hm' : ¬ s.mode = 1 := by simpa using hm
  rw [if_neg hm']
  show W Tryz.prog G (Ends [.cn 6 7, .t 7] (optV (restT c s now 0))) _ _
  generalize hr : restT c s now 0 = r
  simp only [go_sem,simprocAttr]
  have hn := hs.nodes
  refine W_loopI [4, 6, 7, 31, 32] [] (fun i : Nat => i ≤ 3 ∧ restT c s now i = r) (fun i => 3 - i) (nextS c s now) 0 ?_ ⟨by omega, hr⟩ ?_
  · simp only [nextS,nextO,fnsV,viewL,viewV,go_sem,simprocAttr,Int.natCast_zero]
  clear hr
  rintro i ⟨hi, hr⟩
  simp only [nextS,nextO,go_sem,simprocAttr]
  cases hlt : decide ((i : Int) < 3) with
  | false =>
    have h3 : i = 3 := by have := of_decide_eq_false hlt; omega
    subst h3
    simp only [restT] at hr
    simp only [← hr,go_sem,simprocAttr,optV,Option.getD_none,Option.isSome_none]
  | true =>
  have h3 : i < 3 := by have := of_decide_eq_true hlt; omega
  rw [restT_eq c s now i h3] at hr
  have hg := fnsV_get c s now i h3
  simp only [go_sem,simprocAttr,hg,h3]
  have hv : ∀ m, idl m (viewV c s now) = true := fun m => rfl
  have hl : ∀ m, idlL m (viewL c s now) = true := fun m => rfl
  have hf : ∀ m, idlL m (fnsV c s now) = true := fun m => rfl
  generalize hF0 : firstO (tellT c s now i) s.nodes 0 = q at hr
  refine W_loopI [4, 6, 7, 10, 31, 32, 37, 38] [] (fun k : Nat => k ≤ s.nodes.length ∧ firstO (tellT c s now i) (s.nodes.drop k) k = q) (fun k => s.nodes.length - k) (nextS2 c s now i) 0 ?_ ⟨Nat.zero_le _, hF0⟩ ?_
  · simp only [nextS2,nextO,go_sem,simprocAttr,Int.natCast_zero]
  clear hF0
  rintro k ⟨hk, hF⟩
  simp only [nextS2,nextO,go_sem,simprocAttr]
  refine WC_split (fun h => ?_) (fun h => ?_)
  · have h := lt_of_dec h
    rw [List.drop_eq_getElem_cons h, firstO, tellT_eq] at hF
    simp only [go_sem,simprocAttr]
    refine W_calld (tell_tri c s now i k hs h h1) rfl rfl (by rfl) rfl ?_
    rw [show s.nodes.getD k zeroNode = s.nodes[k] by simp [List.getD,h]]
    generalize tell c s now i s.nodes[k] k = p at *
    obtain ⟨⟨o1, o2, o3, o4, o5, o6, o7⟩, b⟩ := p
    simp only [go_sem,simprocAttr]
    cases b with
    | true =>
      simp only [if_true] at hF
      subst hF
      subst hr
      simp only [go_sem,simprocAttr,optV,Option.getD_some,Option.isSome_some]
    | false =>
      simp only [Bool.false_eq_true,if_false] at hF
      simp only [go_sem,simprocAttr]
      refine W_lpI (k + 1) ?_ ?_ ⟨h, hF⟩ (by omega)
      · simp only [go_sem,simprocAttr,hv,hl,hf]
      · simp only [nextS2,nextO,go_sem,simprocAttr,wrap_succ (show k < 9223372036854775807 by omega)]
  · obtain rfl := eq_of_dec h hk
    rw [List.drop_length, firstO] at hF
    subst hF
    simp only [go_sem,simprocAttr]
    refine W_lpI (i + 1) ?_ ?_ ⟨h3, hr⟩ (by omega)
    · simp only [go_sem,simprocAttr,hv,hl,hf]
    · simp only [nextS,nextO,go_sem,simprocAttr,wrap_succ (show i < 9223372036854775807 by omega)]
end Dv
