/- facts.nodes: its iterator's contract. -/
import Derived.Test.YtkalnfkokkjliaaGreatDoorDB
import Derived.RangeFuncNested
import Derived.RangeFuncBound
import Derived.RangeFuncCalls
import Derived.RangeFuncLeaves
import Derived.Shelf.Abstract
import Derived.Shelf.RegionOpen
import Derived.WalkKit
import Derived.OwnWalkIn
import Derived.TacticsInMore
import Derived.LoopNIn
import Derived.LoopIn
set_option linter.unusedVariables false
set_option linter.unusedSimpArgs false
namespace Go.Proofs
open Go.RowKit Go.Shelf
attribute [local go_sem] Oper.semAt_some
def eD (m:Int):Nat→List (Fin 6)
 | 0=>[]
 | k+1=>eD m k++if h:k<6 then (if Dv.hasB m k=true then [⟨k,h⟩] else []) else []
theorem xh (m:Int):∀ k:Nat,(eD m k).length≤k
 | 0=>by simp [eD]
 | k+1=>by
   have:=xh m k
   unfold eD
   rw [List.length_append]
   split
   ·split <;> simp <;> omega
   ·simp; omega
theorem Eu (m:Int) (k:Nat) (h:k<6) (hb:Dv.hasB m k=true):eD m (k+1)=eD m k++[⟨k,h⟩]:=by
 rw [eD,dif_pos h,if_pos hb]
theorem HR (m:Int) (k:Nat) (hb:Dv.hasB m k=false):eD m (k+1)=eD m k:=by
 rw [eD]
 split
 ·rw [if_neg (by simp [hb]),List.append_nil]
 ·rw [List.append_nil]
theorem Ew (m:Int) (k:Nat) (h:k≤6):eD m k <+: eD m 6:=by
 have:∀ d:Nat,eD m k <+: eD m (k+d):=by
  intro d
  induction d with
  | zero=>exact List.prefix_refl _
  | succ d ih=>
    refine ih.trans ?_
    rw [← Nat.add_assoc,eD]
    exact List.prefix_append _ _
 have:=this (6-k)
 rwa [show k+(6-k)=6 by omega] at this
set_option maxRecDepth 100000 in
set_option maxHeartbeats 1000000 in
theorem GA (F:Fence) (n:Nat) (hF:F.fn 322) (hro:F.round=none) (hn:1≤n) (l Bn:Nat) (m:Int) (J Jx:List (Fin 6)→World→Prop)
  (hY:∀ pre x W,J pre W→pre.length<6→YieldAt F (n-1) Tryz.prog l #[.int .i64 (x.val:Nat)] W fun e W'=>
   (e=.returned (.bool true)∧J (pre++[x]) W'∧W'.heap[Bn]? = W.heap[Bn]?)∨(e=.returned (.bool false)∧Jx (pre++[x]) W'))
  (W:World) (hBn:W.cell? ⟨Bn,8,none⟩=some (.int .i64 m)) (h0:J [] W) :
  CallsIn F n Tryz.prog 322 #[.func (.yield l) #[] #[],.pointer (some ⟨Bn,0,none⟩)] W fun e W'=>(∃ v,e=.returned v)∧
   ((∃ ys,ys=eD m 6∧J ys W')∨(∃ pre,pre <+: eD m 6∧Jx pre W')):=by
 refine callsIn_of_wp Tryz.func322 rfl hF ?_ hro
 simp only [Tryz.ntmps322,List.size_toArray,List.length_cons,List.length_nil,Nat.reduceAdd,Nat.reduceSub,Array.replicate_succ,Array.replicate_zero,List.push_toArray,List.append_toArray,List.nil_append,List.cons_append]
 gi_wp2
 gi_loopw [4] (fun p wr=>∃ (k:Nat),p=.int .i64 k∧k≤6∧wr.cell? ⟨Bn,8,none⟩=some (.int .i64 m)∧J (eD m k) wr)
  (fun p wr=>6-(intOf p).toNat)
 case atStart=>
  exact ⟨0,rfl,by omega,hBn,h0⟩
 case round=>
  obtain ⟨k,rfl,hk,hc,hJs⟩:=hrel
  rcases Nat.lt_or_ge k 6 with hk6 | hk6
  ·have hlen:=xh m k
   have hand:bits BinOp.and IntKind.i64 (m / 2 ^ k) 1=m / 2 ^ k % 2:=Dv.AB _
   cases hb:Dv.hasB m k with
   | false=>
     have hmod:¬ (m / 2 ^ k % 2=1):=of_decide_eq_false hb
     gi_wp2
     refine ⟨fun _ h=>(by cases h),?_⟩
     gi_wp2
     exact ⟨⟨k+1,by simp,by omega,hc,by rw [HR m k hb]; exact hJs⟩,by simp [intOf]; omega⟩
   | true=>
     have hmod:m / 2 ^ k % 2=1:=of_decide_eq_true hb
     obtain ⟨fn,tmps,assign,body,hy,hR⟩:=hY (eD m k) ⟨k,hk6⟩ wr hJs (by omega)
     have hyes:=Eu m k hk6 hb
     gi_wp2
     refine hR.mono ?_
     rintro e W3 (⟨rfl,hJ3,hk3⟩ | ⟨rfl,hJx3⟩)
     ·have hc3:W3.cell? ⟨Bn,8,none⟩=some (.int .i64 m):=(World.cell?_of_block (a:=⟨Bn,8,none⟩) hk3).trans hc
      gi_wp2
      exact ⟨⟨k+1,by simp,by omega,hc3,by rw [hyes]; exact hJ3⟩,by simp [intOf]; omega⟩
     ·gi_wp2
      refine bodyPost_ret (results_none rfl _ _ _) rfl ?_
      exact ⟨⟨_,rfl⟩,.inr ⟨_,by rw [← hyes]; exact Ew m (k+1) (by omega),hJx3⟩⟩
  ·obtain rfl:k=6:=by omega
   gi_wp2
   go_end0
   exact ⟨⟨_,rfl⟩,.inl ⟨_,rfl,hJs⟩⟩
end Go.Proofs
