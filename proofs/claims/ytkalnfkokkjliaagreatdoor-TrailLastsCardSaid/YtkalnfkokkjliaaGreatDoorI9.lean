/- part -/
import Derived.Test.YtkalnfkokkjliaaGreatDoorI8
import Derived.Test.YtkalnfkokkjliaaGreatDoorPB
set_option linter.all false
set_option maxHeartbeats 2000000
set_option maxRecDepth 100000
namespace Dv
open Go Go.Proofs
variable {G:Nat→Option (List DV)}
def Wk:=qx Tryz.f252
theorem SI:aj Tryz.prog Tryz.f252=some Wk:=by kernel_rfl
def WS:=qx Tryz.f204
theorem Tg:aj Tryz.prog Tryz.f204=some WS:=by kernel_rfl
theorem DJ (b:Bool) (n:Int):bh Tryz.prog G 252 [.bool b,.int n] [] (.int (rN b n)) []:=by
 refine bn Tryz.func252 (by decide) SI rfl rfl ?_
 simp only [Wk,go_sem]
 cases b <;> simp only [rN,go_sem]
theorem US (a b c:Bool):BK .i64 (BK .i64 (rN a 1) (rN b 2)) (rN c 4)=rN a 1+rN b 2+rN c 4:=by
 cases a <;> cases b <;> cases c <;> decide
def yI (s:aa):aC:=.box 30 [bS s.nodes,de s.jobs,.int s.goal,.int s.prior,.int s.mode,.int s.term]
def Jh (s:aa) (i:Nat):St:=⟨[(1,.ptr 0 0),(3,.sl 1 (1+3*i) 1 0 (1+3*i)),(23,bS s.nodes),(24,.int s.nodes.length),(25,.int i)],[some (yI s),some (.dat 3 1 (gW (nB s i)))]⟩
def Jg (s:aa) (i:Nat):St:=⟨[(1,.ptr 0 0),(3,.sl 1 (2+3*s.nodes.length+12*i) 1 0 (2+3*s.nodes.length+12*i)),(55,de s.jobs),(56,.int s.jobs.length),(57,.int i)],[some (yI s),some (.dat 3 1 (gW (qj s i))),some (.dat 3 1 [[i64 s.jobs.length]])]⟩
attribute [local go_sem] gW ak yI
theorem Rt (s:aa) (hN:s.nodes.length≤1000000) (hJ:s.jobs.length≤1000000):bh Tryz.prog G 204 [aY s] [] (ak (jD s)) []:=by
 refine cA Tryz.func204 (by decide) Tg rfl ?_
 simp only [WS,go_sem]
 by_cases h6:s.nodes.length≤6
 case neg=>
  have hp:jD s=[]:=by unfold jD; rw [if_neg (by omega)]
  simp only [decide_eq_true (show ((s.nodes.length:Nat):Int)>6 by omega),hp,go_sem]
  exact xx rfl (by simp [aP,ah,ak,az,St.get,aW])
 by_cases h24:s.jobs.length≤24
 case neg=>
  have hp:jD s=[]:=by unfold jD; rw [if_neg (by omega)]
  simp only [decide_eq_false (show ¬ ((s.nodes.length:Nat):Int)>6 by omega),decide_eq_true (show ((s.jobs.length:Nat):Int)>24 by omega),hp,go_sem]
  exact xx rfl (by simp [aP,ah,ak,az,St.get,aW])
 have hp:jD s=jt (fK s):=by unfold jD; rw [if_pos ⟨h6,h24⟩]
 simp only [decide_eq_false (show ¬ ((s.nodes.length:Nat):Int)>6 by omega),decide_eq_false (show ¬ ((s.jobs.length:Nat):Int)>24 by omega),hp,go_sem]
 refine aR [1,3,23,24,25] [] (fun i:Nat=>i≤s.nodes.length) (fun i=>s.nodes.length-i) (Jh s) 0 ?_ (Nat.zero_le _) ?_
 ·simp only [Jh,nB,List.flatMap_nil,Int.natCast_zero,Nat.mul_zero,go_sem]
 ·intro i hi
  have hnl:(gW (nB s i)).length=1+3*i:=by simp only [gW,List.length_map,kQ s hi]
  simp only [Jh,go_sem]
  cases hlt:decide ((i:Int)<(s.nodes.length:Int)) with
  | true=>
    have hi2:i<s.nodes.length:=by have:=of_decide_eq_true hlt; omega
    have hg:=aK (f:=bX) ai hi2
    have B6:=G6 s hi2
    generalize s.nodes.getD i ai=n at *
    obtain ⟨nu,nc,nm,nv,nj⟩:=n
    simp only [bX] at hg
    simp only [hg,go_sem]
    refine aU (DJ nu 1) rfl rfl rfl rfl ?_; simp only [go_sem]
    refine aU (DJ nc 2) rfl rfl rfl rfl ?_; simp only [go_sem]
    refine aU (DJ nm 4) rfl rfl rfl rfl ?_; simp only [go_sem]
    simp only [US,go_sem]
    have uG:∀ r:List (List DV),r.length≤20→(List.map (fun n:Int=>[DV.val (Value.int IntKind.i64 n)]) (nB s i)++r).length*8≤70368744177664:=fun r hr=>by rw [List.length_append,List.length_map,kQ s hi]; omega
    rw [if_pos ⟨(kQ s hi).symm,uG _ (by simp)⟩]
    simp only [kQ s hi,go_sem]
    refine an (by decide) ?_
    simp only [go_sem]
    refine bg (i+1) ?_ ?_ (by omega) (by omega)
    ·simp only [go_sem]
    ·simp only [Jh,B6,iE,r_,List.map_append,aG (show i<9223372036854775807 by omega),show 1+3*(i+1)=1+3*i+3 by omega,go_sem]
  | false=>
  have hi2:i=s.nodes.length:=by have:=of_decide_eq_false hlt; omega
  subst hi2
  simp only [go_sem]
  have hN2:=kQ s (Nat.le_refl s.nodes.length)
  have uG:∀ r:List (List DV),r.length≤20→(List.map (fun n:Int=>[DV.val (Value.int IntKind.i64 n)]) (nB s s.nodes.length)++r).length*8≤70368744177664:=fun r hr=>by rw [List.length_append,List.length_map,hN2]; omega
  rw [if_pos ⟨hN2.symm,uG _ (by simp)⟩]
  simp only [hN2,go_sem]
  refine aR [1,3,55,56,57] [] (fun k:Nat=>k≤s.jobs.length) (fun k=>s.jobs.length-k) (Jg s) 0 ?_ (Nat.zero_le _) ?_
  ·simp only [Jg,qj,List.flatMap_nil,List.map_append,Int.natCast_zero,Nat.mul_zero,show 1+3*s.nodes.length+1=2+3*s.nodes.length by omega,go_sem]
  intro k hk
  have Fw:=vJ s hk
  have uG:∀ r:List (List DV),r.length≤20→(List.map (fun n:Int=>[DV.val (Value.int IntKind.i64 n)]) (qj s k)++r).length*8≤70368744177664:=fun r hr=>by rw [List.length_append,List.length_map,Fw]; omega
  simp only [Jg,go_sem]
  cases hlt:decide ((k:Int)<(s.jobs.length:Int)) with
  | true=>
    have hk2:k<s.jobs.length:=by have:=of_decide_eq_true hlt; omega
    have hg:=aK (f:=dF) aD hk2
    have B6:=G7 s hk2
    generalize s.jobs.getD k aD=j at *
    simp only [dF] at hg
    simp only [hg,go_sem]
    rw [if_pos ⟨Fw.symm,uG _ (by simp)⟩]
    simp only [Fw,go_sem]
    refine bg (k+1) ?_ ?_ (by omega) (by omega)
    ·simp only [go_sem]
    ·simp only [Jg,B6,kz,List.map_append,aG (show k<9223372036854775807 by omega),show 2+3*s.nodes.length+12*(k+1)=2+3*s.nodes.length+12*k+12 by omega,go_sem]
  | false=>
  have hk2:k=s.jobs.length:=by have:=of_decide_eq_false hlt; omega
  subst hk2
  simp only [go_sem]
  rw [if_pos ⟨Fw.symm,uG _ (by simp)⟩]
  simp only [Fw,go_sem]
  have hnl:(fK s).length=2+3*s.nodes.length+12*s.jobs.length+4:=by unfold fK; rw [List.length_append,Fw]; rfl
  refine rD [1] (j9 (fK s) (by omega)) rfl (by simp [ag,ah,bB,au,hnl,fK,List.map_append,List.take_of_length_le,Fw,go_sem]) (by simp [au]) rfl ?_; simp only [go_sem]
  exact xx rfl (by simp [aP,ah,ak,az,St.get,aW])
end Dv
