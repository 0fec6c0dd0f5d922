/- part -/
import Derived.Test.YtkalnfkokkjliaaGreatDoorI8
import Derived.Test.YtkalnfkokkjliaaGreatDoorPB
set_option linter.all false
set_option maxHeartbeats 2000000
set_option maxRecDepth 100000
namespace Dv
open Go Go.Proofs
variable {G:Nat→Option (List DV)}
def W4:=qx Tryz.f252
theorem Tp:aj Tryz.prog Tryz.f252=some W4:=by kernel_rfl
def Xv:=qx Tryz.f204
theorem TQ:aj Tryz.prog Tryz.f204=some Xv:=by kernel_rfl
theorem Es (b:Bool) (n:Int):bw Tryz.prog G 252 [.bool b,.int n] [] (.int (sr b n)) []:=by
 refine br Tryz.func252 (by decide) Tp rfl rfl ?_
 simp only [W4,go_sem]
 cases b <;> simp only [sr,go_sem]
theorem Vt (a b c:Bool):B9 .i64 (B9 .i64 (sr a 1) (sr b 2)) (sr c 4)=sr a 1+sr b 2+sr c 4:=by
 cases a <;> cases b <;> cases c <;> decide
def j5 (s:aa):aH:=.box 30 [bO s.nodes,cO s.jobs,.int s.goal,.int s.prior,.int s.mode,.int s.term]
def JR (s:aa) (i:Nat):St:=⟨[(1,.ptr 0 0),(3,.sl 1 (1+3*i) 1 0 (1+3*i)),(23,bO s.nodes),(24,.int s.nodes.length),(25,.int i)],[some (j5 s),some (.dat 3 1 (iu (nS s i)))]⟩
def JQ (s:aa) (i:Nat):St:=⟨[(1,.ptr 0 0),(3,.sl 1 (2+3*s.nodes.length+12*i) 1 0 (2+3*s.nodes.length+12*i)),(55,cO s.jobs),(56,.int s.jobs.length),(57,.int i)],[some (j5 s),some (.dat 3 1 (iu (qK s i))),some (.dat 3 1 [[i64 s.jobs.length]])]⟩
attribute [local go_sem] iu aq j5
theorem R7 (s:aa) (hN:s.nodes.length≤1000000) (hJ:s.jobs.length≤1000000):bw Tryz.prog G 204 [aY s] [] (aq (jJ s)) []:=by
 refine cD Tryz.func204 (by decide) TQ rfl ?_
 simp only [Xv,go_sem]
 by_cases h6:s.nodes.length≤6
 case neg=>
  have hp:jJ s=[]:=by unfold jJ; rw [if_neg (by omega)]
  simp only [decide_eq_true (show ((s.nodes.length:Nat):Int)>6 by omega),hp,go_sem]
  exact xM rfl (by simp [aU,ah,aq,aB,St.get,aZ])
 by_cases h24:s.jobs.length≤24
 case neg=>
  have hp:jJ s=[]:=by unfold jJ; rw [if_neg (by omega)]
  simp only [decide_eq_false (show ¬ ((s.nodes.length:Nat):Int)>6 by omega),decide_eq_true (show ((s.jobs.length:Nat):Int)>24 by omega),hp,go_sem]
  exact xM rfl (by simp [aU,ah,aq,aB,St.get,aZ])
 have hp:jJ s=jF (fU s):=by unfold jJ; rw [if_pos ⟨h6,h24⟩]
 simp only [decide_eq_false (show ¬ ((s.nodes.length:Nat):Int)>6 by omega),decide_eq_false (show ¬ ((s.jobs.length:Nat):Int)>24 by omega),hp,go_sem]
 refine aW [1,3,23,24,25] [] (fun i:Nat=>i≤s.nodes.length) (fun i=>s.nodes.length-i) (JR s) 0 ?_ (Nat.zero_le _) ?_
 ·simp only [JR,nS,List.flatMap_nil,Int.natCast_zero,Nat.mul_zero,go_sem]
 ·intro i hi
  have hnl:(iu (nS s i)).length=1+3*i:=by simp only [iu,List.length_map,lB s hi]
  simp only [JR,go_sem]
  cases hlt:decide ((i:Int)<(s.nodes.length:Int)) with
  | true=>
    have hi2:i<s.nodes.length:=by have:=of_decide_eq_true hlt; omega
    have hg:=aJ (f:=bY) ai hi2
    have Cw:=HP s hi2
    generalize s.nodes.getD i ai=n at *
    obtain ⟨nu,nc,nm,nv,nj⟩:=n
    simp only [bY] at hg
    simp only [hg,go_sem]
    refine bq (Es nu 1) rfl rfl rfl rfl ?_; simp only [go_sem]
    refine bq (Es nc 2) rfl rfl rfl rfl ?_; simp only [go_sem]
    refine bq (Es nm 4) rfl rfl rfl rfl ?_; simp only [go_sem]
    simp only [Vt,go_sem]
    have uQ:∀ r:List (List DV),r.length≤20→(List.map (fun n:Int=>[DV.val (Value.int IntKind.i64 n)]) (nS s i)++r).length*8≤70368744177664:=fun r hr=>by rw [List.length_append,List.length_map,lB s hi]; omega
    rw [if_pos ⟨(lB s hi).symm,uQ _ (by simp)⟩]
    simp only [lB s hi,go_sem]
    refine au (by decide) ?_
    simp only [go_sem]
    refine a_ (i+1) ?_ ?_ (by omega) (by omega)
    ·simp only [go_sem]
    ·simp only [JR,Cw,iM,sH,List.map_append,aG (show i<9223372036854775807 by omega),show 1+3*(i+1)=1+3*i+3 by omega,go_sem]
  | false=>
  have hi2:i=s.nodes.length:=by have:=of_decide_eq_false hlt; omega
  subst hi2
  simp only [go_sem]
  have hN2:=lB s (Nat.le_refl s.nodes.length)
  have uQ:∀ r:List (List DV),r.length≤20→(List.map (fun n:Int=>[DV.val (Value.int IntKind.i64 n)]) (nS s s.nodes.length)++r).length*8≤70368744177664:=fun r hr=>by rw [List.length_append,List.length_map,hN2]; omega
  rw [if_pos ⟨hN2.symm,uQ _ (by simp)⟩]
  simp only [hN2,go_sem]
  refine aW [1,3,55,56,57] [] (fun k:Nat=>k≤s.jobs.length) (fun k=>s.jobs.length-k) (JQ s) 0 ?_ (Nat.zero_le _) ?_
  ·simp only [JQ,qK,List.flatMap_nil,List.map_append,Int.natCast_zero,Nat.mul_zero,show 1+3*s.nodes.length+1=2+3*s.nodes.length by omega,go_sem]
  intro k hk
  have IC:=vS s hk
  have uQ:∀ r:List (List DV),r.length≤20→(List.map (fun n:Int=>[DV.val (Value.int IntKind.i64 n)]) (qK s k)++r).length*8≤70368744177664:=fun r hr=>by rw [List.length_append,List.length_map,IC]; omega
  simp only [JQ,go_sem]
  cases hlt:decide ((k:Int)<(s.jobs.length:Int)) with
  | true=>
    have hk2:k<s.jobs.length:=by have:=of_decide_eq_true hlt; omega
    have hg:=aJ (f:=dD) az hk2
    have Cw:=HQ s hk2
    generalize s.jobs.getD k az=j at *
    simp only [dD] at hg
    simp only [hg,go_sem]
    rw [if_pos ⟨IC.symm,uQ _ (by simp)⟩]
    simp only [IC,go_sem]
    refine a_ (k+1) ?_ ?_ (by omega) (by omega)
    ·simp only [go_sem]
    ·simp only [JQ,Cw,kI,List.map_append,aG (show k<9223372036854775807 by omega),show 2+3*s.nodes.length+12*(k+1)=2+3*s.nodes.length+12*k+12 by omega,go_sem]
  | false=>
  have hk2:k=s.jobs.length:=by have:=of_decide_eq_false hlt; omega
  subst hk2
  simp only [go_sem]
  rw [if_pos ⟨IC.symm,uQ _ (by simp)⟩]
  simp only [IC,go_sem]
  have hnl:(fU s).length=2+3*s.nodes.length+12*s.jobs.length+4:=by unfold fU; rw [List.length_append,IC]; rfl
  refine rV [1] (ki (fU s) (by omega)) rfl (by simp [ag,ah,bG,aD,hnl,fU,List.map_append,List.take_of_length_le,IC,go_sem]) (by simp [aD]) rfl ?_; simp only [go_sem]
  exact xM rfl (by simp [aU,ah,aq,aB,St.get,aZ])
end Dv
