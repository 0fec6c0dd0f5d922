/- part -/
import Derived.Test.YtkalnfkokkjliaaGreatDoorI8
import Derived.Test.YtkalnfkokkjliaaGreatDoorPB
set_option linter.all false
set_option maxHeartbeats 2000000
set_option maxRecDepth 100000
namespace Dv
open Go Go.Proofs
variable {G:Nat→Option (List DV)}
def Xr:=qx Tryz.f252
theorem TD:aj Tryz.prog Tryz.f252=some Xr:=by kernel_rfl
def XT:=qx Tryz.f204
theorem T_:aj Tryz.prog Tryz.f204=some XT:=by kernel_rfl
theorem EI (b:Bool) (n:Int):bu Tryz.prog G 252 [.bool b,.int n] [] (.int (sD b n)) []:=by
 refine bz Tryz.func252 (by decide) TD rfl rfl ?_
 simp only [Xr,go_sem]
 cases b <;> simp only [sD,go_sem]
theorem VM (a b c:Bool):Cs .i64 (Cs .i64 (sD a 1) (sD b 2)) (sD c 4)=sD a 1+sD b 2+sD c 4:=by
 cases a <;> cases b <;> cases c <;> decide
def j_ (s:aa):aG:=.box 30 [bS s.nodes,cZ s.jobs,.int s.goal,.int s.prior,.int s.mode,.int s.term]
def Kc (s:aa) (i:Nat):St:=⟨[(1,.ptr 0 0),(3,.sl 1 (1+3*i) 1 0 (1+3*i)),(23,bS s.nodes),(24,.int s.nodes.length),(25,.int i)],[some (j_ s),some (.dat 3 1 (iE (nZ s i)))]⟩
def Kb (s:aa) (i:Nat):St:=⟨[(1,.ptr 0 0),(3,.sl 1 (2+3*s.nodes.length+12*i) 1 0 (2+3*s.nodes.length+12*i)),(55,cZ s.jobs),(56,.int s.jobs.length),(57,.int i)],[some (j_ s),some (.dat 3 1 (iE (qS s i))),some (.dat 3 1 [[i64 s.jobs.length]])]⟩
attribute [local go_sem] iE aq j_
theorem Sl (s:aa) (hN:s.nodes.length≤1000000) (hJ:s.jobs.length≤1000000):bu Tryz.prog G 204 [aX s] [] (aq (jN s)) []:=by
 refine cI Tryz.func204 (by decide) T_ rfl ?_
 simp only [XT,go_sem]
 by_cases h6:s.nodes.length≤6
 case neg=>
  have hp:jN s=[]:=by unfold jN; rw [if_neg (by omega)]
  simp only [decide_eq_true (show ((s.nodes.length:Nat):Int)>6 by omega),hp,go_sem]
  exact yg rfl (by simp [aV,ah,aq,aB,St.get,aY])
 by_cases h24:s.jobs.length≤24
 case neg=>
  have hp:jN s=[]:=by unfold jN; rw [if_neg (by omega)]
  simp only [decide_eq_false (show ¬ ((s.nodes.length:Nat):Int)>6 by omega),decide_eq_true (show ((s.jobs.length:Nat):Int)>24 by omega),hp,go_sem]
  exact yg rfl (by simp [aV,ah,aq,aB,St.get,aY])
 have hp:jN s=jJ (fZ s):=by unfold jN; rw [if_pos ⟨h6,h24⟩]
 simp only [decide_eq_false (show ¬ ((s.nodes.length:Nat):Int)>6 by omega),decide_eq_false (show ¬ ((s.jobs.length:Nat):Int)>24 by omega),hp,go_sem]
 refine aW [1,3,23,24,25] [] (fun i:Nat=>i≤s.nodes.length) (fun i=>s.nodes.length-i) (Kc s) 0 ?_ (Nat.zero_le _) ?_
 ·simp only [Kc,nZ,List.flatMap_nil,Int.natCast_zero,Nat.mul_zero,go_sem]
 ·intro i hi
  have hnl:(iE (nZ s i)).length=1+3*i:=by simp only [iE,List.length_map,lE s hi]
  simp only [Kc,go_sem]
  cases hlt:decide ((i:Int)<(s.nodes.length:Int)) with
  | true=>
    have hi2:i<s.nodes.length:=by have:=of_decide_eq_true hlt; omega
    have hg:=aM (f:=bZ) ai hi2
    have CO:=Ic s hi2
    generalize s.nodes.getD i ai=n at *
    obtain ⟨nu,nc,nm,nv,nj⟩:=n
    simp only [bZ] at hg
    simp only [hg,go_sem]
    refine bf (EI nu 1) rfl rfl rfl rfl ?_; simp only [go_sem]
    refine bf (EI nc 2) rfl rfl rfl rfl ?_; simp only [go_sem]
    refine bf (EI nm 4) rfl rfl rfl rfl ?_; simp only [go_sem]
    simp only [VM,go_sem]
    have vg:∀ r:List (List DV),r.length≤20→(List.map (fun n:Int=>[DV.val (Value.int IntKind.i64 n)]) (nZ s i)++r).length*8≤70368744177664:=fun r hr=>by rw [List.length_append,List.length_map,lE s hi]; omega
    rw [if_pos ⟨(lE s hi).symm,vg _ (by simp)⟩]
    simp only [lE s hi,go_sem]
    refine ay (by decide) ?_
    simp only [go_sem]
    refine bh (i+1) ?_ ?_ (by omega) (by omega)
    ·simp only [go_sem]
    ·simp only [Kc,CO,iS,sV,List.map_append,aH (show i<9223372036854775807 by omega),show 1+3*(i+1)=1+3*i+3 by omega,go_sem]
  | false=>
  have hi2:i=s.nodes.length:=by have:=of_decide_eq_false hlt; omega
  subst hi2
  simp only [go_sem]
  have hN2:=lE s (Nat.le_refl s.nodes.length)
  have vg:∀ r:List (List DV),r.length≤20→(List.map (fun n:Int=>[DV.val (Value.int IntKind.i64 n)]) (nZ s s.nodes.length)++r).length*8≤70368744177664:=fun r hr=>by rw [List.length_append,List.length_map,hN2]; omega
  rw [if_pos ⟨hN2.symm,vg _ (by simp)⟩]
  simp only [hN2,go_sem]
  refine aW [1,3,55,56,57] [] (fun k:Nat=>k≤s.jobs.length) (fun k=>s.jobs.length-k) (Kb s) 0 ?_ (Nat.zero_le _) ?_
  ·simp only [Kb,qS,List.flatMap_nil,List.map_append,Int.natCast_zero,Nat.mul_zero,show 1+3*s.nodes.length+1=2+3*s.nodes.length by omega,go_sem]
  intro k hk
  have I8:=wv s hk
  have vg:∀ r:List (List DV),r.length≤20→(List.map (fun n:Int=>[DV.val (Value.int IntKind.i64 n)]) (qS s k)++r).length*8≤70368744177664:=fun r hr=>by rw [List.length_append,List.length_map,I8]; omega
  simp only [Kb,go_sem]
  cases hlt:decide ((k:Int)<(s.jobs.length:Int)) with
  | true=>
    have hk2:k<s.jobs.length:=by have:=of_decide_eq_true hlt; omega
    have hg:=aM (f:=dJ) az hk2
    have CO:=Ie s hk2
    generalize s.jobs.getD k az=j at *
    simp only [dJ] at hg
    simp only [hg,go_sem]
    rw [if_pos ⟨I8.symm,vg _ (by simp)⟩]
    simp only [I8,go_sem]
    refine bh (k+1) ?_ ?_ (by omega) (by omega)
    ·simp only [go_sem]
    ·simp only [Kb,CO,kO,List.map_append,aH (show k<9223372036854775807 by omega),show 2+3*s.nodes.length+12*(k+1)=2+3*s.nodes.length+12*k+12 by omega,go_sem]
  | false=>
  have hk2:k=s.jobs.length:=by have:=of_decide_eq_false hlt; omega
  subst hk2
  simp only [go_sem]
  rw [if_pos ⟨I8.symm,vg _ (by simp)⟩]
  simp only [I8,go_sem]
  have hnl:(fZ s).length=2+3*s.nodes.length+12*s.jobs.length+4:=by unfold fZ; rw [List.length_append,I8]; rfl
  refine sr [1] (ku (fZ s) (by omega)) rfl (by simp [ag,ah,bK,aC,hnl,fZ,List.map_append,List.take_of_length_le,I8,go_sem]) (by simp [aC]) rfl ?_; simp only [go_sem]
  exact yg rfl (by simp [aV,ah,aq,aB,St.get,aY])
end Dv
