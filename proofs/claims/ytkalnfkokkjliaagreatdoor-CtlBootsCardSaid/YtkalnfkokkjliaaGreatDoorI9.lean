/- image: a state as bytes. -/
import Derived.Test.YtkalnfkokkjliaaGreatDoorI8
import Derived.Test.YtkalnfkokkjliaaGreatDoorPB
set_option linter.unusedVariables false
set_option linter.unusedSimpArgs false
set_option maxRecDepth 100000
namespace Dv
open Go Go.Proofs
variable {G:Nat→Option (List DV)}
def TV:=qx Tryz.f252
theorem Qp:aq Tryz.prog Tryz.f252=some TV:=by kernel_rfl
def Uq:=qx Tryz.f204
theorem QY:aq Tryz.prog Tryz.f204=some Uq:=by kernel_rfl
theorem CZ (b:Bool) (n:Int):br Tryz.prog G 252 [.bool b,.int n] [] (.int (rI b n)) []:=by
 refine b_ Tryz.func252 (by decide) Qp rfl rfl ?_
 simp only [TV,go_sem,simprocAttr]
 cases b <;> simp only [rI,go_sem,simprocAttr]
theorem SZ (a b c:Bool):TE .i64 (TE .i64 (rI a 1) (rI b 2)) (rI c 4)=rI a 1+rI b 2+rI c 4:=by
 cases a <;> cases b <;> cases c <;> decide
def ez (s:ai):aG:=.box 30 [bK s.nodes,cA s.jobs,.int s.goal,.int s.bH,.int s.mode,.int s.term]
def HI (s:ai) (i:Nat):St:=⟨[(1,.ptr 0 0),(3,.sl 1 (1+3*i) 1 0 (1+3*i)),(23,bK s.nodes),(24,.int s.nodes.length),(25,.int i)],[some (ez s),some (.dat 3 1 (bT (jl s i)))]⟩
def HH (s:ai) (i:Nat):St:=⟨[(1,.ptr 0 0),(3,.sl 1 (2+3*s.nodes.length+12*i) 1 0 (2+3*s.nodes.length+12*i)),(55,cA s.jobs),(56,.int s.jobs.length),(57,.int i)],[some (ez s),some (.dat 3 1 (bT (lQ s i))),some (.dat 3 1 [[i64 s.jobs.length]])]⟩
attribute [local go_sem] bT af ez
set_option maxHeartbeats 2000000 in
theorem Pz (s:ai) (hN:s.nodes.length≤1000000) (hJ:s.jobs.length≤1000000):br Tryz.prog G 204 [bz s] [] (af (e7 s)) []:=by
 refine bD Tryz.func204 (by decide) QY rfl ?_
 simp only [Uq,go_sem,simprocAttr]
 by_cases h6:s.nodes.length≤6
 case neg=>
  have hp:e7 s=[]:=by unfold e7; rw [if_neg (by omega)]
  simp only [decide_eq_true (show ((s.nodes.length:Nat):Int)>6 by omega),hp,go_sem,simprocAttr]
  exact kM rfl (by simp [aF,ah,af,ak,St.get,aO])
 by_cases X7:s.jobs.length≤24
 case neg=>
  have hp:e7 s=[]:=by unfold e7; rw [if_neg (by omega)]
  simp only [decide_eq_false (show ¬ ((s.nodes.length:Nat):Int)>6 by omega),decide_eq_true (show ((s.jobs.length:Nat):Int)>24 by omega),hp,go_sem,simprocAttr]
  exact kM rfl (by simp [aF,ah,af,ak,St.get,aO])
 have hp:e7 s=fG (c_ s):=by unfold e7; rw [if_pos ⟨h6,X7⟩]
 simp only [decide_eq_false (show ¬ ((s.nodes.length:Nat):Int)>6 by omega),decide_eq_false (show ¬ ((s.jobs.length:Nat):Int)>24 by omega),hp,go_sem,simprocAttr]
 refine aP [1,3,23,24,25] [] (fun i:Nat=>i≤s.nodes.length) (fun i=>s.nodes.length-i) (HI s) 0 ?_ (Nat.zero_le _) ?_
 ·simp only [HI,jl,List.flatMap_nil,Int.natCast_zero,Nat.mul_zero,go_sem,simprocAttr]
 ·intro i hi
  have hnl:(bT (jl s i)).length=1+3*i:=by simp only [bT,List.length_map,gm s hi]
  simp only [HI,go_sem,simprocAttr]
  cases hlt:decide ((i:Int)<(s.nodes.length:Int)) with
  | true=>
    have hi2:i<s.nodes.length:=by have:=of_decide_eq_true hlt; omega
    have hg:=aB (f:=a_) an hi2
    have nC:=yA s hi2
    generalize s.nodes.getD i an=n at *
    obtain ⟨nu,nc,nm,nv,nj⟩:=n
    simp only [a_] at hg
    simp only [hg,go_sem,simprocAttr]
    refine bA (CZ nu 1) rfl rfl rfl rfl ?_; simp only [go_sem,simprocAttr]
    refine bA (CZ nc 2) rfl rfl rfl rfl ?_; simp only [go_sem,simprocAttr]
    refine bA (CZ nm 4) rfl rfl rfl rfl ?_; simp only [go_sem,simprocAttr]
    simp only [SZ,go_sem,simprocAttr]
    have iR:∀ r:List (List DV),r.length≤20→(List.map (fun n:Int=>[DV.val (Value.int IntKind.i64 n)]) (jl s i)++r).length*8≤70368744177664:=fun r hr=>by rw [List.length_append,List.length_map,gm s hi]; omega
    rw [if_pos ⟨(gm s hi).symm,iR _ (by simp)⟩]
    simp only [gm s hi,go_sem,simprocAttr]
    refine az (by decide) ?_
    simp only [go_sem,simprocAttr]
    refine aR (i+1) ?_ ?_ (by omega) (by omega)
    ·simp only [go_sem,simprocAttr]
    ·simp only [HI,nC,iP,uk,List.map_append,ax (show i<9223372036854775807 by omega),show 1+3*(i+1)=1+3*i+3 by omega,go_sem,simprocAttr]
  | false=>
  have hi2:i=s.nodes.length:=by have:=of_decide_eq_false hlt; omega
  subst hi2
  simp only [go_sem,simprocAttr]
  have X2:=gm s (Nat.le_refl s.nodes.length)
  have iR:∀ r:List (List DV),r.length≤20→(List.map (fun n:Int=>[DV.val (Value.int IntKind.i64 n)]) (jl s s.nodes.length)++r).length*8≤70368744177664:=fun r hr=>by rw [List.length_append,List.length_map,X2]; omega
  rw [if_pos ⟨X2.symm,iR _ (by simp)⟩]
  simp only [X2,go_sem,simprocAttr]
  refine aP [1,3,55,56,57] [] (fun k:Nat=>k≤s.jobs.length) (fun k=>s.jobs.length-k) (HH s) 0 ?_ (Nat.zero_le _) ?_
  ·simp only [HH,lQ,List.flatMap_nil,List.map_append,Int.natCast_zero,Nat.mul_zero,show 1+3*s.nodes.length+1=2+3*s.nodes.length by omega,go_sem,simprocAttr]
  intro k hk
  have y5:=lq s hk
  have iR:∀ r:List (List DV),r.length≤20→(List.map (fun n:Int=>[DV.val (Value.int IntKind.i64 n)]) (lQ s k)++r).length*8≤70368744177664:=fun r hr=>by rw [List.length_append,List.length_map,y5]; omega
  simp only [HH,go_sem,simprocAttr]
  cases hlt:decide ((k:Int)<(s.jobs.length:Int)) with
  | true=>
    have hk2:k<s.jobs.length:=by have:=of_decide_eq_true hlt; omega
    have hg:=aB (f:=cQ) aK hk2
    have nC:=yB s hk2
    generalize s.jobs.getD k aK=j at *
    simp only [cQ] at hg
    simp only [hg,go_sem,simprocAttr]
    rw [if_pos ⟨y5.symm,iR _ (by simp)⟩]
    simp only [y5,go_sem,simprocAttr]
    refine aR (k+1) ?_ ?_ (by omega) (by omega)
    ·simp only [go_sem,simprocAttr]
    ·simp only [HH,nC,iV,List.map_append,ax (show k<9223372036854775807 by omega),show 2+3*s.nodes.length+12*(k+1)=2+3*s.nodes.length+12*k+12 by omega,go_sem,simprocAttr]
  | false=>
  have hk2:k=s.jobs.length:=by have:=of_decide_eq_false hlt; omega
  subst hk2
  simp only [go_sem,simprocAttr]
  rw [if_pos ⟨y5.symm,iR _ (by simp)⟩]
  simp only [y5,go_sem,simprocAttr]
  have hnl:(c_ s).length=2+3*s.nodes.length+12*s.jobs.length+4:=by unfold c_; rw [List.length_append,y5]; rfl
  refine jy [1] (kf (c_ s) (by omega)) rfl (by simp [aa,ah,aM,ay,hnl,c_,List.map_append,List.take_of_length_le,y5,go_sem,simprocAttr]) (by simp [ay]) rfl ?_; simp only [go_sem,simprocAttr]
  exact kM rfl (by simp [aF,ah,af,ak,St.get,aO])
end Dv
