/- The logical machine and its plain laws: parts P10, P11, P12, proved sound. -/
import Derived.Test.YtkalnfkokkjliaaGreatDoorPA
set_option linter.unusedVariables false
set_option linter.unusedSimpArgs false
namespace Dv
end Dv
namespace Dv
def jR:Int:=9007199254740991
def oW:Nat→Int→List Int
 | 0,n=>[n]
 | f+1,n=>if 128≤n then (n % 128+128)::oW f (n / 128) else [n]
def isNum (n:Int):Bool:=decide (0≤n∧n≤jR)
def cc (n:Int):List Int:=if isNum n=true then oW 8 n else []
def lF (l:List Int):List Int:=if l.all isNum=true then cc l.length++l.flatMap cc else []
def mQ:List Int→Nat→Int→Option (Int×Nat)
 | [],_,_=>none
 | c::r,i,n=>if 8≤i then none
   else if 128≤c then mQ r (i+1) (n+c % 128*128 ^ i)
   else if (c=0∧0<i)∨jR<n+c % 128*128 ^ i then none
   else some (n+c % 128*128 ^ i,i+1)
def oV (b:List Int) (UP:Nat):Option (Int×Nat):=(mQ (b.drop UP) 0 0).map fun p=>(p.1,UP+p.2)
theorem vq:∀ (l:List Int) (i:Nat) (n:Int),mQ (l.take (8-i)) i n=mQ l i n
 | [],i,n=>by simp
 | c::r,i,n=>by
   by_cases h:8≤i
   ·rw [show 8-i=0 by omega,List.take_zero]
    unfold mQ
    rw [if_pos h]
   ·rw [show 8-i=(8-(i+1))+1 by omega,List.take_succ_cons]
    simp only [mQ,if_neg h,vq r (i+1)]
theorem yh:∀ (l:List Int) (i:Nat) (n x:Int) (k:Nat),(∀ c∈l,0≤c)→0≤n→mQ l i n=some (x,k)→0≤x∧x≤jR∧i<k∧k≤i+l.length
 | [],_,_,_,_,_,_,h=>by cases h
 | c::r,i,n,x,k,hc,hn,h=>by
   have h0:0≤c:=hc c (by simp)
   have hp:(0:Int)≤128 ^ i:=Int.le_of_lt (Int.pow_pos (by decide))
   have h1:0≤c % 128*128 ^ i:=Int.mul_nonneg (Int.emod_nonneg _ (by decide)) hp
   unfold mQ at h
   split at h
   ·cases h
   split at h
   ·have:=yh r (i+1) _ x k (fun d hd=>hc d (by simp [hd])) (by omega) h
    simp only [List.length_cons]
    omega
   split at h
   ·cases h
   ·rename_i hne
    cases h
    refine ⟨by omega,?_,by omega,by simp⟩
    simp only [not_or,Int.not_lt] at hne
    exact hne.2
theorem wB {b:List Int} {p p':Nat} {x:Int} (hb:∀ c∈b,0≤c) (h:oV b p=some (x,p')):0≤x∧x≤jR∧p<p'∧p'≤b.length:=by
 unfold oV at h
 rw [Option.map_eq_some_iff] at h
 obtain ⟨⟨y,k⟩,h1,h2⟩:=h
 cases h2
 have hr:=yh _ _ _ _ _ (fun c hc=>hb c (List.mem_of_mem_drop hc)) (Int.le_refl 0) h1
 rw [List.length_drop] at hr
 dsimp only
 omega
end Dv
namespace Dv
def xk (b:Bool) (n:Int):Int:=if b=true then n else 0
def Sl (n:bK):Int:=xk n.up 1+xk n.ct 2+xk n.bu 4
def vQ (n:bK):List Int:=[Sl n,n.version,n.aN]
def BI (j:bU):List Int:=[j.queue,j.prio,j.min,j.max,j.work,j.pin,j.phase,j.inc,j.nodes,j.since,j.til,j.epoch]
def nS (s:aa) (i:Nat):List Int:=(s.nodes.length:Int)::(s.nodes.take i).flatMap vQ
def rz (s:aa) (i:Nat):List Int:=nS s s.nodes.length++(s.jobs.length:Int)::(s.jobs.take i).flatMap BI
def rA (s:aa):List Int:=rz s s.jobs.length++[s.goal,s.prior,s.mode,s.term]
def mY (s:aa):List Int:=if s.nodes.length≤6∧s.jobs.length≤24 then lF (rA s) else []
theorem Du (l:List bK):(l.flatMap vQ).length=3*l.length:=by
 induction l with
 | nil=>rfl
 | cons n l ih=>rw [List.flatMap_cons,List.length_append,List.length_cons,ih]; simp [vQ]; omega
theorem GX (l:List bU):(l.flatMap BI).length=12*l.length:=by
 induction l with
 | nil=>rfl
 | cons n l ih=>rw [List.flatMap_cons,List.length_append,List.length_cons,ih]; simp [BI]; omega
theorem vf {α:Type} {l:List α} {i:Nat} (z:α) (h:i<l.length):l.take (i+1)=l.take i++[l.getD i z]:=by
 rw [List.take_add_one]; simp [List.getD,h]
theorem Dr (s:aa) {i:Nat} (h:i<s.nodes.length):nS s (i+1)=nS s i++vQ (s.nodes.getD i ag):=by
 unfold nS; rw [vf ag h,List.flatMap_append]; simp
theorem Ds (s:aa) {i:Nat} (h:i<s.jobs.length):rz s (i+1)=rz s i++BI (s.jobs.getD i ax):=by
 unfold rz; rw [vf ax h,List.flatMap_append]; simp
theorem jB (s:aa) {i:Nat} (h:i≤s.nodes.length):(nS s i).length=1+3*i:=by
 unfold nS; rw [List.length_cons,Du,List.length_take]; omega
theorem yC (s:aa) {i:Nat} (h:i≤s.jobs.length):(rz s i).length=2+3*s.nodes.length+12*i:=by
 unfold rz; rw [List.length_append,List.length_cons,GX,List.length_take,jB s (Nat.le_refl _)]; omega
end Dv
