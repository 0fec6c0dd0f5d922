/- part -/
import Derived.Test.YtkalnfkokkjliaaGreatDoorV24
import Derived.Test.YtkalnfkokkjliaaGreatDoorVD
import Derived.WalkKit
import Derived.TacticsInMore
import Derived.OwnWalkIn
import Derived.RangeFuncCalls
import Derived.LoopIn
import Derived.LoopNIn
import Derived.Shelf.Abstract
import Derived.Shelf.RegionOpen
import Derived.Test.YtkalnfkokkjliaaGreatDoorProg
set_option linter.all false
set_option maxRecDepth 100000
namespace Dv
open Go Go.Proofs Go.RowKit Go.Shelf
variable {G:Nat→Option (List DV)}
theorem zW (n:Nat) (hn:n≤100000):bh Tryz.prog G 274 [.d (.val (.slice none 0 0)),.int n] [] (.sl 0 0 1 0 0) [.dat 5 1 []]:=by
 refine ⟨by decide,fun J ι w vs S hR=>?_⟩
 obtain ⟨vl⟩:=vs
 match vl,hR with
 | [v0,v1],⟨h0,h1,_⟩=>
 have h0:v0=.slice none 0 0:=h0
 have h1:v1=.int .i64 n:=h1
 subst h0 h1
 refine (callsIn_wide (n:=8)).1 ?_
 refine callsIn_of_wp Tryz.func274 rfl trivial ?_ rfl
 simp only [Tryz.ntmps274,List.size_toArray,List.length_cons,List.length_nil,Nat.reduceAdd,Nat.reduceSub,Array.replicate_succ,Array.replicate_zero,List.push_toArray,List.append_toArray,List.nil_append,List.cons_append]
 have hw:IntKind.i64.wrap (n:Int)=n:=aL (by omega) (by omega)
 have hb:Tryz.t5.bytes=1:=rfl
 have lH:∀ (w':World) ,w'=w→aN G (au []) (au [some (.dat 5 1 [])]) J ι w (.sl 0 0 1 0 0) (.slice none 0 0) w':=by
  rintro w' rfl
  obtain ⟨S',E⟩:=aF.IQ S (base:=0) (cv (by simp)) 5 1
  have e:(fun o=>if o=0 then b_.live (.dat 5 1 []) else au (([]:List aC).map some) o)=au [some (.dat 5 1 [])]:=(gI [] _).symm
  rw [e] at S' E
  exact ⟨J,ι,S',.inl ⟨rfl,none,rfl⟩,E⟩
 by_cases hz:n=0
 ·subst hz
  gi_wp2
  refine bodyPost_ret (results_tmp rfl _ _ _) rfl ?_
  exact ⟨_,rfl,lH _ rfl⟩
 ·have hnx:Builtin.nextslicecap n 0=n:=by
   unfold Builtin.nextslicecap
   rw [if_pos (by omega)]
  gi_wp2
  all_goals first
   | (exfalso; simp only [hb,hnx] at *; omega)
   | skip
  refine bodyPost_ret (results_tmp rfl _ _ _) rfl ?_
  refine ⟨_,rfl,?_⟩
  have hA:=aN.dat (G:=G) (J:=J) (w:=w) (ι:=ι) S (base:=0) (cv (by simp)) 5 1 [] (Builtin.zeroCells #[Value.int IntKind.u8 0] n++Builtin.zeroCells #[Value.int IntKind.u8 0] ((Question.appendCap n 0 5).cut (w.tape w.drawn (Question.appendCap n 0 5))-n)) (w.drawn+1) ((Question.appendCap n 0 5).cut (w.tape w.drawn (Question.appendCap n 0 5))) (Nat.zero_le _) (by
   have:=grownCap_ge w n 0 5
   unfold grownCap at this
   simp only [Array.size_append,size_zeroCells]
   simp
   omega) (fun _ _=>trivial)
  have e:(fun o=>if o=0 then b_.live (.dat 5 1 []) else au (([]:List aC).map some) o)=au [some (.dat 5 1 [])]:=(gI [] _).symm
  rw [e] at hA
  exact hA
end Dv
