/- Plain: the plan. -/
import Derived.Test.YtkalnfkokkjliaaGreatDoorQA
import Derived.Test.YtkalnfkokkjliaaGreatDoorPA
set_option linter.unusedVariables false
set_option linter.unusedSimpArgs false
namespace Dv
open Go
def BH (s:aa) (now:Int) (i:Nat):Bool:=decide ((s.jobs.getD i ax).phase=3)&&decide ((s.jobs.getD i ax).til≤now)
def Fg (s:aa) (now:Int):List Nat:=(List.range s.jobs.length).filter (BH s now)
def Aq (s:aa) (now:Int):Option cH:=match Fg s now with
 | []=>none
 | k::_=>some ⟨14,((k+1:Nat):Int),0,0,0,0,0⟩
def yS (s:aa) (now:Int):Option cH:=if (oh s now).2.2=true then some ⟨9,(oh s now).1,(oh s now).2.1,0,0,0,0⟩ else none
def tQ (c:aH) (s:aa) (now:Int):Option cH:=match Aq s now with
 | some o=>some o
 | none=>match Br c s now with
   | some o=>some o
   | none=>yS s now
def jT (s:aa) (now:Int) (k:Nat):List Nat:=(List.range k).filter (BH s now)
theorem BG (s:aa) (now:Int) (k:Nat):jT s now (k+1)=jT s now k++(if BH s now k=true then [k] else []):=by
 unfold jT
 rw [List.range_succ,List.filter_append]
 simp only [List.filter_cons,List.filter_nil]
theorem DD (s:aa) (now:Int) (k:Nat):(jT s now k).length≤k:=by
 have:=List.length_filter_le (BH s now) (List.range k)
 simpa [jT] using this
end Dv
