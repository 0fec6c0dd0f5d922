/- part -/
import Derived.Test.YtkalnfkokkjliaaGreatDoorQA
import Derived.Test.YtkalnfkokkjliaaGreatDoorPA
import Derived.Test.YtkalnfkokkjliaaGreatDoorLA
set_option linter.all false
namespace Dv
open Go
def F1 (s:aa) (now:Int) (i:Nat):Bool:=decide ((s.jobs.getD i az).phase=3)&&decide ((s.jobs.getD i az).til≤now)
def Kr (s:aa) (now:Int):List Nat:=(List.range s.jobs.length).filter (F1 s now)
def AU (s:aa) (now:Int):Option cB:=match Kr s now with
 | []=>none
 | k::_=>some ⟨14,((k+1:Nat):Int),0,0,0,0,0⟩
def AF (s:aa) (now:Int):Option cB:=if (rG s now).2.2=true then some ⟨9,(rG s now).1,(rG s now).2.1,0,0,0,0⟩ else none
def pQ (c:aF) (s:aa) (now:Int):Option cB:=match AU s now with
 | some o=>some o
 | none=>match Aj c s now with
   | some o=>some o
   | none=>AF s now
def me (s:aa) (now:Int) (k:Nat):List Nat:=(List.range k).filter (F1 s now)
theorem F0 (s:aa) (now:Int) (k:Nat):me s now (k+1)=me s now k++(if F1 s now k=true then [k] else []):=by
 unfold me
 rw [List.range_succ,List.filter_append]
 simp only [List.filter_cons,List.filter_nil]
theorem Is (s:aa) (now:Int) (k:Nat):(me s now k).length≤k:=by
 have:=List.length_filter_le (F1 s now) (List.range k)
 simpa [me] using this
end Dv
namespace Dv
open Go
structure Dq (s t:aa):Prop where
 len:t.jobs.length=s.jobs.length
 goal:t.goal=s.goal
 mode:t.mode=s.mode
 term:t.term=s.term
 aQ:∀ k,k<s.jobs.length→((dR t k).phase=4↔(dR s k).phase=4)∧(dR t k).epoch=(dR s k).epoch
theorem Dq.refl (s:aa):Dq s s:=⟨rfl,rfl,rfl,rfl,fun _ _=>⟨Iff.rfl,rfl⟩⟩
theorem Dq.trans {s t u:aa} (h:Dq s t) (h2:Dq t u):Dq s u:=
 ⟨h2.len.trans h.len,h2.goal.trans h.goal,h2.mode.trans h.mode,h2.term.trans h.term,fun k hk=>⟨(h2.aQ k (by rw [h.len]; exact hk)).1.trans (h.aQ k hk).1,(h2.aQ k (by rw [h.len]; exact hk)).2.trans (h.aQ k hk).2⟩⟩
def Ww (k:Int):Bool:=decide (k=9∨k=11∨k=12∨k=14∨k=16∨k=17∨k=18∨k=20)
theorem LX {c:aF} {s:aa} {now:Int} {o:cB} (h:pQ c s now=some o):Ww o.kind=true:=by
 unfold pQ at h
 split at h
 ·rename_i p hp
  unfold AU at hp
  split at hp
  ·cases hp
  ·cases hp; cases h; rfl
 ·split at h
  ·rename_i p hp
   cases h
   have:=Ij c s now _ hp
   cases this <;> rfl
  ·unfold AF at h
   split at h
   ·cases h; rfl
   ·cases h
end Dv
