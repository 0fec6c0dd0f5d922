/- part -/
import Derived.Test.YtkalnfkokkjliaaGreatDoorQA
import Derived.Test.YtkalnfkokkjliaaGreatDoorPA
import Derived.Test.YtkalnfkokkjliaaGreatDoorLA
set_option linter.all false
namespace Dv
open Go
def FL (s:aa) (now:Int) (i:Nat):Bool:=decide ((s.jobs.getD i az).phase=3)&&decide ((s.jobs.getD i az).til≤now)
def J_ (s:aa) (now:Int):List Nat:=(List.range s.jobs.length).filter (FL s now)
def Av (s:aa) (now:Int):Option cA:=match J_ s now with
 | []=>none
 | k::_=>some ⟨14,((k+1:Nat):Int),0,0,0,0,0⟩
def Af (s:aa) (now:Int):Option cA:=if (ru s now).2.2=true then some ⟨9,(ru s now).1,(ru s now).2.1,0,0,0,0⟩ else none
def pJ (c:aC) (s:aa) (now:Int):Option cA:=match Av s now with
 | some o=>some o
 | none=>match zM c s now with
   | some o=>some o
   | none=>Af s now
def lY (s:aa) (now:Int) (k:Nat):List Nat:=(List.range k).filter (FL s now)
theorem FK (s:aa) (now:Int) (k:Nat):lY s now (k+1)=lY s now k++(if FL s now k=true then [k] else []):=by
 unfold lY
 rw [List.range_succ,List.filter_append]
 simp only [List.filter_cons,List.filter_nil]
theorem H7 (s:aa) (now:Int) (k:Nat):(lY s now k).length≤k:=by
 have:=List.length_filter_le (FL s now) (List.range k)
 simpa [lY] using this
end Dv
namespace Dv
open Go
structure C8 (s t:aa):Prop where
 len:t.jobs.length=s.jobs.length
 goal:t.goal=s.goal
 mode:t.mode=s.mode
 term:t.term=s.term
 aQ:∀ k,k<s.jobs.length→((dK t k).phase=4↔(dK s k).phase=4)∧(dK t k).epoch=(dK s k).epoch
theorem C8.refl (s:aa):C8 s s:=⟨rfl,rfl,rfl,rfl,fun _ _=>⟨Iff.rfl,rfl⟩⟩
theorem C8.trans {s t u:aa} (h:C8 s t) (h2:C8 t u):C8 s u:=
 ⟨h2.len.trans h.len,h2.goal.trans h.goal,h2.mode.trans h.mode,h2.term.trans h.term,fun k hk=>⟨(h2.aQ k (by rw [h.len]; exact hk)).1.trans (h.aQ k hk).1,(h2.aQ k (by rw [h.len]; exact hk)).2.trans (h.aQ k hk).2⟩⟩
def V0 (k:Int):Bool:=decide (k=9∨k=11∨k=12∨k=14∨k=16∨k=17∨k=18∨k=20)
theorem LF {c:aC} {s:aa} {now:Int} {o:cA} (h:pJ c s now=some o):V0 o.kind=true:=by
 unfold pJ at h
 split at h
 ·rename_i p hp
  unfold Av at hp
  split at hp
  ·cases hp
  ·cases hp; cases h; rfl
 ·split at h
  ·rename_i p hp
   cases h
   have:=HU c s now _ hp
   cases this <;> rfl
  ·unfold Af at h
   split at h
   ·cases h; rfl
   ·cases h
end Dv
