/- part -/
import Derived.Test.YtkalnfkokkjliaaGreatDoorQA
import Derived.Test.YtkalnfkokkjliaaGreatDoorPA
import Derived.Test.YtkalnfkokkjliaaGreatDoorLA
set_option linter.all false
namespace Dv
open Go
def E_ (s:aa) (now:Int) (i:Nat):Bool:=decide ((s.jobs.getD i aD).phase=3)&&decide ((s.jobs.getD i aD).til≤now)
def Jy (s:aa) (now:Int):List Nat:=(List.range s.jobs.length).filter (E_ s now)
def Aj (s:aa) (now:Int):Option bT:=match Jy s now with
 | []=>none
 | k::_=>some ⟨14,((k+1:Nat):Int),0,0,0,0,0⟩
def zQ (s:aa) (now:Int):Option bT:=if (qK s now).2.2=true then some ⟨9,(qK s now).1,(qK s now).2.1,0,0,0,0⟩ else none
def qa (c:aB) (s:aa) (now:Int):Option bT:=match Aj s now with
 | some o=>some o
 | none=>match zw c s now with
   | some o=>some o
   | none=>zQ s now
def lF (s:aa) (now:Int) (k:Nat):List Nat:=(List.range k).filter (E_ s now)
theorem E9 (s:aa) (now:Int) (k:Nat):lF s now (k+1)=lF s now k++(if E_ s now k=true then [k] else []):=by
 unfold lF
 rw [List.range_succ,List.filter_append]
 simp only [List.filter_cons,List.filter_nil]
theorem Hp (s:aa) (now:Int) (k:Nat):(lF s now k).length≤k:=by
 have:=List.length_filter_le (E_ s now) (List.range k)
 simpa [lF] using this
end Dv
namespace Dv
open Go
structure Ct (s t:aa):Prop where
 len:t.jobs.length=s.jobs.length
 goal:t.goal=s.goal
 mode:t.mode=s.mode
 term:t.term=s.term
 aM:∀ k,k<s.jobs.length→((dI t k).phase=4↔(dI s k).phase=4)∧(dI t k).epoch=(dI s k).epoch
theorem Ct.refl (s:aa):Ct s s:=⟨rfl,rfl,rfl,rfl,fun _ _=>⟨Iff.rfl,rfl⟩⟩
theorem Ct.trans {s t u:aa} (h:Ct s t) (h2:Ct t u):Ct s u:=
 ⟨h2.len.trans h.len,h2.goal.trans h.goal,h2.mode.trans h.mode,h2.term.trans h.term,fun k hk=>⟨(h2.aM k (by rw [h.len]; exact hk)).1.trans (h.aM k hk).1,(h2.aM k (by rw [h.len]; exact hk)).2.trans (h.aM k hk).2⟩⟩
def Vp (k:Int):Bool:=decide (k=9∨k=11∨k=12∨k=14∨k=16∨k=17∨k=18∨k=20)
theorem K9 {c:aB} {s:aa} {now:Int} {o:bT} (h:qa c s now=some o):Vp o.kind=true:=by
 unfold qa at h
 split at h
 ·rename_i p hp
  unfold Aj at hp
  split at hp
  ·cases hp
  ·cases hp; cases h; rfl
 ·split at h
  ·rename_i p hp
   cases h
   have:=He c s now _ hp
   cases this <;> rfl
  ·unfold zQ at h
   split at h
   ·cases h; rfl
   ·cases h
end Dv
