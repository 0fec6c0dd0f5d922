/- part -/
import Derived.Test.YtkalnfkokkjliaaGreatDoorCB
import Derived.Test.YtkalnfkokkjliaaGreatDoorGA
import Derived.Test.YtkalnfkokkjliaaGreatDoorTB
import Derived.Test.YtkalnfkokkjliaaGreatDoorDD
import Derived.Test.YtkalnfkokkjliaaGreatDoorCA
set_option linter.all false
set_option maxRecDepth 100000
namespace Dv
open Go Go.Proofs
variable {G:Nat→Option (List DV)}
end Dv
namespace Dv
open Go Go.Proofs
structure jN (c:aB) (k:Nat) (x:aO):Prop where
 ok:Gm x
 cf:x.c=c
 dn:x.down=false
 hr:∀ l∈x.lines,0≤l.heard∧l.heard≤1000000
 sz:∀ i,i<25→x.sh.getD i iP=iP
 nt:0≤x.dA∧x.dA≤k
theorem jN.more {c:aB} {k k':Nat} {x:aO} (h:jN c k x) (hk:k≤k'):jN c k' x:=⟨h.ok,h.cf,h.dn,h.hr,h.sz,by have:=h.nt; omega⟩
theorem U1 (ep:Int):iC iP ep=iP:=by
 unfold iC
 split <;> rfl
theorem aat {sh:List pE} (h:∀ i,i<25→sh.getD i iP=iP) (j:Nat):∀ i,i<25→(sh.set j iP).getD i iP=iP:=by
 intro i hi
 have:=h i hi
 simp only [List.getD,List.getElem?_set] at *
 split
 ·split <;> rfl
 ·exact this
theorem jN.note {c:aB} {k:Nat} {x:aO} (h:jN c k x) (hk:k≤1000) (o:bT) {now:Int} (hn:0≤now∧now≤1000000):jN c (k+1) (x.dD o now):=by
 refine ⟨h.ok.note o now,by rw [Jo]; exact h.cf,by rw [G8]; exact h.dn,?_,?_,?_⟩
 ·unfold aO.dD
  split
  ·intro l hl
   change l∈mN now o x.lines at hl
   unfold mN at hl
   split at hl
   ·rcases List.mem_or_eq_of_mem_set hl with hl | rfl
    ·exact h.hr l hl
    ·show 0≤(if o.kind=8 then now else (x.lines.getD o.a.toNat fV).heard)∧(if o.kind=8 then now else (x.lines.getD o.a.toNat fV).heard)≤1000000
     split
     ·exact hn
     ·by_cases hlt:o.a.toNat<x.lines.length
      ·exact h.hr _ (by rw [List.getD,List.getElem?_eq_getElem hlt]; exact List.getElem_mem hlt)
      ·rw [List.getD,List.getElem?_eq_none (by omega)]
       exact ⟨Int.le_refl _,by show (0:Int)≤_; omega⟩
   ·exact h.hr l hl
  ·exact h.hr
 ·unfold aO.dD
  split
  ·intro i hi
   show (je o x.sh).getD i iP=iP
   unfold je
   split
   ·by_cases ha:o.a.toNat<25
    ·rw [h.sz _ ha,U1]; exact aat h.sz _ i hi
    ·rw [List.set_eq_of_length_le (by have:=h.ok.sh; omega)]; exact h.sz i hi
   split
   ·exact aat h.sz _ i hi
   ·exact h.sz i hi
  ·exact h.sz
 ·have:=h.nt
  unfold aO.dD
  split
  ·show 0≤IntKind.i64.wrap (x.dA+1)∧IntKind.i64.wrap (x.dA+1)≤((k+1:Nat):Int)
   rw [aL (by omega) (by omega)]
   omega
  ·show 0≤x.dA∧x.dA≤((k+1:Nat):Int)
   omega
theorem Ec (x:aO) (q:Option eH) (now:Int) (l:nQ):(ng x q now l).1.heard=l.heard:=by
 unfold ng
 split
 ·rfl
 ·split
  ·rfl
  split <;> rfl
theorem jN.IZ {c:aB} {k:Nat} {y:aO} (h:jN c k y) (had:Int→Int) (now:Int):∀ j,jN c k (cV y had now j).1
 | 0=>h
 | j+1=>by
   have ih:=jN.IZ h had now j
   refine ⟨⟨ih.ok.right,ih.ok.jn,ih.ok.sh,?_⟩,ih.cf,ih.dn,?_,ih.sz,ih.nt⟩
   ·show (List.set _ _ _).length=_
    rw [List.length_set]
    exact ih.ok.lines
   ·intro l hl
    change l∈(cV y had now j).1.lines.set j _ at hl
    rcases List.mem_or_eq_of_mem_set hl with hl | rfl
    ·exact ih.hr l hl
    ·rw [Ec]
     by_cases hlt:j<(cV y had now j).1.lines.length
     ·exact ih.hr _ (by rw [List.getD,List.getElem?_eq_getElem hlt]; exact List.getElem_mem hlt)
     ·rw [List.getD,List.getElem?_eq_none (by omega)]
      exact ⟨Int.le_refl _,by show (0:Int)≤_; omega⟩
end Dv
namespace Dv
open Go Go.Proofs
variable {G:Nat→Option (List DV)}
structure ady where
 kind:Int
 now:Int
 keep:Int
 o:bT
 m:eH
 sk:Int
 st:Int
 sj:Int
 se:Int
 sd:List Int
end Dv
