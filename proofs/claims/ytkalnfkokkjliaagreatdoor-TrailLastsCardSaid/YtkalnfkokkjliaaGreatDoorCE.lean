/- part -/
import Derived.Test.YtkalnfkokkjliaaGreatDoorCA
import Derived.Test.YtkalnfkokkjliaaGreatDoorCD
set_option linter.all false
set_option maxRecDepth 100000
namespace Dv
open Go Go.Proofs
end Dv
namespace Dv
open Go Go.Proofs
def AF (c:aB):aC:=.box 23 [.int c.nodes,.int c.bI,.int c.cH,.int c.iN,.int c.cr,.int c.eZ,.int c.deadline,.int c.room,.int c.gX]
def As (x:aO):aC:=.box 195 [.int x.c.nodes,.int x.c.bI,.int x.c.cH,.int x.c.iN,.int x.c.cr,.int x.c.eZ,.int x.c.deadline,.int x.c.room,.int x.c.gX,.ptr 1 0,.ptr 6 0,.ptr 3 0,bS x.s.nodes,de x.s.jobs,.int x.s.goal,.int x.s.prior,.int x.s.mode,.int x.s.term,.sl 5 x.lines.length 26 0 x.lines.length,.bool x.down,.int x.dA]
def wQ (c:aB) (x:aO):List aC:=[AF c,.box 150 [.sl 2 x.j.n 1 0 x.j.n,.d (.val (.slice none 0 0)),.int x.j.s],.dat 5 1 (az x.j.l),.box 190 (.int x.room::.int x.term::(x.sh.flatMap sD++[.int x.wr])),As x,bC x.lines,.box 160 [.ptr 1 0,.ptr 7 0,.ptr 8 0,.int x.j.cnt,.int x.j.bz],.box 243 [.ptr 1 0,.int 0,.int ((x.j.n / 4:Nat):Int)],.box 245 [.ptr 1 0,.int ((2*(x.j.n / 4):Nat):Int),.int ((x.j.n-2*(x.j.n / 4):Nat):Int),.int x.j.us]]
theorem H_ {c:aB} (h:iq c=true) {n:Nat} (hn:64≤n∧n≤65536) (room:Int):jN c 1 (FQ c n 0 room 0 (List.replicate 25 iP) 0 0):=by
 have h0:jN c 0 (mj c n 0 room 0 (List.replicate 25 iP) 0 0):=by
  refine ⟨DF h hn 0 room 0 _ (by rw [List.length_replicate]) 0 0,rfl,rfl,?_,?_,⟨Int.le_refl _,Int.le_refl _⟩⟩
  ·intro l hl
   change l∈List.replicate _ (Vw 0) at hl
   rw [List.eq_of_mem_replicate hl]
   exact ⟨Int.le_refl _,by show (0:Int)≤_; omega⟩
  ·intro i hi
   show (List.replicate 25 iP).getD i iP=iP
   rw [List.getD,List.getElem?_replicate,if_pos hi]
   rfl
 have h1:=h0.note (by omega) fT (now:=0) (by omega)
 exact ⟨⟨h1.ok.right,h1.ok.jn,h1.ok.sh,h1.ok.lines⟩,h1.cf,h1.dn,h1.hr,h1.sz,h1.nt⟩
end Dv
