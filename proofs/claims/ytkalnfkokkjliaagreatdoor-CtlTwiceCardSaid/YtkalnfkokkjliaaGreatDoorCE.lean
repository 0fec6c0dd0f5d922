/- part -/
import Derived.Test.YtkalnfkokkjliaaGreatDoorCA
import Derived.Test.YtkalnfkokkjliaaGreatDoorCD
set_option linter.all false
set_option maxRecDepth 100000
namespace Dv
open Go Go.Proofs
end Dv
namespace Dv
open Go Go.Proofs
def ri (c:aC):aH:=.box 23 [.int c.nodes,.int c.bH,.int c.cB,.int c.gF,.int c.bZ,.int c.eC,.int c.deadline,.int c.room,.int c.fP]
def CM (x:aO):aH:=.box 195 [.int x.c.nodes,.int x.c.bH,.int x.c.cB,.int x.c.gF,.int x.c.bZ,.int x.c.eC,.int x.c.deadline,.int x.c.room,.int x.c.fP,.ptr 1 0,.ptr 6 0,.ptr 3 0,bO x.s.nodes,cO x.s.jobs,.int x.s.goal,.int x.s.prior,.int x.s.mode,.int x.s.term,.sl 5 x.lines.length 26 0 x.lines.length,.bool x.down,.int x.er]
def Cl (c:aC) (x:aO):List aH:=[ri c,.box 150 [.sl 2 x.j.n 1 0 x.j.n,.d (.val (.slice none 0 0)),.int x.j.s],.dat 5 1 (aB x.j.l),.box 190 (.int x.room::.int x.term::(x.sh.flatMap rD++[.int x.wr])),CM x,aP x.lines,.box 160 [.ptr 1 0,.ptr 7 0,.ptr 8 0,.int x.j.cnt,.int x.j.cc],.box 243 [.ptr 1 0,.int 0,.int ((x.j.n / 4:Nat):Int)],.box 245 [.ptr 1 0,.int ((2*(x.j.n / 4):Nat):Int),.int ((x.j.n-2*(x.j.n / 4):Nat):Int),.int x.j.us]]
theorem aaR (s t:aa) (h:s=t) (hn:s.nodes.length≤1000) (hj:s.jobs.length≤1000):bw Tryz.prog eE 20 [aY s,aY t] [] (.bool true) []:=by
 subst h
 have:=Lu (G:=eE) s s (by omega) (by omega)
 rw [decide_eq_true rfl] at this
 exact this
theorem IP {c:aC} (h:gJ c=true) {n:Nat} (hn:64≤n∧n≤65536) (room:Int):gM c 1 (MY c n 0 room 0 (List.replicate 25 ic) 0 0):=by
 have h0:gM c 0 (nH c n 0 room 0 (List.replicate 25 ic) 0 0):=by
  refine ⟨En h hn 0 room 0 _ (by rw [List.length_replicate]) 0 0,rfl,rfl,?_,?_,⟨Int.le_refl _,Int.le_refl _⟩⟩
  ·intro l hl
   change l∈List.replicate _ (HZ 0) at hl
   rw [List.eq_of_mem_replicate hl]
   exact ⟨Int.le_refl _,by show (0:Int)≤_; omega⟩
  ·intro i hi
   show (List.replicate 25 ic).getD i ic=ic
   rw [List.getD,List.getElem?_replicate,if_pos hi]
   rfl
 have h1:=h0.note (by omega) bN (now:=0) (by omega)
 exact ⟨⟨h1.ok.right,h1.ok.jn,h1.ok.sh,h1.ok.lines⟩,h1.cf,h1.dn,h1.hr,h1.sz,h1.nt⟩
end Dv
