/- The document's example, reckoned by the kernel: the tables, and a controller that boots. -/
import Derived.Test.YtkalnfkokkjliaaGreatDoorV24
import Derived.Test.YtkalnfkokkjliaaGreatDoorDB
import Derived.Test.YtkalnfkokkjliaaGreatDoorDA
import Derived.Test.YtkalnfkokkjliaaGreatDoorProg
import Derived.KernelRfl
set_option linter.unusedVariables false
set_option linter.unusedSimpArgs false
namespace Dv
open Go Go.Proofs
def Sn:List Int:=[0,1,28,2,29,14,24,3,30,22,20,15,25,17,4,8,31,27,13,23,21,19,16,7,26,12,18,6,11,5,10,9]
def Sm:List Int:=[0,1,56,2,57,49,28,3,61,58,42,50,38,29,17,4,62,47,59,36,45,43,51,22,53,39,33,30,24,18,12,5,63,55,48,27,60,41,37,16,46,35,44,21,52,32,23,11,54,26,40,15,34,20,31,10,25,14,19,9,13,8,7,6]
def dI:Nat→Option (List DV):=fun n=>if n=3 then some (Sn.map fun n=>.val (.int .u8 n)) else if n=4 then some (Sm.map fun n=>.val (.int .u8 n)) else dQ n
theorem lz (g:Nat) (row:List DV) (h:dQ g=some row):dI g=some row:=by
 unfold dI
 split
 ·rename_i e; subst e; cases h
 ·split
  ·rename_i e; subst e; cases h
  ·exact h
def zs (n:Nat):List (List DV):=List.replicate n [.val (.int .u8 0)]
def bs (l:List Int):List (List DV):=l.map fun n=>[.val (.int .u8 n)]
def zN:LV:=.d (.val (.slice none 0 0))
def qP:List aD→List aD→Bool
 | [],[]=>true
 | x::xs,y::ys=>A6 (some x) (some y)&&qP xs ys
 | _,_=>false
theorem pQ:∀ {a b:List aD},qP a b=true→a=b
 | [],[],_=>rfl
 | x::xs,y::ys,h=>by
   simp only [qP,Bool.and_eq_true] at h
   rw [Option.some.inj (A5 h.1),pQ h.2]
 | [],_::_,h=>by cases h
 | _::_,[],h=>by cases h
structure lT where
 f:Nat
 a:List LV
 o:List aD
 r:LV
 b:List aD
def mh:List lT→Nat→List LV→List aD→Option (LV×List aD)
 | [],f,args,objs=>if f=274 then (match args with
   | [.d (.val (.slice none 0 0)),.d (.val (.int .i64 n))]=>if 0≤n∧n≤100000∧objs.isEmpty=true then some (.sl 0 0 1 0 0,[.dat 5 1 []]) else none
   | _=>none) else none
 | k::l,f,args,objs=>if Nat.beq f k.f=true then (if (l5 args k.a&&qP objs k.o)=true then some (k.r,k.b) else mh l f args objs) else mh l f args objs
def pO (ir:Nat→Option (Nat×C×List RV)) (l:List lT):Xj:=⟨ir,fun f _=>mh l f,
 fun f k=>(f==130&&k==84)||(f==167&&k==226)||(f==29&&k==84),fun f _=>f==95||f==313⟩
def gN (term:Int):aD:=.box 190 ([.int 50,.int term]++(List.replicate 50 [.int 0,zN]).flatten++[.int 0])
def Pf:LV:=.agg [.int 2,.int 1,.int 1,.int 1,.int 5,.int 2,.int 4,.int 50,.int 2000]
def pz:lT:=⟨37,[Pf,.ptr 0 0,.ptr 1 0,.int 0],[.box 150 [.sl 2 2000 1 0 2000,zN,.int 0],gN 0,.dat 5 1 (zs 2000)],
 .dP [.ptr 3 0,.int 0],
 [.box 150 [.sl 2 2000 1 0 2000,zN,.int 2],gN 1,.dat 5 1 (zs 1000++bs [3,0,1,21,139,135,12,184,1]++zs 991),
  .box 195 [.int 2,.int 1,.int 1,.int 1,.int 5,.int 2,.int 4,.int 50,.int 2000,.ptr 0 0,.ptr 4 0,.ptr 1 0,.sl 5 2 5 0 2,zN,.int 1,.int 1,.int 0,.int 1,.sl 6 2 26 0 2,.bool false,.int 1],
  .box 160 [.ptr 0 0,.ptr 7 0,.ptr 8 0,.int 1,.int (-1)],
  .dat 102 5 (List.replicate 2 [bl true,bl false,bl false,i64 1,i64 0]),
  .dat 197 26 (List.replicate 2 ([i64 0,bl false]++List.replicate 24 (i64 0))),
  .box 243 [.ptr 0 0,.int 0,.int 500],.box 245 [.ptr 0 0,.int 1000,.int 1000,.int 9]]⟩
set_option maxRecDepth 100000 in
theorem L0:oQ dI (pO (lH Tryz.prog) []) 5000 60 false 37 pz.a pz.o=some (pz.r,pz.b):=by kernel_rfl
end Dv
