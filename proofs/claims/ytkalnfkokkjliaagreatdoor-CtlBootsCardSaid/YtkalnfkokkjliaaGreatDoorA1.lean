/- The document's example, reckoned by the kernel: the tables, and a controller that boots. -/
import Derived.Test.YtkalnfkokkjliaaGreatDoorV24
import Derived.Test.YtkalnfkokkjliaaGreatDoorDB
import Derived.Test.YtkalnfkokkjliaaGreatDoorDA
import Derived.Test.YtkalnfkokkjliaaGreatDoorProg
import Derived.KernelRfl
set_option linter.unusedVariables false
set_option linter.unusedSimpArgs false
namespace Dv
open Go Go.Proofs
def Wg:List Int:=[0,1,28,2,29,14,24,3,30,22,20,15,25,17,4,8,31,27,13,23,21,19,16,7,26,12,18,6,11,5,10,9]
def Wf:List Int:=[0,1,56,2,57,49,28,3,61,58,42,50,38,29,17,4,62,47,59,36,45,43,51,22,53,39,33,30,24,18,12,5,63,55,48,27,60,41,37,16,46,35,44,21,52,32,23,11,54,26,40,15,34,20,31,10,25,14,19,9,13,8,7,6]
def fL:Nat→Option (List DV):=fun n=>if n=3 then some (Wg.map fun n=>.val (.int .u8 n)) else if n=4 then some (Wf.map fun n=>.val (.int .u8 n)) else eD n
theorem Jg (g:Nat) (row:List DV) (h:eD g=some row):fL g=some row:=by
 unfold fL
 split
 ·rename_i e; subst e; cases h
 ·split
  ·rename_i e; subst e; cases h
  ·exact h
def zs (n:Nat):List (List DV):=List.replicate n [.val (.int .u8 0)]
def bs (l:List Int):List (List DV):=l.map fun n=>[.val (.int .u8 n)]
def Ck:LV:=.d (.val (.slice none 0 0))
def wR:List aG→List aG→Bool
 | [],[]=>true
 | x::xs,y::ys=>DA (some x) (some y)&&wR xs ys
 | _,_=>false
theorem xZ:∀ {a b:List aG},wR a b=true→a=b
 | [],[],_=>rfl
 | x::xs,y::ys,h=>by
   simp only [wR,Bool.and_eq_true] at h
   rw [Option.some.inj (Dz h.1),xZ h.2]
 | [],_::_,h=>by cases h
 | _::_,[],h=>by cases h
structure nQ where
 f:Nat
 a:List LV
 o:List aG
 r:LV
 b:List aG
def od:List nQ→Nat→List LV→List aG→Option (LV×List aG)
 | [],f,args,ag=>if f=274 then (match args with
   | [.d (.val (.slice none 0 0)),.d (.val (.int .i64 n))]=>if 0≤n∧n≤100000∧ag.isEmpty=true then some (.sl 0 0 1 0 0,[.dat 5 1 []]) else none
   | _=>none) else none
 | k::l,f,args,ag=>if Nat.beq f k.f=true then (if (pG args k.a&&wR ag k.o)=true then some (k.r,k.b) else od l f args ag) else od l f args ag
def th (ir:Nat→Option (Nat×C×List RV)) (l:List nQ):Tab:=⟨ir,fun f _=>od l f,
 fun f k=>(f==130&&k==84)||(f==167&&k==226)||(f==29&&k==84),fun f _=>f==95||f==313⟩
def jd (term:Int):aG:=.box 190 ([.int 50,.int term]++(List.replicate 50 [.int 0,Ck]).flatten++[.int 0])
def S_:LV:=.agg [.int 2,.int 1,.int 1,.int 1,.int 5,.int 2,.int 4,.int 50,.int 2000]
def rT:nQ:=⟨37,[S_,.ptr 0 0,.ptr 1 0,.int 0],[.box 150 [.sl 2 2000 1 0 2000,Ck,.int 0],jd 0,.dat 5 1 (zs 2000)],
 .dM [.ptr 3 0,.int 0],
 [.box 150 [.sl 2 2000 1 0 2000,Ck,.int 2],jd 1,.dat 5 1 (zs 1000++bs [3,0,1,21,139,135,12,184,1]++zs 991),
  .box 195 [.int 2,.int 1,.int 1,.int 1,.int 5,.int 2,.int 4,.int 50,.int 2000,.ptr 0 0,.ptr 4 0,.ptr 1 0,.sl 5 2 5 0 2,Ck,.int 1,.int 1,.int 0,.int 1,.sl 6 2 26 0 2,.bool false,.int 1],
  .box 160 [.ptr 0 0,.ptr 7 0,.ptr 8 0,.int 1,.int (-1)],
  .dat 102 5 (List.replicate 2 [bl true,bl false,bl false,i64 1,i64 0]),
  .dat 197 26 (List.replicate 2 ([i64 0,bl false]++List.replicate 24 (i64 0))),
  .box 243 [.ptr 0 0,.int 0,.int 500],.box 245 [.ptr 0 0,.int 1000,.int 1000,.int 9]]⟩
set_option maxRecDepth 100000 in
theorem Pq:sy fL (th (oM Tryz.prog) []) 5000 60 false 37 rT.a rT.o=some (rT.r,rT.b):=by kernel_rfl
end Dv
