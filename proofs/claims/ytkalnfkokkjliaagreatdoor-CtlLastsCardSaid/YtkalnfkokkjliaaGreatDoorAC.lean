/- part -/
import Derived.Test.YtkalnfkokkjliaaGreatDoorV24
import Derived.Test.YtkalnfkokkjliaaGreatDoorDB
import Derived.Test.YtkalnfkokkjliaaGreatDoorDA
import Derived.Test.YtkalnfkokkjliaaGreatDoorProg
import Derived.KernelRfl
import Derived.Test.YtkalnfkokkjliaaGreatDoorG1
import Derived.Test.YtkalnfkokkjliaaGreatDoorVD
set_option linter.all false
set_option maxRecDepth 100000
namespace Dv
open Go Go.Proofs
def Za:List Int:=[0,1,28,2,29,14,24,3,30,22,20,15,25,17,4,8,31,27,13,23,21,19,16,7,26,12,18,6,11,5,10,9]
def Y_:List Int:=[0,1,56,2,57,49,28,3,61,58,42,50,38,29,17,4,62,47,59,36,45,43,51,22,53,39,33,30,24,18,12,5,63,55,48,27,60,41,37,16,46,35,44,21,52,32,23,11,54,26,40,15,34,20,31,10,25,14,19,9,13,8,7,6]
def eB:Nat→Option (List DV):=fun n=>if n=3 then some (Za.map fun n=>.val (.int .u8 n)) else if n=4 then some (Y_.map fun n=>.val (.int .u8 n)) else cF n
theorem gU (g:Nat) (row:List DV) (h:cF g=some row):eB g=some row:=by
 unfold eB
 split
 ·rename_i e; subst e; cases h
 ·split
  ·rename_i e; subst e; cases h
  ·exact h
def zs (n:Nat):List (List DV):=List.replicate n [.val (.int .u8 0)]
def bs (l:List Int):List (List DV):=l.map fun n=>[.val (.int .u8 n)]
def DZ:LV:=.d (.val (.slice none 0 0))
def uw:List aG→List aG→Bool
 | [],[]=>true
 | x::xs,y::ys=>Fm (some x) (some y)&&uw xs ys
 | _,_=>false
theorem tg:∀ {a b:List aG},uw a b=true→a=b
 | [],[],_=>rfl
 | x::xs,y::ys,h=>by
   simp only [uw,Bool.and_eq_true] at h
   rw [Option.some.inj (Fl h.1),tg h.2]
 | [],_::_,h=>by cases h
 | _::_,[],h=>by cases h
structure oB where
 f:Nat
 a:List LV
 o:List aG
 r:LV
 b:List aG
def o9:List oB→Nat→List LV→List aG→Option (LV×List aG)
 | [],f,args,af=>if f=274 then (match args with
   | [.d (.val (.slice none 0 0)),.d (.val (.int .i64 n))]=>if 0≤n∧n≤100000∧af.isEmpty=true then some (.sl 0 0 1 0 0,[.dat 5 1 []]) else none
   | _=>none) else none
 | k::l,f,args,af=>if Nat.beq f k.f=true then (if (oK args k.a&&uw af k.o)=true then some (k.r,k.b) else o9 l f args af) else o9 l f args af
def tf (ir:Nat→Option (Nat×C×List RV)) (l:List oB):Tab:=⟨ir,fun f _=>o9 l f,
 fun f k=>(f==130&&k==84)||(f==167&&k==226)||(f==29&&k==84),fun f _=>f==95||f==313⟩
def je (term:Int):aG:=.box 190 ([.int 50,.int term]++(List.replicate 50 [.int 0,DZ]).flatten++[.int 0])
def VY:LV:=.agg [.int 2,.int 1,.int 1,.int 1,.int 5,.int 2,.int 4,.int 50,.int 2000]
def sN:oB:=⟨37,[VY,.ptr 0 0,.ptr 1 0,.int 0],[.box 150 [.sl 2 2000 1 0 2000,DZ,.int 0],je 0,.dat 5 1 (zs 2000)],
 .dM [.ptr 3 0,.int 0],
 [.box 150 [.sl 2 2000 1 0 2000,DZ,.int 2],je 1,.dat 5 1 (zs 1000++bs [3,0,1,21,139,135,12,184,1]++zs 991),
  .box 195 [.int 2,.int 1,.int 1,.int 1,.int 5,.int 2,.int 4,.int 50,.int 2000,.ptr 0 0,.ptr 4 0,.ptr 1 0,.sl 5 2 5 0 2,DZ,.int 1,.int 1,.int 0,.int 1,.sl 6 2 26 0 2,.bool false,.int 1],
  .box 160 [.ptr 0 0,.ptr 7 0,.ptr 8 0,.int 1,.int (-1)],
  .dat 102 5 (List.replicate 2 [bl true,bl false,bl false,i64 1,i64 0]),
  .dat 197 26 (List.replicate 2 ([i64 0,bl false]++List.replicate 24 (i64 0))),
  .box 243 [.ptr 0 0,.int 0,.int 500],.box 245 [.ptr 0 0,.int 1000,.int 1000,.int 9]]⟩
theorem Sd:sA eB (tf (oc Tryz.prog) []) 5000 60 false 37 sN.a sN.o=some (sN.r,sN.b):=by kernel_rfl
end Dv
namespace Dv
open Go Go.Proofs
theorem Mo {l:List oB} (h:∀ k∈l,bu Tryz.prog eB k.f k.a k.o k.r k.b):∀ f (md:Bool) args af r aA,o9 l f args af=some (r,aA)→bu Tryz.prog eB f args af r aA:=by
 intro f md args af r aA
 induction l with
 | nil=>
   intro hk
   unfold o9 at hk
   split at hk
   ·rename_i hf
    split at hk
    ·rename_i n
     split at hk
     ·rename_i hc
      cases hk
      subst hf
      obtain ⟨h1,h2,h3⟩:=hc
      rw [List.isEmpty_iff.1 h3]
      have:=AJ (G:=eB) n.toNat (by omega)
      rw [show ((n.toNat:Nat):Int)=n by omega] at this
      exact this
     ·cases hk
    ·cases hk
   ·cases hk
 | cons k l ih=>
   intro hk
   unfold o9 at hk
   split at hk
   ·rename_i hf
    split at hk
    ·rename_i hc
     rw [Bool.and_eq_true] at hc
     cases hk
     rw [Nat.eq_of_beq_eq_true hf,nX _ _ hc.1,tg hc.2]
     exact h k (by simp)
    ·exact ih (fun k hk=>h k (by simp [hk])) hk
   ·exact ih (fun k hk=>h k (by simp [hk])) hk
theorem Lw {ir:Nat→Option (Nat×C×List RV)} {l:List oB} {f:Nat} {md:Bool} : (tf ir l).hand f md=o9 l f:=by simp only [tf]
theorem RY {ir:Nat→Option (Nat×C×List RV)} {l:List oB} {f:Nat} : (tf ir l).ir f=ir f:=by simp only [tf]
theorem kV {l:List oB} (h:∀ k∈l,bu Tryz.prog eB k.f k.a k.o k.r k.b) {L d:Nat} {md:Bool} {f:Nat} {args:List LV} {af:List aG} {r:LV} {aA:List aG} (hr:sA eB (tf (oc Tryz.prog) l) L d md f args af=some (r,aA)):bu Tryz.prog eB f args af r aA:=
 HN (T:=tf (oc Tryz.prog) l) (fun f md args af r aA hk=>Mo h f md args af r aA (Lw ▸ hk)) (fun f ir hi=>by rw [RY] at hi; exact PJ f ir hi) L d md f args af r aA hr
theorem Ms:bu Tryz.prog eB sN.f sN.a sN.o sN.r sN.b:=kV (l:=[]) (fun _ h=>by cases h) Sd
end Dv
