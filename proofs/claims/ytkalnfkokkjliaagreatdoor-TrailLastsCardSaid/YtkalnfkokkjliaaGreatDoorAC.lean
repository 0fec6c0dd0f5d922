/- part -/
import Derived.Test.YtkalnfkokkjliaaGreatDoorV24
import Derived.Test.YtkalnfkokkjliaaGreatDoorDB
import Derived.Test.YtkalnfkokkjliaaGreatDoorDA
import Derived.Test.YtkalnfkokkjliaaGreatDoorProg
import Derived.KernelRfl
import Derived.Test.YtkalnfkokkjliaaGreatDoorG1
import Derived.Test.YtkalnfkokkjliaaGreatDoorVD
set_option linter.all false
set_option maxRecDepth 100000
namespace Dv
open Go Go.Proofs
def aaA:List Int:=(List.range 20).map fun n=>((10 ^ n:Nat):Int)
def Yf:List Int:=[0,1,28,2,29,14,24,3,30,22,20,15,25,17,4,8,31,27,13,23,21,19,16,7,26,12,18,6,11,5,10,9]
def Ye:List Int:=[0,1,56,2,57,49,28,3,61,58,42,50,38,29,17,4,62,47,59,36,45,43,51,22,53,39,33,30,24,18,12,5,63,55,48,27,60,41,37,16,46,35,44,21,52,32,23,11,54,26,40,15,34,20,31,10,25,14,19,9,13,8,7,6]
def g_:Nat→Option (List DV):=fun n=>if n=3 then some (Yf.map fun n=>.val (.int .u8 n)) else if n=4 then some (Ye.map fun n=>.val (.int .u8 n)) else cR n
theorem qO (g:Nat) (row:List DV) (h:cR g=some row):g_ g=some row:=by
 unfold g_
 split
 ·rename_i e; subst e; cases h
 ·split
  ·rename_i e; subst e; cases h
  ·exact h
def tK:Nat→Option (List DV):=fun n=>if n=2 then some (aaA.map fun n=>.val (.int .u64 n)) else g_ n
theorem nh (g:Nat) (row:List DV) (h:g_ g=some row):tK g=some row:=by
 unfold tK
 split
 ·rename_i e; subst e; cases h
 ·exact h
theorem vw (g:Nat) (row:List DV) (h:cR g=some row):tK g=some row:=nh g row (qO g row h)
def zs (n:Nat):List (List DV):=List.replicate n [.val (.int .u8 0)]
def bs (l:List Int):List (List DV):=l.map fun n=>[.val (.int .u8 n)]
def nlV:LV:=.d (.val (.slice none 0 0))
def tP:List aC→List aC→Bool
 | [],[]=>true
 | x::xs,y::ys=>Eo (some x) (some y)&&tP xs ys
 | _,_=>false
theorem sE:∀ {a b:List aC},tP a b=true→a=b
 | [],[],_=>rfl
 | x::xs,y::ys,h=>by
   simp only [tP,Bool.and_eq_true] at h
   rw [Option.some.inj (En h.1),sE h.2]
 | [],_::_,h=>by cases h
 | _::_,[],h=>by cases h
structure xw where
 f:Nat
 a:List LV
 o:List aC
 r:LV
 b:List aC
def ov:List xw→Nat→List LV→List aC→Option (LV×List aC)
 | [],f,args,af=>if f=274 then (match args with
   | [.d (.val (.slice none 0 0)),.d (.val (.int .i64 n))]=>if 0≤n∧n≤100000∧af.isEmpty=true then some (.sl 0 0 1 0 0,[.dat 5 1 []]) else none
   | _=>none) else none
 | k::l,f,args,af=>if Nat.beq f k.f=true then (if (nY args k.a&&tP af k.o)=true then some (k.r,k.b) else ov l f args af) else ov l f args af
def AT (ir:Nat→Option (Nat×C×List RV)) (l:List xw):Tab:=⟨ir,fun f _=>ov l f,
 fun f k=>(f==130&&k==84)||(f==167&&k==226)||(f==29&&k==84),fun f _=>f==95||f==313⟩
def MZ (term:Int):aC:=.box 190 ([.int 50,.int term]++(List.replicate 50 [.int 0,nlV]).flatten++[.int 0])
def Ka:LV:=.agg [.int 2,.int 1,.int 1,.int 1,.int 5,.int 2,.int 4,.int 50,.int 2000]
def rV:xw:=⟨37,[Ka,.ptr 0 0,.ptr 1 0,.int 0],[.box 150 [.sl 2 2000 1 0 2000,nlV,.int 0],MZ 0,.dat 5 1 (zs 2000)],
 .dH [.ptr 3 0,.int 0],
 [.box 150 [.sl 2 2000 1 0 2000,nlV,.int 2],MZ 1,.dat 5 1 (zs 1000++bs [3,0,1,21,139,135,12,184,1]++zs 991),
  .box 195 [.int 2,.int 1,.int 1,.int 1,.int 5,.int 2,.int 4,.int 50,.int 2000,.ptr 0 0,.ptr 4 0,.ptr 1 0,.sl 5 2 5 0 2,nlV,.int 1,.int 1,.int 0,.int 1,.sl 6 2 26 0 2,.bool false,.int 1],
  .box 160 [.ptr 0 0,.ptr 7 0,.ptr 8 0,.int 1,.int (-1)],
  .dat 102 5 (List.replicate 2 [bl true,bl false,bl false,i64 1,i64 0]),
  .dat 197 26 (List.replicate 2 ([i64 0,bl false]++List.replicate 24 (i64 0))),
  .box 243 [.ptr 0 0,.int 0,.int 500],.box 245 [.ptr 0 0,.int 1000,.int 1000,.int 9]]⟩
theorem Rm:yQ g_ (AT (wR Tryz.prog) []) 5000 60 false 37 rV.a rV.o=some (rV.r,rV.b):=by kernel_rfl
end Dv
namespace Dv
open Go Go.Proofs
theorem Lw {l:List xw} (h:∀ k∈l,bh Tryz.prog g_ k.f k.a k.o k.r k.b):∀ f (md:Bool) args af r ay,ov l f args af=some (r,ay)→bh Tryz.prog g_ f args af r ay:=by
 intro f md args af r ay
 induction l with
 | nil=>
   intro hk
   unfold ov at hk
   split at hk
   ·rename_i hf
    split at hk
    ·rename_i n
     split at hk
     ·rename_i hc
      cases hk
      subst hf
      obtain ⟨h1,h2,h3⟩:=hc
      rw [List.isEmpty_iff.1 h3]
      have:=zW (G:=g_) n.toNat (by omega)
      rw [show ((n.toNat:Nat):Int)=n by omega] at this
      exact this
     ·cases hk
    ·cases hk
   ·cases hk
 | cons k l ih=>
   intro hk
   unfold ov at hk
   split at hk
   ·rename_i hf
    split at hk
    ·rename_i hc
     rw [Bool.and_eq_true] at hc
     cases hk
     rw [Nat.eq_of_beq_eq_true hf,ni _ _ hc.1,sE hc.2]
     exact h k (by simp)
    ·exact ih (fun k hk=>h k (by simp [hk])) hk
   ·exact ih (fun k hk=>h k (by simp [hk])) hk
theorem KE {ir:Nat→Option (Nat×C×List RV)} {l:List xw} {f:Nat} {md:Bool} : (AT ir l).hand f md=ov l f:=by simp only [AT]
theorem Ra {ir:Nat→Option (Nat×C×List RV)} {l:List xw} {f:Nat} : (AT ir l).ir f=ir f:=by simp only [AT]
theorem xP {l:List xw} (h:∀ k∈l,bh Tryz.prog g_ k.f k.a k.o k.r k.b) {L d:Nat} {md:Bool} {f:Nat} {args:List LV} {af:List aC} {r:LV} {ay:List aC} (hr:yQ g_ (AT (wR Tryz.prog) l) L d md f args af=some (r,ay)):bh Tryz.prog g_ f args af r ay:=
 GK (T:=AT (wR Tryz.prog) l) (fun f md args af r ay hk=>Lw h f md args af r ay (KE ▸ hk)) (fun f ir hi=>by rw [Ra] at hi; exact ON f ir hi) L d md f args af r ay hr
theorem LA:bh Tryz.prog g_ rV.f rV.a rV.o rV.r rV.b:=xP (l:=[]) (fun _ h=>by cases h) Rm
def o26:aC:=.dat 5 1 (zs 1000++bs [3,0,1,21,139,135,12,184,1,9,1,7,1,0,0,1,1,3,0,207,147,92,209,1,3,2,1,4,226,179,248,36,1]++zs 967)
def Fa:xw:=⟨62,[Ka,.sl 0 2000 1 0 2000],[o26],.dH [.agg [.int 0,.sl 1 2 5 0 2,nlV,.int 1,.int 1,.int 0,.int 0,.sl 2 3 7 0 3],.int 0],
 [o26,.dat 102 5 (List.replicate 2 [bl true,bl false,bl false,i64 1,i64 0]),.dat 37 7 [[i64 21,i64 0,i64 0,i64 0,i64 0,i64 0,i64 0],[i64 1,i64 0,i64 0,i64 1,i64 1,i64 3,i64 0],[i64 4,i64 0,i64 0,i64 0,i64 0,i64 0,i64 0]]]⟩
theorem Rl:yQ g_ (AT (wR Tryz.prog) []) 5000 60 false 62 Fa.a Fa.o=some (Fa.r,Fa.b):=by kernel_rfl
end Dv
