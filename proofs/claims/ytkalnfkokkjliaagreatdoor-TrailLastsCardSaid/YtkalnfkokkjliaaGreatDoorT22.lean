/- part -/
import Derived.Test.YtkalnfkokkjliaaGreatDoorQ9
import Derived.Test.YtkalnfkokkjliaaGreatDoorD7
import Derived.Test.YtkalnfkokkjliaaGreatDoorDD
set_option linter.all false
set_option maxRecDepth 100000
namespace Dv
open Go Go.Proofs
variable {G:Nat→Option (List DV)}
def aaV:=qx Tryz.f70
theorem Y0:aj Tryz.prog Tryz.f70=some aaV:=by kernel_rfl
def XF:=qx Tryz.f140
theorem TZ:aj Tryz.prog Tryz.f140=some XF:=by kernel_rfl
def aa9:=qx Tryz.f18
theorem Zd:aj Tryz.prog Tryz.f18=some aa9:=by kernel_rfl
def lz (l:List bT):LV:=.d (.dK 7 (l.map NY))
def kW (bz:Int) (s:aa) (l:List bT):LV:=.agg [.int bz,bS s.nodes,de s.jobs,.int s.goal,.int s.prior,.int s.mode,.int s.term,lz l]
def mM (c:aB):aC:=.box 23 [.int c.nodes,.int c.bI,.int c.cH,.int c.iN,.int c.cr,.int c.eZ,.int c.deadline,.int c.room,.int c.gX]
def mL (bz:Int) (s:aa) (l:List bT):aC:=.box 33 [.int bz,bS s.nodes,de s.jobs,.int s.goal,.int s.prior,.int s.mode,.int s.term,lz l]
def i_ (s:aa):List LV:=[bS s.nodes,de s.jobs,.int s.goal,.int s.prior,.int s.mode,.int s.term]
def Gq:List LV:=[.d (.val (.slice none 0 0)),.d (.val (.slice none 0 0)),.int 0,.int 0,.int 0,.int 0]
def uY (s:aa):aC:=.box 30 (i_ s)
theorem Mr (s:aa) (hn:s.nodes.length≤1000) (hj:s.jobs.length≤1000):bh Tryz.prog G 73 [aY s] [] (aY s) []:=by
 refine cA Tryz.func73 (by decide) Hz rfl ?_
 simp only [Um,go_sem]
 refine jf (ta s.nodes hn) rfl rfl rfl ?_
 simp only [go_sem]
 refine jf (tc s.jobs hj) rfl rfl rfl ?_
 simp only [go_sem]
 refine an rfl ?_
 simp only [go_sem]
 exact dZ [2,3] rfl (by simp [St.obj,au]) (by simp [St.obj,au,aP,St.get,aW,ah,ag,bB,LV.int,List.take_of_length_le])
theorem GA (c:aB) (bz:Int) (s:aa) (l:List bT):bh Tryz.prog G 70 [fN c,kW bz s l] [] (.fn (.func 140) [] [.ptr 1 0,.ptr 0 0]) [mM c,mL bz s l]:=by
 refine cA Tryz.func70 (by decide) Y0 rfl ?_
 simp only [aaV,kW,go_sem]
 exact dm [] [0,1] [] rfl rfl (by simp) (fun _ h=>by cases h) (fun _ h=>by cases h) rfl rfl (by simp [c_,St.obj,au,aP,St.get,aW,ah,ag])
def aap:LV:=.agg [.d (.val (.slice none 0 0)),.d (.val (.slice none 0 0)),.int 0,.int 0,.int 0,.int 0]
def atV (c:aB) (bz:Int) (s:aa) (l:List bT) (k:Int):LV:=if bz≤k∧k≤bz+l.length then .dH [aY (rI c s l (k-bz).toNat),.bool true] else .dH [aap,.bool false]
def Qp (c:aB) (bz:Int) (s:aa) (l:List bT) (k:Int) (r:List LV) (b:Bool) (rest:List (Option aC)):List (Option aC):=
 some (mM c)::some (mL bz s l)::some (.box 3 [.int k])::some (.box 30 r)::some (.box 4 [.bool b])::some (mM c)::some (mL bz s l)::none::rest
def U9 (c:aB) (bz:Int) (s:aa) (l:List bT) (k:Int) (i:Nat):St:=⟨[(0,.yl 7),(1,.ptr 6 0),(2,.ptr 5 0),(4,.ptr 8 0),(18,lz l),(19,.int l.length),(20,.int i),(YS,ia)],Qp c bz s l k Gq false [some (uY (rI c s l i)),some (uY s)]⟩
def RAt (c:aB) (bz:Int) (s:aa) (l:List bT) (k:Int) (yv:LV) (af:List (Option aC)):Prop:=(yv=ia∧¬ (bz≤k∧k≤bz+l.length)∧∃ rest,af=Qp c bz s l k Gq false rest)∨(yv=jv∧(bz≤k∧k≤bz+l.length)∧∃ rest,af=Qp c bz s l k (i_ (rI c s l (k-bz).toNat)) true rest)
theorem U8 (c:aB) (bz:Int) (s:aa) (l:List bT) (k:Int) (hr:bK c s) (hok:OkT c s l) (ha:0≤bz∧bz≤1000000000) (hl:l.length≤100000) :
  bh Tryz.prog cR 18 [fN c,kW bz s l,.int k] [] (atV c bz s l k) []:=by
 have hn:s.nodes.length≤1000:=by have:=hr.len; omega
 have hj:s.jobs.length≤1000:=by have:=hr.jobs; omega
 refine bn Tryz.func18 (by decide) Zd rfl (by unfold atV; split <;> rfl) ?_
 simp only [aa9,go_sem]
 simp only [kW,go_sem]
 refine gu (GA c bz s l) rfl rfl rfl ?_
 simp only [mM,mL,go_sem]
 refine Qx rfl (RAt c bz s l k) ?_ ?_
 case refine_2=>
  rintro yv af (⟨rfl,hno,rest,rfl⟩ | ⟨rfl,hyes,rest,rfl⟩)
  ·refine .inl ⟨rfl,?_⟩
   simp only [Qp,atV,hno,Gq,aap,go_sem]
  ·refine .inr ⟨rfl,?_⟩
   simp only [Qp,atV,hyes,i_,go_sem]
 refine Hx Tryz.func140 (by decide) TZ rfl rfl rfl ?_
 simp only [XF,go_sem]
 refine ax (Mr s hn hj) rfl rfl rfl rfl ?_; simp only [go_sem]
 refine DO rfl ?_
 simp only [go_sem]
 refine CR rfl rfl ?_
 simp only [go_sem]
 by_cases h0:bz=k
 ·have e0:(bz==k)=true:=beq_iff_eq.2 h0
  simp only [e0,go_sem]
  exact .inr ⟨rfl,⟨by omega,by omega⟩,_,by rw [show (k-bz).toNat=0 by omega]; simp only [Qp,mM,mL,i_,lz,rI,go_sem]; rfl⟩
 have e0:(bz==k)=false:=beq_eq_false_iff_ne.2 h0
 simp only [e0,lz,go_sem]
 refine aR [0,1,2,4,18,19,20,YS] [] (fun i:Nat=>i≤l.length∧¬ (bz≤k∧k≤bz+i)) (fun i=>l.length-i) (U9 c bz s l k) 0 ?_ ⟨Nat.zero_le _,by omega⟩ ?_
 ·simp only [U9,Qp,mM,mL,uY,i_,Gq,lz,rI,Int.natCast_zero,go_sem]
 rintro i ⟨hi,hno⟩
 simp only [U9,Qp,mM,mL,uY,i_,Gq,lz,go_sem]
 by_cases hlt:i<l.length
 case neg=>
  obtain rfl:i=l.length:=by omega
  simp only [decide_eq_false (show ¬ ((l.length:Nat):Int)<((l.length:Nat):Int) by omega),go_sem]
  exact .inl ⟨rfl,hno,_,by simp only [Qp,mM,mL,Gq,lz,go_sem]; rfl⟩
 have hg:=aK (f:=NY) cU hlt
 have hap:=hok i hlt
 have hst:rI c s l (i+1)=(bx c (rI c s l i) (l.getD i cU)).1:=rfl
 have hri:=vz hr l i
 generalize l.getD i cU=o at *
 simp only [NY] at hg
 simp only [decide_eq_true (show ((i:Nat):Int)<((l.length:Nat):Int) by omega),hg,go_sem]
 refine ax (rC c (rI c s l i) o) rfl rfl rfl rfl ?_; simp only [go_sem]
 simp only [hap,go_sem]
 rw [← hst]
 have w1:IntKind.i64.wrap (IntKind.i64.wrap (bz+(i:Int))+1)=bz+((i+1:Nat):Int):=by rw [aL (n:=bz+(i:Int)) (by omega) (by omega),aL (by omega) (by omega)]; omega
 refine DO rfl ?_
 simp only [w1,go_sem]
 refine CR rfl rfl ?_
 simp only [w1,go_sem]
 by_cases h1:bz+((i+1:Nat):Int)=k
 ·have e1:(bz+((i+1:Nat):Int)==k)=true:=beq_iff_eq.2 h1
  simp only [e1,go_sem]
  exact .inr ⟨rfl,⟨by omega,by omega⟩,_,by rw [show (k-bz).toNat=i+1 by omega]; simp only [Qp,mM,mL,i_,lz,go_sem]; rfl⟩
 have e1:(bz+((i+1:Nat):Int)==k)=false:=beq_eq_false_iff_ne.2 h1
 simp only [e1,go_sem]
 refine bg (i+1) ?_ ?_ ⟨by omega,by omega⟩ (by omega)
 ·simp only [ia,go_sem]
 ·simp only [U9,Qp,mM,mL,uY,i_,Gq,lz,aG (show i<9223372036854775807 by omega),go_sem]
end Dv
