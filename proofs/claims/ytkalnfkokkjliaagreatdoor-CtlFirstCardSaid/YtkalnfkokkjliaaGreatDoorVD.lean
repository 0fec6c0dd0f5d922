/- The logical machine and its plain laws: parts V17, V18, V19, V20, V25, V21, proved sound. -/
import Derived.Test.YtkalnfkokkjliaaGreatDoorVC
import Derived.KernelRfl
import Derived.Below
set_option linter.unusedVariables false
set_option linter.unusedSimpArgs false
namespace Dv
open Go
class NC (i:I):Prop where
 h:∀ f as,i≠.call f as
instance {a} : NC (.mv a):=⟨nofun⟩
instance {a b c} : NC (.pick a b c):=⟨nofun⟩
instance {a b} : NC (.new a b):=⟨nofun⟩
instance {a b} : NC (.box a b):=⟨nofun⟩
instance {a b} : NC (.build a b):=⟨nofun⟩
instance {a b c} : NC (.nh a b c):=⟨nofun⟩
instance {a} : NC (.ld1 a):=⟨nofun⟩
instance {a b} : NC (.bP a b):=⟨nofun⟩
instance {a b c} : NC (.st a b c):=⟨nofun⟩
instance {a} : NC (.aV a):=⟨nofun⟩
instance {a b c} : NC (.bin a b c):=⟨nofun⟩
instance {a b c} : NC (.T8 a b c):=⟨nofun⟩
instance {a} : NC (.not a):=⟨nofun⟩
instance {a b} : NC (.y2 a b):=⟨nofun⟩
instance {a b} : NC (.aj a b):=⟨nofun⟩
instance {a b} : NC (.KW a b):=⟨nofun⟩
instance {a b c} : NC (.O3 a b c):=⟨nofun⟩
instance {a b c} : NC (.eG a b c):=⟨nofun⟩
instance {a b c d} : NC (.Mv a b c d):=⟨nofun⟩
instance {a b c} : NC (.UB a b c):=⟨nofun⟩
instance {a b} : NC (.ixs a b):=⟨nofun⟩
instance {a} : NC (.len a):=⟨nofun⟩
instance {a} : NC (.lens a):=⟨nofun⟩
instance {a b c} : NC (.zS a b c):=⟨nofun⟩
instance {a b} : NC (.ext a b):=⟨nofun⟩
instance {a b c d e} : NC (.app a b c d e):=⟨nofun⟩
instance {a b} : NC (.min a b):=⟨nofun⟩
instance {a b} : NC (.max a b):=⟨nofun⟩
instance {a b} : NC (.ic a b):=⟨nofun⟩
instance {a b} : NC (.zX a b):=⟨nofun⟩
instance {a b c d} : NC (.eqs a b c d):=⟨nofun⟩
instance {a} : NC (.neg a):=⟨nofun⟩
instance {a b c d} : NC (.PS a b c d):=⟨nofun⟩
instance {a b c d e} : NC (.zm a b c d e):=⟨nofun⟩
instance {a b c} : NC (.Xu a b c):=⟨nofun⟩
instance {a} : NC (.more a):=⟨nofun⟩
inductive It where
 | c (code:C)
 | ops (l:List dD)
 | ff (l:List dD) (log:List gC)
 | blk (i:Nat)
 | lp (ts:List Nat) (m:Nat) (I:Nat→St→Prop) (k:Nat)
 | pn (p:St→Prop)
 | SM (p:Nat) (pre:List Nat) (l:List dD) (log:List gC)
 | yd (Y:YO)
 | rt (n:St→Prop) (x:Nat→St→Prop)
def Wy:List It→YO
 | []=>sQ
 | .yd Y::_=>Y
 | .c _::t=>Wy t
 | .ops _::t=>Wy t
 | .ff _ _::t=>Wy t
 | .blk _::t=>Wy t
 | .lp _ _ _ _::t=>Wy t
 | .pn _::t=>Wy t
 | .SM _ _ _ _::t=>Wy t
 | .rt _ _::_=>sQ
section
variable (P:Program) (G:Nat→Option (List DV)) (fin:St→Prop)
mutual
def W:List It→St→Prop
 | [],s=>fin s
 | .c code::t,s=>vc P G code s ⟨W t,fun i s'=>Wx i t s',fin,Wy t⟩
 | .ops l::t,s=>gD P G (Wy t) (fun v s'=>Wx AG t (ri v s')) l s (W t)
 | .ff l log::t,s=>eA P G (fun v s'=>Wx AG t (ri v s')) l s log (fun s' fT=>indep fT=true∧W t s')
 | .SM p pre l log::_,s=>tG P G p pre l s log
 | .pn _::t,s=>W t s
 | .yd _::t,s=>W t s
 | .rt n _::_,s=>n s
 | .blk _::t,s=>W t s
 | .lp ts m I k::t,s=>∃ j,j<k∧∃ s3,I j s3∧LA G m s s3
def Wx (i:Nat):List It→St→Prop
 | [],_=>False
 | .c _::t,s=>Wx i t s
 | .ops _::t,s=>Wx i t s
 | .ff _ _::t,s=>Wx i t s
 | .blk j::t,s=>if i=j then W t s else Wx i t s
 | .lp _ _ _ _::t,s=>Wx i t s
 | .pn p::t,s=>if i=AG then p s else Wx i t s
 | .SM _ _ _ _::t,s=>Wx i t s
 | .yd _::t,s=>Wx i t s
 | .rt _ x::_,s=>x i s
end
end
section
variable (P:Program) (G:Nat→Option (List DV)) (fin:St→Prop)
def WE (o:Option eN) (d:Option Nat) (os:List dD) (t:List It) (env:List (Nat×LV)) (objs:List (Option aD)):Prop:=match o with
 | some e=>W P G fin (.ops os::t) ⟨dU d e.r env,fN e.wr objs++e.nw.map some⟩
 | none=>False
def Xg (o:Option eN) (d:Option Nat) (pre:List Nat) (os:List dD) (log:List gC) (t:List It) (env:List (Nat×LV)) (objs:List (Option aD)):Prop:=match o with
 | some e=>W P G fin (.ff os (log++[⟨pre,e.rd,(e.owned objs.length).map (·.1)⟩])::t) ⟨dU d e.r env,fN e.wr objs++e.nw.map some⟩
 | none=>False
def WG (v:LV) (want:Bool) (d:Option Nat) (i:I) (pre:List Nat) (os:List dD) (t:List It) (env:List (Nat×LV)) (objs:List (Option aD)):Prop:=match v with
 | .d (.val (.bool b))=>if b=want then W P G fin (.ops (⟨d,i,none,pre⟩::os)::t) ⟨env,objs⟩ else W P G fin (.ops os::t) ⟨dU d .undef env,objs⟩
 | .d (.val (.tuple _))=>W P G fin (.ops os::t) ⟨dU d .undef env,objs⟩
 | _=>False
def FV (v:LV) (want:Bool) (d:Option Nat) (i:I) (pre:List Nat) (os:List dD) (log:List gC) (t:List It) (env:List (Nat×LV)) (objs:List (Option aD)):Prop:=match v with
 | .d (.val (.bool b))=>if b=want then W P G fin (.ff (⟨d,i,none,pre⟩::os) log::t) ⟨env,objs⟩ else W P G fin (.ff os (log++[⟨pre,[],[]⟩])::t) ⟨dU d .undef env,objs⟩
 | .d (.val (.tuple _))=>W P G fin (.ff os (log++[⟨pre,[],[]⟩])::t) ⟨dU d .undef env,objs⟩
 | _=>False
def WC (v:LV) (a b:C) (t:List It) (env:List (Nat×LV)) (objs:List (Option aD)):Prop:=match v with
 | .d (.val (.bool x))=>if x=true then W P G fin (.c a::t) ⟨env,objs⟩ else W P G fin (.c b::t) ⟨env,objs⟩
 | .c_=>W P G fin (.c a::t) ⟨env,objs⟩∧W P G fin (.c b::t) ⟨env,objs⟩
 | _=>False
end
section
variable {P:Program} {G:Nat→Option (List DV)} {fin:St→Prop} {t:List It} {s:St} {env:List (Nat×LV)} {objs:List (Option aD)} {os:List dD} {log:List gC}
theorem Xc:W P G fin [] s=fin s:=by simp only [W]
theorem W9 {a b:C} : W P G fin (.c (.seq a b)::t) s=W P G fin (.c a::.c b::t) s:=by simp only [W,vc,Wx,Wy]
theorem Um:W P G fin (.c .skip::t) s=W P G fin t s:=by simp only [W,vc]
theorem Xa:W P G fin (.c .ret::t) s=fin s:=by simp only [W,vc]
theorem Up {i:Nat} : W P G fin (.c (.exit i)::t) s=Wx P G fin i t s:=by simp only [W,vc]
theorem Pr {b:C} : W P G fin (.c (.scope b)::t) s=W P G fin (.c b::t) s:=by simp only [W,vc]
theorem Pu {i:Nat} {b:C} : W P G fin (.c (.block i b)::t) s=W P G fin (.c b::.blk i::t) s:=by simp only [W,vc,Wx,Wy]
theorem Xe {i:Nat} : W P G fin (.blk i::t) s=W P G fin t s:=by simp only [W]
theorem Xb {l:List dD} : W P G fin (.c (.af l)::t) s=W P G fin (.ops l::t) s:=by simp only [W,vc]
theorem Un {l:List dD} : W P G fin (.c (.bQ l)::t) s=W P G fin (.ff l []::t) s:=by simp only [W,vc]
theorem Us {c:bR} {a b:C} : W P G fin (.c (.cond c a b)::t) ⟨env,objs⟩=WC P G fin (c.ev G (bx env)) a b t env objs:=by simp only [W,vc,WC]; rfl
theorem Xh {a b:C} : WC P G fin (.d (.val (.bool true))) a b t env objs=W P G fin (.c a::t) ⟨env,objs⟩:=by simp only [WC,if_true]
theorem Xi {a b:C} : WC P G fin (.d (.val (.bool false))) a b t env objs=W P G fin (.c b::t) ⟨env,objs⟩:=by simp [WC]
theorem Ut {a b:C} : WC P G fin .c_ a b t env objs=(W P G fin (.c a::t) ⟨env,objs⟩∧W P G fin (.c b::t) ⟨env,objs⟩):=by simp only [WC]
theorem bg {x:Bool} {a b:C} (h1:x=true→W P G fin (.c a::t) ⟨env,objs⟩) (h2:x=false→W P G fin (.c b::t) ⟨env,objs⟩):WC P G fin (.d (.val (.bool x))) a b t env objs:=by
 cases x
 ·rw [Xi]; exact h2 rfl
 ·rw [Xh]; exact h1 rfl
theorem Zg {ts:List Nat} {m:Nat} {I:Nat→St→Prop} {k:Nat} : W P G fin (.lp ts m I k::t) s=(∃ j,j<k∧∃ s3,I j s3∧LA G m s s3):=by simp only [W]
theorem Zd {i:Nat} {x:C} : Wx P G fin i (.c x::t) s=Wx P G fin i t s:=by simp only [Wx]
theorem Uk {i:Nat} {x:List dD} : Wx P G fin i (.ops x::t) s=Wx P G fin i t s:=by simp only [Wx]
theorem W8 {i:Nat} {ts:List Nat} {m:Nat} {I:Nat→St→Prop} {k:Nat} : Wx P G fin i (.lp ts m I k::t) s=Wx P G fin i t s:=by simp only [Wx]
theorem Ul {i j:Nat} : Wx P G fin i (.blk j::t) s=if i=j then W P G fin t s else Wx P G fin i t s:=by simp only [Wx]
theorem Uo {b:C} (ts:List Nat) (ad:List Ad) (I:Nat→St→Prop) (N:Nat) (h0:I N { (de ad s) with env:=ts.map fun t=>(t,(de ad s).get t) }) (h:∀ k s',I k s'→W P G fin (.c b::.lp ts (de ad s).objs.length I k::t) s'):W P G fin (.c (.loop b)::t) s:=by
 simp only [W,vc]
 refine ⟨ts,I,N,ad,h0,fun k s' hk=>?_⟩
 have:=h k s' hk
 simp only [W,Wx,Wy] at this
 exact this
def Lz {α:Type} (Inv:α→Prop) (μ:α→Nat) (S:α→St):Nat→St→Prop:=fun m s=>∃ a,Inv a∧m=μ a∧s=S a
theorem aY {α:Type} {b:C} (ts:List Nat) (ad:List Ad) (Inv:α→Prop) (μ:α→Nat) (S:α→St) (a0:α) (hS:({ (de ad s) with env:=ts.map fun t=>(t,(de ad s).get t) } : St)=S a0) (h0:Inv a0)
  (h:∀ a,Inv a→W P G fin (.c b::.lp ts (de ad s).objs.length (Lz Inv μ S) (μ a)::t) (S a)):W P G fin (.c (.loop b)::t) s:=
 Uo ts ad (Lz Inv μ S) (μ a0) ⟨a0,h0,rfl,hS⟩ (fun k s' ⟨a,h1,h2,h3⟩=>by subst h2; subst h3; exact h a h1)
theorem bz {α:Type} {ts:List Nat} {m:Nat} {Inv:α→Prop} {μ:α→Nat} {S:α→St} {k:Nat} (a':α) (hok:s.zH ts m) (hS:s.keep ts m=S a') (hI:Inv a') (hμ:μ a'<k):W P G fin (.lp ts m (Lz Inv μ S) k::t) s:=by
 rw [Zg]; exact ⟨μ a',hμ,_,⟨a',hI,rfl,rfl⟩,hS ▸ LA.keep hok⟩
theorem Ih:W P G fin (.ops []::t) s=W P G fin t s:=by simp only [W,gD]
theorem Lr (h:(log.all fun e=>e.wr.isEmpty)=true):W P G fin (.ff [] log::t) s=W P G fin t s:=by
 simp only [W,eA,indep,h,Bool.true_or]; exact propext ⟨fun h=>h.2,fun h=>⟨trivial,h⟩⟩
theorem av (h:indep log=true) (hk:W P G fin t s):W P G fin (.ff [] log::t) s:=by simp only [W,eA]; exact ⟨h,hk⟩
theorem Pt {d:Option Nat} {i:I} {g:Nat} {want:Bool} {pre:List Nat} : W P G fin (.ops (⟨d,i,some (g,want),pre⟩::os)::t) ⟨env,objs⟩=WG P G fin (bx env g) want d i pre os t env objs:=by simp only [W,gD,AI,AJ,WG]; rfl
theorem Ls {d:Option Nat} {i:I} {g:Nat} {want:Bool} {pre:List Nat} : W P G fin (.ff (⟨d,i,some (g,want),pre⟩::os) log::t) ⟨env,objs⟩=FV P G fin (bx env g) want d i pre os log t env objs:=by simp only [W,eA,AI,AJ,FV]; rfl
theorem Sr {d:Option Nat} {i:I} {pre:List Nat} : WG P G fin (.d (.val (.bool true))) true d i pre os t env objs=W P G fin (.ops (⟨d,i,none,pre⟩::os)::t) ⟨env,objs⟩:=by simp only [WG,if_true]
theorem Sv {d:Option Nat} {i:I} {pre:List Nat} : WG P G fin (.d (.val (.bool false))) false d i pre os t env objs=W P G fin (.ops (⟨d,i,none,pre⟩::os)::t) ⟨env,objs⟩:=by simp only [WG,if_true]
theorem Ss {d:Option Nat} {i:I} {pre:List Nat} : WG P G fin (.d (.val (.bool true))) false d i pre os t env objs=W P G fin (.ops os::t) ⟨dU d .undef env,objs⟩:=by simp [WG]
theorem Su {d:Option Nat} {i:I} {pre:List Nat} : WG P G fin (.d (.val (.bool false))) true d i pre os t env objs=W P G fin (.ops os::t) ⟨dU d .undef env,objs⟩:=by simp [WG]
theorem Zh {d:Option Nat} {i:I} {pre:List Nat} {want:Bool} {v:Array Value} : WG P G fin (.d (.val (.tuple v))) want d i pre os t env objs=W P G fin (.ops os::t) ⟨dU d .undef env,objs⟩:=by simp only [WG]
theorem cN {x want:Bool} {d:Option Nat} {i:I} {pre:List Nat} (h1:x=want→W P G fin (.ops (⟨d,i,none,pre⟩::os)::t) ⟨env,objs⟩) (h2:x=(!want)→W P G fin (.ops os::t) ⟨dU d .undef env,objs⟩):WG P G fin (.d (.val (.bool x))) want d i pre os t env objs:=by
 cases x <;> cases want
 ·rw [Sv]; exact h1 rfl
 ·rw [Su]; exact h2 rfl
 ·rw [Ss]; exact h2 rfl
 ·rw [Sr]; exact h1 rfl
theorem Lt {d:Option Nat} {i:I} {pre:List Nat} : FV P G fin (.d (.val (.bool true))) true d i pre os log t env objs=W P G fin (.ff (⟨d,i,none,pre⟩::os) log::t) ⟨env,objs⟩:=by simp only [FV,if_true]
theorem Lw {d:Option Nat} {i:I} {pre:List Nat} : FV P G fin (.d (.val (.bool false))) false d i pre os log t env objs=W P G fin (.ff (⟨d,i,none,pre⟩::os) log::t) ⟨env,objs⟩:=by simp only [FV,if_true]
theorem Lu {d:Option Nat} {i:I} {pre:List Nat} : FV P G fin (.d (.val (.bool true))) false d i pre os log t env objs=W P G fin (.ff os (log++[⟨pre,[],[]⟩])::t) ⟨dU d .undef env,objs⟩:=by simp [FV]
theorem Lv {d:Option Nat} {i:I} {pre:List Nat} : FV P G fin (.d (.val (.bool false))) true d i pre os log t env objs=W P G fin (.ff os (log++[⟨pre,[],[]⟩])::t) ⟨dU d .undef env,objs⟩:=by simp [FV]
theorem Xf {d:Option Nat} {i:I} {pre:List Nat} {want:Bool} {v:Array Value} : FV P G fin (.d (.val (.tuple v))) want d i pre os log t env objs=W P G fin (.ff os (log++[⟨pre,[],[]⟩])::t) ⟨dU d .undef env,objs⟩:=by simp only [FV]
theorem fW {x want:Bool} {d:Option Nat} {i:I} {pre:List Nat} (h1:x=want→W P G fin (.ff (⟨d,i,none,pre⟩::os) log::t) ⟨env,objs⟩) (h2:x=(!want)→W P G fin (.ff os (log++[⟨pre,[],[]⟩])::t) ⟨dU d .undef env,objs⟩):FV P G fin (.d (.val (.bool x))) want d i pre os log t env objs:=by
 cases x <;> cases want
 ·rw [Lw]; exact h1 rfl
 ·rw [Lv]; exact h2 rfl
 ·rw [Lu]; exact h2 rfl
 ·rw [Lt]; exact h1 rfl
theorem dN {x want:Bool} {d:Option Nat} {i:I} {pre:List Nat} (h1:x=(!want)→W P G fin (.ops (⟨d,i,none,pre⟩::os)::t) ⟨env,objs⟩) (h2:x=want→W P G fin (.ops os::t) ⟨dU d .undef env,objs⟩):WG P G fin (.d (.val (.bool (!x)))) want d i pre os t env objs:=
 cN (fun h=>h1 (by cases x <;> cases want <;> simp_all)) (fun h=>h2 (by cases x <;> cases want <;> simp_all))
theorem xq {x want:Bool} {d:Option Nat} {i:I} {pre:List Nat} (h1:x=(!want)→W P G fin (.ff (⟨d,i,none,pre⟩::os) log::t) ⟨env,objs⟩) (h2:x=want→W P G fin (.ff os (log++[⟨pre,[],[]⟩])::t) ⟨dU d .undef env,objs⟩):FV P G fin (.d (.val (.bool (!x)))) want d i pre os log t env objs:=
 fW (fun h=>h1 (by cases x <;> cases want <;> simp_all)) (fun h=>h2 (by cases x <;> cases want <;> simp_all))
theorem jF {x:Bool} {a b:C} (h1:x=false→W P G fin (.c a::t) ⟨env,objs⟩) (h2:x=true→W P G fin (.c b::t) ⟨env,objs⟩):WC P G fin (.d (.val (.bool (!x)))) a b t env objs:=
 bg (fun h=>h1 (by simpa using h)) (fun h=>h2 (by simpa using h))
theorem Pv {d:Option Nat} {e:eN} : WE P G fin (some e) d os t env objs=W P G fin (.ops os::t) ⟨dU d e.r env,fN e.wr objs++e.nw.map some⟩:=by simp only [WE]
theorem Lx {d:Option Nat} {e:eN} {pre:List Nat} : Xg P G fin (some e) d pre os log t env objs=W P G fin (.ff os (log++[⟨pre,e.rd,(e.owned objs.length).map (·.1)⟩])::t) ⟨dU d e.r env,fN e.wr objs++e.nw.map some⟩:=by simp only [Xg]
theorem Xd {d:Option Nat} {i:I} {pre:List Nat} (hi:∀ f as,i≠.call f as):W P G fin (.ops (⟨d,i,none,pre⟩::os)::t) ⟨env,objs⟩=WE P G fin (cB G (bx env) (aB objs) objs.length i) d os t env objs:=by
 simp only [W,gD,AI,AJ,WE]
 cases i <;> first | rfl | exact absurd rfl (hi _ _)
theorem Ur {d:Option Nat} {i:I} {pre:List Nat} (hi:∀ f as,i≠.call f as):W P G fin (.ff (⟨d,i,none,pre⟩::os) log::t) ⟨env,objs⟩=Xg P G fin (cB G (bx env) (aB objs) objs.length i) d pre os log t env objs:=by
 simp only [W,eA,AI,AJ,Xg]
 cases i <;> first | rfl | exact absurd rfl (hi _ _)
theorem Uq {d:Option Nat} {i:I} [hi:NC i] {pre:List Nat} : W P G fin (.ops (⟨d,i,none,pre⟩::os)::t) ⟨env,objs⟩=WE P G fin (cB G (bx env) (aB objs) objs.length i) d os t env objs:=Xd hi.h
theorem Pw {d:Option Nat} {i:I} [hi:NC i] {pre:List Nat} : W P G fin (.ff (⟨d,i,none,pre⟩::os) log::t) ⟨env,objs⟩=Xg P G fin (cB G (bx env) (aB objs) objs.length i) d pre os log t env objs:=Ur hi.h
end
section
variable {P:Program} {G:Nat→Option (List DV)}
def rZ (Y:YO):Prop:=∀ a o y K K',(∀ y b o,K y b o→K' y b o)→Y a o y K→Y a o y K'
theorem rZ.no:rZ sQ:=fun _ _ _ _ _ _ h=>h.elim
theorem AS {Y:YO} (hm:rZ Y) {X X':Value→eN→St→Prop} {o:dD} {s:St} {K K':St→eN→Prop} (hX:∀ v e s,X v e s→X' v e s) (h:∀ s e,K s e→K' s e) (hv:AJ P G Y X o s K):AJ P G Y X' o s K':=by
 unfold AJ at hv ⊢
 split at hv
 ·split at hv
  ·rcases hv with ⟨e,h1,h2⟩ | ⟨p,e,h1,h2⟩
   ·exact .inl ⟨e,h1,h _ _ h2⟩
   ·exact .inr ⟨p,e,h1,hX _ _ _ h2⟩
  ·unfold Xt at hv ⊢
   split at hv
   ·exact hm _ _ _ _ _ (fun _ _ _ hk=>h _ _ hk) hv
   ·exact hv
 ·split at hv
  ·exact h _ _ hv
  ·exact hv
theorem AR {Y:YO} (hm:rZ Y) {X X':Value→eN→St→Prop} {o:dD} {s:St} {K K':St→eN→Prop} {K0 ZZ:St→Prop} (hX:∀ v e s,X v e s→X' v e s) (h:∀ s e,K s e→K' s e) (h0:∀ s,K0 s→ZZ s) (hv:AI P G Y X o s K K0):AI P G Y X' o s K' ZZ:=by
 unfold AI at hv ⊢
 split at hv
 ·exact AS hm hX h hv
 ·split at hv
  ·split at hv
   ·rename_i hb; rw [if_pos hb]; exact AS hm hX h hv
   ·rename_i hb; rw [if_neg hb]; exact h0 _ hv
  ·exact h0 _ hv
  ·exact hv
theorem pJ {Y:YO} (hm:rZ Y) {X X':Value→St→Prop} {K K':St→Prop} (hX:∀ v s,X v s→X' v s) (h:∀ s,K s→K' s):∀ (os:List dD) (s:St),gD P G Y X os s K→gD P G Y X' os s K'
 | [],s,hv=>h s hv
 | o::os,s,hv=>by
   simp only [gD] at hv ⊢
   exact AR hm (fun v _ s hk=>hX v s hk) (fun s e hk=>pJ hm hX h os s hk) (fun s hk=>pJ hm hX h os s hk) hv
theorem ny {X X':Value→St→Prop} {K K':St→List gC→Prop} (hX:∀ v s,X v s→X' v s) (h:∀ s l,K s l→K' s l):∀ (os:List dD) (s:St) (log:List gC),eA P G X os s log K→eA P G X' os s log K'
 | [],s,log,hv=>h s log hv
 | o::os,s,log,hv=>by
   simp only [eA] at hv ⊢
   exact AR rZ.no (fun v _ s hk=>⟨hX v _ hk.1,hk.2⟩) (fun s e hk=>ny hX h os s _ hk) (fun s hk=>ny hX h os s _ hk) hv
theorem gm:∀ (c:C) (s:St) (K K':tB),K'.y=K.y→rZ K.y→(∀ s,K.n s→K'.n s)→(∀ i s,K.x i s→K'.x i s)→(∀ s,K.r s→K'.r s)→vc P G c s K→vc P G c s K'
 | .skip,s,K,K',hy,hm,hn,hx,hr,h=>hn s h
 | .af ops,s,K,K',hy,hm,hn,hx,hr,h=>(by simp only [vc] at h ⊢; rw [hy]; exact pJ hm (fun v s h=>hx _ _ h) hn ops s h)
 | .bQ ops,s,K,K',hy,hm,hn,hx,hr,h=>ny (fun v s h=>hx _ _ h) (fun s l ⟨h1,h2⟩=>⟨h1,hn s h2⟩) ops s [] h
 | .seq a b,s,K,K',hy,hm,hn,hx,hr,h=>gm a s { K with n:=fun s'=>vc P G b s' K } { K' with n:=fun s'=>vc P G b s' K' } hy hm (fun s h=>gm b s K K' hy hm hn hx hr h) hx hr h
 | .cond c a b,s,K,K',hy,hm,hn,hx,hr,h=>by
   simp only [vc] at h ⊢
   split at h
   ·split at h
    ·rename_i hb; rw [if_pos hb]; exact gm a s K K' hy hm hn hx hr h
    ·rename_i hb; rw [if_neg hb]; exact gm b s K K' hy hm hn hx hr h
   ·exact ⟨gm a s K K' hy hm hn hx hr h.1,gm b s K K' hy hm hn hx hr h.2⟩
   ·exact h
 | .block i b,s,K,K',hy,hm,hn,hx,hr,h=>gm b s { K with x:=fun j s'=>if j=i then K.n s' else K.x j s' } { K' with x:=fun j s'=>if j=i then K'.n s' else K'.x j s' } hy hm hn (fun j s h=>by
   dsimp only at h ⊢
   split at h
   ·rename_i hb; rw [if_pos hb]; exact hn s h
   ·rename_i hb; rw [if_neg hb]; exact hx j s h) hr h
 | .loop b,s,K,K',hy,hm,hn,hx,hr,h=>by
   simp only [vc] at h ⊢
   obtain ⟨ts,I,N,ad,h0,h1⟩:=h
   exact ⟨ts,I,N,ad,h0,fun k s' hk=>gm b s' { K with n:=fun s''=>∃ j,j<k∧∃ s3,I j s3∧LA G (de ad s).objs.length s'' s3 } { K' with n:=fun s''=>∃ j,j<k∧∃ s3,I j s3∧LA G (de ad s).objs.length s'' s3 } hy hm (fun s h=>h) hx hr (h1 k s' hk)⟩
 | .exit i,s,K,K',hy,hm,hn,hx,hr,h=>hx i s h
 | .ret,s,K,K',hy,hm,hn,hx,hr,h=>hr s h
 | .scope b,s,K,K',hy,hm,hn,hx,hr,h=>gm b s K K' hy hm hn hx hr h
 | .PJ g ps a b,s,K,K',hy,hm,hn,hx,hr,h=>by
   simp only [vc] at h ⊢
   split at h
   ·obtain ⟨jm,R,h1,h2⟩:=h
    refine ⟨jm,R,h1,fun yv ay hR=>?_⟩
    rcases h2 yv ay hR with ⟨h3,h4⟩ | ⟨h3,h4⟩
    ·exact .inl ⟨h3,hn _ h4⟩
    ·refine .inr ⟨h3,?_⟩
     cases jm with
     | none=>exact hr _ h4
     | some i=>exact ⟨h4.1,hx _ _ h4.2⟩
   ·exact h
theorem qH (c:C) (s:St) (K K':tB) (hn:∀ s,K.n s→K'.n s) (hx:∀ i s,K.x i s→K'.x i s) (hr:∀ s,K.r s→K'.r s) (h:vc P G c s K) (h1:K.y=sQ:=by rfl) (h2:K'.y=sQ:=by rfl):vc P G c s K':=
 gm c s K K' (h2.trans h1.symm) (h1 ▸ rZ.no) hn hx hr h
theorem pT.mono {jm:Option Nat} {ps:List Nat} {a b:C} {s:St} : rZ (pT P G jm ps a b s):=by
 intro as o y K K' hK h
 obtain ⟨h1,h2,h3,h4⟩:=h
 refine ⟨h1,h2,h3,?_⟩
 have X_:∀ (s:St) (K1 K2:tB),vc P G a s K1→K1.y=sQ→K2.y=sQ→(∀ s,K1.n s→K2.n s)→(∀ i s,K1.x i s→K2.x i s)→(∀ s,K1.r s→K2.r s)→vc P G a s K2:=fun s K1 K2 a4 e1 e2 a1 a2 a3=>qH a s K1 K2 a1 a2 a3 a4 e1 e2
 refine X_ _ _ _ h4 rfl rfl ?_ (fun _ _ h=>h) (fun _ h=>h)
 intro s1 h5
 dsimp only at h5 ⊢
 have key:∀ (K1 K2:tB),vc P G b s1 K1→K1.y=sQ→K2.y=sQ→(∀ s,K1.n s→K2.n s)→(∀ i s,K1.x i s→K2.x i s)→(∀ s,K1.r s→K2.r s)→vc P G b s1 K2:=fun K1 K2 a4 e1 e2 a1 a2 a3=>qH b s1 K1 K2 a1 a2 a3 a4 e1 e2
 refine key _ _ h5 rfl rfl ?_ ?_ ?_
 ·exact fun s' h6=>hK _ _ _ h6
 ·exact fun i s' h6=>⟨h6.1,h6.2.1,hK _ _ _ h6.2.2⟩
 ·exact fun s' h6=>⟨h6.1,hK _ _ _ h6.2⟩
end
section
variable {P:Program} {G:Nat→Option (List DV)} {fin:St→Prop} {t:List It} {env:List (Nat×LV)} {objs:List (Option aD)} {os:List dD} {log:List gC}
theorem tA {d:Option Nat} {f:bR} {as:List bR} {pre:List Nat} {k:Nat} {fs cs:List LV} (e:eN) (hc:callee (f.ev G (bx env))=some (k,fs,cs)) (h:bX P G k (fs++as.map (·.ev G (bx env))++cs) (aB objs) objs.length e)
  (hk:W P G fin (.ops os::t) ⟨dU d e.r env,fN e.wr objs++e.nw.map some⟩):W P G fin (.ops (⟨d,.call f as,none,pre⟩::os)::t) ⟨env,objs⟩:=by
 simp only [W,gD,AI,AJ]
 have xN:callee (f.ev G (St.get ⟨env,objs⟩))=some (k,fs,cs):=hc
 rw [xN]
 simp only [W] at hk
 exact .inl ⟨e,h,hk⟩
theorem mM {d:Option Nat} {f:bR} {as:List bR} {pre:List Nat} {k:Nat} {fs cs:List LV} (e:eN) (hc:callee (f.ev G (bx env))=some (k,fs,cs)) (h:bX P G k (fs++as.map (·.ev G (bx env))++cs) (aB objs) objs.length e)
  (hk:W P G fin (.ff os (log++[⟨pre,e.rd,(e.owned objs.length).map (·.1)⟩])::t) ⟨dU d e.r env,fN e.wr objs++e.nw.map some⟩):W P G fin (.ff (⟨d,.call f as,none,pre⟩::os) log::t) ⟨env,objs⟩:=by
 simp only [W,eA,AI,AJ]
 have xN:callee (f.ev G (St.get ⟨env,objs⟩))=some (k,fs,cs):=hc
 rw [xN]
 simp only [W] at hk
 exact .inl ⟨e,h,hk⟩
theorem bX.pure {k:Nat} {args aZ:List LV} {obj:Nat→cv} {base:Nat} {r:LV} (Z:List Nat) (hT:bw P G k aZ [] r []) (ha:ah obj [] Z args aZ) (hZ:∀ z∈Z,∃ et e rows,obj z=.live (.dat et e rows)∨obj z=.live (.kA et e rows)) (hr:mS r=true) :
  bX P G k args obj base { r:=rn (bB [] base) r,rd:=Z,wr:=[],nw:=[] }:=
 ⟨⟨[],Z,true,aZ,[],r,[],(fun _=>true),(fun _ _ _ h=>by cases h),List.nodup_nil,(fun _ _ h=>by cases h),hZ,rfl,(fun i o h=>by simp at h),rfl,ha,(fun _=>⟨hr,rfl,rfl⟩),Nat.le_refl _,hT,rfl⟩⟩
theorem bX.data {k:Nat} {args aZ:List LV} {obj:Nat→cv} {base:Nat} {r:LV} {aF:List aD} (hT:bw P G k aZ [] r aF) (ha:ah obj [] [] args aZ) :
  bX P G k args obj base { r:=rn (bB [] base) r,rd:=[],wr:=[],nw:=aF.map (fc (bB [] base)) }:=
 ⟨⟨[],[],false,aZ,[],r,aF,(fun _=>true),(fun _ _ _ h=>by cases h),List.nodup_nil,(fun _ h=>by cases h),(fun _ h=>by cases h),rfl,(fun i o h=>by simp at h),rfl,ha,(fun h=>by cases h),Nat.zero_le _,hT,rfl⟩⟩
def CD (rv:List RV) (r:LV) (s:St):Prop:=(match xA.of s rv with | some vs=>some (aW vs) | none=>none)=some r
theorem bX.hand {k:Nat} {args aZ:List LV} {obj:Nat→cv} {base:Nat} {r:LV} {aM aF:List aD} (ρ:List Nat) (hT:bw P G k aZ aM r aF) (ha:ah obj ρ [] args aZ) (hnd:ρ.Nodup) (ho:ρ.map obj=aM.map (fun ob=>cv.live (fc (bB ρ base) ob))) (hid:aM.all (ei ρ.length)=true) (hle:aM.length≤aF.length) :
  bX P G k args obj base { r:=rn (bB ρ base) r,rd:=ρ,wr:=ρ.zip (aF.map (fc (bB ρ base))),nw:=(aF.drop ρ.length).map (fc (bB ρ base)) }:=
 ⟨⟨ρ,[],false,aZ,aM,r,aF,(fun _=>true),(fun _ _ _ h=>by cases h),hnd,(fun _ h=>by cases h),(fun _ h=>by cases h),by have:=congrArg List.length ho; simpa using this.symm,(fun i o hi=>by
   have h1:(ρ.map obj)[i]? = some (obj o):=by rw [List.getElem?_map,hi]; rfl
   rw [ho,List.getElem?_map] at h1
   cases hf:aM[i]? with
   | none=>rw [hf] at h1; cases h1
   | some ob=>rw [hf] at h1; simp at h1; exact ⟨ob,rfl,h1.symm⟩),hid,ha,(fun h=>by cases h),hle,hT,by rw [List.filter_eq_self.2 (fun _ _=>rfl)]; simp [fF]⟩⟩
theorem bX.kA {k:Nat} {args aZ:List LV} {obj:Nat→cv} {base:Nat} {r:LV} (Z:List Nat) (hT:bw P G k aZ [] r []) (ha:ah obj [] Z args aZ) (hZ:∀ z∈Z,∃ et e rows,obj z=.live (.dat et e rows)∨obj z=.live (.kA et e rows)) :
  bX P G k args obj base { r:=rn (bB [] base) r,rd:=Z,wr:=fF obj Z,nw:=[] }:=
 ⟨⟨[],Z,false,aZ,[],r,[],(fun _=>true),(fun _ _ _ h=>by cases h),List.nodup_nil,(fun _ _ h=>by cases h),hZ,rfl,(fun i o h=>by simp at h),rfl,ha,(fun h=>by cases h),Nat.le_refl _,hT,rfl⟩⟩
theorem um {rv:List RV} {r:LV} {s:St} {vs:List LV} (h:xA.of s rv=some vs) (hr:ai s.obj [] [] (aW vs) r):xy rv 0 r [] s:=
 ⟨[],vs,[],[],h,rfl,List.nodup_nil,(fun _ h=>by cases h),(fun _ h=>by cases h),rfl,(fun i o h=>by simp at h),rfl,hr⟩
theorem dL {rv:List RV} {r:LV} {s:St} {vs:List LV} (Z:List Nat) (h:xA.of s rv=some vs) (hZ:∀ z∈Z,∃ et e rows,s.obj z=.live (.dat et e rows)∨s.obj z=.live (.kA et e rows)) (hr:ai s.obj [] Z (aW vs) r):xy rv 0 r [] s:=
 ⟨[],vs,[],Z,h,rfl,List.nodup_nil,(fun _ _ h=>by cases h),hZ,rfl,(fun i o h=>by simp at h),rfl,hr⟩
theorem pI {rv:List RV} {s:St} {o et e n k lo:Nat} {rows:List (List DV)} (ad:List Ad) (h:xA.of (de ad s) rv=some [.sl o n e lo k]) (ho:(de ad s).obj o=.live (.dat et e rows)):xy rv 0 (.sl 0 n e lo k) [.dat et e rows] s:=
 ⟨ad,_,[o],[],h,rfl,(by simp),(fun _ h=>by cases h),(fun _ h=>by cases h),rfl,(fun i o' h=>by
  cases i with
  | zero=>simp at h; subst h; exact ⟨_,rfl,ho⟩
  | succ i=>simp at h),rfl,by simp [aW,ai]⟩
theorem dF {rv:List RV} {r:LV} {s:St} {vs:List LV} {k:Nat} {aF:List aD} (ad:List Ad) (ρ Z:List Nat) (h:xA.of (de ad s) rv=some vs) (hk:ρ.take k=List.range k) (hnd:ρ.Nodup) (hz:∀ z∈Z,z∉ρ) (hZ:∀ z∈Z,∃ et e rows,(de ad s).obj z=.live (.dat et e rows)∨(de ad s).obj z=.live (.kA et e rows))
  (ho:ρ.map (de ad s).obj=aF.map (fun ob=>cv.live (fc (bB ρ 0) ob))) (hid:aF.all (ei ρ.length)=true) (hr:ai (de ad s).obj ρ Z (aW vs) r):xy rv k r aF s:=
 ⟨ad,vs,ρ,Z,h,hk,hnd,hz,hZ,by have:=congrArg List.length ho; simpa using this.symm,(fun i o hi=>by
  have h1:(ρ.map (de ad s).obj)[i]? = some ((de ad s).obj o):=by rw [List.getElem?_map,hi]; rfl
  rw [ho,List.getElem?_map] at h1
  cases hf:aF[i]? with
  | none=>rw [hf] at h1; cases h1
  | some ob=>rw [hf] at h1; simp at h1; exact ⟨ob,rfl,h1.symm⟩),hid,hr⟩
theorem get_map {α β:Type} {f:α→β} {l:List α} {k:Nat} (h:k<l.length):(l.map f)[k]? = some (f l[k]):=by simp [h]
theorem aL {α β:Type} {f:α→β} {l:List α} {k:Nat} (z:α) (h:k<l.length):(l.map f)[k]? = some (f (l.getD k z)):=by simp [h,List.getD]
theorem dX {k n:Nat} (h:decide ((k:Int)<(n:Int))=true):k<n:=by simpa using h
theorem d_ {k n:Nat} (h:decide ((k:Int)<(n:Int))=false) (hk:k≤n):k=n:=by
 have:¬ (k<n):=by simpa using h
 omega
@[reducible] def i64 (n:Int):DV:=.val (.int .i64 n)
@[reducible] def bl (b:Bool):DV:=.val (.bool b)
theorem aO {n:Int} (h1:-9223372036854775808≤n) (h2:n≤9223372036854775807):IntKind.i64.wrap n=n:=by
 simp [IntKind.wrap,IntKind.bits,IntKind.signed]; omega
theorem aG {k:Nat} (h:k<9223372036854775807):IntKind.i64.wrap ((k:Int)+1)=((k+1:Nat):Int):=by
 rw [aO (by omega) (by omega)]; rfl
/-- A FUNCTION KEEPS ITS CONTRACT, if its walk goes through. -/
theorem cG {f:Nat} {fn:Func} {ir:Nat×C×List RV} {args:List LV} {aM aF:List aD} {r:LV} (hf:P.funcs[f]? = some fn) (hn:(fn.name != "runtime.NumGoroutine")=true) (iH:aq P fn=some ir) (hl:Nat.ble args.length ir.1=true)
  (h:W P G (xy ir.2.2 aM.length r aF) [.c ir.2.1] ⟨fM 0 args,aM.map some⟩):bw P G f args aM r aF:=by
 refine u6 hf (by simpa using hn) (N:=ir.1) (c:=ir.2.1) (rv:=ir.2.2) iH (Nat.le_of_ble_eq_true hl) ?_
 simp only [W,Wx] at h
 exact h
mutual
theorem jq (π:Nat→Nat):∀ (x:LV),dZ 0 x=true→rn π x=x
 | .top,_=>rfl
 | .d x,_=>rfl
 | .c_,_=>rfl
 | .ptr ..,h=>by simp [dZ] at h
 | .rp ..,h=>by simp [dZ] at h
 | .ip ..,_=>rfl
 | .sl ..,h=>by simp [dZ] at h
 | .fn f a b,h=>by
   simp only [dZ,Bool.and_eq_true] at h
   simp only [rn,jI π a h.1,jI π b h.2]
 | .agg cs,h=>by simp only [dZ] at h; simp only [rn,jI π cs h]
 | .dP cs,h=>by simp only [dZ] at h; simp only [rn,jI π cs h]
 | .fe t x,h=>by simp only [dZ] at h; simp only [rn,jq π x h]
 | .yl ..,h=>by simp [dZ] at h
 | .mr ..,h=>by simp [dZ] at h
theorem jI (π:Nat→Nat):∀ (xs:List LV),ej 0 xs=true→lU π xs=xs
 | [],_=>rfl
 | x::xs,h=>by
   simp only [ej,Bool.and_eq_true] at h
   simp only [lU,jq π x h.1,jI π xs h.2]
end
mutual
theorem og (obj:Nat→cv) (ρ Z:List Nat):∀ (x:LV),dZ 0 x=true→ai obj ρ Z x x
 | .top,_=>by simp [ai]
 | .d x,_=>by simp [ai]
 | .c_,_=>by simp [ai]
 | .ptr ..,h=>by simp [dZ] at h
 | .rp ..,h=>by simp [dZ] at h
 | .ip ..,_=>by simp [ai]
 | .sl ..,h=>by simp [dZ] at h
 | .fn f a b,h=>by
   simp only [dZ,Bool.and_eq_true] at h
   simp only [ai]; exact ⟨trivial,fV obj ρ Z a h.1,fV obj ρ Z b h.2⟩
 | .agg cs,h=>by simp only [dZ] at h; simp only [ai]; exact fV obj ρ Z cs h
 | .dP cs,h=>by simp only [dZ] at h; simp only [ai]; exact fV obj ρ Z cs h
 | .fe t x,h=>by simp only [dZ] at h; simp only [ai]; exact ⟨trivial,og obj ρ Z x h⟩
 | .yl ..,h=>by simp [dZ] at h
 | .mr ..,h=>by simp [dZ] at h
theorem fV (obj:Nat→cv) (ρ Z:List Nat):∀ (xs:List LV),ej 0 xs=true→ah obj ρ Z xs xs
 | [],_=>by simp [ah]
 | x::xs,h=>by
   simp only [ej,Bool.and_eq_true] at h
   simp only [ah]; exact ⟨og obj ρ Z x h.1,fV obj ρ Z xs h.2⟩
end
theorem aC {d:Option Nat} {f:bR} {as:List bR} {pre:List Nat} {k:Nat} {fs cs aZ:List LV} {r:LV} (hT:bw P G k aZ [] r []) (hc:callee (f.ev G (bx env))=some (k,fs,cs)) (ha:fs++as.map (·.ev G (bx env))++cs=aZ) (hid:ej 0 aZ=true) (hr:dZ 0 r=true)
  (hk:W P G fin (.ops os::t) ⟨dU d r env,objs⟩):W P G fin (.ops (⟨d,.call f as,none,pre⟩::os)::t) ⟨env,objs⟩:=by
 refine tA _ hc (bX.data hT (by rw [ha]; exact fV _ _ _ _ hid)) ?_
 simpa [jq _ _ hr,fN] using hk
theorem bf {d:Option Nat} {f:bR} {as:List bR} {pre:List Nat} {k:Nat} {fs cs aZ:List LV} {r:LV} (hT:bw P G k aZ [] r []) (hc:callee (f.ev G (bx env))=some (k,fs,cs)) (ha:fs++as.map (·.ev G (bx env))++cs=aZ) (hid:ej 0 aZ=true) (hr:dZ 0 r=true)
  (hk:W P G fin (.ff os (log++[⟨pre,[],[]⟩])::t) ⟨dU d r env,objs⟩):W P G fin (.ff (⟨d,.call f as,none,pre⟩::os) log::t) ⟨env,objs⟩:=by
 refine mM _ hc (bX.data hT (by rw [ha]; exact fV _ _ _ _ hid)) ?_
 simpa [jq _ _ hr,fN,eN.owned,CE] using hk
theorem AF {d:Option Nat} {f:bR} {as:List bR} {pre:List Nat} {k:Nat} {fs cs aZ:List LV} {r:LV} (Z:List Nat) (hT:bw P G k aZ [] r []) (hc:callee (f.ev G (bx env))=some (k,fs,cs)) (ha:ah (aB objs) [] Z (fs++as.map (·.ev G (bx env))++cs) aZ)
  (hZ:∀ z∈Z,∃ et e rows,aB objs z=.live (.dat et e rows)∨aB objs z=.live (.kA et e rows)) (hj:mS r=true) (hr:dZ 0 r=true)
  (hk:W P G fin (.ops os::t) ⟨dU d r env,objs⟩):W P G fin (.ops (⟨d,.call f as,none,pre⟩::os)::t) ⟨env,objs⟩:=by
 refine tA _ hc (bX.pure Z hT ha hZ hj) ?_
 simpa [jq _ _ hr,fN] using hk
theorem xu {d:Option Nat} {f:bR} {as:List bR} {pre:List Nat} {k:Nat} {fs cs aZ:List LV} {r:LV} (Z:List Nat) (hT:bw P G k aZ [] r []) (hc:callee (f.ev G (bx env))=some (k,fs,cs)) (ha:ah (aB objs) [] Z (fs++as.map (·.ev G (bx env))++cs) aZ)
  (hZ:∀ z∈Z,∃ et e rows,aB objs z=.live (.dat et e rows)∨aB objs z=.live (.kA et e rows)) (hj:mS r=true) (hr:dZ 0 r=true)
  (hk:W P G fin (.ff os (log++[⟨pre,Z,[]⟩])::t) ⟨dU d r env,objs⟩):W P G fin (.ff (⟨d,.call f as,none,pre⟩::os) log::t) ⟨env,objs⟩:=by
 refine mM _ hc (bX.pure Z hT ha hZ hj) ?_
 simpa [jq _ _ hr,fN,eN.owned,CE] using hk
theorem oM {d:Option Nat} {f:bR} {as:List bR} {pre:List Nat} {k:Nat} {fs cs aZ:List LV} {r:LV} (Z:List Nat) (hT:bw P G k aZ [] r []) (hc:callee (f.ev G (bx env))=some (k,fs,cs)) (ha:ah (aB objs) [] Z (fs++as.map (·.ev G (bx env))++cs) aZ)
  (hZ:∀ z∈Z,∃ et e rows,aB objs z=.live (.dat et e rows)∨aB objs z=.live (.kA et e rows)) (hr:dZ 0 r=true)
  (hk:W P G fin (.ops os::t) ⟨dU d r env,fN (fF (aB objs) Z) objs⟩):W P G fin (.ops (⟨d,.call f as,none,pre⟩::os)::t) ⟨env,objs⟩:=by
 refine tA _ hc (bX.kA Z hT ha hZ) ?_
 simpa [jq _ _ hr] using hk
theorem j4 {d:Option Nat} {f:bR} {as:List bR} {pre:List Nat} {k:Nat} {fs cs aZ:List LV} {r:LV} (Z:List Nat) (hT:bw P G k aZ [] r []) (hc:callee (f.ev G (bx env))=some (k,fs,cs)) (ha:ah (aB objs) [] Z (fs++as.map (·.ev G (bx env))++cs) aZ)
  (hZ:∀ z∈Z,∃ et e rows,aB objs z=.live (.dat et e rows)∨aB objs z=.live (.kA et e rows)) (hr:dZ 0 r=true)
  (hk:W P G fin (.ff os (log++[⟨pre,Z,(fF (aB objs) Z).map (·.1)⟩])::t) ⟨dU d r env,fN (fF (aB objs) Z) objs⟩):W P G fin (.ff (⟨d,.call f as,none,pre⟩::os) log::t) ⟨env,objs⟩:=by
 refine mM _ hc (bX.kA Z hT ha hZ) ?_
 simpa [jq _ _ hr,eN.owned,CE] using hk
theorem kL {d:Option Nat} {f:bR} {as:List bR} {pre:List Nat} {k:Nat} {fs cs aZ:List LV} {r:LV} {aF:List aD} (hT:bw P G k aZ [] r aF) (hc:callee (f.ev G (bx env))=some (k,fs,cs)) (ha:fs++as.map (·.ev G (bx env))++cs=aZ) (hid:ej 0 aZ=true)
  (hk:W P G fin (.ops os::t) ⟨dU d (rn (bB [] objs.length) r) env,objs++(aF.map (fc (bB [] objs.length))).map some⟩):W P G fin (.ops (⟨d,.call f as,none,pre⟩::os)::t) ⟨env,objs⟩:=by
 refine tA _ hc (bX.data hT (by rw [ha]; exact fV _ _ _ _ hid)) ?_
 simpa [fN] using hk
theorem iU {d:Option Nat} {f:bR} {as:List bR} {pre:List Nat} {k:Nat} {fs cs aZ:List LV} {r:LV} {aF:List aD} (hT:bw P G k aZ [] r aF) (hc:callee (f.ev G (bx env))=some (k,fs,cs)) (ha:fs++as.map (·.ev G (bx env))++cs=aZ) (hid:ej 0 aZ=true)
  (hk:W P G fin (.ff os (log++[⟨pre,[],(CE objs.length (aF.map (fc (bB [] objs.length)))).map (·.1)⟩])::t) ⟨dU d (rn (bB [] objs.length) r) env,objs++(aF.map (fc (bB [] objs.length))).map some⟩):W P G fin (.ff (⟨d,.call f as,none,pre⟩::os) log::t) ⟨env,objs⟩:=by
 refine mM _ hc (bX.data hT (by rw [ha]; exact fV _ _ _ _ hid)) ?_
 simpa [fN,eN.owned] using hk
theorem aK {d:Option Nat} {f:bR} {as:List bR} {pre:List Nat} {k:Nat} {fs cs aZ:List LV} {r:LV} {aM aF:List aD} (ρ:List Nat) (hT:bw P G k aZ aM r aF) (hc:callee (f.ev G (bx env))=some (k,fs,cs)) (ha:ah (aB objs) ρ [] (fs++as.map (·.ev G (bx env))++cs) aZ)
  (hnd:ρ.Nodup) (ho:ρ.map (aB objs)=aM.map (fun ob=>cv.live (fc (bB ρ objs.length) ob))) (hid:aM.all (ei ρ.length)=true) (hle:aM.length≤aF.length)
  (hk:W P G fin (.ops os::t) ⟨dU d (rn (bB ρ objs.length) r) env,fN (ρ.zip (aF.map (fc (bB ρ objs.length)))) objs++((aF.drop ρ.length).map (fc (bB ρ objs.length))).map some⟩):W P G fin (.ops (⟨d,.call f as,none,pre⟩::os)::t) ⟨env,objs⟩:=by
 refine tA _ hc (bX.hand ρ hT ha hnd ho hid hle) ?_
 simpa using hk
theorem eS {d:Option Nat} {f:bR} {as:List bR} {pre:List Nat} {k:Nat} {fs cs aZ:List LV} {r:LV} {aM aF:List aD} (ρ:List Nat) (hT:bw P G k aZ aM r aF) (hc:callee (f.ev G (bx env))=some (k,fs,cs)) (ha:ah (aB objs) ρ [] (fs++as.map (·.ev G (bx env))++cs) aZ)
  (hnd:ρ.Nodup) (ho:ρ.map (aB objs)=aM.map (fun ob=>cv.live (fc (bB ρ objs.length) ob))) (hid:aM.all (ei ρ.length)=true) (hle:aM.length≤aF.length)
  (hk:W P G fin (.ff os (log++[⟨pre,ρ,(CE objs.length ((aF.drop ρ.length).map (fc (bB ρ objs.length)))++ρ.zip (aF.map (fc (bB ρ objs.length)))).map (·.1)⟩])::t) ⟨dU d (rn (bB ρ objs.length) r) env,fN (ρ.zip (aF.map (fc (bB ρ objs.length)))) objs++((aF.drop ρ.length).map (fc (bB ρ objs.length))).map some⟩):W P G fin (.ff (⟨d,.call f as,none,pre⟩::os) log::t) ⟨env,objs⟩:=by
 refine mM _ hc (bX.hand ρ hT ha hnd ho hid hle) ?_
 simpa [eN.owned] using hk
def sq (rv:List RV) (r:LV) (ay:List aD) (s:St):Prop:=CD rv r s∧s.objs.take ay.length=ay.map some
theorem Ij {rv:List RV} {r:LV} {ay:List aD} {s:St} : sq rv r ay s=(CD rv r s∧s.objs.take ay.length=ay.map some):=rfl
theorem I5 (π:Nat→Nat):∀ (ob:aD),ei 0 ob=true→fc π ob=ob
 | .box et cells,h=>by simp only [fc]; rw [jI π cells h]
 | .mp es,h=>by
   simp only [ei,List.all_eq_true] at h
   simp only [fc,aD.mp.injEq]
   conv=>rhs; rw [← List.map_id es]
   exact List.map_congr_left fun p hp=>by simp [jq π p.2 (h p hp)]
 | .dat ..,_=>rfl
 | .kA ..,_=>rfl
theorem Aa:(∀ (x:LV) (k:Nat),dZ 0 x=true→dZ k x=true)∧(∀ (xs:List LV) (k:Nat),ej 0 xs=true→ej k xs=true):=by
 have one:∀ n,(∀ (x:LV) (k:Nat),sizeOf x<n→dZ 0 x=true→dZ k x=true)∧(∀ (xs:List LV) (k:Nat),sizeOf xs<n→ej 0 xs=true→ej k xs=true):=by
  intro n
  induction n with
  | zero=>exact ⟨fun _ _ h=>absurd h (by omega),fun _ _ h=>absurd h (by omega)⟩
  | succ n ih=>
    refine ⟨fun x k hs h=>?_,fun xs k hs h=>?_⟩
    ·cases x <;> simp only [dZ,Bool.and_eq_true] at h ⊢ <;> (try (simp at h; done)) <;> simp at hs
     ·exact ⟨ih.2 _ k (by omega) h.1,ih.2 _ k (by omega) h.2⟩
     ·exact ih.2 _ k (by omega) h
     ·exact ih.2 _ k (by omega) h
     ·exact ih.1 _ k (by omega) h
    ·cases xs with
     | nil=>rfl
     | cons x xs=>
       simp only [ej,Bool.and_eq_true] at h ⊢
       simp at hs
       exact ⟨ih.1 _ k (by omega) h.1,ih.2 _ k (by omega) h.2⟩
 exact ⟨fun x k=>(one (sizeOf x+1)).1 x k (by omega),fun xs k=>(one (sizeOf xs+1)).2 xs k (by omega)⟩
theorem ON (k:Nat):∀ (ob:aD),ei 0 ob=true→ei k ob=true
 | .box et cells,h=>Aa.2 cells k h
 | .mp es,h=>by
   simp only [ei,List.all_eq_true] at h ⊢
   exact fun p hp=>Aa.1 _ k (h p hp)
 | .dat ..,_=>rfl
 | .kA ..,_=>rfl
theorem su {rv:List RV} {r:LV} {ay:List aD} {s:St} {k:Nat} (hs:sq rv r ay s) (hid:dZ 0 r=true) (ho:ay.all (ei 0)=true) (hk:k=ay.length):xy rv k r ay s:=by
 obtain ⟨h1,h2⟩:=hs
 unfold CD at h1
 split at h1
 ·rename_i vs hvs
  simp only [Option.some.injEq] at h1
  subst h1
  rw [List.all_eq_true] at ho
  refine ⟨[],vs,List.range k,[],hvs,by simp,List.nodup_range,(fun _ h=>by cases h),(fun _ h=>by cases h),by simp [hk],fun i o hi=>?_,?_,?_⟩
  ·have hlt:i<k:=by
    have:=(List.getElem?_eq_some_iff.1 hi).1
    simpa using this
   have mT:o=i:=by rw [List.getElem?_range hlt] at hi; cases hi; rfl
   subst mT
   have hlt':o<ay.length:=by omega
   refine ⟨ay[o],List.getElem?_eq_getElem hlt',?_⟩
   have h3:(s.objs.take ay.length)[o]? = some (some ay[o]):=by rw [h2]; simp [hlt']
   rw [List.getElem?_take_of_lt hlt'] at h3
   rw [I5 _ _ (ho _ (List.getElem_mem hlt'))]
   simp only [de,St.obj,aB,h3]
  ·rw [List.all_eq_true]; exact fun ob hob=>ON _ ob (ho ob hob)
  ·exact og _ _ _ _ hid
 ·cases h1
/-- a function over objects that hold data, that hands back data. -/
theorem CS {f:Nat} {fn:Func} {ir:Nat×C×List RV} {args:List LV} {objs ay:List aD} {r:LV} (hf:P.funcs[f]? = some fn) (hn:(fn.name != "runtime.NumGoroutine")=true) (iH:aq P fn=some ir) (hl:Nat.ble args.length ir.1=true) (hid:dZ 0 r=true) (ho:ay.all (ei 0)=true) (hlen:objs.length=ay.length)
  (h:W P G (sq ir.2.2 r ay) [.c ir.2.1] ⟨fM 0 args,objs.map some⟩):bw P G f args objs r ay:=by
 refine u6 hf (by simpa using hn) (N:=ir.1) (c:=ir.2.1) (rv:=ir.2.2) iH (Nat.le_of_ble_eq_true hl) ?_
 simp only [W,Wx] at h
 exact qH _ _ ⟨sq ir.2.2 r ay,fun _ _=>False,sq ir.2.2 r ay,sQ⟩ _ (fun s hs=>su hs hid ho hlen) (fun _ _ h=>h) (fun s hs=>su hs hid ho hlen) h
def Ends (rv:List RV) (r:LV) (s:St):Prop:=(match xA.of s rv with | some vs=>some (aW vs) | none=>none)=some r
/-- a function of data alone, that hands back what names no object. -/
theorem bn {f:Nat} {fn:Func} {ir:Nat×C×List RV} {args:List LV} {r:LV} (hf:P.funcs[f]? = some fn) (hn:(fn.name != "runtime.NumGoroutine")=true) (iH:aq P fn=some ir) (hl:Nat.ble args.length ir.1=true) (hid:dZ 0 r=true)
  (h:W P G (Ends ir.2.2 r) [.c ir.2.1] ⟨fM 0 args,[]⟩):bw P G f args [] r []:=by
 refine u6 hf (by simpa using hn) (N:=ir.1) (c:=ir.2.1) (rv:=ir.2.2) iH (Nat.le_of_ble_eq_true hl) ?_
 simp only [W,Wx] at h
 refine qH _ _ ⟨Ends ir.2.2 r,fun _ _=>False,Ends ir.2.2 r,sQ⟩ _ (fun s hs=>?_) (fun _ _ h=>h) (fun s hs=>?_) h
 all_goals
  replace hs:Ends ir.2.2 r s:=hs
  unfold Ends at hs
  split at hs
  ·rename_i vs hvs
   cases hs
   exact um hvs (og _ _ _ _ hid)
  ·cases hs
end
section
variable {P:Program} {G:Nat→Option (List DV)} {fin:St→Prop} {t:List It} {env:List (Nat×LV)} {objs:List (Option aD)} {os:List dD}
theorem Zf {n:St→Prop} {x:Nat→St→Prop} {s:St} : W P G fin (.rt n x::t) s=n s:=by simp only [W]
theorem W7 {i:Nat} {n:St→Prop} {x:Nat→St→Prop} {s:St} : Wx P G fin i (.rt n x::t) s=x i s:=by simp only [Wx]
theorem Ze {Y:YO} {s:St} : W P G fin (.yd Y::t) s=W P G fin t s:=by simp only [W]
theorem W6 {i:Nat} {Y:YO} {s:St} : Wx P G fin i (.yd Y::t) s=Wx P G fin i t s:=by simp only [Wx]
theorem W_ {g:bR} {ps:List Nat} {a b:C} {k:Nat} {fs cs:List LV} (hc:callee (g.ev G (bx env))=some (k,fs,cs)) (R:LV→List (Option aD)→Prop)
  (h1:CC P G k (fs++[.yl objs.length]++cs) (objs++[none]) (pT P G none ps a b ⟨env,objs⟩) R)
  (h2:∀ yv ay,R yv ay→(yv=jK∧W P G fin t ⟨env,ay⟩)∨(yv=jS∧fin ⟨env,ay⟩)):W P G fin (.c (.PJ g ps a b)::t) ⟨env,objs⟩:=by
 simp only [W,vc]
 have xN:callee (g.ev G (St.get ⟨env,objs⟩))=some (k,fs,cs):=hc
 rw [xN]
 exact ⟨none,R,h1,h2⟩
/-- AN ITERATOR KEEPS ITS CONTRACT, if its walk goes through. -/
theorem SU {f:Nat} {fn:Func} {ir:Nat×C×List RV} {args:List LV} {objs:List (Option aD)} {Y:YO} {R:LV→List (Option aD)→Prop} (hf:P.funcs[f]? = some fn) (hn:(fn.name != "runtime.NumGoroutine")=true) (iH:aq P fn=some ir) (hl:Nat.ble args.length ir.1=true) (TI:j7 ir.2.1=true) (Im:ir.2.2=[])
  (h:W P G (fun s=>R (s.get YS) s.objs) [.c ir.2.1,.yd Y] ⟨(YS,jK)::fM 0 args,objs⟩):CC P G f args objs Y R:=by
 refine Fh hf (by simpa using hn) (N:=ir.1) (c:=ir.2.1) (rv:=ir.2.2) iH (Nat.le_of_ble_eq_true hl) TI ?_
 simp only [W,Wx,Wy] at h
 simp only [Im,and_true]
 exact h
end
end Dv
namespace Dv
open Go
section
variable {π:Nat→Nat} {k:Nat}
mutual
theorem Df (h:∀ o,o<k→π o=o):∀ (x:LV),dZ k x=true→rn π x=x
 | .top,_=>rfl
 | .d x,_=>rfl
 | .c_,_=>rfl
 | .ptr o c,hx=>by simp only [dZ,decide_eq_true_eq] at hx; simp only [rn,h o hx]
 | .rp o n e r c,hx=>by simp only [dZ,decide_eq_true_eq] at hx; simp only [rn,h o hx]
 | .ip ..,_=>rfl
 | .sl o n e l m,hx=>by simp only [dZ,decide_eq_true_eq] at hx; simp only [rn,h o hx]
 | .fn f a b,hx=>by
   simp only [dZ,Bool.and_eq_true] at hx
   simp only [rn,oz h a hx.1,oz h b hx.2]
 | .agg cs,hx=>by simp only [dZ] at hx; simp only [rn,oz h cs hx]
 | .dP cs,hx=>by simp only [dZ] at hx; simp only [rn,oz h cs hx]
 | .fe t x,hx=>by simp only [dZ] at hx; simp only [rn,Df h x hx]
 | .yl o,hx=>by simp only [dZ,decide_eq_true_eq] at hx; simp only [rn,h o hx]
 | .mr o,hx=>by simp only [dZ,decide_eq_true_eq] at hx; simp only [rn,h o hx]
theorem oz (h:∀ o,o<k→π o=o):∀ (xs:List LV),ej k xs=true→lU π xs=xs
 | [],_=>rfl
 | x::xs,hx=>by
   simp only [ej,Bool.and_eq_true] at hx
   simp only [lU,Df h x hx.1,oz h xs hx.2]
end
theorem EU (h:∀ o,o<k→π o=o):∀ (ob:aD),ei k ob=true→fc π ob=ob
 | .box et cells,hx=>by simp only [fc]; rw [oz h cells hx]
 | .mp es,hx=>by
   simp only [ei,List.all_eq_true] at hx
   simp only [fc,aD.mp.injEq]
   conv=>rhs; rw [← List.map_id es]
   exact List.map_congr_left fun p hp=>by simp [Df h p.2 (hx p hp)]
 | .dat ..,_=>rfl
 | .kA ..,_=>rfl
end
section
variable {ρ:List Nat} {k:Nat}
mutual
theorem xl (h:∀ o,o<k→ρ[o]? = some o) (obj:Nat→cv):∀ (x:LV),dZ k x=true→ai obj ρ [] x x
 | .top,_=>by simp [ai]
 | .d x,_=>by simp [ai]
 | .c_,_=>by simp [ai]
 | .ptr o c,hx=>by simp only [dZ,decide_eq_true_eq] at hx; simp only [ai,h o hx,and_self]
 | .rp o n e r c,hx=>by simp only [dZ,decide_eq_true_eq] at hx; simp only [ai,h o hx,and_self]
 | .ip ..,_=>by simp [ai]
 | .sl o n e l m,hx=>by simp only [dZ,decide_eq_true_eq] at hx; simp only [ai,h o hx,and_self]
 | .fn f a b,hx=>by
   simp only [dZ,Bool.and_eq_true] at hx
   simp only [ai]; exact ⟨trivial,lQ h obj a hx.1,lQ h obj b hx.2⟩
 | .agg cs,hx=>by simp only [dZ] at hx; simp only [ai]; exact lQ h obj cs hx
 | .dP cs,hx=>by simp only [dZ] at hx; simp only [ai]; exact lQ h obj cs hx
 | .fe t x,hx=>by simp only [dZ] at hx; simp only [ai]; exact ⟨trivial,xl h obj x hx⟩
 | .yl o,hx=>by simp only [dZ,decide_eq_true_eq] at hx; simp only [ai,h o hx]
 | .mr o,hx=>by simp only [dZ,decide_eq_true_eq] at hx; simp only [ai,h o hx]
theorem lQ (h:∀ o,o<k→ρ[o]? = some o) (obj:Nat→cv):∀ (xs:List LV),ej k xs=true→ah obj ρ [] xs xs
 | [],_=>by simp [ah]
 | x::xs,hx=>by
   simp only [ej,Bool.and_eq_true] at hx
   simp only [ah]; exact ⟨xl h obj x hx.1,lQ h obj xs hx.2⟩
end
end
theorem ek {k o:Nat} (h:o<k):(List.range k)[o]? = some o:=List.getElem?_range h
theorem vG {k o:Nat} (h:o<k):bB (List.range k) 0 o=o:=by unfold bB; rw [ek h]
theorem Xr {rv:List RV} {r:LV} {ay:List aD} {s:St} (hs:sq rv r ay s) (hid:dZ ay.length r=true) (ho:ay.all (ei ay.length)=true):xy rv ay.length r ay s:=by
 obtain ⟨h1,h2⟩:=hs
 unfold CD at h1
 split at h1
 ·rename_i vs hvs
  simp only [Option.some.injEq] at h1
  subst h1
  have ho':=ho
  rw [List.all_eq_true] at ho
  refine ⟨[],vs,List.range ay.length,[],hvs,by simp,List.nodup_range,(fun _ h=>by cases h),(fun _ h=>by cases h),by simp,fun i o hi=>?_,?_,?_⟩
  ·have hlt:i<ay.length:=by
    have:=(List.getElem?_eq_some_iff.1 hi).1
    simpa using this
   have mT:o=i:=by rw [List.getElem?_range hlt] at hi; cases hi; rfl
   subst mT
   refine ⟨ay[o],List.getElem?_eq_getElem hlt,?_⟩
   have h3:(s.objs.take ay.length)[o]? = some (some ay[o]):=by rw [h2]; simp [hlt]
   rw [List.getElem?_take_of_lt hlt] at h3
   rw [EU (fun o h=>vG h) _ (ho _ (List.getElem_mem hlt))]
   simp only [de,St.obj,aB,h3]
  ·rw [List.length_range]; exact ho'
  ·exact xl (fun o h=>ek h) _ _ hid
 ·cases h1
/-- a function over objects that may name one another, all of which it hands back in the same places. -/
theorem aR {P:Program} {G:Nat→Option (List DV)} {f:Nat} {fn:Func} {ir:Nat×C×List RV} {args:List LV} {objs ay:List aD} {r:LV} (hf:P.funcs[f]? = some fn) (hn:(fn.name != "runtime.NumGoroutine")=true) (iH:aq P fn=some ir) (hl:Nat.ble args.length ir.1=true) (hid:dZ ay.length r=true) (ho:ay.all (ei ay.length)=true) (hlen:objs.length=ay.length)
  (h:W P G (sq ir.2.2 r ay) [.c ir.2.1] ⟨fM 0 args,objs.map some⟩):bw P G f args objs r ay:=by
 refine u6 hf (by simpa using hn) (N:=ir.1) (c:=ir.2.1) (rv:=ir.2.2) iH (Nat.le_of_ble_eq_true hl) ?_
 simp only [W,Wx] at h
 refine qH _ _ ⟨sq ir.2.2 r ay,fun _ _=>False,sq ir.2.2 r ay,sQ⟩ _ (fun s hs=>?_) (fun _ _ h=>h) (fun s hs=>?_) h
 all_goals
  rw [hlen]; exact Xr hs hid ho
theorem SA:LV.undef=.d (.val (.tuple #[])):=rfl
def qo (n:Nat) (x:I):dD:=⟨some n,x,none,[]⟩
def qm (n a:Nat):dD:=⟨some n,.mv (.t a),none,[]⟩
def qd (n:Nat) (x:I) (l:List Nat):dD:=⟨some n,x,none,l⟩
def qg (n:Nat) (x:I) (g:Nat) (b:Bool):dD:=⟨some n,x,some (g,b),[]⟩
def qe (n:Nat) (x:I) (g:Nat) (b:Bool) (l:List Nat):dD:=⟨some n,x,some (g,b),l⟩
def qn (x:I):dD:=⟨none,x,none,[]⟩
def ql (x:I) (l:List Nat):dD:=⟨none,x,none,l⟩
def qf:bR:=.c (.val (.bool false))
def qt:bR:=.c (.val (.bool true))
def qk (i:Int):bR:=.c (.val (.int .i64 i))
def q0:DV:=.val (.int .i64 0)
end Dv
namespace Dv
open Go
section
variable {G:Nat→Option (List DV)} {J:Nat→Prop} {w w':World} {ι:Nat→Nat→Option Nat} {obj:Nat→cv}
theorem aJ.still (S:aJ G J w ι obj) (hJ:∀ b,J b→w'.heap[b]? = w.heap[b]?) (hO:∀ b,Own ι obj b→w'.heap[b]? = w.heap[b]?) (hsh:∀ b,(w.shape? b).isSome=true→w'.shape? b=w.shape? b):aJ G J w' ι obj:=by
 refine ⟨fun o=>?_,S.inj,S.qq,fun b hb=>by rw [hJ b hb]; exact S.jcell b hb,fun g row hg=>?_⟩
 ·have h:=S.rep o
  have hb:∀ b,(obj o).own ι o b→w'.heap[b]? = w.heap[b]?:=fun b hb=>hO b ⟨o,hb⟩
  cases hs:obj o with
  | free=>rw [hs] at h; exact h
  | dead=>trivial
  | live ob=>
    rw [hs] at h hb
    obtain ⟨h,hkey⟩:=h
    cases ob with
    | box et cells=>
      obtain ⟨b,C,h1,h2,h3⟩:=h
      exact ⟨⟨b,C,h1,by rw [hb b h1]; exact h2,bI.mono (fun _ h=>h) hJ (fun _ _ _ h=>h) hsh _ _ h3⟩,trivial⟩
    | mp es=>
      obtain ⟨b,C,c,h1,h2,h3⟩:=h
      exact ⟨⟨b,C,c,h1,by rw [hb b h1]; exact h2,gM.mono (fun _ h=>h) hJ (fun _ _ _ h=>h) hsh _ _ h3⟩,trivial⟩
    | dat et esz rows=>
      obtain ⟨h1,h2⟩:=h
      refine ⟨⟨h1,fun b hb'=>?_⟩,hkey⟩
      obtain ⟨⟨C,h3⟩,h4⟩:=h2 b hb'
      exact ⟨⟨C,by rw [hb b hb']; exact h3⟩,bC.mono (fun _ h=>h) hJ _ _ _ _ (hb b hb') h4⟩
    | kA et esz rows=>
      obtain ⟨h1,h2⟩:=h
      refine ⟨⟨h1,fun b hb'=>?_⟩,trivial⟩
      obtain ⟨h3,h4⟩:=h2 b hb'
      exact ⟨h3,bC.mono (fun _ h=>h) hJ _ _ _ _ (hJ b h3) h4⟩
 ·obtain ⟨h1,h2,t,h3⟩:=S.wA g row hg
  exact ⟨h1,cU.mono (fun _ h=>h) hJ _ _ _ (hJ g h1) h2,t,by rw [bD (hJ g h1)]; exact h3⟩
theorem iQ {w:World} {b:Nat} (h:(w.shape? b).isSome=true):∃ C t f,w.heap[b]? = some (.cells C t f):=by
 unfold World.shape? at h
 split at h
 ·rename_i c e f hc; exact ⟨c,e,f,hc⟩
 ·cases h
structure CK (G:Nat→Option (List DV)) (obj:Nat→cv) (J:Nat→Prop) (ι:Nat→Nat→Option Nat) (w:World) (n:Nat) (W:World) (J':Nat→Prop) (ι':Nat→Nat→Option Nat):Prop where
 store:aJ G J' W ι' obj
 ext:Ext obj obj J J' ι ι' w W
 own:∀ b,Own ι' obj b→Own ι obj b∨n≤b
 std:∀ b,J' b→J b∨n≤b∨Own ι obj b
 size:n≤W.heap.size
theorem CK.start (S:aJ G J w ι obj) {W:World} (hos:W.os=w.os) (ht:W.tape=w.tape) (ho:W.output=w.output) (hs:w.heap.size≤W.heap.size) (hk:∀ b,b<w.heap.size→W.heap[b]? = w.heap[b]?):CK G obj J ι w W.heap.size W J ι:=by
 refine ⟨S.still (fun b hb=>hk b (S.AK b hb)) (fun b hb=>hk b ?_) (fun b hb=>bD (hk b ?_)),⟨⟨hos,ht,ho,hs,fun b hb _=>hk b hb,fun b hb=>bD (hk b hb),fun _ h=>h,fun _ h=>.inl h,fun _ _ _ h=>h⟩,fun _ h=>.inl h⟩,fun _ h=>.inl h,fun _ h=>.inl h,Nat.le_refl _⟩
 ·exact S.kS hb
 ·obtain ⟨C,t,f,h⟩:=iQ hb
  exact (Array.getElem?_eq_some_iff.1 h).1
theorem CK.grown {n:Nat} {W W':World} {J':Nat→Prop} {ι':Nat→Nat→Option Nat} (S:aJ G J w ι obj) (h:CK G obj J ι w n W J' ι') (hn:w.heap.size≤n) {row:Option Nat} (hg:W.grownBy W' row) (hr:∀ r,row=some r→w.heap.size≤r∧((r<n∧(W'.shape? r)=W.shape? r)∨∀ x,W.heap[r]? = some x→x.lG=false)):CK G obj J ι w n W' J' ι':=by
 have hlt:∀ b,Own ι obj b→b<w.heap.size:=fun b hb=>by
  exact S.kS hb
 have ne:∀ b,(J' b∨Own ι' obj b)→some b≠row:=fun b hb e=>by
  obtain ⟨h1,h2⟩:=hr b e.symm
  have hc:∃ x,W.heap[b]? = some x∧x.lG=true:=hb.elim (fun k=>by obtain ⟨C,t,f,k⟩:=h.store.jcell b k; exact ⟨_,k,rfl⟩) h.store.sN
  rcases h2 with ⟨h2,_⟩ | h2
  ·rcases hb with hb | hb
   ·rcases h.std b hb with k | k | k
    ·have:=S.AK b k; omega
    ·omega
    ·have:=hlt b k; omega
   ·rcases h.own b hb with k | k
    ·have:=hlt b k; omega
    ·omega
  ·obtain ⟨x,hc,hx⟩:=hc
   rw [h2 x hc] at hx; cases hx
 have blk:∀ b,(J' b∨Own ι' obj b)→W'.heap[b]? = W.heap[b]?:=fun b hb=>by
  have hc:∃ x,W.heap[b]? = some x∧x.lG=true:=hb.elim (fun k=>by obtain ⟨C,t,f,k⟩:=h.store.jcell b k; exact ⟨_,k,rfl⟩) h.store.sN
  obtain ⟨x,hc,_⟩:=hc
  exact hg.block b (Array.getElem?_eq_some_iff.1 hc).1 (ne b hb)
 have hsz:=h.ext.ev.size
 have shp:∀ b,b<W.heap.size→(W.shape? b).isSome=true→W'.shape? b=W.shape? b:=fun b hb hc=>by
  by_cases e:some b=row
  ·obtain ⟨h1,h2⟩:=hr b e.symm
   rcases h2 with ⟨_,h2⟩ | h2
   ·exact h2
   ·obtain ⟨C,t,f,k⟩:=iQ hc
    cases h2 _ k
  ·exact bD (hg.block b hb e)
 refine ⟨h.store.still (fun b hb=>blk b (.inl hb)) (fun b hb=>blk b (.inr hb)) (fun b hb=>?_),⟨⟨hg.os.trans h.ext.ev.os,hg.tape.trans h.ext.ev.tape,hg.output.trans h.ext.ev.output,Nat.le_trans hsz hg.size,fun b hb ho=>?_,fun b hb=>?_,h.ext.ev.jmono,h.ext.ev.jnew,h.ext.ev.imono⟩,h.ext.own⟩,h.own,h.std,Nat.le_trans h.size hg.size⟩
 ·obtain ⟨C,t,f,k⟩:=iQ hb
  exact shp b (Array.getElem?_eq_some_iff.1 k).1 hb
 ·rw [hg.block b (by omega) (fun e=>by have:=(hr b e.symm).1; omega)]; exact h.ext.ev.same b hb ho
 ·rw [bD (hg.block b (by omega) (fun e=>by have:=(hr b e.symm).1; omega))]; exact h.ext.ev.shape b hb
theorem CK.call {n:Nat} {W W2:World} {J':Nat→Prop} {ι':Nat→Nat→Option Nat} (S:aJ G J w ι obj) (h:CK G obj J ι w n W J' ι') (hn:w.heap.size≤n) {r:LV} {v:Value} (hA:a_ G obj obj J' ι' W r v W2):∃ J2 ι2,CK G obj J ι w n W2 J2 ι2∧cQ J2 W2 ι2 r v∧(∀ b,b<W.heap.size→¬ Own ι' obj b→W2.heap[b]? = W.heap[b]?)∧W.heap.size≤W2.heap.size:=by
 obtain ⟨J2,ι2,S2,R2,E2⟩:=hA
 have hsz:=h.size
 refine ⟨J2,ι2,⟨S2,h.ext.trans E2,fun b hb=>?_,fun b hb=>?_,Nat.le_trans h.size E2.ev.size⟩,R2,E2.ev.same,E2.ev.size⟩
 ·rcases E2.own b hb with k | k
  ·exact h.own b k
  ·exact .inr (by omega)
 ·rcases E2.ev.jnew b hb with k | k | k
  ·exact h.std b k
  ·exact .inr (.inl (by omega))
  ·rcases h.own b k with k | k
   ·exact .inr (.inr k)
   ·exact .inr (.inl k)
theorem CK.mine {n:Nat} {W:World} {J':Nat→Prop} {ι':Nat→Nat→Option Nat} (S:aJ G J w ι obj) (h:CK G obj J ι w n W J' ι') {b:Nat} (h1:w.heap.size≤b) (h2:b<n):¬ Own ι' obj b:=fun hb=>by
 rcases h.own b hb with k | k
 ·have:=S.kS k
  omega
 ·omega
end
end Dv
namespace Dv
open Go
section
variable {P:Program} {G:Nat→Option (List DV)} {N:Nat}
end
section
variable {P:Program} {G:Nat→Option (List DV)} {fin:St→Prop} {t:List It} {s:St} {env:List (Nat×LV)} {objs:List (Option aD)} {os:List dD} {log:List gC}
theorem fZ.data {k:Nat} {args aZ:List LV} {obj:Nat→cv} {base:Nat} {v:Value} (hT:Uu P G k aZ [] v []) (ha:ah obj [] [] args aZ) :
  fZ P G k args obj base v { r:=.top,rd:=[],wr:=[],nw:=[] }:=
 ⟨⟨[],[],aZ,[],[],List.nodup_nil,(fun _ h=>by cases h),(fun _ h=>by cases h),rfl,(fun i o h=>by simp at h),rfl,ha,Nat.le_refl _,hT,rfl⟩⟩
theorem fZ.hand {k:Nat} {args aZ:List LV} {obj:Nat→cv} {base:Nat} {v:Value} {aM aF:List aD} (ρ:List Nat) (hT:Uu P G k aZ aM v aF) (ha:ah obj ρ [] args aZ) (hnd:ρ.Nodup) (ho:ρ.map obj=aM.map (fun ob=>cv.live (fc (bB ρ base) ob))) (hid:aM.all (ei ρ.length)=true) (hle:aM.length≤aF.length) :
  fZ P G k args obj base v { r:=.top,rd:=ρ,wr:=ρ.zip (aF.map (fc (bB ρ base))),nw:=(aF.drop ρ.length).map (fc (bB ρ base)) }:=
 ⟨⟨ρ,[],aZ,aM,aF,hnd,(fun _ h=>by cases h),(fun _ h=>by cases h),by have:=congrArg List.length ho; simpa using this.symm,(fun i o hi=>by
   have h1:(ρ.map obj)[i]? = some (obj o):=by rw [List.getElem?_map,hi]; rfl
   rw [ho,List.getElem?_map] at h1
   cases hf:aM[i]? with
   | none=>rw [hf] at h1; cases h1
   | some ob=>rw [hf] at h1; simp at h1; exact ⟨ob,rfl,h1.symm⟩),hid,ha,hle,hT,by simp [fF]⟩⟩
end
end Dv
namespace Dv
open Go
section
variable {P:Program} {G:Nat→Option (List DV)}
theorem bX.WN {k:Nat} {args aZ:List LV} {obj:Nat→cv} {base:Nat} {r:LV} {aM aF:List aD} (ρ Z:List Nat) (hT:bw P G k aZ aM r aF) (ha:ah obj ρ Z args aZ) (hnd:ρ.Nodup) (hz:∀ z∈Z,z∉ρ) (hZ:∀ z∈Z,∃ et e rows,obj z=.live (.dat et e rows)∨obj z=.live (.kA et e rows)) (ho:ρ.map obj=aM.map (fun ob=>cv.live (fc (bB ρ base) ob))) (hid:aM.all (ei ρ.length)=true) (hle:aM.length≤aF.length) :
  bX P G k args obj base { r:=rn (bB ρ base) r,rd:=ρ++Z,wr:=ρ.zip (aF.map (fc (bB ρ base)))++fF obj Z,nw:=(aF.drop ρ.length).map (fc (bB ρ base)) }:=
 ⟨⟨ρ,Z,false,aZ,aM,r,aF,(fun _=>true),(fun _ _ _ h=>by cases h),hnd,hz,hZ,by have:=congrArg List.length ho; simpa using this.symm,(fun i o hi=>by
   have h1:(ρ.map obj)[i]? = some (obj o):=by rw [List.getElem?_map,hi]; rfl
   rw [ho,List.getElem?_map] at h1
   cases hf:aM[i]? with
   | none=>rw [hf] at h1; cases h1
   | some ob=>rw [hf] at h1; simp at h1; exact ⟨ob,rfl,h1.symm⟩),hid,ha,(fun h=>by cases h),hle,hT,by rw [List.filter_eq_self.2 (fun _ _=>rfl)]; simp⟩⟩
variable {fin:St→Prop} {env:List (Nat×LV)} {objs:List (Option aD)} {os:List dD} {t:List It} {log:List gC}
theorem xw {d:Option Nat} {f:bR} {as:List bR} {pre:List Nat} {k:Nat} {fs cs aZ:List LV} {r:LV} {aM aF:List aD} (ρ Z:List Nat) (hT:bw P G k aZ aM r aF) (hc:callee (f.ev G (bx env))=some (k,fs,cs)) (ha:ah (aB objs) ρ Z (fs++as.map (·.ev G (bx env))++cs) aZ)
  (hnd:ρ.Nodup) (hz:∀ z∈Z,z∉ρ) (hZ:∀ z∈Z,∃ et e rows,aB objs z=.live (.dat et e rows)∨aB objs z=.live (.kA et e rows)) (ho:ρ.map (aB objs)=aM.map (fun ob=>cv.live (fc (bB ρ objs.length) ob))) (hid:aM.all (ei ρ.length)=true) (hle:aM.length≤aF.length)
  (hk:W P G fin (.ff os (log++[⟨pre,ρ++Z,(CE objs.length ((aF.drop ρ.length).map (fc (bB ρ objs.length)))++(ρ.zip (aF.map (fc (bB ρ objs.length)))++fF (aB objs) Z)).map (·.1)⟩])::t) ⟨dU d (rn (bB ρ objs.length) r) env,fN (ρ.zip (aF.map (fc (bB ρ objs.length)))++fF (aB objs) Z) objs++((aF.drop ρ.length).map (fc (bB ρ objs.length))).map some⟩):W P G fin (.ff (⟨d,.call f as,none,pre⟩::os) log::t) ⟨env,objs⟩:=by
 refine mM _ hc (bX.WN ρ Z hT ha hnd hz hZ ho hid hle) ?_
 simpa [eN.owned] using hk
theorem bX.look {k:Nat} {args aZ:List LV} {obj:Nat→cv} {base:Nat} {r:LV} {aM:List aD} (ρ:List Nat) (hT:bw P G k aZ aM r aM) (ha:ah obj ρ [] args aZ) (hnd:ρ.Nodup) (ho:ρ.map obj=aM.map (fun ob=>cv.live (fc (bB ρ base) ob))) (hid:aM.all (ei ρ.length)=true) :
  bX P G k args obj base { r:=rn (bB ρ base) r,rd:=ρ,wr:=[],nw:=[] }:=by
 have hlen:aM.length=ρ.length:=by have:=congrArg List.length ho; simpa using this.symm
 refine ⟨⟨ρ,[],false,aZ,aM,r,aM,(fun _=>false),(fun _ _ _ _=>rfl),hnd,(fun _ h=>by cases h),(fun _ h=>by cases h),hlen,(fun i o hi=>?_),hid,ha,(fun h=>by cases h),Nat.le_refl _,hT,?_⟩⟩
 ·have h1:(ρ.map obj)[i]? = some (obj o):=by rw [List.getElem?_map,hi]; rfl
  rw [ho,List.getElem?_map] at h1
  cases hf:aM[i]? with
  | none=>rw [hf] at h1; cases h1
  | some ob=>rw [hf] at h1; simp at h1; exact ⟨ob,rfl,h1.symm⟩
 ·rw [List.drop_eq_nil_of_le (by omega)]
  simp [fF]
theorem gy {d:Option Nat} {f:bR} {as:List bR} {pre:List Nat} {k:Nat} {fs cs aZ:List LV} {r:LV} {aM:List aD} (ρ:List Nat) (hT:bw P G k aZ aM r aM) (hc:callee (f.ev G (bx env))=some (k,fs,cs)) (ha:ah (aB objs) ρ [] (fs++as.map (·.ev G (bx env))++cs) aZ)
  (hnd:ρ.Nodup) (ho:ρ.map (aB objs)=aM.map (fun ob=>cv.live (fc (bB ρ objs.length) ob))) (hid:aM.all (ei ρ.length)=true)
  (hk:W P G fin (.ops os::t) ⟨dU d (rn (bB ρ objs.length) r) env,objs⟩):W P G fin (.ops (⟨d,.call f as,none,pre⟩::os)::t) ⟨env,objs⟩:=by
 refine tA _ hc (bX.look ρ hT ha hnd ho hid) ?_
 simpa [fN] using hk
theorem er {d:Option Nat} {f:bR} {as:List bR} {pre:List Nat} {k:Nat} {fs cs aZ:List LV} {r:LV} {aM:List aD} (ρ:List Nat) (hT:bw P G k aZ aM r aM) (hc:callee (f.ev G (bx env))=some (k,fs,cs)) (ha:ah (aB objs) ρ [] (fs++as.map (·.ev G (bx env))++cs) aZ)
  (hnd:ρ.Nodup) (ho:ρ.map (aB objs)=aM.map (fun ob=>cv.live (fc (bB ρ objs.length) ob))) (hid:aM.all (ei ρ.length)=true)
  (hk:W P G fin (.ff os (log++[⟨pre,ρ,[]⟩])::t) ⟨dU d (rn (bB ρ objs.length) r) env,objs⟩):W P G fin (.ff (⟨d,.call f as,none,pre⟩::os) log::t) ⟨env,objs⟩:=by
 refine mM _ hc (bX.look ρ hT ha hnd ho hid) ?_
 simpa [eN.owned,fN,CE] using hk
end
end Dv
namespace Dv
open Go
section
variable {P:Program} {G:Nat→Option (List DV)} {J J0:Nat→Prop} {w w0:World} {ι cw:Nat→Nat→Option Nat}
theorem O_ {fn:Func} {rv:List RV} {r:LV} {rs:List LV} (Z:List Nat) {s:St} {tmps:Array Value} (S:aJ G J w ι s.obj) (he:∀ t,cQ J w ι (s.get t) (tmps.getD t Go.undef)) (S0:aJ G J0 w0 cw (aB [])) (E:Ext (aB []) s.obj J0 J cw ι w0 w)
  (Im:oK P fn.results.toList=some rv) (yR:xA.of s rv=some rs) (xO:∀ z∈Z,∃ et e rows,s.obj z=.live (.dat et e rows)∨s.obj z=.live (.kA et e rows)) (hR:ai s.obj [] Z (aW rs) r) :
  ∃ v,(results fn tmps).run P w=.ok v w∧a_ G (aB []) (aB []) J0 cw w0 r v w:=by
 obtain ⟨us,R_,xK⟩:=xA.sound (a:={ tmps:=tmps,defers:=[] }) S he Im yR
 have hm:(fn.results.mapM (Bf tmps)).run P w=.ok us.toArray w:=by
  rw [Array.mapM_eq_mapM_toList,Sem.run_map,R_]; rfl
 have hv:∃ v,(results fn tmps).run P w=.ok v w∧cQ J w ι (aW rs) v:=by
  refine ⟨if h:us.toArray.size=1 then us.toArray[0] else .tuple us.toArray,?_,?_⟩
  ·rw [pU,Sem.run_bind,hm]
   rfl
  ·have Kj:=xK.length
   cases rs with
   | nil=>
     cases us with
     | nil=>exact ⟨#[],rfl,trivial⟩
     | cons _ _=>simp at Kj
   | cons x xs=>
     cases us with
     | nil=>simp at Kj
     | cons u us=>
       cases xs with
       | nil=>
         cases us with
         | nil=>exact xK.1
         | cons _ _=>simp at Kj
       | cons y ys=>
         cases us with
         | nil=>simp at Kj
         | cons u2 us=>exact ⟨_,by simp,xK⟩
 obtain ⟨v,hv1,Ki⟩:=hv
 refine ⟨v,hv1,?_⟩
 obtain ⟨S',hown⟩:=S.sub (ρ:=[]) (Z:=Z) (aM:=[]) (base:=0) List.nodup_nil (fun _ _ h=>by cases h) rfl (fun i o h=>by simp at h) rfl xO
 refine ⟨_,_,S',mK S _ _ v hR Ki,⟨E.ev.os,E.ev.tape,E.ev.output,E.ev.size,E.ev.same,E.ev.shape,fun b hb=>.inl (E.ev.jmono b hb),fun b hb=>?_,fun o n b hb=>?_⟩,?_⟩
 ·rcases hb with hb | ⟨z,VM,Kh⟩
  ·exact E.ev.jnew b hb
  ·rcases E.own b ⟨z,Kh⟩ with h1 | h1
   ·exact .inr (.inr h1)
   ·exact .inr (.inl h1)
 ·have:=S0.rep o
  rw [cR (by simp)] at this
  rw [this n] at hb; cases hb
 ·rintro b ⟨i,hb⟩
  obtain ⟨o,_,h2⟩:=hown i b hb
  exact E.own b ⟨o,h2⟩
end
section
variable {P:Program} {G:Nat→Option (List DV)} {D:Dk} {N:Nat} {br:Nat→cv} {J0:Nat→Prop} {cw:Nat→Nat→Option Nat} {w0:World} {Q:Exit→Act→World→Prop}
theorem Po {args:List LV} {vs:Array Value} {n:Nat} {w:World} {aM:List aD} (S0:aJ G J0 w cw (aB (aM.map some))) (hargs:bW J0 w cw args vs.toList) (hn:args.length≤n) (hl:n≤YS:=by decide) :
  oq G (Dk.plain [] false) n (aB (aM.map some)) J0 cw w ⟨fM 0 args,aM.map some⟩ { tmps:=vs++Array.replicate (n-vs.size) Go.undef,defers:=[] } w:=by
 refine ⟨J0,cw,⟨S0,fun t=>?_,?_,Marks.plain _ _,trivial,hl⟩,Ext.refl ..⟩
 ·have h1:=mL args vs.toList 0 t hargs
  simp only [Nat.zero_le,if_true,Nat.sub_zero] at h1
  have h2:(vs++Array.replicate (n-vs.size) Go.undef).getD t Go.undef=(vs.toList[t]?).getD Go.undef:=by
   simp only [Array.getD_eq_getD_getElem?,Array.getElem?_append,Array.getElem?_toList]
   by_cases ht:t<vs.size
   ·rw [if_pos ht]
   ·rw [if_neg ht,Array.getElem?_eq_none (Nat.le_of_not_lt ht),Array.getElem?_replicate]
    split <;> rfl
  rw [h2]; exact h1
 ·have hvl:vs.size=args.length:=by have:=hargs.length; simpa using this.symm
  simp; omega
end
section
variable {P:Program} {G G0:Nat→Option (List DV)} {J J':Nat→Prop} {w w':World} {ι ι':Nat→Nat→Option Nat} {obj obj':Nat→cv}
theorem aJ.less (S:aJ G J w ι obj) (hG:∀ g row,G0 g=some row→G g=some row):aJ G0 J w ι obj:=⟨S.rep,S.inj,S.qq,S.jcell,fun g row h=>S.wA g row (hG g row h)⟩
theorem a_.more {r:LV} {v:Value} (S:aJ G J w ι obj) (h:a_ G0 obj obj' J ι w r v w'):a_ G obj obj' J ι w r v w':=by
 obtain ⟨J',ι',S',R,E⟩:=h
 refine ⟨J',ι',⟨S'.rep,S'.inj,S'.qq,S'.jcell,fun g row hg=>?_⟩,R,E⟩
 obtain ⟨h1,h2,t,h3⟩:=S.wA g row hg
 exact ⟨E.ev.jmono g h1,h2.ev S E.ev h1,t,by rw [E.ev.shape g (S.AK g h1)]; exact h3⟩
theorem bw.up {f:Nat} {args:List LV} {objs ay:List aD} {r:LV} (h:bw P G0 f args objs r ay) (hG:∀ g row,G0 g=some row→G g=some row):bw P G f args objs r ay:=by
 refine ⟨h.1,fun J ι w vs S hargs=>(h.2 J ι w vs (S.less hG) hargs).mono fun e w' hr=>?_⟩
 obtain ⟨v,he,hA⟩:=hr
 exact ⟨v,he,a_.more S hA⟩
theorem a_.Me {r:LV} {v:Value} (S:aJ G J w ι obj) (hb:RowKit.Below w.heap.size w w') (hr:∀ J' w' ι',cQ J' w' ι' r v):a_ G obj obj J ι w r v w':=by
 have hsame:∀ b,b<w.heap.size→w'.heap[b]? = w.heap[b]?:=fun b h=>hb.block b h
 have hE:Ev (Own ι obj) J J ι ι w w':=⟨hb.os,hb.tape,hb.output,hb.size,fun b h _=>hsame b h,fun b h=>bD (hsame b h),fun _ h=>h,fun _ h=>.inl h,fun _ _ _ h=>h⟩
 refine ⟨J,ι,S.still (fun b h=>hsame b (S.AK b h)) (fun b h=>hsame b (S.kS h)) (fun b h=>bD (hsame b (fI h))),hr _ _ _,hE,fun b h=>.inl h⟩
end
end Dv
