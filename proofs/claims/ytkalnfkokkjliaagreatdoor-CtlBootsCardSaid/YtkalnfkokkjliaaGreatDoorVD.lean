/- The logical machine and its plain laws: parts V17, V18, V19, V20, V25, V21, V26, proved sound. -/
import Derived.Test.YtkalnfkokkjliaaGreatDoorVC
import Derived.KernelRfl
import Derived.Below
set_option linter.unusedVariables false
set_option linter.unusedSimpArgs false
namespace Dv
open Go
class NC (i:I):Prop where
 h:∀ f as,i≠.call f as
instance {a} : NC (.mv a):=⟨nofun⟩
instance {a b c} : NC (.pick a b c):=⟨nofun⟩
instance {a b} : NC (.new a b):=⟨nofun⟩
instance {a b} : NC (.box a b):=⟨nofun⟩
instance {a b} : NC (.build a b):=⟨nofun⟩
instance {a b c} : NC (.O0 a b c):=⟨nofun⟩
instance {a} : NC (.ld1 a):=⟨nofun⟩
instance {a b} : NC (.HV a b):=⟨nofun⟩
instance {a b c} : NC (.st a b c):=⟨nofun⟩
instance {a} : NC (.yJ a):=⟨nofun⟩
instance {a b c} : NC (.bin a b c):=⟨nofun⟩
instance {a b c} : NC (.YL a b c):=⟨nofun⟩
instance {a} : NC (.not a):=⟨nofun⟩
instance {a b} : NC (.cvt a b):=⟨nofun⟩
instance {a b} : NC (.nI a b):=⟨nofun⟩
instance {a b} : NC (.SY a b):=⟨nofun⟩
instance {a b c} : NC (.SX a b c):=⟨nofun⟩
instance {a b c} : NC (.sM a b c):=⟨nofun⟩
instance {a b c d} : NC (.Zg a b c d):=⟨nofun⟩
instance {a b c} : NC (.ix1 a b c):=⟨nofun⟩
instance {a b} : NC (.ixs a b):=⟨nofun⟩
instance {a} : NC (.len a):=⟨nofun⟩
instance {a} : NC (.lens a):=⟨nofun⟩
instance {a b c} : NC (.mkf a b c):=⟨nofun⟩
instance {a b} : NC (.ext a b):=⟨nofun⟩
instance {a b c d e} : NC (.app a b c d e):=⟨nofun⟩
instance {a b} : NC (.min a b):=⟨nofun⟩
instance {a b} : NC (.max a b):=⟨nofun⟩
instance {a b} : NC (.Ke a b):=⟨nofun⟩
instance {a b} : NC (.Kc a b):=⟨nofun⟩
instance {a b c d} : NC (.eqs a b c d):=⟨nofun⟩
instance {a} : NC (.neg a):=⟨nofun⟩
instance {a b c d} : NC (.ixn a b c d):=⟨nofun⟩
instance {a b c d e} : NC (.Yt a b c d e):=⟨nofun⟩
instance {a b c} : NC (.sls a b c):=⟨nofun⟩
instance {a} : NC (.more a):=⟨nofun⟩
inductive It where
 | c (code:C)
 | ops (l:List eo)
 | gd (l:List eo) (log:List iS)
 | blk (i:Nat)
 | lp (ts:List Nat) (m:Nat) (I:Nat→St→Prop) (k:Nat)
 | pn (p:St→Prop)
 | yt (p:Nat) (pre:List Nat) (l:List eo) (log:List iS)
 | yd (Y:YO)
 | bs (B:Nat)
 | rt (n:St→Prop) (x:Nat→St→Prop)
def Wy:List It→YO
 | []=>qS
 | .yd Y::_=>Y
 | .c _::t=>Wy t
 | .ops _::t=>Wy t
 | .gd _ _::t=>Wy t
 | .blk _::t=>Wy t
 | .lp _ _ _ _::t=>Wy t
 | .pn _::t=>Wy t
 | .yt _ _ _ _::t=>Wy t
 | .rt _ _::_=>qS
 | .bs _::t=>Wy t
def Wb:List It→Option Nat
 | []=>none
 | .bs B::_=>some B
 | .yd _::_=>none
 | .c _::t=>Wb t
 | .ops _::t=>Wb t
 | .gd _ _::t=>Wb t
 | .blk _::t=>Wb t
 | .lp _ _ _ _::t=>Wb t
 | .pn _::t=>Wb t
 | .yt _ _ _ _::t=>Wb t
 | .rt _ _::_=>none
section
variable (P:Program) (G:Nat→Option (List DV)) (fin:St→Prop)
mutual
def W:List It→St→Prop
 | [],s=>fin s
 | .c code::t,s=>vc P G code s ⟨W t,fun i s'=>Wx i t s',fin,Wy t,Wb t⟩
 | .ops l::t,s=>gO P G (Wy t) (fun v s'=>Wx iq t (jW v s')) l s (W t)
 | .gd l log::t,s=>e6 P G (fun v s'=>Wx iq t (jW v s')) l s log (fun s' ig=>indep ig=true∧W t s')
 | .yt p pre l log::_,s=>o9 P G p pre l s log
 | .pn _::t,s=>W t s
 | .yd _::t,s=>W t s
 | .bs _::t,s=>W t s
 | .rt n _::_,s=>n s
 | .blk _::t,s=>W t s
 | .lp ts m I k::t,s=>∃ j,j<k∧∃ s3,I j s3∧Da G (zH (Wb t) m) s s3
def Wx (i:Nat):List It→St→Prop
 | [],_=>False
 | .c _::t,s=>Wx i t s
 | .ops _::t,s=>Wx i t s
 | .gd _ _::t,s=>Wx i t s
 | .blk j::t,s=>if i=j then W t s else Wx i t s
 | .lp _ _ _ _::t,s=>Wx i t s
 | .pn p::t,s=>if i=iq then p s else Wx i t s
 | .yt _ _ _ _::t,s=>Wx i t s
 | .yd _::t,s=>Wx i t s
 | .bs _::t,s=>Wx i t s
 | .rt _ x::_,s=>x i s
end
end
section
variable (P:Program) (G:Nat→Option (List DV)) (fin:St→Prop)
def WE (o:Option fA) (d:Option Nat) (os:List eo) (t:List It) (env:List (Nat×LV)) (ag:List (Option aG)):Prop:=match o with
 | some e=>W P G fin (.ops os::t) ⟨ej d e.r env,ga e.wr ag++e.nw.map some⟩
 | none=>False
def WED (o:Option fA) (d:Option Nat) (pre:List Nat) (os:List eo) (log:List iS) (t:List It) (env:List (Nat×LV)) (ag:List (Option aG)):Prop:=match o with
 | some e=>W P G fin (.gd os (log++[⟨pre,e.rd,(e.owned ag.length).map (·.1)⟩])::t) ⟨ej d e.r env,ga e.wr ag++e.nw.map some⟩
 | none=>False
def WG (v:LV) (want:Bool) (d:Option Nat) (i:I) (pre:List Nat) (os:List eo) (t:List It) (env:List (Nat×LV)) (ag:List (Option aG)):Prop:=match v with
 | .d (.val (.bool b))=>if b=want then W P G fin (.ops (⟨d,i,none,pre⟩::os)::t) ⟨env,ag⟩ else W P G fin (.ops os::t) ⟨ej d .undef env,ag⟩
 | .d (.val (.tuple _))=>W P G fin (.ops os::t) ⟨ej d .undef env,ag⟩
 | _=>False
def IW (v:LV) (want:Bool) (d:Option Nat) (i:I) (pre:List Nat) (os:List eo) (log:List iS) (t:List It) (env:List (Nat×LV)) (ag:List (Option aG)):Prop:=match v with
 | .d (.val (.bool b))=>if b=want then W P G fin (.gd (⟨d,i,none,pre⟩::os) log::t) ⟨env,ag⟩ else W P G fin (.gd os (log++[⟨pre,[],[]⟩])::t) ⟨ej d .undef env,ag⟩
 | .d (.val (.tuple _))=>W P G fin (.gd os (log++[⟨pre,[],[]⟩])::t) ⟨ej d .undef env,ag⟩
 | _=>False
def WC (v:LV) (a b:C) (t:List It) (env:List (Nat×LV)) (ag:List (Option aG)):Prop:=match v with
 | .d (.val (.bool x))=>if x=true then W P G fin (.c a::t) ⟨env,ag⟩ else W P G fin (.c b::t) ⟨env,ag⟩
 | .dW=>W P G fin (.c a::t) ⟨env,ag⟩∧W P G fin (.c b::t) ⟨env,ag⟩
 | _=>False
end
section
variable {P:Program} {G:Nat→Option (List DV)} {fin:St→Prop} {t:List It} {s:St} {env:List (Nat×LV)} {ag:List (Option aG)} {os:List eo} {log:List iS}
theorem aa2:W P G fin [] s=fin s:=by simp only [W]
theorem aaY {a b:C} : W P G fin (.c (.seq a b)::t) s=W P G fin (.c a::.c b::t) s:=by simp only [W,vc,Wx,Wy,Wb]
theorem Yk:W P G fin (.c .skip::t) s=W P G fin t s:=by simp only [W,vc]
theorem aa0:W P G fin (.c .ret::t) s=fin s:=by simp only [W,vc]
theorem Yn {i:Nat} : W P G fin (.c (.exit i)::t) s=Wx P G fin i t s:=by simp only [W,vc]
theorem Tm {b:C} : W P G fin (.c (.scope b)::t) s=W P G fin (.c b::t) s:=by simp only [W,vc]
theorem To {i:Nat} {b:C} : W P G fin (.c (.block i b)::t) s=W P G fin (.c b::.blk i::t) s:=by simp only [W,vc,Wx,Wy,Wb]
theorem aa7 {i:Nat} : W P G fin (.blk i::t) s=W P G fin t s:=by simp only [W]
theorem aa1 {l:List eo} : W P G fin (.c (.kH l)::t) s=W P G fin (.ops l::t) s:=by simp only [W,vc]
theorem Yl {l:List eo} : W P G fin (.c (.sC l)::t) s=W P G fin (.gd l []::t) s:=by simp only [W,vc]
theorem Yq {c:bY} {a b:C} : W P G fin (.c (.cond c a b)::t) ⟨env,ag⟩=WC P G fin (c.ev G (aO env)) a b t env ag:=by simp only [W,vc,WC]; rfl
theorem aa9 {a b:C} : WC P G fin (.d (.val (.bool true))) a b t env ag=W P G fin (.c a::t) ⟨env,ag⟩:=by simp only [WC,if_true]
theorem aa_ {a b:C} : WC P G fin (.d (.val (.bool false))) a b t env ag=W P G fin (.c b::t) ⟨env,ag⟩:=by simp [WC]
theorem Yr {a b:C} : WC P G fin .dW a b t env ag=(W P G fin (.c a::t) ⟨env,ag⟩∧W P G fin (.c b::t) ⟨env,ag⟩):=by simp only [WC]
theorem aJ {x:Bool} {a b:C} (h1:x=true→W P G fin (.c a::t) ⟨env,ag⟩) (h2:x=false→W P G fin (.c b::t) ⟨env,ag⟩):WC P G fin (.d (.val (.bool x))) a b t env ag:=by
 cases x
 ·rw [aa_]; exact h2 rfl
 ·rw [aa9]; exact h1 rfl
theorem aa5 {ts:List Nat} {m:Nat} {I:Nat→St→Prop} {k:Nat} : W P G fin (.lp ts m I k::t) s=(∃ j,j<k∧∃ s3,I j s3∧Da G (zH (Wb t) m) s s3):=by simp only [W]
theorem acf {i:Nat} {x:C} : Wx P G fin i (.c x::t) s=Wx P G fin i t s:=by simp only [Wx]
theorem Yi {i:Nat} {x:List eo} : Wx P G fin i (.ops x::t) s=Wx P G fin i t s:=by simp only [Wx]
theorem aaW {i:Nat} {ts:List Nat} {m:Nat} {I:Nat→St→Prop} {k:Nat} : Wx P G fin i (.lp ts m I k::t) s=Wx P G fin i t s:=by simp only [Wx]
theorem aci {B:Nat} : W P G fin (.bs B::t) s=W P G fin t s:=by simp only [W]
theorem aaX {i B:Nat} : Wx P G fin i (.bs B::t) s=Wx P G fin i t s:=by simp only [Wx]
theorem Yj {i j:Nat} : Wx P G fin i (.blk j::t) s=if i=j then W P G fin t s else Wx P G fin i t s:=by simp only [Wx]
theorem Ym {b:C} (ts:List Nat) (ad:List Ad) (I:Nat→St→Prop) (N:Nat) (h0:I N { (bX ad s) with env:=ts.map fun t=>(t,(bX ad s).get t) }) (h:∀ k s',I k s'→W P G fin (.c b::.lp ts (bX ad s).ag.length I k::t) s'):W P G fin (.c (.loop b)::t) s:=by
 simp only [W,vc]
 refine ⟨ts,I,N,ad,h0,fun k s' hk=>?_⟩
 have:=h k s' hk
 simp only [W,Wx,Wy,Wb] at this
 exact this
def Fs {α:Type} (Inv:α→Prop) (μ:α→Nat) (S:α→St):Nat→St→Prop:=fun m s=>∃ a,Inv a∧m=μ a∧s=S a
theorem aP {α:Type} {b:C} (ts:List Nat) (ad:List Ad) (Inv:α→Prop) (μ:α→Nat) (S:α→St) (a0:α) (hS:({ (bX ad s) with env:=ts.map fun t=>(t,(bX ad s).get t) } : St)=S a0) (h0:Inv a0)
  (h:∀ a,Inv a→W P G fin (.c b::.lp ts (bX ad s).ag.length (Fs Inv μ S) (μ a)::t) (S a)):W P G fin (.c (.loop b)::t) s:=
 Ym ts ad (Fs Inv μ S) (μ a0) ⟨a0,h0,rfl,hS⟩ (fun k s' ⟨a,h1,h2,h3⟩=>by subst h2; subst h3; exact h a h1)
theorem aR {α:Type} {ts:List Nat} {m:Nat} {Inv:α→Prop} {μ:α→Nat} {S:α→St} {k:Nat} (a':α) (hok:s.Ce ts m) (hS:s.keep ts m=S a') (hI:Inv a') (ZY:μ a'<k):W P G fin (.lp ts m (Fs Inv μ S) k::t) s:=by
 rw [aa5]; exact ⟨μ a',ZY,_,⟨a',hI,rfl,rfl⟩,hS ▸ Da.le (Td _ _) (Da.keep hok)⟩
theorem aa3 {α:Type} {ts:List Nat} {m:Nat} {Inv:α→Prop} {μ:α→Nat} {S:α→St} {k:Nat} (a':α) (himp:Da G (zH (Wb t) m) s (S a')) (hI:Inv a') (ZY:μ a'<k):W P G fin (.lp ts m (Fs Inv μ S) k::t) s:=by
 rw [aa5]; exact ⟨μ a',ZY,_,⟨a',hI,rfl,rfl⟩,himp⟩
theorem Lr:W P G fin (.ops []::t) s=W P G fin t s:=by simp only [W,gO]
theorem OJ (h:(log.all fun e=>e.wr.isEmpty)=true):W P G fin (.gd [] log::t) s=W P G fin t s:=by
 simp only [W,e6,indep,h,Bool.true_or]; exact propext ⟨fun h=>h.2,fun h=>⟨trivial,h⟩⟩
theorem az (h:indep log=true) (hk:W P G fin t s):W P G fin (.gd [] log::t) s:=by simp only [W,e6]; exact ⟨h,hk⟩
theorem Tn {d:Option Nat} {i:I} {g:Nat} {want:Bool} {pre:List Nat} : W P G fin (.ops (⟨d,i,some (g,want),pre⟩::os)::t) ⟨env,ag⟩=WG P G fin (aO env g) want d i pre os t env ag:=by simp only [W,gO,xD,xE,WG]; rfl
theorem OK {d:Option Nat} {i:I} {g:Nat} {want:Bool} {pre:List Nat} : W P G fin (.gd (⟨d,i,some (g,want),pre⟩::os) log::t) ⟨env,ag⟩=IW P G fin (aO env g) want d i pre os log t env ag:=by simp only [W,e6,xD,xE,IW]; rfl
theorem Wi {d:Option Nat} {i:I} {pre:List Nat} : WG P G fin (.d (.val (.bool true))) true d i pre os t env ag=W P G fin (.ops (⟨d,i,none,pre⟩::os)::t) ⟨env,ag⟩:=by simp only [WG,if_true]
theorem Wl {d:Option Nat} {i:I} {pre:List Nat} : WG P G fin (.d (.val (.bool false))) false d i pre os t env ag=W P G fin (.ops (⟨d,i,none,pre⟩::os)::t) ⟨env,ag⟩:=by simp only [WG,if_true]
theorem Wj {d:Option Nat} {i:I} {pre:List Nat} : WG P G fin (.d (.val (.bool true))) false d i pre os t env ag=W P G fin (.ops os::t) ⟨ej d .undef env,ag⟩:=by simp [WG]
theorem Wk {d:Option Nat} {i:I} {pre:List Nat} : WG P G fin (.d (.val (.bool false))) true d i pre os t env ag=W P G fin (.ops os::t) ⟨ej d .undef env,ag⟩:=by simp [WG]
theorem acj {d:Option Nat} {i:I} {pre:List Nat} {want:Bool} {v:Array Value} : WG P G fin (.d (.val (.tuple v))) want d i pre os t env ag=W P G fin (.ops os::t) ⟨ej d .undef env,ag⟩:=by simp only [WG]
theorem bI {x want:Bool} {d:Option Nat} {i:I} {pre:List Nat} (h1:x=want→W P G fin (.ops (⟨d,i,none,pre⟩::os)::t) ⟨env,ag⟩) (h2:x=(!want)→W P G fin (.ops os::t) ⟨ej d .undef env,ag⟩):WG P G fin (.d (.val (.bool x))) want d i pre os t env ag:=by
 cases x <;> cases want
 ·rw [Wl]; exact h1 rfl
 ·rw [Wk]; exact h2 rfl
 ·rw [Wj]; exact h2 rfl
 ·rw [Wi]; exact h1 rfl
theorem OL {d:Option Nat} {i:I} {pre:List Nat} : IW P G fin (.d (.val (.bool true))) true d i pre os log t env ag=W P G fin (.gd (⟨d,i,none,pre⟩::os) log::t) ⟨env,ag⟩:=by simp only [IW,if_true]
theorem OO {d:Option Nat} {i:I} {pre:List Nat} : IW P G fin (.d (.val (.bool false))) false d i pre os log t env ag=W P G fin (.gd (⟨d,i,none,pre⟩::os) log::t) ⟨env,ag⟩:=by simp only [IW,if_true]
theorem OM {d:Option Nat} {i:I} {pre:List Nat} : IW P G fin (.d (.val (.bool true))) false d i pre os log t env ag=W P G fin (.gd os (log++[⟨pre,[],[]⟩])::t) ⟨ej d .undef env,ag⟩:=by simp [IW]
theorem ON {d:Option Nat} {i:I} {pre:List Nat} : IW P G fin (.d (.val (.bool false))) true d i pre os log t env ag=W P G fin (.gd os (log++[⟨pre,[],[]⟩])::t) ⟨ej d .undef env,ag⟩:=by simp [IW]
theorem aa8 {d:Option Nat} {i:I} {pre:List Nat} {want:Bool} {v:Array Value} : IW P G fin (.d (.val (.tuple v))) want d i pre os log t env ag=W P G fin (.gd os (log++[⟨pre,[],[]⟩])::t) ⟨ej d .undef env,ag⟩:=by simp only [IW]
theorem i_ {x want:Bool} {d:Option Nat} {i:I} {pre:List Nat} (h1:x=want→W P G fin (.gd (⟨d,i,none,pre⟩::os) log::t) ⟨env,ag⟩) (h2:x=(!want)→W P G fin (.gd os (log++[⟨pre,[],[]⟩])::t) ⟨ej d .undef env,ag⟩):IW P G fin (.d (.val (.bool x))) want d i pre os log t env ag:=by
 cases x <;> cases want
 ·rw [OO]; exact h1 rfl
 ·rw [ON]; exact h2 rfl
 ·rw [OM]; exact h2 rfl
 ·rw [OL]; exact h1 rfl
theorem cc {x want:Bool} {d:Option Nat} {i:I} {pre:List Nat} (h1:x=(!want)→W P G fin (.ops (⟨d,i,none,pre⟩::os)::t) ⟨env,ag⟩) (h2:x=want→W P G fin (.ops os::t) ⟨ej d .undef env,ag⟩):WG P G fin (.d (.val (.bool (!x)))) want d i pre os t env ag:=
 bI (fun h=>h1 (by cases x <;> cases want <;> simp_all)) (fun h=>h2 (by cases x <;> cases want <;> simp_all))
theorem Ht {x want:Bool} {d:Option Nat} {i:I} {pre:List Nat} (h1:x=(!want)→W P G fin (.gd (⟨d,i,none,pre⟩::os) log::t) ⟨env,ag⟩) (h2:x=want→W P G fin (.gd os (log++[⟨pre,[],[]⟩])::t) ⟨ej d .undef env,ag⟩):IW P G fin (.d (.val (.bool (!x)))) want d i pre os log t env ag:=
 i_ (fun h=>h1 (by cases x <;> cases want <;> simp_all)) (fun h=>h2 (by cases x <;> cases want <;> simp_all))
theorem cE {x:Bool} {a b:C} (h1:x=false→W P G fin (.c a::t) ⟨env,ag⟩) (h2:x=true→W P G fin (.c b::t) ⟨env,ag⟩):WC P G fin (.d (.val (.bool (!x)))) a b t env ag:=
 aJ (fun h=>h1 (by simpa using h)) (fun h=>h2 (by simpa using h))
theorem Tp {d:Option Nat} {e:fA} : WE P G fin (some e) d os t env ag=W P G fin (.ops os::t) ⟨ej d e.r env,ga e.wr ag++e.nw.map some⟩:=by simp only [WE]
theorem OP {d:Option Nat} {e:fA} {pre:List Nat} : WED P G fin (some e) d pre os log t env ag=W P G fin (.gd os (log++[⟨pre,e.rd,(e.owned ag.length).map (·.1)⟩])::t) ⟨ej d e.r env,ga e.wr ag++e.nw.map some⟩:=by simp only [WED]
theorem aa6 {d:Option Nat} {i:I} {pre:List Nat} (hi:∀ f as,i≠.call f as):W P G fin (.ops (⟨d,i,none,pre⟩::os)::t) ⟨env,ag⟩=WE P G fin (cR G (aO env) (ay ag) ag.length i) d os t env ag:=by
 simp only [W,gO,xD,xE,WE]
 cases i <;> first | rfl | exact absurd rfl (hi _ _)
theorem Yp {d:Option Nat} {i:I} {pre:List Nat} (hi:∀ f as,i≠.call f as):W P G fin (.gd (⟨d,i,none,pre⟩::os) log::t) ⟨env,ag⟩=WED P G fin (cR G (aO env) (ay ag) ag.length i) d pre os log t env ag:=by
 simp only [W,e6,xD,xE,WED]
 cases i <;> first | rfl | exact absurd rfl (hi _ _)
theorem Yo {d:Option Nat} {i:I} [hi:NC i] {pre:List Nat} : W P G fin (.ops (⟨d,i,none,pre⟩::os)::t) ⟨env,ag⟩=WE P G fin (cR G (aO env) (ay ag) ag.length i) d os t env ag:=aa6 hi.h
theorem Tq {d:Option Nat} {i:I} [hi:NC i] {pre:List Nat} : W P G fin (.gd (⟨d,i,none,pre⟩::os) log::t) ⟨env,ag⟩=WED P G fin (cR G (aO env) (ay ag) ag.length i) d pre os log t env ag:=Yp hi.h
end
section
variable {P:Program} {G:Nat→Option (List DV)}
def uG (Y:YO):Prop:=∀ a o y K K',(∀ y b o,K y b o→K' y b o)→Y a o y K→Y a o y K'
theorem uG.no:uG qS:=fun _ _ _ _ _ _ h=>h.elim
theorem Di {Y:YO} (hm:uG Y) {X X':Value→fA→St→Prop} {o:eo} {s:St} {K K':St→fA→Prop} (hX:∀ v e s,X v e s→X' v e s) (h:∀ s e,K s e→K' s e) (hv:xE P G Y X o s K):xE P G Y X' o s K':=by
 unfold xE at hv ⊢
 split at hv
 ·split at hv
  ·rcases hv with ⟨e,h1,h2⟩ | ⟨p,e,h1,h2⟩
   ·exact .inl ⟨e,h1,h _ _ h2⟩
   ·exact .inr ⟨p,e,h1,hX _ _ _ h2⟩
  ·unfold vcY at hv ⊢
   split at hv
   ·exact hm _ _ _ _ _ (fun _ _ _ hk=>h _ _ hk) hv
   ·exact hv
 ·split at hv
  ·exact h _ _ hv
  ·exact hv
theorem Dh {Y:YO} (hm:uG Y) {X X':Value→fA→St→Prop} {o:eo} {s:St} {K K':St→fA→Prop} {K0 K0':St→Prop} (hX:∀ v e s,X v e s→X' v e s) (h:∀ s e,K s e→K' s e) (h0:∀ s,K0 s→K0' s) (hv:xD P G Y X o s K K0):xD P G Y X' o s K' K0':=by
 unfold xD at hv ⊢
 split at hv
 ·exact Di hm hX h hv
 ·split at hv
  ·split at hv
   ·rename_i hb; rw [if_pos hb]; exact Di hm hX h hv
   ·rename_i hb; rw [if_neg hb]; exact h0 _ hv
  ·exact h0 _ hv
  ·exact hv
theorem sn {Y:YO} (hm:uG Y) {X X':Value→St→Prop} {K K':St→Prop} (hX:∀ v s,X v s→X' v s) (h:∀ s,K s→K' s):∀ (os:List eo) (s:St),gO P G Y X os s K→gO P G Y X' os s K'
 | [],s,hv=>h s hv
 | o::os,s,hv=>by
   simp only [gO] at hv ⊢
   exact Dh hm (fun v _ s hk=>hX v s hk) (fun s e hk=>sn hm hX h os s hk) (fun s hk=>sn hm hX h os s hk) hv
theorem o_ {X X':Value→St→Prop} {K K':St→List iS→Prop} (hX:∀ v s,X v s→X' v s) (h:∀ s l,K s l→K' s l):∀ (os:List eo) (s:St) (log:List iS),e6 P G X os s log K→e6 P G X' os s log K'
 | [],s,log,hv=>h s log hv
 | o::os,s,log,hv=>by
   simp only [e6] at hv ⊢
   exact Dh uG.no (fun v _ s hk=>⟨hX v _ hk.1,hk.2⟩) (fun s e hk=>o_ hX h os s _ hk) (fun s hk=>o_ hX h os s _ hk) hv
theorem iC:∀ (c:C) (s:St) (K K':wN),K'.b=K.b→K'.y=K.y→uG K.y→(∀ s,K.n s→K'.n s)→(∀ i s,K.x i s→K'.x i s)→(∀ s,K.r s→K'.r s)→vc P G c s K→vc P G c s K'
 | .skip,s,K,K',hb',hy,hm,hn,hx,hr,h=>hn s h
 | .kH ops,s,K,K',hb',hy,hm,hn,hx,hr,h=>(by simp only [vc] at h ⊢; rw [hy]; exact sn hm (fun v s h=>hx _ _ h) hn ops s h)
 | .sC ops,s,K,K',hb',hy,hm,hn,hx,hr,h=>o_ (fun v s h=>hx _ _ h) (fun s l ⟨h1,h2⟩=>⟨h1,hn s h2⟩) ops s [] h
 | .seq a b,s,K,K',hb',hy,hm,hn,hx,hr,h=>iC a s { K with n:=fun s'=>vc P G b s' K } { K' with n:=fun s'=>vc P G b s' K' } hb' hy hm (fun s h=>iC b s K K' hb' hy hm hn hx hr h) hx hr h
 | .cond c a b,s,K,K',hb',hy,hm,hn,hx,hr,h=>by
   simp only [vc] at h ⊢
   split at h
   ·split at h
    ·rename_i hb; rw [if_pos hb]; exact iC a s K K' hb' hy hm hn hx hr h
    ·rename_i hb; rw [if_neg hb]; exact iC b s K K' hb' hy hm hn hx hr h
   ·exact ⟨iC a s K K' hb' hy hm hn hx hr h.1,iC b s K K' hb' hy hm hn hx hr h.2⟩
   ·exact h
 | .block i b,s,K,K',hb',hy,hm,hn,hx,hr,h=>iC b s { K with x:=fun j s'=>if j=i then K.n s' else K.x j s' } { K' with x:=fun j s'=>if j=i then K'.n s' else K'.x j s' } hb' hy hm hn (fun j s h=>by
   dsimp only at h ⊢
   split at h
   ·rename_i hb; rw [if_pos hb]; exact hn s h
   ·rename_i hb; rw [if_neg hb]; exact hx j s h) hr h
 | .loop b,s,K,K',hb',hy,hm,hn,hx,hr,h=>by
   simp only [vc] at h ⊢
   obtain ⟨ts,I,N,ad,h0,h1⟩:=h
   rw [hb']
   exact ⟨ts,I,N,ad,h0,fun k s' hk=>iC b s' { K with n:=fun s''=>∃ j,j<k∧∃ s3,I j s3∧Da G (zH K.b (bX ad s).ag.length) s'' s3 } { K' with n:=fun s''=>∃ j,j<k∧∃ s3,I j s3∧Da G (zH K.b (bX ad s).ag.length) s'' s3,b:=K.b } rfl hy hm (fun s h=>h) hx hr (h1 k s' hk)⟩
 | .exit i,s,K,K',hb',hy,hm,hn,hx,hr,h=>hx i s h
 | .ret,s,K,K',hb',hy,hm,hn,hx,hr,h=>hr s h
 | .scope b,s,K,K',hb',hy,hm,hn,hx,hr,h=>iC b s K K' hb' hy hm hn hx hr h
 | .Wz g ps a b,s,K,K',hb',hy,hm,hn,hx,hr,h=>by
   simp only [vc] at h ⊢
   split at h
   ·obtain ⟨jm,R,h1,h2⟩:=h
    refine ⟨jm,R,h1,fun yv aC hR=>?_⟩
    rcases h2 yv aC hR with ⟨h3,h4⟩ | ⟨h3,h4⟩
    ·exact .inl ⟨h3,hn _ h4⟩
    ·refine .inr ⟨h3,?_⟩
     cases jm with
     | none=>exact hr _ h4
     | some i=>exact ⟨h4.1,hx _ _ h4.2⟩
   ·exact h
theorem nT (c:C) (s:St) (K K':wN) (hn:∀ s,K.n s→K'.n s) (hx:∀ i s,K.x i s→K'.x i s) (hr:∀ s,K.r s→K'.r s) (h:vc P G c s K) (h1:K.y=qS:=by rfl) (h2:K'.y=qS:=by rfl) (h3:K'.b=K.b:=by rfl):vc P G c s K':=
 iC c s K K' h3 (h2.trans h1.symm) (h1 ▸ uG.no) hn hx hr h
theorem pK.mono {jm:Option Nat} {ps:List Nat} {a b:C} {s:St} : uG (pK P G jm ps a b s):=by
 intro as o y K K' hK h
 obtain ⟨h1,h2,h3,h4⟩:=h
 refine ⟨h1,h2,h3,?_⟩
 have abq:∀ (s:St) (K1 K2:wN),vc P G a s K1→K1.y=qS→K2.y=qS→K2.b=K1.b→(∀ s,K1.n s→K2.n s)→(∀ i s,K1.x i s→K2.x i s)→(∀ s,K1.r s→K2.r s)→vc P G a s K2:=fun s K1 K2 a4 e1 e2 e3 a1 a2 a3=>nT a s K1 K2 a1 a2 a3 a4 e1 e2 e3
 refine abq _ _ _ h4 rfl rfl rfl ?_ (fun _ _ h=>h) (fun _ h=>h)
 intro s1 h5
 dsimp only at h5 ⊢
 have key:∀ (K1 K2:wN),vc P G b s1 K1→K1.y=qS→K2.y=qS→K2.b=K1.b→(∀ s,K1.n s→K2.n s)→(∀ i s,K1.x i s→K2.x i s)→(∀ s,K1.r s→K2.r s)→vc P G b s1 K2:=fun K1 K2 a4 e1 e2 e3 a1 a2 a3=>nT b s1 K1 K2 a1 a2 a3 a4 e1 e2 e3
 refine key _ _ h5 rfl rfl rfl ?_ ?_ ?_
 ·exact fun s' h6=>hK _ _ _ h6
 ·exact fun i s' h6=>⟨h6.1,h6.2.1,hK _ _ _ h6.2.2⟩
 ·exact fun s' h6=>⟨h6.1,hK _ _ _ h6.2⟩
end
section
variable {P:Program} {G:Nat→Option (List DV)} {fin:St→Prop} {t:List It} {env:List (Nat×LV)} {ag:List (Option aG)} {os:List eo} {log:List iS}
theorem vE {d:Option Nat} {f:bY} {as:List bY} {pre:List Nat} {k:Nat} {fs cs:List LV} (e:fA) (hc:callee (f.ev G (aO env))=some (k,fs,cs)) (h:cF P G k (fs++as.map (·.ev G (aO env))++cs) (ay ag) ag.length e)
  (hk:W P G fin (.ops os::t) ⟨ej d e.r env,ga e.wr ag++e.nw.map some⟩):W P G fin (.ops (⟨d,.call f as,none,pre⟩::os)::t) ⟨env,ag⟩:=by
 simp only [W,gO,xD,xE]
 have wG:callee (f.ev G (St.get ⟨env,ag⟩))=some (k,fs,cs):=hc
 rw [wG]
 simp only [W] at hk
 exact .inl ⟨e,h,hk⟩
theorem oC {d:Option Nat} {f:bY} {as:List bY} {pre:List Nat} {k:Nat} {fs cs:List LV} (e:fA) (hc:callee (f.ev G (aO env))=some (k,fs,cs)) (h:cF P G k (fs++as.map (·.ev G (aO env))++cs) (ay ag) ag.length e)
  (hk:W P G fin (.gd os (log++[⟨pre,e.rd,(e.owned ag.length).map (·.1)⟩])::t) ⟨ej d e.r env,ga e.wr ag++e.nw.map some⟩):W P G fin (.gd (⟨d,.call f as,none,pre⟩::os) log::t) ⟨env,ag⟩:=by
 simp only [W,e6,xD,xE]
 have wG:callee (f.ev G (St.get ⟨env,ag⟩))=some (k,fs,cs):=hc
 rw [wG]
 simp only [W] at hk
 exact .inl ⟨e,h,hk⟩
theorem cF.pure {k:Nat} {args bh:List LV} {obj:Nat→cW} {base:Nat} {r:LV} (Z:List Nat) (hT:br P G k bh [] r []) (ha:aa obj [] Z args bh) (hZ:∀ z∈Z,∃ et e rows,obj z=.live (.dat et e rows)∨obj z=.live (.kU et e rows)) (hr:oK r=true) :
  cF P G k args obj base { r:=rn (bE [] base) r,rd:=Z,wr:=[],nw:=[] }:=
 ⟨⟨[],Z,true,bh,[],r,[],(fun _=>true),(fun _ _ _ h=>by cases h),List.nodup_nil,(fun _ _ h=>by cases h),hZ,rfl,(fun i o h=>by simp at h),rfl,ha,(fun _=>⟨hr,rfl,rfl⟩),Nat.le_refl _,hT,rfl⟩⟩
theorem cF.data {k:Nat} {args bh:List LV} {obj:Nat→cW} {base:Nat} {r:LV} {aA:List aG} (hT:br P G k bh [] r aA) (ha:aa obj [] [] args bh) :
  cF P G k args obj base { r:=rn (bE [] base) r,rd:=[],wr:=[],nw:=aA.map (fC (bE [] base)) }:=
 ⟨⟨[],[],false,bh,[],r,aA,(fun _=>true),(fun _ _ _ h=>by cases h),List.nodup_nil,(fun _ h=>by cases h),(fun _ h=>by cases h),rfl,(fun i o h=>by simp at h),rfl,ha,(fun h=>by cases h),Nat.zero_le _,hT,rfl⟩⟩
def Fu (rv:List RV) (r:LV) (s:St):Prop:=(match uH.of s rv with | some vs=>some (aF vs) | none=>none)=some r
theorem cF.hand {k:Nat} {args bh:List LV} {obj:Nat→cW} {base:Nat} {r:LV} {aH aA:List aG} (ρ:List Nat) (hT:br P G k bh aH r aA) (ha:aa obj ρ [] args bh) (hnd:ρ.Nodup) (ho:ρ.map obj=aH.map (fun ob=>cW.live (fC (bE ρ base) ob))) (hid:aH.all (dQ ρ.length)=true) (hle:aH.length≤aA.length) :
  cF P G k args obj base { r:=rn (bE ρ base) r,rd:=ρ,wr:=ρ.zip (aA.map (fC (bE ρ base))),nw:=(aA.drop ρ.length).map (fC (bE ρ base)) }:=
 ⟨⟨ρ,[],false,bh,aH,r,aA,(fun _=>true),(fun _ _ _ h=>by cases h),hnd,(fun _ h=>by cases h),(fun _ h=>by cases h),by have:=congrArg List.length ho; simpa using this.symm,(fun i o hi=>by
   have h1:(ρ.map obj)[i]? = some (obj o):=by rw [List.getElem?_map,hi]; rfl
   rw [ho,List.getElem?_map] at h1
   cases hf:aH[i]? with
   | none=>rw [hf] at h1; cases h1
   | some ob=>rw [hf] at h1; simp at h1; exact ⟨ob,rfl,h1.symm⟩),hid,ha,(fun h=>by cases h),hle,hT,by rw [List.filter_eq_self.2 (fun _ _=>rfl)]; simp [gE]⟩⟩
theorem cF.kU {k:Nat} {args bh:List LV} {obj:Nat→cW} {base:Nat} {r:LV} (Z:List Nat) (hT:br P G k bh [] r []) (ha:aa obj [] Z args bh) (hZ:∀ z∈Z,∃ et e rows,obj z=.live (.dat et e rows)∨obj z=.live (.kU et e rows)) :
  cF P G k args obj base { r:=rn (bE [] base) r,rd:=Z,wr:=gE obj Z,nw:=[] }:=
 ⟨⟨[],Z,false,bh,[],r,[],(fun _=>true),(fun _ _ _ h=>by cases h),List.nodup_nil,(fun _ _ h=>by cases h),hZ,rfl,(fun i o h=>by simp at h),rfl,ha,(fun h=>by cases h),Nat.le_refl _,hT,rfl⟩⟩
theorem kM {rv:List RV} {r:LV} {s:St} {vs:List LV} (h:uH.of s rv=some vs) (hr:ah s.obj [] [] (aF vs) r):rL rv 0 r [] s:=
 ⟨[],vs,[],[],h,rfl,List.nodup_nil,(fun _ h=>by cases h),(fun _ h=>by cases h),rfl,(fun i o h=>by simp at h),rfl,hr⟩
theorem bw {rv:List RV} {r:LV} {s:St} {vs:List LV} (Z:List Nat) (h:uH.of s rv=some vs) (hZ:∀ z∈Z,∃ et e rows,s.obj z=.live (.dat et e rows)∨s.obj z=.live (.kU et e rows)) (hr:ah s.obj [] Z (aF vs) r):rL rv 0 r [] s:=
 ⟨[],vs,[],Z,h,rfl,List.nodup_nil,(fun _ _ h=>by cases h),hZ,rfl,(fun i o h=>by simp at h),rfl,hr⟩
theorem qE {rv:List RV} {s:St} {o et e n k lo:Nat} {rows:List (List DV)} (ad:List Ad) (h:uH.of (bX ad s) rv=some [.sl o n e lo k]) (ho:(bX ad s).obj o=.live (.dat et e rows)):rL rv 0 (.sl 0 n e lo k) [.dat et e rows] s:=
 ⟨ad,_,[o],[],h,rfl,(by simp),(fun _ h=>by cases h),(fun _ h=>by cases h),rfl,(fun i o' h=>by
  cases i with
  | zero=>simp at h; subst h; exact ⟨_,rfl,ho⟩
  | succ i=>simp at h),rfl,by simp [aF,ah]⟩
theorem bM {rv:List RV} {r:LV} {s:St} {vs:List LV} {k:Nat} {aA:List aG} (ad:List Ad) (ρ Z:List Nat) (h:uH.of (bX ad s) rv=some vs) (hk:ρ.take k=List.range k) (hnd:ρ.Nodup) (hz:∀ z∈Z,z∉ρ) (hZ:∀ z∈Z,∃ et e rows,(bX ad s).obj z=.live (.dat et e rows)∨(bX ad s).obj z=.live (.kU et e rows))
  (ho:ρ.map (bX ad s).obj=aA.map (fun ob=>cW.live (fC (bE ρ 0) ob))) (hid:aA.all (dQ ρ.length)=true) (hr:ah (bX ad s).obj ρ Z (aF vs) r):rL rv k r aA s:=
 ⟨ad,vs,ρ,Z,h,hk,hnd,hz,hZ,by have:=congrArg List.length ho; simpa using this.symm,(fun i o hi=>by
  have h1:(ρ.map (bX ad s).obj)[i]? = some ((bX ad s).obj o):=by rw [List.getElem?_map,hi]; rfl
  rw [ho,List.getElem?_map] at h1
  cases hf:aA[i]? with
  | none=>rw [hf] at h1; cases h1
  | some ob=>rw [hf] at h1; simp at h1; exact ⟨ob,rfl,h1.symm⟩),hid,hr⟩
theorem get_map {α β:Type} {f:α→β} {l:List α} {k:Nat} (h:k<l.length):(l.map f)[k]? = some (f l[k]):=by simp [h]
theorem aB {α β:Type} {f:α→β} {l:List α} {k:Nat} (z:α) (h:k<l.length):(l.map f)[k]? = some (f (l.getD k z)):=by simp [h,List.getD]
theorem dz {k n:Nat} (h:decide ((k:Int)<(n:Int))=true):k<n:=by simpa using h
theorem dA {k n:Nat} (h:decide ((k:Int)<(n:Int))=false) (hk:k≤n):k=n:=by
 have:¬ (k<n):=by simpa using h
 omega
@[reducible] def i64 (n:Int):DV:=.val (.int .i64 n)
@[reducible] def bl (b:Bool):DV:=.val (.bool b)
theorem aD {n:Int} (h1:-9223372036854775808≤n) (h2:n≤9223372036854775807):IntKind.i64.wrap n=n:=by
 simp [IntKind.wrap,IntKind.bits,IntKind.signed]; omega
theorem ax {k:Nat} (h:k<9223372036854775807):IntKind.i64.wrap ((k:Int)+1)=((k+1:Nat):Int):=by
 rw [aD (by omega) (by omega)]; rfl
/-- A FUNCTION KEEPS ITS CONTRACT, if its walk goes through. -/
theorem bD {f:Nat} {fn:Func} {ir:Nat×C×List RV} {args:List LV} {aH aA:List aG} {r:LV} (hf:P.funcs[f]? = some fn) (hn:(fn.name != "runtime.NumGoroutine")=true) (ja:aq P fn=some ir) (hl:Nat.ble args.length ir.1=true)
  (h:W P G (rL ir.2.2 aH.length r aA) [.c ir.2.1] ⟨fc 0 args,aH.map some⟩):br P G f args aH r aA:=by
 refine xJ hf (by simpa using hn) (N:=ir.1) (c:=ir.2.1) (rv:=ir.2.2) ja (Nat.le_of_ble_eq_true hl) ?_
 simp only [W,Wx] at h
 exact h
mutual
theorem kO (π:Nat→Nat):∀ (x:LV),eU 0 x=true→rn π x=x
 | .top,_=>rfl
 | .d x,_=>rfl
 | .dW,_=>rfl
 | .ptr ..,h=>by simp [eU] at h
 | .rp ..,h=>by simp [eU] at h
 | .ip ..,_=>rfl
 | .sl ..,h=>by simp [eU] at h
 | .fn f a b,h=>by
   simp only [eU,Bool.and_eq_true] at h
   simp only [rn,lH π a h.1,lH π b h.2]
 | .agg cs,h=>by simp only [eU] at h; simp only [rn,lH π cs h]
 | .dM cs,h=>by simp only [eU] at h; simp only [rn,lH π cs h]
 | .gp t x,h=>by simp only [eU] at h; simp only [rn,kO π x h]
 | .yl ..,h=>by simp [eU] at h
 | .mr ..,h=>by simp [eU] at h
theorem lH (π:Nat→Nat):∀ (xs:List LV),eX 0 xs=true→m_ π xs=xs
 | [],_=>rfl
 | x::xs,h=>by
   simp only [eX,Bool.and_eq_true] at h
   simp only [m_,kO π x h.1,lH π xs h.2]
end
mutual
theorem uD (obj:Nat→cW) (ρ Z:List Nat):∀ (x:LV),eU 0 x=true→ah obj ρ Z x x
 | .top,_=>by simp [ah]
 | .d x,_=>by simp [ah]
 | .dW,_=>by simp [ah]
 | .ptr ..,h=>by simp [eU] at h
 | .rp ..,h=>by simp [eU] at h
 | .ip ..,_=>by simp [ah]
 | .sl ..,h=>by simp [eU] at h
 | .fn f a b,h=>by
   simp only [eU,Bool.and_eq_true] at h
   simp only [ah]; exact ⟨trivial,gC obj ρ Z a h.1,gC obj ρ Z b h.2⟩
 | .agg cs,h=>by simp only [eU] at h; simp only [ah]; exact gC obj ρ Z cs h
 | .dM cs,h=>by simp only [eU] at h; simp only [ah]; exact gC obj ρ Z cs h
 | .gp t x,h=>by simp only [eU] at h; simp only [ah]; exact ⟨trivial,uD obj ρ Z x h⟩
 | .yl ..,h=>by simp [eU] at h
 | .mr ..,h=>by simp [eU] at h
theorem gC (obj:Nat→cW) (ρ Z:List Nat):∀ (xs:List LV),eX 0 xs=true→aa obj ρ Z xs xs
 | [],_=>by simp [aa]
 | x::xs,h=>by
   simp only [eX,Bool.and_eq_true] at h
   simp only [aa]; exact ⟨uD obj ρ Z x h.1,gC obj ρ Z xs h.2⟩
end
theorem av {d:Option Nat} {f:bY} {as:List bY} {pre:List Nat} {k:Nat} {fs cs bh:List LV} {r:LV} (hT:br P G k bh [] r []) (hc:callee (f.ev G (aO env))=some (k,fs,cs)) (ha:fs++as.map (·.ev G (aO env))++cs=bh) (hid:eX 0 bh=true) (hr:eU 0 r=true)
  (hk:W P G fin (.ops os::t) ⟨ej d r env,ag⟩):W P G fin (.ops (⟨d,.call f as,none,pre⟩::os)::t) ⟨env,ag⟩:=by
 refine vE _ hc (cF.data hT (by rw [ha]; exact gC _ _ _ _ hid)) ?_
 simpa [kO _ _ hr,ga] using hk
theorem bA {d:Option Nat} {f:bY} {as:List bY} {pre:List Nat} {k:Nat} {fs cs bh:List LV} {r:LV} (hT:br P G k bh [] r []) (hc:callee (f.ev G (aO env))=some (k,fs,cs)) (ha:fs++as.map (·.ev G (aO env))++cs=bh) (hid:eX 0 bh=true) (hr:eU 0 r=true)
  (hk:W P G fin (.gd os (log++[⟨pre,[],[]⟩])::t) ⟨ej d r env,ag⟩):W P G fin (.gd (⟨d,.call f as,none,pre⟩::os) log::t) ⟨env,ag⟩:=by
 refine oC _ hc (cF.data hT (by rw [ha]; exact gC _ _ _ _ hid)) ?_
 simpa [kO _ _ hr,ga,fA.owned,DY] using hk
theorem xz {d:Option Nat} {f:bY} {as:List bY} {pre:List Nat} {k:Nat} {fs cs bh:List LV} {r:LV} (Z:List Nat) (hT:br P G k bh [] r []) (hc:callee (f.ev G (aO env))=some (k,fs,cs)) (ha:aa (ay ag) [] Z (fs++as.map (·.ev G (aO env))++cs) bh)
  (hZ:∀ z∈Z,∃ et e rows,ay ag z=.live (.dat et e rows)∨ay ag z=.live (.kU et e rows)) (hj:oK r=true) (hr:eU 0 r=true)
  (hk:W P G fin (.ops os::t) ⟨ej d r env,ag⟩):W P G fin (.ops (⟨d,.call f as,none,pre⟩::os)::t) ⟨env,ag⟩:=by
 refine vE _ hc (cF.pure Z hT ha hZ hj) ?_
 simpa [kO _ _ hr,ga] using hk
theorem qz {d:Option Nat} {f:bY} {as:List bY} {pre:List Nat} {k:Nat} {fs cs bh:List LV} {r:LV} (Z:List Nat) (hT:br P G k bh [] r []) (hc:callee (f.ev G (aO env))=some (k,fs,cs)) (ha:aa (ay ag) [] Z (fs++as.map (·.ev G (aO env))++cs) bh)
  (hZ:∀ z∈Z,∃ et e rows,ay ag z=.live (.dat et e rows)∨ay ag z=.live (.kU et e rows)) (hj:oK r=true) (hr:eU 0 r=true)
  (hk:W P G fin (.gd os (log++[⟨pre,Z,[]⟩])::t) ⟨ej d r env,ag⟩):W P G fin (.gd (⟨d,.call f as,none,pre⟩::os) log::t) ⟨env,ag⟩:=by
 refine oC _ hc (cF.pure Z hT ha hZ hj) ?_
 simpa [kO _ _ hr,ga,fA.owned,DY] using hk
theorem jy {d:Option Nat} {f:bY} {as:List bY} {pre:List Nat} {k:Nat} {fs cs bh:List LV} {r:LV} (Z:List Nat) (hT:br P G k bh [] r []) (hc:callee (f.ev G (aO env))=some (k,fs,cs)) (ha:aa (ay ag) [] Z (fs++as.map (·.ev G (aO env))++cs) bh)
  (hZ:∀ z∈Z,∃ et e rows,ay ag z=.live (.dat et e rows)∨ay ag z=.live (.kU et e rows)) (hr:eU 0 r=true)
  (hk:W P G fin (.ops os::t) ⟨ej d r env,ga (gE (ay ag) Z) ag⟩):W P G fin (.ops (⟨d,.call f as,none,pre⟩::os)::t) ⟨env,ag⟩:=by
 refine vE _ hc (cF.kU Z hT ha hZ) ?_
 simpa [kO _ _ hr] using hk
theorem ku {d:Option Nat} {f:bY} {as:List bY} {pre:List Nat} {k:Nat} {fs cs bh:List LV} {r:LV} (Z:List Nat) (hT:br P G k bh [] r []) (hc:callee (f.ev G (aO env))=some (k,fs,cs)) (ha:aa (ay ag) [] Z (fs++as.map (·.ev G (aO env))++cs) bh)
  (hZ:∀ z∈Z,∃ et e rows,ay ag z=.live (.dat et e rows)∨ay ag z=.live (.kU et e rows)) (hr:eU 0 r=true)
  (hk:W P G fin (.gd os (log++[⟨pre,Z,(gE (ay ag) Z).map (·.1)⟩])::t) ⟨ej d r env,ga (gE (ay ag) Z) ag⟩):W P G fin (.gd (⟨d,.call f as,none,pre⟩::os) log::t) ⟨env,ag⟩:=by
 refine oC _ hc (cF.kU Z hT ha hZ) ?_
 simpa [kO _ _ hr,fA.owned,DY] using hk
theorem fO {d:Option Nat} {f:bY} {as:List bY} {pre:List Nat} {k:Nat} {fs cs bh:List LV} {r:LV} {aA:List aG} (hT:br P G k bh [] r aA) (hc:callee (f.ev G (aO env))=some (k,fs,cs)) (ha:fs++as.map (·.ev G (aO env))++cs=bh) (hid:eX 0 bh=true)
  (hk:W P G fin (.ops os::t) ⟨ej d (rn (bE [] ag.length) r) env,ag++(aA.map (fC (bE [] ag.length))).map some⟩):W P G fin (.ops (⟨d,.call f as,none,pre⟩::os)::t) ⟨env,ag⟩:=by
 refine vE _ hc (cF.data hT (by rw [ha]; exact gC _ _ _ _ hid)) ?_
 simpa [ga] using hk
theorem gz {d:Option Nat} {f:bY} {as:List bY} {pre:List Nat} {k:Nat} {fs cs bh:List LV} {r:LV} {aA:List aG} (hT:br P G k bh [] r aA) (hc:callee (f.ev G (aO env))=some (k,fs,cs)) (ha:fs++as.map (·.ev G (aO env))++cs=bh) (hid:eX 0 bh=true)
  (hk:W P G fin (.gd os (log++[⟨pre,[],(DY ag.length (aA.map (fC (bE [] ag.length)))).map (·.1)⟩])::t) ⟨ej d (rn (bE [] ag.length) r) env,ag++(aA.map (fC (bE [] ag.length))).map some⟩):W P G fin (.gd (⟨d,.call f as,none,pre⟩::os) log::t) ⟨env,ag⟩:=by
 refine oC _ hc (cF.data hT (by rw [ha]; exact gC _ _ _ _ hid)) ?_
 simpa [ga,fA.owned] using hk
theorem au {d:Option Nat} {f:bY} {as:List bY} {pre:List Nat} {k:Nat} {fs cs bh:List LV} {r:LV} {aH aA:List aG} (ρ:List Nat) (hT:br P G k bh aH r aA) (hc:callee (f.ev G (aO env))=some (k,fs,cs)) (ha:aa (ay ag) ρ [] (fs++as.map (·.ev G (aO env))++cs) bh)
  (hnd:ρ.Nodup) (ho:ρ.map (ay ag)=aH.map (fun ob=>cW.live (fC (bE ρ ag.length) ob))) (hid:aH.all (dQ ρ.length)=true) (hle:aH.length≤aA.length)
  (hk:W P G fin (.ops os::t) ⟨ej d (rn (bE ρ ag.length) r) env,ga (ρ.zip (aA.map (fC (bE ρ ag.length)))) ag++((aA.drop ρ.length).map (fC (bE ρ ag.length))).map some⟩):W P G fin (.ops (⟨d,.call f as,none,pre⟩::os)::t) ⟨env,ag⟩:=by
 refine vE _ hc (cF.hand ρ hT ha hnd ho hid hle) ?_
 simpa using hk
theorem dS {d:Option Nat} {f:bY} {as:List bY} {pre:List Nat} {k:Nat} {fs cs bh:List LV} {r:LV} {aH aA:List aG} (ρ:List Nat) (hT:br P G k bh aH r aA) (hc:callee (f.ev G (aO env))=some (k,fs,cs)) (ha:aa (ay ag) ρ [] (fs++as.map (·.ev G (aO env))++cs) bh)
  (hnd:ρ.Nodup) (ho:ρ.map (ay ag)=aH.map (fun ob=>cW.live (fC (bE ρ ag.length) ob))) (hid:aH.all (dQ ρ.length)=true) (hle:aH.length≤aA.length)
  (hk:W P G fin (.gd os (log++[⟨pre,ρ,(DY ag.length ((aA.drop ρ.length).map (fC (bE ρ ag.length)))++ρ.zip (aA.map (fC (bE ρ ag.length)))).map (·.1)⟩])::t) ⟨ej d (rn (bE ρ ag.length) r) env,ga (ρ.zip (aA.map (fC (bE ρ ag.length)))) ag++((aA.drop ρ.length).map (fC (bE ρ ag.length))).map some⟩):W P G fin (.gd (⟨d,.call f as,none,pre⟩::os) log::t) ⟨env,ag⟩:=by
 refine oC _ hc (cF.hand ρ hT ha hnd ho hid hle) ?_
 simpa [fA.owned] using hk
def uJ (rv:List RV) (r:LV) (aC:List aG) (s:St):Prop:=Fu rv r s∧s.ag.take aC.length=aC.map some
theorem Lt {rv:List RV} {r:LV} {aC:List aG} {s:St} : uJ rv r aC s=(Fu rv r s∧s.ag.take aC.length=aC.map some):=rfl
theorem Mf (π:Nat→Nat):∀ (ob:aG),dQ 0 ob=true→fC π ob=ob
 | .box et cells,h=>by simp only [fC]; rw [lH π cells h]
 | .mp es,h=>by
   simp only [dQ,List.all_eq_true] at h
   simp only [fC,aG.mp.injEq]
   conv=>rhs; rw [← List.map_id es]
   exact List.map_congr_left fun p hp=>by simp [kO π p.2 (h p hp)]
 | .dat ..,_=>rfl
 | .kU ..,_=>rfl
theorem Cv:(∀ (x:LV) (k:Nat),eU 0 x=true→eU k x=true)∧(∀ (xs:List LV) (k:Nat),eX 0 xs=true→eX k xs=true):=by
 have one:∀ n,(∀ (x:LV) (k:Nat),sizeOf x<n→eU 0 x=true→eU k x=true)∧(∀ (xs:List LV) (k:Nat),sizeOf xs<n→eX 0 xs=true→eX k xs=true):=by
  intro n
  induction n with
  | zero=>exact ⟨fun _ _ h=>absurd h (by omega),fun _ _ h=>absurd h (by omega)⟩
  | succ n ih=>
    refine ⟨fun x k hs h=>?_,fun xs k hs h=>?_⟩
    ·cases x <;> simp only [eU,Bool.and_eq_true] at h ⊢ <;> (try (simp at h; done)) <;> simp at hs
     ·exact ⟨ih.2 _ k (by omega) h.1,ih.2 _ k (by omega) h.2⟩
     ·exact ih.2 _ k (by omega) h
     ·exact ih.2 _ k (by omega) h
     ·exact ih.1 _ k (by omega) h
    ·cases xs with
     | nil=>rfl
     | cons x xs=>
       simp only [eX,Bool.and_eq_true] at h ⊢
       simp at hs
       exact ⟨ih.1 _ k (by omega) h.1,ih.2 _ k (by omega) h.2⟩
 exact ⟨fun x k=>(one (sizeOf x+1)).1 x k (by omega),fun xs k=>(one (sizeOf xs+1)).2 xs k (by omega)⟩
theorem Sk (k:Nat):∀ (ob:aG),dQ 0 ob=true→dQ k ob=true
 | .box et cells,h=>Cv.2 cells k h
 | .mp es,h=>by
   simp only [dQ,List.all_eq_true] at h ⊢
   exact fun p hp=>Cv.1 _ k (h p hp)
 | .dat ..,_=>rfl
 | .kU ..,_=>rfl
theorem fQ {rv:List RV} {r:LV} {aC:List aG} {s:St} {k:Nat} (hs:uJ rv r aC s) (hid:eU 0 r=true) (ho:aC.all (dQ 0)=true) (hk:k=aC.length):rL rv k r aC s:=by
 obtain ⟨h1,h2⟩:=hs
 unfold Fu at h1
 split at h1
 ·rename_i vs hvs
  simp only [Option.some.injEq] at h1
  subst h1
  rw [List.all_eq_true] at ho
  refine ⟨[],vs,List.range k,[],hvs,by simp,List.nodup_range,(fun _ h=>by cases h),(fun _ h=>by cases h),by simp [hk],fun i o hi=>?_,?_,?_⟩
  ·have hlt:i<k:=by
    have:=(List.getElem?_eq_some_iff.1 hi).1
    simpa using this
   have oN:o=i:=by rw [List.getElem?_range hlt] at hi; cases hi; rfl
   subst oN
   have hlt':o<aC.length:=by omega
   refine ⟨aC[o],List.getElem?_eq_getElem hlt',?_⟩
   have h3:(s.ag.take aC.length)[o]? = some (some aC[o]):=by rw [h2]; simp [hlt']
   rw [List.getElem?_take_of_lt hlt'] at h3
   rw [Mf _ _ (ho _ (List.getElem_mem hlt'))]
   simp only [bX,St.obj,ay,h3]
  ·rw [List.all_eq_true]; exact fun ob e_=>Sk _ ob (ho ob e_)
  ·exact uD _ _ _ _ hid
 ·cases h1
/-- a function over objects that hold data, that hands back data. -/
theorem nX {f:Nat} {fn:Func} {ir:Nat×C×List RV} {args:List LV} {ag aC:List aG} {r:LV} (hf:P.funcs[f]? = some fn) (hn:(fn.name != "runtime.NumGoroutine")=true) (ja:aq P fn=some ir) (hl:Nat.ble args.length ir.1=true) (hid:eU 0 r=true) (ho:aC.all (dQ 0)=true) (hlen:ag.length=aC.length)
  (h:W P G (uJ ir.2.2 r aC) [.c ir.2.1] ⟨fc 0 args,ag.map some⟩):br P G f args ag r aC:=by
 refine xJ hf (by simpa using hn) (N:=ir.1) (c:=ir.2.1) (rv:=ir.2.2) ja (Nat.le_of_ble_eq_true hl) ?_
 simp only [W,Wx] at h
 exact nT _ _ ⟨uJ ir.2.2 r aC,fun _ _=>False,uJ ir.2.2 r aC,qS,none⟩ _ (fun s hs=>fQ hs hid ho hlen) (fun _ _ h=>h) (fun s hs=>fQ hs hid ho hlen) h
def Ends (rv:List RV) (r:LV) (s:St):Prop:=(match uH.of s rv with | some vs=>some (aF vs) | none=>none)=some r
/-- a function of data alone, that hands back what names no object. -/
theorem b_ {f:Nat} {fn:Func} {ir:Nat×C×List RV} {args:List LV} {r:LV} (hf:P.funcs[f]? = some fn) (hn:(fn.name != "runtime.NumGoroutine")=true) (ja:aq P fn=some ir) (hl:Nat.ble args.length ir.1=true) (hid:eU 0 r=true)
  (h:W P G (Ends ir.2.2 r) [.c ir.2.1] ⟨fc 0 args,[]⟩):br P G f args [] r []:=by
 refine xJ hf (by simpa using hn) (N:=ir.1) (c:=ir.2.1) (rv:=ir.2.2) ja (Nat.le_of_ble_eq_true hl) ?_
 simp only [W,Wx] at h
 refine nT _ _ ⟨Ends ir.2.2 r,fun _ _=>False,Ends ir.2.2 r,qS,none⟩ _ (fun s hs=>?_) (fun _ _ h=>h) (fun s hs=>?_) h
 all_goals
  replace hs:Ends ir.2.2 r s:=hs
  unfold Ends at hs
  split at hs
  ·rename_i vs hvs
   cases hs
   exact kM hvs (uD _ _ _ _ hid)
  ·cases hs
end
section
variable {P:Program} {G:Nat→Option (List DV)} {fin:St→Prop} {t:List It} {env:List (Nat×LV)} {ag:List (Option aG)} {os:List eo}
theorem ach {n:St→Prop} {x:Nat→St→Prop} {s:St} : W P G fin (.rt n x::t) s=n s:=by simp only [W]
theorem aaV {i:Nat} {n:St→Prop} {x:Nat→St→Prop} {s:St} : Wx P G fin i (.rt n x::t) s=x i s:=by simp only [Wx]
theorem acg {Y:YO} {s:St} : W P G fin (.yd Y::t) s=W P G fin t s:=by simp only [W]
theorem aaU {i:Nat} {Y:YO} {s:St} : Wx P G fin i (.yd Y::t) s=Wx P G fin i t s:=by simp only [Wx]
theorem Tl {d:Option Nat} {f:bY} {as:List bY} {pre:List Nat} {oy:Nat} (hc:f.ev G (aO env)=.yl oy)
  (h:Wy t (.yl oy::as.map (·.ev G (aO env))) ag (aO env YS) (fun ys b aC=>W P G fin (.ops os::t) ⟨ej d (.bool b) ((YS,ys)::env),aC⟩)):W P G fin (.ops (⟨d,.call f as,none,pre⟩::os)::t) ⟨env,ag⟩:=by
 simp only [W,gO,xD,xE]
 have wG:f.ev G (St.get ⟨env,ag⟩)=.yl oy:=hc
 rw [wG]
 simp only [W] at h
 exact h
theorem Pr {jm:Option Nat} {ps:List Nat} {a b:C} {s:St} {as:List LV} {ag:List (Option aG)} {ys:LV} {K':LV→Bool→List (Option aG)→Prop} (hy:ys=jH) (hl:as.length=ps.length)
  (h:W P G (fun _=>False) [.c a,.rt (fun s1=>W P G (fun s'=>jm=none∧K' kg false s'.ag) [.c b,.rt (fun s'=>K' jH true s'.ag) (fun i s'=>i≠iq∧jm=some i∧K' kg false s'.ag)] s1) (fun _ _=>False)] ⟨rZ ps as s.env,ag⟩) :
  pK P G jm ps a b s (.yl s.ag.length::as) ag ys K':=by
 refine ⟨hy,rfl,hl,?_⟩
 simp only [W,Wx,Wy] at h
 exact h
theorem aaZ {g:bY} {ps:List Nat} {a b:C} {k:Nat} {fs cs:List LV} (hc:callee (g.ev G (aO env))=some (k,fs,cs)) (R:LV→List (Option aG)→Prop)
  (h1:Ft P G k (fs++[.yl ag.length]++cs) (ag++[none]) (pK P G none ps a b ⟨env,ag⟩) R)
  (h2:∀ yv aC,R yv aC→(yv=jH∧W P G fin t ⟨env,aC⟩)∨(yv=kg∧fin ⟨env,aC⟩)):W P G fin (.c (.Wz g ps a b)::t) ⟨env,ag⟩:=by
 simp only [W,vc]
 have wG:callee (g.ev G (St.get ⟨env,ag⟩))=some (k,fs,cs):=hc
 rw [wG]
 exact ⟨none,R,h1,h2⟩
/-- AN ITERATOR KEEPS ITS CONTRACT, if its walk goes through. -/
theorem WL {f:Nat} {fn:Func} {ir:Nat×C×List RV} {args:List LV} {ag:List (Option aG)} {Y:YO} {R:LV→List (Option aG)→Prop} (hf:P.funcs[f]? = some fn) (hn:(fn.name != "runtime.NumGoroutine")=true) (ja:aq P fn=some ir) (hl:Nat.ble args.length ir.1=true) (GA:j9 ir.2.1=true) (Nj:ir.2.2=[])
  (h:W P G (fun s=>R (s.get YS) s.ag) [.c ir.2.1,.yd Y] ⟨(YS,jH)::fc 0 args,ag⟩):Ft P G f args ag Y R:=by
 refine HX hf (by simpa using hn) (N:=ir.1) (c:=ir.2.1) (rv:=ir.2.2) ja (Nat.le_of_ble_eq_true hl) GA ?_
 simp only [W,Wx,Wy] at h
 simp only [Nj,and_true]
 exact h
end
end Dv
namespace Dv
open Go
section
variable {π:Nat→Nat} {k:Nat}
mutual
theorem FY (h:∀ o,o<k→π o=o):∀ (x:LV),eU k x=true→rn π x=x
 | .top,_=>rfl
 | .d x,_=>rfl
 | .dW,_=>rfl
 | .ptr o c,hx=>by simp only [eU,decide_eq_true_eq] at hx; simp only [rn,h o hx]
 | .rp o n e r c,hx=>by simp only [eU,decide_eq_true_eq] at hx; simp only [rn,h o hx]
 | .ip ..,_=>rfl
 | .sl o n e l m,hx=>by simp only [eU,decide_eq_true_eq] at hx; simp only [rn,h o hx]
 | .fn f a b,hx=>by
   simp only [eU,Bool.and_eq_true] at hx
   simp only [rn,qM h a hx.1,qM h b hx.2]
 | .agg cs,hx=>by simp only [eU] at hx; simp only [rn,qM h cs hx]
 | .dM cs,hx=>by simp only [eU] at hx; simp only [rn,qM h cs hx]
 | .gp t x,hx=>by simp only [eU] at hx; simp only [rn,FY h x hx]
 | .yl o,hx=>by simp only [eU,decide_eq_true_eq] at hx; simp only [rn,h o hx]
 | .mr o,hx=>by simp only [eU,decide_eq_true_eq] at hx; simp only [rn,h o hx]
theorem qM (h:∀ o,o<k→π o=o):∀ (xs:List LV),eX k xs=true→m_ π xs=xs
 | [],_=>rfl
 | x::xs,hx=>by
   simp only [eX,Bool.and_eq_true] at hx
   simp only [m_,FY h x hx.1,qM h xs hx.2]
end
theorem B5 (h:∀ o,o<k→π o=o):∀ (ob:aG),dQ k ob=true→fC π ob=ob
 | .box et cells,hx=>by simp only [fC]; rw [qM h cells hx]
 | .mp es,hx=>by
   simp only [dQ,List.all_eq_true] at hx
   simp only [fC,aG.mp.injEq]
   conv=>rhs; rw [← List.map_id es]
   exact List.map_congr_left fun p hp=>by simp [FY h p.2 (hx p hp)]
 | .dat ..,_=>rfl
 | .kU ..,_=>rfl
end
section
variable {ρ:List Nat} {k:Nat}
mutual
theorem zK (h:∀ o,o<k→ρ[o]? = some o) (obj:Nat→cW):∀ (x:LV),eU k x=true→ah obj ρ [] x x
 | .top,_=>by simp [ah]
 | .d x,_=>by simp [ah]
 | .dW,_=>by simp [ah]
 | .ptr o c,hx=>by simp only [eU,decide_eq_true_eq] at hx; simp only [ah,h o hx,and_self]
 | .rp o n e r c,hx=>by simp only [eU,decide_eq_true_eq] at hx; simp only [ah,h o hx,and_self]
 | .ip ..,_=>by simp [ah]
 | .sl o n e l m,hx=>by simp only [eU,decide_eq_true_eq] at hx; simp only [ah,h o hx,and_self]
 | .fn f a b,hx=>by
   simp only [eU,Bool.and_eq_true] at hx
   simp only [ah]; exact ⟨trivial,nN h obj a hx.1,nN h obj b hx.2⟩
 | .agg cs,hx=>by simp only [eU] at hx; simp only [ah]; exact nN h obj cs hx
 | .dM cs,hx=>by simp only [eU] at hx; simp only [ah]; exact nN h obj cs hx
 | .gp t x,hx=>by simp only [eU] at hx; simp only [ah]; exact ⟨trivial,zK h obj x hx⟩
 | .yl o,hx=>by simp only [eU,decide_eq_true_eq] at hx; simp only [ah,h o hx]
 | .mr o,hx=>by simp only [eU,decide_eq_true_eq] at hx; simp only [ah,h o hx]
theorem nN (h:∀ o,o<k→ρ[o]? = some o) (obj:Nat→cW):∀ (xs:List LV),eX k xs=true→aa obj ρ [] xs xs
 | [],_=>by simp [aa]
 | x::xs,hx=>by
   simp only [eX,Bool.and_eq_true] at hx
   simp only [aa]; exact ⟨zK h obj x hx.1,nN h obj xs hx.2⟩
end
end
theorem eH {k o:Nat} (h:o<k):(List.range k)[o]? = some o:=List.getElem?_range h
theorem sE {k o:Nat} (h:o<k):bE (List.range k) 0 o=o:=by unfold bE; rw [eH h]
theorem abf {rv:List RV} {r:LV} {aC:List aG} {s:St} (hs:uJ rv r aC s) (hid:eU aC.length r=true) (ho:aC.all (dQ aC.length)=true):rL rv aC.length r aC s:=by
 obtain ⟨h1,h2⟩:=hs
 unfold Fu at h1
 split at h1
 ·rename_i vs hvs
  simp only [Option.some.injEq] at h1
  subst h1
  have ho':=ho
  rw [List.all_eq_true] at ho
  refine ⟨[],vs,List.range aC.length,[],hvs,by simp,List.nodup_range,(fun _ h=>by cases h),(fun _ h=>by cases h),by simp,fun i o hi=>?_,?_,?_⟩
  ·have hlt:i<aC.length:=by
    have:=(List.getElem?_eq_some_iff.1 hi).1
    simpa using this
   have oN:o=i:=by rw [List.getElem?_range hlt] at hi; cases hi; rfl
   subst oN
   refine ⟨aC[o],List.getElem?_eq_getElem hlt,?_⟩
   have h3:(s.ag.take aC.length)[o]? = some (some aC[o]):=by rw [h2]; simp [hlt]
   rw [List.getElem?_take_of_lt hlt] at h3
   rw [B5 (fun o h=>sE h) _ (ho _ (List.getElem_mem hlt))]
   simp only [bX,St.obj,ay,h3]
  ·rw [List.length_range]; exact ho'
  ·exact zK (fun o h=>eH h) _ _ hid
 ·cases h1
/-- a function over objects that may name one another, all of which it hands back in the same places. -/
theorem aY {P:Program} {G:Nat→Option (List DV)} {f:Nat} {fn:Func} {ir:Nat×C×List RV} {args:List LV} {ag aC:List aG} {r:LV} (hf:P.funcs[f]? = some fn) (hn:(fn.name != "runtime.NumGoroutine")=true) (ja:aq P fn=some ir) (hl:Nat.ble args.length ir.1=true) (hid:eU aC.length r=true) (ho:aC.all (dQ aC.length)=true) (hlen:ag.length=aC.length)
  (h:W P G (uJ ir.2.2 r aC) [.c ir.2.1] ⟨fc 0 args,ag.map some⟩):br P G f args ag r aC:=by
 refine xJ hf (by simpa using hn) (N:=ir.1) (c:=ir.2.1) (rv:=ir.2.2) ja (Nat.le_of_ble_eq_true hl) ?_
 simp only [W,Wx] at h
 refine nT _ _ ⟨uJ ir.2.2 r aC,fun _ _=>False,uJ ir.2.2 r aC,qS,none⟩ _ (fun s hs=>?_) (fun _ _ h=>h) (fun s hs=>?_) h
 all_goals
  rw [hlen]; exact abf hs hid ho
theorem Wp:LV.undef=.d (.val (.tuple #[])):=rfl
def qo (n:Nat) (x:I):eo:=⟨some n,x,none,[]⟩
def qm (n a:Nat):eo:=⟨some n,.mv (.t a),none,[]⟩
def qd (n:Nat) (x:I) (l:List Nat):eo:=⟨some n,x,none,l⟩
def qg (n:Nat) (x:I) (g:Nat) (b:Bool):eo:=⟨some n,x,some (g,b),[]⟩
def qe (n:Nat) (x:I) (g:Nat) (b:Bool) (l:List Nat):eo:=⟨some n,x,some (g,b),l⟩
def qn (x:I):eo:=⟨none,x,none,[]⟩
def ql (x:I) (l:List Nat):eo:=⟨none,x,none,l⟩
def qf:bY:=.c (.val (.bool false))
def qt:bY:=.c (.val (.bool true))
def qk (i:Int):bY:=.c (.val (.int .i64 i))
def q0:DV:=.val (.int .i64 0)
end Dv
namespace Dv
open Go
section
variable {G:Nat→Option (List DV)} {J:Nat→Prop} {w w':World} {ι:Nat→Nat→Option Nat} {obj:Nat→cW}
structure Mid (G:Nat→Option (List DV)) (obj:Nat→cW) (J:Nat→Prop) (ι:Nat→Nat→Option Nat) (w:World) (n:Nat) (W:World) (J':Nat→Prop) (ι':Nat→Nat→Option Nat):Prop where
 store:aN G J' W ι' obj
 ext:Ext obj obj J J' ι ι' w W
 own:∀ b,Own ι' obj b→Own ι obj b∨n≤b
 std:∀ b,J' b→J b∨n≤b∨Own ι obj b
 size:n≤W.heap.size
theorem Mid.call {n:Nat} {W W2:World} {J':Nat→Prop} {ι':Nat→Nat→Option Nat} (S:aN G J w ι obj) (h:Mid G obj J ι w n W J' ι') (hn:w.heap.size≤n) {r:LV} {v:Value} (hA:bB G obj obj J' ι' W r v W2):∃ J2 zO,Mid G obj J ι w n W2 J2 zO∧dF J2 W2 zO r v∧(∀ b,b<W.heap.size→¬ Own ι' obj b→W2.heap[b]? = W.heap[b]?)∧W.heap.size≤W2.heap.size:=by
 obtain ⟨J2,zO,S2,R2,E2⟩:=hA
 have hsz:=h.size
 refine ⟨J2,zO,⟨S2,h.ext.trans E2,fun b hb=>?_,fun b hb=>?_,Nat.le_trans h.size E2.ev.size⟩,R2,E2.ev.same,E2.ev.size⟩
 ·rcases E2.own b hb with k | k
  ·exact h.own b k
  ·exact .inr (by omega)
 ·rcases E2.ev.wD b hb with k | k | k
  ·exact h.std b k
  ·exact .inr (.inl (by omega))
  ·rcases h.own b k with k | k
   ·exact .inr (.inr k)
   ·exact .inr (.inl k)
end
end Dv
namespace Dv
open Go
section
variable {P:Program} {G:Nat→Option (List DV)} {N:Nat}
def iO (p:Value) (aA:List aG) (s:St):Prop:=s.get iq=.d (.val p)∧s.ag.take aA.length=aA.map some
theorem O_ {f:Nat} {fn:Func} {c:C} {rv:List RV} {args:List LV} {aH aA:List aG} {p:Value} (hf:P.funcs[f]? = some fn) (hn:fn.name≠ "runtime.NumGoroutine") (ja:aq P fn=some (N,c,rv)) (hl:args.length≤N) (hlen:aH.length=aA.length) (ho:aA.all (dQ aA.length)=true)
  (h:vc P G c ⟨fc 0 args,aH.map some⟩ ⟨fun _=>False,fun j s=>j=iq∧iO p aA s,fun _=>False,qS,none⟩) (GA:j9 c=true):vF P G f args aH p aA:=by
 unfold aq at ja
 split at ja
 ·rename_i code hbody
  split at ja
  ·rename_i c' rv' hc Nj
   split at ja
   case isFalse=>cases ja
   rename_i hlim
   cases ja
   refine ⟨by simp [mC,hf,hn,hbody],fun J0 cI w0 vs S0 hargs=>?_⟩
   have hvl:vs.size=args.length:=by have:=hargs.length; simpa using this.symm
   refine (qa (ro:=none) (n:=0)).1 (callsIn_of_wp hf hbody trivial (wpIn_mono (eV (D:=Dk.plain [] false) (N:=fn.ntmps) (bF:=ay (aH.map some)) (J0:=J0) (cI:=cI) (w0:=w0) code c hc (.inl GA) _ _ h qy.no (Lu.no _) _ w0 ⟨J0,cI,⟨S0,fun t=>?_,?_,Marks.plain _ _,trivial,hlim⟩,Ext.refl ..⟩) (fun e a w hq=>?_)))
   ·have h1:=mc args vs.toList 0 t hargs
    simp only [Nat.zero_le,if_true,Nat.sub_zero] at h1
    have h2:(vs++Array.replicate (fn.ntmps-vs.size) Go.undef).getD t Go.undef=(vs.toList[t]?).getD Go.undef:=by
     simp only [Array.getD_eq_getD_getElem?,Array.getElem?_append,Array.getElem?_toList]
     by_cases ht:t<vs.size
     ·rw [if_pos ht]
     ·rw [if_neg ht,Array.getElem?_eq_none (Nat.le_of_not_lt ht),Array.getElem?_replicate]
      split <;> rfl
    rw [h2]; exact h1
   ·simp; omega
   ·cases e with
    | normal=>obtain ⟨s,hA,hB⟩:=hq; exact hB.elim
    | ret=>obtain ⟨s,hA,hB⟩:=hq; exact hB.elim
    | exit i=>obtain ⟨OX,s,_,hB,_⟩:=hq; exact absurd hB OX
    | goto l=>exact hq.elim
    | outgrown=>exact hq.elim
    | panic ch=>
      obtain ⟨v,s,rfl,hd,⟨J,ι,S,E,_⟩,_,hv,e_⟩:=hq
      have e_:s.ag.take aA.length=aA.map some:=e_
      have hv:v=p:=by
       have:(LV.d (.val v))=.d (.val p):=by simpa [jW,St.get,aO] using hv
       simpa using this
      subst hv
      refine ⟨hd rfl,rfl,?_⟩
      have ho':=ho
      rw [List.all_eq_true] at ho
      obtain ⟨S',hown⟩:=S.sub (ρ:=List.range aA.length) (Z:=[]) (aH:=aA) (base:=0) List.nodup_range (fun _ h=>by cases h) (by simp) (fun i o hi=>by
       have hlt:i<aA.length:=by
        have:=(List.getElem?_eq_some_iff.1 hi).1
        simpa using this
       have oN:o=i:=by rw [List.getElem?_range hlt] at hi; cases hi; rfl
       subst oN
       refine ⟨aA[o],List.getElem?_eq_getElem hlt,?_⟩
       have h3:(s.ag.take aA.length)[o]? = some (some aA[o]):=by rw [e_]; simp [hlt]
       rw [List.getElem?_take_of_lt hlt] at h3
       rw [B5 (fun o h=>sE h) _ (ho _ (List.getElem_mem hlt))]
       simp only [St.obj,ay,h3]) (by rw [List.length_range]; exact ho') (fun _ h=>by cases h)
      refine ⟨_,_,S',trivial,⟨E.ev.os,E.ev.tape,E.ev.output,E.ev.size,E.ev.same,E.ev.shape,fun b hb=>.inl (E.ev.iW b hb),fun b hb=>?_,fun o n b hb=>?_⟩,?_⟩
      ·rcases hb with hb | ⟨z,VF,Dc⟩
       ·exact E.ev.wD b hb
       ·cases VF
      ·have ho:o<aH.length:=by
        rcases Nat.lt_or_ge o aH.length with h1 | h1
        ·exact h1
        ·have:=S0.rep o
         rw [dw (by simpa using h1)] at this
         rw [this n] at hb; cases hb
       exact lF (eH (by omega)) (E.ev.iY o n b hb)
      ·rintro b ⟨i,hb⟩
       obtain ⟨o,_,h2⟩:=hown i b hb
       exact E.own b ⟨o,h2⟩
  ·cases ja
 ·cases ja
end
section
variable {P:Program} {G:Nat→Option (List DV)} {fin:St→Prop} {t:List It} {s:St} {env:List (Nat×LV)} {ag:List (Option aG)} {os:List eo} {log:List iS}
/-- a function that panics, by its walk. -/
theorem HA {f:Nat} {fn:Func} {ir:Nat×C×List RV} {args:List LV} {aH aA:List aG} {p:Value} (hf:P.funcs[f]? = some fn) (hn:(fn.name != "runtime.NumGoroutine")=true) (ja:aq P fn=some ir) (hl:Nat.ble args.length ir.1=true) (hlen:aH.length=aA.length) (ho:aA.all (dQ aA.length)=true)
  (h:W P G (fun _=>False) [.c ir.2.1,.pn (iO p aA)] ⟨fc 0 args,aH.map some⟩) (GA:j9 ir.2.1=true:=by rfl):vF P G f args aH p aA:=by
 refine O_ hf (by simpa using hn) (N:=ir.1) (c:=ir.2.1) (rv:=ir.2.2) ja (Nat.le_of_ble_eq_true hl) hlen ho ?_ GA
 simp only [W,Wx,Wy] at h
 refine nT _ _ ⟨fun _=>False,fun i s=>if i=iq then iO p aA s else False,fun _=>False,qS,none⟩ _ (fun s h=>h) (fun i s h=>?_) (fun s h=>h) h
 dsimp only at h
 split at h
 ·rename_i hi; exact ⟨hi,h⟩
 ·exact h.elim
theorem fh {i:Nat} {p:St→Prop} : Wx P G fin i (.pn p::t) s=if i=iq then p s else Wx P G fin i t s:=by simp only [Wx]
theorem IV {d:Option Nat} {f:bY} {as:List bY} {pre:List Nat} {k:Nat} {fs cs:List LV} {v:Value} (e:fA) (hc:callee (f.ev G (aO env))=some (k,fs,cs)) (h:fB P G k (fs++as.map (·.ev G (aO env))++cs) (ay ag) ag.length v e)
  (hk:Wx P G fin iq t ⟨(iq,.d (.val v))::env,ga e.wr ag++e.nw.map some⟩):W P G fin (.ops (⟨d,.call f as,none,pre⟩::os)::t) ⟨env,ag⟩:=by
 simp only [W,gO,xD,xE]
 have wG:callee (f.ev G (St.get ⟨env,ag⟩))=some (k,fs,cs):=hc
 rw [wG]
 exact .inr ⟨v,e,h,hk⟩
theorem OQ {d:Option Nat} {f:bY} {as:List bY} {pre:List Nat} {k:Nat} {fs cs:List LV} {v:Value} (e:fA) (hc:callee (f.ev G (aO env))=some (k,fs,cs)) (h:fB P G k (fs++as.map (·.ev G (aO env))++cs) (ay ag) ag.length v e)
  (hk:Wx P G fin iq t ⟨[(iq,.d (.val v))],ga e.wr ag++e.nw.map some⟩) (hr:W P G fin (.yt log.length pre os (log++[⟨pre,e.rd,[]⟩])::t) ⟨ej d .top env,ag⟩):W P G fin (.gd (⟨d,.call f as,none,pre⟩::os) log::t) ⟨env,ag⟩:=by
 simp only [W,e6,xD,xE]
 have wG:callee (f.ev G (St.get ⟨env,ag⟩))=some (k,fs,cs):=hc
 rw [wG]
 simp only [W] at hr
 exact .inr ⟨v,e,h,hk,hr⟩
theorem zL {p:Nat} {DP:List Nat} : W P G fin (.yt p DP [] log::t) s=(indep log=true∧DQ log p DP=true):=by simp only [W,o9]
theorem wz {p:Nat} {DP:List Nat} {d:Option Nat} {i:I} {g:Option (Nat×Bool)} {pre:List Nat} (h:pre.contains p=true):W P G fin (.yt p DP (⟨d,i,g,pre⟩::os) log::t) ⟨env,ag⟩=W P G fin (.yt p DP os (log++[⟨pre,[],[]⟩])::t) ⟨ej d .top env,ag⟩:=by
 simp only [W,o9,h,if_true]; rfl
theorem BH {p:Nat} {DP:List Nat} {d:Option Nat} {x:bY} {pre:List Nat} (h:pre.contains p=false):W P G fin (.yt p DP (⟨d,.mv x,none,pre⟩::os) log::t) ⟨env,ag⟩=W P G fin (.yt p DP os (log++[⟨pre,[],[]⟩])::t) ⟨ej d (x.ev G (aO env)) env,ag⟩:=by
 simp only [W,o9,h,xD,xE,cR,Bool.false_eq_true,if_false]
 simp only [St.app,ga,List.map_nil,List.append_nil,fA.owned,DY,List.append_nil,List.map_nil]
 rfl
theorem fB.data {k:Nat} {args bh:List LV} {obj:Nat→cW} {base:Nat} {v:Value} (hT:vF P G k bh [] v []) (ha:aa obj [] [] args bh) :
  fB P G k args obj base v { r:=.top,rd:=[],wr:=[],nw:=[] }:=
 ⟨⟨[],[],bh,[],[],List.nodup_nil,(fun _ h=>by cases h),(fun _ h=>by cases h),rfl,(fun i o h=>by simp at h),rfl,ha,Nat.le_refl _,hT,rfl⟩⟩
theorem fB.hand {k:Nat} {args bh:List LV} {obj:Nat→cW} {base:Nat} {v:Value} {aH aA:List aG} (ρ:List Nat) (hT:vF P G k bh aH v aA) (ha:aa obj ρ [] args bh) (hnd:ρ.Nodup) (ho:ρ.map obj=aH.map (fun ob=>cW.live (fC (bE ρ base) ob))) (hid:aH.all (dQ ρ.length)=true) (hle:aH.length≤aA.length) :
  fB P G k args obj base v { r:=.top,rd:=ρ,wr:=ρ.zip (aA.map (fC (bE ρ base))),nw:=(aA.drop ρ.length).map (fC (bE ρ base)) }:=
 ⟨⟨ρ,[],bh,aH,aA,hnd,(fun _ h=>by cases h),(fun _ h=>by cases h),by have:=congrArg List.length ho; simpa using this.symm,(fun i o hi=>by
   have h1:(ρ.map obj)[i]? = some (obj o):=by rw [List.getElem?_map,hi]; rfl
   rw [ho,List.getElem?_map] at h1
   cases hf:aH[i]? with
   | none=>rw [hf] at h1; cases h1
   | some ob=>rw [hf] at h1; simp at h1; exact ⟨ob,rfl,h1.symm⟩),hid,ha,hle,hT,by simp [gE]⟩⟩
theorem nP {d:Option Nat} {f:bY} {as:List bY} {pre:List Nat} {k:Nat} {fs cs bh:List LV} {v:Value} (hT:vF P G k bh [] v []) (hc:callee (f.ev G (aO env))=some (k,fs,cs)) (ha:fs++as.map (·.ev G (aO env))++cs=bh) (hid:eX 0 bh=true)
  (hk:Wx P G fin iq t ⟨(iq,.d (.val v))::env,ag⟩):W P G fin (.ops (⟨d,.call f as,none,pre⟩::os)::t) ⟨env,ag⟩:=by
 refine IV _ hc (fB.data hT (by rw [ha]; exact gC _ _ _ _ hid)) ?_
 simpa [ga] using hk
theorem dc {d:Option Nat} {f:bY} {as:List bY} {pre:List Nat} {k:Nat} {fs cs bh:List LV} {v:Value} {aH aA:List aG} (ρ:List Nat) (hT:vF P G k bh aH v aA) (hc:callee (f.ev G (aO env))=some (k,fs,cs)) (ha:aa (ay ag) ρ [] (fs++as.map (·.ev G (aO env))++cs) bh)
  (hnd:ρ.Nodup) (ho:ρ.map (ay ag)=aH.map (fun ob=>cW.live (fC (bE ρ ag.length) ob))) (hid:aH.all (dQ ρ.length)=true) (hle:aH.length≤aA.length)
  (hk:Wx P G fin iq t ⟨(iq,.d (.val v))::env,ga (ρ.zip (aA.map (fC (bE ρ ag.length)))) ag++((aA.drop ρ.length).map (fC (bE ρ ag.length))).map some⟩):W P G fin (.ops (⟨d,.call f as,none,pre⟩::os)::t) ⟨env,ag⟩:=by
 refine IV _ hc (fB.hand ρ hT ha hnd ho hid hle) ?_
 simpa using hk
theorem BI {d:Option Nat} {f:bY} {as:List bY} {pre:List Nat} {k:Nat} {fs cs bh:List LV} {v:Value} {aH aA:List aG} (ρ:List Nat) (hT:vF P G k bh aH v aA) (hc:callee (f.ev G (aO env))=some (k,fs,cs)) (ha:aa (ay ag) ρ [] (fs++as.map (·.ev G (aO env))++cs) bh)
  (hnd:ρ.Nodup) (ho:ρ.map (ay ag)=aH.map (fun ob=>cW.live (fC (bE ρ ag.length) ob))) (hid:aH.all (dQ ρ.length)=true) (hle:aH.length≤aA.length)
  (hk:Wx P G fin iq t ⟨[(iq,.d (.val v))],ga (ρ.zip (aA.map (fC (bE ρ ag.length)))) ag++((aA.drop ρ.length).map (fC (bE ρ ag.length))).map some⟩)
  (hr:W P G fin (.yt log.length pre os (log++[⟨pre,ρ,[]⟩])::t) ⟨ej d .top env,ag⟩):W P G fin (.gd (⟨d,.call f as,none,pre⟩::os) log::t) ⟨env,ag⟩:=by
 refine OQ _ hc (fB.hand ρ hT ha hnd ho hid hle) ?_ hr
 simpa using hk
end
end Dv
namespace Dv
open Go
section
variable {P:Program} {G:Nat→Option (List DV)}
theorem cF.aaD {k:Nat} {args bh:List LV} {obj:Nat→cW} {base:Nat} {r:LV} {aH aA:List aG} (ρ Z:List Nat) (hT:br P G k bh aH r aA) (ha:aa obj ρ Z args bh) (hnd:ρ.Nodup) (hz:∀ z∈Z,z∉ρ) (hZ:∀ z∈Z,∃ et e rows,obj z=.live (.dat et e rows)∨obj z=.live (.kU et e rows)) (ho:ρ.map obj=aH.map (fun ob=>cW.live (fC (bE ρ base) ob))) (hid:aH.all (dQ ρ.length)=true) (hle:aH.length≤aA.length) :
  cF P G k args obj base { r:=rn (bE ρ base) r,rd:=ρ++Z,wr:=ρ.zip (aA.map (fC (bE ρ base)))++gE obj Z,nw:=(aA.drop ρ.length).map (fC (bE ρ base)) }:=
 ⟨⟨ρ,Z,false,bh,aH,r,aA,(fun _=>true),(fun _ _ _ h=>by cases h),hnd,hz,hZ,by have:=congrArg List.length ho; simpa using this.symm,(fun i o hi=>by
   have h1:(ρ.map obj)[i]? = some (obj o):=by rw [List.getElem?_map,hi]; rfl
   rw [ho,List.getElem?_map] at h1
   cases hf:aH[i]? with
   | none=>rw [hf] at h1; cases h1
   | some ob=>rw [hf] at h1; simp at h1; exact ⟨ob,rfl,h1.symm⟩),hid,ha,(fun h=>by cases h),hle,hT,by rw [List.filter_eq_self.2 (fun _ _=>rfl)]; simp⟩⟩
variable {fin:St→Prop} {env:List (Nat×LV)} {ag:List (Option aG)} {os:List eo} {t:List It} {log:List iS}
theorem iN {d:Option Nat} {f:bY} {as:List bY} {pre:List Nat} {k:Nat} {fs cs bh:List LV} {r:LV} {aH aA:List aG} (ρ Z:List Nat) (hT:br P G k bh aH r aA) (hc:callee (f.ev G (aO env))=some (k,fs,cs)) (ha:aa (ay ag) ρ Z (fs++as.map (·.ev G (aO env))++cs) bh)
  (hnd:ρ.Nodup) (hz:∀ z∈Z,z∉ρ) (hZ:∀ z∈Z,∃ et e rows,ay ag z=.live (.dat et e rows)∨ay ag z=.live (.kU et e rows)) (ho:ρ.map (ay ag)=aH.map (fun ob=>cW.live (fC (bE ρ ag.length) ob))) (hid:aH.all (dQ ρ.length)=true) (hle:aH.length≤aA.length)
  (hk:W P G fin (.gd os (log++[⟨pre,ρ++Z,(DY ag.length ((aA.drop ρ.length).map (fC (bE ρ ag.length)))++(ρ.zip (aA.map (fC (bE ρ ag.length)))++gE (ay ag) Z)).map (·.1)⟩])::t) ⟨ej d (rn (bE ρ ag.length) r) env,ga (ρ.zip (aA.map (fC (bE ρ ag.length)))++gE (ay ag) Z) ag++((aA.drop ρ.length).map (fC (bE ρ ag.length))).map some⟩):W P G fin (.gd (⟨d,.call f as,none,pre⟩::os) log::t) ⟨env,ag⟩:=by
 refine oC _ hc (cF.aaD ρ Z hT ha hnd hz hZ ho hid hle) ?_
 simpa [fA.owned] using hk
theorem cF.look {k:Nat} {args bh:List LV} {obj:Nat→cW} {base:Nat} {r:LV} {aH:List aG} (ρ:List Nat) (hT:br P G k bh aH r aH) (ha:aa obj ρ [] args bh) (hnd:ρ.Nodup) (ho:ρ.map obj=aH.map (fun ob=>cW.live (fC (bE ρ base) ob))) (hid:aH.all (dQ ρ.length)=true) :
  cF P G k args obj base { r:=rn (bE ρ base) r,rd:=ρ,wr:=[],nw:=[] }:=by
 have hlen:aH.length=ρ.length:=by have:=congrArg List.length ho; simpa using this.symm
 refine ⟨⟨ρ,[],false,bh,aH,r,aH,(fun _=>false),(fun _ _ _ _=>rfl),hnd,(fun _ h=>by cases h),(fun _ h=>by cases h),hlen,(fun i o hi=>?_),hid,ha,(fun h=>by cases h),Nat.le_refl _,hT,?_⟩⟩
 ·have h1:(ρ.map obj)[i]? = some (obj o):=by rw [List.getElem?_map,hi]; rfl
  rw [ho,List.getElem?_map] at h1
  cases hf:aH[i]? with
  | none=>rw [hf] at h1; cases h1
  | some ob=>rw [hf] at h1; simp at h1; exact ⟨ob,rfl,h1.symm⟩
 ·rw [List.drop_eq_nil_of_le (by omega)]
  simp [gE]
theorem dI {d:Option Nat} {f:bY} {as:List bY} {pre:List Nat} {k:Nat} {fs cs bh:List LV} {r:LV} {aH:List aG} (ρ:List Nat) (hT:br P G k bh aH r aH) (hc:callee (f.ev G (aO env))=some (k,fs,cs)) (ha:aa (ay ag) ρ [] (fs++as.map (·.ev G (aO env))++cs) bh)
  (hnd:ρ.Nodup) (ho:ρ.map (ay ag)=aH.map (fun ob=>cW.live (fC (bE ρ ag.length) ob))) (hid:aH.all (dQ ρ.length)=true)
  (hk:W P G fin (.ops os::t) ⟨ej d (rn (bE ρ ag.length) r) env,ag⟩):W P G fin (.ops (⟨d,.call f as,none,pre⟩::os)::t) ⟨env,ag⟩:=by
 refine vE _ hc (cF.look ρ hT ha hnd ho hid) ?_
 simpa [ga] using hk
theorem iM {d:Option Nat} {f:bY} {as:List bY} {pre:List Nat} {k:Nat} {fs cs bh:List LV} {r:LV} {aH:List aG} (ρ:List Nat) (hT:br P G k bh aH r aH) (hc:callee (f.ev G (aO env))=some (k,fs,cs)) (ha:aa (ay ag) ρ [] (fs++as.map (·.ev G (aO env))++cs) bh)
  (hnd:ρ.Nodup) (ho:ρ.map (ay ag)=aH.map (fun ob=>cW.live (fC (bE ρ ag.length) ob))) (hid:aH.all (dQ ρ.length)=true)
  (hk:W P G fin (.gd os (log++[⟨pre,ρ,[]⟩])::t) ⟨ej d (rn (bE ρ ag.length) r) env,ag⟩):W P G fin (.gd (⟨d,.call f as,none,pre⟩::os) log::t) ⟨env,ag⟩:=by
 refine oC _ hc (cF.look ρ hT ha hnd ho hid) ?_
 simpa [fA.owned,ga,DY] using hk
end
end Dv
namespace Dv
open Go
section
variable {P:Program} {G:Nat→Option (List DV)} {J J0:Nat→Prop} {w w0:World} {ι cI:Nat→Nat→Option Nat}
theorem IE {fn:Func} {rv:List RV} {r:LV} {rs:List LV} (Z:List Nat) {s:St} {tmps:Array Value} (S:aN G J w ι s.obj) (he:∀ t,dF J w ι (s.get t) (tmps.getD t Go.undef)) (S0:aN G J0 w0 cI (ay [])) (E:Ext (ay []) s.obj J0 J cI ι w0 w)
  (Nj:ox P fn.results.toList=some rv) (XG:uH.of s rv=some rs) (wH:∀ z∈Z,∃ et e rows,s.obj z=.live (.dat et e rows)∨s.obj z=.live (.kU et e rows)) (hR:ah s.obj [] Z (aF rs) r) :
  ∃ v,(results fn tmps).run P w=.ok v w∧bB G (ay []) (ay []) J0 cI w0 r v w:=by
 obtain ⟨us,qX,zX⟩:=uH.sound (a:={ tmps:=tmps,defers:=[] }) S he Nj XG
 have hm:(fn.results.mapM (DK tmps)).run P w=.ok us.toArray w:=by
  rw [Array.mapM_eq_mapM_toList,Sem.run_map,qX]; rfl
 have hv:∃ v,(results fn tmps).run P w=.ok v w∧dF J w ι (aF rs) v:=by
  refine ⟨if h:us.toArray.size=1 then us.toArray[0] else .tuple us.toArray,?_,?_⟩
  ·rw [sA,Sem.run_bind,hm]
   rfl
  ·have Nf:=zX.length
   cases rs with
   | nil=>
     cases us with
     | nil=>exact ⟨#[],rfl,trivial⟩
     | cons _ _=>simp at Nf
   | cons x xs=>
     cases us with
     | nil=>simp at Nf
     | cons u us=>
       cases xs with
       | nil=>
         cases us with
         | nil=>exact zX.1
         | cons _ _=>simp at Nf
       | cons y ys=>
         cases us with
         | nil=>simp at Nf
         | cons u2 us=>exact ⟨_,by simp,zX⟩
 obtain ⟨v,zN,uL⟩:=hv
 refine ⟨v,zN,?_⟩
 obtain ⟨S',hown⟩:=S.sub (ρ:=[]) (Z:=Z) (aH:=[]) (base:=0) List.nodup_nil (fun _ _ h=>by cases h) rfl (fun i o h=>by simp at h) rfl wH
 refine ⟨_,_,S',l_ S _ _ v hR uL,⟨E.ev.os,E.ev.tape,E.ev.output,E.ev.size,E.ev.same,E.ev.shape,fun b hb=>.inl (E.ev.iW b hb),fun b hb=>?_,fun o n b hb=>?_⟩,?_⟩
 ·rcases hb with hb | ⟨z,VF,Dc⟩
  ·exact E.ev.wD b hb
  ·rcases E.own b ⟨z,Dc⟩ with h1 | h1
   ·exact .inr (.inr h1)
   ·exact .inr (.inl h1)
 ·have:=S0.rep o
  rw [dw (by simp)] at this
  rw [this n] at hb; cases hb
 ·rintro b ⟨i,hb⟩
  obtain ⟨o,_,h2⟩:=hown i b hb
  exact E.own b ⟨o,h2⟩
end
section
variable {P:Program} {G:Nat→Option (List DV)} {D:Dk} {N:Nat} {bF:Nat→cW} {J0:Nat→Prop} {cI:Nat→Nat→Option Nat} {w0:World} {Q:Exit→Act→World→Prop}
theorem I9 {code Wh:Code} {c:C} {s s1:St} {a:Act} {w:World} (hc:fZ P N code=some c) (h:vc P G c s ⟨fun s'=>s'=s1,fun _ _=>False,fun _=>False,qS,none⟩) (hA:oS G D N bF J0 cI w0 s a w)
  (hk:∀ a w,oS G D N bF J0 cI w0 s1 a w→Wh.wp P Q a w) (GA:j9 c=true:=by kernel_rfl):(Code.seq code Wh).wp P Q a w:=by
 refine wp_seq (wp_mono ((wpIn_wide (n:=0)).1 (eV (ro:=none) code c hc (.inl GA) s _ h qy.no (Lu.no _) a w hA)) (fun e a' w' hq=>?_))
 cases e with
 | normal=>obtain ⟨s',vo,rfl⟩:=hq; exact hk a' w' vo
 | ret=>obtain ⟨s,_,h⟩:=hq; exact h.elim
 | exit i=>obtain ⟨_,s,_,h⟩:=hq; exact h.elim
 | goto l=>exact hq.elim
 | panic ch=>obtain ⟨_,s,_,_,_,h⟩:=hq; exact h.elim
 | outgrown=>exact hq.elim
theorem I_ {code:Code} {c:C} {s:St} {a:Act} {w:World} {fin pan:St→Prop} (hc:fZ P N code=some c) (h:vc P G c s ⟨fin,fun i s'=>i=iq∧pan s',fin,qS,none⟩) (hA:oS G D N bF J0 cI w0 s a w)
  (hk:∀ s a w,oS G D N bF J0 cI w0 s a w→fin s→Q .normal a w∧Q .ret a w)
  (hp:∀ v s a w,(D.vW=false→a.defers=D.ds)→Tr G bF J0 cI w0 s.get s.obj a w→pan (jW v s)→Q (.panic [{ v:=v,recovered:=false }]) a w) (GA:j9 c=true:=by kernel_rfl):code.wp P Q a w:=by
 refine wp_mono ((wpIn_wide (n:=0)).1 (eV (ro:=none) code c hc (.inl GA) s _ h qy.no (Lu.no _) a w hA)) (fun e a' w' hq=>?_)
 cases e with
 | normal=>obtain ⟨s',vo,h⟩:=hq; exact (hk s' a' w' vo h).1
 | ret=>obtain ⟨s',vo,h⟩:=hq; exact (hk s' a' w' vo h).2
 | exit i=>obtain ⟨hi,s,_,h,_⟩:=hq; exact absurd h hi
 | goto l=>exact hq.elim
 | panic ch=>obtain ⟨v,s',rfl,h1,h2,_,h3⟩:=hq; exact hp v s' a' w' h1 h2 h3
 | outgrown=>exact hq.elim
theorem Ti {args:List LV} {vs:Array Value} {n:Nat} {w:World} {aH:List aG} (S0:aN G J0 w cI (ay (aH.map some))) (hargs:cL J0 w cI args vs.toList) (hn:args.length≤n) (hl:n≤YS:=by decide) :
  oS G (Dk.plain [] false) n (ay (aH.map some)) J0 cI w ⟨fc 0 args,aH.map some⟩ { tmps:=vs++Array.replicate (n-vs.size) Go.undef,defers:=[] } w:=by
 refine ⟨J0,cI,⟨S0,fun t=>?_,?_,Marks.plain _ _,trivial,hl⟩,Ext.refl ..⟩
 ·have h1:=mc args vs.toList 0 t hargs
  simp only [Nat.zero_le,if_true,Nat.sub_zero] at h1
  have h2:(vs++Array.replicate (n-vs.size) Go.undef).getD t Go.undef=(vs.toList[t]?).getD Go.undef:=by
   simp only [Array.getD_eq_getD_getElem?,Array.getElem?_append,Array.getElem?_toList]
   by_cases ht:t<vs.size
   ·rw [if_pos ht]
   ·rw [if_neg ht,Array.getElem?_eq_none (Nat.le_of_not_lt ht),Array.getElem?_replicate]
    split <;> rfl
  rw [h2]; exact h1
 ·have hvl:vs.size=args.length:=by have:=hargs.length; simpa using this.symm
  simp; omega
end
theorem DX {l:List (Option aG)} {i:Nat} (h:i<l.length) (ob:aG):ay (l.set i (some ob))=fun o=>if o=i then .live ob else ay l o:=by
 funext o
 unfold ay
 by_cases ho:o=i
 ·subst ho; rw [List.getElem?_set_self h]; simp
 ·rw [List.getElem?_set_ne (fun e=>ho e.symm),if_neg ho]
section
variable {P:Program} {G G0:Nat→Option (List DV)} {J J':Nat→Prop} {w w':World} {ι ι':Nat→Nat→Option Nat} {obj obj':Nat→cW}
theorem aN.less (S:aN G J w ι obj) (hG:∀ g row,G0 g=some row→G g=some row):aN G0 J w ι obj:=⟨S.rep,S.inj,S.uu,S.nB,fun g row h=>S.Ab g row (hG g row h)⟩
theorem bB.more {r:LV} {v:Value} (S:aN G J w ι obj) (h:bB G0 obj obj' J ι w r v w'):bB G obj obj' J ι w r v w':=by
 obtain ⟨J',ι',S',R,E⟩:=h
 refine ⟨J',ι',⟨S'.rep,S'.inj,S'.uu,S'.nB,fun g row hg=>?_⟩,R,E⟩
 obtain ⟨h1,h2,t,h3⟩:=S.Ab g row hg
 exact ⟨E.ev.iW g h1,h2.ev S E.ev h1,t,by rw [E.ev.shape g (S.Zf g h1)]; exact h3⟩
theorem br.up {f:Nat} {args:List LV} {ag aC:List aG} {r:LV} (h:br P G0 f args ag r aC) (hG:∀ g row,G0 g=some row→G g=some row):br P G f args ag r aC:=by
 refine ⟨h.1,fun J ι w vs S hargs=>(h.2 J ι w vs (S.less hG) hargs).mono fun e w' hr=>?_⟩
 obtain ⟨v,he,hA⟩:=hr
 exact ⟨v,he,bB.more S hA⟩
end
end Dv
namespace Dv
open Go
section
variable {P:Program} {G:Nat→Option (List DV)}
theorem CF:∀ (env:List (Nat×LV)) (t:Nat),aO env t=.top∨(t,aO env t)∈env
 | [],t=>.inl rfl
 | (k,v)::env,t=>by
   unfold aO
   by_cases h:k=t
   ·rw [if_pos h]; subst h; exact .inr (List.mem_cons_self ..)
   ·rw [if_neg h]
    rcases CF env t with h1 | h1
    ·exact .inl h1
    ·exact .inr (List.mem_cons_of_mem _ h1)
theorem BD {obj:Nat→cW} {ρ Z:List Nat} (f:Nat→LV):∀ (env':List (Nat×LV)),aa obj ρ Z (env'.map fun p=>f p.1) (env'.map (·.2))→∀ p∈env',ah obj ρ Z (f p.1) p.2
 | [],_,p,hp=>by cases hp
 | q::env',h,p,hp=>by
   rcases List.mem_cons.1 hp with rfl | hp
   ·exact h.1
   ·exact BD f env' h.2 p hp
theorem Da.ren {B:Nat} {env:List (Nat×LV)} {ag:List (Option aG)} (ad:List Ad) (ρ Z:List Nat) (aH:List aG) (env':List (Nat×LV)) (hB:B≤ρ.length∧ρ.take B=List.range B) (hn:ρ.Nodup) (hz:∀ z∈Z,z∉ρ)
  (hl:aH.length=ρ.length) (ho:∀ (i o:Nat),ρ[i]? = some o→∃ ob,aH[i]? = some ob∧(bX ad ⟨env,ag⟩).obj o=.live (fC (bE ρ 0) ob)) (hid:aH.all (dQ ρ.length)=true)
  (wH:∀ z∈Z,∃ et e rows,(bX ad ⟨env,ag⟩).obj z=.live (.dat et e rows)∨(bX ad ⟨env,ag⟩).obj z=.live (.kU et e rows))
  (hY:(env'.all fun p=>p.1 !=YS)=true) (he:aa (bX ad ⟨env,ag⟩).obj ρ Z (env'.map fun p=>(bX ad ⟨env,ag⟩).get p.1) (env'.map (·.2))):Da G B ⟨env,ag⟩ ⟨env',aH.map some⟩:=by
 intro D N bF J0 cI w0 a w hm hA
 have hA:=hA.bX ad
 generalize bX ad ⟨env,ag⟩=s at *
 obtain ⟨J,ι,S,E⟩:=hA.ex
 obtain ⟨S',hown⟩:=S.store.sub (ρ:=ρ) (Z:=Z) (aH:=aH) (base:=0) hn hz hl ho hid wH
 refine ⟨_,_,⟨S',fun t=>?_,S.size,S.defers,?_,S.lim⟩,⟨E.ev.os,E.ev.tape,E.ev.output,E.ev.size,E.ev.same,E.ev.shape,fun b hb=>.inl (E.ev.iW b hb),fun b hb=>?_,fun o n b hb=>?_⟩,?_⟩
 ·show dF _ w _ (aO env' t) _
  rcases CF env' t with h1 | h1
  ·rw [h1]; trivial
  ·exact l_ S.store _ _ _ (BD s.get env' he _ h1) (S.env t)
 ·show D.ys (aO env' YS) w
  rcases CF env' YS with h1 | h1
  ·rw [h1]; exact D.top _
  ·rw [List.all_eq_true] at hY
   have:=hY _ h1
   simp at this
 ·rcases hb with hb | ⟨z,VF,Dc⟩
  ·exact E.ev.wD b hb
  ·rcases E.own b ⟨z,Dc⟩ with h1 | h1
   ·exact .inr (.inr h1)
   ·exact .inr (.inl h1)
 ·have h1:=E.ev.iY o n b hb
  have h2:=hm o n b hb
  have h3:ρ[o]? = some o:=by
   have:(ρ.take B)[o]? = (List.range B)[o]?:=by rw [hB.2]
   rw [List.getElem?_take_of_lt h2,List.getElem?_range h2] at this
   exact this
  unfold je
  simp only [h3]
  exact h1
 ·rintro b ⟨i,hb⟩
  obtain ⟨o,_,h2⟩:=hown i b hb
  exact E.own b ⟨o,h2⟩
theorem aa4 {fin:St→Prop} {t:List It} {α:Type} {ts:List Nat} {m:Nat} {Inv:α→Prop} {μ:α→Nat} {S:α→St} {k:Nat} {env:List (Nat×LV)} {ag:List (Option aG)} (ad:List Ad) (ρ Z:List Nat) (aH:List aG) (env':List (Nat×LV)) (a':α) (hS:S a'=⟨env',aH.map some⟩) (hB:zH (Wb t) m≤ρ.length∧ρ.take (zH (Wb t) m)=List.range (zH (Wb t) m)) (hn:ρ.Nodup) (hz:∀ z∈Z,z∉ρ)
  (ho:ρ.map (bX ad ⟨env,ag⟩).obj=aH.map (fun ob=>cW.live (fC (bE ρ 0) ob))) (hid:aH.all (dQ ρ.length)=true)
  (wH:∀ z∈Z,∃ et e rows,(bX ad ⟨env,ag⟩).obj z=.live (.dat et e rows)∨(bX ad ⟨env,ag⟩).obj z=.live (.kU et e rows))
  (hY:(env'.all fun p=>p.1 !=YS)=true) (he:aa (bX ad ⟨env,ag⟩).obj ρ Z (env'.map fun p=>(bX ad ⟨env,ag⟩).get p.1) (env'.map (·.2))) (hI:Inv a') (ZY:μ a'<k):W P G fin (.lp ts m (Fs Inv μ S) k::t) ⟨env,ag⟩:=by
 have hl:aH.length=ρ.length:=by have:=congrArg List.length ho; simpa using this.symm
 refine aa3 a' ?_ hI ZY
 rw [hS]
 refine Da.ren ad ρ Z aH env' hB hn hz hl (fun i o h=>?_) hid wH hY he
 have h1:(ρ.map (bX ad ⟨env,ag⟩).obj)[i]? = some ((bX ad ⟨env,ag⟩).obj o):=by rw [List.getElem?_map,h]; rfl
 rw [ho,List.getElem?_map] at h1
 cases hf:aH[i]? with
 | none=>rw [hf] at h1; cases h1
 | some ob=>rw [hf] at h1; exact ⟨ob,rfl,(Option.some.inj h1).symm⟩
/-- a frame that says how many objects it was handed. -/
theorem Ws {f:Nat} {fn:Func} {ir:Nat×C×List RV} {args:List LV} {aH aA:List aG} {r:LV} (hf:P.funcs[f]? = some fn) (hn:(fn.name != "runtime.NumGoroutine")=true) (ja:aq P fn=some ir) (hl:Nat.ble args.length ir.1=true)
  (h:W P G (rL ir.2.2 aH.length r aA) [.c ir.2.1,.bs aH.length] ⟨fc 0 args,aH.map some⟩):br P G f args aH r aA:=by
 refine Hz hf (by simpa using hn) (N:=ir.1) (c:=ir.2.1) (rv:=ir.2.2) ja (Nat.le_of_ble_eq_true hl) (some aH.length) ?_ (fun B h=>by cases h; exact Nat.le_refl _)
 simp only [W,Wx,Wb] at h
 exact h
end
end Dv
