/- part -/
import Derived.Test.YtkalnfkokkjliaaGreatDoorVC
import Derived.KernelRfl
import Derived.Below
set_option linter.all false
namespace Dv
open Go
class NC (i:I):Prop where
 h:∀ f as,i≠.call f as
instance {a} : NC (.mv a):=⟨nofun⟩
instance {a b c} : NC (.pick a b c):=⟨nofun⟩
instance {a b} : NC (.new a b):=⟨nofun⟩
instance {a b} : NC (.box a b):=⟨nofun⟩
instance {a b} : NC (.build a b):=⟨nofun⟩
instance {a b c} : NC (.YQ a b c):=⟨nofun⟩
instance {a} : NC (.ld1 a):=⟨nofun⟩
instance {a b} : NC (.Bi a b):=⟨nofun⟩
instance {a b c} : NC (.st a b c):=⟨nofun⟩
instance {a} : NC (.kT a):=⟨nofun⟩
instance {a b c} : NC (.bin a b c):=⟨nofun⟩
instance {a b c} : NC (.eqb a b c):=⟨nofun⟩
instance {a} : NC (.not a):=⟨nofun⟩
instance {a b} : NC (.cvt a b):=⟨nofun⟩
instance {a b} : NC (.eO a b):=⟨nofun⟩
instance {a b} : NC (.MB a b):=⟨nofun⟩
instance {a b c} : NC (.Vr a b c):=⟨nofun⟩
instance {a b c} : NC (.A3 a b c):=⟨nofun⟩
instance {a b c d} : NC (.ixr a b c d):=⟨nofun⟩
instance {a b c} : NC (.ix1 a b c):=⟨nofun⟩
instance {a b} : NC (.ixs a b):=⟨nofun⟩
instance {a} : NC (.len a):=⟨nofun⟩
instance {a} : NC (.lens a):=⟨nofun⟩
instance {a b c} : NC (.mkf a b c):=⟨nofun⟩
instance {a b} : NC (.ext a b):=⟨nofun⟩
instance {a b c d e} : NC (.app a b c d e):=⟨nofun⟩
instance {a b} : NC (.min a b):=⟨nofun⟩
instance {a b} : NC (.max a b):=⟨nofun⟩
instance {a b} : NC (.Mj a b):=⟨nofun⟩
instance {a b} : NC (.Mi a b):=⟨nofun⟩
instance {a b c d} : NC (.eqs a b c d):=⟨nofun⟩
instance {a} : NC (.neg a):=⟨nofun⟩
instance {a b c d} : NC (.ixn a b c d):=⟨nofun⟩
instance {a b c d e} : NC (.sli a b c d e):=⟨nofun⟩
instance {a b c} : NC (.sls a b c):=⟨nofun⟩
instance {a} : NC (.more a):=⟨nofun⟩
inductive It where
 | c (code:C)
 | ops (l:List ei)
 | fM (l:List ei) (log:List iP)
 | blk (i:Nat)
 | lp (ts:List Nat) (m:Nat) (I:Nat→St→Prop) (k:Nat)
 | pn (p:St→Prop)
 | zB (p:Nat) (pre:List Nat) (l:List ei) (log:List iP)
 | yd (Y:YO)
 | bs (B:Nat)
 | rt (n:St→Prop) (x:Nat→St→Prop)
def Wy:List It→YO
 | []=>rN
 | .yd Y::_=>Y
 | .c _::t=>Wy t
 | .ops _::t=>Wy t
 | .fM _ _::t=>Wy t
 | .blk _::t=>Wy t
 | .lp _ _ _ _::t=>Wy t
 | .pn _::t=>Wy t
 | .zB _ _ _ _::t=>Wy t
 | .rt _ _::_=>rN
 | .bs _::t=>Wy t
def Wb:List It→Option Nat
 | []=>none
 | .bs B::_=>some B
 | .yd _::_=>none
 | .c _::t=>Wb t
 | .ops _::t=>Wb t
 | .fM _ _::t=>Wb t
 | .blk _::t=>Wb t
 | .lp _ _ _ _::t=>Wb t
 | .pn _::t=>Wb t
 | .zB _ _ _ _::t=>Wb t
 | .rt _ _::_=>none
section
variable (P:Program) (G:Nat→Option (List DV)) (fin:St→Prop)
mutual
def W:List It→St→Prop
 | [],s=>fin s
 | .c code::t,s=>vc P G code s ⟨W t,fun i s'=>Wx i t s',fin,Wy t,Wb t⟩
 | .ops l::t,s=>gG P G (Wy t) (fun v s'=>Wx gY t (jY v s')) l s (W t)
 | .fM l log::t,s=>eV P G (fun v s'=>Wx gY t (jY v s')) l s log (fun s' gT=>indep gT=true∧W t s')
 | .zB p pre l log::_,s=>pW P G p pre l s log
 | .pn _::t,s=>W t s
 | .yd _::t,s=>W t s
 | .bs _::t,s=>W t s
 | .rt n _::_,s=>n s
 | .blk _::t,s=>W t s
 | .lp ts m I k::t,s=>∃ j,j<k∧∃ s3,I j s3∧JC G (Jn (Wb t) m) s s3
def Wx (i:Nat):List It→St→Prop
 | [],_=>False
 | .c _::t,s=>Wx i t s
 | .ops _::t,s=>Wx i t s
 | .fM _ _::t,s=>Wx i t s
 | .blk j::t,s=>if i=j then W t s else Wx i t s
 | .lp _ _ _ _::t,s=>Wx i t s
 | .pn p::t,s=>if i=gY then p s else Wx i t s
 | .zB _ _ _ _::t,s=>Wx i t s
 | .yd _::t,s=>Wx i t s
 | .bs _::t,s=>Wx i t s
 | .rt _ x::_,s=>x i s
end
end
section
variable (P:Program) (G:Nat→Option (List DV)) (fin:St→Prop)
def WE (o:Option fu) (d:Option Nat) (os:List ei) (t:List It) (env:List (Nat×LV)) (af:List (Option aH)):Prop:=match o with
 | some e=>W P G fin (.ops os::t) ⟨dY d e.r env,fQ e.wr af++e.nw.map some⟩
 | none=>False
def WED (o:Option fu) (d:Option Nat) (pre:List Nat) (os:List ei) (log:List iP) (t:List It) (env:List (Nat×LV)) (af:List (Option aH)):Prop:=match o with
 | some e=>W P G fin (.fM os (log++[⟨pre,e.rd,(e.owned af.length).map (·.1)⟩])::t) ⟨dY d e.r env,fQ e.wr af++e.nw.map some⟩
 | none=>False
def WG (v:LV) (want:Bool) (d:Option Nat) (i:I) (pre:List Nat) (os:List ei) (t:List It) (env:List (Nat×LV)) (af:List (Option aH)):Prop:=match v with
 | .d (.val (.bool b))=>if b=want then W P G fin (.ops (⟨d,i,none,pre⟩::os)::t) ⟨env,af⟩ else W P G fin (.ops os::t) ⟨dY d .undef env,af⟩
 | .d (.val (.tuple _))=>W P G fin (.ops os::t) ⟨dY d .undef env,af⟩
 | _=>False
def KW (v:LV) (want:Bool) (d:Option Nat) (i:I) (pre:List Nat) (os:List ei) (log:List iP) (t:List It) (env:List (Nat×LV)) (af:List (Option aH)):Prop:=match v with
 | .d (.val (.bool b))=>if b=want then W P G fin (.fM (⟨d,i,none,pre⟩::os) log::t) ⟨env,af⟩ else W P G fin (.fM os (log++[⟨pre,[],[]⟩])::t) ⟨dY d .undef env,af⟩
 | .d (.val (.tuple _))=>W P G fin (.fM os (log++[⟨pre,[],[]⟩])::t) ⟨dY d .undef env,af⟩
 | _=>False
def WC (v:LV) (a b:C) (t:List It) (env:List (Nat×LV)) (af:List (Option aH)):Prop:=match v with
 | .d (.val (.bool x))=>if x=true then W P G fin (.c a::t) ⟨env,af⟩ else W P G fin (.c b::t) ⟨env,af⟩
 | .dQ=>W P G fin (.c a::t) ⟨env,af⟩∧W P G fin (.c b::t) ⟨env,af⟩
 | _=>False
end
section
variable {P:Program} {G:Nat→Option (List DV)} {fin:St→Prop} {t:List It} {s:St} {env:List (Nat×LV)} {af:List (Option aH)} {os:List ei} {log:List iP}
theorem acw:W P G fin [] s=fin s:=by simp only [W]
theorem acs {a b:C} : W P G fin (.c (.seq a b)::t) s=W P G fin (.c a::.c b::t) s:=by simp only [W,vc,Wx,Wy,Wb]
theorem aaD:W P G fin (.c .skip::t) s=W P G fin t s:=by simp only [W,vc]
theorem acu:W P G fin (.c .ret::t) s=fin s:=by simp only [W,vc]
theorem aaG {i:Nat} : W P G fin (.c (.exit i)::t) s=Wx P G fin i t s:=by simp only [W,vc]
theorem VO {b:C} : W P G fin (.c (.scope b)::t) s=W P G fin (.c b::t) s:=by simp only [W,vc]
theorem VQ {i:Nat} {b:C} : W P G fin (.c (.block i b)::t) s=W P G fin (.c b::.blk i::t) s:=by simp only [W,vc,Wx,Wy,Wb]
theorem acz {i:Nat} : W P G fin (.blk i::t) s=W P G fin t s:=by simp only [W]
theorem acv {l:List ei} : W P G fin (.c (.iJ l)::t) s=W P G fin (.ops l::t) s:=by simp only [W,vc]
theorem aaE {l:List ei} : W P G fin (.c (.jA l)::t) s=W P G fin (.fM l []::t) s:=by simp only [W,vc]
theorem aaJ {c:bU} {a b:C} : W P G fin (.c (.cond c a b)::t) ⟨env,af⟩=WC P G fin (c.ev G (aZ env)) a b t env af:=by simp only [W,vc,WC]; rfl
theorem acB {a b:C} : WC P G fin (.d (.val (.bool true))) a b t env af=W P G fin (.c a::t) ⟨env,af⟩:=by simp only [WC,if_true]
theorem acC {a b:C} : WC P G fin (.d (.val (.bool false))) a b t env af=W P G fin (.c b::t) ⟨env,af⟩:=by simp [WC]
theorem aaK {a b:C} : WC P G fin .dQ a b t env af=(W P G fin (.c a::t) ⟨env,af⟩∧W P G fin (.c b::t) ⟨env,af⟩):=by simp only [WC]
theorem bx {x:Bool} {a b:C} (h1:x=true→W P G fin (.c a::t) ⟨env,af⟩) (h2:x=false→W P G fin (.c b::t) ⟨env,af⟩):WC P G fin (.d (.val (.bool x))) a b t env af:=by
 cases x
 ·rw [acC]; exact h2 rfl
 ·rw [acB]; exact h1 rfl
theorem adH {ts:List Nat} {m:Nat} {I:Nat→St→Prop} {k:Nat} : W P G fin (.lp ts m I k::t) s=(∃ j,j<k∧∃ s3,I j s3∧JC G (Jn (Wb t) m) s s3):=by simp only [W]
theorem adE {i:Nat} {x:C} : Wx P G fin i (.c x::t) s=Wx P G fin i t s:=by simp only [Wx]
theorem aaB {i:Nat} {x:List ei} : Wx P G fin i (.ops x::t) s=Wx P G fin i t s:=by simp only [Wx]
theorem acq {i:Nat} {ts:List Nat} {m:Nat} {I:Nat→St→Prop} {k:Nat} : Wx P G fin i (.lp ts m I k::t) s=Wx P G fin i t s:=by simp only [Wx]
theorem adI {B:Nat} : W P G fin (.bs B::t) s=W P G fin t s:=by simp only [W]
theorem acr {i B:Nat} : Wx P G fin i (.bs B::t) s=Wx P G fin i t s:=by simp only [Wx]
theorem aaC {i j:Nat} : Wx P G fin i (.blk j::t) s=if i=j then W P G fin t s else Wx P G fin i t s:=by simp only [Wx]
theorem aaF {b:C} (ts:List Nat) (ad:List Ad) (I:Nat→St→Prop) (N:Nat) (h0:I N { (dg ad s) with env:=ts.map fun t=>(t,(dg ad s).get t) }) (h:∀ k s',I k s'→W P G fin (.c b::.lp ts (dg ad s).af.length I k::t) s'):W P G fin (.c (.loop b)::t) s:=by
 simp only [W,vc]
 refine ⟨ts,I,N,ad,h0,fun k s' hk=>?_⟩
 have:=h k s' hk
 simp only [W,Wx,Wy,Wb] at this
 exact this
def Rq {α:Type} (Inv:α→Prop) (μ:α→Nat) (S:α→St):Nat→St→Prop:=fun m s=>∃ a,Inv a∧m=μ a∧s=S a
theorem aW {α:Type} {b:C} (ts:List Nat) (ad:List Ad) (Inv:α→Prop) (μ:α→Nat) (S:α→St) (a0:α) (hS:({ (dg ad s) with env:=ts.map fun t=>(t,(dg ad s).get t) } : St)=S a0) (h0:Inv a0)
  (h:∀ a,Inv a→W P G fin (.c b::.lp ts (dg ad s).af.length (Rq Inv μ S) (μ a)::t) (S a)):W P G fin (.c (.loop b)::t) s:=
 aaF ts ad (Rq Inv μ S) (μ a0) ⟨a0,h0,rfl,hS⟩ (fun k s' ⟨a,h1,h2,h3⟩=>by subst h2; subst h3; exact h a h1)
theorem a_ {α:Type} {ts:List Nat} {m:Nat} {Inv:α→Prop} {μ:α→Nat} {S:α→St} {k:Nat} (a':α) (hok:s.DC ts m) (hS:s.keep ts m=S a') (hI:Inv a') (hμ:μ a'<k):W P G fin (.lp ts m (Rq Inv μ S) k::t) s:=by
 rw [adH]; exact ⟨μ a',hμ,_,⟨a',hI,rfl,rfl⟩,hS ▸ JC.le (VI _ _) (JC.keep hok)⟩
theorem Nr:W P G fin (.ops []::t) s=W P G fin t s:=by simp only [W,gG]
theorem Ri (h:(log.all fun e=>e.wr.isEmpty)=true):W P G fin (.fM [] log::t) s=W P G fin t s:=by
 simp only [W,eV,indep,h,Bool.true_or]; exact propext ⟨fun h=>h.2,fun h=>⟨trivial,h⟩⟩
theorem au (h:indep log=true) (hk:W P G fin t s):W P G fin (.fM [] log::t) s:=by simp only [W,eV]; exact ⟨h,hk⟩
theorem VP {d:Option Nat} {i:I} {g:Nat} {want:Bool} {pre:List Nat} : W P G fin (.ops (⟨d,i,some (g,want),pre⟩::os)::t) ⟨env,af⟩=WG P G fin (aZ env g) want d i pre os t env af:=by simp only [W,gG,yH,yI,WG]; rfl
theorem Rj {d:Option Nat} {i:I} {g:Nat} {want:Bool} {pre:List Nat} : W P G fin (.fM (⟨d,i,some (g,want),pre⟩::os) log::t) ⟨env,af⟩=KW P G fin (aZ env g) want d i pre os log t env af:=by simp only [W,eV,yH,yI,KW]; rfl
theorem YU {d:Option Nat} {i:I} {pre:List Nat} : WG P G fin (.d (.val (.bool true))) true d i pre os t env af=W P G fin (.ops (⟨d,i,none,pre⟩::os)::t) ⟨env,af⟩:=by simp only [WG,if_true]
theorem YX {d:Option Nat} {i:I} {pre:List Nat} : WG P G fin (.d (.val (.bool false))) false d i pre os t env af=W P G fin (.ops (⟨d,i,none,pre⟩::os)::t) ⟨env,af⟩:=by simp only [WG,if_true]
theorem YV {d:Option Nat} {i:I} {pre:List Nat} : WG P G fin (.d (.val (.bool true))) false d i pre os t env af=W P G fin (.ops os::t) ⟨dY d .undef env,af⟩:=by simp [WG]
theorem YW {d:Option Nat} {i:I} {pre:List Nat} : WG P G fin (.d (.val (.bool false))) true d i pre os t env af=W P G fin (.ops os::t) ⟨dY d .undef env,af⟩:=by simp [WG]
theorem adJ {d:Option Nat} {i:I} {pre:List Nat} {want:Bool} {v:Array Value} : WG P G fin (.d (.val (.tuple v))) want d i pre os t env af=W P G fin (.ops os::t) ⟨dY d .undef env,af⟩:=by simp only [WG]
theorem dz {x want:Bool} {d:Option Nat} {i:I} {pre:List Nat} (h1:x=want→W P G fin (.ops (⟨d,i,none,pre⟩::os)::t) ⟨env,af⟩) (h2:x=(!want)→W P G fin (.ops os::t) ⟨dY d .undef env,af⟩):WG P G fin (.d (.val (.bool x))) want d i pre os t env af:=by
 cases x <;> cases want
 ·rw [YX]; exact h1 rfl
 ·rw [YW]; exact h2 rfl
 ·rw [YV]; exact h2 rfl
 ·rw [YU]; exact h1 rfl
theorem Rk {d:Option Nat} {i:I} {pre:List Nat} : KW P G fin (.d (.val (.bool true))) true d i pre os log t env af=W P G fin (.fM (⟨d,i,none,pre⟩::os) log::t) ⟨env,af⟩:=by simp only [KW,if_true]
theorem Rn {d:Option Nat} {i:I} {pre:List Nat} : KW P G fin (.d (.val (.bool false))) false d i pre os log t env af=W P G fin (.fM (⟨d,i,none,pre⟩::os) log::t) ⟨env,af⟩:=by simp only [KW,if_true]
theorem Rl {d:Option Nat} {i:I} {pre:List Nat} : KW P G fin (.d (.val (.bool true))) false d i pre os log t env af=W P G fin (.fM os (log++[⟨pre,[],[]⟩])::t) ⟨dY d .undef env,af⟩:=by simp [KW]
theorem Rm {d:Option Nat} {i:I} {pre:List Nat} : KW P G fin (.d (.val (.bool false))) true d i pre os log t env af=W P G fin (.fM os (log++[⟨pre,[],[]⟩])::t) ⟨dY d .undef env,af⟩:=by simp [KW]
theorem acA {d:Option Nat} {i:I} {pre:List Nat} {want:Bool} {v:Array Value} : KW P G fin (.d (.val (.tuple v))) want d i pre os log t env af=W P G fin (.fM os (log++[⟨pre,[],[]⟩])::t) ⟨dY d .undef env,af⟩:=by simp only [KW]
theorem gX {x want:Bool} {d:Option Nat} {i:I} {pre:List Nat} (h1:x=want→W P G fin (.fM (⟨d,i,none,pre⟩::os) log::t) ⟨env,af⟩) (h2:x=(!want)→W P G fin (.fM os (log++[⟨pre,[],[]⟩])::t) ⟨dY d .undef env,af⟩):KW P G fin (.d (.val (.bool x))) want d i pre os log t env af:=by
 cases x <;> cases want
 ·rw [Rn]; exact h1 rfl
 ·rw [Rm]; exact h2 rfl
 ·rw [Rl]; exact h2 rfl
 ·rw [Rk]; exact h1 rfl
theorem eB {x want:Bool} {d:Option Nat} {i:I} {pre:List Nat} (h1:x=(!want)→W P G fin (.ops (⟨d,i,none,pre⟩::os)::t) ⟨env,af⟩) (h2:x=want→W P G fin (.ops os::t) ⟨dY d .undef env,af⟩):WG P G fin (.d (.val (.bool (!x)))) want d i pre os t env af:=
 dz (fun h=>h1 (by cases x <;> cases want <;> simp_all)) (fun h=>h2 (by cases x <;> cases want <;> simp_all))
theorem AY {x want:Bool} {d:Option Nat} {i:I} {pre:List Nat} (h1:x=(!want)→W P G fin (.fM (⟨d,i,none,pre⟩::os) log::t) ⟨env,af⟩) (h2:x=want→W P G fin (.fM os (log++[⟨pre,[],[]⟩])::t) ⟨dY d .undef env,af⟩):KW P G fin (.d (.val (.bool (!x)))) want d i pre os log t env af:=
 gX (fun h=>h1 (by cases x <;> cases want <;> simp_all)) (fun h=>h2 (by cases x <;> cases want <;> simp_all))
theorem lG {x:Bool} {a b:C} (h1:x=false→W P G fin (.c a::t) ⟨env,af⟩) (h2:x=true→W P G fin (.c b::t) ⟨env,af⟩):WC P G fin (.d (.val (.bool (!x)))) a b t env af:=
 bx (fun h=>h1 (by simpa using h)) (fun h=>h2 (by simpa using h))
theorem VR {d:Option Nat} {e:fu} : WE P G fin (some e) d os t env af=W P G fin (.ops os::t) ⟨dY d e.r env,fQ e.wr af++e.nw.map some⟩:=by simp only [WE]
theorem Ro {d:Option Nat} {e:fu} {pre:List Nat} : WED P G fin (some e) d pre os log t env af=W P G fin (.fM os (log++[⟨pre,e.rd,(e.owned af.length).map (·.1)⟩])::t) ⟨dY d e.r env,fQ e.wr af++e.nw.map some⟩:=by simp only [WED]
theorem acy {d:Option Nat} {i:I} {pre:List Nat} (hi:∀ f as,i≠.call f as):W P G fin (.ops (⟨d,i,none,pre⟩::os)::t) ⟨env,af⟩=WE P G fin (cI G (aZ env) (aD af) af.length i) d os t env af:=by
 simp only [W,gG,yH,yI,WE]
 cases i <;> first | rfl | exact absurd rfl (hi _ _)
theorem aaI {d:Option Nat} {i:I} {pre:List Nat} (hi:∀ f as,i≠.call f as):W P G fin (.fM (⟨d,i,none,pre⟩::os) log::t) ⟨env,af⟩=WED P G fin (cI G (aZ env) (aD af) af.length i) d pre os log t env af:=by
 simp only [W,eV,yH,yI,WED]
 cases i <;> first | rfl | exact absurd rfl (hi _ _)
theorem aaH {d:Option Nat} {i:I} [hi:NC i] {pre:List Nat} : W P G fin (.ops (⟨d,i,none,pre⟩::os)::t) ⟨env,af⟩=WE P G fin (cI G (aZ env) (aD af) af.length i) d os t env af:=acy hi.h
theorem VS {d:Option Nat} {i:I} [hi:NC i] {pre:List Nat} : W P G fin (.fM (⟨d,i,none,pre⟩::os) log::t) ⟨env,af⟩=WED P G fin (cI G (aZ env) (aD af) af.length i) d pre os log t env af:=aaI hi.h
end
section
variable {P:Program} {G:Nat→Option (List DV)}
def vm (Y:YO):Prop:=∀ a o y K K',(∀ y b o,K y b o→K' y b o)→Y a o y K→Y a o y K'
theorem vm.no:vm rN:=fun _ _ _ _ _ _ h=>h.elim
theorem EI {Y:YO} (hm:vm Y) {X X':Value→fu→St→Prop} {o:ei} {s:St} {K K':St→fu→Prop} (hX:∀ v e s,X v e s→X' v e s) (h:∀ s e,K s e→K' s e) (hv:yI P G Y X o s K):yI P G Y X' o s K':=by
 unfold yI at hv ⊢
 split at hv
 ·split at hv
  ·rcases hv with ⟨e,h1,h2⟩ | ⟨p,e,h1,h2⟩
   ·exact .inl ⟨e,h1,h _ _ h2⟩
   ·exact .inr ⟨p,e,h1,hX _ _ _ h2⟩
  ·unfold vcY at hv ⊢
   split at hv
   ·exact hm _ _ _ _ _ (fun _ _ _ hk=>h _ _ hk) hv
   ·exact hv
 ·split at hv
  ·exact h _ _ hv
  ·exact hv
theorem EH {Y:YO} (hm:vm Y) {X X':Value→fu→St→Prop} {o:ei} {s:St} {K K':St→fu→Prop} {K0 K0':St→Prop} (hX:∀ v e s,X v e s→X' v e s) (h:∀ s e,K s e→K' s e) (h0:∀ s,K0 s→K0' s) (hv:yH P G Y X o s K K0):yH P G Y X' o s K' K0':=by
 unfold yH at hv ⊢
 split at hv
 ·exact EI hm hX h hv
 ·split at hv
  ·split at hv
   ·rename_i hb; rw [if_pos hb]; exact EI hm hX h hv
   ·rename_i hb; rw [if_neg hb]; exact h0 _ hv
  ·exact h0 _ hv
  ·exact hv
theorem sO {Y:YO} (hm:vm Y) {X X':Value→St→Prop} {K K':St→Prop} (hX:∀ v s,X v s→X' v s) (h:∀ s,K s→K' s):∀ (os:List ei) (s:St),gG P G Y X os s K→gG P G Y X' os s K'
 | [],s,hv=>h s hv
 | o::os,s,hv=>by
   simp only [gG] at hv ⊢
   exact EH hm (fun v _ s hk=>hX v s hk) (fun s e hk=>sO hm hX h os s hk) (fun s hk=>sO hm hX h os s hk) hv
theorem pX {X X':Value→St→Prop} {K K':St→List iP→Prop} (hX:∀ v s,X v s→X' v s) (h:∀ s l,K s l→K' s l):∀ (os:List ei) (s:St) (log:List iP),eV P G X os s log K→eV P G X' os s log K'
 | [],s,log,hv=>h s log hv
 | o::os,s,log,hv=>by
   simp only [eV] at hv ⊢
   exact EH vm.no (fun v _ s hk=>⟨hX v _ hk.1,hk.2⟩) (fun s e hk=>pX hX h os s _ hk) (fun s hk=>pX hX h os s _ hk) hv
theorem iw:∀ (c:C) (s:St) (K K':wL),K'.b=K.b→K'.y=K.y→vm K.y→(∀ s,K.n s→K'.n s)→(∀ i s,K.x i s→K'.x i s)→(∀ s,K.r s→K'.r s)→vc P G c s K→vc P G c s K'
 | .skip,s,K,K',hb',hy,hm,hn,hx,hr,h=>hn s h
 | .iJ ops,s,K,K',hb',hy,hm,hn,hx,hr,h=>(by simp only [vc] at h ⊢; rw [hy]; exact sO hm (fun v s h=>hx _ _ h) hn ops s h)
 | .jA ops,s,K,K',hb',hy,hm,hn,hx,hr,h=>pX (fun v s h=>hx _ _ h) (fun s l ⟨h1,h2⟩=>⟨h1,hn s h2⟩) ops s [] h
 | .seq a b,s,K,K',hb',hy,hm,hn,hx,hr,h=>iw a s { K with n:=fun s'=>vc P G b s' K } { K' with n:=fun s'=>vc P G b s' K' } hb' hy hm (fun s h=>iw b s K K' hb' hy hm hn hx hr h) hx hr h
 | .cond c a b,s,K,K',hb',hy,hm,hn,hx,hr,h=>by
   simp only [vc] at h ⊢
   split at h
   ·split at h
    ·rename_i hb; rw [if_pos hb]; exact iw a s K K' hb' hy hm hn hx hr h
    ·rename_i hb; rw [if_neg hb]; exact iw b s K K' hb' hy hm hn hx hr h
   ·exact ⟨iw a s K K' hb' hy hm hn hx hr h.1,iw b s K K' hb' hy hm hn hx hr h.2⟩
   ·exact h
 | .block i b,s,K,K',hb',hy,hm,hn,hx,hr,h=>iw b s { K with x:=fun j s'=>if j=i then K.n s' else K.x j s' } { K' with x:=fun j s'=>if j=i then K'.n s' else K'.x j s' } hb' hy hm hn (fun j s h=>by
   dsimp only at h ⊢
   split at h
   ·rename_i hb; rw [if_pos hb]; exact hn s h
   ·rename_i hb; rw [if_neg hb]; exact hx j s h) hr h
 | .loop b,s,K,K',hb',hy,hm,hn,hx,hr,h=>by
   simp only [vc] at h ⊢
   obtain ⟨ts,I,N,ad,h0,h1⟩:=h
   rw [hb']
   exact ⟨ts,I,N,ad,h0,fun k s' hk=>iw b s' { K with n:=fun s''=>∃ j,j<k∧∃ s3,I j s3∧JC G (Jn K.b (dg ad s).af.length) s'' s3 } { K' with n:=fun s''=>∃ j,j<k∧∃ s3,I j s3∧JC G (Jn K.b (dg ad s).af.length) s'' s3,b:=K.b } rfl hy hm (fun s h=>h) hx hr (h1 k s' hk)⟩
 | .exit i,s,K,K',hb',hy,hm,hn,hx,hr,h=>hx i s h
 | .ret,s,K,K',hb',hy,hm,hn,hx,hr,h=>hr s h
 | .scope b,s,K,K',hb',hy,hm,hn,hx,hr,h=>iw b s K K' hb' hy hm hn hx hr h
 | .Zc g ps a b,s,K,K',hb',hy,hm,hn,hx,hr,h=>by
   simp only [vc] at h ⊢
   split at h
   ·obtain ⟨jm,R,h1,h2⟩:=h
    refine ⟨jm,R,h1,fun yv aA hR=>?_⟩
    rcases h2 yv aA hR with ⟨h3,h4⟩ | ⟨h3,h4⟩
    ·exact .inl ⟨h3,hn _ h4⟩
    ·refine .inr ⟨h3,?_⟩
     cases jm with
     | none=>exact hr _ h4
     | some i=>exact ⟨h4.1,hx _ _ h4.2⟩
   ·exact h
theorem ot (c:C) (s:St) (K K':wL) (hn:∀ s,K.n s→K'.n s) (hx:∀ i s,K.x i s→K'.x i s) (hr:∀ s,K.r s→K'.r s) (h:vc P G c s K) (h1:K.y=rN:=by rfl) (h2:K'.y=rN:=by rfl) (h3:K'.b=K.b:=by rfl):vc P G c s K':=
 iw c s K K' h3 (h2.trans h1.symm) (h1 ▸ vm.no) hn hx hr h
theorem qw.mono {jm:Option Nat} {ps:List Nat} {a b:C} {s:St} : vm (qw P G jm ps a b s):=by
 intro as o y K K' hK h
 obtain ⟨h1,h2,h3,h4⟩:=h
 refine ⟨h1,h2,h3,?_⟩
 have acT:∀ (s:St) (K1 K2:wL),vc P G a s K1→K1.y=rN→K2.y=rN→K2.b=K1.b→(∀ s,K1.n s→K2.n s)→(∀ i s,K1.x i s→K2.x i s)→(∀ s,K1.r s→K2.r s)→vc P G a s K2:=fun s K1 K2 a4 e1 e2 e3 a1 a2 a3=>ot a s K1 K2 a1 a2 a3 a4 e1 e2 e3
 refine acT _ _ _ h4 rfl rfl rfl ?_ (fun _ _ h=>h) (fun _ h=>h)
 intro s1 h5
 dsimp only at h5 ⊢
 have key:∀ (K1 K2:wL),vc P G b s1 K1→K1.y=rN→K2.y=rN→K2.b=K1.b→(∀ s,K1.n s→K2.n s)→(∀ i s,K1.x i s→K2.x i s)→(∀ s,K1.r s→K2.r s)→vc P G b s1 K2:=fun K1 K2 a4 e1 e2 e3 a1 a2 a3=>ot b s1 K1 K2 a1 a2 a3 a4 e1 e2 e3
 refine key _ _ h5 rfl rfl rfl ?_ ?_ ?_
 ·exact fun s' h6=>hK _ _ _ h6
 ·exact fun i s' h6=>⟨h6.1,h6.2.1,hK _ _ _ h6.2.2⟩
 ·exact fun s' h6=>⟨h6.1,hK _ _ _ h6.2⟩
end
section
variable {P:Program} {G:Nat→Option (List DV)} {fin:St→Prop} {t:List It} {env:List (Nat×LV)} {af:List (Option aH)} {os:List ei} {log:List iP}
theorem wJ {d:Option Nat} {f:bU} {as:List bU} {pre:List Nat} {k:Nat} {fs cs:List LV} (e:fu) (hc:callee (f.ev G (aZ env))=some (k,fs,cs)) (h:cw P G k (fs++as.map (·.ev G (aZ env))++cs) (aD af) af.length e)
  (hk:W P G fin (.ops os::t) ⟨dY d e.r env,fQ e.wr af++e.nw.map some⟩):W P G fin (.ops (⟨d,.call f as,none,pre⟩::os)::t) ⟨env,af⟩:=by
 simp only [W,gG,yH,yI]
 have wh:callee (f.ev G (St.get ⟨env,af⟩))=some (k,fs,cs):=hc
 rw [wh]
 simp only [W] at hk
 exact .inl ⟨e,h,hk⟩
theorem pG {d:Option Nat} {f:bU} {as:List bU} {pre:List Nat} {k:Nat} {fs cs:List LV} (e:fu) (hc:callee (f.ev G (aZ env))=some (k,fs,cs)) (h:cw P G k (fs++as.map (·.ev G (aZ env))++cs) (aD af) af.length e)
  (hk:W P G fin (.fM os (log++[⟨pre,e.rd,(e.owned af.length).map (·.1)⟩])::t) ⟨dY d e.r env,fQ e.wr af++e.nw.map some⟩):W P G fin (.fM (⟨d,.call f as,none,pre⟩::os) log::t) ⟨env,af⟩:=by
 simp only [W,eV,yH,yI]
 have wh:callee (f.ev G (St.get ⟨env,af⟩))=some (k,fs,cs):=hc
 rw [wh]
 simp only [W] at hk
 exact .inl ⟨e,h,hk⟩
theorem cw.pure {k:Nat} {args aX:List LV} {obj:Nat→cF} {base:Nat} {r:LV} (Z:List Nat) (hT:bw P G k aX [] r []) (ha:ag obj [] Z args aX) (hZ:∀ z∈Z,∃ et e rows,obj z=.live (.dat et e rows)∨obj z=.live (.kW et e rows)) (hr:pL r=true) :
  cw P G k args obj base { r:=rn (bB [] base) r,rd:=Z,wr:=[],nw:=[] }:=
 ⟨⟨[],Z,true,aX,[],r,[],(fun _=>true),(fun _ _ _ h=>by cases h),List.nodup_nil,(fun _ _ h=>by cases h),hZ,rfl,(fun i o h=>by simp at h),rfl,ha,(fun _=>⟨hr,rfl,rfl⟩),Nat.le_refl _,hT,rfl⟩⟩
theorem cw.data {k:Nat} {args aX:List LV} {obj:Nat→cF} {base:Nat} {r:LV} {ax:List aH} (hT:bw P G k aX [] r ax) (ha:ag obj [] [] args aX) :
  cw P G k args obj base { r:=rn (bB [] base) r,rd:=[],wr:=[],nw:=ax.map (fB (bB [] base)) }:=
 ⟨⟨[],[],false,aX,[],r,ax,(fun _=>true),(fun _ _ _ h=>by cases h),List.nodup_nil,(fun _ h=>by cases h),(fun _ h=>by cases h),rfl,(fun i o h=>by simp at h),rfl,ha,(fun h=>by cases h),Nat.zero_le _,hT,rfl⟩⟩
def GV (rv:List RV) (r:LV) (s:St):Prop:=(match yE.of s rv with | some vs=>some (aU vs) | none=>none)=some r
theorem cw.hand {k:Nat} {args aX:List LV} {obj:Nat→cF} {base:Nat} {r:LV} {aK ax:List aH} (ρ:List Nat) (hT:bw P G k aX aK r ax) (ha:ag obj ρ [] args aX) (hnd:ρ.Nodup) (ho:ρ.map obj=aK.map (fun ob=>cF.live (fB (bB ρ base) ob))) (hid:aK.all (dZ ρ.length)=true) (hle:aK.length≤ax.length) :
  cw P G k args obj base { r:=rn (bB ρ base) r,rd:=ρ,wr:=ρ.zip (ax.map (fB (bB ρ base))),nw:=(ax.drop ρ.length).map (fB (bB ρ base)) }:=
 ⟨⟨ρ,[],false,aX,aK,r,ax,(fun _=>true),(fun _ _ _ h=>by cases h),hnd,(fun _ h=>by cases h),(fun _ h=>by cases h),by have:=congrArg List.length ho; simpa using this.symm,(fun i o hi=>by
   have h1:(ρ.map obj)[i]? = some (obj o):=by rw [List.getElem?_map,hi]; rfl
   rw [ho,List.getElem?_map] at h1
   cases hf:aK[i]? with
   | none=>rw [hf] at h1; cases h1
   | some ob=>rw [hf] at h1; simp at h1; exact ⟨ob,rfl,h1.symm⟩),hid,ha,(fun h=>by cases h),hle,hT,by rw [List.filter_eq_self.2 (fun _ _=>rfl)]; simp [gE]⟩⟩
theorem cw.kW {k:Nat} {args aX:List LV} {obj:Nat→cF} {base:Nat} {r:LV} (Z:List Nat) (hT:bw P G k aX [] r []) (ha:ag obj [] Z args aX) (hZ:∀ z∈Z,∃ et e rows,obj z=.live (.dat et e rows)∨obj z=.live (.kW et e rows)) :
  cw P G k args obj base { r:=rn (bB [] base) r,rd:=Z,wr:=gE obj Z,nw:=[] }:=
 ⟨⟨[],Z,false,aX,[],r,[],(fun _=>true),(fun _ _ _ h=>by cases h),List.nodup_nil,(fun _ _ h=>by cases h),hZ,rfl,(fun i o h=>by simp at h),rfl,ha,(fun h=>by cases h),Nat.le_refl _,hT,rfl⟩⟩
theorem xM {rv:List RV} {r:LV} {s:St} {vs:List LV} (h:yE.of s rv=some vs) (hr:ah s.obj [] [] (aU vs) r):vv rv 0 r [] s:=
 ⟨[],vs,[],[],h,rfl,List.nodup_nil,(fun _ h=>by cases h),(fun _ h=>by cases h),rfl,(fun i o h=>by simp at h),rfl,hr⟩
theorem dP {rv:List RV} {r:LV} {s:St} {vs:List LV} (Z:List Nat) (h:yE.of s rv=some vs) (hZ:∀ z∈Z,∃ et e rows,s.obj z=.live (.dat et e rows)∨s.obj z=.live (.kW et e rows)) (hr:ah s.obj [] Z (aU vs) r):vv rv 0 r [] s:=
 ⟨[],vs,[],Z,h,rfl,List.nodup_nil,(fun _ _ h=>by cases h),hZ,rfl,(fun i o h=>by simp at h),rfl,hr⟩
theorem sN {rv:List RV} {s:St} {o et e n k lo:Nat} {rows:List (List DV)} (ad:List Ad) (h:yE.of (dg ad s) rv=some [.sl o n e lo k]) (ho:(dg ad s).obj o=.live (.dat et e rows)):vv rv 0 (.sl 0 n e lo k) [.dat et e rows] s:=
 ⟨ad,_,[o],[],h,rfl,(by simp),(fun _ h=>by cases h),(fun _ h=>by cases h),rfl,(fun i o' h=>by
  cases i with
  | zero=>simp at h; subst h; exact ⟨_,rfl,ho⟩
  | succ i=>simp at h),rfl,by simp [aU,ah]⟩
theorem dh {rv:List RV} {r:LV} {s:St} {vs:List LV} {k:Nat} {ax:List aH} (ad:List Ad) (ρ Z:List Nat) (h:yE.of (dg ad s) rv=some vs) (hk:ρ.take k=List.range k) (hnd:ρ.Nodup) (hz:∀ z∈Z,z∉ρ) (hZ:∀ z∈Z,∃ et e rows,(dg ad s).obj z=.live (.dat et e rows)∨(dg ad s).obj z=.live (.kW et e rows))
  (ho:ρ.map (dg ad s).obj=ax.map (fun ob=>cF.live (fB (bB ρ 0) ob))) (hid:ax.all (dZ ρ.length)=true) (hr:ah (dg ad s).obj ρ Z (aU vs) r):vv rv k r ax s:=
 ⟨ad,vs,ρ,Z,h,hk,hnd,hz,hZ,by have:=congrArg List.length ho; simpa using this.symm,(fun i o hi=>by
  have h1:(ρ.map (dg ad s).obj)[i]? = some ((dg ad s).obj o):=by rw [List.getElem?_map,hi]; rfl
  rw [ho,List.getElem?_map] at h1
  cases hf:ax[i]? with
  | none=>rw [hf] at h1; cases h1
  | some ob=>rw [hf] at h1; simp at h1; exact ⟨ob,rfl,h1.symm⟩),hid,hr⟩
theorem get_map {α β:Type} {f:α→β} {l:List α} {k:Nat} (h:k<l.length):(l.map f)[k]? = some (f l[k]):=by simp [h]
theorem aJ {α β:Type} {f:α→β} {l:List α} {k:Nat} (z:α) (h:k<l.length):(l.map f)[k]? = some (f (l.getD k z)):=by simp [h,List.getD]
theorem eN {k n:Nat} (h:decide ((k:Int)<(n:Int))=true):k<n:=by simpa using h
theorem eP {k n:Nat} (h:decide ((k:Int)<(n:Int))=false) (hk:k≤n):k=n:=by
 have:¬ (k<n):=by simpa using h
 omega
@[reducible] def i64 (n:Int):DV:=.val (.int .i64 n)
@[reducible] def bl (b:Bool):DV:=.val (.bool b)
theorem aN {n:Int} (h1:-9223372036854775808≤n) (h2:n≤9223372036854775807):IntKind.i64.wrap n=n:=by
 simp [IntKind.wrap,IntKind.bits,IntKind.signed]; omega
theorem aG {k:Nat} (h:k<9223372036854775807):IntKind.i64.wrap ((k:Int)+1)=((k+1:Nat):Int):=by
 rw [aN (by omega) (by omega)]; rfl
theorem cD {f:Nat} {fn:Func} {ir:Nat×C×List RV} {args:List LV} {aK ax:List aH} {r:LV} (hf:P.funcs[f]? = some fn) (hn:(fn.name != "runtime.NumGoroutine")=true) (g_:aj P fn=some ir) (hl:Nat.ble args.length ir.1=true)
  (h:W P G (vv ir.2.2 aK.length r ax) [.c ir.2.1] ⟨fF 0 args,aK.map some⟩):bw P G f args aK r ax:=by
 refine yQ hf (by simpa using hn) (N:=ir.1) (c:=ir.2.1) (rv:=ir.2.2) g_ (Nat.le_of_ble_eq_true hl) ?_
 simp only [W,Wx] at h
 exact h
mutual
theorem kS (π:Nat→Nat):∀ (x:LV),eH 0 x=true→rn π x=x
 | .top,_=>rfl
 | .d x,_=>rfl
 | .dQ,_=>rfl
 | .ptr ..,h=>by simp [eH] at h
 | .rp ..,h=>by simp [eH] at h
 | .ip ..,_=>rfl
 | .sl ..,h=>by simp [eH] at h
 | .fn f a b,h=>by
   simp only [eH,Bool.and_eq_true] at h
   simp only [rn,lP π a h.1,lP π b h.2]
 | .agg cs,h=>by simp only [eH] at h; simp only [rn,lP π cs h]
 | .dJ cs,h=>by simp only [eH] at h; simp only [rn,lP π cs h]
 | .fW t x,h=>by simp only [eH] at h; simp only [rn,kS π x h]
 | .yl ..,h=>by simp [eH] at h
 | .mr ..,h=>by simp [eH] at h
theorem lP (π:Nat→Nat):∀ (xs:List LV),eD 0 xs=true→ni π xs=xs
 | [],_=>rfl
 | x::xs,h=>by
   simp only [eD,Bool.and_eq_true] at h
   simp only [ni,kS π x h.1,lP π xs h.2]
end
mutual
theorem rj (obj:Nat→cF) (ρ Z:List Nat):∀ (x:LV),eH 0 x=true→ah obj ρ Z x x
 | .top,_=>by simp [ah]
 | .d x,_=>by simp [ah]
 | .dQ,_=>by simp [ah]
 | .ptr ..,h=>by simp [eH] at h
 | .rp ..,h=>by simp [eH] at h
 | .ip ..,_=>by simp [ah]
 | .sl ..,h=>by simp [eH] at h
 | .fn f a b,h=>by
   simp only [eH,Bool.and_eq_true] at h
   simp only [ah]; exact ⟨trivial,gr obj ρ Z a h.1,gr obj ρ Z b h.2⟩
 | .agg cs,h=>by simp only [eH] at h; simp only [ah]; exact gr obj ρ Z cs h
 | .dJ cs,h=>by simp only [eH] at h; simp only [ah]; exact gr obj ρ Z cs h
 | .fW t x,h=>by simp only [eH] at h; simp only [ah]; exact ⟨trivial,rj obj ρ Z x h⟩
 | .yl ..,h=>by simp [eH] at h
 | .mr ..,h=>by simp [eH] at h
theorem gr (obj:Nat→cF) (ρ Z:List Nat):∀ (xs:List LV),eD 0 xs=true→ag obj ρ Z xs xs
 | [],_=>by simp [ag]
 | x::xs,h=>by
   simp only [eD,Bool.and_eq_true] at h
   simp only [ag]; exact ⟨rj obj ρ Z x h.1,gr obj ρ Z xs h.2⟩
end
theorem ay {d:Option Nat} {f:bU} {as:List bU} {pre:List Nat} {k:Nat} {fs cs aX:List LV} {r:LV} (hT:bw P G k aX [] r []) (hc:callee (f.ev G (aZ env))=some (k,fs,cs)) (ha:fs++as.map (·.ev G (aZ env))++cs=aX) (hid:eD 0 aX=true) (hr:eH 0 r=true)
  (hk:W P G fin (.ops os::t) ⟨dY d r env,af⟩):W P G fin (.ops (⟨d,.call f as,none,pre⟩::os)::t) ⟨env,af⟩:=by
 refine wJ _ hc (cw.data hT (by rw [ha]; exact gr _ _ _ _ hid)) ?_
 simpa [kS _ _ hr,fQ] using hk
theorem bq {d:Option Nat} {f:bU} {as:List bU} {pre:List Nat} {k:Nat} {fs cs aX:List LV} {r:LV} (hT:bw P G k aX [] r []) (hc:callee (f.ev G (aZ env))=some (k,fs,cs)) (ha:fs++as.map (·.ev G (aZ env))++cs=aX) (hid:eD 0 aX=true) (hr:eH 0 r=true)
  (hk:W P G fin (.fM os (log++[⟨pre,[],[]⟩])::t) ⟨dY d r env,af⟩):W P G fin (.fM (⟨d,.call f as,none,pre⟩::os) log::t) ⟨env,af⟩:=by
 refine pG _ hc (cw.data hT (by rw [ha]; exact gr _ _ _ _ hid)) ?_
 simpa [kS _ _ hr,fQ,fu.owned,Ft] using hk
theorem yD {d:Option Nat} {f:bU} {as:List bU} {pre:List Nat} {k:Nat} {fs cs aX:List LV} {r:LV} (Z:List Nat) (hT:bw P G k aX [] r []) (hc:callee (f.ev G (aZ env))=some (k,fs,cs)) (ha:ag (aD af) [] Z (fs++as.map (·.ev G (aZ env))++cs) aX)
  (hZ:∀ z∈Z,∃ et e rows,aD af z=.live (.dat et e rows)∨aD af z=.live (.kW et e rows)) (hj:pL r=true) (hr:eH 0 r=true)
  (hk:W P G fin (.ops os::t) ⟨dY d r env,af⟩):W P G fin (.ops (⟨d,.call f as,none,pre⟩::os)::t) ⟨env,af⟩:=by
 refine wJ _ hc (cw.pure Z hT ha hZ hj) ?_
 simpa [kS _ _ hr,fQ] using hk
theorem vn {d:Option Nat} {f:bU} {as:List bU} {pre:List Nat} {k:Nat} {fs cs aX:List LV} {r:LV} (Z:List Nat) (hT:bw P G k aX [] r []) (hc:callee (f.ev G (aZ env))=some (k,fs,cs)) (ha:ag (aD af) [] Z (fs++as.map (·.ev G (aZ env))++cs) aX)
  (hZ:∀ z∈Z,∃ et e rows,aD af z=.live (.dat et e rows)∨aD af z=.live (.kW et e rows)) (hj:pL r=true) (hr:eH 0 r=true)
  (hk:W P G fin (.fM os (log++[⟨pre,Z,[]⟩])::t) ⟨dY d r env,af⟩):W P G fin (.fM (⟨d,.call f as,none,pre⟩::os) log::t) ⟨env,af⟩:=by
 refine pG _ hc (cw.pure Z hT ha hZ hj) ?_
 simpa [kS _ _ hr,fQ,fu.owned,Ft] using hk
theorem rV {d:Option Nat} {f:bU} {as:List bU} {pre:List Nat} {k:Nat} {fs cs aX:List LV} {r:LV} (Z:List Nat) (hT:bw P G k aX [] r []) (hc:callee (f.ev G (aZ env))=some (k,fs,cs)) (ha:ag (aD af) [] Z (fs++as.map (·.ev G (aZ env))++cs) aX)
  (hZ:∀ z∈Z,∃ et e rows,aD af z=.live (.dat et e rows)∨aD af z=.live (.kW et e rows)) (hr:eH 0 r=true)
  (hk:W P G fin (.ops os::t) ⟨dY d r env,fQ (gE (aD af) Z) af⟩):W P G fin (.ops (⟨d,.call f as,none,pre⟩::os)::t) ⟨env,af⟩:=by
 refine wJ _ hc (cw.kW Z hT ha hZ) ?_
 simpa [kS _ _ hr] using hk
theorem mA {d:Option Nat} {f:bU} {as:List bU} {pre:List Nat} {k:Nat} {fs cs aX:List LV} {r:LV} (Z:List Nat) (hT:bw P G k aX [] r []) (hc:callee (f.ev G (aZ env))=some (k,fs,cs)) (ha:ag (aD af) [] Z (fs++as.map (·.ev G (aZ env))++cs) aX)
  (hZ:∀ z∈Z,∃ et e rows,aD af z=.live (.dat et e rows)∨aD af z=.live (.kW et e rows)) (hr:eH 0 r=true)
  (hk:W P G fin (.fM os (log++[⟨pre,Z,(gE (aD af) Z).map (·.1)⟩])::t) ⟨dY d r env,fQ (gE (aD af) Z) af⟩):W P G fin (.fM (⟨d,.call f as,none,pre⟩::os) log::t) ⟨env,af⟩:=by
 refine pG _ hc (cw.kW Z hT ha hZ) ?_
 simpa [kS _ _ hr,fu.owned,Ft] using hk
theorem jw {d:Option Nat} {f:bU} {as:List bU} {pre:List Nat} {k:Nat} {fs cs aX:List LV} {r:LV} {ax:List aH} (hT:bw P G k aX [] r ax) (hc:callee (f.ev G (aZ env))=some (k,fs,cs)) (ha:fs++as.map (·.ev G (aZ env))++cs=aX) (hid:eD 0 aX=true)
  (hk:W P G fin (.ops os::t) ⟨dY d (rn (bB [] af.length) r) env,af++(ax.map (fB (bB [] af.length))).map some⟩):W P G fin (.ops (⟨d,.call f as,none,pre⟩::os)::t) ⟨env,af⟩:=by
 refine wJ _ hc (cw.data hT (by rw [ha]; exact gr _ _ _ _ hid)) ?_
 simpa [fQ] using hk
theorem ko {d:Option Nat} {f:bU} {as:List bU} {pre:List Nat} {k:Nat} {fs cs aX:List LV} {r:LV} {ax:List aH} (hT:bw P G k aX [] r ax) (hc:callee (f.ev G (aZ env))=some (k,fs,cs)) (ha:fs++as.map (·.ev G (aZ env))++cs=aX) (hid:eD 0 aX=true)
  (hk:W P G fin (.fM os (log++[⟨pre,[],(Ft af.length (ax.map (fB (bB [] af.length)))).map (·.1)⟩])::t) ⟨dY d (rn (bB [] af.length) r) env,af++(ax.map (fB (bB [] af.length))).map some⟩):W P G fin (.fM (⟨d,.call f as,none,pre⟩::os) log::t) ⟨env,af⟩:=by
 refine pG _ hc (cw.data hT (by rw [ha]; exact gr _ _ _ _ hid)) ?_
 simpa [fQ,fu.owned] using hk
theorem av {d:Option Nat} {f:bU} {as:List bU} {pre:List Nat} {k:Nat} {fs cs aX:List LV} {r:LV} {aK ax:List aH} (ρ:List Nat) (hT:bw P G k aX aK r ax) (hc:callee (f.ev G (aZ env))=some (k,fs,cs)) (ha:ag (aD af) ρ [] (fs++as.map (·.ev G (aZ env))++cs) aX)
  (hnd:ρ.Nodup) (ho:ρ.map (aD af)=aK.map (fun ob=>cF.live (fB (bB ρ af.length) ob))) (hid:aK.all (dZ ρ.length)=true) (hle:aK.length≤ax.length)
  (hk:W P G fin (.ops os::t) ⟨dY d (rn (bB ρ af.length) r) env,fQ (ρ.zip (ax.map (fB (bB ρ af.length)))) af++((ax.drop ρ.length).map (fB (bB ρ af.length))).map some⟩):W P G fin (.ops (⟨d,.call f as,none,pre⟩::os)::t) ⟨env,af⟩:=by
 refine wJ _ hc (cw.hand ρ hT ha hnd ho hid hle) ?_
 simpa using hk
theorem dV {d:Option Nat} {f:bU} {as:List bU} {pre:List Nat} {k:Nat} {fs cs aX:List LV} {r:LV} {aK ax:List aH} (ρ:List Nat) (hT:bw P G k aX aK r ax) (hc:callee (f.ev G (aZ env))=some (k,fs,cs)) (ha:ag (aD af) ρ [] (fs++as.map (·.ev G (aZ env))++cs) aX)
  (hnd:ρ.Nodup) (ho:ρ.map (aD af)=aK.map (fun ob=>cF.live (fB (bB ρ af.length) ob))) (hid:aK.all (dZ ρ.length)=true) (hle:aK.length≤ax.length)
  (hk:W P G fin (.fM os (log++[⟨pre,ρ,(Ft af.length ((ax.drop ρ.length).map (fB (bB ρ af.length)))++ρ.zip (ax.map (fB (bB ρ af.length)))).map (·.1)⟩])::t) ⟨dY d (rn (bB ρ af.length) r) env,fQ (ρ.zip (ax.map (fB (bB ρ af.length)))) af++((ax.drop ρ.length).map (fB (bB ρ af.length))).map some⟩):W P G fin (.fM (⟨d,.call f as,none,pre⟩::os) log::t) ⟨env,af⟩:=by
 refine pG _ hc (cw.hand ρ hT ha hnd ho hid hle) ?_
 simpa [fu.owned] using hk
def vr (rv:List RV) (r:LV) (aA:List aH) (s:St):Prop:=GV rv r s∧s.af.take aA.length=aA.map some
theorem Nt {rv:List RV} {r:LV} {aA:List aH} {s:St} : vr rv r aA s=(GV rv r s∧s.af.take aA.length=aA.map some):=rfl
theorem Oh (π:Nat→Nat):∀ (ob:aH),dZ 0 ob=true→fB π ob=ob
 | .box et cells,h=>by simp only [fB]; rw [lP π cells h]
 | .mp es,h=>by
   simp only [dZ,List.all_eq_true] at h
   simp only [fB,aH.mp.injEq]
   conv=>rhs; rw [← List.map_id es]
   exact List.map_congr_left fun p hp=>by simp [kS π p.2 (h p hp)]
 | .dat ..,_=>rfl
 | .kW ..,_=>rfl
theorem DW:(∀ (x:LV) (k:Nat),eH 0 x=true→eH k x=true)∧(∀ (xs:List LV) (k:Nat),eD 0 xs=true→eD k xs=true):=by
 have one:∀ n,(∀ (x:LV) (k:Nat),sizeOf x<n→eH 0 x=true→eH k x=true)∧(∀ (xs:List LV) (k:Nat),sizeOf xs<n→eD 0 xs=true→eD k xs=true):=by
  intro n
  induction n with
  | zero=>exact ⟨fun _ _ h=>absurd h (by omega),fun _ _ h=>absurd h (by omega)⟩
  | succ n ih=>
    refine ⟨fun x k hs h=>?_,fun xs k hs h=>?_⟩
    ·cases x <;> simp only [eH,Bool.and_eq_true] at h ⊢ <;> (try (simp at h; done)) <;> simp at hs
     ·exact ⟨ih.2 _ k (by omega) h.1,ih.2 _ k (by omega) h.2⟩
     ·exact ih.2 _ k (by omega) h
     ·exact ih.2 _ k (by omega) h
     ·exact ih.1 _ k (by omega) h
    ·cases xs with
     | nil=>rfl
     | cons x xs=>
       simp only [eD,Bool.and_eq_true] at h ⊢
       simp at hs
       exact ⟨ih.1 _ k (by omega) h.1,ih.2 _ k (by omega) h.2⟩
 exact ⟨fun x k=>(one (sizeOf x+1)).1 x k (by omega),fun xs k=>(one (sizeOf xs+1)).2 xs k (by omega)⟩
theorem UZ (k:Nat):∀ (ob:aH),dZ 0 ob=true→dZ k ob=true
 | .box et cells,h=>DW.2 cells k h
 | .mp es,h=>by
   simp only [dZ,List.all_eq_true] at h ⊢
   exact fun p hp=>DW.1 _ k (h p hp)
 | .dat ..,_=>rfl
 | .kW ..,_=>rfl
theorem jy {rv:List RV} {r:LV} {aA:List aH} {s:St} {k:Nat} (hs:vr rv r aA s) (hid:eH 0 r=true) (ho:aA.all (dZ 0)=true) (hk:k=aA.length):vv rv k r aA s:=by
 obtain ⟨h1,h2⟩:=hs
 unfold GV at h1
 split at h1
 ·rename_i vs hvs
  simp only [Option.some.injEq] at h1
  subst h1
  rw [List.all_eq_true] at ho
  refine ⟨[],vs,List.range k,[],hvs,by simp,List.nodup_range,(fun _ h=>by cases h),(fun _ h=>by cases h),by simp [hk],fun i o hi=>?_,?_,?_⟩
  ·have hlt:i<k:=by
    have:=(List.getElem?_eq_some_iff.1 hi).1
    simpa using this
   have oo:o=i:=by rw [List.getElem?_range hlt] at hi; cases hi; rfl
   subst oo
   have hlt':o<aA.length:=by omega
   refine ⟨aA[o],List.getElem?_eq_getElem hlt',?_⟩
   have h3:(s.af.take aA.length)[o]? = some (some aA[o]):=by rw [h2]; simp [hlt']
   rw [List.getElem?_take_of_lt hlt'] at h3
   rw [Oh _ _ (ho _ (List.getElem_mem hlt'))]
   simp only [dg,St.obj,aD,h3]
  ·rw [List.all_eq_true]; exact fun ob eX=>UZ _ ob (ho ob eX)
  ·exact rj _ _ _ _ hid
 ·cases h1
theorem Dc {f:Nat} {fn:Func} {ir:Nat×C×List RV} {args:List LV} {af aA:List aH} {r:LV} (hf:P.funcs[f]? = some fn) (hn:(fn.name != "runtime.NumGoroutine")=true) (g_:aj P fn=some ir) (hl:Nat.ble args.length ir.1=true) (hid:eH 0 r=true) (ho:aA.all (dZ 0)=true) (hlen:af.length=aA.length)
  (h:W P G (vr ir.2.2 r aA) [.c ir.2.1] ⟨fF 0 args,af.map some⟩):bw P G f args af r aA:=by
 refine yQ hf (by simpa using hn) (N:=ir.1) (c:=ir.2.1) (rv:=ir.2.2) g_ (Nat.le_of_ble_eq_true hl) ?_
 simp only [W,Wx] at h
 exact ot _ _ ⟨vr ir.2.2 r aA,fun _ _=>False,vr ir.2.2 r aA,rN,none⟩ _ (fun s hs=>jy hs hid ho hlen) (fun _ _ h=>h) (fun s hs=>jy hs hid ho hlen) h
def Ends (rv:List RV) (r:LV) (s:St):Prop:=(match yE.of s rv with | some vs=>some (aU vs) | none=>none)=some r
theorem br {f:Nat} {fn:Func} {ir:Nat×C×List RV} {args:List LV} {r:LV} (hf:P.funcs[f]? = some fn) (hn:(fn.name != "runtime.NumGoroutine")=true) (g_:aj P fn=some ir) (hl:Nat.ble args.length ir.1=true) (hid:eH 0 r=true)
  (h:W P G (Ends ir.2.2 r) [.c ir.2.1] ⟨fF 0 args,[]⟩):bw P G f args [] r []:=by
 refine yQ hf (by simpa using hn) (N:=ir.1) (c:=ir.2.1) (rv:=ir.2.2) g_ (Nat.le_of_ble_eq_true hl) ?_
 simp only [W,Wx] at h
 refine ot _ _ ⟨Ends ir.2.2 r,fun _ _=>False,Ends ir.2.2 r,rN,none⟩ _ (fun s hs=>?_) (fun _ _ h=>h) (fun s hs=>?_) h
 all_goals
  replace hs:Ends ir.2.2 r s:=hs
  unfold Ends at hs
  split at hs
  ·rename_i vs hvs
   cases hs
   exact xM hvs (rj _ _ _ _ hid)
  ·cases hs
end
section
variable {P:Program} {G:Nat→Option (List DV)} {fin:St→Prop} {t:List It} {env:List (Nat×LV)} {af:List (Option aH)} {os:List ei}
theorem adG {n:St→Prop} {x:Nat→St→Prop} {s:St} : W P G fin (.rt n x::t) s=n s:=by simp only [W]
theorem acp {i:Nat} {n:St→Prop} {x:Nat→St→Prop} {s:St} : Wx P G fin i (.rt n x::t) s=x i s:=by simp only [Wx]
theorem adF {Y:YO} {s:St} : W P G fin (.yd Y::t) s=W P G fin t s:=by simp only [W]
theorem aco {i:Nat} {Y:YO} {s:St} : Wx P G fin i (.yd Y::t) s=Wx P G fin i t s:=by simp only [Wx]
theorem VN {d:Option Nat} {f:bU} {as:List bU} {pre:List Nat} {oy:Nat} (hc:f.ev G (aZ env)=.yl oy)
  (h:Wy t (.yl oy::as.map (·.ev G (aZ env))) af (aZ env YS) (fun ys b aA=>W P G fin (.ops os::t) ⟨dY d (.bool b) ((YS,ys)::env),aA⟩)):W P G fin (.ops (⟨d,.call f as,none,pre⟩::os)::t) ⟨env,af⟩:=by
 simp only [W,gG,yH,yI]
 have wh:f.ev G (St.get ⟨env,af⟩)=.yl oy:=hc
 rw [wh]
 simp only [W] at h
 exact h
theorem RX {jm:Option Nat} {ps:List Nat} {a b:C} {s:St} {as:List LV} {af:List (Option aH)} {ys:LV} {K':LV→Bool→List (Option aH)→Prop} (hy:ys=jf) (hl:as.length=ps.length)
  (h:W P G (fun _=>False) [.c a,.rt (fun s1=>W P G (fun s'=>jm=none∧K' kj false s'.af) [.c b,.rt (fun s'=>K' jf true s'.af) (fun i s'=>i≠gY∧jm=some i∧K' kj false s'.af)] s1) (fun _ _=>False)] ⟨sL ps as s.env,af⟩) :
  qw P G jm ps a b s (.yl s.af.length::as) af ys K':=by
 refine ⟨hy,rfl,hl,?_⟩
 simp only [W,Wx,Wy] at h
 exact h
theorem YT {g:bU} {ps:List Nat} {a b:C} {k:Nat} {fs cs:List LV} (hc:callee (g.ev G (aZ env))=some (k,fs,cs)) (R:LV→List (Option aH)→Prop)
  (h1:GU P G k (fs++[.yl af.length]++cs) (af++[none]) (qw P G none ps a b ⟨env,af⟩) R)
  (h2:∀ yv aA,R yv aA→(yv=jf∧W P G fin t ⟨env,aA⟩)∨(yv=kj∧fin ⟨env,aA⟩)):W P G fin (.c (.Zc g ps a b)::t) ⟨env,af⟩:=by
 simp only [W,vc]
 have wh:callee (g.ev G (St.get ⟨env,af⟩))=some (k,fs,cs):=hc
 rw [wh]
 exact ⟨none,R,h1,h2⟩
theorem Pm {f:Nat} {fn:Func} {ir:Nat×C×List RV} {args:List LV} {af:List (Option aH)} {Y:YO} {R:LV→List (Option aH)→Prop} (hf:P.funcs[f]? = some fn) (hn:(fn.name != "runtime.NumGoroutine")=true) (g_:aj P fn=some ir) (hl:Nat.ble args.length ir.1=true) (Iu:kf ir.2.1=true) (Mn:ir.2.2=[])
  (h:W P G (fun s=>R (s.get YS) s.af) [.c ir.2.1,.yd Y] ⟨(YS,jf)::fF 0 args,af⟩):GU P G f args af Y R:=by
 refine Kc hf (by simpa using hn) (N:=ir.1) (c:=ir.2.1) (rv:=ir.2.2) g_ (Nat.le_of_ble_eq_true hl) Iu ?_
 simp only [W,Wx,Wy] at h
 simp only [Mn,and_true]
 exact h
end
end Dv
namespace Dv
open Go
section
variable {π:Nat→Nat} {k:Nat}
mutual
theorem Hy (h:∀ o,o<k→π o=o):∀ (x:LV),eH k x=true→rn π x=x
 | .top,_=>rfl
 | .d x,_=>rfl
 | .dQ,_=>rfl
 | .ptr o c,hx=>by simp only [eH,decide_eq_true_eq] at hx; simp only [rn,h o hx]
 | .rp o n e r c,hx=>by simp only [eH,decide_eq_true_eq] at hx; simp only [rn,h o hx]
 | .ip ..,_=>rfl
 | .sl o n e l m,hx=>by simp only [eH,decide_eq_true_eq] at hx; simp only [rn,h o hx]
 | .fn f a b,hx=>by
   simp only [eH,Bool.and_eq_true] at hx
   simp only [rn,rI h a hx.1,rI h b hx.2]
 | .agg cs,hx=>by simp only [eH] at hx; simp only [rn,rI h cs hx]
 | .dJ cs,hx=>by simp only [eH] at hx; simp only [rn,rI h cs hx]
 | .fW t x,hx=>by simp only [eH] at hx; simp only [rn,Hy h x hx]
 | .yl o,hx=>by simp only [eH,decide_eq_true_eq] at hx; simp only [rn,h o hx]
 | .mr o,hx=>by simp only [eH,decide_eq_true_eq] at hx; simp only [rn,h o hx]
theorem rI (h:∀ o,o<k→π o=o):∀ (xs:List LV),eD k xs=true→ni π xs=xs
 | [],_=>rfl
 | x::xs,hx=>by
   simp only [eD,Bool.and_eq_true] at hx
   simp only [ni,Hy h x hx.1,rI h xs hx.2]
end
theorem Du (h:∀ o,o<k→π o=o):∀ (ob:aH),dZ k ob=true→fB π ob=ob
 | .box et cells,hx=>by simp only [fB]; rw [rI h cells hx]
 | .mp es,hx=>by
   simp only [dZ,List.all_eq_true] at hx
   simp only [fB,aH.mp.injEq]
   conv=>rhs; rw [← List.map_id es]
   exact List.map_congr_left fun p hp=>by simp [Hy h p.2 (hx p hp)]
 | .dat ..,_=>rfl
 | .kW ..,_=>rfl
end
section
variable {ρ:List Nat} {k:Nat}
mutual
theorem AU (h:∀ o,o<k→ρ[o]? = some o) (obj:Nat→cF):∀ (x:LV),eH k x=true→ah obj ρ [] x x
 | .top,_=>by simp [ah]
 | .d x,_=>by simp [ah]
 | .dQ,_=>by simp [ah]
 | .ptr o c,hx=>by simp only [eH,decide_eq_true_eq] at hx; simp only [ah,h o hx,and_self]
 | .rp o n e r c,hx=>by simp only [eH,decide_eq_true_eq] at hx; simp only [ah,h o hx,and_self]
 | .ip ..,_=>by simp [ah]
 | .sl o n e l m,hx=>by simp only [eH,decide_eq_true_eq] at hx; simp only [ah,h o hx,and_self]
 | .fn f a b,hx=>by
   simp only [eH,Bool.and_eq_true] at hx
   simp only [ah]; exact ⟨trivial,oe h obj a hx.1,oe h obj b hx.2⟩
 | .agg cs,hx=>by simp only [eH] at hx; simp only [ah]; exact oe h obj cs hx
 | .dJ cs,hx=>by simp only [eH] at hx; simp only [ah]; exact oe h obj cs hx
 | .fW t x,hx=>by simp only [eH] at hx; simp only [ah]; exact ⟨trivial,AU h obj x hx⟩
 | .yl o,hx=>by simp only [eH,decide_eq_true_eq] at hx; simp only [ah,h o hx]
 | .mr o,hx=>by simp only [eH,decide_eq_true_eq] at hx; simp only [ah,h o hx]
theorem oe (h:∀ o,o<k→ρ[o]? = some o) (obj:Nat→cF):∀ (xs:List LV),eD k xs=true→ag obj ρ [] xs xs
 | [],_=>by simp [ag]
 | x::xs,hx=>by
   simp only [eD,Bool.and_eq_true] at hx
   simp only [ag]; exact ⟨AU h obj x hx.1,oe h obj xs hx.2⟩
end
end
theorem eG {k o:Nat} (h:o<k):(List.range k)[o]? = some o:=List.getElem?_range h
theorem s_ {k o:Nat} (h:o<k):bB (List.range k) 0 o=o:=by unfold bB; rw [eG h]
theorem acH {rv:List RV} {r:LV} {aA:List aH} {s:St} (hs:vr rv r aA s) (hid:eH aA.length r=true) (ho:aA.all (dZ aA.length)=true):vv rv aA.length r aA s:=by
 obtain ⟨h1,h2⟩:=hs
 unfold GV at h1
 split at h1
 ·rename_i vs hvs
  simp only [Option.some.injEq] at h1
  subst h1
  have ho':=ho
  rw [List.all_eq_true] at ho
  refine ⟨[],vs,List.range aA.length,[],hvs,by simp,List.nodup_range,(fun _ h=>by cases h),(fun _ h=>by cases h),by simp,fun i o hi=>?_,?_,?_⟩
  ·have hlt:i<aA.length:=by
    have:=(List.getElem?_eq_some_iff.1 hi).1
    simpa using this
   have oo:o=i:=by rw [List.getElem?_range hlt] at hi; cases hi; rfl
   subst oo
   refine ⟨aA[o],List.getElem?_eq_getElem hlt,?_⟩
   have h3:(s.af.take aA.length)[o]? = some (some aA[o]):=by rw [h2]; simp [hlt]
   rw [List.getElem?_take_of_lt hlt] at h3
   rw [Du (fun o h=>s_ h) _ (ho _ (List.getElem_mem hlt))]
   simp only [dg,St.obj,aD,h3]
  ·rw [List.length_range]; exact ho'
  ·exact AU (fun o h=>eG h) _ _ hid
 ·cases h1
theorem aT {P:Program} {G:Nat→Option (List DV)} {f:Nat} {fn:Func} {ir:Nat×C×List RV} {args:List LV} {af aA:List aH} {r:LV} (hf:P.funcs[f]? = some fn) (hn:(fn.name != "runtime.NumGoroutine")=true) (g_:aj P fn=some ir) (hl:Nat.ble args.length ir.1=true) (hid:eH aA.length r=true) (ho:aA.all (dZ aA.length)=true) (hlen:af.length=aA.length)
  (h:W P G (vr ir.2.2 r aA) [.c ir.2.1] ⟨fF 0 args,af.map some⟩):bw P G f args af r aA:=by
 refine yQ hf (by simpa using hn) (N:=ir.1) (c:=ir.2.1) (rv:=ir.2.2) g_ (Nat.le_of_ble_eq_true hl) ?_
 simp only [W,Wx] at h
 refine ot _ _ ⟨vr ir.2.2 r aA,fun _ _=>False,vr ir.2.2 r aA,rN,none⟩ _ (fun s hs=>?_) (fun _ _ h=>h) (fun s hs=>?_) h
 all_goals
  rw [hlen]; exact acH hs hid ho
theorem Y3:LV.undef=.d (.val (.tuple #[])):=rfl
def qo (n:Nat) (x:I):ei:=⟨some n,x,none,[]⟩
def qm (n a:Nat):ei:=⟨some n,.mv (.t a),none,[]⟩
def qd (n:Nat) (x:I) (l:List Nat):ei:=⟨some n,x,none,l⟩
def qg (n:Nat) (x:I) (g:Nat) (b:Bool):ei:=⟨some n,x,some (g,b),[]⟩
def qe (n:Nat) (x:I) (g:Nat) (b:Bool) (l:List Nat):ei:=⟨some n,x,some (g,b),l⟩
def qn (x:I):ei:=⟨none,x,none,[]⟩
def ql (x:I) (l:List Nat):ei:=⟨none,x,none,l⟩
def qf:bU:=.c (.val (.bool false))
def qt:bU:=.c (.val (.bool true))
def qk (i:Int):bU:=.c (.val (.int .i64 i))
def q0:DV:=.val (.int .i64 0)
end Dv
namespace Dv
open Go
section
variable {G:Nat→Option (List DV)} {J:Nat→Prop} {w w':World} {ι:Nat→Nat→Option Nat} {obj:Nat→cF}
theorem aI.still (S:aI G J w ι obj) (hJ:∀ b,J b→w'.heap[b]? = w.heap[b]?) (hO:∀ b,Own ι obj b→w'.heap[b]? = w.heap[b]?) (hsh:∀ b,(w.shape? b).isSome=true→w'.shape? b=w.shape? b):aI G J w' ι obj:=by
 refine ⟨fun o=>?_,S.inj,S.sn,fun b hb=>by rw [hJ b hb]; exact S.jcell b hb,fun g row hg=>?_⟩
 ·have h:=S.rep o
  have hb:∀ b,(obj o).own ι o b→w'.heap[b]? = w.heap[b]?:=fun b hb=>hO b ⟨o,hb⟩
  cases hs:obj o with
  | free=>rw [hs] at h; exact h
  | dead=>trivial
  | live ob=>
    rw [hs] at h hb
    obtain ⟨h,hkey⟩:=h
    cases ob with
    | box et cells=>
      obtain ⟨b,C,h1,h2,h3⟩:=h
      exact ⟨⟨b,C,h1,by rw [hb b h1]; exact h2,bM.mono (fun _ h=>h) hJ (fun _ _ _ h=>h) hsh _ _ h3⟩,trivial⟩
    | mp es=>
      obtain ⟨b,C,c,h1,h2,h3⟩:=h
      exact ⟨⟨b,C,c,h1,by rw [hb b h1]; exact h2,iV.mono (fun _ h=>h) hJ (fun _ _ _ h=>h) hsh _ _ h3⟩,trivial⟩
    | dat et aS rows=>
      obtain ⟨h1,h2⟩:=h
      refine ⟨⟨h1,fun b hb'=>?_⟩,hkey⟩
      obtain ⟨⟨C,h3⟩,h4⟩:=h2 b hb'
      exact ⟨⟨C,by rw [hb b hb']; exact h3⟩,bF.mono (fun _ h=>h) hJ _ _ _ _ (hb b hb') h4⟩
    | kW et aS rows=>
      obtain ⟨h1,h2⟩:=h
      refine ⟨⟨h1,fun b hb'=>?_⟩,trivial⟩
      obtain ⟨h3,h4⟩:=h2 b hb'
      exact ⟨h3,bF.mono (fun _ h=>h) hJ _ _ _ _ (hJ b h3) h4⟩
 ·obtain ⟨h1,h2,t,h3⟩:=S.xV g row hg
  exact ⟨h1,dI.mono (fun _ h=>h) hJ _ _ _ (hJ g h1) h2,t,by rw [bJ (hJ g h1)]; exact h3⟩
theorem j7 {w:World} {b:Nat} (h:(w.shape? b).isSome=true):∃ C t f,w.heap[b]? = some (.cells C t f):=by
 unfold World.shape? at h
 split at h
 ·rename_i c e f hc; exact ⟨c,e,f,hc⟩
 ·cases h
structure G1 (G:Nat→Option (List DV)) (obj:Nat→cF) (J:Nat→Prop) (ι:Nat→Nat→Option Nat) (w:World) (n:Nat) (W:World) (J':Nat→Prop) (ι':Nat→Nat→Option Nat):Prop where
 store:aI G J' W ι' obj
 ext:Ext obj obj J J' ι ι' w W
 own:∀ b,Own ι' obj b→Own ι obj b∨n≤b
 std:∀ b,J' b→J b∨n≤b∨Own ι obj b
 size:n≤W.heap.size
theorem G1.start (S:aI G J w ι obj) {W:World} (hos:W.os=w.os) (ht:W.tape=w.tape) (ho:W.output=w.output) (hs:w.heap.size≤W.heap.size) (hk:∀ b,b<w.heap.size→W.heap[b]? = w.heap[b]?):G1 G obj J ι w W.heap.size W J ι:=by
 refine ⟨S.still (fun b hb=>hk b (S.Ez b hb)) (fun b hb=>hk b ?_) (fun b hb=>bJ (hk b ?_)),⟨⟨hos,ht,ho,hs,fun b hb _=>hk b hb,fun b hb=>bJ (hk b hb),fun _ h=>h,fun _ h=>.inl h,fun _ _ _ h=>h⟩,fun _ h=>.inl h⟩,fun _ h=>.inl h,fun _ h=>.inl h,Nat.le_refl _⟩
 ·exact S.nr hb
 ·obtain ⟨C,t,f,h⟩:=j7 hb
  exact (Array.getElem?_eq_some_iff.1 h).1
theorem G1.grown {n:Nat} {W W':World} {J':Nat→Prop} {ι':Nat→Nat→Option Nat} (S:aI G J w ι obj) (h:G1 G obj J ι w n W J' ι') (hn:w.heap.size≤n) {row:Option Nat} (hg:W.grownBy W' row) (hr:∀ r,row=some r→w.heap.size≤r∧((r<n∧(W'.shape? r)=W.shape? r)∨∀ x,W.heap[r]? = some x→x.nU=false)):G1 G obj J ι w n W' J' ι':=by
 have hlt:∀ b,Own ι obj b→b<w.heap.size:=fun b hb=>by
  exact S.nr hb
 have ne:∀ b,(J' b∨Own ι' obj b)→some b≠row:=fun b hb e=>by
  obtain ⟨h1,h2⟩:=hr b e.symm
  have hc:∃ x,W.heap[b]? = some x∧x.nU=true:=hb.elim (fun k=>by obtain ⟨C,t,f,k⟩:=h.store.jcell b k; exact ⟨_,k,rfl⟩) h.store.vQ
  rcases h2 with ⟨h2,_⟩ | h2
  ·rcases hb with hb | hb
   ·rcases h.std b hb with k | k | k
    ·have:=S.Ez b k; omega
    ·omega
    ·have:=hlt b k; omega
   ·rcases h.own b hb with k | k
    ·have:=hlt b k; omega
    ·omega
  ·obtain ⟨x,hc,hx⟩:=hc
   rw [h2 x hc] at hx; cases hx
 have blk:∀ b,(J' b∨Own ι' obj b)→W'.heap[b]? = W.heap[b]?:=fun b hb=>by
  have hc:∃ x,W.heap[b]? = some x∧x.nU=true:=hb.elim (fun k=>by obtain ⟨C,t,f,k⟩:=h.store.jcell b k; exact ⟨_,k,rfl⟩) h.store.vQ
  obtain ⟨x,hc,_⟩:=hc
  exact hg.block b (Array.getElem?_eq_some_iff.1 hc).1 (ne b hb)
 have hsz:=h.ext.ev.size
 have shp:∀ b,b<W.heap.size→(W.shape? b).isSome=true→W'.shape? b=W.shape? b:=fun b hb hc=>by
  by_cases e:some b=row
  ·obtain ⟨h1,h2⟩:=hr b e.symm
   rcases h2 with ⟨_,h2⟩ | h2
   ·exact h2
   ·obtain ⟨C,t,f,k⟩:=j7 hc
    cases h2 _ k
  ·exact bJ (hg.block b hb e)
 refine ⟨h.store.still (fun b hb=>blk b (.inl hb)) (fun b hb=>blk b (.inr hb)) (fun b hb=>?_),⟨⟨hg.os.trans h.ext.ev.os,hg.tape.trans h.ext.ev.tape,hg.output.trans h.ext.ev.output,Nat.le_trans hsz hg.size,fun b hb ho=>?_,fun b hb=>?_,h.ext.ev.iB,h.ext.ev.vZ,h.ext.ev.iC⟩,h.ext.own⟩,h.own,h.std,Nat.le_trans h.size hg.size⟩
 ·obtain ⟨C,t,f,k⟩:=j7 hb
  exact shp b (Array.getElem?_eq_some_iff.1 k).1 hb
 ·rw [hg.block b (by omega) (fun e=>by have:=(hr b e.symm).1; omega)]; exact h.ext.ev.same b hb ho
 ·rw [bJ (hg.block b (by omega) (fun e=>by have:=(hr b e.symm).1; omega))]; exact h.ext.ev.shape b hb
theorem G1.call {n:Nat} {W W2:World} {J':Nat→Prop} {ι':Nat→Nat→Option Nat} (S:aI G J w ι obj) (h:G1 G obj J ι w n W J' ι') (hn:w.heap.size≤n) {r:LV} {v:Value} (hA:bg G obj obj J' ι' W r v W2):∃ J2 xZ,G1 G obj J ι w n W2 J2 xZ∧dm J2 W2 xZ r v∧(∀ b,b<W.heap.size→¬ Own ι' obj b→W2.heap[b]? = W.heap[b]?)∧W.heap.size≤W2.heap.size:=by
 obtain ⟨J2,xZ,S2,R2,E2⟩:=hA
 have hsz:=h.size
 refine ⟨J2,xZ,⟨S2,h.ext.trans E2,fun b hb=>?_,fun b hb=>?_,Nat.le_trans h.size E2.ev.size⟩,R2,E2.ev.same,E2.ev.size⟩
 ·rcases E2.own b hb with k | k
  ·exact h.own b k
  ·exact .inr (by omega)
 ·rcases E2.ev.vZ b hb with k | k | k
  ·exact h.std b k
  ·exact .inr (.inl (by omega))
  ·rcases h.own b k with k | k
   ·exact .inr (.inr k)
   ·exact .inr (.inl k)
theorem G1.mine {n:Nat} {W:World} {J':Nat→Prop} {ι':Nat→Nat→Option Nat} (S:aI G J w ι obj) (h:G1 G obj J ι w n W J' ι') {b:Nat} (h1:w.heap.size≤b) (h2:b<n):¬ Own ι' obj b:=fun hb=>by
 rcases h.own b hb with k | k
 ·have:=S.nr k
  omega
 ·omega
end
end Dv
namespace Dv
open Go
section
variable {P:Program} {G:Nat→Option (List DV)} {N:Nat}
def iI (p:Value) (ax:List aH) (s:St):Prop:=s.get gY=.d (.val p)∧s.af.take ax.length=ax.map some
theorem RF {f:Nat} {fn:Func} {c:C} {rv:List RV} {args:List LV} {aK ax:List aH} {p:Value} (hf:P.funcs[f]? = some fn) (hn:fn.name≠ "runtime.NumGoroutine") (g_:aj P fn=some (N,c,rv)) (hl:args.length≤N) (hlen:aK.length=ax.length) (ho:ax.all (dZ ax.length)=true)
  (h:vc P G c ⟨fF 0 args,aK.map some⟩ ⟨fun _=>False,fun j s=>j=gY∧iI p ax s,fun _=>False,rN,none⟩) (Iu:kf c=true):wK P G f args aK p ax:=by
 unfold aj at g_
 split at g_
 ·rename_i code hbody
  split at g_
  ·rename_i c' rv' hc Mn
   split at g_
   case isFalse=>cases g_
   rename_i hlim
   cases g_
   refine ⟨by simp [mS,hf,hn,hbody],fun J0 ck w0 vs S0 hargs=>?_⟩
   have hvl:vs.size=args.length:=by have:=hargs.length; simpa using this.symm
   refine (nZ (ro:=none) (n:=0)).1 (callsIn_of_wp hf hbody trivial (wpIn_mono (eU (D:=Dk.plain [] false) (N:=fn.ntmps) (bu:=aD (aK.map some)) (J0:=J0) (ck:=ck) (w0:=w0) code c hc (.inl Iu) _ _ h pF.no (Nu.no _) _ w0 ⟨J0,ck,⟨S0,fun t=>?_,?_,Marks.plain _ _,trivial,hlim⟩,Ext.refl ..⟩) (fun e a w hq=>?_)))
   ·have h1:=mu args vs.toList 0 t hargs
    simp only [Nat.zero_le,if_true,Nat.sub_zero] at h1
    have h2:(vs++Array.replicate (fn.ntmps-vs.size) Go.undef).getD t Go.undef=(vs.toList[t]?).getD Go.undef:=by
     simp only [Array.getD_eq_getD_getElem?,Array.getElem?_append,Array.getElem?_toList]
     by_cases ht:t<vs.size
     ·rw [if_pos ht]
     ·rw [if_neg ht,Array.getElem?_eq_none (Nat.le_of_not_lt ht),Array.getElem?_replicate]
      split <;> rfl
    rw [h2]; exact h1
   ·simp; omega
   ·cases e with
    | normal=>obtain ⟨s,hA,hB⟩:=hq; exact hB.elim
    | ret=>obtain ⟨s,hA,hB⟩:=hq; exact hB.elim
    | exit i=>obtain ⟨Rv,s,_,hB,_⟩:=hq; exact absurd hB Rv
    | goto l=>exact hq.elim
    | outgrown=>exact hq.elim
    | panic ch=>
      obtain ⟨v,s,rfl,hd,⟨J,ι,S,E,_⟩,_,hv,eX⟩:=hq
      have eX:s.af.take ax.length=ax.map some:=eX
      have hv:v=p:=by
       have:(LV.d (.val v))=.d (.val p):=by simpa [jY,St.get,aZ] using hv
       simpa using this
      subst hv
      refine ⟨hd rfl,rfl,?_⟩
      have ho':=ho
      rw [List.all_eq_true] at ho
      obtain ⟨S',hown⟩:=S.sub (ρ:=List.range ax.length) (Z:=[]) (aK:=ax) (base:=0) List.nodup_range (fun _ h=>by cases h) (by simp) (fun i o hi=>by
       have hlt:i<ax.length:=by
        have:=(List.getElem?_eq_some_iff.1 hi).1
        simpa using this
       have oo:o=i:=by rw [List.getElem?_range hlt] at hi; cases hi; rfl
       subst oo
       refine ⟨ax[o],List.getElem?_eq_getElem hlt,?_⟩
       have h3:(s.af.take ax.length)[o]? = some (some ax[o]):=by rw [eX]; simp [hlt]
       rw [List.getElem?_take_of_lt hlt] at h3
       rw [Du (fun o h=>s_ h) _ (ho _ (List.getElem_mem hlt))]
       simp only [St.obj,aD,h3]) (by rw [List.length_range]; exact ho') (fun _ h=>by cases h)
      refine ⟨_,_,S',trivial,⟨E.ev.os,E.ev.tape,E.ev.output,E.ev.size,E.ev.same,E.ev.shape,fun b hb=>.inl (E.ev.iB b hb),fun b hb=>?_,fun o n b hb=>?_⟩,?_⟩
      ·rcases hb with hb | ⟨z,ZX,Ij⟩
       ·exact E.ev.vZ b hb
       ·cases ZX
      ·have ho:o<aK.length:=by
        rcases Nat.lt_or_ge o aK.length with h1 | h1
        ·exact h1
        ·have:=S0.rep o
         rw [cR (by simpa using h1)] at this
         rw [this n] at hb; cases hb
       exact lM (eG (by omega)) (E.ev.iC o n b hb)
      ·rintro b ⟨i,hb⟩
       obtain ⟨o,_,h2⟩:=hown i b hb
       exact E.own b ⟨o,h2⟩
  ·cases g_
 ·cases g_
end
section
variable {P:Program} {G:Nat→Option (List DV)} {fin:St→Prop} {t:List It} {s:St} {env:List (Nat×LV)} {af:List (Option aH)} {os:List ei} {log:List iP}
theorem JG {f:Nat} {fn:Func} {ir:Nat×C×List RV} {args:List LV} {aK ax:List aH} {p:Value} (hf:P.funcs[f]? = some fn) (hn:(fn.name != "runtime.NumGoroutine")=true) (g_:aj P fn=some ir) (hl:Nat.ble args.length ir.1=true) (hlen:aK.length=ax.length) (ho:ax.all (dZ ax.length)=true)
  (h:W P G (fun _=>False) [.c ir.2.1,.pn (iI p ax)] ⟨fF 0 args,aK.map some⟩) (Iu:kf ir.2.1=true:=by rfl):wK P G f args aK p ax:=by
 refine RF hf (by simpa using hn) (N:=ir.1) (c:=ir.2.1) (rv:=ir.2.2) g_ (Nat.le_of_ble_eq_true hl) hlen ho ?_ Iu
 simp only [W,Wx,Wy] at h
 refine ot _ _ ⟨fun _=>False,fun i s=>if i=gY then iI p ax s else False,fun _=>False,rN,none⟩ _ (fun s h=>h) (fun i s h=>?_) (fun s h=>h) h
 dsimp only at h
 split at h
 ·rename_i hi; exact ⟨hi,h⟩
 ·exact h.elim
theorem eZ {i:Nat} {p:St→Prop} : Wx P G fin i (.pn p::t) s=if i=gY then p s else Wx P G fin i t s:=by simp only [Wx]
theorem KV {d:Option Nat} {f:bU} {as:List bU} {pre:List Nat} {k:Nat} {fs cs:List LV} {v:Value} (e:fu) (hc:callee (f.ev G (aZ env))=some (k,fs,cs)) (h:fA P G k (fs++as.map (·.ev G (aZ env))++cs) (aD af) af.length v e)
  (hk:Wx P G fin gY t ⟨(gY,.d (.val v))::env,fQ e.wr af++e.nw.map some⟩):W P G fin (.ops (⟨d,.call f as,none,pre⟩::os)::t) ⟨env,af⟩:=by
 simp only [W,gG,yH,yI]
 have wh:callee (f.ev G (St.get ⟨env,af⟩))=some (k,fs,cs):=hc
 rw [wh]
 exact .inr ⟨v,e,h,hk⟩
theorem Rp {d:Option Nat} {f:bU} {as:List bU} {pre:List Nat} {k:Nat} {fs cs:List LV} {v:Value} (e:fu) (hc:callee (f.ev G (aZ env))=some (k,fs,cs)) (h:fA P G k (fs++as.map (·.ev G (aZ env))++cs) (aD af) af.length v e)
  (hk:Wx P G fin gY t ⟨[(gY,.d (.val v))],fQ e.wr af++e.nw.map some⟩) (hr:W P G fin (.zB log.length pre os (log++[⟨pre,e.rd,[]⟩])::t) ⟨dY d .top env,af⟩):W P G fin (.fM (⟨d,.call f as,none,pre⟩::os) log::t) ⟨env,af⟩:=by
 simp only [W,eV,yH,yI]
 have wh:callee (f.ev G (St.get ⟨env,af⟩))=some (k,fs,cs):=hc
 rw [wh]
 simp only [W] at hr
 exact .inr ⟨v,e,h,hk,hr⟩
theorem AX {p:Nat} {Fl:List Nat} : W P G fin (.zB p Fl [] log::t) s=(indep log=true∧Fm log p Fl=true):=by simp only [W,pW]
theorem xL {p:Nat} {Fl:List Nat} {d:Option Nat} {i:I} {g:Option (Nat×Bool)} {pre:List Nat} (h:pre.contains p=true):W P G fin (.zB p Fl (⟨d,i,g,pre⟩::os) log::t) ⟨env,af⟩=W P G fin (.zB p Fl os (log++[⟨pre,[],[]⟩])::t) ⟨dY d .top env,af⟩:=by
 simp only [W,pW,h,if_true]; rfl
theorem CY {p:Nat} {Fl:List Nat} {d:Option Nat} {x:bU} {pre:List Nat} (h:pre.contains p=false):W P G fin (.zB p Fl (⟨d,.mv x,none,pre⟩::os) log::t) ⟨env,af⟩=W P G fin (.zB p Fl os (log++[⟨pre,[],[]⟩])::t) ⟨dY d (x.ev G (aZ env)) env,af⟩:=by
 simp only [W,pW,h,yH,yI,cI,Bool.false_eq_true,if_false]
 simp only [St.app,fQ,List.map_nil,List.append_nil,fu.owned,Ft,List.append_nil,List.map_nil]
 rfl
theorem fA.data {k:Nat} {args aX:List LV} {obj:Nat→cF} {base:Nat} {v:Value} (hT:wK P G k aX [] v []) (ha:ag obj [] [] args aX) :
  fA P G k args obj base v { r:=.top,rd:=[],wr:=[],nw:=[] }:=
 ⟨⟨[],[],aX,[],[],List.nodup_nil,(fun _ h=>by cases h),(fun _ h=>by cases h),rfl,(fun i o h=>by simp at h),rfl,ha,Nat.le_refl _,hT,rfl⟩⟩
theorem fA.hand {k:Nat} {args aX:List LV} {obj:Nat→cF} {base:Nat} {v:Value} {aK ax:List aH} (ρ:List Nat) (hT:wK P G k aX aK v ax) (ha:ag obj ρ [] args aX) (hnd:ρ.Nodup) (ho:ρ.map obj=aK.map (fun ob=>cF.live (fB (bB ρ base) ob))) (hid:aK.all (dZ ρ.length)=true) (hle:aK.length≤ax.length) :
  fA P G k args obj base v { r:=.top,rd:=ρ,wr:=ρ.zip (ax.map (fB (bB ρ base))),nw:=(ax.drop ρ.length).map (fB (bB ρ base)) }:=
 ⟨⟨ρ,[],aX,aK,ax,hnd,(fun _ h=>by cases h),(fun _ h=>by cases h),by have:=congrArg List.length ho; simpa using this.symm,(fun i o hi=>by
   have h1:(ρ.map obj)[i]? = some (obj o):=by rw [List.getElem?_map,hi]; rfl
   rw [ho,List.getElem?_map] at h1
   cases hf:aK[i]? with
   | none=>rw [hf] at h1; cases h1
   | some ob=>rw [hf] at h1; simp at h1; exact ⟨ob,rfl,h1.symm⟩),hid,ha,hle,hT,by simp [gE]⟩⟩
theorem oh {d:Option Nat} {f:bU} {as:List bU} {pre:List Nat} {k:Nat} {fs cs aX:List LV} {v:Value} (hT:wK P G k aX [] v []) (hc:callee (f.ev G (aZ env))=some (k,fs,cs)) (ha:fs++as.map (·.ev G (aZ env))++cs=aX) (hid:eD 0 aX=true)
  (hk:Wx P G fin gY t ⟨(gY,.d (.val v))::env,af⟩):W P G fin (.ops (⟨d,.call f as,none,pre⟩::os)::t) ⟨env,af⟩:=by
 refine KV _ hc (fA.data hT (by rw [ha]; exact gr _ _ _ _ hid)) ?_
 simpa [fQ] using hk
theorem cU {d:Option Nat} {f:bU} {as:List bU} {pre:List Nat} {k:Nat} {fs cs aX:List LV} {v:Value} {aK ax:List aH} (ρ:List Nat) (hT:wK P G k aX aK v ax) (hc:callee (f.ev G (aZ env))=some (k,fs,cs)) (ha:ag (aD af) ρ [] (fs++as.map (·.ev G (aZ env))++cs) aX)
  (hnd:ρ.Nodup) (ho:ρ.map (aD af)=aK.map (fun ob=>cF.live (fB (bB ρ af.length) ob))) (hid:aK.all (dZ ρ.length)=true) (hle:aK.length≤ax.length)
  (hk:Wx P G fin gY t ⟨(gY,.d (.val v))::env,fQ (ρ.zip (ax.map (fB (bB ρ af.length)))) af++((ax.drop ρ.length).map (fB (bB ρ af.length))).map some⟩):W P G fin (.ops (⟨d,.call f as,none,pre⟩::os)::t) ⟨env,af⟩:=by
 refine KV _ hc (fA.hand ρ hT ha hnd ho hid hle) ?_
 simpa using hk
theorem CZ {d:Option Nat} {f:bU} {as:List bU} {pre:List Nat} {k:Nat} {fs cs aX:List LV} {v:Value} {aK ax:List aH} (ρ:List Nat) (hT:wK P G k aX aK v ax) (hc:callee (f.ev G (aZ env))=some (k,fs,cs)) (ha:ag (aD af) ρ [] (fs++as.map (·.ev G (aZ env))++cs) aX)
  (hnd:ρ.Nodup) (ho:ρ.map (aD af)=aK.map (fun ob=>cF.live (fB (bB ρ af.length) ob))) (hid:aK.all (dZ ρ.length)=true) (hle:aK.length≤ax.length)
  (hk:Wx P G fin gY t ⟨[(gY,.d (.val v))],fQ (ρ.zip (ax.map (fB (bB ρ af.length)))) af++((ax.drop ρ.length).map (fB (bB ρ af.length))).map some⟩)
  (hr:W P G fin (.zB log.length pre os (log++[⟨pre,ρ,[]⟩])::t) ⟨dY d .top env,af⟩):W P G fin (.fM (⟨d,.call f as,none,pre⟩::os) log::t) ⟨env,af⟩:=by
 refine Rp _ hc (fA.hand ρ hT ha hnd ho hid hle) ?_ hr
 simpa using hk
end
end Dv
namespace Dv
open Go
section
variable {P:Program} {G:Nat→Option (List DV)}
theorem cw.ace {k:Nat} {args aX:List LV} {obj:Nat→cF} {base:Nat} {r:LV} {aK ax:List aH} (ρ Z:List Nat) (hT:bw P G k aX aK r ax) (ha:ag obj ρ Z args aX) (hnd:ρ.Nodup) (hz:∀ z∈Z,z∉ρ) (hZ:∀ z∈Z,∃ et e rows,obj z=.live (.dat et e rows)∨obj z=.live (.kW et e rows)) (ho:ρ.map obj=aK.map (fun ob=>cF.live (fB (bB ρ base) ob))) (hid:aK.all (dZ ρ.length)=true) (hle:aK.length≤ax.length) :
  cw P G k args obj base { r:=rn (bB ρ base) r,rd:=ρ++Z,wr:=ρ.zip (ax.map (fB (bB ρ base)))++gE obj Z,nw:=(ax.drop ρ.length).map (fB (bB ρ base)) }:=
 ⟨⟨ρ,Z,false,aX,aK,r,ax,(fun _=>true),(fun _ _ _ h=>by cases h),hnd,hz,hZ,by have:=congrArg List.length ho; simpa using this.symm,(fun i o hi=>by
   have h1:(ρ.map obj)[i]? = some (obj o):=by rw [List.getElem?_map,hi]; rfl
   rw [ho,List.getElem?_map] at h1
   cases hf:aK[i]? with
   | none=>rw [hf] at h1; cases h1
   | some ob=>rw [hf] at h1; simp at h1; exact ⟨ob,rfl,h1.symm⟩),hid,ha,(fun h=>by cases h),hle,hT,by rw [List.filter_eq_self.2 (fun _ _=>rfl)]; simp⟩⟩
variable {fin:St→Prop} {env:List (Nat×LV)} {af:List (Option aH)} {os:List ei} {t:List It} {log:List iP}
theorem AZ {d:Option Nat} {f:bU} {as:List bU} {pre:List Nat} {k:Nat} {fs cs aX:List LV} {r:LV} {aK ax:List aH} (ρ Z:List Nat) (hT:bw P G k aX aK r ax) (hc:callee (f.ev G (aZ env))=some (k,fs,cs)) (ha:ag (aD af) ρ Z (fs++as.map (·.ev G (aZ env))++cs) aX)
  (hnd:ρ.Nodup) (hz:∀ z∈Z,z∉ρ) (hZ:∀ z∈Z,∃ et e rows,aD af z=.live (.dat et e rows)∨aD af z=.live (.kW et e rows)) (ho:ρ.map (aD af)=aK.map (fun ob=>cF.live (fB (bB ρ af.length) ob))) (hid:aK.all (dZ ρ.length)=true) (hle:aK.length≤ax.length)
  (hk:W P G fin (.fM os (log++[⟨pre,ρ++Z,(Ft af.length ((ax.drop ρ.length).map (fB (bB ρ af.length)))++(ρ.zip (ax.map (fB (bB ρ af.length)))++gE (aD af) Z)).map (·.1)⟩])::t) ⟨dY d (rn (bB ρ af.length) r) env,fQ (ρ.zip (ax.map (fB (bB ρ af.length)))++gE (aD af) Z) af++((ax.drop ρ.length).map (fB (bB ρ af.length))).map some⟩):W P G fin (.fM (⟨d,.call f as,none,pre⟩::os) log::t) ⟨env,af⟩:=by
 refine pG _ hc (cw.ace ρ Z hT ha hnd hz hZ ho hid hle) ?_
 simpa [fu.owned] using hk
theorem cw.look {k:Nat} {args aX:List LV} {obj:Nat→cF} {base:Nat} {r:LV} {aK:List aH} (ρ:List Nat) (hT:bw P G k aX aK r aK) (ha:ag obj ρ [] args aX) (hnd:ρ.Nodup) (ho:ρ.map obj=aK.map (fun ob=>cF.live (fB (bB ρ base) ob))) (hid:aK.all (dZ ρ.length)=true) :
  cw P G k args obj base { r:=rn (bB ρ base) r,rd:=ρ,wr:=[],nw:=[] }:=by
 have hlen:aK.length=ρ.length:=by have:=congrArg List.length ho; simpa using this.symm
 refine ⟨⟨ρ,[],false,aX,aK,r,aK,(fun _=>false),(fun _ _ _ _=>rfl),hnd,(fun _ h=>by cases h),(fun _ h=>by cases h),hlen,(fun i o hi=>?_),hid,ha,(fun h=>by cases h),Nat.le_refl _,hT,?_⟩⟩
 ·have h1:(ρ.map obj)[i]? = some (obj o):=by rw [List.getElem?_map,hi]; rfl
  rw [ho,List.getElem?_map] at h1
  cases hf:aK[i]? with
  | none=>rw [hf] at h1; cases h1
  | some ob=>rw [hf] at h1; simp at h1; exact ⟨ob,rfl,h1.symm⟩
 ·rw [List.drop_eq_nil_of_le (by omega)]
  simp [gE]
theorem gW {d:Option Nat} {f:bU} {as:List bU} {pre:List Nat} {k:Nat} {fs cs aX:List LV} {r:LV} {aK:List aH} (ρ:List Nat) (hT:bw P G k aX aK r aK) (hc:callee (f.ev G (aZ env))=some (k,fs,cs)) (ha:ag (aD af) ρ [] (fs++as.map (·.ev G (aZ env))++cs) aX)
  (hnd:ρ.Nodup) (ho:ρ.map (aD af)=aK.map (fun ob=>cF.live (fB (bB ρ af.length) ob))) (hid:aK.all (dZ ρ.length)=true)
  (hk:W P G fin (.ops os::t) ⟨dY d (rn (bB ρ af.length) r) env,af⟩):W P G fin (.ops (⟨d,.call f as,none,pre⟩::os)::t) ⟨env,af⟩:=by
 refine wJ _ hc (cw.look ρ hT ha hnd ho hid) ?_
 simpa [fQ] using hk
theorem ey {d:Option Nat} {f:bU} {as:List bU} {pre:List Nat} {k:Nat} {fs cs aX:List LV} {r:LV} {aK:List aH} (ρ:List Nat) (hT:bw P G k aX aK r aK) (hc:callee (f.ev G (aZ env))=some (k,fs,cs)) (ha:ag (aD af) ρ [] (fs++as.map (·.ev G (aZ env))++cs) aX)
  (hnd:ρ.Nodup) (ho:ρ.map (aD af)=aK.map (fun ob=>cF.live (fB (bB ρ af.length) ob))) (hid:aK.all (dZ ρ.length)=true)
  (hk:W P G fin (.fM os (log++[⟨pre,ρ,[]⟩])::t) ⟨dY d (rn (bB ρ af.length) r) env,af⟩):W P G fin (.fM (⟨d,.call f as,none,pre⟩::os) log::t) ⟨env,af⟩:=by
 refine pG _ hc (cw.look ρ hT ha hnd ho hid) ?_
 simpa [fu.owned,fQ,Ft] using hk
end
end Dv
namespace Dv
open Go
section
variable {P:Program} {G:Nat→Option (List DV)} {J J0:Nat→Prop} {w w0:World} {ι ck:Nat→Nat→Option Nat}
theorem Ei {fn:Func} {rv:List RV} {r:LV} {rs:List LV} (Z:List Nat) {s:St} {tmps:Array Value} (S:aI G J w ι s.obj) (he:∀ t,dm J w ι (s.get t) (tmps.getD t Go.undef)) (S0:aI G J0 w0 ck (aD [])) (E:Ext (aD []) s.obj J0 J ck ι w0 w)
  (Mn:o8 P fn.results.toList=some rv) (Cx:yE.of s rv=some rs) (Bt:∀ z∈Z,∃ et e rows,s.obj z=.live (.dat et e rows)∨s.obj z=.live (.kW et e rows)) (hR:ah s.obj [] Z (aU rs) r) :
  ∃ v,(results fn tmps).run P w=.ok v w∧bg G (aD []) (aD []) J0 ck w0 r v w:=by
 obtain ⟨us,Yw,Bk⟩:=yE.sound (a:={ tmps:=tmps,defers:=[] }) S he Mn Cx
 have hm:(fn.results.mapM (Fh tmps)).run P w=.ok us.toArray w:=by
  rw [Array.mapM_eq_mapM_toList,Sem.run_map,Yw]; rfl
 have hv:∃ v,(results fn tmps).run P w=.ok v w∧dm J w ι (aU rs) v:=by
  refine ⟨if h:us.toArray.size=1 then us.toArray[0] else .tuple us.toArray,?_,?_⟩
  ·rw [sZ,Sem.run_bind,hm]
   rfl
  ·have PL:=Bk.length
   cases rs with
   | nil=>
     cases us with
     | nil=>exact ⟨#[],rfl,trivial⟩
     | cons _ _=>simp at PL
   | cons x xs=>
     cases us with
     | nil=>simp at PL
     | cons u us=>
       cases xs with
       | nil=>
         cases us with
         | nil=>exact Bk.1
         | cons _ _=>simp at PL
       | cons y ys=>
         cases us with
         | nil=>simp at PL
         | cons u2 us=>exact ⟨_,by simp,Bk⟩
 obtain ⟨v,hv1,Il⟩:=hv
 refine ⟨v,hv1,?_⟩
 obtain ⟨S',hown⟩:=S.sub (ρ:=[]) (Z:=Z) (aK:=[]) (base:=0) List.nodup_nil (fun _ _ h=>by cases h) rfl (fun i o h=>by simp at h) rfl Bt
 refine ⟨_,_,S',pE S _ _ v hR Il,⟨E.ev.os,E.ev.tape,E.ev.output,E.ev.size,E.ev.same,E.ev.shape,fun b hb=>.inl (E.ev.iB b hb),fun b hb=>?_,fun o n b hb=>?_⟩,?_⟩
 ·rcases hb with hb | ⟨z,ZX,Ij⟩
  ·exact E.ev.vZ b hb
  ·rcases E.own b ⟨z,Ij⟩ with h1 | h1
   ·exact .inr (.inr h1)
   ·exact .inr (.inl h1)
 ·have:=S0.rep o
  rw [cR (by simp)] at this
  rw [this n] at hb; cases hb
 ·rintro b ⟨i,hb⟩
  obtain ⟨o,_,h2⟩:=hown i b hb
  exact E.own b ⟨o,h2⟩
end
section
variable {P:Program} {G:Nat→Option (List DV)} {D:Dk} {N:Nat} {bu:Nat→cF} {J0:Nat→Prop} {ck:Nat→Nat→Option Nat} {w0:World} {Q:Exit→Act→World→Prop}
theorem K6 {code YP:Code} {c:C} {s s1:St} {a:Act} {w:World} (hc:eR P N code=some c) (h:vc P G c s ⟨fun s'=>s'=s1,fun _ _=>False,fun _=>False,rN,none⟩) (hA:oq G D N bu J0 ck w0 s a w)
  (hk:∀ a w,oq G D N bu J0 ck w0 s1 a w→YP.wp P Q a w) (Iu:kf c=true:=by kernel_rfl):(Code.seq code YP).wp P Q a w:=by
 refine wp_seq (wp_mono ((wpIn_wide (n:=0)).1 (eU (ro:=none) code c hc (.inl Iu) s _ h pF.no (Nu.no _) a w hA)) (fun e a' w' hq=>?_))
 cases e with
 | normal=>obtain ⟨s',uR,rfl⟩:=hq; exact hk a' w' uR
 | ret=>obtain ⟨s,_,h⟩:=hq; exact h.elim
 | exit i=>obtain ⟨_,s,_,h⟩:=hq; exact h.elim
 | goto l=>exact hq.elim
 | panic ch=>obtain ⟨_,s,_,_,_,h⟩:=hq; exact h.elim
 | outgrown=>exact hq.elim
theorem K7 {code:Code} {c:C} {s:St} {a:Act} {w:World} {fin pan:St→Prop} (hc:eR P N code=some c) (h:vc P G c s ⟨fin,fun i s'=>i=gY∧pan s',fin,rN,none⟩) (hA:oq G D N bu J0 ck w0 s a w)
  (hk:∀ s a w,oq G D N bu J0 ck w0 s a w→fin s→Q .normal a w∧Q .ret a w)
  (hp:∀ v s a w,(D.xm=false→a.defers=D.ds)→VV G bu J0 ck w0 s.get s.obj a w→pan (jY v s)→Q (.panic [{ v:=v,recovered:=false }]) a w) (Iu:kf c=true:=by kernel_rfl):code.wp P Q a w:=by
 refine wp_mono ((wpIn_wide (n:=0)).1 (eU (ro:=none) code c hc (.inl Iu) s _ h pF.no (Nu.no _) a w hA)) (fun e a' w' hq=>?_)
 cases e with
 | normal=>obtain ⟨s',uR,h⟩:=hq; exact (hk s' a' w' uR h).1
 | ret=>obtain ⟨s',uR,h⟩:=hq; exact (hk s' a' w' uR h).2
 | exit i=>obtain ⟨hi,s,_,h,_⟩:=hq; exact absurd h hi
 | goto l=>exact hq.elim
 | panic ch=>obtain ⟨v,s',rfl,h1,h2,_,h3⟩:=hq; exact hp v s' a' w' h1 h2 h3
 | outgrown=>exact hq.elim
theorem KP {args:List LV} {vs:Array Value} {n:Nat} {w:World} {aK:List aH} (S0:aI G J0 w ck (aD (aK.map some))) (hargs:cu J0 w ck args vs.toList) (hn:args.length≤n) (hl:n≤YS:=by decide) :
  oq G (Dk.plain [] false) n (aD (aK.map some)) J0 ck w ⟨fF 0 args,aK.map some⟩ { tmps:=vs++Array.replicate (n-vs.size) Go.undef,defers:=[] } w:=by
 refine ⟨J0,ck,⟨S0,fun t=>?_,?_,Marks.plain _ _,trivial,hl⟩,Ext.refl ..⟩
 ·have h1:=mu args vs.toList 0 t hargs
  simp only [Nat.zero_le,if_true,Nat.sub_zero] at h1
  have h2:(vs++Array.replicate (n-vs.size) Go.undef).getD t Go.undef=(vs.toList[t]?).getD Go.undef:=by
   simp only [Array.getD_eq_getD_getElem?,Array.getElem?_append,Array.getElem?_toList]
   by_cases ht:t<vs.size
   ·rw [if_pos ht]
   ·rw [if_neg ht,Array.getElem?_eq_none (Nat.le_of_not_lt ht),Array.getElem?_replicate]
    split <;> rfl
  rw [h2]; exact h1
 ·have hvl:vs.size=args.length:=by have:=hargs.length; simpa using this.symm
  simp; omega
end
theorem Fs {l:List (Option aH)} {i:Nat} (h:i<l.length) (ob:aH):aD (l.set i (some ob))=fun o=>if o=i then .live ob else aD l o:=by
 funext o
 unfold aD
 by_cases ho:o=i
 ·subst ho; rw [List.getElem?_set_self h]; simp
 ·rw [List.getElem?_set_ne (fun e=>ho e.symm),if_neg ho]
section
variable {P:Program} {G G0:Nat→Option (List DV)} {J J':Nat→Prop} {w w':World} {ι ι':Nat→Nat→Option Nat} {obj obj':Nat→cF}
theorem aI.less (S:aI G J w ι obj) (hG:∀ g row,G0 g=some row→G g=some row):aI G0 J w ι obj:=⟨S.rep,S.inj,S.sn,S.jcell,fun g row h=>S.xV g row (hG g row h)⟩
theorem bg.more {r:LV} {v:Value} (S:aI G J w ι obj) (h:bg G0 obj obj' J ι w r v w'):bg G obj obj' J ι w r v w':=by
 obtain ⟨J',ι',S',R,E⟩:=h
 refine ⟨J',ι',⟨S'.rep,S'.inj,S'.sn,S'.jcell,fun g row hg=>?_⟩,R,E⟩
 obtain ⟨h1,h2,t,h3⟩:=S.xV g row hg
 exact ⟨E.ev.iB g h1,h2.ev S E.ev h1,t,by rw [E.ev.shape g (S.Ez g h1)]; exact h3⟩
theorem bw.up {f:Nat} {args:List LV} {af aA:List aH} {r:LV} (h:bw P G0 f args af r aA) (hG:∀ g row,G0 g=some row→G g=some row):bw P G f args af r aA:=by
 refine ⟨h.1,fun J ι w vs S hargs=>(h.2 J ι w vs (S.less hG) hargs).mono fun e w' hr=>?_⟩
 obtain ⟨v,he,hA⟩:=hr
 exact ⟨v,he,bg.more S hA⟩
theorem bg.Sk {r:LV} {v:Value} (S:aI G J w ι obj) (hb:RowKit.Below w.heap.size w w') (hr:∀ J' w' ι',dm J' w' ι' r v):bg G obj obj J ι w r v w':=by
 have hsame:∀ b,b<w.heap.size→w'.heap[b]? = w.heap[b]?:=fun b h=>hb.block b h
 have hE:Ev (Own ι obj) J J ι ι w w':=⟨hb.os,hb.tape,hb.output,hb.size,fun b h _=>hsame b h,fun b h=>bJ (hsame b h),fun _ h=>h,fun _ h=>.inl h,fun _ _ _ h=>h⟩
 refine ⟨J,ι,S.still (fun b h=>hsame b (S.Ez b h)) (fun b h=>hsame b (S.nr h)) (fun b h=>bJ (hsame b (gI h))),hr _ _ _,hE,fun b h=>.inl h⟩
end
end Dv
