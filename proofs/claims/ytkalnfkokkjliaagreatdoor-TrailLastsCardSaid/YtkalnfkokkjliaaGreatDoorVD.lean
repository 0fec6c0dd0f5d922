/- part -/
import Derived.Test.YtkalnfkokkjliaaGreatDoorVC
import Derived.KernelRfl
import Derived.Below
set_option linter.all false
namespace Dv
open Go
class NC (i:I):Prop where
 h:∀ f as,i≠.call f as
instance {a} : NC (.mv a):=⟨nofun⟩
instance {a b c} : NC (.pick a b c):=⟨nofun⟩
instance {a b} : NC (.new a b):=⟨nofun⟩
instance {a b} : NC (.box a b):=⟨nofun⟩
instance {a b} : NC (.build a b):=⟨nofun⟩
instance {a b c} : NC (.Yh a b c):=⟨nofun⟩
instance {a} : NC (.ld1 a):=⟨nofun⟩
instance {a b} : NC (.Jw a b):=⟨nofun⟩
instance {a b c} : NC (.st a b c):=⟨nofun⟩
instance {a} : NC (.nD a):=⟨nofun⟩
instance {a b c} : NC (.bin a b c):=⟨nofun⟩
instance {a b c} : NC (.eqb a b c):=⟨nofun⟩
instance {a} : NC (.not a):=⟨nofun⟩
instance {a b} : NC (.cvt a b):=⟨nofun⟩
instance {a b} : NC (.iB a b):=⟨nofun⟩
instance {a b} : NC (.UQ a b):=⟨nofun⟩
instance {a b c} : NC (.UP a b c):=⟨nofun⟩
instance {a b c} : NC (.QJ a b c):=⟨nofun⟩
instance {a b c d} : NC (.ixr a b c d):=⟨nofun⟩
instance {a b c} : NC (.ix1 a b c):=⟨nofun⟩
instance {a b} : NC (.ixs a b):=⟨nofun⟩
instance {a} : NC (.len a):=⟨nofun⟩
instance {a} : NC (.lens a):=⟨nofun⟩
instance {a b c} : NC (.mkf a b c):=⟨nofun⟩
instance {a b} : NC (.ext a b):=⟨nofun⟩
instance {a b c d e} : NC (.app a b c d e):=⟨nofun⟩
instance {a b} : NC (.min a b):=⟨nofun⟩
instance {a b} : NC (.max a b):=⟨nofun⟩
instance {a b} : NC (.LJ a b):=⟨nofun⟩
instance {a b} : NC (.LI a b):=⟨nofun⟩
instance {a b c d} : NC (.eqs a b c d):=⟨nofun⟩
instance {a} : NC (.neg a):=⟨nofun⟩
instance {a b c d} : NC (.ixn a b c d):=⟨nofun⟩
instance {a b c d e} : NC (.sli a b c d e):=⟨nofun⟩
instance {a b c} : NC (.sls a b c):=⟨nofun⟩
instance {a} : NC (.more a):=⟨nofun⟩
inductive It where
 | c (code:C)
 | ops (l:List dY)
 | dB (l:List dY) (log:List iH)
 | blk (i:Nat)
 | lp (ts:List Nat) (m:Nat) (I:Nat→St→Prop) (k:Nat)
 | pn (p:St→Prop)
 | zf (p:Nat) (pre:List Nat) (l:List dY) (log:List iH)
 | yd (Y:YO)
 | bs (B:Nat)
 | rt (n:St→Prop) (x:Nat→St→Prop)
def Wy:List It→YO
 | []=>qZ
 | .yd Y::_=>Y
 | .c _::t=>Wy t
 | .ops _::t=>Wy t
 | .dB _ _::t=>Wy t
 | .blk _::t=>Wy t
 | .lp _ _ _ _::t=>Wy t
 | .pn _::t=>Wy t
 | .zf _ _ _ _::t=>Wy t
 | .rt _ _::_=>qZ
 | .bs _::t=>Wy t
def Wb:List It→Option Nat
 | []=>none
 | .bs B::_=>some B
 | .yd _::_=>none
 | .c _::t=>Wb t
 | .ops _::t=>Wb t
 | .dB _ _::t=>Wb t
 | .blk _::t=>Wb t
 | .lp _ _ _ _::t=>Wb t
 | .pn _::t=>Wb t
 | .zf _ _ _ _::t=>Wb t
 | .rt _ _::_=>none
section
variable (P:Program) (G:Nat→Option (List DV)) (fin:St→Prop)
mutual
def W:List It→St→Prop
 | [],s=>fin s
 | .c code::t,s=>vc P G code s ⟨W t,fun i s'=>Wx i t s',fin,Wy t,Wb t⟩
 | .ops l::t,s=>gy P G (Wy t) (fun v s'=>Wx gN t (jT v s')) l s (W t)
 | .dB l log::t,s=>eM P G (fun v s'=>Wx gN t (jT v s')) l s log (fun s' gJ=>indep gJ=true∧W t s')
 | .zf p pre l log::_,s=>pI P G p pre l s log
 | .pn _::t,s=>W t s
 | .yd _::t,s=>W t s
 | .bs _::t,s=>W t s
 | .rt n _::_,s=>n s
 | .blk _::t,s=>W t s
 | .lp ts m I k::t,s=>∃ j,j<k∧∃ s3,I j s3∧IU G (IE (Wb t) m) s s3
def Wx (i:Nat):List It→St→Prop
 | [],_=>False
 | .c _::t,s=>Wx i t s
 | .ops _::t,s=>Wx i t s
 | .dB _ _::t,s=>Wx i t s
 | .blk j::t,s=>if i=j then W t s else Wx i t s
 | .lp _ _ _ _::t,s=>Wx i t s
 | .pn p::t,s=>if i=gN then p s else Wx i t s
 | .zf _ _ _ _::t,s=>Wx i t s
 | .yd _::t,s=>Wx i t s
 | .bs _::t,s=>Wx i t s
 | .rt _ x::_,s=>x i s
end
end
section
variable (P:Program) (G:Nat→Option (List DV)) (fin:St→Prop)
def WE (o:Option eV) (d:Option Nat) (os:List dY) (t:List It) (env:List (Nat×LV)) (af:List (Option aC)):Prop:=match o with
 | some e=>W P G fin (.ops os::t) ⟨dU d e.r env,fH e.wr af++e.nw.map some⟩
 | none=>False
def WED (o:Option eV) (d:Option Nat) (pre:List Nat) (os:List dY) (log:List iH) (t:List It) (env:List (Nat×LV)) (af:List (Option aC)):Prop:=match o with
 | some e=>W P G fin (.dB os (log++[⟨pre,e.rd,(e.owned af.length).map (·.1)⟩])::t) ⟨dU d e.r env,fH e.wr af++e.nw.map some⟩
 | none=>False
def WG (v:LV) (want:Bool) (d:Option Nat) (i:I) (pre:List Nat) (os:List dY) (t:List It) (env:List (Nat×LV)) (af:List (Option aC)):Prop:=match v with
 | .d (.val (.bool b))=>if b=want then W P G fin (.ops (⟨d,i,none,pre⟩::os)::t) ⟨env,af⟩ else W P G fin (.ops os::t) ⟨dU d .undef env,af⟩
 | .d (.val (.tuple _))=>W P G fin (.ops os::t) ⟨dU d .undef env,af⟩
 | _=>False
def Kn (v:LV) (want:Bool) (d:Option Nat) (i:I) (pre:List Nat) (os:List dY) (log:List iH) (t:List It) (env:List (Nat×LV)) (af:List (Option aC)):Prop:=match v with
 | .d (.val (.bool b))=>if b=want then W P G fin (.dB (⟨d,i,none,pre⟩::os) log::t) ⟨env,af⟩ else W P G fin (.dB os (log++[⟨pre,[],[]⟩])::t) ⟨dU d .undef env,af⟩
 | .d (.val (.tuple _))=>W P G fin (.dB os (log++[⟨pre,[],[]⟩])::t) ⟨dU d .undef env,af⟩
 | _=>False
def WC (v:LV) (a b:C) (t:List It) (env:List (Nat×LV)) (af:List (Option aC)):Prop:=match v with
 | .d (.val (.bool x))=>if x=true then W P G fin (.c a::t) ⟨env,af⟩ else W P G fin (.c b::t) ⟨env,af⟩
 | .dM=>W P G fin (.c a::t) ⟨env,af⟩∧W P G fin (.c b::t) ⟨env,af⟩
 | _=>False
end
section
variable {P:Program} {G:Nat→Option (List DV)} {fin:St→Prop} {t:List It} {s:St} {env:List (Nat×LV)} {af:List (Option aC)} {os:List dY} {log:List iH}
theorem ab8:W P G fin [] s=fin s:=by simp only [W]
theorem ab5 {a b:C} : W P G fin (.c (.seq a b)::t) s=W P G fin (.c a::.c b::t) s:=by simp only [W,vc,Wx,Wy,Wb]
theorem aaf:W P G fin (.c .skip::t) s=W P G fin t s:=by simp only [W,vc]
theorem ab6:W P G fin (.c .ret::t) s=fin s:=by simp only [W,vc]
theorem aai {i:Nat} : W P G fin (.c (.exit i)::t) s=Wx P G fin i t s:=by simp only [W,vc]
theorem Vc {b:C} : W P G fin (.c (.scope b)::t) s=W P G fin (.c b::t) s:=by simp only [W,vc]
theorem Ve {i:Nat} {b:C} : W P G fin (.c (.block i b)::t) s=W P G fin (.c b::.blk i::t) s:=by simp only [W,vc,Wx,Wy,Wb]
theorem ab_ {i:Nat} : W P G fin (.blk i::t) s=W P G fin t s:=by simp only [W]
theorem ab7 {l:List dY} : W P G fin (.c (.qV l)::t) s=W P G fin (.ops l::t) s:=by simp only [W,vc]
theorem aag {l:List dY} : W P G fin (.c (.nq l)::t) s=W P G fin (.dB l []::t) s:=by simp only [W,vc]
theorem aal {c:bM} {a b:C} : W P G fin (.c (.cond c a b)::t) ⟨env,af⟩=WC P G fin (c.ev G (aW env)) a b t env af:=by simp only [W,vc,WC]; rfl
theorem ace {a b:C} : WC P G fin (.d (.val (.bool true))) a b t env af=W P G fin (.c a::t) ⟨env,af⟩:=by simp only [WC,if_true]
theorem acf {a b:C} : WC P G fin (.d (.val (.bool false))) a b t env af=W P G fin (.c b::t) ⟨env,af⟩:=by simp [WC]
theorem aam {a b:C} : WC P G fin .dM a b t env af=(W P G fin (.c a::t) ⟨env,af⟩∧W P G fin (.c b::t) ⟨env,af⟩):=by simp only [WC]
theorem bp {x:Bool} {a b:C} (h1:x=true→W P G fin (.c a::t) ⟨env,af⟩) (h2:x=false→W P G fin (.c b::t) ⟨env,af⟩):WC P G fin (.d (.val (.bool x))) a b t env af:=by
 cases x
 ·rw [acf]; exact h2 rfl
 ·rw [ace]; exact h1 rfl
theorem adh {ts:List Nat} {m:Nat} {I:Nat→St→Prop} {k:Nat} : W P G fin (.lp ts m I k::t) s=(∃ j,j<k∧∃ s3,I j s3∧IU G (IE (Wb t) m) s s3):=by simp only [W]
theorem ade {i:Nat} {x:C} : Wx P G fin i (.c x::t) s=Wx P G fin i t s:=by simp only [Wx]
theorem aad {i:Nat} {x:List dY} : Wx P G fin i (.ops x::t) s=Wx P G fin i t s:=by simp only [Wx]
theorem ab3 {i:Nat} {ts:List Nat} {m:Nat} {I:Nat→St→Prop} {k:Nat} : Wx P G fin i (.lp ts m I k::t) s=Wx P G fin i t s:=by simp only [Wx]
theorem adi {B:Nat} : W P G fin (.bs B::t) s=W P G fin t s:=by simp only [W]
theorem ab4 {i B:Nat} : Wx P G fin i (.bs B::t) s=Wx P G fin i t s:=by simp only [Wx]
theorem aae {i j:Nat} : Wx P G fin i (.blk j::t) s=if i=j then W P G fin t s else Wx P G fin i t s:=by simp only [Wx]
theorem aah {b:C} (ts:List Nat) (ad:List Ad) (I:Nat→St→Prop) (N:Nat) (h0:I N { (c_ ad s) with env:=ts.map fun t=>(t,(c_ ad s).get t) }) (h:∀ k s',I k s'→W P G fin (.c b::.lp ts (c_ ad s).af.length I k::t) s'):W P G fin (.c (.loop b)::t) s:=by
 simp only [W,vc]
 refine ⟨ts,I,N,ad,h0,fun k s' hk=>?_⟩
 have:=h k s' hk
 simp only [W,Wx,Wy,Wb] at this
 exact this
def QH {α:Type} (Inv:α→Prop) (μ:α→Nat) (S:α→St):Nat→St→Prop:=fun m s=>∃ a,Inv a∧m=μ a∧s=S a
theorem aR {α:Type} {b:C} (ts:List Nat) (ad:List Ad) (Inv:α→Prop) (μ:α→Nat) (S:α→St) (a0:α) (hS:({ (c_ ad s) with env:=ts.map fun t=>(t,(c_ ad s).get t) } : St)=S a0) (h0:Inv a0)
  (h:∀ a,Inv a→W P G fin (.c b::.lp ts (c_ ad s).af.length (QH Inv μ S) (μ a)::t) (S a)):W P G fin (.c (.loop b)::t) s:=
 aah ts ad (QH Inv μ S) (μ a0) ⟨a0,h0,rfl,hS⟩ (fun k s' ⟨a,h1,h2,h3⟩=>by subst h2; subst h3; exact h a h1)
theorem bg {α:Type} {ts:List Nat} {m:Nat} {Inv:α→Prop} {μ:α→Nat} {S:α→St} {k:Nat} (a':α) (hok:s.CZ ts m) (hS:s.keep ts m=S a') (hI:Inv a') (hμ:μ a'<k):W P G fin (.lp ts m (QH Inv μ S) k::t) s:=by
 rw [adh]; exact ⟨μ a',hμ,_,⟨a',hI,rfl,rfl⟩,hS ▸ IU.le (U5 _ _) (IU.keep hok)⟩
theorem MQ:W P G fin (.ops []::t) s=W P G fin t s:=by simp only [W,gy]
theorem Qy (h:(log.all fun e=>e.wr.isEmpty)=true):W P G fin (.dB [] log::t) s=W P G fin t s:=by
 simp only [W,eM,indep,h,Bool.true_or]; exact propext ⟨fun h=>h.2,fun h=>⟨trivial,h⟩⟩
theorem an (h:indep log=true) (hk:W P G fin t s):W P G fin (.dB [] log::t) s:=by simp only [W,eM]; exact ⟨h,hk⟩
theorem Vd {d:Option Nat} {i:I} {g:Nat} {want:Bool} {pre:List Nat} : W P G fin (.ops (⟨d,i,some (g,want),pre⟩::os)::t) ⟨env,af⟩=WG P G fin (aW env g) want d i pre os t env af:=by simp only [W,gy,yj,ym,WG]; rfl
theorem Qz {d:Option Nat} {i:I} {g:Nat} {want:Bool} {pre:List Nat} : W P G fin (.dB (⟨d,i,some (g,want),pre⟩::os) log::t) ⟨env,af⟩=Kn P G fin (aW env g) want d i pre os log t env af:=by simp only [W,eM,yj,ym,Kn]; rfl
theorem Yj {d:Option Nat} {i:I} {pre:List Nat} : WG P G fin (.d (.val (.bool true))) true d i pre os t env af=W P G fin (.ops (⟨d,i,none,pre⟩::os)::t) ⟨env,af⟩:=by simp only [WG,if_true]
theorem Ym {d:Option Nat} {i:I} {pre:List Nat} : WG P G fin (.d (.val (.bool false))) false d i pre os t env af=W P G fin (.ops (⟨d,i,none,pre⟩::os)::t) ⟨env,af⟩:=by simp only [WG,if_true]
theorem Yk {d:Option Nat} {i:I} {pre:List Nat} : WG P G fin (.d (.val (.bool true))) false d i pre os t env af=W P G fin (.ops os::t) ⟨dU d .undef env,af⟩:=by simp [WG]
theorem Yl {d:Option Nat} {i:I} {pre:List Nat} : WG P G fin (.d (.val (.bool false))) true d i pre os t env af=W P G fin (.ops os::t) ⟨dU d .undef env,af⟩:=by simp [WG]
theorem adj {d:Option Nat} {i:I} {pre:List Nat} {want:Bool} {v:Array Value} : WG P G fin (.d (.val (.tuple v))) want d i pre os t env af=W P G fin (.ops os::t) ⟨dU d .undef env,af⟩:=by simp only [WG]
theorem di {x want:Bool} {d:Option Nat} {i:I} {pre:List Nat} (h1:x=want→W P G fin (.ops (⟨d,i,none,pre⟩::os)::t) ⟨env,af⟩) (h2:x=(!want)→W P G fin (.ops os::t) ⟨dU d .undef env,af⟩):WG P G fin (.d (.val (.bool x))) want d i pre os t env af:=by
 cases x <;> cases want
 ·rw [Ym]; exact h1 rfl
 ·rw [Yl]; exact h2 rfl
 ·rw [Yk]; exact h2 rfl
 ·rw [Yj]; exact h1 rfl
theorem QA {d:Option Nat} {i:I} {pre:List Nat} : Kn P G fin (.d (.val (.bool true))) true d i pre os log t env af=W P G fin (.dB (⟨d,i,none,pre⟩::os) log::t) ⟨env,af⟩:=by simp only [Kn,if_true]
theorem QE {d:Option Nat} {i:I} {pre:List Nat} : Kn P G fin (.d (.val (.bool false))) false d i pre os log t env af=W P G fin (.dB (⟨d,i,none,pre⟩::os) log::t) ⟨env,af⟩:=by simp only [Kn,if_true]
theorem QB {d:Option Nat} {i:I} {pre:List Nat} : Kn P G fin (.d (.val (.bool true))) false d i pre os log t env af=W P G fin (.dB os (log++[⟨pre,[],[]⟩])::t) ⟨dU d .undef env,af⟩:=by simp [Kn]
theorem QC {d:Option Nat} {i:I} {pre:List Nat} : Kn P G fin (.d (.val (.bool false))) true d i pre os log t env af=W P G fin (.dB os (log++[⟨pre,[],[]⟩])::t) ⟨dU d .undef env,af⟩:=by simp [Kn]
theorem acd {d:Option Nat} {i:I} {pre:List Nat} {want:Bool} {v:Array Value} : Kn P G fin (.d (.val (.tuple v))) want d i pre os log t env af=W P G fin (.dB os (log++[⟨pre,[],[]⟩])::t) ⟨dU d .undef env,af⟩:=by simp only [Kn]
theorem gM {x want:Bool} {d:Option Nat} {i:I} {pre:List Nat} (h1:x=want→W P G fin (.dB (⟨d,i,none,pre⟩::os) log::t) ⟨env,af⟩) (h2:x=(!want)→W P G fin (.dB os (log++[⟨pre,[],[]⟩])::t) ⟨dU d .undef env,af⟩):Kn P G fin (.d (.val (.bool x))) want d i pre os log t env af:=by
 cases x <;> cases want
 ·rw [QE]; exact h1 rfl
 ·rw [QC]; exact h2 rfl
 ·rw [QB]; exact h2 rfl
 ·rw [QA]; exact h1 rfl
theorem ek {x want:Bool} {d:Option Nat} {i:I} {pre:List Nat} (h1:x=(!want)→W P G fin (.ops (⟨d,i,none,pre⟩::os)::t) ⟨env,af⟩) (h2:x=want→W P G fin (.ops os::t) ⟨dU d .undef env,af⟩):WG P G fin (.d (.val (.bool (!x)))) want d i pre os t env af:=
 di (fun h=>h1 (by cases x <;> cases want <;> simp_all)) (fun h=>h2 (by cases x <;> cases want <;> simp_all))
theorem AL {x want:Bool} {d:Option Nat} {i:I} {pre:List Nat} (h1:x=(!want)→W P G fin (.dB (⟨d,i,none,pre⟩::os) log::t) ⟨env,af⟩) (h2:x=want→W P G fin (.dB os (log++[⟨pre,[],[]⟩])::t) ⟨dU d .undef env,af⟩):Kn P G fin (.d (.val (.bool (!x)))) want d i pre os log t env af:=
 gM (fun h=>h1 (by cases x <;> cases want <;> simp_all)) (fun h=>h2 (by cases x <;> cases want <;> simp_all))
theorem kU {x:Bool} {a b:C} (h1:x=false→W P G fin (.c a::t) ⟨env,af⟩) (h2:x=true→W P G fin (.c b::t) ⟨env,af⟩):WC P G fin (.d (.val (.bool (!x)))) a b t env af:=
 bp (fun h=>h1 (by simpa using h)) (fun h=>h2 (by simpa using h))
theorem Vf {d:Option Nat} {e:eV} : WE P G fin (some e) d os t env af=W P G fin (.ops os::t) ⟨dU d e.r env,fH e.wr af++e.nw.map some⟩:=by simp only [WE]
theorem QF {d:Option Nat} {e:eV} {pre:List Nat} : WED P G fin (some e) d pre os log t env af=W P G fin (.dB os (log++[⟨pre,e.rd,(e.owned af.length).map (·.1)⟩])::t) ⟨dU d e.r env,fH e.wr af++e.nw.map some⟩:=by simp only [WED]
theorem ab9 {d:Option Nat} {i:I} {pre:List Nat} (hi:∀ f as,i≠.call f as):W P G fin (.ops (⟨d,i,none,pre⟩::os)::t) ⟨env,af⟩=WE P G fin (cE G (aW env) (au af) af.length i) d os t env af:=by
 simp only [W,gy,yj,ym,WE]
 cases i <;> first | rfl | exact absurd rfl (hi _ _)
theorem aak {d:Option Nat} {i:I} {pre:List Nat} (hi:∀ f as,i≠.call f as):W P G fin (.dB (⟨d,i,none,pre⟩::os) log::t) ⟨env,af⟩=WED P G fin (cE G (aW env) (au af) af.length i) d pre os log t env af:=by
 simp only [W,eM,yj,ym,WED]
 cases i <;> first | rfl | exact absurd rfl (hi _ _)
theorem aaj {d:Option Nat} {i:I} [hi:NC i] {pre:List Nat} : W P G fin (.ops (⟨d,i,none,pre⟩::os)::t) ⟨env,af⟩=WE P G fin (cE G (aW env) (au af) af.length i) d os t env af:=ab9 hi.h
theorem Vg {d:Option Nat} {i:I} [hi:NC i] {pre:List Nat} : W P G fin (.dB (⟨d,i,none,pre⟩::os) log::t) ⟨env,af⟩=WED P G fin (cE G (aW env) (au af) af.length i) d pre os log t env af:=aak hi.h
end
section
variable {P:Program} {G:Nat→Option (List DV)}
def u6 (Y:YO):Prop:=∀ a o y K K',(∀ y b o,K y b o→K' y b o)→Y a o y K→Y a o y K'
theorem u6.no:u6 qZ:=fun _ _ _ _ _ _ h=>h.elim
theorem DZ {Y:YO} (hm:u6 Y) {X X':Value→eV→St→Prop} {o:dY} {s:St} {K K':St→eV→Prop} (hX:∀ v e s,X v e s→X' v e s) (h:∀ s e,K s e→K' s e) (hv:ym P G Y X o s K):ym P G Y X' o s K':=by
 unfold ym at hv ⊢
 split at hv
 ·split at hv
  ·rcases hv with ⟨e,h1,h2⟩ | ⟨p,e,h1,h2⟩
   ·exact .inl ⟨e,h1,h _ _ h2⟩
   ·exact .inr ⟨p,e,h1,hX _ _ _ h2⟩
  ·unfold vcY at hv ⊢
   split at hv
   ·exact hm _ _ _ _ _ (fun _ _ _ hk=>h _ _ hk) hv
   ·exact hv
 ·split at hv
  ·exact h _ _ hv
  ·exact hv
theorem DY {Y:YO} (hm:u6 Y) {X X':Value→eV→St→Prop} {o:dY} {s:St} {K K':St→eV→Prop} {K0 K0':St→Prop} (hX:∀ v e s,X v e s→X' v e s) (h:∀ s e,K s e→K' s e) (h0:∀ s,K0 s→K0' s) (hv:yj P G Y X o s K K0):yj P G Y X' o s K' K0':=by
 unfold yj at hv ⊢
 split at hv
 ·exact DZ hm hX h hv
 ·split at hv
  ·split at hv
   ·rename_i hb; rw [if_pos hb]; exact DZ hm hX h hv
   ·rename_i hb; rw [if_neg hb]; exact h0 _ hv
  ·exact h0 _ hv
  ·exact hv
theorem sy {Y:YO} (hm:u6 Y) {X X':Value→St→Prop} {K K':St→Prop} (hX:∀ v s,X v s→X' v s) (h:∀ s,K s→K' s):∀ (os:List dY) (s:St),gy P G Y X os s K→gy P G Y X' os s K'
 | [],s,hv=>h s hv
 | o::os,s,hv=>by
   simp only [gy] at hv ⊢
   exact DY hm (fun v _ s hk=>hX v s hk) (fun s e hk=>sy hm hX h os s hk) (fun s hk=>sy hm hX h os s hk) hv
theorem pJ {X X':Value→St→Prop} {K K':St→List iH→Prop} (hX:∀ v s,X v s→X' v s) (h:∀ s l,K s l→K' s l):∀ (os:List dY) (s:St) (log:List iH),eM P G X os s log K→eM P G X' os s log K'
 | [],s,log,hv=>h s log hv
 | o::os,s,log,hv=>by
   simp only [eM] at hv ⊢
   exact DY u6.no (fun v _ s hk=>⟨hX v _ hk.1,hk.2⟩) (fun s e hk=>pJ hX h os s _ hk) (fun s hk=>pJ hX h os s _ hk) hv
theorem gY:∀ (c:C) (s:St) (K K':wo),K'.b=K.b→K'.y=K.y→u6 K.y→(∀ s,K.n s→K'.n s)→(∀ i s,K.x i s→K'.x i s)→(∀ s,K.r s→K'.r s)→vc P G c s K→vc P G c s K'
 | .skip,s,K,K',hb',hy,hm,hn,hx,hr,h=>hn s h
 | .qV ops,s,K,K',hb',hy,hm,hn,hx,hr,h=>(by simp only [vc] at h ⊢; rw [hy]; exact sy hm (fun v s h=>hx _ _ h) hn ops s h)
 | .nq ops,s,K,K',hb',hy,hm,hn,hx,hr,h=>pJ (fun v s h=>hx _ _ h) (fun s l ⟨h1,h2⟩=>⟨h1,hn s h2⟩) ops s [] h
 | .seq a b,s,K,K',hb',hy,hm,hn,hx,hr,h=>gY a s { K with n:=fun s'=>vc P G b s' K } { K' with n:=fun s'=>vc P G b s' K' } hb' hy hm (fun s h=>gY b s K K' hb' hy hm hn hx hr h) hx hr h
 | .cond c a b,s,K,K',hb',hy,hm,hn,hx,hr,h=>by
   simp only [vc] at h ⊢
   split at h
   ·split at h
    ·rename_i hb; rw [if_pos hb]; exact gY a s K K' hb' hy hm hn hx hr h
    ·rename_i hb; rw [if_neg hb]; exact gY b s K K' hb' hy hm hn hx hr h
   ·exact ⟨gY a s K K' hb' hy hm hn hx hr h.1,gY b s K K' hb' hy hm hn hx hr h.2⟩
   ·exact h
 | .block i b,s,K,K',hb',hy,hm,hn,hx,hr,h=>gY b s { K with x:=fun j s'=>if j=i then K.n s' else K.x j s' } { K' with x:=fun j s'=>if j=i then K'.n s' else K'.x j s' } hb' hy hm hn (fun j s h=>by
   dsimp only at h ⊢
   split at h
   ·rename_i hb; rw [if_pos hb]; exact hn s h
   ·rename_i hb; rw [if_neg hb]; exact hx j s h) hr h
 | .loop b,s,K,K',hb',hy,hm,hn,hx,hr,h=>by
   simp only [vc] at h ⊢
   obtain ⟨ts,I,N,ad,h0,h1⟩:=h
   rw [hb']
   exact ⟨ts,I,N,ad,h0,fun k s' hk=>gY b s' { K with n:=fun s''=>∃ j,j<k∧∃ s3,I j s3∧IU G (IE K.b (c_ ad s).af.length) s'' s3 } { K' with n:=fun s''=>∃ j,j<k∧∃ s3,I j s3∧IU G (IE K.b (c_ ad s).af.length) s'' s3,b:=K.b } rfl hy hm (fun s h=>h) hx hr (h1 k s' hk)⟩
 | .exit i,s,K,K',hb',hy,hm,hn,hx,hr,h=>hx i s h
 | .ret,s,K,K',hb',hy,hm,hn,hx,hr,h=>hr s h
 | .scope b,s,K,K',hb',hy,hm,hn,hx,hr,h=>gY b s K K' hb' hy hm hn hx hr h
 | .YA g ps a b,s,K,K',hb',hy,hm,hn,hx,hr,h=>by
   simp only [vc] at h ⊢
   split at h
   ·obtain ⟨jm,R,h1,h2⟩:=h
    refine ⟨jm,R,h1,fun yv ay hR=>?_⟩
    rcases h2 yv ay hR with ⟨h3,h4⟩ | ⟨h3,h4⟩
    ·exact .inl ⟨h3,hn _ h4⟩
    ·refine .inr ⟨h3,?_⟩
     cases jm with
     | none=>exact hr _ h4
     | some i=>exact ⟨h4.1,hx _ _ h4.2⟩
   ·exact h
theorem nS (c:C) (s:St) (K K':wo) (hn:∀ s,K.n s→K'.n s) (hx:∀ i s,K.x i s→K'.x i s) (hr:∀ s,K.r s→K'.r s) (h:vc P G c s K) (h1:K.y=qZ:=by rfl) (h2:K'.y=qZ:=by rfl) (h3:K'.b=K.b:=by rfl):vc P G c s K':=
 gY c s K K' h3 (h2.trans h1.symm) (h1 ▸ u6.no) hn hx hr h
theorem pX.mono {jm:Option Nat} {ps:List Nat} {a b:C} {s:St} : u6 (pX P G jm ps a b s):=by
 intro as o y K K' hK h
 obtain ⟨h1,h2,h3,h4⟩:=h
 refine ⟨h1,h2,h3,?_⟩
 have acz:∀ (s:St) (K1 K2:wo),vc P G a s K1→K1.y=qZ→K2.y=qZ→K2.b=K1.b→(∀ s,K1.n s→K2.n s)→(∀ i s,K1.x i s→K2.x i s)→(∀ s,K1.r s→K2.r s)→vc P G a s K2:=fun s K1 K2 a4 e1 e2 e3 a1 a2 a3=>nS a s K1 K2 a1 a2 a3 a4 e1 e2 e3
 refine acz _ _ _ h4 rfl rfl rfl ?_ (fun _ _ h=>h) (fun _ h=>h)
 intro s1 h5
 dsimp only at h5 ⊢
 have key:∀ (K1 K2:wo),vc P G b s1 K1→K1.y=qZ→K2.y=qZ→K2.b=K1.b→(∀ s,K1.n s→K2.n s)→(∀ i s,K1.x i s→K2.x i s)→(∀ s,K1.r s→K2.r s)→vc P G b s1 K2:=fun K1 K2 a4 e1 e2 e3 a1 a2 a3=>nS b s1 K1 K2 a1 a2 a3 a4 e1 e2 e3
 refine key _ _ h5 rfl rfl rfl ?_ ?_ ?_
 ·exact fun s' h6=>hK _ _ _ h6
 ·exact fun i s' h6=>⟨h6.1,h6.2.1,hK _ _ _ h6.2.2⟩
 ·exact fun s' h6=>⟨h6.1,hK _ _ _ h6.2⟩
end
section
variable {P:Program} {G:Nat→Option (List DV)} {fin:St→Prop} {t:List It} {env:List (Nat×LV)} {af:List (Option aC)} {os:List dY} {log:List iH}
theorem wk {d:Option Nat} {f:bM} {as:List bM} {pre:List Nat} {k:Nat} {fs cs:List LV} (e:eV) (hc:callee (f.ev G (aW env))=some (k,fs,cs)) (h:cm P G k (fs++as.map (·.ev G (aW env))++cs) (au af) af.length e)
  (hk:W P G fin (.ops os::t) ⟨dU d e.r env,fH e.wr af++e.nw.map some⟩):W P G fin (.ops (⟨d,.call f as,none,pre⟩::os)::t) ⟨env,af⟩:=by
 simp only [W,gy,yj,ym]
 have zU:callee (f.ev G (St.get ⟨env,af⟩))=some (k,fs,cs):=hc
 rw [zU]
 simp only [W] at hk
 exact .inl ⟨e,h,hk⟩
theorem oP {d:Option Nat} {f:bM} {as:List bM} {pre:List Nat} {k:Nat} {fs cs:List LV} (e:eV) (hc:callee (f.ev G (aW env))=some (k,fs,cs)) (h:cm P G k (fs++as.map (·.ev G (aW env))++cs) (au af) af.length e)
  (hk:W P G fin (.dB os (log++[⟨pre,e.rd,(e.owned af.length).map (·.1)⟩])::t) ⟨dU d e.r env,fH e.wr af++e.nw.map some⟩):W P G fin (.dB (⟨d,.call f as,none,pre⟩::os) log::t) ⟨env,af⟩:=by
 simp only [W,eM,yj,ym]
 have zU:callee (f.ev G (St.get ⟨env,af⟩))=some (k,fs,cs):=hc
 rw [zU]
 simp only [W] at hk
 exact .inl ⟨e,h,hk⟩
theorem cm.pure {k:Nat} {args aS:List LV} {obj:Nat→b_} {base:Nat} {r:LV} (Z:List Nat) (hT:bh P G k aS [] r []) (ha:ag obj [] Z args aS) (hZ:∀ z∈Z,ZR true (obj z)) (hr:oU r=true) :
  cm P G k args obj base { r:=rn (bu [] base) r,rd:=Z,wr:=[],nw:=[] }:=
 ⟨⟨[],Z,true,aS,[],r,[],(fun _=>true),(fun _ _ _ h=>by cases h),List.nodup_nil,(fun _ _ h=>by cases h),hZ,rfl,(fun i o h=>by simp at h),rfl,ha,(fun _=>⟨hr,rfl,rfl⟩),Nat.le_refl _,hT,rfl⟩⟩
theorem cm.data {k:Nat} {args aS:List LV} {obj:Nat→b_} {base:Nat} {r:LV} {aq:List aC} (hT:bh P G k aS [] r aq) (ha:ag obj [] [] args aS) :
  cm P G k args obj base { r:=rn (bu [] base) r,rd:=[],wr:=[],nw:=aq.map (ff (bu [] base)) }:=
 ⟨⟨[],[],false,aS,[],r,aq,(fun _=>true),(fun _ _ _ h=>by cases h),List.nodup_nil,(fun _ h=>by cases h),(fun _ h=>by cases h),rfl,(fun i o h=>by simp at h),rfl,ha,(fun h=>by cases h),Nat.zero_le _,hT,rfl⟩⟩
def Gg (rv:List RV) (r:LV) (s:St):Prop:=(match yf.of s rv with | some vs=>some (aP vs) | none=>none)=some r
theorem cm.hand {k:Nat} {args aS:List LV} {obj:Nat→b_} {base:Nat} {r:LV} {aH aq:List aC} (ρ:List Nat) (hT:bh P G k aS aH r aq) (ha:ag obj ρ [] args aS) (hnd:ρ.Nodup) (ho:ρ.map obj=aH.map (fun ob=>b_.live (ff (bu ρ base) ob))) (hid:aH.all (dV ρ.length)=true) (hle:aH.length≤aq.length) :
  cm P G k args obj base { r:=rn (bu ρ base) r,rd:=ρ,wr:=ρ.zip (aq.map (ff (bu ρ base))),nw:=(aq.drop ρ.length).map (ff (bu ρ base)) }:=
 ⟨⟨ρ,[],false,aS,aH,r,aq,(fun _=>true),(fun _ _ _ h=>by cases h),hnd,(fun _ h=>by cases h),(fun _ h=>by cases h),by have:=congrArg List.length ho; simpa using this.symm,(fun i o hi=>by
   have h1:(ρ.map obj)[i]? = some (obj o):=by rw [List.getElem?_map,hi]; rfl
   rw [ho,List.getElem?_map] at h1
   cases hf:aH[i]? with
   | none=>rw [hf] at h1; cases h1
   | some ob=>rw [hf] at h1; simp at h1; exact ⟨ob,rfl,h1.symm⟩),hid,ha,(fun h=>by cases h),hle,hT,by rw [List.filter_eq_self.2 (fun _ _=>rfl)]; simp [gh]⟩⟩
theorem cm.kK {k:Nat} {args aS:List LV} {obj:Nat→b_} {base:Nat} {r:LV} (Z:List Nat) (hT:bh P G k aS [] r []) (ha:ag obj [] Z args aS) (hZ:∀ z∈Z,ZR false (obj z)) :
  cm P G k args obj base { r:=rn (bu [] base) r,rd:=Z,wr:=gh obj Z,nw:=[] }:=
 ⟨⟨[],Z,false,aS,[],r,[],(fun _=>true),(fun _ _ _ h=>by cases h),List.nodup_nil,(fun _ _ h=>by cases h),hZ,rfl,(fun i o h=>by simp at h),rfl,ha,(fun h=>by cases h),Nat.le_refl _,hT,rfl⟩⟩
theorem xx {rv:List RV} {r:LV} {s:St} {vs:List LV} (h:yf.of s rv=some vs) (hr:ah s.obj [] [] (aP vs) r):vh rv 0 r [] s:=
 ⟨[],vs,[],[],h,rfl,List.nodup_nil,(fun _ h=>by cases h),(fun _ h=>by cases h),rfl,(fun i o h=>by simp at h),rfl,hr⟩
theorem dZ {rv:List RV} {r:LV} {s:St} {vs:List LV} (Z:List Nat) (h:yf.of s rv=some vs) (hZ:∀ z∈Z,∃ et e rows,s.obj z=.live (.dat et e rows)∨s.obj z=.live (.kK et e rows)) (hr:ah s.obj [] Z (aP vs) r):vh rv 0 r [] s:=
 ⟨[],vs,[],Z,h,rfl,List.nodup_nil,(fun _ _ h=>by cases h),hZ,rfl,(fun i o h=>by simp at h),rfl,hr⟩
theorem sx {rv:List RV} {s:St} {o et e n k lo:Nat} {rows:List (List DV)} (ad:List Ad) (h:yf.of (c_ ad s) rv=some [.sl o n e lo k]) (ho:(c_ ad s).obj o=.live (.dat et e rows)):vh rv 0 (.sl 0 n e lo k) [.dat et e rows] s:=
 ⟨ad,_,[o],[],h,rfl,(by simp),(fun _ h=>by cases h),(fun _ h=>by cases h),rfl,(fun i o' h=>by
  cases i with
  | zero=>simp at h; subst h; exact ⟨_,rfl,ho⟩
  | succ i=>simp at h),rfl,by simp [aP,ah]⟩
theorem dm {rv:List RV} {r:LV} {s:St} {vs:List LV} {k:Nat} {aq:List aC} (ad:List Ad) (ρ Z:List Nat) (h:yf.of (c_ ad s) rv=some vs) (hk:ρ.take k=List.range k) (hnd:ρ.Nodup) (hz:∀ z∈Z,z∉ρ) (hZ:∀ z∈Z,∃ et e rows,(c_ ad s).obj z=.live (.dat et e rows)∨(c_ ad s).obj z=.live (.kK et e rows))
  (ho:ρ.map (c_ ad s).obj=aq.map (fun ob=>b_.live (ff (bu ρ 0) ob))) (hid:aq.all (dV ρ.length)=true) (hr:ah (c_ ad s).obj ρ Z (aP vs) r):vh rv k r aq s:=
 ⟨ad,vs,ρ,Z,h,hk,hnd,hz,hZ,by have:=congrArg List.length ho; simpa using this.symm,(fun i o hi=>by
  have h1:(ρ.map (c_ ad s).obj)[i]? = some ((c_ ad s).obj o):=by rw [List.getElem?_map,hi]; rfl
  rw [ho,List.getElem?_map] at h1
  cases hf:aq[i]? with
  | none=>rw [hf] at h1; cases h1
  | some ob=>rw [hf] at h1; simp at h1; exact ⟨ob,rfl,h1.symm⟩),hid,hr⟩
theorem get_map {α β:Type} {f:α→β} {l:List α} {k:Nat} (h:k<l.length):(l.map f)[k]? = some (f l[k]):=by simp [h]
theorem aK {α β:Type} {f:α→β} {l:List α} {k:Nat} (z:α) (h:k<l.length):(l.map f)[k]? = some (f (l.getD k z)):=by simp [h,List.getD]
theorem eA {k n:Nat} (h:decide ((k:Int)<(n:Int))=true):k<n:=by simpa using h
theorem eC {k n:Nat} (h:decide ((k:Int)<(n:Int))=false) (hk:k≤n):k=n:=by
 have:¬ (k<n):=by simpa using h
 omega
@[reducible] def i64 (n:Int):DV:=.val (.int .i64 n)
@[reducible] def bl (b:Bool):DV:=.val (.bool b)
theorem aL {n:Int} (h1:-9223372036854775808≤n) (h2:n≤9223372036854775807):IntKind.i64.wrap n=n:=by
 simp [IntKind.wrap,IntKind.bits,IntKind.signed]; omega
theorem aG {k:Nat} (h:k<9223372036854775807):IntKind.i64.wrap ((k:Int)+1)=((k+1:Nat):Int):=by
 rw [aL (by omega) (by omega)]; rfl
theorem cA {f:Nat} {fn:Func} {ir:Nat×C×List RV} {args:List LV} {aH aq:List aC} {r:LV} (hf:P.funcs[f]? = some fn) (hn:(fn.name != "runtime.NumGoroutine")=true) (gR:aj P fn=some ir) (hl:Nat.ble args.length ir.1=true)
  (h:W P G (vh ir.2.2 aH.length r aq) [.c ir.2.1] ⟨fm 0 args,aH.map some⟩):bh P G f args aH r aq:=by
 refine yx hf (by simpa using hn) (N:=ir.1) (c:=ir.2.1) (rv:=ir.2.2) gR (Nat.le_of_ble_eq_true hl) ?_
 simp only [W,Wx] at h
 exact h
mutual
theorem kG (π:Nat→Nat):∀ (x:LV),eB 0 x=true→rn π x=x
 | .top,_=>rfl
 | .d x,_=>rfl
 | .dM,_=>rfl
 | .ptr ..,h=>by simp [eB] at h
 | .rp ..,h=>by simp [eB] at h
 | .ip ..,_=>rfl
 | .sl ..,h=>by simp [eB] at h
 | .fn f a b,h=>by
   simp only [eB,Bool.and_eq_true] at h
   simp only [rn,j4 π a h.1,j4 π b h.2]
 | .agg cs,h=>by simp only [eB] at h; simp only [rn,j4 π cs h]
 | .dH cs,h=>by simp only [eB] at h; simp only [rn,j4 π cs h]
 | .fL t x,h=>by simp only [eB] at h; simp only [rn,kG π x h]
 | .yl ..,h=>by simp [eB] at h
 | .mr ..,h=>by simp [eB] at h
theorem j4 (π:Nat→Nat):∀ (xs:List LV),eu 0 xs=true→mw π xs=xs
 | [],_=>rfl
 | x::xs,h=>by
   simp only [eu,Bool.and_eq_true] at h
   simp only [mw,kG π x h.1,j4 π xs h.2]
end
mutual
theorem qJ (obj:Nat→b_) (ρ Z:List Nat):∀ (x:LV),eB 0 x=true→ah obj ρ Z x x
 | .top,_=>by simp [ah]
 | .d x,_=>by simp [ah]
 | .dM,_=>by simp [ah]
 | .ptr ..,h=>by simp [eB] at h
 | .rp ..,h=>by simp [eB] at h
 | .ip ..,_=>by simp [ah]
 | .sl ..,h=>by simp [eB] at h
 | .fn f a b,h=>by
   simp only [eB,Bool.and_eq_true] at h
   simp only [ah]; exact ⟨trivial,gd obj ρ Z a h.1,gd obj ρ Z b h.2⟩
 | .agg cs,h=>by simp only [eB] at h; simp only [ah]; exact gd obj ρ Z cs h
 | .dH cs,h=>by simp only [eB] at h; simp only [ah]; exact gd obj ρ Z cs h
 | .fL t x,h=>by simp only [eB] at h; simp only [ah]; exact ⟨trivial,qJ obj ρ Z x h⟩
 | .yl ..,h=>by simp [eB] at h
 | .mr ..,h=>by simp [eB] at h
theorem gd (obj:Nat→b_) (ρ Z:List Nat):∀ (xs:List LV),eu 0 xs=true→ag obj ρ Z xs xs
 | [],_=>by simp [ag]
 | x::xs,h=>by
   simp only [eu,Bool.and_eq_true] at h
   simp only [ag]; exact ⟨qJ obj ρ Z x h.1,gd obj ρ Z xs h.2⟩
end
theorem ax {d:Option Nat} {f:bM} {as:List bM} {pre:List Nat} {k:Nat} {fs cs aS:List LV} {r:LV} (hT:bh P G k aS [] r []) (hc:callee (f.ev G (aW env))=some (k,fs,cs)) (ha:fs++as.map (·.ev G (aW env))++cs=aS) (hid:eu 0 aS=true) (hr:eB 0 r=true)
  (hk:W P G fin (.ops os::t) ⟨dU d r env,af⟩):W P G fin (.ops (⟨d,.call f as,none,pre⟩::os)::t) ⟨env,af⟩:=by
 refine wk _ hc (cm.data hT (by rw [ha]; exact gd _ _ _ _ hid)) ?_
 simpa [kG _ _ hr,fH] using hk
theorem aU {d:Option Nat} {f:bM} {as:List bM} {pre:List Nat} {k:Nat} {fs cs aS:List LV} {r:LV} (hT:bh P G k aS [] r []) (hc:callee (f.ev G (aW env))=some (k,fs,cs)) (ha:fs++as.map (·.ev G (aW env))++cs=aS) (hid:eu 0 aS=true) (hr:eB 0 r=true)
  (hk:W P G fin (.dB os (log++[⟨pre,[],[]⟩])::t) ⟨dU d r env,af⟩):W P G fin (.dB (⟨d,.call f as,none,pre⟩::os) log::t) ⟨env,af⟩:=by
 refine oP _ hc (cm.data hT (by rw [ha]; exact gd _ _ _ _ hid)) ?_
 simpa [kG _ _ hr,fH,eV.owned,EK] using hk
theorem ye {d:Option Nat} {f:bM} {as:List bM} {pre:List Nat} {k:Nat} {fs cs aS:List LV} {r:LV} (Z:List Nat) (hT:bh P G k aS [] r []) (hc:callee (f.ev G (aW env))=some (k,fs,cs)) (ha:ag (au af) [] Z (fs++as.map (·.ev G (aW env))++cs) aS)
  (hZ:∀ z∈Z,∃ et e rows,au af z=.live (.dat et e rows)∨au af z=.live (.kK et e rows)) (hj:oU r=true) (hr:eB 0 r=true)
  (hk:W P G fin (.ops os::t) ⟨dU d r env,af⟩):W P G fin (.ops (⟨d,.call f as,none,pre⟩::os)::t) ⟨env,af⟩:=by
 refine wk _ hc (cm.pure Z hT ha (fun z h=>.inl (hZ z h)) hj) ?_
 simpa [kG _ _ hr,fH] using hk
theorem u7 {d:Option Nat} {f:bM} {as:List bM} {pre:List Nat} {k:Nat} {fs cs aS:List LV} {r:LV} (Z:List Nat) (hT:bh P G k aS [] r []) (hc:callee (f.ev G (aW env))=some (k,fs,cs)) (ha:ag (au af) [] Z (fs++as.map (·.ev G (aW env))++cs) aS)
  (hZ:∀ z∈Z,∃ et e rows,au af z=.live (.dat et e rows)∨au af z=.live (.kK et e rows)) (hj:oU r=true) (hr:eB 0 r=true)
  (hk:W P G fin (.dB os (log++[⟨pre,Z,[]⟩])::t) ⟨dU d r env,af⟩):W P G fin (.dB (⟨d,.call f as,none,pre⟩::os) log::t) ⟨env,af⟩:=by
 refine oP _ hc (cm.pure Z hT ha (fun z h=>.inl (hZ z h)) hj) ?_
 simpa [kG _ _ hr,fH,eV.owned,EK] using hk
theorem rD {d:Option Nat} {f:bM} {as:List bM} {pre:List Nat} {k:Nat} {fs cs aS:List LV} {r:LV} (Z:List Nat) (hT:bh P G k aS [] r []) (hc:callee (f.ev G (aW env))=some (k,fs,cs)) (ha:ag (au af) [] Z (fs++as.map (·.ev G (aW env))++cs) aS)
  (hZ:∀ z∈Z,∃ et e rows,au af z=.live (.dat et e rows)∨au af z=.live (.kK et e rows)) (hr:eB 0 r=true)
  (hk:W P G fin (.ops os::t) ⟨dU d r env,fH (gh (au af) Z) af⟩):W P G fin (.ops (⟨d,.call f as,none,pre⟩::os)::t) ⟨env,af⟩:=by
 refine wk _ hc (cm.kK Z hT ha (fun z h=>.inl (hZ z h))) ?_
 simpa [kG _ _ hr] using hk
theorem lX {d:Option Nat} {f:bM} {as:List bM} {pre:List Nat} {k:Nat} {fs cs aS:List LV} {r:LV} (Z:List Nat) (hT:bh P G k aS [] r []) (hc:callee (f.ev G (aW env))=some (k,fs,cs)) (ha:ag (au af) [] Z (fs++as.map (·.ev G (aW env))++cs) aS)
  (hZ:∀ z∈Z,∃ et e rows,au af z=.live (.dat et e rows)∨au af z=.live (.kK et e rows)) (hr:eB 0 r=true)
  (hk:W P G fin (.dB os (log++[⟨pre,Z,(gh (au af) Z).map (·.1)⟩])::t) ⟨dU d r env,fH (gh (au af) Z) af⟩):W P G fin (.dB (⟨d,.call f as,none,pre⟩::os) log::t) ⟨env,af⟩:=by
 refine oP _ hc (cm.kK Z hT ha (fun z h=>.inl (hZ z h))) ?_
 simpa [kG _ _ hr,eV.owned,EK] using hk
theorem gu {d:Option Nat} {f:bM} {as:List bM} {pre:List Nat} {k:Nat} {fs cs aS:List LV} {r:LV} {aq:List aC} (hT:bh P G k aS [] r aq) (hc:callee (f.ev G (aW env))=some (k,fs,cs)) (ha:fs++as.map (·.ev G (aW env))++cs=aS) (hid:eu 0 aS=true)
  (hk:W P G fin (.ops os::t) ⟨dU d (rn (bu [] af.length) r) env,af++(aq.map (ff (bu [] af.length))).map some⟩):W P G fin (.ops (⟨d,.call f as,none,pre⟩::os)::t) ⟨env,af⟩:=by
 refine wk _ hc (cm.data hT (by rw [ha]; exact gd _ _ _ _ hid)) ?_
 simpa [fH] using hk
theorem jf {d:Option Nat} {f:bM} {as:List bM} {pre:List Nat} {k:Nat} {fs cs aS:List LV} {r:LV} {aq:List aC} (hT:bh P G k aS [] r aq) (hc:callee (f.ev G (aW env))=some (k,fs,cs)) (ha:fs++as.map (·.ev G (aW env))++cs=aS) (hid:eu 0 aS=true)
  (hk:W P G fin (.dB os (log++[⟨pre,[],(EK af.length (aq.map (ff (bu [] af.length)))).map (·.1)⟩])::t) ⟨dU d (rn (bu [] af.length) r) env,af++(aq.map (ff (bu [] af.length))).map some⟩):W P G fin (.dB (⟨d,.call f as,none,pre⟩::os) log::t) ⟨env,af⟩:=by
 refine oP _ hc (cm.data hT (by rw [ha]; exact gd _ _ _ _ hid)) ?_
 simpa [fH,eV.owned] using hk
theorem av {d:Option Nat} {f:bM} {as:List bM} {pre:List Nat} {k:Nat} {fs cs aS:List LV} {r:LV} {aH aq:List aC} (ρ:List Nat) (hT:bh P G k aS aH r aq) (hc:callee (f.ev G (aW env))=some (k,fs,cs)) (ha:ag (au af) ρ [] (fs++as.map (·.ev G (aW env))++cs) aS)
  (hnd:ρ.Nodup) (ho:ρ.map (au af)=aH.map (fun ob=>b_.live (ff (bu ρ af.length) ob))) (hid:aH.all (dV ρ.length)=true) (hle:aH.length≤aq.length)
  (hk:W P G fin (.ops os::t) ⟨dU d (rn (bu ρ af.length) r) env,fH (ρ.zip (aq.map (ff (bu ρ af.length)))) af++((aq.drop ρ.length).map (ff (bu ρ af.length))).map some⟩):W P G fin (.ops (⟨d,.call f as,none,pre⟩::os)::t) ⟨env,af⟩:=by
 refine wk _ hc (cm.hand ρ hT ha hnd ho hid hle) ?_
 simpa using hk
theorem ei {d:Option Nat} {f:bM} {as:List bM} {pre:List Nat} {k:Nat} {fs cs aS:List LV} {r:LV} {aH aq:List aC} (ρ:List Nat) (hT:bh P G k aS aH r aq) (hc:callee (f.ev G (aW env))=some (k,fs,cs)) (ha:ag (au af) ρ [] (fs++as.map (·.ev G (aW env))++cs) aS)
  (hnd:ρ.Nodup) (ho:ρ.map (au af)=aH.map (fun ob=>b_.live (ff (bu ρ af.length) ob))) (hid:aH.all (dV ρ.length)=true) (hle:aH.length≤aq.length)
  (hk:W P G fin (.dB os (log++[⟨pre,ρ,(EK af.length ((aq.drop ρ.length).map (ff (bu ρ af.length)))++ρ.zip (aq.map (ff (bu ρ af.length)))).map (·.1)⟩])::t) ⟨dU d (rn (bu ρ af.length) r) env,fH (ρ.zip (aq.map (ff (bu ρ af.length)))) af++((aq.drop ρ.length).map (ff (bu ρ af.length))).map some⟩):W P G fin (.dB (⟨d,.call f as,none,pre⟩::os) log::t) ⟨env,af⟩:=by
 refine oP _ hc (cm.hand ρ hT ha hnd ho hid hle) ?_
 simpa [eV.owned] using hk
def vf (rv:List RV) (r:LV) (ay:List aC) (s:St):Prop:=Gg rv r s∧s.af.take ay.length=ay.map some
theorem MS {rv:List RV} {r:LV} {ay:List aC} {s:St} : vf rv r ay s=(Gg rv r s∧s.af.take ay.length=ay.map some):=rfl
theorem Nz (π:Nat→Nat):∀ (ob:aC),dV 0 ob=true→ff π ob=ob
 | .box et cells,h=>by simp only [ff]; rw [j4 π cells h]
 | .mp es,h=>by
   simp only [dV,List.all_eq_true] at h
   simp only [ff,aC.mp.injEq]
   conv=>rhs; rw [← List.map_id es]
   exact List.map_congr_left fun p hp=>by simp [kG π p.2 (h p hp)]
 | .lr et e v cells,h=>by simp only [ff]; rw [j4 π cells h]
 | .dat ..,_=>rfl
 | .kK ..,_=>rfl
 | .mZ ..,_=>rfl
theorem zO:(∀ (x:LV) (k:Nat),eB 0 x=true→eB k x=true)∧(∀ (xs:List LV) (k:Nat),eu 0 xs=true→eu k xs=true):=by
 have one:∀ n,(∀ (x:LV) (k:Nat),sizeOf x<n→eB 0 x=true→eB k x=true)∧(∀ (xs:List LV) (k:Nat),sizeOf xs<n→eu 0 xs=true→eu k xs=true):=by
  intro n
  induction n with
  | zero=>exact ⟨fun _ _ h=>absurd h (by omega),fun _ _ h=>absurd h (by omega)⟩
  | succ n ih=>
    refine ⟨fun x k hs h=>?_,fun xs k hs h=>?_⟩
    ·cases x <;> simp only [eB,Bool.and_eq_true] at h ⊢ <;> (try (simp at h; done)) <;> simp at hs
     ·exact ⟨ih.2 _ k (by omega) h.1,ih.2 _ k (by omega) h.2⟩
     ·exact ih.2 _ k (by omega) h
     ·exact ih.2 _ k (by omega) h
     ·exact ih.1 _ k (by omega) h
    ·cases xs with
     | nil=>rfl
     | cons x xs=>
       simp only [eu,Bool.and_eq_true] at h ⊢
       simp at hs
       exact ⟨ih.1 _ k (by omega) h.1,ih.2 _ k (by omega) h.2⟩
 exact ⟨fun x k=>(one (sizeOf x+1)).1 x k (by omega),fun xs k=>(one (sizeOf xs+1)).2 xs k (by omega)⟩
theorem Uq (k:Nat):∀ (ob:aC),dV 0 ob=true→dV k ob=true
 | .box et cells,h=>zO.2 cells k h
 | .mp es,h=>by
   simp only [dV,List.all_eq_true] at h ⊢
   exact fun p hp=>zO.1 _ k (h p hp)
 | .lr et e v cells,h=>zO.2 cells k h
 | .dat ..,_=>rfl
 | .kK ..,_=>rfl
 | .mZ ..,_=>rfl
theorem jh {rv:List RV} {r:LV} {ay:List aC} {s:St} {k:Nat} (hs:vf rv r ay s) (hid:eB 0 r=true) (ho:ay.all (dV 0)=true) (hk:k=ay.length):vh rv k r ay s:=by
 obtain ⟨h1,h2⟩:=hs
 unfold Gg at h1
 split at h1
 ·rename_i vs hvs
  simp only [Option.some.injEq] at h1
  subst h1
  rw [List.all_eq_true] at ho
  refine ⟨[],vs,List.range k,[],hvs,by simp,List.nodup_range,(fun _ h=>by cases h),(fun _ h=>by cases h),by simp [hk],fun i o hi=>?_,?_,?_⟩
  ·have hlt:i<k:=by
    have:=(List.getElem?_eq_some_iff.1 hi).1
    simpa using this
   have oW:o=i:=by rw [List.getElem?_range hlt] at hi; cases hi; rfl
   subst oW
   have hlt':o<ay.length:=by omega
   refine ⟨ay[o],List.getElem?_eq_getElem hlt',?_⟩
   have h3:(s.af.take ay.length)[o]? = some (some ay[o]):=by rw [h2]; simp [hlt']
   rw [List.getElem?_take_of_lt hlt'] at h3
   rw [Nz _ _ (ho _ (List.getElem_mem hlt'))]
   simp only [c_,St.obj,au,h3]
  ·rw [List.all_eq_true]; exact fun ob en=>Uq _ ob (ho ob en)
  ·exact qJ _ _ _ _ hid
 ·cases h1
theorem Cz {f:Nat} {fn:Func} {ir:Nat×C×List RV} {args:List LV} {af ay:List aC} {r:LV} (hf:P.funcs[f]? = some fn) (hn:(fn.name != "runtime.NumGoroutine")=true) (gR:aj P fn=some ir) (hl:Nat.ble args.length ir.1=true) (hid:eB 0 r=true) (ho:ay.all (dV 0)=true) (hlen:af.length=ay.length)
  (h:W P G (vf ir.2.2 r ay) [.c ir.2.1] ⟨fm 0 args,af.map some⟩):bh P G f args af r ay:=by
 refine yx hf (by simpa using hn) (N:=ir.1) (c:=ir.2.1) (rv:=ir.2.2) gR (Nat.le_of_ble_eq_true hl) ?_
 simp only [W,Wx] at h
 exact nS _ _ ⟨vf ir.2.2 r ay,fun _ _=>False,vf ir.2.2 r ay,qZ,none⟩ _ (fun s hs=>jh hs hid ho hlen) (fun _ _ h=>h) (fun s hs=>jh hs hid ho hlen) h
def Ends (rv:List RV) (r:LV) (s:St):Prop:=(match yf.of s rv with | some vs=>some (aP vs) | none=>none)=some r
theorem bn {f:Nat} {fn:Func} {ir:Nat×C×List RV} {args:List LV} {r:LV} (hf:P.funcs[f]? = some fn) (hn:(fn.name != "runtime.NumGoroutine")=true) (gR:aj P fn=some ir) (hl:Nat.ble args.length ir.1=true) (hid:eB 0 r=true)
  (h:W P G (Ends ir.2.2 r) [.c ir.2.1] ⟨fm 0 args,[]⟩):bh P G f args [] r []:=by
 refine yx hf (by simpa using hn) (N:=ir.1) (c:=ir.2.1) (rv:=ir.2.2) gR (Nat.le_of_ble_eq_true hl) ?_
 simp only [W,Wx] at h
 refine nS _ _ ⟨Ends ir.2.2 r,fun _ _=>False,Ends ir.2.2 r,qZ,none⟩ _ (fun s hs=>?_) (fun _ _ h=>h) (fun s hs=>?_) h
 all_goals
  replace hs:Ends ir.2.2 r s:=hs
  unfold Ends at hs
  split at hs
  ·rename_i vs hvs
   cases hs
   exact xx hvs (qJ _ _ _ _ hid)
  ·cases hs
end
section
variable {P:Program} {G:Nat→Option (List DV)} {fin:St→Prop} {t:List It} {env:List (Nat×LV)} {af:List (Option aC)} {os:List dY}
theorem adg {n:St→Prop} {x:Nat→St→Prop} {s:St} : W P G fin (.rt n x::t) s=n s:=by simp only [W]
theorem ab2 {i:Nat} {n:St→Prop} {x:Nat→St→Prop} {s:St} : Wx P G fin i (.rt n x::t) s=x i s:=by simp only [Wx]
theorem adf {Y:YO} {s:St} : W P G fin (.yd Y::t) s=W P G fin t s:=by simp only [W]
theorem ab1 {i:Nat} {Y:YO} {s:St} : Wx P G fin i (.yd Y::t) s=Wx P G fin i t s:=by simp only [Wx]
theorem DO {d:Option Nat} {f:bM} {as:List bM} {pre:List Nat} {oy:Nat} (hc:f.ev G (aW env)=.yl oy)
  (h:Wy t (.yl oy::as.map (·.ev G (aW env))) af (aW env YS) (fun ys b ay=>W P G fin (.ops os::t) ⟨dU d (.bool b) ((YS,ys)::env),ay⟩)):W P G fin (.ops (⟨d,.call f as,none,pre⟩::os)::t) ⟨env,af⟩:=by
 simp only [W,gy,yj,ym]
 have zU:f.ev G (St.get ⟨env,af⟩)=.yl oy:=hc
 rw [zU]
 simp only [W] at h
 exact h
theorem CR {jm:Option Nat} {ps:List Nat} {a b:C} {s:St} {as:List LV} {af:List (Option aC)} {ys:LV} {K':LV→Bool→List (Option aC)→Prop} (hy:ys=ia) (hl:as.length=ps.length)
  (h:W P G (fun _=>False) [.c a,.rt (fun s1=>W P G (fun s'=>jm=none∧K' jv false s'.af) [.c b,.rt (fun s'=>K' ia true s'.af) (fun i s'=>i≠gN∧jm=some i∧K' jv false s'.af)] s1) (fun _ _=>False)] ⟨su ps as s.env,af⟩) :
  pX P G jm ps a b s (.yl s.af.length::as) af ys K':=by
 refine ⟨hy,rfl,hl,?_⟩
 simp only [W,Wx,Wy] at h
 exact h
theorem Qx {g:bM} {ps:List Nat} {a b:C} {k:Nat} {fs cs:List LV} (hc:callee (g.ev G (aW env))=some (k,fs,cs)) (R:LV→List (Option aC)→Prop)
  (h1:Gf P G k (fs++[.yl af.length]++cs) (af++[none]) (pX P G none ps a b ⟨env,af⟩) R)
  (h2:∀ yv ay,R yv ay→(yv=ia∧W P G fin t ⟨env,ay⟩)∨(yv=jv∧fin ⟨env,ay⟩)):W P G fin (.c (.YA g ps a b)::t) ⟨env,af⟩:=by
 simp only [W,vc]
 have zU:callee (g.ev G (St.get ⟨env,af⟩))=some (k,fs,cs):=hc
 rw [zU]
 exact ⟨none,R,h1,h2⟩
theorem Hx {f:Nat} {fn:Func} {ir:Nat×C×List RV} {args:List LV} {af:List (Option aC)} {Y:YO} {R:LV→List (Option aC)→Prop} (hf:P.funcs[f]? = some fn) (hn:(fn.name != "runtime.NumGoroutine")=true) (gR:aj P fn=some ir) (hl:Nat.ble args.length ir.1=true) (HM:j7 ir.2.1=true) (LM:ir.2.2=[])
  (h:W P G (fun s=>R (s.get YS) s.af) [.c ir.2.1,.yd Y] ⟨(YS,ia)::fm 0 args,af⟩):Gf P G f args af Y R:=by
 refine JA hf (by simpa using hn) (N:=ir.1) (c:=ir.2.1) (rv:=ir.2.2) gR (Nat.le_of_ble_eq_true hl) HM ?_
 simp only [W,Wx,Wy] at h
 simp only [LM,and_true]
 exact h
end
end Dv
namespace Dv
open Go
section
variable {π:Nat→Nat} {k:Nat}
mutual
theorem GN (h:∀ o,o<k→π o=o):∀ (x:LV),eB k x=true→rn π x=x
 | .top,_=>rfl
 | .d x,_=>rfl
 | .dM,_=>rfl
 | .ptr o c,hx=>by simp only [eB,decide_eq_true_eq] at hx; simp only [rn,h o hx]
 | .rp o n e r c,hx=>by simp only [eB,decide_eq_true_eq] at hx; simp only [rn,h o hx]
 | .ip ..,_=>rfl
 | .sl o n e l m,hx=>by simp only [eB,decide_eq_true_eq] at hx; simp only [rn,h o hx]
 | .fn f a b,hx=>by
   simp only [eB,Bool.and_eq_true] at hx
   simp only [rn,n_ h a hx.1,n_ h b hx.2]
 | .agg cs,hx=>by simp only [eB] at hx; simp only [rn,n_ h cs hx]
 | .dH cs,hx=>by simp only [eB] at hx; simp only [rn,n_ h cs hx]
 | .fL t x,hx=>by simp only [eB] at hx; simp only [rn,GN h x hx]
 | .yl o,hx=>by simp only [eB,decide_eq_true_eq] at hx; simp only [rn,h o hx]
 | .mr o,hx=>by simp only [eB,decide_eq_true_eq] at hx; simp only [rn,h o hx]
theorem n_ (h:∀ o,o<k→π o=o):∀ (xs:List LV),eu k xs=true→mw π xs=xs
 | [],_=>rfl
 | x::xs,hx=>by
   simp only [eu,Bool.and_eq_true] at hx
   simp only [mw,GN h x hx.1,n_ h xs hx.2]
end
theorem CS (h:∀ o,o<k→π o=o):∀ (ob:aC),dV k ob=true→ff π ob=ob
 | .box et cells,hx=>by simp only [ff]; rw [n_ h cells hx]
 | .mp es,hx=>by
   simp only [dV,List.all_eq_true] at hx
   simp only [ff,aC.mp.injEq]
   conv=>rhs; rw [← List.map_id es]
   exact List.map_congr_left fun p hp=>by simp [GN h p.2 (hx p hp)]
 | .lr et e v cells,hx=>by simp only [ff]; rw [n_ h cells hx]
 | .dat ..,_=>rfl
 | .kK ..,_=>rfl
 | .mZ ..,_=>rfl
end
section
variable {ρ:List Nat} {k:Nat}
mutual
theorem AH (h:∀ o,o<k→ρ[o]? = some o) (obj:Nat→b_):∀ (x:LV),eB k x=true→ah obj ρ [] x x
 | .top,_=>by simp [ah]
 | .d x,_=>by simp [ah]
 | .dM,_=>by simp [ah]
 | .ptr o c,hx=>by simp only [eB,decide_eq_true_eq] at hx; simp only [ah,h o hx,and_self]
 | .rp o n e r c,hx=>by simp only [eB,decide_eq_true_eq] at hx; simp only [ah,h o hx,and_self]
 | .ip ..,_=>by simp [ah]
 | .sl o n e l m,hx=>by simp only [eB,decide_eq_true_eq] at hx; simp only [ah,h o hx,and_self]
 | .fn f a b,hx=>by
   simp only [eB,Bool.and_eq_true] at hx
   simp only [ah]; exact ⟨trivial,nN h obj a hx.1,nN h obj b hx.2⟩
 | .agg cs,hx=>by simp only [eB] at hx; simp only [ah]; exact nN h obj cs hx
 | .dH cs,hx=>by simp only [eB] at hx; simp only [ah]; exact nN h obj cs hx
 | .fL t x,hx=>by simp only [eB] at hx; simp only [ah]; exact ⟨trivial,AH h obj x hx⟩
 | .yl o,hx=>by simp only [eB,decide_eq_true_eq] at hx; simp only [ah,h o hx]
 | .mr o,hx=>by simp only [eB,decide_eq_true_eq] at hx; simp only [ah,h o hx]
theorem nN (h:∀ o,o<k→ρ[o]? = some o) (obj:Nat→b_):∀ (xs:List LV),eu k xs=true→ag obj ρ [] xs xs
 | [],_=>by simp [ag]
 | x::xs,hx=>by
   simp only [eu,Bool.and_eq_true] at hx
   simp only [ag]; exact ⟨AH h obj x hx.1,nN h obj xs hx.2⟩
end
end
theorem er {k o:Nat} (h:o<k):(List.range k)[o]? = some o:=List.getElem?_range h
theorem sM {k o:Nat} (h:o<k):bu (List.range k) 0 o=o:=by unfold bu; rw [er h]
theorem ack {rv:List RV} {r:LV} {ay:List aC} {s:St} (hs:vf rv r ay s) (hid:eB ay.length r=true) (ho:ay.all (dV ay.length)=true):vh rv ay.length r ay s:=by
 obtain ⟨h1,h2⟩:=hs
 unfold Gg at h1
 split at h1
 ·rename_i vs hvs
  simp only [Option.some.injEq] at h1
  subst h1
  have ho':=ho
  rw [List.all_eq_true] at ho
  refine ⟨[],vs,List.range ay.length,[],hvs,by simp,List.nodup_range,(fun _ h=>by cases h),(fun _ h=>by cases h),by simp,fun i o hi=>?_,?_,?_⟩
  ·have hlt:i<ay.length:=by
    have:=(List.getElem?_eq_some_iff.1 hi).1
    simpa using this
   have oW:o=i:=by rw [List.getElem?_range hlt] at hi; cases hi; rfl
   subst oW
   refine ⟨ay[o],List.getElem?_eq_getElem hlt,?_⟩
   have h3:(s.af.take ay.length)[o]? = some (some ay[o]):=by rw [h2]; simp [hlt]
   rw [List.getElem?_take_of_lt hlt] at h3
   rw [CS (fun o h=>sM h) _ (ho _ (List.getElem_mem hlt))]
   simp only [c_,St.obj,au,h3]
  ·rw [List.length_range]; exact ho'
  ·exact AH (fun o h=>er h) _ _ hid
 ·cases h1
theorem aQ {P:Program} {G:Nat→Option (List DV)} {f:Nat} {fn:Func} {ir:Nat×C×List RV} {args:List LV} {af ay:List aC} {r:LV} (hf:P.funcs[f]? = some fn) (hn:(fn.name != "runtime.NumGoroutine")=true) (gR:aj P fn=some ir) (hl:Nat.ble args.length ir.1=true) (hid:eB ay.length r=true) (ho:ay.all (dV ay.length)=true) (hlen:af.length=ay.length)
  (h:W P G (vf ir.2.2 r ay) [.c ir.2.1] ⟨fm 0 args,af.map some⟩):bh P G f args af r ay:=by
 refine yx hf (by simpa using hn) (N:=ir.1) (c:=ir.2.1) (rv:=ir.2.2) gR (Nat.le_of_ble_eq_true hl) ?_
 simp only [W,Wx] at h
 refine nS _ _ ⟨vf ir.2.2 r ay,fun _ _=>False,vf ir.2.2 r ay,qZ,none⟩ _ (fun s hs=>?_) (fun _ _ h=>h) (fun s hs=>?_) h
 all_goals
  rw [hlen]; exact ack hs hid ho
theorem Ys:LV.undef=.d (.val (.tuple #[])):=rfl
def qo (n:Nat) (x:I):dY:=⟨some n,x,none,[]⟩
def qm (n a:Nat):dY:=⟨some n,.mv (.t a),none,[]⟩
def qd (n:Nat) (x:I) (l:List Nat):dY:=⟨some n,x,none,l⟩
def qg (n:Nat) (x:I) (g:Nat) (b:Bool):dY:=⟨some n,x,some (g,b),[]⟩
def qe (n:Nat) (x:I) (g:Nat) (b:Bool) (l:List Nat):dY:=⟨some n,x,some (g,b),l⟩
def qn (x:I):dY:=⟨none,x,none,[]⟩
def ql (x:I) (l:List Nat):dY:=⟨none,x,none,l⟩
def qf:bM:=.c (.val (.bool false))
def qt:bM:=.c (.val (.bool true))
def qk (i:Int):bM:=.c (.val (.int .i64 i))
def q0:DV:=.val (.int .i64 0)
end Dv
namespace Dv
open Go
section
variable {G:Nat→Option (List DV)} {J:Nat→Prop} {w w':World} {ι:Nat→Nat→Option Nat} {obj:Nat→b_}
theorem aF.still (S:aF G J w ι obj) (hJ:∀ b,J b→w'.heap[b]? = w.heap[b]?) (hO:∀ b,Own ι obj b→w'.heap[b]? = w.heap[b]?) (hsh:∀ b,(w.shape? b).isSome=true→w'.shape? b=w.shape? b):aF G J w' ι obj:=by
 refine ⟨fun o=>?_,S.inj,S.oH,fun b hb=>by rw [hJ b hb]; exact S.jcell b hb,fun g row hg=>?_⟩
 ·have h:=S.rep o
  have hb:∀ b,(obj o).own ι o b→w'.heap[b]? = w.heap[b]?:=fun b hb=>hO b ⟨o,hb⟩
  cases hs:obj o with
  | free=>rw [hs] at h; exact h
  | dead=>trivial
  | live ob=>
    rw [hs] at h hb
    obtain ⟨h,hkey⟩:=h
    cases ob with
    | box et cells=>
      obtain ⟨b,C,h1,h2,h3⟩:=h
      exact ⟨⟨b,C,h1,by rw [hb b h1]; exact h2,bA.mono (fun _ h=>h) hJ (fun _ _ _ h=>h) hsh _ _ h3⟩,trivial⟩
    | mp es=>
      obtain ⟨b,C,c,h1,h2,h3⟩:=h
      exact ⟨⟨b,C,c,h1,by rw [hb b h1]; exact h2,iO.mono (fun _ h=>h) hJ (fun _ _ _ h=>h) hsh _ _ h3⟩,trivial⟩
    | mZ et bs=>
      obtain ⟨h1,h2⟩:=h
      refine ⟨⟨fun k rows hr=>?_,h2⟩,hkey⟩
      obtain ⟨b,C,h3,h4,h5⟩:=h1 k rows hr
      have hb':=hb b ⟨k,(List.getElem?_eq_some_iff.1 hr).1,h3⟩
      exact ⟨b,C,h3,by rw [hb']; exact h4,bq.mono (fun _ h=>h) hJ _ _ _ _ hb' h5⟩
    | lr et e v cells=>
      obtain ⟨e1,e2⟩ | ⟨b,C,h1,h2,h0,h3⟩:=h
      ·exact ⟨.inl ⟨e1,e2⟩,hkey⟩
      exact ⟨.inr ⟨b,C,h1,by rw [hb b h1]; exact h2,h0,bA.mono (fun _ h=>h) hJ (fun _ _ _ h=>h) hsh _ _ h3⟩,hkey⟩
    | dat et aJ rows=>
      obtain ⟨h1,h2⟩:=h
      refine ⟨⟨h1,fun b hb'=>?_⟩,hkey⟩
      obtain ⟨⟨C,h3⟩,h4⟩:=h2 b hb'
      exact ⟨⟨C,by rw [hb b hb']; exact h3⟩,bq.mono (fun _ h=>h) hJ _ _ _ _ (hb b hb') h4⟩
    | kK et aJ rows=>
      obtain ⟨h1,h2⟩:=h
      refine ⟨⟨h1,fun b hb'=>?_⟩,trivial⟩
      obtain ⟨h3,h4⟩:=h2 b hb'
      exact ⟨h3,bq.mono (fun _ h=>h) hJ _ _ _ _ (hJ b h3) h4⟩
 ·obtain ⟨h1,h2,t,h3⟩:=S.uI g row hg
  exact ⟨h1,dL.mono (fun _ h=>h) hJ _ _ _ (hJ g h1) h2,t,by rw [bH (hJ g h1)]; exact h3⟩
theorem jX {w:World} {b:Nat} (h:(w.shape? b).isSome=true):∃ C t f,w.heap[b]? = some (.cells C t f):=by
 unfold World.shape? at h
 split at h
 ·rename_i c e f hc; exact ⟨c,e,f,hc⟩
 ·cases h
structure Gn (G:Nat→Option (List DV)) (obj:Nat→b_) (J:Nat→Prop) (ι:Nat→Nat→Option Nat) (w:World) (n:Nat) (W:World) (J':Nat→Prop) (ι':Nat→Nat→Option Nat):Prop where
 store:aF G J' W ι' obj
 ext:Ext obj obj J J' ι ι' w W
 own:∀ b,Own ι' obj b→Own ι obj b∨n≤b
 std:∀ b,J' b→J b∨n≤b∨Own ι obj b
 size:n≤W.heap.size
theorem Gn.start (S:aF G J w ι obj) {W:World} (hos:W.os=w.os) (ht:W.tape=w.tape) (ho:W.output=w.output) (hs:w.heap.size≤W.heap.size) (hk:∀ b,b<w.heap.size→W.heap[b]? = w.heap[b]?):Gn G obj J ι w W.heap.size W J ι:=by
 refine ⟨S.still (fun b hb=>hk b (S.BY b hb)) (fun b hb=>hk b ?_) (fun b hb=>bH (hk b ?_)),⟨⟨hos,ht,ho,hs,fun b hb _=>hk b hb,fun b hb=>bH (hk b hb),fun _ h=>h,fun _ h=>.inl h,fun _ _ _ h=>h⟩,fun _ h=>.inl h⟩,fun _ h=>.inl h,fun _ h=>.inl h,Nat.le_refl _⟩
 ·exact S.mU hb
 ·obtain ⟨C,t,f,h⟩:=jX hb
  exact (Array.getElem?_eq_some_iff.1 h).1
theorem Gn.grown {n:Nat} {W W':World} {J':Nat→Prop} {ι':Nat→Nat→Option Nat} (S:aF G J w ι obj) (h:Gn G obj J ι w n W J' ι') (hn:w.heap.size≤n) {row:Option Nat} (hg:W.grownBy W' row) (hr:∀ r,row=some r→w.heap.size≤r∧((r<n∧(W'.shape? r)=W.shape? r)∨∀ x,W.heap[r]? = some x→x.nE=false)):Gn G obj J ι w n W' J' ι':=by
 have hlt:∀ b,Own ι obj b→b<w.heap.size:=fun b hb=>by
  exact S.mU hb
 have ne:∀ b,(J' b∨Own ι' obj b)→some b≠row:=fun b hb e=>by
  obtain ⟨h1,h2⟩:=hr b e.symm
  have hc:∃ x,W.heap[b]? = some x∧x.nE=true:=hb.elim (fun k=>by obtain ⟨C,t,f,k⟩:=h.store.jcell b k; exact ⟨_,k,rfl⟩) h.store.sO
  rcases h2 with ⟨h2,_⟩ | h2
  ·rcases hb with hb | hb
   ·rcases h.std b hb with k | k | k
    ·have:=S.BY b k; omega
    ·omega
    ·have:=hlt b k; omega
   ·rcases h.own b hb with k | k
    ·have:=hlt b k; omega
    ·omega
  ·obtain ⟨x,hc,hx⟩:=hc
   rw [h2 x hc] at hx; cases hx
 have blk:∀ b,(J' b∨Own ι' obj b)→W'.heap[b]? = W.heap[b]?:=fun b hb=>by
  have hc:∃ x,W.heap[b]? = some x∧x.nE=true:=hb.elim (fun k=>by obtain ⟨C,t,f,k⟩:=h.store.jcell b k; exact ⟨_,k,rfl⟩) h.store.sO
  obtain ⟨x,hc,_⟩:=hc
  exact hg.block b (Array.getElem?_eq_some_iff.1 hc).1 (ne b hb)
 have hsz:=h.ext.ev.size
 have shp:∀ b,b<W.heap.size→(W.shape? b).isSome=true→W'.shape? b=W.shape? b:=fun b hb hc=>by
  by_cases e:some b=row
  ·obtain ⟨h1,h2⟩:=hr b e.symm
   rcases h2 with ⟨_,h2⟩ | h2
   ·exact h2
   ·obtain ⟨C,t,f,k⟩:=jX hc
    cases h2 _ k
  ·exact bH (hg.block b hb e)
 refine ⟨h.store.still (fun b hb=>blk b (.inl hb)) (fun b hb=>blk b (.inr hb)) (fun b hb=>?_),⟨⟨hg.os.trans h.ext.ev.os,hg.tape.trans h.ext.ev.tape,hg.output.trans h.ext.ev.output,Nat.le_trans hsz hg.size,fun b hb ho=>?_,fun b hb=>?_,h.ext.ev.gP,h.ext.ev.vQ,h.ext.ev.gQ⟩,h.ext.own⟩,h.own,h.std,Nat.le_trans h.size hg.size⟩
 ·obtain ⟨C,t,f,k⟩:=jX hb
  exact shp b (Array.getElem?_eq_some_iff.1 k).1 hb
 ·rw [hg.block b (by omega) (fun e=>by have:=(hr b e.symm).1; omega)]; exact h.ext.ev.same b hb ho
 ·rw [bH (hg.block b (by omega) (fun e=>by have:=(hr b e.symm).1; omega))]; exact h.ext.ev.shape b hb
theorem Gn.call {n:Nat} {W W2:World} {J':Nat→Prop} {ι':Nat→Nat→Option Nat} (S:aF G J w ι obj) (h:Gn G obj J ι w n W J' ι') (hn:w.heap.size≤n) {r:LV} {v:Value} (hA:aN G obj obj J' ι' W r v W2):∃ J2 xK,Gn G obj J ι w n W2 J2 xK∧cT J2 W2 xK r v∧(∀ b,b<W.heap.size→¬ Own ι' obj b→W2.heap[b]? = W.heap[b]?)∧W.heap.size≤W2.heap.size:=by
 obtain ⟨J2,xK,S2,R2,E2⟩:=hA
 have hsz:=h.size
 refine ⟨J2,xK,⟨S2,h.ext.trans E2,fun b hb=>?_,fun b hb=>?_,Nat.le_trans h.size E2.ev.size⟩,R2,E2.ev.same,E2.ev.size⟩
 ·rcases E2.own b hb with k | k
  ·exact h.own b k
  ·exact .inr (by omega)
 ·rcases E2.ev.vQ b hb with k | k | k
  ·exact h.std b k
  ·exact .inr (.inl (by omega))
  ·rcases h.own b k with k | k
   ·exact .inr (.inr k)
   ·exact .inr (.inl k)
theorem Gn.mine {n:Nat} {W:World} {J':Nat→Prop} {ι':Nat→Nat→Option Nat} (S:aF G J w ι obj) (h:Gn G obj J ι w n W J' ι') {b:Nat} (h1:w.heap.size≤b) (h2:b<n):¬ Own ι' obj b:=fun hb=>by
 rcases h.own b hb with k | k
 ·have:=S.mU k
  omega
 ·omega
end
end Dv
namespace Dv
open Go
section
variable {P:Program} {G:Nat→Option (List DV)} {N:Nat}
def iz (p:Value) (aq:List aC) (s:St):Prop:=s.get gN=.d (.val p)∧s.af.take aq.length=aq.map some
theorem Q0 {f:Nat} {fn:Func} {c:C} {rv:List RV} {args:List LV} {aH aq:List aC} {p:Value} (hf:P.funcs[f]? = some fn) (hn:fn.name≠ "runtime.NumGoroutine") (gR:aj P fn=some (N,c,rv)) (hl:args.length≤N) (hlen:aH.length=aq.length) (ho:aq.all (dV aq.length)=true)
  (h:vc P G c ⟨fm 0 args,aH.map some⟩ ⟨fun _=>False,fun j s=>j=gN∧iz p aq s,fun _=>False,qZ,none⟩) (HM:j7 c=true):wm P G f args aH p aq:=by
 unfold aj at gR
 split at gR
 ·rename_i code hbody
  split at gR
  ·rename_i c' rv' hc LM
   split at gR
   case isFalse=>cases gR
   rename_i hlim
   cases gR
   refine ⟨by simp [mG,hf,hn,hbody],fun J0 bV w0 vs S0 hargs=>?_⟩
   have hvl:vs.size=args.length:=by have:=hargs.length; simpa using this.symm
   refine (nI (ro:=none) (n:=0)).1 (callsIn_of_wp hf hbody trivial (wpIn_mono (eL (D:=Dk.plain [] false) (N:=fn.ntmps) (bf:=au (aH.map some)) (J0:=J0) (bV:=bV) (w0:=w0) code c hc (.inl HM) _ _ h oO.no (MT.no _) _ w0 ⟨J0,bV,⟨S0,fun t=>?_,?_,Marks.plain _ _,trivial,hlim⟩,Ext.refl ..⟩) (fun e a w hq=>?_)))
   ·have h1:=lT args vs.toList 0 t hargs
    simp only [Nat.zero_le,if_true,Nat.sub_zero] at h1
    have h2:(vs++Array.replicate (fn.ntmps-vs.size) Go.undef).getD t Go.undef=(vs.toList[t]?).getD Go.undef:=by
     simp only [Array.getD_eq_getD_getElem?,Array.getElem?_append,Array.getElem?_toList]
     by_cases ht:t<vs.size
     ·rw [if_pos ht]
     ·rw [if_neg ht,Array.getElem?_eq_none (Nat.le_of_not_lt ht),Array.getElem?_replicate]
      split <;> rfl
    rw [h2]; exact h1
   ·simp; omega
   ·cases e with
    | normal=>obtain ⟨s,hA,hB⟩:=hq; exact hB.elim
    | ret=>obtain ⟨s,hA,hB⟩:=hq; exact hB.elim
    | exit i=>obtain ⟨QN,s,_,hB,_⟩:=hq; exact absurd hB QN
    | goto l=>exact hq.elim
    | outgrown=>exact hq.elim
    | panic ch=>
      obtain ⟨v,s,rfl,hd,⟨J,ι,S,E,_⟩,_,hv,en⟩:=hq
      have en:s.af.take aq.length=aq.map some:=en
      have hv:v=p:=by
       have:(LV.d (.val v))=.d (.val p):=by simpa [jT,St.get,aW] using hv
       simpa using this
      subst hv
      refine ⟨hd rfl,rfl,?_⟩
      have ho':=ho
      rw [List.all_eq_true] at ho
      obtain ⟨S',hown⟩:=S.sub (ρ:=List.range aq.length) (Z:=[]) (aH:=aq) (base:=0) List.nodup_range (fun _ h=>by cases h) (by simp) (fun i o hi=>by
       have hlt:i<aq.length:=by
        have:=(List.getElem?_eq_some_iff.1 hi).1
        simpa using this
       have oW:o=i:=by rw [List.getElem?_range hlt] at hi; cases hi; rfl
       subst oW
       refine ⟨aq[o],List.getElem?_eq_getElem hlt,?_⟩
       have h3:(s.af.take aq.length)[o]? = some (some aq[o]):=by rw [en]; simp [hlt]
       rw [List.getElem?_take_of_lt hlt] at h3
       rw [CS (fun o h=>sM h) _ (ho _ (List.getElem_mem hlt))]
       simp only [St.obj,au,h3]) (by rw [List.length_range]; exact ho') (fun _ h=>by cases h)
      refine ⟨_,_,S',trivial,⟨E.ev.os,E.ev.tape,E.ev.output,E.ev.size,E.ev.same,E.ev.shape,fun b hb=>.inl (E.ev.gP b hb),fun b hb=>?_,fun o n b hb=>?_⟩,?_⟩
      ·rcases hb with hb | ⟨z,Zn,MV⟩
       ·exact E.ev.vQ b hb
       ·cases Zn
      ·have ho:o<aH.length:=by
        rcases Nat.lt_or_ge o aH.length with h1 | h1
        ·exact h1
        ·have:=S0.rep o
         rw [cv (by simpa using h1)] at this
         rw [this n] at hb; cases hb
       exact kZ (er (by omega)) (E.ev.gQ o n b hb)
      ·rintro b ⟨i,hb⟩
       obtain ⟨o,_,h2⟩:=hown i b hb
       exact E.own b ⟨o,h2⟩
  ·cases gR
 ·cases gR
end
section
variable {P:Program} {G:Nat→Option (List DV)} {fin:St→Prop} {t:List It} {s:St} {env:List (Nat×LV)} {af:List (Option aC)} {os:List dY} {log:List iH}
theorem IY {f:Nat} {fn:Func} {ir:Nat×C×List RV} {args:List LV} {aH aq:List aC} {p:Value} (hf:P.funcs[f]? = some fn) (hn:(fn.name != "runtime.NumGoroutine")=true) (gR:aj P fn=some ir) (hl:Nat.ble args.length ir.1=true) (hlen:aH.length=aq.length) (ho:aq.all (dV aq.length)=true)
  (h:W P G (fun _=>False) [.c ir.2.1,.pn (iz p aq)] ⟨fm 0 args,aH.map some⟩) (HM:j7 ir.2.1=true:=by rfl):wm P G f args aH p aq:=by
 refine Q0 hf (by simpa using hn) (N:=ir.1) (c:=ir.2.1) (rv:=ir.2.2) gR (Nat.le_of_ble_eq_true hl) hlen ho ?_ HM
 simp only [W,Wx,Wy] at h
 refine nS _ _ ⟨fun _=>False,fun i s=>if i=gN then iz p aq s else False,fun _=>False,qZ,none⟩ _ (fun s h=>h) (fun i s h=>?_) (fun s h=>h) h
 dsimp only at h
 split at h
 ·rename_i hi; exact ⟨hi,h⟩
 ·exact h.elim
theorem eR {i:Nat} {p:St→Prop} : Wx P G fin i (.pn p::t) s=if i=gN then p s else Wx P G fin i t s:=by simp only [Wx]
theorem Km {d:Option Nat} {f:bM} {as:List bM} {pre:List Nat} {k:Nat} {fs cs:List LV} {v:Value} (e:eV) (hc:callee (f.ev G (aW env))=some (k,fs,cs)) (h:fe P G k (fs++as.map (·.ev G (aW env))++cs) (au af) af.length v e)
  (hk:Wx P G fin gN t ⟨(gN,.d (.val v))::env,fH e.wr af++e.nw.map some⟩):W P G fin (.ops (⟨d,.call f as,none,pre⟩::os)::t) ⟨env,af⟩:=by
 simp only [W,gy,yj,ym]
 have zU:callee (f.ev G (St.get ⟨env,af⟩))=some (k,fs,cs):=hc
 rw [zU]
 exact .inr ⟨v,e,h,hk⟩
theorem QG {d:Option Nat} {f:bM} {as:List bM} {pre:List Nat} {k:Nat} {fs cs:List LV} {v:Value} (e:eV) (hc:callee (f.ev G (aW env))=some (k,fs,cs)) (h:fe P G k (fs++as.map (·.ev G (aW env))++cs) (au af) af.length v e)
  (hk:Wx P G fin gN t ⟨[(gN,.d (.val v))],fH e.wr af++e.nw.map some⟩) (hr:W P G fin (.zf log.length pre os (log++[⟨pre,e.rd,[]⟩])::t) ⟨dU d .top env,af⟩):W P G fin (.dB (⟨d,.call f as,none,pre⟩::os) log::t) ⟨env,af⟩:=by
 simp only [W,eM,yj,ym]
 have zU:callee (f.ev G (St.get ⟨env,af⟩))=some (k,fs,cs):=hc
 rw [zU]
 simp only [W] at hr
 exact .inr ⟨v,e,h,hk,hr⟩
theorem AK {p:Nat} {EE:List Nat} : W P G fin (.zf p EE [] log::t) s=(indep log=true∧EF log p EE=true):=by simp only [W,pI]
theorem xu {p:Nat} {EE:List Nat} {d:Option Nat} {i:I} {g:Option (Nat×Bool)} {pre:List Nat} (h:pre.contains p=true):W P G fin (.zf p EE (⟨d,i,g,pre⟩::os) log::t) ⟨env,af⟩=W P G fin (.zf p EE os (log++[⟨pre,[],[]⟩])::t) ⟨dU d .top env,af⟩:=by
 simp only [W,pI,h,if_true]; rfl
theorem Cr {p:Nat} {EE:List Nat} {d:Option Nat} {x:bM} {pre:List Nat} (h:pre.contains p=false):W P G fin (.zf p EE (⟨d,.mv x,none,pre⟩::os) log::t) ⟨env,af⟩=W P G fin (.zf p EE os (log++[⟨pre,[],[]⟩])::t) ⟨dU d (x.ev G (aW env)) env,af⟩:=by
 simp only [W,pI,h,yj,ym,cE,Bool.false_eq_true,if_false]
 simp only [St.app,fH,List.map_nil,List.append_nil,eV.owned,EK,List.append_nil,List.map_nil]
 rfl
theorem fe.data {k:Nat} {args aS:List LV} {obj:Nat→b_} {base:Nat} {v:Value} (hT:wm P G k aS [] v []) (ha:ag obj [] [] args aS) :
  fe P G k args obj base v { r:=.top,rd:=[],wr:=[],nw:=[] }:=
 ⟨⟨[],[],aS,[],[],List.nodup_nil,(fun _ h=>by cases h),(fun _ h=>by cases h),rfl,(fun i o h=>by simp at h),rfl,ha,Nat.le_refl _,hT,rfl⟩⟩
theorem fe.hand {k:Nat} {args aS:List LV} {obj:Nat→b_} {base:Nat} {v:Value} {aH aq:List aC} (ρ:List Nat) (hT:wm P G k aS aH v aq) (ha:ag obj ρ [] args aS) (hnd:ρ.Nodup) (ho:ρ.map obj=aH.map (fun ob=>b_.live (ff (bu ρ base) ob))) (hid:aH.all (dV ρ.length)=true) (hle:aH.length≤aq.length) :
  fe P G k args obj base v { r:=.top,rd:=ρ,wr:=ρ.zip (aq.map (ff (bu ρ base))),nw:=(aq.drop ρ.length).map (ff (bu ρ base)) }:=
 ⟨⟨ρ,[],aS,aH,aq,hnd,(fun _ h=>by cases h),(fun _ h=>by cases h),by have:=congrArg List.length ho; simpa using this.symm,(fun i o hi=>by
   have h1:(ρ.map obj)[i]? = some (obj o):=by rw [List.getElem?_map,hi]; rfl
   rw [ho,List.getElem?_map] at h1
   cases hf:aH[i]? with
   | none=>rw [hf] at h1; cases h1
   | some ob=>rw [hf] at h1; simp at h1; exact ⟨ob,rfl,h1.symm⟩),hid,ha,hle,hT,by simp [gh]⟩⟩
theorem nP {d:Option Nat} {f:bM} {as:List bM} {pre:List Nat} {k:Nat} {fs cs aS:List LV} {v:Value} (hT:wm P G k aS [] v []) (hc:callee (f.ev G (aW env))=some (k,fs,cs)) (ha:fs++as.map (·.ev G (aW env))++cs=aS) (hid:eu 0 aS=true)
  (hk:Wx P G fin gN t ⟨(gN,.d (.val v))::env,af⟩):W P G fin (.ops (⟨d,.call f as,none,pre⟩::os)::t) ⟨env,af⟩:=by
 refine Km _ hc (fe.data hT (by rw [ha]; exact gd _ _ _ _ hid)) ?_
 simpa [fH] using hk
theorem cM {d:Option Nat} {f:bM} {as:List bM} {pre:List Nat} {k:Nat} {fs cs aS:List LV} {v:Value} {aH aq:List aC} (ρ:List Nat) (hT:wm P G k aS aH v aq) (hc:callee (f.ev G (aW env))=some (k,fs,cs)) (ha:ag (au af) ρ [] (fs++as.map (·.ev G (aW env))++cs) aS)
  (hnd:ρ.Nodup) (ho:ρ.map (au af)=aH.map (fun ob=>b_.live (ff (bu ρ af.length) ob))) (hid:aH.all (dV ρ.length)=true) (hle:aH.length≤aq.length)
  (hk:Wx P G fin gN t ⟨(gN,.d (.val v))::env,fH (ρ.zip (aq.map (ff (bu ρ af.length)))) af++((aq.drop ρ.length).map (ff (bu ρ af.length))).map some⟩):W P G fin (.ops (⟨d,.call f as,none,pre⟩::os)::t) ⟨env,af⟩:=by
 refine Km _ hc (fe.hand ρ hT ha hnd ho hid hle) ?_
 simpa using hk
theorem Cs {d:Option Nat} {f:bM} {as:List bM} {pre:List Nat} {k:Nat} {fs cs aS:List LV} {v:Value} {aH aq:List aC} (ρ:List Nat) (hT:wm P G k aS aH v aq) (hc:callee (f.ev G (aW env))=some (k,fs,cs)) (ha:ag (au af) ρ [] (fs++as.map (·.ev G (aW env))++cs) aS)
  (hnd:ρ.Nodup) (ho:ρ.map (au af)=aH.map (fun ob=>b_.live (ff (bu ρ af.length) ob))) (hid:aH.all (dV ρ.length)=true) (hle:aH.length≤aq.length)
  (hk:Wx P G fin gN t ⟨[(gN,.d (.val v))],fH (ρ.zip (aq.map (ff (bu ρ af.length)))) af++((aq.drop ρ.length).map (ff (bu ρ af.length))).map some⟩)
  (hr:W P G fin (.zf log.length pre os (log++[⟨pre,ρ,[]⟩])::t) ⟨dU d .top env,af⟩):W P G fin (.dB (⟨d,.call f as,none,pre⟩::os) log::t) ⟨env,af⟩:=by
 refine QG _ hc (fe.hand ρ hT ha hnd ho hid hle) ?_ hr
 simpa using hk
end
end Dv
namespace Dv
open Go
section
variable {P:Program} {G:Nat→Option (List DV)}
theorem cm.abR {k:Nat} {args aS:List LV} {obj:Nat→b_} {base:Nat} {r:LV} {aH aq:List aC} (ρ Z:List Nat) (hT:bh P G k aS aH r aq) (ha:ag obj ρ Z args aS) (hnd:ρ.Nodup) (hz:∀ z∈Z,z∉ρ) (hZ:∀ z∈Z,∃ et e rows,obj z=.live (.dat et e rows)∨obj z=.live (.kK et e rows)) (ho:ρ.map obj=aH.map (fun ob=>b_.live (ff (bu ρ base) ob))) (hid:aH.all (dV ρ.length)=true) (hle:aH.length≤aq.length) :
  cm P G k args obj base { r:=rn (bu ρ base) r,rd:=ρ++Z,wr:=ρ.zip (aq.map (ff (bu ρ base)))++gh obj Z,nw:=(aq.drop ρ.length).map (ff (bu ρ base)) }:=
 ⟨⟨ρ,Z,false,aS,aH,r,aq,(fun _=>true),(fun _ _ _ h=>by cases h),hnd,hz,(fun z h=>.inl (hZ z h)),by have:=congrArg List.length ho; simpa using this.symm,(fun i o hi=>by
   have h1:(ρ.map obj)[i]? = some (obj o):=by rw [List.getElem?_map,hi]; rfl
   rw [ho,List.getElem?_map] at h1
   cases hf:aH[i]? with
   | none=>rw [hf] at h1; cases h1
   | some ob=>rw [hf] at h1; simp at h1; exact ⟨ob,rfl,h1.symm⟩),hid,ha,(fun h=>by cases h),hle,hT,by rw [List.filter_eq_self.2 (fun _ _=>rfl)]; simp⟩⟩
variable {fin:St→Prop} {env:List (Nat×LV)} {af:List (Option aC)} {os:List dY} {t:List It} {log:List iH}
theorem AM {d:Option Nat} {f:bM} {as:List bM} {pre:List Nat} {k:Nat} {fs cs aS:List LV} {r:LV} {aH aq:List aC} (ρ Z:List Nat) (hT:bh P G k aS aH r aq) (hc:callee (f.ev G (aW env))=some (k,fs,cs)) (ha:ag (au af) ρ Z (fs++as.map (·.ev G (aW env))++cs) aS)
  (hnd:ρ.Nodup) (hz:∀ z∈Z,z∉ρ) (hZ:∀ z∈Z,∃ et e rows,au af z=.live (.dat et e rows)∨au af z=.live (.kK et e rows)) (ho:ρ.map (au af)=aH.map (fun ob=>b_.live (ff (bu ρ af.length) ob))) (hid:aH.all (dV ρ.length)=true) (hle:aH.length≤aq.length)
  (hk:W P G fin (.dB os (log++[⟨pre,ρ++Z,(EK af.length ((aq.drop ρ.length).map (ff (bu ρ af.length)))++(ρ.zip (aq.map (ff (bu ρ af.length)))++gh (au af) Z)).map (·.1)⟩])::t) ⟨dU d (rn (bu ρ af.length) r) env,fH (ρ.zip (aq.map (ff (bu ρ af.length)))++gh (au af) Z) af++((aq.drop ρ.length).map (ff (bu ρ af.length))).map some⟩):W P G fin (.dB (⟨d,.call f as,none,pre⟩::os) log::t) ⟨env,af⟩:=by
 refine oP _ hc (cm.abR ρ Z hT ha hnd hz hZ ho hid hle) ?_
 simpa [eV.owned] using hk
theorem cm.look {k:Nat} {args aS:List LV} {obj:Nat→b_} {base:Nat} {r:LV} {aH:List aC} (ρ:List Nat) (hT:bh P G k aS aH r aH) (ha:ag obj ρ [] args aS) (hnd:ρ.Nodup) (ho:ρ.map obj=aH.map (fun ob=>b_.live (ff (bu ρ base) ob))) (hid:aH.all (dV ρ.length)=true) :
  cm P G k args obj base { r:=rn (bu ρ base) r,rd:=ρ,wr:=[],nw:=[] }:=by
 have hlen:aH.length=ρ.length:=by have:=congrArg List.length ho; simpa using this.symm
 refine ⟨⟨ρ,[],false,aS,aH,r,aH,(fun _=>false),(fun _ _ _ _=>rfl),hnd,(fun _ h=>by cases h),(fun _ h=>by cases h),hlen,(fun i o hi=>?_),hid,ha,(fun h=>by cases h),Nat.le_refl _,hT,?_⟩⟩
 ·have h1:(ρ.map obj)[i]? = some (obj o):=by rw [List.getElem?_map,hi]; rfl
  rw [ho,List.getElem?_map] at h1
  cases hf:aH[i]? with
  | none=>rw [hf] at h1; cases h1
  | some ob=>rw [hf] at h1; simp at h1; exact ⟨ob,rfl,h1.symm⟩
 ·rw [List.drop_eq_nil_of_le (by omega)]
  simp [gh]
theorem gL {d:Option Nat} {f:bM} {as:List bM} {pre:List Nat} {k:Nat} {fs cs aS:List LV} {r:LV} {aH:List aC} (ρ:List Nat) (hT:bh P G k aS aH r aH) (hc:callee (f.ev G (aW env))=some (k,fs,cs)) (ha:ag (au af) ρ [] (fs++as.map (·.ev G (aW env))++cs) aS)
  (hnd:ρ.Nodup) (ho:ρ.map (au af)=aH.map (fun ob=>b_.live (ff (bu ρ af.length) ob))) (hid:aH.all (dV ρ.length)=true)
  (hk:W P G fin (.ops os::t) ⟨dU d (rn (bu ρ af.length) r) env,af⟩):W P G fin (.ops (⟨d,.call f as,none,pre⟩::os)::t) ⟨env,af⟩:=by
 refine wk _ hc (cm.look ρ hT ha hnd ho hid) ?_
 simpa [fH] using hk
theorem f_ {d:Option Nat} {f:bM} {as:List bM} {pre:List Nat} {k:Nat} {fs cs aS:List LV} {r:LV} {aH:List aC} (ρ:List Nat) (hT:bh P G k aS aH r aH) (hc:callee (f.ev G (aW env))=some (k,fs,cs)) (ha:ag (au af) ρ [] (fs++as.map (·.ev G (aW env))++cs) aS)
  (hnd:ρ.Nodup) (ho:ρ.map (au af)=aH.map (fun ob=>b_.live (ff (bu ρ af.length) ob))) (hid:aH.all (dV ρ.length)=true)
  (hk:W P G fin (.dB os (log++[⟨pre,ρ,[]⟩])::t) ⟨dU d (rn (bu ρ af.length) r) env,af⟩):W P G fin (.dB (⟨d,.call f as,none,pre⟩::os) log::t) ⟨env,af⟩:=by
 refine oP _ hc (cm.look ρ hT ha hnd ho hid) ?_
 simpa [eV.owned,fH,EK] using hk
end
end Dv
namespace Dv
open Go
section
variable {P:Program} {G:Nat→Option (List DV)} {J J0:Nat→Prop} {w w0:World} {ι bV:Nat→Nat→Option Nat}
theorem DB {fn:Func} {rv:List RV} {r:LV} {rs:List LV} (Z:List Nat) {s:St} {tmps:Array Value} (S:aF G J w ι s.obj) (he:∀ t,cT J w ι (s.get t) (tmps.getD t Go.undef)) (S0:aF G J0 w0 bV (au [])) (E:Ext (au []) s.obj J0 J bV ι w0 w)
  (LM:oI P fn.results.toList=some rv) (zP:yf.of s rv=some rs) (Ds:∀ z∈Z,∃ et e rows,s.obj z=.live (.dat et e rows)∨s.obj z=.live (.kK et e rows)) (hR:ah s.obj [] Z (aP rs) r) :
  ∃ v,(results fn tmps).run P w=.ok v w∧aN G (au []) (au []) J0 bV w0 r v w:=by
 obtain ⟨us,XZ,AZ⟩:=yf.sound (a:={ tmps:=tmps,defers:=[] }) S he LM zP
 have hm:(fn.results.mapM (EA tmps)).run P w=.ok us.toArray w:=by
  rw [Array.mapM_eq_mapM_toList,Sem.run_map,XZ]; rfl
 have hv:∃ v,(results fn tmps).run P w=.ok v w∧cT J w ι (aP rs) v:=by
  refine ⟨if h:us.toArray.size=1 then us.toArray[0] else .tuple us.toArray,?_,?_⟩
  ·rw [sH,Sem.run_bind,hm]
   rfl
  ·have O7:=AZ.length
   cases rs with
   | nil=>
     cases us with
     | nil=>exact ⟨#[],rfl,trivial⟩
     | cons _ _=>simp at O7
   | cons x xs=>
     cases us with
     | nil=>simp at O7
     | cons u us=>
       cases xs with
       | nil=>
         cases us with
         | nil=>exact AZ.1
         | cons _ _=>simp at O7
       | cons y ys=>
         cases us with
         | nil=>simp at O7
         | cons u2 us=>exact ⟨_,by simp,AZ⟩
 obtain ⟨v,hv1,HF⟩:=hv
 refine ⟨v,hv1,?_⟩
 obtain ⟨S',hown⟩:=S.sub (ρ:=[]) (Z:=Z) (aH:=[]) (base:=0) List.nodup_nil (fun _ _ h=>by cases h) rfl (fun i o h=>by simp at h) rfl (fun z hz=>.inl (Ds z hz))
 refine ⟨_,_,S',oN S _ _ v hR HF,⟨E.ev.os,E.ev.tape,E.ev.output,E.ev.size,E.ev.same,E.ev.shape,fun b hb=>.inl (E.ev.gP b hb),fun b hb=>?_,fun o n b hb=>?_⟩,?_⟩
 ·rcases hb with hb | ⟨z,Zn,MV⟩
  ·exact E.ev.vQ b hb
  ·rcases E.own b ⟨z,MV⟩ with h1 | h1
   ·exact .inr (.inr h1)
   ·exact .inr (.inl h1)
 ·have:=S0.rep o
  rw [cv (by simp)] at this
  rw [this n] at hb; cases hb
 ·rintro b ⟨i,hb⟩
  obtain ⟨o,_,h2⟩:=hown i b hb
  exact E.own b ⟨o,h2⟩
end
section
variable {P:Program} {G:Nat→Option (List DV)} {D:Dk} {N:Nat} {bf:Nat→b_} {J0:Nat→Prop} {bV:Nat→Nat→Option Nat} {w0:World} {Q:Exit→Act→World→Prop}
theorem Ks {code Yg:Code} {c:C} {s s1:St} {a:Act} {w:World} (hc:eD P N code=some c) (h:vc P G c s ⟨fun s'=>s'=s1,fun _ _=>False,fun _=>False,qZ,none⟩) (hA:nR G D N bf J0 bV w0 s a w)
  (hk:∀ a w,nR G D N bf J0 bV w0 s1 a w→Yg.wp P Q a w) (HM:j7 c=true:=by kernel_rfl):(Code.seq code Yg).wp P Q a w:=by
 refine wp_seq (wp_mono ((wpIn_wide (n:=0)).1 (eL (ro:=none) code c hc (.inl HM) s _ h oO.no (MT.no _) a w hA)) (fun e a' w' hq=>?_))
 cases e with
 | normal=>obtain ⟨s',uH,rfl⟩:=hq; exact hk a' w' uH
 | ret=>obtain ⟨s,_,h⟩:=hq; exact h.elim
 | exit i=>obtain ⟨_,s,_,h⟩:=hq; exact h.elim
 | goto l=>exact hq.elim
 | panic ch=>obtain ⟨_,s,_,_,_,h⟩:=hq; exact h.elim
 | outgrown=>exact hq.elim
theorem Kt {code:Code} {c:C} {s:St} {a:Act} {w:World} {fin pan:St→Prop} (hc:eD P N code=some c) (h:vc P G c s ⟨fin,fun i s'=>i=gN∧pan s',fin,qZ,none⟩) (hA:nR G D N bf J0 bV w0 s a w)
  (hk:∀ s a w,nR G D N bf J0 bV w0 s a w→fin s→Q .normal a w∧Q .ret a w)
  (hp:∀ v s a w,(D.wN=false→a.defers=D.ds)→Vj G bf J0 bV w0 s.get s.obj a w→pan (jT v s)→Q (.panic [{ v:=v,recovered:=false }]) a w) (HM:j7 c=true:=by kernel_rfl):code.wp P Q a w:=by
 refine wp_mono ((wpIn_wide (n:=0)).1 (eL (ro:=none) code c hc (.inl HM) s _ h oO.no (MT.no _) a w hA)) (fun e a' w' hq=>?_)
 cases e with
 | normal=>obtain ⟨s',uH,h⟩:=hq; exact (hk s' a' w' uH h).1
 | ret=>obtain ⟨s',uH,h⟩:=hq; exact (hk s' a' w' uH h).2
 | exit i=>obtain ⟨hi,s,_,h,_⟩:=hq; exact absurd h hi
 | goto l=>exact hq.elim
 | panic ch=>obtain ⟨v,s',rfl,h1,h2,_,h3⟩:=hq; exact hp v s' a' w' h1 h2 h3
 | outgrown=>exact hq.elim
theorem Kh {args:List LV} {vs:Array Value} {n:Nat} {w:World} {aH:List aC} (S0:aF G J0 w bV (au (aH.map some))) (hargs:ck J0 w bV args vs.toList) (hn:args.length≤n) (hl:n≤YS:=by decide) :
  nR G (Dk.plain [] false) n (au (aH.map some)) J0 bV w ⟨fm 0 args,aH.map some⟩ { tmps:=vs++Array.replicate (n-vs.size) Go.undef,defers:=[] } w:=by
 refine ⟨J0,bV,⟨S0,fun t=>?_,?_,Marks.plain _ _,trivial,hl⟩,Ext.refl ..⟩
 ·have h1:=lT args vs.toList 0 t hargs
  simp only [Nat.zero_le,if_true,Nat.sub_zero] at h1
  have h2:(vs++Array.replicate (n-vs.size) Go.undef).getD t Go.undef=(vs.toList[t]?).getD Go.undef:=by
   simp only [Array.getD_eq_getD_getElem?,Array.getElem?_append,Array.getElem?_toList]
   by_cases ht:t<vs.size
   ·rw [if_pos ht]
   ·rw [if_neg ht,Array.getElem?_eq_none (Nat.le_of_not_lt ht),Array.getElem?_replicate]
    split <;> rfl
  rw [h2]; exact h1
 ·have hvl:vs.size=args.length:=by have:=hargs.length; simpa using this.symm
  simp; omega
end
theorem EJ {l:List (Option aC)} {i:Nat} (h:i<l.length) (ob:aC):au (l.set i (some ob))=fun o=>if o=i then .live ob else au l o:=by
 funext o
 unfold au
 by_cases ho:o=i
 ·subst ho; rw [List.getElem?_set_self h]; simp
 ·rw [List.getElem?_set_ne (fun e=>ho e.symm),if_neg ho]
section
variable {P:Program} {G G0:Nat→Option (List DV)} {J J':Nat→Prop} {w w':World} {ι ι':Nat→Nat→Option Nat} {obj obj':Nat→b_}
theorem aF.less (S:aF G J w ι obj) (hG:∀ g row,G0 g=some row→G g=some row):aF G0 J w ι obj:=⟨S.rep,S.inj,S.oH,S.jcell,fun g row h=>S.uI g row (hG g row h)⟩
theorem aN.more {r:LV} {v:Value} (S:aF G J w ι obj) (h:aN G0 obj obj' J ι w r v w'):aN G obj obj' J ι w r v w':=by
 obtain ⟨J',ι',S',R,E⟩:=h
 refine ⟨J',ι',⟨S'.rep,S'.inj,S'.oH,S'.jcell,fun g row hg=>?_⟩,R,E⟩
 obtain ⟨h1,h2,t,h3⟩:=S.uI g row hg
 exact ⟨E.ev.gP g h1,h2.ev S E.ev h1,t,by rw [E.ev.shape g (S.BY g h1)]; exact h3⟩
theorem bh.up {f:Nat} {args:List LV} {af ay:List aC} {r:LV} (h:bh P G0 f args af r ay) (hG:∀ g row,G0 g=some row→G g=some row):bh P G f args af r ay:=by
 refine ⟨h.1,fun J ι w vs S hargs=>(h.2 J ι w vs (S.less hG) hargs).mono fun e w' hr=>?_⟩
 obtain ⟨v,he,hA⟩:=hr
 exact ⟨v,he,aN.more S hA⟩
theorem aN.RI {r:LV} {v:Value} (S:aF G J w ι obj) (hb:RowKit.Below w.heap.size w w') (hr:∀ J' w' ι',cT J' w' ι' r v):aN G obj obj J ι w r v w':=by
 have hsame:∀ b,b<w.heap.size→w'.heap[b]? = w.heap[b]?:=fun b h=>hb.block b h
 have hE:Ev (Own ι obj) J J ι ι w w':=⟨hb.os,hb.tape,hb.output,hb.size,fun b h _=>hsame b h,fun b h=>bH (hsame b h),fun _ h=>h,fun _ h=>.inl h,fun _ _ _ h=>h⟩
 refine ⟨J,ι,S.still (fun b h=>hsame b (S.BY b h)) (fun b h=>hsame b (S.mU h)) (fun b h=>bH (hsame b (gA h))),hr _ _ _,hE,fun b h=>.inl h⟩
end
end Dv
