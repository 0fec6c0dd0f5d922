/- part of the proof -/
import Derived.Test.YtjabcoodhpefhaaGreatDoorXB
import Derived.KernelRfl
import Derived.Test.YtjabcoodhpefhaaGreatDoorProg
import Derived.RangeFuncWrites
import Derived.RangeFuncBox
import Derived.Shelf.Abstract
import Derived.Shelf.RegionOpen
import Derived.WalkKit
import Derived.Deep.RegionHeld
import Derived.TacticsInMore
import Derived.LoopIn
set_option linter.all false
set_option maxHeartbeats 8000000
set_option maxRecDepth 1000000
namespace Dv
open Go Int Go.IntKind List Go.Proofs.Tryz Go.World
section
variable{a b:C}{x:Nat×C×List RV}{ts ps:List Nat}{m k B base:Nat}{α β:Type}{T:Bool}{v:Array Value}{e:fN}{X:Value->fN->St->Prop}{K U:St->fN->Prop}{S:Option Nat}{ac:List bF}{fs cs args aK vs:List LV}{r:LV}{aj ai aC:List ah}{rv:List RV}{n:St->Prop}{fn:Func}(ρ Z:List Nat)
class NC(i:I):Prop where
 h:∀f ac,i≠.call f ac
instance {a} : NC (.mv a):=⟨nofun⟩
instance {a b c} : NC (.pick a b c):=⟨nofun⟩
instance {a b} : NC (.new a b):=⟨nofun⟩
instance {a b} : NC (.box a b):=⟨nofun⟩
instance {a b} : NC (.build a b):=⟨nofun⟩
instance {a b c} : NC (.Y9 a b c):=⟨nofun⟩
instance {a} : NC (.ld1 a):=⟨nofun⟩
instance {a b} : NC (.Es a b):=⟨nofun⟩
instance {a b c} : NC (.st a b c):=⟨nofun⟩
instance {a} : NC (.kL a):=⟨nofun⟩
instance {a b c} : NC (.bin a b c):=⟨nofun⟩
instance {a b c} : NC (.eqb a b c):=⟨nofun⟩
instance {a} : NC (.not a):=⟨nofun⟩
instance {a b} : NC (.cvt a b):=⟨nofun⟩
instance {a b} : NC (.B0 a b):=⟨nofun⟩
instance {a b} : NC (.XJ a b):=⟨nofun⟩
instance {a b c} : NC (.XI a b c):=⟨nofun⟩
instance {a b c} : NC (.BU a b c):=⟨nofun⟩
instance {a b c d} : NC (.ixr a b c d):=⟨nofun⟩
instance {a b c} : NC (.ix1 a b c):=⟨nofun⟩
instance {a b} : NC (.ixs a b):=⟨nofun⟩
instance {a} : NC (.len a):=⟨nofun⟩
instance {a} : NC (.lens a):=⟨nofun⟩
instance {a b c} : NC (.mkf a b c):=⟨nofun⟩
instance {a b} : NC (.ext a b):=⟨nofun⟩
instance {a b c d e} : NC (.app a b c d e):=⟨nofun⟩
instance {a b} : NC (.min a b):=⟨nofun⟩
instance {a b} : NC (.max a b):=⟨nofun⟩
instance {a b} : NC (.PI a b):=⟨nofun⟩
instance {a b} : NC (.PG a b):=⟨nofun⟩
instance {a b c d} : NC (.eqs a b c d):=⟨nofun⟩
instance {a} : NC (.neg a):=⟨nofun⟩
instance {a b c d} : NC (.ixn a b c d):=⟨nofun⟩
instance {a b c d e} : NC (.sli a b c d e):=⟨nofun⟩
instance {a b c} : NC (.sls a b c):=⟨nofun⟩
instance {a} : NC (.more a):=⟨nofun⟩
inductive It where
 |c (code:C)
 |ops (l:List er)
 |en (l:List er) (log:List iI)
 |blk (i:Nat)
 |lp (ts:List Nat) (m:Nat) (I:Nat->St->Prop) (k:Nat)
 |pn (p:St->Prop)
 |Bu (p:Nat) (pre:List Nat) (l:List er) (log:List iI)
 |yd (Y:YO)
 |bs (B:Nat)
 |rt (n:St->Prop) (x:Nat->St->Prop)
def Wy:List It->YO
 |[]=>uP
 |.yd Y::_=>Y
 |.c _::t=>Wy t
 |.ops _::t=>Wy t
 |.en _ _::t=>Wy t
 |.blk _::t=>Wy t
 |.lp _ _ _ _::t=>Wy t
 |.pn _::t=>Wy t
 |.Bu _ _ _ _::t=>Wy t
 |.rt _ _::_=>uP
 |.bs _::t=>Wy t
def Wb:List It->Option Nat
 |[]=>none
 |.bs B::_=>some B
 |.yd _::_=>none
 |.c _::t=>Wb t
 |.ops _::t=>Wb t
 |.en _ _::t=>Wb t
 |.blk _::t=>Wb t
 |.lp _ _ _ _::t=>Wb t
 |.pn _::t=>Wb t
 |.Bu _ _ _ _::t=>Wb t
 |.rt _ _::_=>none
section
variable (P:Program) (G:tY) (fin:St->Prop)
mutual
def W:List It->St->Prop
 |[],s=>fin s
 |.c code::t,s=>vc P G code s ⟨W t,λi A=>Wx i t A,fin,Wy t,Wb t⟩
 |.ops l::t,s=>mY P G (Wy t) (λv A=>Wx TE t (lF v A)) l s (W t)
 |.en l log::t,s=>gD P G (λv A=>Wx TE t (lF v A)) l s log (λA b=>indep b=true/\W t A)
 |.Bu p pre l log::_,s=>rL P G p pre l s log
 |.pn _::t,s=>W t s
 |.yd _::t,s=>W t s
 |.bs _::t,s=>W t s
 |.rt n _::_,s=>n s
 |.blk _::t,s=>W t s
 |.lp ts m I k::t,s=>∃j,j<k/\∃e,I j e/\JV G (CE (Wb t) m) s e
def Wx(i:Nat):List It->St->Prop
 |[],_=>False
 |.c _::t,s=>Wx i t s
 |.ops _::t,s=>Wx i t s
 |.en _ _::t,s=>Wx i t s
 |.blk j::t,s=>if i=j then W t s else Wx i t s
 |.lp _ _ _ _::t,s=>Wx i t s
 |.pn p::t,s=>if i=TE then p s else Wx i t s
 |.Bu _ _ _ _::t,s=>Wx i t s
 |.yd _::t,s=>Wx i t s
 |.bs _::t,s=>Wx i t s
 |.rt _ x::_,s=>x i s
end
end
section
variable (P:Program) (G:tY) (fin:St->Prop)
def WE(o:Option fN)(d:Option Nat)(os:List er)(t:List It)(env:List (Nat×LV))(af:List (Option ah)):Prop:=match o with
 |some e=>W P G fin (.ops os::t) ⟨di d e.r env,CY e.wr af++e.nw.map some⟩
 |none=>False
def WED(o:Option fN)(d:Option Nat)(pre:List Nat)(os:List er)(log:List iI)(t:List It)(env:List (Nat×LV))(af:List (Option ah)):Prop:=match o with
 |some e=>W P G fin (.en os (log++[⟨pre,e.rd,(e.owned af.length).map (·.1)⟩])::t) ⟨di d e.r env,CY e.wr af++e.nw.map some⟩
 |none=>False
def WG(v:LV)(T:Bool)(d:Option Nat)(i:I)(pre:List Nat)(os:List er)(t:List It)(env:List (Nat×LV))(af:List (Option ah)):Prop:=match v with
 |.d (.val (.bool b))=>if b=T then W P G fin (.ops (⟨d,i,none,pre⟩::os)::t) ⟨env,af⟩else W P G fin (.ops os::t) ⟨di d .undef env,af⟩
 |.d (.val (.tuple _))=>W P G fin (.ops os::t) ⟨di d .undef env,af⟩
 |_=>False
def NR(v:LV)(T:Bool)(d:Option Nat)(i:I)(pre:List Nat)(os:List er)(log:List iI)(t:List It)(env:List (Nat×LV))(af:List (Option ah)):Prop:=match v with
 |.d (.val (.bool b))=>if b=T then W P G fin (.en (⟨d,i,none,pre⟩::os) log::t) ⟨env,af⟩else W P G fin (.en os (log++[⟨pre,[],[]⟩])::t) ⟨di d .undef env,af⟩
 |.d (.val (.tuple _))=>W P G fin (.en os (log++[⟨pre,[],[]⟩])::t) ⟨di d .undef env,af⟩
 |_=>False
def WC(v:LV)(a b:C)(t:List It)(env:List (Nat×LV))(af:List (Option ah)):Prop:=match v with
 |.d (.val (.bool x))=>if x=true then W P G fin (.c a::t) ⟨env,af⟩else W P G fin (.c b::t) ⟨env,af⟩
 |.ec=>W P G fin (.c a::t) ⟨env,af⟩/\W P G fin (.c b::t) ⟨env,af⟩
 |_=>False
end
section
variable {P:Program} {G:tY} {fin:St->Prop} {t:List It} {s:St} {env:List (Nat×LV)} {af:List (Option ah)} {os:List er} {log:List iI}
def acC:W P G fin [] s=fin s:=by simp only[W]
def acz: W P G fin (.c (.seq a b)::t) s=W P G fin (.c a::.c b::t) s:=by simp only[W,vc,Wx,Wy,Wb]
def aaU:W P G fin (.c .skip::t) s=W P G fin t s:=by simp only[W,vc]
def acA:W P G fin (.c .ret::t) s=fin s:=by simp only[W,vc]
def aaX{i:Nat} : W P G fin (.c (.exit i)::t) s=Wx P G fin i t s:=by simp only[W,vc]
def X6: W P G fin (.c (.scope b)::t) s=W P G fin (.c b::t) s:=by simp only[W,vc]
def X_{i:Nat} : W P G fin (.c (.block i b)::t) s=W P G fin (.c b::.blk i::t) s:=by simp only[W,vc,Wx,Wy,Wb]
def acH{i:Nat} : W P G fin (.blk i::t) s=W P G fin t s:=by simp only[W]
def acB{l:List er} : W P G fin (.c (.mj l)::t) s=W P G fin (.ops l::t) s:=by simp only[W,vc]
def aaV{l:List er} : W P G fin (.c (.mK l)::t) s=W P G fin (.en l []::t) s:=by simp only[W,vc]
def aa1{c:bF} : W P G fin (.c (.cond c a b)::t) ⟨env,af⟩=WC P G fin (c.ev G (aN env)) a b t env af:=by simp only[W,vc,WC];rfl
def acJ: WC P G fin (.d (.val (.bool true))) a b t env af=W P G fin (.c a::t) ⟨env,af⟩:=by simp only[WC,if_true]
def acK: WC P G fin (.d (.val (.bool false))) a b t env af=W P G fin (.c b::t) ⟨env,af⟩:=by simp[WC]
def aa2: WC P G fin .ec a b t env af=(W P G fin (.c a::t) ⟨env,af⟩/\W P G fin (.c b::t) ⟨env,af⟩):=by simp only[WC]
def bp{x:Bool}(H:x=true->W P G fin (.c a::t) ⟨env,af⟩)(h2:x=false->W P G fin (.c b::t) ⟨env,af⟩):WC P G fin (.d (.val (.bool x))) a b t env af:=by
 cases x
 .rw [acK];exact h2 rfl
 .rw [acJ];exact H rfl
def acE{I:Nat->St->Prop} : W P G fin (.lp ts m I k::t) s=(∃j,j<k/\∃e,I j e/\JV G (CE (Wb t) m) s e):=by simp only[W]
def adF{i:Nat}{x:C} : Wx P G fin i (.c x::t) s=Wx P G fin i t s:=by simp only[Wx]
def aaR{i:Nat}{x:List er} : Wx P G fin i (.ops x::t) s=Wx P G fin i t s:=by simp only[Wx]
def acw{i:Nat}{I:Nat->St->Prop} : Wx P G fin i (.lp ts m I k::t) s=Wx P G fin i t s:=by simp only[Wx]
def adI: W P G fin (.bs B::t) s=W P G fin t s:=by simp only[W]
def acy{i:Nat} : Wx P G fin i (.bs B::t) s=Wx P G fin i t s:=by simp only[Wx]
def aaS{i j:Nat} : Wx P G fin i (.blk j::t) s=if i=j then W P G fin t s else Wx P G fin i t s:=by simp only[Wx]
def aaW(ts:List Nat)(q:List Ad)(I:Nat->St->Prop)(N:Nat)(h0:I N { (bQ q s)with env:=ts.map λt=>(t,(bQ q s).get t) })(h:∀k A,I k A->W P G fin (.c b::.lp ts (bQ q s).af.length I k::t) A):W P G fin (.c (.loop b)::t) s:=by refine⟨ts,I,N,q,h0,λk A hk=>?_⟩;have:=h k A hk;exact this
def JN(Inv:α->Prop)(μ:α->Nat)(S:α->St):Nat->St->Prop:=λm s=>∃a,Inv a/\m=μ a/\s=S a
theorem aQ(ts:List Nat)(q:List Ad)(Inv:α->Prop)(μ:α->Nat)(S:α->St)(e:α)(u:({ (bQ q s)with env:=ts.map λt=>(t,(bQ q s).get t) } : St)=S e)(h0:Inv e)
  (h:∀a,Inv a->W P G fin (.c b::.lp ts (bQ q s).af.length (JN Inv μ S) (μ a)::t) (S a)):W P G fin (.c (.loop b)::t) s:=
 aaW ts q (JN Inv μ S) (μ e) ⟨e,h0,rfl,u⟩ (λk A ⟨a,H,h2,K⟩=>by grind)
def aY{Inv:α->Prop}{μ:α->Nat}{S:α->St}(b:α)(y:s.FX ts m)(u:s.keep ts m=S b)(a:Inv b)(n:μ b<k):W P G fin (.lp ts m (JN Inv μ S) k::t) s:=by rw[acE];exact⟨μ b,n,_,⟨b,a,rfl,rfl⟩,u▸JV.le (XZ _ _) (JV.keep y)⟩
def acD{Inv:α->Prop}{μ:α->Nat}{S:α->St}(b:α)(c:JV G (CE (Wb t) m) s (S b))(a:Inv b)(n:μ b<k):W P G fin (.lp ts m (JN Inv μ S) k::t) s:=by rw[acE];exact⟨μ b,n,_,⟨b,a,rfl,rfl⟩,c⟩
def Rc:W P G fin (.ops []::t) s=W P G fin t s:=by simp only[W,mY]
def US(h:(log.all λe=>e.wr.isEmpty)=true):W P G fin (.en [] log::t) s=W P G fin t s:=by simp only[W,gD,indep,h,Bool.true_or];exact propext ⟨λh=>h.2,λh=>⟨trivial,h⟩⟩
def aD(h:indep log=true)(hk:W P G fin t s):W P G fin (.en [] log::t) s:=by simp only[W,gD];exact⟨h,hk⟩
def X7{d:Option Nat}{i:I}{g:Nat}{pre:List Nat} : W P G fin (.ops (⟨d,i,some (g,T),pre⟩::os)::t) ⟨env,af⟩=WG P G fin (aN env g) T d i pre os t env af:=by simp only[W,mY,Fw,G6,WG];rfl
def UT{d:Option Nat}{i:I}{g:Nat}{pre:List Nat} : W P G fin (.en (⟨d,i,some (g,T),pre⟩::os) log::t) ⟨env,af⟩=NR P G fin (aN env g) T d i pre os log t env af:=by simp only[W,gD,Fw,G6,NR];rfl
def Zb{d:Option Nat}{i:I}{pre:List Nat} : WG P G fin (.d (.val (.bool true))) true d i pre os t env af=W P G fin (.ops (⟨d,i,none,pre⟩::os)::t) ⟨env,af⟩:=by simp only[WG,if_true]
def Ze{d:Option Nat}{i:I}{pre:List Nat} : WG P G fin (.d (.val (.bool false))) false d i pre os t env af=W P G fin (.ops (⟨d,i,none,pre⟩::os)::t) ⟨env,af⟩:=by simp only[WG,if_true]
def Zc{d:Option Nat}{i:I}{pre:List Nat} : WG P G fin (.d (.val (.bool true))) false d i pre os t env af=W P G fin (.ops os::t) ⟨di d .undef env,af⟩:=by simp[WG]
def Zd{d:Option Nat}{i:I}{pre:List Nat} : WG P G fin (.d (.val (.bool false))) true d i pre os t env af=W P G fin (.ops os::t) ⟨di d .undef env,af⟩:=by simp[WG]
def adJ{d:Option Nat}{i:I}{pre:List Nat} : WG P G fin (.d (.val (.tuple v))) T d i pre os t env af=W P G fin (.ops os::t) ⟨di d .undef env,af⟩:=by simp only[WG]
def dK{x:Bool}{d:Option Nat}{i:I}{pre:List Nat}(H:x=T->W P G fin (.ops (⟨d,i,none,pre⟩::os)::t) ⟨env,af⟩)(h2:x=(!T)->W P G fin (.ops os::t) ⟨di d .undef env,af⟩):WG P G fin (.d (.val (.bool x))) T d i pre os t env af:=by
 cases x<;>cases T
 .rw [Ze];exact H rfl
 .rw [Zd];exact h2 rfl
 .rw [Zc];exact h2 rfl
 .rw [Zb];exact H rfl
def UX{d:Option Nat}{i:I}{pre:List Nat} : NR P G fin (.d (.val (.bool true))) true d i pre os log t env af=W P G fin (.en (⟨d,i,none,pre⟩::os) log::t) ⟨env,af⟩:=by simp only[NR,if_true]
def U0{d:Option Nat}{i:I}{pre:List Nat} : NR P G fin (.d (.val (.bool false))) false d i pre os log t env af=W P G fin (.en (⟨d,i,none,pre⟩::os) log::t) ⟨env,af⟩:=by simp only[NR,if_true]
def UY{d:Option Nat}{i:I}{pre:List Nat} : NR P G fin (.d (.val (.bool true))) false d i pre os log t env af=W P G fin (.en os (log++[⟨pre,[],[]⟩])::t) ⟨di d .undef env,af⟩:=by simp[NR]
def UZ{d:Option Nat}{i:I}{pre:List Nat} : NR P G fin (.d (.val (.bool false))) true d i pre os log t env af=W P G fin (.en os (log++[⟨pre,[],[]⟩])::t) ⟨di d .undef env,af⟩:=by simp[NR]
def acI{d:Option Nat}{i:I}{pre:List Nat} : NR P G fin (.d (.val (.tuple v))) T d i pre os log t env af=W P G fin (.en os (log++[⟨pre,[],[]⟩])::t) ⟨di d .undef env,af⟩:=by simp only[NR]
def iV{x:Bool}{d:Option Nat}{i:I}{pre:List Nat}(H:x=T->W P G fin (.en (⟨d,i,none,pre⟩::os) log::t) ⟨env,af⟩)(h2:x=(!T)->W P G fin (.en os (log++[⟨pre,[],[]⟩])::t) ⟨di d .undef env,af⟩):NR P G fin (.d (.val (.bool x))) T d i pre os log t env af:=by
 cases x<;>cases T
 .rw [U0];exact H rfl
 .rw [UZ];exact h2 rfl
 .rw [UY];exact h2 rfl
 .rw [UX];exact H rfl
theorem BZ{x:Bool}{d:Option Nat}{i:I}{pre:List Nat}(H:x=(!T)->W P G fin (.ops (⟨d,i,none,pre⟩::os)::t) ⟨env,af⟩)(h2:x=T->W P G fin (.ops os::t) ⟨di d .undef env,af⟩):WG P G fin (.d (.val (.bool (!x)))) T d i pre os t env af:=
 dK (λh=>H (by simp_all)) (λh=>h2 (by grind))
theorem CO{x:Bool}{d:Option Nat}{i:I}{pre:List Nat}(H:x=(!T)->W P G fin (.en (⟨d,i,none,pre⟩::os) log::t) ⟨env,af⟩)(h2:x=T->W P G fin (.en os (log++[⟨pre,[],[]⟩])::t) ⟨di d .undef env,af⟩):NR P G fin (.d (.val (.bool (!x)))) T d i pre os log t env af:=
 iV (λh=>H (by simp_all)) (λh=>h2 (by grind))
theorem mW{x:Bool}(H:x=false->W P G fin (.c a::t) ⟨env,af⟩)(h2:x=true->W P G fin (.c b::t) ⟨env,af⟩):WC P G fin (.d (.val (.bool (!x)))) a b t env af:=
 bp (λh=>H (by grind)) (λh=>h2 (by grind))
def Ya{d:Option Nat} : WE P G fin (some e) d os t env af=W P G fin (.ops os::t) ⟨di d e.r env,CY e.wr af++e.nw.map some⟩:=by simp only[WE]
def U1{d:Option Nat}{pre:List Nat} : WED P G fin (some e) d pre os log t env af=W P G fin (.en os (log++[⟨pre,e.rd,(e.owned af.length).map (·.1)⟩])::t) ⟨di d e.r env,CY e.wr af++e.nw.map some⟩:=by simp only[WED]
def acF{d:Option Nat}{i:I}{pre:List Nat}(hi:∀f ac,i≠.call f ac):W P G fin (.ops (⟨d,i,none,pre⟩::os)::t) ⟨env,af⟩=WE P G fin (de G (aN env) (an af) af.length i) d os t env af:=by cases i<;>first|rfl|exact absurd rfl (hi _ _)
def aaZ{d:Option Nat}{i:I}{pre:List Nat}(hi:∀f ac,i≠.call f ac):W P G fin (.en (⟨d,i,none,pre⟩::os) log::t) ⟨env,af⟩=WED P G fin (de G (aN env) (an af) af.length i) d pre os log t env af:=by cases i<;>first|rfl|exact absurd rfl (hi _ _)
def aaY{d:Option Nat}{i:I}[hi:NC i]{pre:List Nat} : W P G fin (.ops (⟨d,i,none,pre⟩::os)::t) ⟨env,af⟩=WE P G fin (de G (aN env) (an af) af.length i) d os t env af:=acF hi.h
def Yb{d:Option Nat}{i:I}[hi:NC i]{pre:List Nat} : W P G fin (.en (⟨d,i,none,pre⟩::os) log::t) ⟨env,af⟩=WED P G fin (de G (aN env) (an af) af.length i) d pre os log t env af:=aaZ hi.h
end
section
variable {P:Program} {G:tY}
def xC(Y:YO):Prop:=∀a o y K U,(∀y b o,K y b o->U y b o)->Y a o y K->Y a o y U
def xC.no:xC uP:=λ_ _ _ _ _ _ h=>h.elim
theorem G5{Y:YO}(O:xC Y){a:Value->fN->St->Prop}{o:er}{s:St}(T:∀v e s,X v e s->a v e s)(h:∀s e,K s e->U s e)(E:G6 P G Y X o s K):G6 P G Y a o s U:=by
 unfold G6 at E ⊢;split at E
 .split at E
  .grind
  .unfold vcY at E ⊢;split at E
   .exact O _ _ _ _ _ (λ_ _ _ hk=>h _ _ hk) E
   .exact E
 .grind
theorem G4{Y:YO}(O:xC Y){a:Value->fN->St->Prop}{o:er}{s:St}{c b:St->Prop}(T:∀v e s,X v e s->a v e s)(h:∀s e,K s e->U s e)(h0:∀s,c s->b s)(E:Fw P G Y X o s K c):Fw P G Y a o s U b:=by
 unfold Fw at E ⊢;split at E
 .exact G5 O T h E
 .split at E
  .split at E
   .rename_i V;rw[if_pos V];exact G5 O T h E
   .grind
  .grind
  .exact E
def uz{Y:YO}(O:xC Y){X a:Value->St->Prop}{K U:St->Prop}(T:∀v s,X v s->a v s)(h:∀s,K s->U s):∀(os:List er) (s:St),mY P G Y X os s K->mY P G Y a os s U
 |[],s,E=>h s E
 |o::os,s,E=>by exact G4 O (λv _ s hk=>T v s hk) (λs e hk=>uz O T h os s hk) (λs hk=>uz O T h os s hk) E
def rM{X a:Value->St->Prop}{K U:St->List iI->Prop}(T:∀v s,X v s->a v s)(h:∀s l,K s l->U s l):∀(os:List er) (s:St) (log:List iI),gD P G X os s log K->gD P G a os s log U
 |[],s,log,E=>h s log E
 |o::os,s,log,E=>by exact G4 xC.no (λv _ s hk=>⟨T v _ hk.1,hk.2⟩) (λs e hk=>rM T h os s _ hk) (λs hk=>rM T h os s _ hk) E
theorem ji:∀(c:C) (s:St) (K U:CT),U.b=K.b->U.y=K.y->xC K.y->(∀s,K.n s->U.n s)->(∀i s,K.x i s->U.x i s)->(∀s,K.r s->U.r s)->vc P G c s K->vc P G c s U
 |.skip,s,K,U,X,B,O,T,Z,hr,h=>T s h
 |.mj ops,s,K,U,X,B,O,T,Z,hr,h=>(by simp only[vc]at h ⊢;rw[B];exact uz O (λv s h=>Z _ _ h) T ops s h)
 |.mK ops,s,K,U,X,B,O,T,Z,hr,h=>rM (λv s h=>Z _ _ h) (λs l ⟨H,h2⟩=>⟨H,T s h2⟩) ops s [] h
 |.seq a b,s,K,U,X,B,O,T,Z,hr,h=>ji a s { K with n:=λA=>vc P G b A K } { U with n:=λA=>vc P G b A U } X B O (λs h=>ji b s K U X B O T Z hr h) Z hr h
 |.cond c a b,s,K,U,X,B,O,T,Z,hr,h=>by
  simp only[vc]at h ⊢;split at h
  .split at h
   .rename_i V;rw[if_pos V];exact ji a s K U X B O T Z hr h
   .rename_i V;rw[if_neg V];exact ji b s K U X B O T Z hr h
  .exact ⟨ji a s K U X B O T Z hr h.1,ji b s K U X B O T Z hr h.2⟩
  .exact h
 |.block i b,s,K,U,X,B,O,T,Z,hr,h=>ji b s { K with x:=λj A=>if j=i then K.n A else K.x j A } { U with x:=λj A=>if j=i then U.n A else U.x j A } X B O T (λj s h=>by
  dsimp only at h ⊢;split at h
  .grind
  .rename_i V;rw[if_neg V];exact Z j s h) hr h
 |.loop b,s,K,U,X,B,O,T,Z,hr,h=>by simp only[vc]at h ⊢;obtain⟨ts,I,N,q,h0,H⟩:=h;rw[X];exact⟨ts,I,N,q,h0,λk A hk=>ji b A { K with n:=λE=>∃j,j<k/\∃e,I j e/\JV G (CE K.b (bQ q s).af.length) E e } { U with n:=λE=>∃j,j<k/\∃e,I j e/\JV G (CE K.b (bQ q s).af.length) E e,b:=K.b } rfl B O (λs h=>h) Z hr (H k A hk)⟩
 |.exit i,s,K,U,X,B,O,T,Z,hr,h=>Z i s h
 |.ret,s,K,U,X,B,O,T,Z,hr,h=>hr s h
 |.scope b,s,K,U,X,B,O,T,Z,hr,h=>ji b s K U X B O T Z hr h
 |.rfn g ps a b,s,K,U,X,B,O,T,Z,hr,h=>by
  simp only[vc]at h ⊢;split at h
  .obtain ⟨S,R,H,h2⟩:=h;refine⟨S,R,H,λo aC hR=>?_⟩;rcases h2 o aC hR with ⟨m,u⟩|⟨m,u⟩
   .grind
   .grind
  .exact h
def mG(c:C)(s:St)(K U:CT)(T:∀s,K.n s->U.n s)(Z:∀i s,K.x i s->U.x i s)(hr:∀s,K.r s->U.r s)(h:vc P G c s K)(H:K.y=uP:=by rfl)(h2:U.y=uP:=by rfl)(m:U.b=K.b:=by rfl):vc P G c s U:=
 ji c s K U m (h2.trans H.symm) (H▸xC.no) T Z hr h
theorem yb.mono{s:St} : xC (yb P G S ps a b s):=by
 intro ac o y K U A h;obtain⟨H,h2,m,u⟩:=h;refine⟨H,h2,m,?_⟩;have B:∀(s:St) (c j:CT),vc P G a s c->c.y=uP->j.y=uP->j.b=c.b->(∀s,c.n s->j.n s)->(∀i s,c.x i s->j.x i s)->(∀s,c.r s->j.r s)->vc P G a s j:=λs c j T X e Z O q v=>mG a s c j O q v T X e Z
 refine B _ _ _ u rfl rfl rfl ?_ (λ_ _ h=>h) (λ_ h=>h);intro s1 E;have key:∀(c j:CT),vc P G b s1 c->c.y=uP->j.y=uP->j.b=c.b->(∀s,c.n s->j.n s)->(∀i s,c.x i s->j.x i s)->(∀s,c.r s->j.r s)->vc P G b s1 j:=λc j T X e Z O q v=>mG b s1 c j O q v T X e Z
 refine key _ _ E rfl rfl rfl ?_ ?_ ?_
 .grind
 .grind
 .grind
end
section
variable {P:Program} {G:tY} {fin:St->Prop} {t:List It} {env:List (Nat×LV)} {af:List (Option ah)} {os:List er} {log:List iI}
def lq{d:Option Nat}{f:bF}{pre:List Nat}(e:fN)(U:callee (f.ev G (aN env))=some (k,fs,cs))(h:bZ P G k (fs++ac.map (·.ev G (aN env))++cs) (an af) af.length e)
  (hk:W P G fin (.ops os::t) ⟨di d e.r env,CY e.wr af++e.nw.map some⟩):W P G fin (.ops (⟨d,.call f ac,none,pre⟩::os)::t) ⟨env,af⟩:=by
 simp only[W,mY,Fw,G6];have j:callee (f.ev G (St.get ⟨env,af⟩))=some (k,fs,cs):=U;rw[j];exact .inl ⟨e,h,hk⟩
def mR{d:Option Nat}{f:bF}{pre:List Nat}(e:fN)(U:callee (f.ev G (aN env))=some (k,fs,cs))(h:bZ P G k (fs++ac.map (·.ev G (aN env))++cs) (an af) af.length e)
  (hk:W P G fin (.en os (log++[⟨pre,e.rd,(e.owned af.length).map (·.1)⟩])::t) ⟨di d e.r env,CY e.wr af++e.nw.map some⟩):W P G fin (.en (⟨d,.call f ac,none,pre⟩::os) log::t) ⟨env,af⟩:=by
 simp only[W,gD,Fw,G6];have j:callee (f.ev G (St.get ⟨env,af⟩))=some (k,fs,cs):=U;rw[j];exact .inl ⟨e,h,hk⟩
def bZ.pure{obj:Nat->bK}(c:gd P G k aK [] r [])(j:ay obj [] Z args aK)(S:∀z∈Z,ZR true (obj z))(hr:qH r=true) :
  bZ P G k args obj base { r:=rn (gz [] base) r,rd:=Z,wr:=[],nw:=[] }:=
 ⟨⟨[],Z,true,aK,[],r,[],(λ_=>true),(λ_ _ _ h=>by cases h),nodup_nil,(λ_ _ h=>by cases h),S,rfl,(λi o h=>by simp at h),rfl,j,(λ_=>⟨hr,rfl,rfl⟩),Nat.le_refl _,c,rfl⟩⟩
def bZ.data{obj:Nat->bK}(c:gd P G k aK [] r aj)(j:ay obj [] [] args aK) :
  bZ P G k args obj base { r:=rn (gz [] base) r,rd:=[],wr:=[],nw:=aj.map (bP (gz [] base)) }:=
 ⟨⟨[],[],false,aK,[],r,aj,(λ_=>true),(λ_ _ _ h=>by cases h),nodup_nil,(λ_ h=>by cases h),(λ_ h=>by cases h),rfl,(λi o h=>by simp at h),rfl,j,(λh=>by cases h),Nat.zero_le _,c,rfl⟩⟩
def zQ(rv:List RV)(r:LV)(s:St):Prop:=(match gi.of s rv with|some vs=>some (aR vs)|none=>none)=some r
theorem bZ.hand{obj:Nat->bK}(c:gd P G k aK ai r aj)(j:ay obj ρ [] args aK)(n:ρ.Nodup)(O:ρ.map obj=ai.map (λob=>bK.live (bP (gz ρ base) ob)))(hid:ai.all (aP ρ.length)=true)(q:ai.length<=aj.length) :
  bZ P G k args obj base { r:=rn (gz ρ base) r,rd:=ρ,wr:=ρ.zip (aj.map (bP (gz ρ base))),nw:=(aj.drop ρ.length).map (bP (gz ρ base)) }:=
 ⟨⟨ρ,[],false,aK,ai,r,aj,(λ_=>true),(λ_ _ _ h=>by cases h),n,(λ_ h=>by cases h),(λ_ h=>by cases h),by have:=congrArg length O;simpa using this.symm,(λi o hi=>by
   have H:(ρ.map obj)[i]? = some (obj o):=by grind
   rw[O,getElem?_map]at H;cases V:ai[i]? with
   |none=>grind
   |some ob=>rw[V]at H;simp at H;exact⟨ob,rfl,H.symm⟩),hid,j,(λh=>by cases h),q,c,by rw[filter_eq_self.2 (λ_ _=>rfl)];simp[fA]⟩⟩
def bZ.k9{obj:Nat->bK}(c:gd P G k aK [] r [])(j:ay obj [] Z args aK)(S:∀z∈Z,ZR false (obj z)) :
  bZ P G k args obj base { r:=rn (gz [] base) r,rd:=Z,wr:=fA obj Z,nw:=[] }:=
 ⟨⟨[],Z,false,aK,[],r,[],(λ_=>true),(λ_ _ _ h=>by cases h),nodup_nil,(λ_ _ h=>by cases h),S,rfl,(λi o h=>by simp at h),rfl,j,(λh=>by cases h),Nat.le_refl _,c,rfl⟩⟩
def zR{s:St}(h:gi.of s rv=some vs)(hr:aB s.obj [] [] (aR vs) r):Rj rv 0 r [] s:=
 ⟨[],vs,[],[],h,rfl,nodup_nil,(λ_ h=>by cases h),(λ_ h=>by cases h),rfl,(λi o h=>by simp at h),rfl,hr⟩
def dP{s:St}(h:gi.of s rv=some vs)(S:∀z∈Z,∃et e rows,s.obj z=.live (.dat et e rows)\/s.obj z=.live (.k9 et e rows))(hr:aB s.obj [] Z (aR vs) r):Rj rv 0 r [] s:=
 ⟨[],vs,[],Z,h,rfl,nodup_nil,(λ_ _ h=>by cases h),S,rfl,(λi o h=>by simp at h),rfl,hr⟩
def uv{s:St}{o et e n lo:Nat}{rows:List (List DV)}(q:List Ad)(h:gi.of (bQ q s) rv=some [.sl o n e lo k])(O:(bQ q s).obj o=.live (.dat et e rows)):Rj rv 0 (.sl 0 n e lo k) [.dat et e rows] s:=
 ⟨q,_,[o],[],h,rfl,(by simp),(λ_ h=>by cases h),(λ_ h=>by cases h),rfl,(λi o' h=>by
  cases i with
  |zero=>simp at h;subst h;exact⟨_,rfl,O⟩
  |succ i=>simp at h),rfl,by simp[aR,aB]⟩
theorem ue{s:St}(q:List Ad)(ρ Z:List Nat)(h:gi.of (bQ q s) rv=some vs)(hk:ρ.take k=List.range k)(n:ρ.Nodup)(A:∀z∈Z,z∉ρ)(S:∀z∈Z,∃et e rows,(bQ q s).obj z=.live (.dat et e rows)\/(bQ q s).obj z=.live (.k9 et e rows))
  (O:ρ.map (bQ q s).obj=aj.map (λob=>bK.live (bP (gz ρ 0) ob))) (hid:aj.all (aP ρ.length)=true) (hr:aB (bQ q s).obj ρ Z (aR vs) r):Rj rv k r aj s:=
 ⟨q,vs,ρ,Z,h,hk,n,A,S,by have:=congrArg length O;simpa using this.symm,(λi o hi=>by
  have H:(ρ.map (bQ q s).obj)[i]? = some ((bQ q s).obj o):=by grind
  rw[O,getElem?_map]at H;cases V:aj[i]? with
  |none=>grind
  |some ob=>rw[V]at H;simp at H;exact⟨ob,rfl,H.symm⟩),hid,hr⟩
def get_map{f:α->β}{l:List α}(h:k<l.length):(l.map f)[k]? = some (f l[k]):=by simp[h]
theorem aG{f:α->β}{l:List α}(z:α)(h:k<l.length):(l.map f)[k]? = some (f (l.getD k z)):=by grind
theorem eV{n:Nat}(h:decide ((k:Int)<(n:Int))=true):k<n:=by grind
theorem eW{n:Nat}(h:decide ((k:Int)<(n:Int))=false)(hk:k<=n):k=n:=by grind
@[reducible] def i64(n:Int):DV:=.val (.int .i64 n)
@[reducible] def bl(b:Bool):DV:=.val (.bool b)
def aH{n:Int}(H:-9223372036854775808<=n)(h2:n<=9223372036854775807):IntKind.i64.wrap n=n:=by simp[wrap,IntKind.bits,signed];omega
def Oa(h:k<9223372036854775807):IntKind.i64.wrap ((k:Int)+1)=((k+1:Nat):Int):=by rw[aH (by omega) (by omega)];rfl
theorem G9{f:Nat}(V:P.funcs[f]? = some fn)(T:(fn.name != "runtime.NumGoroutine")=true)(b:bM P fn=some x)(y:Nat.ble args.length x.1=true)
  (h:W P G (Rj x.2.2 ai.length r aj) [.c x.2.1] ⟨dU 0 args,ai.map some⟩):gd P G f args ai r aj:=by
 refine FA V (by grind) (N:=x.1) (c:=x.2.1) (rv:=x.2.2) b (Nat.le_of_ble_eq_true y) ?_;exact h
mutual
def jY(π:Nat->Nat):∀(x:LV),bV 0 x=true->rn π x=x
 |.top,_=>rfl
 |.d x,_=>rfl
 |.ec,_=>rfl
 |.ptr ..,h=>by simp[bV]at h
 |.rp ..,h=>by simp[bV]at h
 |.ip ..,_=>rfl
 |.sl ..,h=>by simp[bV]at h
 |.fn f a b,h=>by simp only[bV,Bool.and_eq_true]at h;simp only[rn,lR π a h.1,lR π b h.2]
 |.agg cs,h=>by simp only[bV]at h;simp only[rn,lR π cs h]
 |.cZ cs,h=>by simp only[bV]at h;simp only[rn,lR π cs h]
 |.gR t x,h=>by simp only[bV]at h;simp only[rn,jY π x h]
 |.yl ..,h=>by simp[bV]at h
 |.mr ..,h=>by simp[bV]at h
def lR(π:Nat->Nat):∀(xs:List LV),bn 0 xs=true->kC π xs=xs
 |[],_=>rfl
 |x::xs,h=>by simp only[bn,Bool.and_eq_true]at h;simp only[kC,jY π x h.1,lR π xs h.2]
end
mutual
def sY(obj:Nat->bK)(ρ Z:List Nat):∀(x:LV),bV 0 x=true->aB obj ρ Z x x
 |.top,_=>by simp[aB]
 |.d x,_=>by simp[aB]
 |.ec,_=>by simp[aB]
 |.ptr ..,h=>by simp[bV]at h
 |.rp ..,h=>by simp[bV]at h
 |.ip ..,_=>by simp[aB]
 |.sl ..,h=>by simp[bV]at h
 |.fn f a b,h=>by simp only[bV,Bool.and_eq_true]at h;simp only[aB];exact⟨trivial,gO obj ρ Z a h.1,gO obj ρ Z b h.2⟩
 |.agg cs,h=>by simp only[bV]at h;simp only[aB];exact gO obj ρ Z cs h
 |.cZ cs,h=>by simp only[bV]at h;simp only[aB];exact gO obj ρ Z cs h
 |.gR t x,h=>by simp only[bV]at h;simp only[aB];exact⟨trivial,sY obj ρ Z x h⟩
 |.yl ..,h=>by simp[bV]at h
 |.mr ..,h=>by simp[bV]at h
def gO(obj:Nat->bK)(ρ Z:List Nat):∀(xs:List LV),bn 0 xs=true->ay obj ρ Z xs xs
 |[],_=>by simp[ay]
 |x::xs,h=>by simp only[bn,Bool.and_eq_true]at h;simp only[ay];exact⟨sY obj ρ Z x h.1,gO obj ρ Z xs h.2⟩
end
def jB{d:Option Nat}{f:bF}{pre:List Nat}(c:gd P G k aK [] r [])(U:callee (f.ev G (aN env))=some (k,fs,cs))(j:fs++ac.map (·.ev G (aN env))++cs=aK)(hid:bn 0 aK=true)(hr:bV 0 r=true)
  (hk:W P G fin (.ops os::t) ⟨di d r env,af⟩):W P G fin (.ops (⟨d,.call f ac,none,pre⟩::os)::t) ⟨env,af⟩:=by
 refine lq _ U (bZ.data c (by rw[j];exact gO _ _ _ _ hid)) ?_;simpa[jY _ _ hr,CY]using hk
def JJ{d:Option Nat}{f:bF}{pre:List Nat}(c:gd P G k aK [] r [])(U:callee (f.ev G (aN env))=some (k,fs,cs))(j:fs++ac.map (·.ev G (aN env))++cs=aK)(hid:bn 0 aK=true)(hr:bV 0 r=true)
  (hk:W P G fin (.en os (log++[⟨pre,[],[]⟩])::t) ⟨di d r env,af⟩):W P G fin (.en (⟨d,.call f ac,none,pre⟩::os) log::t) ⟨env,af⟩:=by
 refine mR _ U (bZ.data c (by rw[j];exact gO _ _ _ _ hid)) ?_;simpa[jY _ _ hr,CY,fN.owned,CW]using hk
def xD{d:Option Nat}{f:bF}{pre:List Nat}(c:gd P G k aK [] r [])(U:callee (f.ev G (aN env))=some (k,fs,cs))(j:ay (an af) [] Z (fs++ac.map (·.ev G (aN env))++cs) aK)
  (S:∀z∈Z,∃et e rows,an af z=.live (.dat et e rows)\/an af z=.live (.k9 et e rows)) (hj:qH r=true) (hr:bV 0 r=true)
  (hk:W P G fin (.ops os::t) ⟨di d r env,af⟩):W P G fin (.ops (⟨d,.call f ac,none,pre⟩::os)::t) ⟨env,af⟩:=by
 refine lq _ U (bZ.pure Z c j (λz h=>.inl (S z h)) hj) ?_;simpa[jY _ _ hr,CY]using hk
def xE{d:Option Nat}{f:bF}{pre:List Nat}(c:gd P G k aK [] r [])(U:callee (f.ev G (aN env))=some (k,fs,cs))(j:ay (an af) [] Z (fs++ac.map (·.ev G (aN env))++cs) aK)
  (S:∀z∈Z,∃et e rows,an af z=.live (.dat et e rows)\/an af z=.live (.k9 et e rows)) (hj:qH r=true) (hr:bV 0 r=true)
  (hk:W P G fin (.en os (log++[⟨pre,Z,[]⟩])::t) ⟨di d r env,af⟩):W P G fin (.en (⟨d,.call f ac,none,pre⟩::os) log::t) ⟨env,af⟩:=by
 refine mR _ U (bZ.pure Z c j (λz h=>.inl (S z h)) hj) ?_;simpa[jY _ _ hr,CY,fN.owned,CW]using hk
theorem NQ{d:Option Nat}{f:bF}{pre:List Nat}(B:Nat)(c:gd P G k aK [] r [])(U:callee (f.ev G (aN env))=some (k,fs,cs))(j:ay (an af) [] [B] (fs++ac.map (·.ev G (aN env))++cs) aK)
  (S:∃et bs,an af B=.live (.l_ et bs)) (hj:qH r=true) (hr:bV 0 r=true)
  (hk:W P G fin (.ops os::t) ⟨di d r env,af⟩):W P G fin (.ops (⟨d,.call f ac,none,pre⟩::os)::t) ⟨env,af⟩:=by
 refine lq _ U (bZ.pure [B] c j (λz h=>.inr (.inr ⟨rfl,by grind⟩)) hj) ?_;simpa[jY _ _ hr,CY]using hk
def tH{d:Option Nat}{f:bF}{pre:List Nat}(c:gd P G k aK [] r [])(U:callee (f.ev G (aN env))=some (k,fs,cs))(j:ay (an af) [] Z (fs++ac.map (·.ev G (aN env))++cs) aK)
  (S:∀z∈Z,∃et e rows,an af z=.live (.dat et e rows)\/an af z=.live (.k9 et e rows)) (hr:bV 0 r=true)
  (hk:W P G fin (.ops os::t) ⟨di d r env,CY (fA (an af) Z) af⟩):W P G fin (.ops (⟨d,.call f ac,none,pre⟩::os)::t) ⟨env,af⟩:=by
 refine lq _ U (bZ.k9 Z c j (λz h=>.inl (S z h))) ?_;simpa[jY _ _ hr]using hk
def nX{d:Option Nat}{f:bF}{pre:List Nat}(c:gd P G k aK [] r [])(U:callee (f.ev G (aN env))=some (k,fs,cs))(j:ay (an af) [] Z (fs++ac.map (·.ev G (aN env))++cs) aK)
  (S:∀z∈Z,∃et e rows,an af z=.live (.dat et e rows)\/an af z=.live (.k9 et e rows)) (hr:bV 0 r=true)
  (hk:W P G fin (.en os (log++[⟨pre,Z,(fA (an af) Z).map (·.1)⟩])::t) ⟨di d r env,CY (fA (an af) Z) af⟩):W P G fin (.en (⟨d,.call f ac,none,pre⟩::os) log::t) ⟨env,af⟩:=by
 refine mR _ U (bZ.k9 Z c j (λz h=>.inl (S z h))) ?_;simpa[jY _ _ hr,fN.owned,CW]using hk
theorem X9{d:Option Nat}{f:bF}{pre:List Nat}(z:Nat)(c:gd P G k aK [] r [])(U:callee (f.ev G (aN env))=some (k,fs,cs))(j:ay (an af) [] [z] (fs++ac.map (·.ev G (aN env))++cs) aK)
  (S:∃et cells,an af z=.live (.box et cells)) (hr:bV 0 r=true)
  (hk:W P G fin (.ops os::t) ⟨di d r env,CY (fA (an af) [z]) af⟩):W P G fin (.ops (⟨d,.call f ac,none,pre⟩::os)::t) ⟨env,af⟩:=by
 refine lq _ U (bZ.k9 [z] c j (λy h=>.inr (.inl (by grind)))) ?_;simpa[jY _ _ hr]using hk
def tG{d:Option Nat}{f:bF}{pre:List Nat}(c:gd P G k aK [] r aj)(U:callee (f.ev G (aN env))=some (k,fs,cs))(j:fs++ac.map (·.ev G (aN env))++cs=aK)(hid:bn 0 aK=true)
  (hk:W P G fin (.ops os::t) ⟨di d (rn (gz [] af.length) r) env,af++(aj.map (bP (gz [] af.length))).map some⟩):W P G fin (.ops (⟨d,.call f ac,none,pre⟩::os)::t) ⟨env,af⟩:=by
 refine lq _ U (bZ.data c (by rw[j];exact gO _ _ _ _ hid)) ?_;simpa[CY]using hk
def s_{d:Option Nat}{f:bF}{pre:List Nat}(c:gd P G k aK [] r aj)(U:callee (f.ev G (aN env))=some (k,fs,cs))(j:fs++ac.map (·.ev G (aN env))++cs=aK)(hid:bn 0 aK=true)
  (hk:W P G fin (.en os (log++[⟨pre,[],(CW af.length (aj.map (bP (gz [] af.length)))).map (·.1)⟩])::t) ⟨di d (rn (gz [] af.length) r) env,af++(aj.map (bP (gz [] af.length))).map some⟩):W P G fin (.en (⟨d,.call f ac,none,pre⟩::os) log::t) ⟨env,af⟩:=by
 refine mR _ U (bZ.data c (by rw[j];exact gO _ _ _ _ hid)) ?_;simpa[CY,fN.owned]using hk
def dz{d:Option Nat}{f:bF}{pre:List Nat}(c:gd P G k aK ai r aj)(U:callee (f.ev G (aN env))=some (k,fs,cs))(j:ay (an af) ρ [] (fs++ac.map (·.ev G (aN env))++cs) aK)
  (n:ρ.Nodup) (O:ρ.map (an af)=ai.map (λob=>bK.live (bP (gz ρ af.length) ob))) (hid:ai.all (aP ρ.length)=true) (q:ai.length<=aj.length)
  (hk:W P G fin (.ops os::t) ⟨di d (rn (gz ρ af.length) r) env,CY (ρ.zip (aj.map (bP (gz ρ af.length)))) af++((aj.drop ρ.length).map (bP (gz ρ af.length))).map some⟩):W P G fin (.ops (⟨d,.call f ac,none,pre⟩::os)::t) ⟨env,af⟩:=by
 refine lq _ U (bZ.hand ρ c j n O hid q) ?_;simpa using hk
def U3{d:Option Nat}{f:bF}{pre:List Nat}(c:gd P G k aK ai r aj)(U:callee (f.ev G (aN env))=some (k,fs,cs))(j:ay (an af) ρ [] (fs++ac.map (·.ev G (aN env))++cs) aK)
  (n:ρ.Nodup) (O:ρ.map (an af)=ai.map (λob=>bK.live (bP (gz ρ af.length) ob))) (hid:ai.all (aP ρ.length)=true) (q:ai.length<=aj.length)
  (hk:W P G fin (.en os (log++[⟨pre,ρ,(CW af.length ((aj.drop ρ.length).map (bP (gz ρ af.length)))++ρ.zip (aj.map (bP (gz ρ af.length)))).map (·.1)⟩])::t) ⟨di d (rn (gz ρ af.length) r) env,CY (ρ.zip (aj.map (bP (gz ρ af.length)))) af++((aj.drop ρ.length).map (bP (gz ρ af.length))).map some⟩):W P G fin (.en (⟨d,.call f ac,none,pre⟩::os) log::t) ⟨env,af⟩:=by
 refine mR _ U (bZ.hand ρ c j n O hid q) ?_;simpa[fN.owned]using hk
def mE(rv:List RV)(r:LV)(aC:List ah)(s:St):Prop:=zQ rv r s/\s.af.take aC.length=aC.map some
def Re{s:St} : mE rv r aC s=(zQ rv r s/\s.af.take aC.length=aC.map some):=rfl
def Sk(π:Nat->Nat):∀(ob:ah),aP 0 ob=true->bP π ob=ob
 |.box et cells,h=>by simp only[bP];rw[lR π cells h]
 |.mp es,h=>by
  simp only[aP,all_eq_true]at h;simp only[bP,ah.mp.injEq];conv=>rhs;rw[<- map_id es]
  exact map_congr_left λp S=>by simp[jY π p.2 (h p S)]
 |.lr et e v cells,h=>by simp only[bP];rw[lR π cells h]
 |.dat ..,_=>rfl
 |.k9 ..,_=>rfl
 |.l_ ..,_=>rfl
theorem B6:(∀(x:LV) (k:Nat),bV 0 x=true->bV k x=true)/\(∀(xs:List LV) (k:Nat),bn 0 xs=true->bn k xs=true):=by
 have one:∀n,(∀(x:LV) (k:Nat),sizeOf x<n->bV 0 x=true->bV k x=true)/\(∀(xs:List LV) (k:Nat),sizeOf xs<n->bn 0 xs=true->bn k xs=true):=by
  intro n
  induction n with
  |zero=>grind
  |succ n u=>
   refine⟨λx k hs h=>?_,λxs k hs h=>?_⟩
   .cases x<;>simp only[bV,Bool.and_eq_true]at h ⊢<;>(try (simp at h;done))<;>simp at hs
    .grind
    .grind
    .grind
    .grind
   .cases xs with
    |nil=>rfl
    |cons x xs=>simp only[bn,Bool.and_eq_true]at h ⊢;simp at hs;exact⟨u.1 _ k (by omega) h.1,u.2 _ k (by omega) h.2⟩
 exact⟨λx k=>(one (sizeOf x+1)).1 x k (by omega),λxs k=>(one (sizeOf xs+1)).2 xs k (by omega)⟩
def Xh(k:Nat):∀(ob:ah),aP 0 ob=true->aP k ob=true
 |.box et cells,h=>B6.2 cells k h
 |.mp es,h=>by simp only[aP,all_eq_true]at h ⊢;exactλp S=>B6.1 _ k (h p S)
 |.lr et e v cells,h=>B6.2 cells k h
 |.dat ..,_=>rfl
 |.k9 ..,_=>rfl
 |.l_ ..,_=>rfl
theorem kA{s:St}(hs:mE rv r aC s)(hid:bV 0 r=true)(O:aC.all (aP 0)=true)(hk:k=aC.length):Rj rv k r aC s:=by
 obtain⟨H,h2⟩:=hs;unfold zQ at H;split at H
 .rename_i vs n;simp at H;subst H;rw[all_eq_true]at O;refine⟨[],vs,List.range k,[],n,by simp,nodup_range,(λ_ h=>by cases h),(λ_ h=>by cases h),by simp[hk],λi o hi=>?_,?_,?_⟩
  .have q:i<k:=by
    have:=(List.getElem?_eq_some_iff.1 hi).1;simpa using this
   have m:o=i:=by grind
   subst m;have a:o<aC.length:=by omega
   refine⟨aC[o],getElem?_eq_getElem a,?_⟩;have K:(s.af.take aC.length)[o]? = some (some aC[o]):=by grind
   rw[getElem?_take_of_lt a]at K;rw[Sk _ _ (O _ (getElem_mem a))];simp only[bQ,St.obj,an,K]
  .rw [all_eq_true];exactλob x=>Xh _ ob (O ob x)
  .exact sY _ _ _ _ hid
 .cases H
theorem FB{f:Nat}{af:List ah}(V:P.funcs[f]? = some fn)(T:(fn.name != "runtime.NumGoroutine")=true)(b:bM P fn=some x)(y:Nat.ble args.length x.1=true)(hid:bV 0 r=true)(O:aC.all (aP 0)=true)(hlen:af.length=aC.length)
  (h:W P G (mE x.2.2 r aC) [.c x.2.1] ⟨dU 0 args,af.map some⟩):gd P G f args af r aC:=by
 refine FA V (by grind) (N:=x.1) (c:=x.2.1) (rv:=x.2.2) b (Nat.le_of_ble_eq_true y) ?_;exact mG _ _ ⟨mE x.2.2 r aC,λ_ _=>False,mE x.2.2 r aC,uP,none⟩ _ (λs hs=>kA hs hid O hlen) (λ_ _ h=>h) (λs hs=>kA hs hid O hlen) h
def Ends(rv:List RV)(r:LV)(s:St):Prop:=(match gi.of s rv with|some vs=>some (aR vs)|none=>none)=some r
theorem xS{f:Nat}(V:P.funcs[f]? = some fn)(T:(fn.name != "runtime.NumGoroutine")=true)(b:bM P fn=some x)(y:Nat.ble args.length x.1=true)(hid:bV 0 r=true)
  (h:W P G (Ends x.2.2 r) [.c x.2.1] ⟨dU 0 args,[]⟩):gd P G f args [] r []:=by
 refine FA V (by grind) (N:=x.1) (c:=x.2.1) (rv:=x.2.2) b (Nat.le_of_ble_eq_true y) ?_;refine mG _ _ ⟨Ends x.2.2 r,λ_ _=>False,Ends x.2.2 r,uP,none⟩ _ (λs hs=>?_) (λ_ _ h=>h) (λs hs=>?_) h;all_goals
  replace hs:Ends x.2.2 r s:=hs;unfold Ends at hs;split at hs
  .rename_i vs n;cases hs;exact zR n (sY _ _ _ _ hid)
  .cases hs
end
section
variable {P:Program} {G:tY} {fin:St->Prop} {t:List It} {env:List (Nat×LV)} {af:List (Option ah)} {os:List er}
def adH{x:Nat->St->Prop}{s:St} : W P G fin (.rt n x::t) s=n s:=by simp only[W]
def acv{i:Nat}{x:Nat->St->Prop}{s:St} : Wx P G fin i (.rt n x::t) s=x i s:=by simp only[Wx]
def adG{Y:YO}{s:St} : W P G fin (.yd Y::t) s=W P G fin t s:=by simp only[W]
def acu{i:Nat}{Y:YO}{s:St} : Wx P G fin i (.yd Y::t) s=Wx P G fin i t s:=by simp only[Wx]
def X5{d:Option Nat}{f:bF}{pre:List Nat}(U:f.ev G (aN env)=.yl m)
  (h:Wy t (.yl m::ac.map (·.ev G (aN env))) af (aN env YS) (λys b aC=>W P G fin (.ops os::t) ⟨di d (.bool b) ((YS,ys)::env),aC⟩)):W P G fin (.ops (⟨d,.call f ac,none,pre⟩::os)::t) ⟨env,af⟩:=by
 simp only[W,mY,Fw,G6];have j:f.ev G (St.get ⟨env,af⟩)=.yl m:=U;rw[j];exact h
def VT{s:St}{ac:List LV}{af:List (Option ah)}{ys:LV}{U:LV->Bool->List (Option ah)->Prop}(B:ys=mq)(y:ac.length=ps.length)
  (h:W P G (λ_=>False) [.c a,.rt (λs1=>W P G (λA=>S=none/\U pN false A.af) [.c b,.rt (λA=>U mq true A.af) (λi A=>i≠TE/\S=some i/\U pN false A.af)] s1) (λ_ _=>False)] ⟨zL ps ac s.env,af⟩) :
  yb P G S ps a b s (.yl s.af.length::ac) af ys U:=by
 refine⟨B,rfl,y,?_⟩;exact h
def Za{g:bF}(U:callee (g.ev G (aN env))=some (k,fs,cs))(R:LV->List (Option ah)->Prop)
  (H:U5 P G k (fs++[.yl af.length]++cs) (af++[none]) (yb P G none ps a b ⟨env,af⟩) R)
  (h2:∀o aC,R o aC->(o=mq/\W P G fin t ⟨env,aC⟩)\/(o=pN/\fin ⟨env,aC⟩)):W P G fin (.c (.rfn g ps a b)::t) ⟨env,af⟩:=by
 simp only[W,vc];have j:callee (g.ev G (St.get ⟨env,af⟩))=some (k,fs,cs):=U;rw[j];exact⟨none,R,H,h2⟩
theorem TD{f:Nat}{af:List (Option ah)}{Y:YO}{R:LV->List (Option ah)->Prop}(V:P.funcs[f]? = some fn)(T:(fn.name != "runtime.NumGoroutine")=true)(b:bM P fn=some x)(y:Nat.ble args.length x.1=true)(m:lW x.2.1=true)(j:x.2.2=[])
  (h:W P G (λs=>R (s.get YS) s.af) [.c x.2.1,.yd Y] ⟨(YS,mq)::dU 0 args,af⟩):U5 P G f args af Y R:=by
 refine WU V (by grind) (N:=x.1) (c:=x.2.1) (rv:=x.2.2) b (Nat.le_of_ble_eq_true y) m ?_;simp only[j,and_true];exact h
end
end
section
variable{k o:Nat}{r:LV}{aC:List ah}
section
variable {π:Nat->Nat} {k:Nat}
mutual
def r_(h:∀o,o<k->π o=o):∀(x:LV),bV k x=true->rn π x=x
 |.top,_=>rfl
 |.d x,_=>rfl
 |.ec,_=>rfl
 |.ptr o c,Z=>by simp only[bV,decide_eq_true_eq]at Z;simp only[rn,h o Z]
 |.rp o n e r c,Z=>by simp only[bV,decide_eq_true_eq]at Z;simp only[rn,h o Z]
 |.ip ..,_=>rfl
 |.sl o n e l m,Z=>by simp only[bV,decide_eq_true_eq]at Z;simp only[rn,h o Z]
 |.fn f a b,Z=>by simp only[bV,Bool.and_eq_true]at Z;simp only[rn,mI h a Z.1,mI h b Z.2]
 |.agg cs,Z=>by simp only[bV]at Z;simp only[rn,mI h cs Z]
 |.cZ cs,Z=>by simp only[bV]at Z;simp only[rn,mI h cs Z]
 |.gR t x,Z=>by simp only[bV]at Z;simp only[rn,r_ h x Z]
 |.yl o,Z=>by simp only[bV,decide_eq_true_eq]at Z;simp only[rn,h o Z]
 |.mr o,Z=>by simp only[bV,decide_eq_true_eq]at Z;simp only[rn,h o Z]
def mI(h:∀o,o<k->π o=o):∀(xs:List LV),bn k xs=true->kC π xs=xs
 |[],_=>rfl
 |x::xs,Z=>by simp only[bn,Bool.and_eq_true]at Z;simp only[kC,r_ h x Z.1,mI h xs Z.2]
end
def jZ(h:∀o,o<k->π o=o):∀(ob:ah),aP k ob=true->bP π ob=ob
 |.box et cells,Z=>by simp only[bP];rw[mI h cells Z]
 |.mp es,Z=>by
  simp only[aP,all_eq_true]at Z;simp only[bP,ah.mp.injEq];conv=>rhs;rw[<- map_id es]
  exact map_congr_left λp S=>by simp[r_ h p.2 (Z p S)]
 |.lr et e v cells,Z=>by simp only[bP];rw[mI h cells Z]
 |.dat ..,_=>rfl
 |.k9 ..,_=>rfl
 |.l_ ..,_=>rfl
end
section
variable {ρ:List Nat} {k:Nat}
mutual
def xA(h:∀o,o<k->ρ[o]? = some o)(obj:Nat->bK):∀(x:LV),bV k x=true->aB obj ρ [] x x
 |.top,_=>by simp[aB]
 |.d x,_=>by simp[aB]
 |.ec,_=>by simp[aB]
 |.ptr o c,Z=>by simp only[bV,decide_eq_true_eq]at Z;simp only[aB,h o Z,and_self]
 |.rp o n e r c,Z=>by simp only[bV,decide_eq_true_eq]at Z;simp only[aB,h o Z,and_self]
 |.ip ..,_=>by simp[aB]
 |.sl o n e l m,Z=>by simp only[bV,decide_eq_true_eq]at Z;simp only[aB,h o Z,and_self]
 |.fn f a b,Z=>by simp only[bV,Bool.and_eq_true]at Z;simp only[aB];exact⟨trivial,gx h obj a Z.1,gx h obj b Z.2⟩
 |.agg cs,Z=>by simp only[bV]at Z;simp only[aB];exact gx h obj cs Z
 |.cZ cs,Z=>by simp only[bV]at Z;simp only[aB];exact gx h obj cs Z
 |.gR t x,Z=>by simp only[bV]at Z;simp only[aB];exact⟨trivial,xA h obj x Z⟩
 |.yl o,Z=>by simp only[bV,decide_eq_true_eq]at Z;simp only[aB,h o Z]
 |.mr o,Z=>by simp only[bV,decide_eq_true_eq]at Z;simp only[aB,h o Z]
def gx(h:∀o,o<k->ρ[o]? = some o)(obj:Nat->bK):∀(xs:List LV),bn k xs=true->ay obj ρ [] xs xs
 |[],_=>by simp[ay]
 |x::xs,Z=>by simp only[bn,Bool.and_eq_true]at Z;simp only[ay];exact⟨xA h obj x Z.1,gx h obj xs Z.2⟩
end
end
def jo(h:o<k):(List.range k)[o]? = some o:=getElem?_range h
def Bi(h:o<k):gz (List.range k) 0 o=o:=by unfold gz;rw[jo h]
def NV{rv:List RV}{s:St}(hs:mE rv r aC s)(hid:bV aC.length r=true)(O:aC.all (aP aC.length)=true):Rj rv aC.length r aC s:=by
 obtain⟨H,h2⟩:=hs;unfold zQ at H;split at H
 .rename_i vs n;simp only[Option.some.injEq]at H;subst H;have c:=O;rw[all_eq_true]at O;refine⟨[],vs,List.range aC.length,[],n,by simp,nodup_range,(λ_ h=>by cases h),(λ_ h=>by cases h),by simp,λi o hi=>?_,?_,?_⟩
  .have q:i<aC.length:=by
    have:=(List.getElem?_eq_some_iff.1 hi).1;simpa using this
   have m:o=i:=by rw[getElem?_range q]at hi;cases hi;rfl
   subst m;refine⟨aC[o],getElem?_eq_getElem q,?_⟩;have K:(s.af.take aC.length)[o]? = some (some aC[o]):=by rw[h2];simp[q]
   rw[getElem?_take_of_lt q]at K;rw[jZ (λo h=>Bi h) _ (O _ (getElem_mem q))];simp only[bQ,St.obj,an,K]
  .rw [length_range];exact c
  .exact xA (λo h=>jo h) _ _ hid
 .cases H
def eY{P:Program}{G:tY}{f:Nat}{fn:Func}{x:Nat×C×List RV}{args:List LV}{af:List ah}(V:P.funcs[f]? = some fn)(T:(fn.name != "runtime.NumGoroutine")=true)(b:bM P fn=some x)(y:Nat.ble args.length x.1=true)(hid:bV aC.length r=true)(O:aC.all (aP aC.length)=true)(hlen:af.length=aC.length)
  (h:W P G (mE x.2.2 r aC) [.c x.2.1] ⟨dU 0 args,af.map some⟩):gd P G f args af r aC:=by
 refine FA V (by simpa using T) (N:=x.1) (c:=x.2.1) (rv:=x.2.2) b (Nat.le_of_ble_eq_true y) ?_;simp only[W,Wx]at h;refine mG _ _ ⟨mE x.2.2 r aC,λ_ _=>False,mE x.2.2 r aC,uP,none⟩ _ (λs hs=>?_) (λ_ _ h=>h) (λs hs=>?_) h;all_goals
  rw[hlen];exact NV hs hid O
def Zo:LV.undef=.d (.val (.tuple #[])):=rfl
def qo(n:Nat)(x:I):er:=⟨some n,x,none,[]⟩
def qm(n a:Nat):er:=⟨some n,.mv (.t a),none,[]⟩
def qd(n:Nat)(x:I)(l:List Nat):er:=⟨some n,x,none,l⟩
def qg(n:Nat)(x:I)(g:Nat)(b:Bool):er:=⟨some n,x,some (g,b),[]⟩
def qe(n:Nat)(x:I)(g:Nat)(b:Bool)(l:List Nat):er:=⟨some n,x,some (g,b),l⟩
def qn(x:I):er:=⟨none,x,none,[]⟩
def ql(x:I)(l:List Nat):er:=⟨none,x,none,l⟩
def qf:bF:=.c (.val (.bool false))
def qt:bF:=.c (.val (.bool true))
def qk(i:Int):bF:=.c (.val (.int .i64 i))
def q0:DV:=.val (.int .i64 0)
end
section
variable{b n:Nat}{J':Nat->Prop}{ι':fe}
section
variable {G:tY} {J:Nat->Prop} {w w':World} {ι:fe} {obj:Nat->bK}
def aA.still(S:aA G J w ι obj)(B:∀b,J b->w'.heap[b]? = w.heap[b]?)(Z:∀b,Own ι obj b->w'.heap[b]? = w.heap[b]?)(j:∀b,(w.shape? b).isSome=true->w'.shape? b=w.shape? b):aA G J w' ι obj:=by
 refine⟨λo=>?_,S.inj,S.pX,λb V=>by rw[B b V];exact S.jcell b V,λg row r=>?_⟩
 .have h:=S.rep o;have V:∀b,(obj o).own ι o b->w'.heap[b]? = w.heap[b]?:=λb V=>Z b ⟨o,V⟩
  cases hs:obj o with
  |free=>rw[hs]at h;exact h
  |dead=>trivial
  |live ob=>
   rw[hs]at h V;obtain⟨h,m⟩:=h;cases ob with
   |box et cells=>obtain⟨b,C,H,h2,K⟩:=h;exact⟨⟨b,C,H,by rw[V b H];exact h2,bx.mono (λ_ h=>h) B (λ_ _ _ h=>h) j _ _ K⟩,trivial⟩
   |mp es=>obtain⟨b,C,c,H,h2,K⟩:=h;exact⟨⟨b,C,c,H,by rw[V b H];exact h2,jR.mono (λ_ h=>h) B (λ_ _ _ h=>h) j _ _ K⟩,trivial⟩
   |l_ et bs=>obtain⟨H,h2⟩:=h;refine⟨⟨λk rows hr=>?_,h2⟩,m⟩;obtain⟨b,C,K,u,y⟩:=H k rows hr;have X:=V b ⟨k,(List.getElem?_eq_some_iff.1 hr).1,K⟩;exact⟨b,C,K,by rw[X];exact u,bq.mono (λ_ h=>h) B _ _ _ _ X y⟩
   |lr et e v cells=>
    obtain⟨x,O⟩|⟨b,C,H,h2,h0,K⟩:=h
    .exact ⟨.inl ⟨x,O⟩,m⟩
    exact⟨.inr ⟨b,C,H,by rw[V b H];exact h2,h0,bx.mono (λ_ h=>h) B (λ_ _ _ h=>h) j _ _ K⟩,m⟩
   |dat et aJ rows=>obtain⟨H,h2⟩:=h;refine⟨⟨H,λb X=>?_⟩,m⟩;obtain⟨⟨C,K⟩,u⟩:=h2 b X;exact⟨⟨C,by rw[V b X];exact K⟩,bq.mono (λ_ h=>h) B _ _ _ _ (V b X) u⟩
   |k9 et aJ rows=>obtain⟨H,h2⟩:=h;refine⟨⟨H,λb X=>?_⟩,trivial⟩;obtain⟨K,u⟩:=h2 b X;exact⟨K,bq.mono (λ_ h=>h) B _ _ _ _ (B b K) u⟩
 .obtain ⟨H,h2,t,K⟩:=S.uV g row r;exact⟨H,dV.mono (λ_ h=>h) B _ _ _ (B g H) h2,t,by rw[bI (B g H)];exact K⟩
def lN{w:World}(h:(w.shape? b).isSome=true):∃C t f,w.heap[b]? = some (.cells C t f):=by
 unfold shape? at h;split at h
 .rename_i c e f U;exact⟨c,e,f,U⟩
 .cases h
structure JU(G:tY)(obj:Nat->bK)(J:Nat->Prop)(ι:fe)(w:World)(n:Nat)(W:World)(J':Nat->Prop)(ι':fe):Prop where
 store:aA G J' W ι' obj
 ext:Ext obj obj J J' ι ι' w W
 own:∀b,Own ι' obj b->Own ι obj b\/n<=b
 std:∀b,J' b->J b\/n<=b\/Own ι obj b
 size:n<=W.heap.size
def JU.start(S:aA G J w ι obj){W:World}(a:W.os=w.os)(B:W.tape=w.tape)(O:W.output=w.output)(hs:w.heap.size<=W.heap.size)(hk:∀b,b<w.heap.size->W.heap[b]? = w.heap[b]?):JU G obj J ι w W.heap.size W J ι:=by
 refine⟨S.still (λb V=>hk b (S.Ey b V)) (λb V=>hk b ?_) (λb V=>bI (hk b ?_)),⟨⟨a,B,O,hs,λb V _=>hk b V,λb V=>bI (hk b V),λ_ h=>h,λ_ h=>.inl h,λ_ _ _ h=>h⟩,λ_ h=>.inl h⟩,λ_ h=>.inl h,λ_ h=>.inl h,Nat.le_refl _⟩
 .exact S.TF V
 .obtain ⟨C,t,f,h⟩:=lN V;exact(Array.getElem?_eq_some_iff.1 h).1
def JU.grown{W W':World}(S:aA G J w ι obj)(h:JU G obj J ι w n W J' ι')(T:w.heap.size<=n){row:Option Nat}(u:W.grownBy W' row)(hr:∀r,row=some r->w.heap.size<=r/\((r<n/\(W'.shape? r)=W.shape? r)\/∀x,W.heap[r]? = some x->x.pO=false)):JU G obj J ι w n W' J' ι':=by
 have q:∀b,Own ι obj b->b<w.heap.size:=λb V=>by exact S.TF V
 have c:∀b,(J' b\/Own ι' obj b)->some b≠row:=λb V e=>by
  obtain⟨H,h2⟩:=hr b e.symm;have U:∃x,W.heap[b]? = some x/\x.pO=true:=V.elim (λk=>by obtain⟨C,t,f,k⟩:=h.store.jcell b k;exact⟨_,k,rfl⟩) h.store.uN;rcases h2 with ⟨h2,_⟩|h2
  .rcases V with V|V
   .rcases h.std b V with k|k|k
    .have:=S.Ey b k;omega
    .omega
    .have:=q b k;omega
   .rcases h.own b V with k|k
    .have:=q b k;omega
    .omega
  .obtain ⟨x,U,Z⟩:=U;rw[h2 x U]at Z;cases Z
 have blk:∀b,(J' b\/Own ι' obj b)->W'.heap[b]? = W.heap[b]?:=λb V=>by have U:∃x,W.heap[b]? = some x/\x.pO=true:=V.elim (λk=>by obtain⟨C,t,f,k⟩:=h.store.jcell b k;exact⟨_,k,rfl⟩) h.store.uN;obtain⟨x,U,_⟩:=U;exact u.block b (Array.getElem?_eq_some_iff.1 U).1 (c b V)
 have m:=h.ext.ev.size;have a:∀b,b<W.heap.size->(W.shape? b).isSome=true->W'.shape? b=W.shape? b:=λb V U=>by
  by_cases e:some b=row
  .obtain ⟨H,h2⟩:=hr b e.symm;rcases h2 with ⟨_,h2⟩|h2
   .exact h2
   .obtain ⟨C,t,f,k⟩:=lN U;cases h2 _ k
  .exact bI (u.block b V e)
 refine⟨h.store.still (λb V=>blk b (.inl V)) (λb V=>blk b (.inr V)) (λb V=>?_),⟨⟨u.os.trans h.ext.ev.os,u.tape.trans h.ext.ev.tape,u.output.trans h.ext.ev.output,Nat.le_trans m u.size,λb V O=>?_,λb V=>?_,h.ext.ev.ia,h.ext.ev.uT,h.ext.ev.gu⟩,h.ext.own⟩,h.own,h.std,Nat.le_trans h.size u.size⟩
 .obtain ⟨C,t,f,k⟩:=lN V;exact a b (Array.getElem?_eq_some_iff.1 k).1 V
 .rw [u.block b (by omega) (λe=>by have:=(hr b e.symm).1;omega)];exact h.ext.ev.same b V O
 .rw [bI (u.block b (by omega) (λe=>by have:=(hr b e.symm).1;omega))];exact h.ext.ev.shape b V
def JU.call{W m:World}(S:aA G J w ι obj)(h:JU G obj J ι w n W J' ι')(T:w.heap.size<=n){r:LV}{v:Value}(u:aO G obj obj J' ι' W r v m):∃j a,JU G obj J ι w n m j a/\cW j m a r v/\(∀b,b<W.heap.size->¬Own ι' obj b->m.heap[b]? = W.heap[b]?)/\W.heap.size<=m.heap.size:=by
 obtain⟨j,a,e,o,c⟩:=u;have U:=h.size;refine⟨j,a,⟨e,h.ext.trans c,λb V=>?_,λb V=>?_,Nat.le_trans h.size c.ev.size⟩,o,c.ev.same,c.ev.size⟩
 .rcases c.own b V with k|k
  .exact h.own b k
  .exact .inr (by omega)
 .rcases c.ev.uT b V with k|k|k
  .exact h.std b k
  .exact .inr (.inl (by omega))
  .rcases h.own b k with k|k
   .exact .inr (.inr k)
   .exact .inr (.inl k)
def JU.mine{W:World}(S:aA G J w ι obj)(h:JU G obj J ι w n W J' ι')(H:w.heap.size<=b)(h2:b<n):¬Own ι' obj b:=λV=>by
 rcases h.own b V with k|k
 .have:=S.TF k;omega
 .omega
end
end
section
variable{fn:Func}{args fs cs aK:List LV}{ai aj:List ah}{ac:List bF}{k base:Nat}{v:Value}{a:List Nat}(e:fN)(ρ:List Nat)
section
variable {P:Program} {G:tY} {N:Nat}
def DB(p:Value)(aj:List ah)(s:St):Prop:=s.get TE=.d (.val p)/\s.af.take aj.length=aj.map some
def Vz{f:Nat}{c:C}{rv:List RV}{p:Value}(hf:P.funcs[f]? = some fn)(T:fn.name≠ "runtime.NumGoroutine")(wR:bM P fn=some (N,c,rv))(y:args.length<=N)(hlen:ai.length=aj.length)(O:aj.all (aP aj.length)=true)
  (h:vc P G c ⟨dU 0 args,ai.map some⟩ ⟨λ_=>False,λj s=>j=TE/\DB p aj s,λ_=>False,uP,none⟩) (Rf:lW c=true):xF P G f args ai p aj:=by
 unfold bM at wR;split at wR
 .rename_i code hbody;split at wR
  .rename_i c' rv' U Vc;split at wR;case isFalse=>cases wR
   rename_i hlim;cases wR;refine⟨by simp[lH,hf,T,hbody],λJ0 bR w0 vs S0 r=>?_⟩;have hvl:vs.size=args.length:=by have:=r.length;simpa using this.symm
   refine(pV (ro:=none) (n:=0)).1 (callsIn_of_wp hf hbody trivial (wpIn_mono (ez (D:=Dk.plain [] false) (N:=fn.ntmps) (aX:=an (ai.map some)) (J0:=J0) (bR:=bR) (w0:=w0) code c U (.inl Rf) _ _ h pE.no (Mx.no _) _ w0 ⟨J0,bR,⟨S0,λt=>?_,?_,Marks.plain _ _,trivial,hlim⟩,Ext.refl ..⟩) (λe a w X=>?_)))
   .have H:=nU args vs.toList 0 t r;simp only[Nat.zero_le,if_true,Nat.sub_zero]at H;have h2:(vs++Array.replicate (fn.ntmps-vs.size) Go.undef).getD t Go.undef=(vs.toList[t]?).getD Go.undef:=by
     simp only[Array.getD_eq_getD_getElem?,Array.getElem?_append,Array.getElem?_toList];by_cases B:t<vs.size
     .rw [if_pos B]
     .rw [if_neg B,Array.getElem?_eq_none (Nat.le_of_not_lt B),Array.getElem?_replicate]
      split<;>rfl
    rw[h2];exact H
   .simp;omega
   .cases e with
    |normal=>obtain⟨s,u,hB⟩:=X;exact hB.elim
    |ret=>obtain⟨s,u,hB⟩:=X;exact hB.elim
    |exit i=>obtain⟨YX,s,_,hB,_⟩:=X;exact absurd hB YX
    |goto l=>exact X.elim
    |outgrown=>exact X.elim
    |panic ch=>
     obtain⟨v,s,rfl,hd,⟨J,ι,S,E,_⟩,_,q,x⟩:=X;have x:s.af.take aj.length=aj.map some:=x;have q:v=p:=by
      have:(LV.d (.val v))=.d (.val p):=by simpa[lF,St.get,aN]using q
      simpa using this
     subst q;refine⟨hd rfl,rfl,?_⟩;have ho':=O;rw[all_eq_true]at O;obtain⟨S',A⟩:=S.sub (ρ:=List.range aj.length) (Z:=[]) (ai:=aj) (base:=0) nodup_range (λ_ h=>by cases h) (by simp) (λi o hi=>by
      have m:i<aj.length:=by have:=(List.getElem?_eq_some_iff.1 hi).1;simpa using this
      have Dp:o=i:=by rw[getElem?_range m]at hi;cases hi;rfl
      subst Dp;refine⟨aj[o],getElem?_eq_getElem m,?_⟩;have K:(s.af.take aj.length)[o]? = some (some aj[o]):=by rw[x];simp[m]
      rw[getElem?_take_of_lt m]at K;rw[jZ (λo h=>Bi h) _ (O _ (getElem_mem m))];simp only[St.obj,an,K]) (by rw[length_range];exact ho') (λ_ h=>by cases h)
     refine⟨_,_,S',trivial,⟨E.ev.os,E.ev.tape,E.ev.output,E.ev.size,E.ev.same,E.ev.shape,λb V=>.inl (E.ev.ia b V),λb V=>?_,λo n b V=>?_⟩,?_⟩
     .rcases V with V|⟨z,TL,Rg⟩
      .exact E.ev.uT b V
      .cases TL
     .have O:o<ai.length:=by
       rcases Nat.lt_or_ge o ai.length with H|H
       .exact H
       .have:=S0.rep o;rw[cD (by simpa using H)]at this;rw[this n]at V;cases V
      exact lK (jo (by omega)) (E.ev.gu o n b V)
     .rintro b ⟨i,V⟩;obtain⟨o,_,h2⟩:=A i b V;exact E.own b ⟨o,h2⟩
  .cases wR
 .cases wR
end
section
variable {P:Program} {G:tY} {fin:St->Prop} {t:List It} {s:St} {env:List (Nat×LV)} {af:List (Option ah)} {os:List er} {log:List iI}
def ME{f:Nat}{x:Nat×C×List RV}{p:Value}(V:P.funcs[f]? = some fn)(T:(fn.name != "runtime.NumGoroutine")=true)(b:bM P fn=some x)(y:Nat.ble args.length x.1=true)(hlen:ai.length=aj.length)(O:aj.all (aP aj.length)=true)
  (h:W P G (λ_=>False) [.c x.2.1,.pn (DB p aj)] ⟨dU 0 args,ai.map some⟩) (m:lW x.2.1=true:=by rfl):xF P G f args ai p aj:=by
 refine Vz V (by simpa using T) (N:=x.1) (c:=x.2.1) (rv:=x.2.2) b (Nat.le_of_ble_eq_true y) hlen O ?_ m;simp only[W,Wx,Wy]at h;refine mG _ _ ⟨λ_=>False,λi s=>if i=TE then DB p aj s else False,λ_=>False,uP,none⟩ _ (λs h=>h) (λi s h=>?_) (λs h=>h) h;dsimp only at h;split at h
 .rename_i hi;exact⟨hi,h⟩
 .exact h.elim
def ur{i:Nat}{p:St->Prop} : Wx P G fin i (.pn p::t) s=if i=TE then p s else Wx P G fin i t s:=by simp only[Wx]
def NO{d:Option Nat}{f:bF}{pre:List Nat}(U:callee (f.ev G (aN env))=some (k,fs,cs))(h:fE P G k (fs++ac.map (·.ev G (aN env))++cs) (an af) af.length v e)
  (hk:Wx P G fin TE t ⟨(TE,.d (.val v))::env,CY e.wr af++e.nw.map some⟩):W P G fin (.ops (⟨d,.call f ac,none,pre⟩::os)::t) ⟨env,af⟩:=by
 simp only[W,mY,Fw,G6];have j:callee (f.ev G (St.get ⟨env,af⟩))=some (k,fs,cs):=U;rw[j];exact .inr ⟨v,e,h,hk⟩
def U2{d:Option Nat}{f:bF}{pre:List Nat}(U:callee (f.ev G (aN env))=some (k,fs,cs))(h:fE P G k (fs++ac.map (·.ev G (aN env))++cs) (an af) af.length v e)
  (hk:Wx P G fin TE t ⟨[(TE,.d (.val v))],CY e.wr af++e.nw.map some⟩) (hr:W P G fin (.Bu log.length pre os (log++[⟨pre,e.rd,[]⟩])::t) ⟨di d .top env,af⟩):W P G fin (.en (⟨d,.call f ac,none,pre⟩::os) log::t) ⟨env,af⟩:=by
 simp only[W,gD,Fw,G6];have j:callee (f.ev G (St.get ⟨env,af⟩))=some (k,fs,cs):=U;rw[j];simp only[W]at hr;exact .inr ⟨v,e,h,hk,hr⟩
def CM{p:Nat} : W P G fin (.Bu p a [] log::t) s=(indep log=true/\HP log p a=true):=by simp only[W,rL]
def zO{p:Nat}{d:Option Nat}{i:I}{g:Option (Nat×Bool)}{pre:List Nat}(h:pre.contains p=true):W P G fin (.Bu p a (⟨d,i,g,pre⟩::os) log::t) ⟨env,af⟩=W P G fin (.Bu p a os (log++[⟨pre,[],[]⟩])::t) ⟨di d .top env,af⟩:=by simp only[W,rL,h,if_true];rfl
def Fg{p:Nat}{d:Option Nat}{x:bF}{pre:List Nat}(h:pre.contains p=false):W P G fin (.Bu p a (⟨d,.mv x,none,pre⟩::os) log::t) ⟨env,af⟩=W P G fin (.Bu p a os (log++[⟨pre,[],[]⟩])::t) ⟨di d (x.ev G (aN env)) env,af⟩:=by simp only[W,rL,h,Fw,G6,de,Bool.false_eq_true,if_false];simp only[St.app,CY,map_nil,append_nil,fN.owned,CW,append_nil,map_nil];rfl
def fE.data{obj:Nat->bK}(c:xF P G k aK [] v [])(j:ay obj [] [] args aK) :
  fE P G k args obj base v { r:=.top,rd:=[],wr:=[],nw:=[] }:=
 ⟨⟨[],[],aK,[],[],nodup_nil,(λ_ h=>by cases h),(λ_ h=>by cases h),rfl,(λi o h=>by simp at h),rfl,j,Nat.le_refl _,c,rfl⟩⟩
def fE.hand{obj:Nat->bK}(c:xF P G k aK ai v aj)(j:ay obj ρ [] args aK)(n:ρ.Nodup)(O:ρ.map obj=ai.map (λob=>bK.live (bP (gz ρ base) ob)))(hid:ai.all (aP ρ.length)=true)(q:ai.length<=aj.length) :
  fE P G k args obj base v { r:=.top,rd:=ρ,wr:=ρ.zip (aj.map (bP (gz ρ base))),nw:=(aj.drop ρ.length).map (bP (gz ρ base)) }:=
 ⟨⟨ρ,[],aK,ai,aj,n,(λ_ h=>by cases h),(λ_ h=>by cases h),by have:=congrArg length O;simpa using this.symm,(λi o hi=>by
   have H:(ρ.map obj)[i]? = some (obj o):=by rw[getElem?_map,hi];rfl
   rw[O,getElem?_map]at H;cases V:ai[i]? with
   |none=>rw[V]at H;cases H
   |some ob=>rw[V]at H;simp at H;exact⟨ob,rfl,H.symm⟩),hid,j,q,c,by simp[fA]⟩⟩
def qb{d:Option Nat}{f:bF}{pre:List Nat}(c:xF P G k aK [] v [])(U:callee (f.ev G (aN env))=some (k,fs,cs))(j:fs++ac.map (·.ev G (aN env))++cs=aK)(hid:bn 0 aK=true)
  (hk:Wx P G fin TE t ⟨(TE,.d (.val v))::env,af⟩):W P G fin (.ops (⟨d,.call f ac,none,pre⟩::os)::t) ⟨env,af⟩:=by
 refine NO _ U (fE.data c (by rw[j];exact gO _ _ _ _ hid)) ?_;simpa[CY]using hk
def JF{d:Option Nat}{f:bF}{pre:List Nat}(c:xF P G k aK ai v aj)(U:callee (f.ev G (aN env))=some (k,fs,cs))(j:ay (an af) ρ [] (fs++ac.map (·.ev G (aN env))++cs) aK)
  (n:ρ.Nodup) (O:ρ.map (an af)=ai.map (λob=>bK.live (bP (gz ρ af.length) ob))) (hid:ai.all (aP ρ.length)=true) (q:ai.length<=aj.length)
  (hk:Wx P G fin TE t ⟨(TE,.d (.val v))::env,CY (ρ.zip (aj.map (bP (gz ρ af.length)))) af++((aj.drop ρ.length).map (bP (gz ρ af.length))).map some⟩):W P G fin (.ops (⟨d,.call f ac,none,pre⟩::os)::t) ⟨env,af⟩:=by
 refine NO _ U (fE.hand ρ c j n O hid q) ?_;simpa using hk
def Fh{d:Option Nat}{f:bF}{pre:List Nat}(c:xF P G k aK ai v aj)(U:callee (f.ev G (aN env))=some (k,fs,cs))(j:ay (an af) ρ [] (fs++ac.map (·.ev G (aN env))++cs) aK)
  (n:ρ.Nodup) (O:ρ.map (an af)=ai.map (λob=>bK.live (bP (gz ρ af.length) ob))) (hid:ai.all (aP ρ.length)=true) (q:ai.length<=aj.length)
  (hk:Wx P G fin TE t ⟨[(TE,.d (.val v))],CY (ρ.zip (aj.map (bP (gz ρ af.length)))) af++((aj.drop ρ.length).map (bP (gz ρ af.length))).map some⟩)
  (hr:W P G fin (.Bu log.length pre os (log++[⟨pre,ρ,[]⟩])::t) ⟨di d .top env,af⟩):W P G fin (.en (⟨d,.call f ac,none,pre⟩::os) log::t) ⟨env,af⟩:=by
 refine U2 _ U (fE.hand ρ c j n O hid q) ?_ hr;simpa using hk
end
end
section
variable{k base:Nat}{args aK fs cs:List LV}{r:LV}{ai aj:List ah}{ac:List bF}(ρ Z:List Nat)
section
variable {P:Program} {G:tY}
def bZ.Y2{obj:Nat->bK}(c:gd P G k aK ai r aj)(j:ay obj ρ Z args aK)(n:ρ.Nodup)(A:∀z∈Z,z∉ρ)(S:∀z∈Z,∃et e rows,obj z=.live (.dat et e rows)\/obj z=.live (.k9 et e rows))(O:ρ.map obj=ai.map (λob=>bK.live (bP (gz ρ base) ob)))(hid:ai.all (aP ρ.length)=true)(q:ai.length<=aj.length) :
  bZ P G k args obj base { r:=rn (gz ρ base) r,rd:=ρ++Z,wr:=ρ.zip (aj.map (bP (gz ρ base)))++fA obj Z,nw:=(aj.drop ρ.length).map (bP (gz ρ base)) }:=
 ⟨⟨ρ,Z,false,aK,ai,r,aj,(λ_=>true),(λ_ _ _ h=>by cases h),n,A,(λz h=>.inl (S z h)),by have:=congrArg length O;simpa using this.symm,(λi o hi=>by
   have H:(ρ.map obj)[i]? = some (obj o):=by rw[getElem?_map,hi];rfl
   rw[O,getElem?_map]at H;cases V:ai[i]? with
   |none=>rw[V]at H;cases H
   |some ob=>rw[V]at H;simp at H;exact⟨ob,rfl,H.symm⟩),hid,j,(λh=>by cases h),q,c,by rw[filter_eq_self.2 (λ_ _=>rfl)];simp⟩⟩
variable {fin:St->Prop} {env:List (Nat×LV)} {af:List (Option ah)} {os:List er} {t:List It} {log:List iI}
def X8{d:Option Nat}{f:bF}{pre:List Nat}(c:gd P G k aK ai r aj)(U:callee (f.ev G (aN env))=some (k,fs,cs))(j:ay (an af) ρ Z (fs++ac.map (·.ev G (aN env))++cs) aK)
  (n:ρ.Nodup) (A:∀z∈Z,z∉ρ) (S:∀z∈Z,∃et e rows,an af z=.live (.dat et e rows)\/an af z=.live (.k9 et e rows)) (O:ρ.map (an af)=ai.map (λob=>bK.live (bP (gz ρ af.length) ob))) (hid:ai.all (aP ρ.length)=true) (q:ai.length<=aj.length)
  (hk:W P G fin (.ops os::t) ⟨di d (rn (gz ρ af.length) r) env,CY (ρ.zip (aj.map (bP (gz ρ af.length)))++fA (an af) Z) af++((aj.drop ρ.length).map (bP (gz ρ af.length))).map some⟩):W P G fin (.ops (⟨d,.call f ac,none,pre⟩::os)::t) ⟨env,af⟩:=by
 refine lq _ U (bZ.Y2 ρ Z c j n A S O hid q) ?_;simpa using hk
def CQ{d:Option Nat}{f:bF}{pre:List Nat}(c:gd P G k aK ai r aj)(U:callee (f.ev G (aN env))=some (k,fs,cs))(j:ay (an af) ρ Z (fs++ac.map (·.ev G (aN env))++cs) aK)
  (n:ρ.Nodup) (A:∀z∈Z,z∉ρ) (S:∀z∈Z,∃et e rows,an af z=.live (.dat et e rows)\/an af z=.live (.k9 et e rows)) (O:ρ.map (an af)=ai.map (λob=>bK.live (bP (gz ρ af.length) ob))) (hid:ai.all (aP ρ.length)=true) (q:ai.length<=aj.length)
  (hk:W P G fin (.en os (log++[⟨pre,ρ++Z,(CW af.length ((aj.drop ρ.length).map (bP (gz ρ af.length)))++(ρ.zip (aj.map (bP (gz ρ af.length)))++fA (an af) Z)).map (·.1)⟩])::t) ⟨di d (rn (gz ρ af.length) r) env,CY (ρ.zip (aj.map (bP (gz ρ af.length)))++fA (an af) Z) af++((aj.drop ρ.length).map (bP (gz ρ af.length))).map some⟩):W P G fin (.en (⟨d,.call f ac,none,pre⟩::os) log::t) ⟨env,af⟩:=by
 refine mR _ U (bZ.Y2 ρ Z c j n A S O hid q) ?_;simpa[fN.owned]using hk
def bZ.look{obj:Nat->bK}(c:gd P G k aK ai r ai)(j:ay obj ρ [] args aK)(n:ρ.Nodup)(O:ρ.map obj=ai.map (λob=>bK.live (bP (gz ρ base) ob)))(hid:ai.all (aP ρ.length)=true) :
  bZ P G k args obj base { r:=rn (gz ρ base) r,rd:=ρ,wr:=[],nw:=[] }:=by
 have hlen:ai.length=ρ.length:=by have:=congrArg length O;simpa using this.symm
 refine⟨⟨ρ,[],false,aK,ai,r,ai,(λ_=>false),(λ_ _ _ _=>rfl),n,(λ_ h=>by cases h),(λ_ h=>by cases h),hlen,(λi o hi=>?_),hid,j,(λh=>by cases h),Nat.le_refl _,c,?_⟩⟩
 .have H:(ρ.map obj)[i]? = some (obj o):=by rw[getElem?_map,hi];rfl
  rw[O,getElem?_map]at H;cases V:ai[i]? with
  |none=>rw[V]at H;cases H
  |some ob=>rw[V]at H;simp at H;exact⟨ob,rfl,H.symm⟩
 .rw [drop_eq_nil_of_le (by omega)];simp[fA]
def NP{d:Option Nat}{f:bF}{pre:List Nat}(c:gd P G k aK ai r ai)(U:callee (f.ev G (aN env))=some (k,fs,cs))(j:ay (an af) ρ [] (fs++ac.map (·.ev G (aN env))++cs) aK)
  (n:ρ.Nodup) (O:ρ.map (an af)=ai.map (λob=>bK.live (bP (gz ρ af.length) ob))) (hid:ai.all (aP ρ.length)=true)
  (hk:W P G fin (.ops os::t) ⟨di d (rn (gz ρ af.length) r) env,af⟩):W P G fin (.ops (⟨d,.call f ac,none,pre⟩::os)::t) ⟨env,af⟩:=by
 refine lq _ U (bZ.look ρ c j n O hid) ?_;simpa[CY]using hk
def JI{d:Option Nat}{f:bF}{pre:List Nat}(c:gd P G k aK ai r ai)(U:callee (f.ev G (aN env))=some (k,fs,cs))(j:ay (an af) ρ [] (fs++ac.map (·.ev G (aN env))++cs) aK)
  (n:ρ.Nodup) (O:ρ.map (an af)=ai.map (λob=>bK.live (bP (gz ρ af.length) ob))) (hid:ai.all (aP ρ.length)=true)
  (hk:W P G fin (.en os (log++[⟨pre,ρ,[]⟩])::t) ⟨di d (rn (gz ρ af.length) r) env,af⟩):W P G fin (.en (⟨d,.call f ac,none,pre⟩::os) log::t) ⟨env,af⟩:=by
 refine mR _ U (bZ.look ρ c j n O hid) ?_;simpa[fN.owned,CY,CW]using hk
end
end
section
variable{env:List (Nat×LV)}{af:List (Option ah)}
section
variable {P:Program} {G:tY}
def Au:∀(env:List (Nat×LV)) (t:Nat),aN env t=.top\/(t,aN env t)∈env
 |[],t=>.inl rfl
 |(k,v)::env,t=>by
  unfold aN;by_cases h:k=t
  .rw [if_pos h];subst h;exact .inr (mem_cons_self ..)
  .rw [if_neg h];rcases Au env t with H|H
   .exact .inl H
   .exact .inr (mem_cons_of_mem _ H)
def Fc{obj:Nat->bK}{ρ Z:List Nat}(f:Nat->LV):∀(r:List (Nat×LV)),ay obj ρ Z (r.map λp=>f p.1) (r.map (·.2))->∀p∈r,aB obj ρ Z (f p.1) p.2
 |[],_,p,S=>by cases S
 |q::r,h,p,S=>by
  rcases mem_cons.1 S with rfl|S
  .exact h.1
  .exact Fc f r h.2 p S
def JV.ren{B:Nat}(q:List Ad)(ρ Z:List Nat)(ai:List ah)(r:List (Nat×LV))(j:B<=ρ.length/\ρ.take B=List.range B)(T:ρ.Nodup)(A:∀z∈Z,z∉ρ)
  (y:ai.length=ρ.length) (O:∀(i o:Nat),ρ[i]? = some o->∃ob,ai[i]? = some ob/\(bQ q ⟨env,af⟩).obj o=.live (bP (gz ρ 0) ob)) (hid:ai.all (aP ρ.length)=true)
  (v:∀z∈Z,∃et e rows,(bQ q ⟨env,af⟩).obj z=.live (.dat et e rows)\/(bQ q ⟨env,af⟩).obj z=.live (.k9 et e rows))
  (X:(r.all λp=>p.1 !=YS)=true) (c:ay (bQ q ⟨env,af⟩).obj ρ Z (r.map λp=>(bQ q ⟨env,af⟩).get p.1) (r.map (·.2))):JV G B ⟨env,af⟩ ⟨r,ai.map some⟩:=by
 intro D N aX J0 bR w0 a w x u;have u:=u.bQ q;generalize bQ q ⟨env,af⟩=s at *;obtain⟨J,ι,S,E⟩:=u.ex;obtain⟨m,U⟩:=S.store.sub (ρ:=ρ) (Z:=Z) (ai:=ai) (base:=0) T A y O hid (λz A=>.inl (v z A));refine⟨_,_,⟨m,λt=>?_,S.size,S.defers,?_,S.lim⟩,⟨E.ev.os,E.ev.tape,E.ev.output,E.ev.size,E.ev.same,E.ev.shape,λb V=>.inl (E.ev.ia b V),λb V=>?_,λo n b V=>?_⟩,?_⟩
 .show cW _ w _ (aN r t) _;rcases Au r t with H|H
  .rw [H];trivial
  .exact Nk S.store _ _ _ (Fc s.get r c _ H) (S.env t)
 .show D.ys (aN r YS) w;rcases Au r YS with H|H
  .rw [H];exact D.top _
  .rw [all_eq_true]at X;have:=X _ H;simp at this
 .rcases V with V|⟨z,TL,h⟩
  .exact E.ev.uT b V
  .rcases E.own b ⟨z,h⟩with H|H
   .exact .inr (.inr H)
   .exact .inr (.inl H)
 .have H:=E.ev.gu o n b V;have h2:=x o n b V;have K:ρ[o]? = some o:=by
   have:(ρ.take B)[o]? = (List.range B)[o]?:=by rw[j.2]
   rw[getElem?_take_of_lt h2,getElem?_range h2]at this;exact this
  unfold jj;simp only[K];exact H
 .rintro b ⟨i,V⟩;obtain⟨o,_,h2⟩:=U i b V;exact E.own b ⟨o,h2⟩
def JD{fin:St->Prop}{t:List It}{α:Type}{ts:List Nat}{m:Nat}{Inv:α->Prop}{μ:α->Nat}{S:α->St}{k:Nat}(q:List Ad)(ρ Z:List Nat)(ai:List ah)(r:List (Nat×LV))(b:α)(u:S b=⟨r,ai.map some⟩)(j:CE (Wb t) m<=ρ.length/\ρ.take (CE (Wb t) m)=List.range (CE (Wb t) m))(T:ρ.Nodup)(A:∀z∈Z,z∉ρ)
  (O:ρ.map (bQ q ⟨env,af⟩).obj=ai.map (λob=>bK.live (bP (gz ρ 0) ob))) (hid:ai.all (aP ρ.length)=true)
  (v:∀z∈Z,∃et e rows,(bQ q ⟨env,af⟩).obj z=.live (.dat et e rows)\/(bQ q ⟨env,af⟩).obj z=.live (.k9 et e rows))
  (X:(r.all λp=>p.1 !=YS)=true) (c:ay (bQ q ⟨env,af⟩).obj ρ Z (r.map λp=>(bQ q ⟨env,af⟩).get p.1) (r.map (·.2))) (a:Inv b) (n:μ b<k):W P G fin (.lp ts m (JN Inv μ S) k::t) ⟨env,af⟩:=by
 have y:ai.length=ρ.length:=by have:=congrArg length O;simpa using this.symm
 refine acD b ?_ a n;rw[u];refine JV.ren q ρ Z ai r j T A y (λi o h=>?_) hid v X c;have H:(ρ.map (bQ q ⟨env,af⟩).obj)[i]? = some ((bQ q ⟨env,af⟩).obj o):=by rw[getElem?_map,h];rfl
 rw[O,getElem?_map]at H;cases V:ai[i]? with
 |none=>rw[V]at H;cases H
 |some ob=>rw[V]at H;exact⟨ob,rfl,(Option.some.inj H).symm⟩
def Kk{f:Nat}{fn:Func}{x:Nat×C×List RV}{args:List LV}{ai aj:List ah}{r:LV}(V:P.funcs[f]? = some fn)(T:(fn.name != "runtime.NumGoroutine")=true)(b:bM P fn=some x)(y:Nat.ble args.length x.1=true)
  (h:W P G (Rj x.2.2 ai.length r aj) [.c x.2.1,.bs ai.length] ⟨dU 0 args,ai.map some⟩):gd P G f args ai r aj:=by
 refine MD V (by simpa using T) (N:=x.1) (c:=x.2.1) (rv:=x.2.2) b (Nat.le_of_ble_eq_true y) (some ai.length) ?_ (λB h=>by cases h;exact Nat.le_refl _);simp only[W,Wx,Wb]at h;exact h
end
end
section
variable{r:LV}{code:Code}{c:C}{w:World}{args:List LV}{v:Value}
section
variable {P:Program} {G:tY} {J J0:Nat->Prop} {w w0:World} {ι bR:fe}
def Gx{fn:Func}{rv:List RV}{rs:List LV}(Z:List Nat){s:St}{tmps:Array Value}(S:aA G J w ι s.obj)(c:∀t,cW J w ι (s.get t) (tmps.getD t Go.undef))(S0:aA G J0 w0 bR (an []))(E:Ext (an []) s.obj J0 J bR ι w0 w)
  (j:jA P fn.results.toList=some rv) (sH:gi.of s rv=some rs) (T:∀z∈Z,∃et e rows,s.obj z=.live (.dat et e rows)\/s.obj z=.live (.k9 et e rows)) (hR:aB s.obj [] Z (aR rs) r) :
  ∃v,(results fn tmps).run P w=.ok v w/\aO G (an []) (an []) J0 bR w0 r v w:=by
 obtain⟨us,K,B⟩:=gi.sound (a:={ tmps:=tmps,defers:=[] }) S c j sH;have O:(fn.results.mapM (FR tmps)).run P w=.ok us.toArray w:=by rw[Array.mapM_eq_mapM_toList,Sem.run_map,K];rfl
 have q:∃v,(results fn tmps).run P w=.ok v w/\cW J w ι (aR rs) v:=by
  refine⟨if h:us.toArray.size=1 then us.toArray[0]else .tuple us.toArray,?_,?_⟩
  .rw [qu,Sem.run_bind,O];rfl
  .have X:=B.length;cases rs with
   |nil=>
    cases us with
    |nil=>exact⟨#[],rfl,trivial⟩
    |cons _ _=>simp at X
   |cons x xs=>
    cases us with
    |nil=>simp at X
    |cons u us=>
     cases xs with
     |nil=>
      cases us with
      |nil=>exact B.1
      |cons _ _=>simp at X
     |cons y ys=>
      cases us with
      |nil=>simp at X
      |cons u2 us=>exact⟨_,by simp,B⟩
 obtain⟨v,hv1,Xk⟩:=q;refine⟨v,hv1,?_⟩;obtain⟨m,U⟩:=S.sub (ρ:=[]) (Z:=Z) (ai:=[]) (base:=0) nodup_nil (λ_ _ h=>by cases h) rfl (λi o h=>by simp at h) rfl (λz A=>.inl (T z A));refine⟨_,_,m,Nk S _ _ v hR Xk,⟨E.ev.os,E.ev.tape,E.ev.output,E.ev.size,E.ev.same,E.ev.shape,λb V=>.inl (E.ev.ia b V),λb V=>?_,λo n b V=>?_⟩,?_⟩
 .rcases V with V|⟨z,TL,Rg⟩
  .exact E.ev.uT b V
  .rcases E.own b ⟨z,Rg⟩with H|H
   .exact .inr (.inr H)
   .exact .inr (.inl H)
 .have:=S0.rep o;rw[cD (by simp)]at this;rw[this n]at V;cases V
 .rintro b ⟨i,V⟩;obtain⟨o,_,h2⟩:=U i b V;exact E.own b ⟨o,h2⟩
end
section
variable {P:Program} {G:tY} {D:Dk} {N:Nat} {aX:Nat->bK} {J0:Nat->Prop} {bR:fe} {w0:World} {Q:Exit->Act->World->Prop}
def Ob{j:Code}{s s1:St}{a:Act}(U:dW P N code=some c)(h:vc P G c s ⟨λA=>A=s1,λ_ _=>False,λ_=>False,uP,none⟩)(u:mF G D N aX J0 bR w0 s a w)
  (hk:∀a w,mF G D N aX J0 bR w0 s1 a w->j.wp P Q a w) (m:lW c=true:=by kernel_rfl):(Code.seq code j).wp P Q a w:=by
 refine wp_seq (wp_mono ((wpIn_wide (n:=0)).1 (ez (ro:=none) code c U (.inl m) s _ h pE.no (Mx.no _) a w u)) (λe b w' X=>?_));cases e with
 |normal=>obtain⟨A,V,rfl⟩:=X;exact hk b w' V
 |ret=>obtain⟨s,_,h⟩:=X;exact h.elim
 |exit i=>obtain⟨_,s,_,h⟩:=X;exact h.elim
 |goto l=>exact X.elim
 |panic q=>obtain⟨_,s,_,_,_,h⟩:=X;exact h.elim
 |outgrown=>exact X.elim
def xM{s:St}{a:Act}{fin pan:St->Prop}(U:dW P N code=some c)(h:vc P G c s ⟨fin,λi A=>i=TE/\pan A,fin,uP,none⟩)(u:mF G D N aX J0 bR w0 s a w)
  (hk:∀s a w,mF G D N aX J0 bR w0 s a w->fin s->Q .normal a w/\Q .ret a w)
  (S:∀v s a w,(D.CX=false->a.defers=D.ds)->Ye G aX J0 bR w0 s.get s.obj a w->pan (lF v s)->Q (.panic [{ v:=v,recovered:=false }]) a w) (m:lW c=true:=by kernel_rfl):code.wp P Q a w:=by
 refine wp_mono ((wpIn_wide (n:=0)).1 (ez (ro:=none) code c U (.inl m) s _ h pE.no (Mx.no _) a w u)) (λe b w' X=>?_);cases e with
 |normal=>obtain⟨A,V,h⟩:=X;exact(hk A b w' V h).1
 |ret=>obtain⟨A,V,h⟩:=X;exact(hk A b w' V h).2
 |exit i=>obtain⟨hi,s,_,h,_⟩:=X;exact absurd h hi
 |goto l=>exact X.elim
 |panic q=>obtain⟨v,A,rfl,H,h2,_,K⟩:=X;exact S v A b w' H h2 K
 |outgrown=>exact X.elim
def xz{vs:Array Value}{n:Nat}{ai:List ah}(m:aA G J0 w bR (an (ai.map some)))(q:cm J0 w bR args vs.toList)(T:args.length<=n)(y:n<=YS:=by decide) :
  mF G (Dk.plain [] false) n (an (ai.map some)) J0 bR w ⟨dU 0 args,ai.map some⟩ { tmps:=vs++Array.replicate (n-vs.size) Go.undef,defers:=[] } w:=by
 refine⟨J0,bR,⟨m,λt=>?_,?_,Marks.plain _ _,trivial,y⟩,Ext.refl ..⟩
 .have H:=nU args vs.toList 0 t q;simp only[Nat.zero_le,if_true,Nat.sub_zero]at H;have h2:(vs++Array.replicate (n-vs.size) Go.undef).getD t Go.undef=(vs.toList[t]?).getD Go.undef:=by
   simp only[Array.getD_eq_getD_getElem?,Array.getElem?_append,Array.getElem?_toList];by_cases B:t<vs.size
   .rw [if_pos B]
   .rw [if_neg B,Array.getElem?_eq_none (Nat.le_of_not_lt B),Array.getElem?_replicate]
    split<;>rfl
  rw[h2];exact H
 .have o:vs.size=args.length:=by have:=q.length;simpa using this.symm
  simp;omega
end
def HX{l:List (Option ah)}{i:Nat}(h:i<l.length)(ob:ah):an (l.set i (some ob))=λo=>if o=i then .live ob else an l o:=by
 funext o;unfold an;by_cases O:o=i
 .subst O;rw[getElem?_set_self h];simp
 .rw [getElem?_set_ne (λe=>O e.symm),if_neg O]
section
variable {P:Program} {G G0:tY} {J J':Nat->Prop} {w w':World} {ι ι':fe} {obj obj':Nat->bK}
def aA.less(S:aA G J w ι obj)(a:∀g row,G0 g=some row->G g=some row):aA G0 J w ι obj:=⟨S.rep,S.inj,S.pX,S.jcell,λg row h=>S.uV g row (a g row h)⟩
def aO.more(S:aA G J w ι obj)(h:aO G0 obj obj' J ι w r v w'):aO G obj obj' J ι w r v w':=by obtain⟨J',ι',m,R,E⟩:=h;refine⟨J',ι',⟨m.rep,m.inj,m.pX,m.jcell,λg row u=>?_⟩,R,E⟩;obtain⟨H,h2,t,K⟩:=S.uV g row u;exact⟨E.ev.ia g H,h2.ev S E.ev H,t,by rw[E.ev.shape g (S.Ey g H)];exact K⟩
def gd.up{f:Nat}{af aC:List ah}(h:gd P G0 f args af r aC)(a:∀g row,G0 g=some row->G g=some row):gd P G f args af r aC:=by refine⟨h.1,λJ ι w vs S q=>(h.2 J ι w vs (S.less a) q).mono λe w' hr=>?_⟩;obtain⟨v,c,u⟩:=hr;exact⟨v,c,aO.more S u⟩
def aO.Wq(S:aA G J w ι obj)(V:RowKit.Below w.heap.size w w')(hr:∀J' w' ι',cW J' w' ι' r v):aO G obj obj J ι w r v w':=by
 have a:∀b,b<w.heap.size->w'.heap[b]? = w.heap[b]?:=λb h=>V.block b h
 have A:Ev (Own ι obj) J J ι ι w w':=⟨V.os,V.tape,V.output,V.size,λb h _=>a b h,λb h=>bI (a b h),λ_ h=>h,λ_ h=>.inl h,λ_ _ _ h=>h⟩;refine⟨J,ι,S.still (λb h=>a b (S.Ey b h)) (λb h=>a b (S.TF h)) (λb h=>bI (a b (iA h))),hr _ _ _,A,λb h=>.inl h⟩
end
end
section
variable{ai aj aC:List ah}{ac:List bF}{k A:Nat}{fs cs:List LV}{r:LV}{rv:List RV}(n:Nat)
section
variable {P:Program} {G:tY} {fin:St->Prop} {env:List (Nat×LV)} {af:List (Option ah)} {os:List er} {t:List It} {log:List iI}
def jX(base:Nat):∀o,o<n->gz (List.range n) base o=o:=λo h=>by unfold gz;rw[jo h]
def nu{n base:Nat}(O:af.take n=ai.map some)(T:ai.length=n)(hid:ai.all (aP n)=true):(List.range n).map (an af)=ai.map (λob=>bK.live (bP (gz (List.range n) base) ob)):=by
 rw[all_eq_true]at hid;refine ext_getElem (by simp[T]) (λi H h2=>?_);simp only[length_map,length_range]at H;simp only[getElem_map,getElem_range];have K:(af.take n)[i]? = some (some ai[i]):=by rw[O];simp[T,H]
 rw[getElem?_take_of_lt H]at K;rw[jZ (jX n base) _ (hid _ (getElem_mem _))];simp only[an,K]
def pI:∀(xs:List ah) (l:List (Option ah)) (k:Nat),k+xs.length<=l.length->CY ((range' k xs.length).zip xs) l=l.take k++xs.map some++l.drop (k+xs.length)
 |[],l,k,_=>by simp[CY]
 |x::xs,l,k,h=>by simp only[length_cons]at h;rw[length_cons,range'_succ,zip_cons_cons,CY,pI xs l (k+1) (by omega)];rw[take_add_one,getElem?_eq_getElem (show k<l.length by omega),show k+1+xs.length=k+(xs.length+1)by omega,append_assoc,append_assoc,set_append_right _ _ (by simp;omega)];simp[Nat.min_eq_left (show k<=l.length by omega)]
def ij{d:Option Nat}{f:bF}{pre:List Nat}(U:callee (f.ev G (aN env))=some (k,fs,cs))(c:gd P G k (fs++ac.map (·.ev G (aN env))++cs) ai r aj)(j:bn n (fs++ac.map (·.ev G (aN env))++cs)=true)
  (T:ai.length=n) (O:af.take n=ai.map some) (hid:ai.all (aP n)=true) (y:aj.length=n) (b:aj.all (aP n)=true) (hr:bV n r=true)
  (hk:W P G fin (.ops os::t) ⟨di d r env,aj.map some++af.drop n⟩):W P G fin (.ops (⟨d,.call f ac,none,pre⟩::os)::t) ⟨env,af⟩:=by
 have hlen:n<=af.length:=by have:=congrArg length O;simp[T]at this;omega
 refine lq _ U (bZ.hand (List.range n) c (gx (λo h=>jo h) _ _ j) nodup_range (nu O T hid) (by simpa using hid) (by omega)) ?_;have x:aj.map (bP (gz (List.range n) af.length))=aj:=by
  rw[all_eq_true]at b;conv=>rhs;rw[<- map_id aj]
  exact map_congr_left λob h=>jZ (jX n _) ob (b ob h)
 simp only[x,r_ (jX n af.length) r hr,length_range,drop_of_length_le (Nat.le_of_eq y),map_drop,drop_eq_nil_of_le (show aj.length<=n by omega),map_nil,append_nil];have e:=pI aj af 0 (by omega);rw[y,<- range_eq_range']at e;simp only[List.take_zero,nil_append,Nat.zero_add]at e;rw[e];exact hk
def gM{d:Option Nat}{f:bF}{pre:List Nat}(U:callee (f.ev G (aN env))=some (k,fs,cs))(c:gd P G k (fs++ac.map (·.ev G (aN env))++cs) ai r aj)(j:bn n (fs++ac.map (·.ev G (aN env))++cs)=true)
  (T:ai.length=n) (O:af.take n=ai.map some) (hid:ai.all (aP n)=true) (y:aj.length=n) (b:aj.all (aP n)=true) (hr:bV n r=true)
  (hk:W P G fin (.en os (log++[⟨pre,List.range n,List.range n⟩])::t) ⟨di d r env,aj.map some++af.drop n⟩):W P G fin (.en (⟨d,.call f ac,none,pre⟩::os) log::t) ⟨env,af⟩:=by
 have hlen:n<=af.length:=by have:=congrArg length O;simp[T]at this;omega
 refine mR _ U (bZ.hand (List.range n) c (gx (λo h=>jo h) _ _ j) nodup_range (nu O T hid) (by simpa using hid) (by omega)) ?_;have x:aj.map (bP (gz (List.range n) af.length))=aj:=by
  rw[all_eq_true]at b;conv=>rhs;rw[<- map_id aj]
  exact map_congr_left λob h=>jZ (jX n _) ob (b ob h)
 simp only[x,r_ (jX n af.length) r hr,length_range,map_drop,drop_eq_nil_of_le (show aj.length<=n by omega),map_nil,append_nil,fN.owned,CW,nil_append];have e:=pI aj af 0 (by omega);rw[y,<- range_eq_range']at e;simp only[List.take_zero,nil_append,Nat.zero_add]at e;rw[e];have Z:((List.range n).zip aj).map (·.1)=List.range n:=map_fst_zip (by simp[y]);rw[Z];exact hk
def ey{d:Option Nat}{f:bF}{pre:List Nat}(U:callee (f.ev G (aN env))=some (k,fs,cs))(c:gd P G k (fs++ac.map (·.ev G (aN env))++cs) ai r ai)(j:bn n (fs++ac.map (·.ev G (aN env))++cs)=true)
  (T:ai.length=n) (O:af.take n=ai.map some) (hid:ai.all (aP n)=true) (hr:bV n r=true)
  (hk:W P G fin (.ops os::t) ⟨di d r env,af⟩):W P G fin (.ops (⟨d,.call f ac,none,pre⟩::os)::t) ⟨env,af⟩:=by
 refine NP (List.range n) c U (gx (λo h=>jo h) _ _ j) nodup_range (nu O T hid) (by simpa using hid) ?_;rw[r_ (jX n af.length) r hr];exact hk
def s9{d:Option Nat}{f:bF}{pre:List Nat}(U:callee (f.ev G (aN env))=some (k,fs,cs))(c:gd P G k (fs++ac.map (·.ev G (aN env))++cs) ai r ai)(j:bn n (fs++ac.map (·.ev G (aN env))++cs)=true)
  (T:ai.length=n) (O:af.take n=ai.map some) (hid:ai.all (aP n)=true) (hr:bV n r=true)
  (hk:W P G fin (.en os (log++[⟨pre,List.range n,[]⟩])::t) ⟨di d r env,af⟩):W P G fin (.en (⟨d,.call f ac,none,pre⟩::os) log::t) ⟨env,af⟩:=by
 refine JI (List.range n) c U (gx (λo h=>jo h) _ _ j) nodup_range (nu O T hid) (by simpa using hid) ?_;rw[r_ (jX n af.length) r hr];exact hk
def Fj{s:St}(hk:k<=aC.length)(hs:mE rv r aC s)(hid:bV aC.length r=true)(O:aC.all (aP aC.length)=true):Rj rv k r aC s:=by obtain⟨q,vs,ρ,Z,H,h2,K⟩:=NV hs hid O;refine⟨q,vs,ρ,Z,H,?_,K⟩;rw[<- Nat.min_eq_left hk,<- take_take,h2,take_range,Nat.min_eq_left hk]
def M0{m:Nat}{l:List ah}(h:l.all (aP m)=true):(l.map some).all (SU m)=true:=by rw[all_map];exact h
def Ff:∀(a b:List Ad) (s:St),bQ (a++b) s=bQ b (bQ a s)
 |[],_,_=>rfl
 |x::a,b,s=>Ff a b (x.ap s)
def Zh{s:St}(q:List Ad)(hs:mE rv r aC (bQ q s))(hid:bV aC.length r=true)(O:aC.all (aP aC.length)=true):Rj rv aC.length r aC s:=by obtain⟨a,h⟩:=NV hs hid O;exact⟨q++a,by rw[Ff];exact h⟩
mutual
def ko{k A:Nat}(h:k<=A):∀(x:LV),bV k x=true->bV A x=true
 |.top,_=>rfl
 |.ec,_=>rfl
 |.d _,_=>rfl
 |.ptr o c,Z=>by simp only[bV,decide_eq_true_eq]at Z ⊢;omega
 |.rp o n e r c,Z=>by simp only[bV,decide_eq_true_eq]at Z ⊢;omega
 |.ip r c,_=>rfl
 |.sl o n e l m,Z=>by simp only[bV,decide_eq_true_eq]at Z ⊢;omega
 |.fn f a b,Z=>by simp only[bV,Bool.and_eq_true]at Z ⊢;exact⟨gv h a Z.1,gv h b Z.2⟩
 |.agg cs,Z=>by simp only[bV]at Z ⊢;exact gv h cs Z
 |.cZ cs,Z=>by simp only[bV]at Z ⊢;exact gv h cs Z
 |.gR t x,Z=>by simp only[bV]at Z ⊢;exact ko h x Z
 |.yl o,Z=>by simp only[bV,decide_eq_true_eq]at Z ⊢;omega
 |.mr o,Z=>by simp only[bV,decide_eq_true_eq]at Z ⊢;omega
def gv{k A:Nat}(h:k<=A):∀(xs:List LV),bn k xs=true->bn A xs=true
 |[],_=>rfl
 |x::xs,Z=>by simp only[bn,Bool.and_eq_true]at Z ⊢;exact⟨ko h x Z.1,gv h xs Z.2⟩
end
def EB(h:k<=A):∀(ob:ah),aP k ob=true->aP A ob=true
 |.box _ cs,Z=>gv h cs Z
 |.mp es,Z=>by simp only[aP,all_eq_true]at Z ⊢;exactλp S=>ko h _ (Z p S)
 |.lr _ _ _ cs,Z=>gv h cs Z
 |.dat ..,_=>rfl
 |.k9 ..,_=>rfl
 |.l_ ..,_=>rfl
def eN(h:k<=A){l:List ah}(y:l.all (aP k)=true):l.all (aP A)=true:=by rw[all_eq_true]at y ⊢;exactλob V=>EB h ob (y ob V)
end
end
section
variable{fn:Func}{rv:List RV}{r:LV}{ai aj aC:List ah}{ds:List Deferred}{fv:Fn}{cap us:Array Value}{aX:Nat->bK}{k:Nat}{args:List LV}{w:World}
section
variable {P:Program} {G:tY} {J J0:Nat->Prop} {w w0:World} {ι bR:fe}
def ael(P:Program)(G:tY)(f:Nat)(args:List LV)(af:List ah)(r:LV)(aC:List ah):Prop:=
 lH P f=true/\∀J ι w (vs:Array Value) u,aA G J w ι (an (af.map some))->cm J w ι args vs.toList->
  CallsD P f vs u w (λe a w'=>a=u/\∃v,e=.returned v/\aO G (an (af.map some)) (an (aC.map some)) J ι w r v w')
def EO{s:St}{tmps:Array Value}(S:aA G J w ι s.obj)(c:∀t,cW J w ι (s.get t) (tmps.getD t Go.undef))(S0:aA G J0 w0 bR (an (ai.map some)))(E:Ext (an (ai.map some)) s.obj J0 J bR ι w0 w)
  (Vc:jA P fn.results.toList=some rv) (m:U7 rv ai.length r aj s):∃v,(results fn tmps).run P w=.ok v w/\aO G (an (ai.map some)) (an (aj.map some)) J0 bR w0 r v w:=by
 obtain⟨rs,ρ,Z,sH,hk,j,A,T,hlen,K,hid,hR⟩:=m;obtain⟨us,Vb,Ln⟩:=gi.sound (a:={ tmps:=tmps,defers:=[] }) S c Vc sH;have e:(fn.results.mapM (FR tmps)).run P w=.ok us.toArray w:=by rw[Array.mapM_eq_mapM_toList,Sem.run_map,Vb];rfl
 have q:∃v,(results fn tmps).run P w=.ok v w/\cW J w ι (aR rs) v:=by
  refine⟨if h:us.toArray.size=1 then us.toArray[0]else .tuple us.toArray,?_,?_⟩
  .rw [qu,Sem.run_bind,e];rfl
  .have PM:=Ln.length;cases rs with
   |nil=>
    cases us with
    |nil=>exact⟨#[],rfl,trivial⟩
    |cons _ _=>simp at PM
   |cons x xs=>
    cases us with
    |nil=>simp at PM
    |cons u us=>
     cases xs with
     |nil=>
      cases us with
      |nil=>exact Ln.1
      |cons _ _=>simp at PM
     |cons y ys=>
      cases us with
      |nil=>simp at PM
      |cons u2 us=>exact⟨_,by simp,Ln⟩
 obtain⟨v,hv1,Xk⟩:=q;refine⟨v,hv1,?_⟩;obtain⟨S',U⟩:=S.sub (base:=0) j A hlen K hid (λz A=>.inl (T z A));refine⟨_,_,S',Nk S _ _ v hR Xk,⟨E.ev.os,E.ev.tape,E.ev.output,E.ev.size,E.ev.same,E.ev.shape,λb V=>.inl (E.ev.ia b V),λb V=>?_,λo n b V=>?_⟩,?_⟩
 .rcases V with V|⟨z,TL,Rg⟩
  .exact E.ev.uT b V
  .rcases E.own b ⟨z,Rg⟩with H|H
   .exact .inr (.inr H)
   .exact .inr (.inl H)
 .have O:o<ai.length:=by
   rcases Nat.lt_or_ge o ai.length with H|H
   .exact H
   .have:=S0.rep o;rw[cD (by simpa using H)]at this;rw[this n]at V;cases V
  have Z3:ρ[o]? = some o:=by
   have H:(ρ.take ai.length)[o]? = some o:=by rw[hk];simp[O]
   rwa [getElem?_take_of_lt O]at H
  exact lK Z3 (E.ev.gu o n b V)
 .rintro b ⟨i,V⟩;obtain⟨o,_,h2⟩:=U i b V;exact E.own b ⟨o,h2⟩
def Ld{s:St}{tmps:Array Value}(S:aA G J w ι s.obj)(c:∀t,cW J w ι (s.get t) (tmps.getD t Go.undef))(m:aA G J0 w0 bR (an (ai.map some)))(E:Ext (an (ai.map some)) s.obj J0 J bR ι w0 w)
  (j:jA P fn.results.toList=some rv) (Z:U7 rv ai.length r aj s):Leaves P fn tmps (λe w'=>∃v,e=.returned v/\aO G (an (ai.map some)) (an (aj.map some)) J0 bR w0 r v w') [] .returning w:=by
 obtain⟨v,H,h2⟩:=EO S c m E j Z;exact⟨v,H,v,rfl,h2⟩
def zk{s:St}{tmps:Array Value}(S:aA G J w ι s.obj)(c:∀t,cW J w ι (s.get t) (tmps.getD t Go.undef))(a:aA G J0 w0 bR (an (ai.map some)))(E:Ext (an (ai.map some)) s.obj J0 J bR ι w0 w)(o:tmps.size<=YS)
  (j:jA P fn.results.toList=some rv) (hs:mE rv r aC s) (hid:bV aC.length r=true) (O:aC.all (aP aC.length)=true) (hlen:ai.length<=aC.length):Leaves P fn tmps (λe w'=>∃v,e=.returned v/\aO G (an (ai.map some)) (an (aC.map some)) J0 bR w0 r v w') [] .returning w:=by
 have u:mF G (Dk.plain [] false) tmps.size (an (ai.map some)) J0 bR w0 s { tmps:=tmps,defers:=[] } w:=⟨J,ι,⟨S,c,rfl,Marks.plain _ _,trivial,o⟩,E⟩;obtain⟨q,Z⟩:=Fj hlen hs hid O;obtain⟨J',ι',m,E'⟩:=(u.bQ q).ex;exact Ld m.store m.env a E' j Z
def zj{tmps:Array Value}{R:Ending->World->Prop}{dargs:Array Value}{s:St}{aK:List LV}
  (S:aA G J w ι s.obj) (c:∀t,cW J w ι (s.get t) (tmps.getD t Go.undef)) (E:Ext aX s.obj J0 J bR ι w0 w) (hi:(invoke (.fn fv cap) dargs).run P w=.ok (.enter k us) w) (Vb:cm J w ι args us.toList)
  (ρ:List Nat) (a:ael P G k aK ai r aj) (m:ay s.obj ρ [] args aK) (n:ρ.Nodup) (O:ρ.map s.obj=ai.map (λob=>bK.live (bP (gz ρ s.af.length) ob))) (hid:ai.all (aP ρ.length)=true) (q:ai.length<=aj.length)
  (hK:∀(J':Nat->Prop) (ι':fe) (w':World),aA G J' w' ι' (an (CY (ρ.zip (aj.map (bP (gz ρ s.af.length)))) s.af++((aj.drop ρ.length).map (bP (gz ρ s.af.length))).map some))->(∀t,cW J' w' ι' (s.get t) (tmps.getD t Go.undef))->
   Ext aX (an (CY (ρ.zip (aj.map (bP (gz ρ s.af.length)))) s.af++((aj.drop ρ.length).map (bP (gz ρ s.af.length))).map some)) J0 J' bR ι' w0 w'->(∀xs vs,cm J w ι xs vs->cm J' w' ι' xs vs)->Leaves P fn tmps R ds .returning w') :
  Leaves P fn tmps R ({ target:=.fn fv cap,args:=dargs }::ds) .returning w:=by
 have y:ai.length=ρ.length:=by have:=congrArg length O;simpa using this.symm
 have K:∀(i o:Nat),ρ[i]? = some o->∃ob,ai[i]? = some ob/\s.obj o=.live (bP (gz ρ s.af.length) ob):=by
  intro i o h;have H:(ρ.map s.obj)[i]? = some (s.obj o):=by simp[h]
  rw[O,getElem?_map]at H;cases V:ai[i]? with
  |none=>rw[V]at H;cases H
  |some ob=>rw[V]at H;simp only[Option.map_some,Option.some.injEq]at H;exact⟨ob,rfl,H.symm⟩
 obtain⟨SF,_⟩:=S.sub (base:=s.af.length) (Z:=[]) n (λ_ h=>by cases h) y K hid (λz A=>by cases A);refine leaves_cons (by simp) hi ((a.2 _ _ w us .returning SF (gB S _ _ _ m Vb)).mono ?_);rintro e u' w' ⟨rfl,v,rfl,u⟩;have x:∀j,j<aj.length-ρ.length->s.obj (s.af.length+j)=.free:=λj _=>cD (Nat.le_add_right _ _)
 have Ud:=aO.call S (Z:=[]) (tmp:=false) n (λ_ h=>by cases h) y K hid (λz A=>by cases A) (λh=>by cases h) q x u;obtain⟨J',ι',S',hr,E'⟩:=Ud;have hwr:∀p∈ρ.zip (aj.map (bP (gz ρ s.af.length))),p.1<s.af.length:=λp b=>by obtain⟨i,hi⟩:=mem_iff_getElem?.1 (of_mem_zip b).1;obtain⟨ob,_,h2⟩:=K i p.1 hi;exact JO h2
 have U:bB s.obj s.af.length { r:=rn (gz ρ s.af.length) r,rd:=ρ++[],wr:=(ρ.zip (aj.map (bP (gz ρ s.af.length))))++(if false=true then[]else fA s.obj []),nw:=(aj.drop ρ.length).map (bP (gz ρ s.af.length)) } = an (CY (ρ.zip (aj.map (bP (gz ρ s.af.length)))) s.af++((aj.drop ρ.length).map (bP (gz ρ s.af.length))).map some):=by
  have T:(ρ.zip (aj.map (bP (gz ρ s.af.length))))++(if false=true then[]else fA s.obj [])=ρ.zip (aj.map (bP (gz ρ s.af.length))):=by simp[fA]
  rw[T];exact(Ay s.af { r:=rn (gz ρ s.af.length) r,rd:=ρ++[],wr:=ρ.zip (aj.map (bP (gz ρ s.af.length))),nw:=(aj.drop ρ.length).map (bP (gz ρ s.af.length)) } hwr).symm
 rw[U]at S' E';exact hK J' ι' w' S' (λt=>(c t).ev S E'.ev) (E.trans E') (λxs vs h=>h.ev S E'.ev)
def wL{tmps:Array Value}{R:Ending->World->Prop}{n:Array Value}{env:List (Nat×LV)}
  (S:aA G J w ι (an (ai.map some))) (c:∀t,cW J w ι (aN env t) (tmps.getD t Go.undef)) (E:Ext aX (an (ai.map some)) J0 J bR ι w0 w) (hi:(invoke (.fn fv cap) n).run P w=.ok (.enter k us) w) (q:cm J w ι args us.toList)
  (a:ael P G k args ai r aj) (j:bn ai.length args=true) (hid:ai.all (aP ai.length)=true) (b:aj.all (aP ai.length)=true) (y:aj.length=ai.length)
  (A:∀(J':Nat->Prop) (ι':fe) (w':World),aA G J' w' ι' (an (aj.map some))->(∀t,cW J' w' ι' (aN env t) (tmps.getD t Go.undef))->Ext aX (an (aj.map some)) J0 J' bR ι' w0 w'->(∀xs vs,cm J w ι xs vs->cm J' w' ι' xs vs)->Leaves P fn tmps R ds .returning w') :
  Leaves P fn tmps R ({ target:=.fn fv cap,args:=n }::ds) .returning w:=by
 refine zj (s:=⟨env,ai.map some⟩) S c E hi q (List.range ai.length) a (gx (λo h=>jo h) _ _ j) nodup_range (nu (by rw[take_of_length_le (by simp)]) rfl hid) (by simpa using hid) (by omega) (λJ' ι' w' m u E' hr=>?_);have x:aj.map (bP (gz (List.range ai.length) (ai.map some).length))=aj:=by
  rw[all_eq_true]at b;conv=>rhs;rw[<- map_id aj]
  exact map_congr_left λob h=>jZ (jX _ _) ob (b ob h)
 have e:=pI aj (ai.map some) 0 (by simp;omega);rw[y,<- range_eq_range']at e;simp only[List.take_zero,nil_append,Nat.zero_add,drop_of_length_le (show(ai.map some).length<=ai.length by simp),append_nil]at e;have Z:CY ((List.range ai.length).zip (aj.map (bP (gz (List.range ai.length) (ai.map some).length)))) (ai.map some)++((aj.drop (List.range ai.length).length).map (bP (gz (List.range ai.length) (ai.map some).length))).map some=aj.map some:=by rw[x,e,drop_of_length_le (by simp;omega)];simp
 dsimp only at m u E';rw[Z]at m E';exact A J' ι' w' m u E' hr
def VA{f:Nat}{x:Nat×C×List RV}{af:List ah}(V:P.funcs[f]? = some fn)(T:(fn.name != "runtime.NumGoroutine")=true)(b:bM P fn=some x)(Rf:lW x.2.1=true)(y:Nat.ble args.length x.1=true)(hid:bV aC.length r=true)(O:aC.all (aP aC.length)=true)(hlen:af.length=aC.length)
  (h:W P G (mE x.2.2 r aC) [.c x.2.1] ⟨dU 0 args,af.map some⟩):ael P G f args af r aC:=by
 have T:fn.name≠ "runtime.NumGoroutine" :=by simpa using T
 obtain⟨n,c,rv⟩:=x;unfold bM at b;split at b
 .rename_i code A;split at b
  .rename_i c' rv' U Vc;split at b;case isFalse=>cases b
   rename_i hlim;cases b;refine⟨by simp[lH,V,T,A],λJ0 bR w0 vs u S0 q=>?_⟩;simp only[W,Wx]at h;have hD:=callsD_of_wp (u:=u) (R:=λe w'=>∃v,e=.returned v/\aO G (an (af.map some)) (an (aC.map some)) J0 bR w0 r v w') V A (args:=vs) (w:=w0) (wp_mono ((wpIn_wide (n:=0)).1 (ez (ro:=none) (N:=fn.ntmps) (D:=Dk.plain [] false) (aX:=an (af.map some)) (J0:=J0) (bR:=bR) (w0:=w0) code _ U (.inl Rf) _ _ h pE.no (Mx.no _) _ w0 (xz S0 q (Nat.le_of_ble_eq_true y) hlim))) (λe a w m=>?_))
   .exact hD.mono λe u' w' h=>h
   have fin:∀s,mF G (Dk.plain [] false) fn.ntmps (an (af.map some)) J0 bR w0 s a w->mE rv r aC s->a.defers=[]/\∃v,(results fn a.tmps).run P w=.ok v w/\∃v_1,Ending.returned v=Ending.returned v_1/\aO G (an (af.map some)) (an (aC.map some)) J0 bR w0 r v_1 w:=by intro s j Z;obtain⟨o,Z⟩:=NV Z hid O;replace j:=j.bQ o;obtain⟨J,ι,S,E⟩:=j.ex;obtain⟨v,H,h2⟩:=EO (ai:=af) S.store S.env S0 E Vc (by rw[hlen];exact Z);exact⟨S.defers.none rfl,v,H,v,rfl,h2⟩
   cases e with
   |normal=>obtain⟨s,j,Z⟩:=m;exact fin s j Z
   |ret=>obtain⟨s,j,Z⟩:=m;exact fin s j Z
   |exit i=>obtain⟨_,s,j,Z⟩:=m;exact Z.elim
   |goto l=>exact m.elim
   |panic ch=>obtain⟨v,s,H,h2,K,hk⟩:=m;exact hk.elim
   |outgrown=>exact m.elim
  .cases b
 .cases b
end
section
variable {P:Program} {G:tY} {D:Dk} {N:Nat} {aX:Nat->bK} {J0:Nat->Prop} {bR:fe} {w0:World} {Q:Exit->Act->World->Prop}
def ON:Nat->Code->List Code×Code
 |n+1,.seq a b=>(a::(ON n b).1,(ON n b).2)
 |_,c=>([],c)
def oe:Nat->C->List C×C
 |n+1,.seq a b=>(a::(oe n b).1,(oe n b).2)
 |_,c=>([],c)
def preB(n:Nat)(b:Option Code):List Code:=(ON n (b.getD .skip)).1
def HL(n:Nat)(b:Option Code):Code:=(ON n (b.getD .skip)).2
def DW{E:Operand->Value}{x:Operand}{ac:Array Operand}{ts:Array TypeId}{fs:Array Value}{pos:String}{a:Array Edge}{ty:TypeId}{d:Option Nat}{g:Option (Nat×Bool)}(h:E x=.func fv fs cap):(execOp E ⟨d,.defer ⟨.value x,ac,ts⟩,ty,pos,a,g⟩).run P w=.ok (.defer { target:=.fn fv cap,args:=fs++ac.map E }) w:=by simp only[execOp,resolve,Sem.run_bind,h,Deferred.ofValue,Sem.run_pure,Result.andThen_ok]
def Has(s1 s:St):Prop:=s.af=s1.af/\∀p∈s1.env,s.get p.1=p.2
def mF.has{s1 s:St}{a:Act}(h:mF G (Dk.plain ds false) N aX J0 bR w0 s a w)(hs:Has s1 s):mF G (Dk.plain ds false) N aX J0 bR w0 s1 a w:=by
 obtain⟨J,ι,S,E⟩:=h;have O:s1.obj=s.obj:=by unfold St.obj;rw[hs.1]
 refine⟨J,ι,⟨by rw[O];exact S.store,λt=>?_,S.size,S.defers,trivial,S.lim⟩,by rw[O];exact E⟩;show cW J w ι (aN s1.env t) _;rcases Au s1.env t with H|H
 .rw [H];trivial
 .have h2:s.get t=aN s1.env t:=hs.2 _ H;rw[<- h2];exact S.env t
def NN{fin Wv:St->Prop} : ∀(cs:List C),Wy (cs.map It.c++[.rt Wv λ_ _=>False])=uP/\Wb (cs.map It.c++[.rt Wv λ_ _=>False])=none/\∀i s,Wx P G fin i (cs.map It.c++[.rt Wv λ_ _=>False]) s->False
 |[]=>⟨rfl,rfl,λ_ _ h=>h⟩
 |c::cs=>NN cs
def Fl{fin Wv:St->Prop}{o:Code}(hk:∀s a w,mF G D N aX J0 bR w0 s a w->Wv s->o.wp P Q a w)(hr:∀s a w,mF G D N aX J0 bR w0 s a w->fin s->Q .ret a w) :
  ∀(l:List Code) (cs:List C) (s:St) (a:Act) (w:World),l.map (dW P N)=cs.map some->cs.all lW=true->W P G fin (cs.map It.c++[.rt Wv λ_ _=>False]) s->mF G D N aX J0 bR w0 s a w->(l.foldr Code.seq o).wp P Q a w
 |[],[],s,a,w,_,_,h,u=>hk s a w u h
 |c::l,[],_,_,_,h,_,_,_=>by simp at h
 |[],_::_,_,_,_,h,_,_,_=>by simp at h
 |c::l,d::cs,s,a,w,U,T,h,u=>by
  simp only[map_cons,List.cons.injEq,all_cons,Bool.and_eq_true]at U T;obtain⟨x,O,Z⟩:=NN (P:=P) (G:=G) (fin:=fin) (Wv:=Wv) cs;simp only[map_cons,cons_append,W]at h;rw[x,O]at h;refine wp_seq (wp_mono ((wpIn_wide (n:=0)).1 (ez (ro:=none) c d U.1 (.inl T.1) s _ h pE.no (Mx.no _) a w u)) (λe b w' m=>?_));cases e with
  |normal=>obtain⟨A,V,j⟩:=m;exact Fl hk hr l cs A b w' U.2 T.2 j V
  |ret=>obtain⟨A,V,j⟩:=m;exact hr A b w' V j
  |exit i=>obtain⟨_,s,_,h⟩:=m;exact(Z _ _ h).elim
  |goto l=>exact m.elim
  |panic q=>obtain⟨_,s,_,_,_,h⟩:=m;exact(Z _ _ h).elim
  |outgrown=>exact m.elim
end
end
section
variable{rv:List RV}{r:LV}{A B ai:List ah}{ac:List bF}{k base:Nat}{fs cs aK:List LV}{b:List Nat}(n:Nat)(ρ:List Nat)
def Zg{s:St}(m:Nat)(hs:zQ rv r s)(hid:bV A.length r=true)(x:A.length<=m)
  (u:s.af.take A.length=(A.map (bP (gz (List.range A.length++range' m B.length) 0))).map some)
  (Z:(s.af.drop m).take B.length=(B.map (bP (gz (List.range A.length++range' m B.length) 0))).map some) (y:(A++B).all (aP (A.length+B.length))=true):Rj rv A.length r (A++B) s:=by
 have H:=hs;unfold zQ at H;split at H
 .rename_i vs n;simp only[Option.some.injEq]at H;subst H;generalize c:List.range A.length++range' m B.length=ρ at *;have e:∀o,o<A.length->ρ[o]? = some o:=λo O=>by
   rw[<- c,getElem?_append_left (by simpa using O)];exact getElem?_range O
  refine⟨[],vs,ρ,[],n,?_,?_,(λ_ h=>by cases h),(λ_ h=>by cases h),by rw[<- c];simp,λi o hi=>?_,?_,xA e _ _ hid⟩
  .rw [<- c];simp
  .rw [<- c,nodup_append];refine⟨nodup_range,nodup_range',λa j b V=>?_⟩;simp at j V;omega
  .rw [<- c]at hi;by_cases q:i<A.length
   .rw [getElem?_append_left (by simpa using q),getElem?_range q]at hi;cases hi;refine⟨A[i],by rw[getElem?_append_left q];exact getElem?_eq_getElem q,?_⟩;have K:(s.af.take A.length)[i]? = some (some (bP (gz ρ 0) A[i])):=by rw[u];simp[q]
    rw[getElem?_take_of_lt q]at K;simp only[bQ,St.obj,an,K]
   .rw [getElem?_append_right (by simp;omega)]at hi;obtain⟨hj,O⟩:=List.getElem?_eq_some_iff.1 hi;simp only[length_range,length_range']at hj;simp only[length_range,getElem_range',Nat.one_mul]at O;refine⟨B[i-A.length],by rw[getElem?_append_right (by omega)];exact getElem?_eq_getElem hj,?_⟩;have K:((s.af.drop m).take B.length)[i-A.length]? = some (some (bP (gz ρ 0) B[i-A.length])):=by rw[Z];simp[hj]
    rw[getElem?_take_of_lt hj,getElem?_drop,O]at K;simp only[bQ,St.obj,an,K]
  .rw [<- c,length_append,length_range,length_range'];exact y
 .cases H
section
variable {π NW:Nat->Nat} {k:Nat}
mutual
def Sj(h:∀o,o<k->π o=NW o):∀(x:LV),bV k x=true->rn π x=rn NW x
 |.top,_=>rfl
 |.d x,_=>rfl
 |.ec,_=>rfl
 |.ptr o c,Z=>by simp only[bV,decide_eq_true_eq]at Z;simp only[rn,h o Z]
 |.rp o n e r c,Z=>by simp only[bV,decide_eq_true_eq]at Z;simp only[rn,h o Z]
 |.ip ..,_=>rfl
 |.sl o n e l m,Z=>by simp only[bV,decide_eq_true_eq]at Z;simp only[rn,h o Z]
 |.fn f a b,Z=>by simp only[bV,Bool.and_eq_true]at Z;simp only[rn,uG h a Z.1,uG h b Z.2]
 |.agg cs,Z=>by simp only[bV]at Z;simp only[rn,uG h cs Z]
 |.cZ cs,Z=>by simp only[bV]at Z;simp only[rn,uG h cs Z]
 |.gR t x,Z=>by simp only[bV]at Z;simp only[rn,Sj h x Z]
 |.yl o,Z=>by simp only[bV,decide_eq_true_eq]at Z;simp only[rn,h o Z]
 |.mr o,Z=>by simp only[bV,decide_eq_true_eq]at Z;simp only[rn,h o Z]
def uG(h:∀o,o<k->π o=NW o):∀(xs:List LV),bn k xs=true->kC π xs=kC NW xs
 |[],_=>rfl
 |x::xs,Z=>by simp only[bn,Bool.and_eq_true]at Z;simp only[kC,Sj h x Z.1,uG h xs Z.2]
end
def nv(h:∀o,o<k->π o=NW o):∀(ob:ah),aP k ob=true->bP π ob=bP NW ob
 |.box et cells,Z=>by simp only[bP];rw[uG h cells Z]
 |.mp es,Z=>by simp only[aP,all_eq_true]at Z;simp only[bP,ah.mp.injEq];exact map_congr_left λp S=>by rw[Sj h p.2 (Z p S)]
 |.lr et e v cells,Z=>by simp only[bP];rw[uG h cells Z]
 |.dat ..,_=>rfl
 |.k9 ..,_=>rfl
 |.l_ ..,_=>rfl
end
section
variable {π NW:Nat->Nat}
mutual
def Si:∀(x:LV),rn π (rn NW x)=rn (λo=>π (NW o)) x
 |.top=>rfl
 |.d x=>rfl
 |.ec=>rfl
 |.ptr o c=>rfl
 |.rp o n e r c=>rfl
 |.ip ..=>rfl
 |.sl o n e l m=>rfl
 |.fn f a b=>by simp only[rn,qs a,qs b]
 |.agg cs=>by simp only[rn,qs cs]
 |.cZ cs=>by simp only[rn,qs cs]
 |.gR t x=>by simp only[rn,Si x]
 |.yl o=>rfl
 |.mr o=>rfl
def qs:∀(xs:List LV),kC π (kC NW xs)=kC (λo=>π (NW o)) xs
 |[]=>rfl
 |x::xs=>by simp only[kC,Si x,qs xs]
end
def FQ:∀(ob:ah),bP π (bP NW ob)=bP (λo=>π (NW o)) ob
 |.box et cells=>by simp only[bP,qs]
 |.mp es=>by simp only[bP,ah.mp.injEq,map_map];exact map_congr_left λp S=>by simp[Si]
 |.lr et e v cells=>by simp only[bP,qs]
 |.dat ..=>rfl
 |.k9 ..=>rfl
 |.l_ ..=>rfl
end
def acP{env:List (Nat×LV)}{mid:List (Option ah)}(q:Nat)(T:A.length=n)(m:mid.length=q)(hs:zQ rv r ⟨env,(A.map (bP (gz (List.range n) (n+q)))).map some++mid++(B.map (bP (gz (List.range n) (n+q)))).map some⟩)(hid:bV n r=true)(a:(A++B).all (aP (n+B.length))=true) :
  Rj rv n r (A++B) ⟨env,(A.map (bP (gz (List.range n) (n+q)))).map some++mid++(B.map (bP (gz (List.range n) (n+q)))).map some⟩:=by
 subst T;have U:∀o,o<A.length+B.length->gz (List.range A.length) (A.length+q) o=gz (List.range A.length++range' (A.length+q) B.length) 0 o:=by
  intro o O;unfold gz;by_cases h:o<A.length
  .rw [getElem?_append_left (by simpa using h)];simp[h]
  .rw [getElem?_append_right (by simp;omega),getElem?_eq_none (by simp;omega),getElem?_range' (by simp;omega)];simp
 have c:∀l:List ah,l.all (aP (A.length+B.length))=true->l.map (bP (gz (List.range A.length) (A.length+q)))=l.map (bP (gz (List.range A.length++range' (A.length+q) B.length) 0)):=by intro l y;rw[all_eq_true]at y;exact map_congr_left λob h=>nv U ob (y ob h)
 rw[all_append,Bool.and_eq_true]at a;refine Zg (A.length+q) hs hid (by omega) ?_ ?_ (by rw[all_append,a.1,a.2];rfl)
 .rw [<- c A a.1,append_assoc];exact take_left' (by simp)
 .rw [<- c B a.2,drop_left' (by simp;omega)];exact take_of_length_le (by simp)
def M4:∀(l:List ah) (k:Nat),(CW k l).map (·.1)=range' k l.length
 |[],_=>rfl
 |x::l,k=>by simp only[CW,map_cons,M4 l (k+1),length_cons,range'_succ]
section
variable {P:Program} {G:tY} {fin:St->Prop} {env:List (Nat×LV)} {af:List (Option ah)} {os:List er} {t:List It} {log:List iI}
def JH{d:Option Nat}{f:bF}{pre:List Nat}(U:callee (f.ev G (aN env))=some (k,fs,cs))(c:gd P G k (fs++ac.map (·.ev G (aN env))++cs) ai r (A++B))(j:bn n (fs++ac.map (·.ev G (aN env))++cs)=true)
  (T:ai.length=n) (O:af.take n=ai.map some) (hid:ai.all (aP n)=true) (y:A.length=n)
  (hk:W P G fin (.ops os::t) ⟨di d (rn (gz (List.range n) af.length) r) env,(A.map (bP (gz (List.range n) af.length))).map some++af.drop n++(B.map (bP (gz (List.range n) af.length))).map some⟩):W P G fin (.ops (⟨d,.call f ac,none,pre⟩::os)::t) ⟨env,af⟩:=by
 have hlen:n<=af.length:=by have:=congrArg length O;simp[T]at this;omega
 refine lq _ U (bZ.hand (List.range n) c (gx (λo h=>jo h) _ _ j) nodup_range (nu O T hid) (by simpa using hid) (by simp;omega)) ?_;have e:=pI (A.map (bP (gz (List.range n) af.length))) af 0 (by simp;omega);rw[length_map,y,<- range_eq_range']at e;simp only[List.take_zero,nil_append,Nat.zero_add]at e;have Z:(List.range n).zip ((A++B).map (bP (gz (List.range n) af.length)))=(List.range n).zip (A.map (bP (gz (List.range n) af.length))):=by rw[map_append];have:=zip_append (l₁:=List.range n) (r₁:=[]) (l₂:=A.map (bP (gz (List.range n) af.length))) (r₂:=B.map (bP (gz (List.range n) af.length))) (by simp[y]);simpa using this
 have x:(A++B).drop (List.range n).length=B:=drop_left' (by simp[y]);simp only[Z,x,e];exact hk
def UW{d:Option Nat}{f:bF}{pre:List Nat}(U:callee (f.ev G (aN env))=some (k,fs,cs))(c:gd P G k (fs++ac.map (·.ev G (aN env))++cs) ai r (A++B))(j:bn n (fs++ac.map (·.ev G (aN env))++cs)=true)
  (T:ai.length=n) (O:af.take n=ai.map some) (hid:ai.all (aP n)=true) (y:A.length=n) (hr:bV n r=true)
  (hk:W P G fin (.ops os::t) ⟨di d r env,(A.map (bP (gz (List.range n) af.length))).map some++af.drop n++(B.map (bP (gz (List.range n) af.length))).map some⟩):W P G fin (.ops (⟨d,.call f ac,none,pre⟩::os)::t) ⟨env,af⟩:=by
 refine JH n U c j T O hid y ?_;rw[r_ (jX n af.length) r hr];exact hk
def UU{d:Option Nat}{f:bF}{pre:List Nat}(q:LV)(m:List ah)(U:callee (f.ev G (aN env))=some (k,fs,cs))(c:gd P G k (fs++ac.map (·.ev G (aN env))++cs) ai r (A++B))(j:bn n (fs++ac.map (·.ev G (aN env))++cs)=true)
  (T:ai.length=n) (O:af.take n=ai.map some) (hid:ai.all (aP n)=true) (y:A.length=n) (u:A.all (aP n)=true) (hr:rn (gz (List.range n) af.length) r=q) (Z:B.map (bP (gz (List.range n) af.length))=m)
  (hk:W P G fin (.ops os::t) ⟨di d q env,A.map some++af.drop n++m.map some⟩):W P G fin (.ops (⟨d,.call f ac,none,pre⟩::os)::t) ⟨env,af⟩:=by
 refine JH n U c j T O hid y ?_;have x:A.map (bP (gz (List.range n) af.length))=A:=by
  rw[all_eq_true]at u;conv=>rhs;rw[<- map_id A]
  exact map_congr_left λob h=>jZ (jX n _) ob (u ob h)
 rw[x,hr,Z];exact hk
def abv{s n:Nat} : ∀o,o<n->gz (range' s n) base o=o+s:=λo h=>by unfold gz;rw[getElem?_range' h];simp[Nat.add_comm]
def Tn{s n:Nat}{l:List ah}(h:l.all (aP n)=true):l.map (bP (gz (range' s n) base))=l.map (bP (· + s)):=by rw[all_eq_true]at h;exact map_congr_left λob V=>nv abv ob (h ob V)
def MK{s n:Nat}{pre post:List (Option ah)}(S:pre.length=s)(T:ai.length=n)(hid:ai.all (aP n)=true)(base:Nat):(range' s n).map (an (pre++(ai.map (bP (· + s))).map some++post))=ai.map (λob=>bK.live (bP (gz (range' s n) base) ob)):=by
 have e:=Tn (s:=s) (base:=base) hid;refine ext_getElem (by simp[T]) (λi H h2=>?_);simp only[length_map,length_range']at H;simp only[getElem_map,getElem_range',Nat.one_mul];have K:(ai.map (bP (· + s)))[i]'(by simp;omega)=bP (gz (range' s n) base) (ai[i]'(by omega)):=by simp only[<- e,getElem_map]
 unfold an;rw[append_assoc,getElem?_append_right (by omega),getElem?_append_left (by simp;omega),show s+i-pre.length=i by omega,getElem?_map,getElem?_eq_getElem (by simp;omega),K];rfl
def JG(s n:Nat){d:Option Nat}{f:bF}(q:LV)(o m:List ah)(pre post:List (Option ah))(c:gd P G k aK ai r (A++B))(U:callee (f.ev G (aN env))=some (k,fs,cs))
  (a:af=pre++(ai.map (bP (· + s))).map some++post) (S:pre.length=s) (T:ai.length=n) (j:ay (an af) (range' s n) [] (fs++ac.map (·.ev G (aN env))++cs) aK) (hid:ai.all (aP n)=true) (y:A.length=n)
  (hr:rn (gz (range' s n) af.length) r=q) (u:A.map (bP (gz (range' s n) af.length))=o) (Z:B.map (bP (gz (range' s n) af.length))=m)
  (hk:W P G fin (.ops os::t) ⟨di d q env,pre++o.map some++post++m.map some⟩):W P G fin (.ops (⟨d,.call f ac,none,b⟩::os)::t) ⟨env,af⟩:=by
 refine lq _ U (bZ.hand (range' s n) c j nodup_range' (by rw[a];exact MK S T hid _) (by simpa using hid) (by simp;omega)) ?_;have V:o.length=n:=by rw[<- u,length_map,y]
 have e:=pI o af s (by rw[a];simp;omega);rw[V]at e;have h:(range' s n).zip ((A++B).map (bP (gz (range' s n) af.length)))=(range' s n).zip o:=by rw[map_append,u];have:=zip_append (l₁:=range' s n) (r₁:=[]) (l₂:=o) (r₂:=B.map (bP (gz (range' s n) af.length))) (by simp[V]);simpa using this
 have x:(A++B).drop (range' s n).length=B:=drop_left' (by simp[y]);have E:af.take s=pre:=by rw[a,append_assoc];exact take_left' S
 have H:af.drop (s+n)=post:=by rw[a];exact drop_left' (by simp;omega)
 rw[E,H]at e;simp only[h,x,e,hr,Z];exact hk
def bZ.Yt{args:List LV}{obj:Nat->bK}(c:gd P G k aK ai r (ai++B))(j:ay obj ρ [] args aK)(n:ρ.Nodup)(O:ρ.map obj=ai.map (λob=>bK.live (bP (gz ρ base) ob)))(hid:ai.all (aP ρ.length)=true) :
  bZ P G k args obj base { r:=rn (gz ρ base) r,rd:=ρ,wr:=[],nw:=B.map (bP (gz ρ base)) }:=by
 have y:ai.length=ρ.length:=by have:=congrArg length O;simpa using this.symm
 refine⟨ρ,[],false,aK,ai,r,ai++B,λ_=>false,λi o hi _=>?_,n,(λ_ h=>by cases h),(λ_ h=>by cases h),y,λi o h=>?_,hid,j,(λh=>by cases h),by simp,c,?_⟩
 .rw [getElem?_append_left (by rw[y];exact(List.getElem?_eq_some_iff.1 hi).1)]
 .have H:(ρ.map obj)[i]? = some (obj o):=by simp[h]
  rw[O,getElem?_map]at H;cases V:ai[i]? with
  |none=>rw[V]at H;cases H
  |some ob=>rw[V]at H;simp only[Option.map_some,Option.some.injEq]at H;exact⟨ob,rfl,H.symm⟩
 .have x:(ai++B).drop ρ.length=B:=drop_left' y;have E:∀l:List (Nat×ah),l.filter (λ_=>false)=[]:=λl=>by simp
  simp[x,fA]
def NS{d:Option Nat}{f:bF}(q:LV)(m:List ah)(c:gd P G k aK ai r (ai++B))(U:callee (f.ev G (aN env))=some (k,fs,cs))
  (j:ay (an af) ρ [] (fs++ac.map (·.ev G (aN env))++cs) aK) (n:ρ.Nodup) (O:ρ.map (an af)=ai.map (λob=>bK.live (bP (gz ρ af.length) ob))) (hid:ai.all (aP ρ.length)=true)
  (hr:rn (gz ρ af.length) r=q) (Z:B.map (bP (gz ρ af.length))=m)
  (hk:W P G fin (.en os (log++[⟨b,ρ,range' af.length m.length⟩])::t) ⟨di d q env,af++m.map some⟩):W P G fin (.en (⟨d,.call f ac,none,b⟩::os) log::t) ⟨env,af⟩:=by
 refine mR _ U (bZ.Yt ρ c j n O hid) ?_;have a:map (λx:Nat×ah=>x.1) (CW af.length m++[])=range' af.length m.length:=by rw[append_nil];exact M4 _ _
 simp only[hr,Z,fN.owned,a,CY];exact hk
def JE{d:Option Nat}{f:bF}(q:LV)(m:List ah)(c:gd P G k aK ai r (ai++B))(U:callee (f.ev G (aN env))=some (k,fs,cs))
  (j:ay (an af) ρ [] (fs++ac.map (·.ev G (aN env))++cs) aK) (n:ρ.Nodup) (O:ρ.map (an af)=ai.map (λob=>bK.live (bP (gz ρ af.length) ob))) (hid:ai.all (aP ρ.length)=true)
  (hr:rn (gz ρ af.length) r=q) (Z:B.map (bP (gz ρ af.length))=m)
  (hk:W P G fin (.ops os::t) ⟨di d q env,af++m.map some⟩):W P G fin (.ops (⟨d,.call f ac,none,b⟩::os)::t) ⟨env,af⟩:=by
 refine lq _ U (bZ.Yt ρ c j n O hid) ?_;simp only[hr,Z,CY];exact hk
end
end
section
variable{A B ai:List ah}{ac:List bF}{b:List Nat}{k:Nat}{fs cs aK:List LV}{r:LV}(ρ:List Nat)
section
variable {P:Program} {G:tY}
section
variable {D:Dk} {N:Nat} {aX:Nat->bK} {J0:Nat->Prop} {bR:fe} {w0:World} {R Wv:St->Prop} {B:Nat}
end
def MB{obj:Nat->bK} : ∀(ρ:List Nat) (L:List ah) (o:Nat),o∉ρ->cG (ρ.zip L) obj o=obj o
 |[],L,o,h=>by simp[cG]
 |a::ρ,[],o,h=>by simp[cG]
 |a::ρ,x::L,o,h=>by simp only[mem_cons,not_or]at h;simp only[zip_cons_cons,cG];rw[if_neg h.1];exact MB ρ L o h.2
def MC{obj:Nat->bK} : ∀(ρ:List Nat) (L:List ah) (i o:Nat) (x:ah),ρ.Nodup->ρ[i]? = some o->L[i]? = some x->cG (ρ.zip L) obj o=.live x
 |[],L,i,o,x,_,h,_=>by simp at h
 |a::ρ,[],i,o,x,_,_,h=>by simp at h
 |a::ρ,y::L,0,o,x,T,h,h2=>by simp at h h2;subst h;subst h2;simp[cG]
 |a::ρ,y::L,i+1,o,x,T,h,h2=>by simp only[getElem?_cons_succ]at h h2;obtain⟨K,u⟩:=nodup_cons.1 T;have O:o∈ρ:=mem_of_getElem? h;simp only[zip_cons_cons,cG];rw[if_neg (show¬o=a fromλe=>K (by rw[<- e];exact O))];exact MC ρ L i o x u h h2
def AM{obj:Nat->bK} : ∀(xs ys:List (Nat×ah)),cG (xs++ys) obj=cG xs (cG ys obj)
 |[],ys=>rfl
 |(k,ob)::xs,ys=>by funext o;simp only[cons_append,cG,AM xs ys]
def lZ{obj:Nat->bK} : ∀(Z:List Nat),∀p∈fA obj Z,p.1∈Z/\∃ob,obj p.1=.live ob
 |[],p,h=>by cases h
 |z::Z,p,h=>by
  rw[fA]at h;split at h
  .rename_i A;rcases mem_cons.1 h with rfl|h
   .exact ⟨mem_cons_self ..,_,A⟩
   .exact ⟨mem_cons_of_mem _ (lZ Z p h).1,(lZ Z p h).2⟩
  .rename_i A;rcases mem_cons.1 h with rfl|h
   .exact ⟨mem_cons_self ..,_,A⟩
   .exact ⟨mem_cons_of_mem _ (lZ Z p h).1,(lZ Z p h).2⟩
  .exact ⟨mem_cons_of_mem _ (lZ Z p h).1,(lZ Z p h).2⟩
def DI{obj:Nat->bK} : ∀(xs:List (Nat×ah)) (o:Nat),(∀p∈xs,p.1≠o)->cG xs obj o=obj o
 |[],_,_=>rfl
 |(k,ob)::xs,o,h=>by simp only[cG];rw[if_neg (show¬o=k fromλe=>h (k,ob) (mem_cons_self ..) e.symm)];exact DI xs o λp S=>h p (mem_cons_of_mem _ S)
structure pG(ρ Z:List Nat)(af aC:List (Option ah))(A B:List ah):Prop where
 len:aC.length=af.length+B.length
 at_:∀(i o:Nat) (x:ah),ρ[i]? = some o->A[i]? = some x->an aC o=.live (bP (gz ρ af.length) x)
 same:∀o:Nat,o<af.length->o∉ρ->o∉Z->an aC o=an af o
 new:∀(j:Nat) (x:ah),B[j]? = some x->an aC (af.length+j)=.live (bP (gz ρ af.length) x)
section
variable {fin:St->Prop} {t:List It} {os:List er} {env:List (Nat×LV)} {af:List (Option ah)} {log:List iI}
def behind{ρ Z:List Nat}(n:ρ.Nodup)(m:∀o∈ρ,o<af.length)(u:A.length=ρ.length) :
  pG ρ Z af (CY (ρ.zip ((A++B).map (bP (gz ρ af.length)))++fA (an af) Z) af++(((A++B).drop ρ.length).map (bP (gz ρ af.length))).map some) A B:=by
 have hd:(A++B).drop ρ.length=B:=drop_left' u;have y:∀p∈ρ.zip ((A++B).map (bP (gz ρ af.length)))++fA (an af) Z,p.1<af.length:=λp S=>by
  rcases mem_append.1 S with S|S
  .exact m _ (of_mem_zip S).1
  .obtain ⟨_,ob,h⟩:=lZ Z p S;exact JO h
 have H:=Ay af { r:=.top,rd:=[],wr:=ρ.zip ((A++B).map (bP (gz ρ af.length)))++fA (an af) Z,nw:=B.map (bP (gz ρ af.length)) } y;rw[hd];refine⟨by simp[oq],λi o x h2 K=>?_,λo O T c=>?_,λj x q=>?_⟩
 .have O:=m o (mem_of_getElem? h2);rw[H];simp only[bB,nK];rw[if_neg (by omega),AM];refine MC ρ _ i o _ n h2 ?_;rw[getElem?_map,getElem?_append_left (by rw[u];exact(List.getElem?_eq_some_iff.1 h2).1),K];rfl
 .rw [H];simp only[bB,nK];rw[if_neg (by omega),AM,MB ρ _ o T];exact DI _ o λp S e=>c (by rw[<- e];exact(lZ Z p S).1)
 .rw [H];simp only[bB,nK];rw[if_pos (by omega)];simp[q]
def acG{d:Option Nat}{f:bF}(Z:List Nat)(q:LV)(a:gd P G k aK ai r (A++B))(U:callee (f.ev G (aN env))=some (k,fs,cs))
  (j:ay (an af) ρ Z (fs++ac.map (·.ev G (aN env))++cs) aK) (n:ρ.Nodup) (c:∀z∈Z,z∉ρ) (S:∀z∈Z,∃et e rows,an af z=.live (.dat et e rows)\/an af z=.live (.k9 et e rows)) (O:ρ.map (an af)=ai.map (λob=>bK.live (bP (gz ρ af.length) ob))) (hid:ai.all (aP ρ.length)=true) (u:A.length=ρ.length)
  (hr:rn (gz ρ af.length) r=q) (hk:∀aC,pG ρ Z af aC A B->W P G fin (.ops os::t) ⟨di d q env,aC⟩):W P G fin (.ops (⟨d,.call f ac,none,b⟩::os)::t) ⟨env,af⟩:=by
 have y:ai.length=ρ.length:=by have:=congrArg length O;simpa using this.symm
 refine X8 ρ Z a U j n c S O hid (by rw[y,length_append];omega) ?_;rw[hr];refine hk _ (behind n (λo h=>?_) u);have H:an af o∈ρ.map (an af):=mem_map_of_mem h;rw[O]at H;obtain⟨ob,_,K⟩:=mem_map.1 H;exact JO K.symm
def aa0{d:Option Nat}{f:bF}(q:LV)(c:gd P G k aK ai r (A++B))(U:callee (f.ev G (aN env))=some (k,fs,cs))
  (j:ay (an af) ρ [] (fs++ac.map (·.ev G (aN env))++cs) aK) (n:ρ.Nodup) (O:ρ.map (an af)=ai.map (λob=>bK.live (bP (gz ρ af.length) ob))) (hid:ai.all (aP ρ.length)=true) (u:A.length=ρ.length)
  (hr:rn (gz ρ af.length) r=q) (hk:∀aC,pG ρ [] af aC A B->W P G fin (.ops os::t) ⟨di d q env,aC⟩):W P G fin (.ops (⟨d,.call f ac,none,b⟩::os)::t) ⟨env,af⟩:=
 acG ρ [] q c U j n (λ_ h=>by cases h) (λ_ h=>by cases h) O hid u hr hk
def aft{d:Option Nat}{f:bF}(q:LV)(c:gd P G k aK ai r (A++B))(U:callee (f.ev G (aN env))=some (k,fs,cs))
  (j:ay (an af) ρ [] (fs++ac.map (·.ev G (aN env))++cs) aK) (n:ρ.Nodup) (O:ρ.map (an af)=ai.map (λob=>bK.live (bP (gz ρ af.length) ob))) (hid:ai.all (aP ρ.length)=true) (u:A.length=ρ.length)
  (hr:rn (gz ρ af.length) r=q) (hk:∀aC,pG ρ [] af aC A B->W P G fin (.en os (log++[⟨b,ρ,range' af.length B.length++ρ⟩])::t) ⟨di d q env,aC⟩):W P G fin (.en (⟨d,.call f ac,none,b⟩::os) log::t) ⟨env,af⟩:=by
 have y:ai.length=ρ.length:=by have:=congrArg length O;simpa using this.symm
 refine U3 ρ c U j n O hid (by rw[y,length_append];omega) ?_;have x:(A++B).drop ρ.length=B:=drop_left' u;have e:(CW af.length (((A++B).drop ρ.length).map (bP (gz ρ af.length)))++ρ.zip ((A++B).map (bP (gz ρ af.length)))).map (·.1)=range' af.length B.length++ρ:=by rw[x,map_append,M4,length_map,map_fst_zip (by simp[u])]
 rw[hr,e];have V:=behind (Z:=[]) (af:=af) (A:=A) (B:=B) n (λo h=>by have H:an af o∈ρ.map (an af):=mem_map_of_mem h;rw[O]at H;obtain⟨ob,_,K⟩:=mem_map.1 H;exact JO K.symm) u;rw[show fA (an af) []=[]from rfl,append_nil]at V;exact hk _ V
end
end
end
section
variable(ρ:List Nat)
def nx{A B:Prop}(h:B)(e:A=B:=by conv=>lhs;simp only[go_sem]):A:=e▸h
section
variable {P:Program} {G:tY} {fin:St->Prop} {os:List er} {t:List It} {env:List (Nat×LV)} {s:St} {af:List (Option ah)} {log:List iI} {d:Option Nat} {f:bF} {ac:List bF} {pre:List Nat} {k:Nat} {fs cs aK:List LV} {r:LV} {v:Value} {ai aj:List ah} {X:Prop}
def dQ(hk:X)(h:indep log=true:=by rfl)(e:W P G fin t s=X:=by conv=>lhs;simp only[go_sem]):W P G fin (.en [] log::t) s:=aD h (e▸hk)
def a_(c:gd P G k aK [] r [])(hk:X)(U:callee (f.ev G (aN env))=some (k,fs,cs):=by rfl)(j:fs++ac.map (·.ev G (aN env))++cs=aK:=by rfl)(hid:bn 0 aK=true:=by rfl)(hr:bV 0 r=true:=by rfl)(e:W P G fin (.ops os::t) ⟨di d r env,af⟩=X:=by conv=>lhs;simp only[go_sem]):W P G fin (.ops (⟨d,.call f ac,none,pre⟩::os)::t) ⟨env,af⟩:=jB c U j hid hr (e▸hk)
def cc(c:gd P G k aK [] r [])(hk:X)(U:callee (f.ev G (aN env))=some (k,fs,cs):=by rfl)(j:fs++ac.map (·.ev G (aN env))++cs=aK:=by rfl)(hid:bn 0 aK=true:=by rfl)(hr:bV 0 r=true:=by rfl)(e:W P G fin (.en os (log++[⟨pre,[],[]⟩])::t) ⟨di d r env,af⟩=X:=by conv=>lhs;simp only[go_sem]):W P G fin (.en (⟨d,.call f ac,none,pre⟩::os) log::t) ⟨env,af⟩:=JJ c U j hid hr (e▸hk)
def acj(c:gd P G k aK [] r aj)(hk:X)(U:callee (f.ev G (aN env))=some (k,fs,cs):=by rfl)(j:fs++ac.map (·.ev G (aN env))++cs=aK:=by rfl)(hid:bn 0 aK=true:=by rfl)(e:W P G fin (.ops os::t) ⟨di d (rn (gz [] af.length) r) env,af++(aj.map (bP (gz [] af.length))).map some⟩=X:=by conv=>lhs;simp only[go_sem]):W P G fin (.ops (⟨d,.call f ac,none,pre⟩::os)::t) ⟨env,af⟩:=tG c U j hid (e▸hk)
def CP(c:gd P G k aK [] r aj)(hk:X)(U:callee (f.ev G (aN env))=some (k,fs,cs):=by rfl)(j:fs++ac.map (·.ev G (aN env))++cs=aK:=by rfl)(hid:bn 0 aK=true:=by rfl)(e:W P G fin (.en os (log++[⟨pre,[],(CW af.length (aj.map (bP (gz [] af.length)))).map (·.1)⟩])::t) ⟨di d (rn (gz [] af.length) r) env,af++(aj.map (bP (gz [] af.length))).map some⟩=X:=by conv=>lhs;simp only[go_sem]):W P G fin (.en (⟨d,.call f ac,none,pre⟩::os) log::t) ⟨env,af⟩:=s_ c U j hid (e▸hk)
def bJ(c:gd P G k aK ai r aj)(hk:X)(U:callee (f.ev G (aN env))=some (k,fs,cs):=by rfl)(j:ay (an af) ρ [] (fs++ac.map (·.ev G (aN env))++cs) aK:=by simp only[ay,aB,go_sem])(n:ρ.Nodup:=by decide)(O:ρ.map (an af)=ai.map (λob=>bK.live (bP (gz ρ af.length) ob)):=by simp only[ay,aB,go_sem])(hid:ai.all (aP ρ.length)=true:=by simp only[ay,aB,go_sem])(q:ai.length<=aj.length:=by simp)
  (e:W P G fin (.ops os::t) ⟨di d (rn (gz ρ af.length) r) env,CY (ρ.zip (aj.map (bP (gz ρ af.length)))) af++((aj.drop ρ.length).map (bP (gz ρ af.length))).map some⟩=X:=by conv=>lhs;simp only[ay,aB,go_sem]):W P G fin (.ops (⟨d,.call f ac,none,pre⟩::os)::t) ⟨env,af⟩:=dz ρ c U j n O hid q (e▸hk)
def fV(c:gd P G k aK ai r aj)(hk:X)(U:callee (f.ev G (aN env))=some (k,fs,cs):=by rfl)(j:ay (an af) ρ [] (fs++ac.map (·.ev G (aN env))++cs) aK:=by simp only[ay,aB,go_sem])(n:ρ.Nodup:=by decide)(O:ρ.map (an af)=ai.map (λob=>bK.live (bP (gz ρ af.length) ob)):=by simp only[ay,aB,go_sem])(hid:ai.all (aP ρ.length)=true:=by simp only[ay,aB,go_sem])(q:ai.length<=aj.length:=by simp)
  (e:W P G fin (.en os (log++[⟨pre,ρ,(CW af.length ((aj.drop ρ.length).map (bP (gz ρ af.length)))++ρ.zip (aj.map (bP (gz ρ af.length)))).map (·.1)⟩])::t) ⟨di d (rn (gz ρ af.length) r) env,CY (ρ.zip (aj.map (bP (gz ρ af.length)))) af++((aj.drop ρ.length).map (bP (gz ρ af.length))).map some⟩=X:=by conv=>lhs;simp only[ay,aB,go_sem]):W P G fin (.en (⟨d,.call f ac,none,pre⟩::os) log::t) ⟨env,af⟩:=U3 ρ c U j n O hid q (e▸hk)
def kG(c:gd P G k aK ai r ai)(hk:X)(U:callee (f.ev G (aN env))=some (k,fs,cs):=by rfl)(j:ay (an af) ρ [] (fs++ac.map (·.ev G (aN env))++cs) aK:=by simp only[ay,aB,go_sem])(n:ρ.Nodup:=by decide)(O:ρ.map (an af)=ai.map (λob=>bK.live (bP (gz ρ af.length) ob)):=by simp only[ay,aB,go_sem])(hid:ai.all (aP ρ.length)=true:=by simp only[ay,aB,go_sem])
  (e:W P G fin (.ops os::t) ⟨di d (rn (gz ρ af.length) r) env,af⟩=X:=by conv=>lhs;simp only[ay,aB,go_sem]):W P G fin (.ops (⟨d,.call f ac,none,pre⟩::os)::t) ⟨env,af⟩:=NP ρ c U j n O hid (e▸hk)
def oL(c:gd P G k aK ai r ai)(hk:X)(U:callee (f.ev G (aN env))=some (k,fs,cs):=by rfl)(j:ay (an af) ρ [] (fs++ac.map (·.ev G (aN env))++cs) aK:=by simp only[ay,aB,go_sem])(n:ρ.Nodup:=by decide)(O:ρ.map (an af)=ai.map (λob=>bK.live (bP (gz ρ af.length) ob)):=by simp only[ay,aB,go_sem])(hid:ai.all (aP ρ.length)=true:=by simp only[ay,aB,go_sem])
  (e:W P G fin (.en os (log++[⟨pre,ρ,[]⟩])::t) ⟨di d (rn (gz ρ af.length) r) env,af⟩=X:=by conv=>lhs;simp only[ay,aB,go_sem]):W P G fin (.en (⟨d,.call f ac,none,pre⟩::os) log::t) ⟨env,af⟩:=JI ρ c U j n O hid (e▸hk)
def iG(c:xF P G k aK ai v aj)(hk:X)(U:callee (f.ev G (aN env))=some (k,fs,cs):=by rfl)(j:ay (an af) ρ [] (fs++ac.map (·.ev G (aN env))++cs) aK:=by simp only[ay,aB,go_sem])(n:ρ.Nodup:=by decide)(O:ρ.map (an af)=ai.map (λob=>bK.live (bP (gz ρ af.length) ob)):=by simp only[ay,aB,go_sem])(hid:ai.all (aP ρ.length)=true:=by simp only[ay,aB,go_sem])(q:ai.length<=aj.length:=by simp)
  (e:Wx P G fin TE t ⟨(TE,.d (.val v))::env,CY (ρ.zip (aj.map (bP (gz ρ af.length)))) af++((aj.drop ρ.length).map (bP (gz ρ af.length))).map some⟩=X:=by conv=>lhs;simp only[ur,TE,DB,go_sem]):W P G fin (.ops (⟨d,.call f ac,none,pre⟩::os)::t) ⟨env,af⟩:=JF ρ c U j n O hid q (e▸hk)
end
def sA:=And.intro @List.cons_append.{0} @List.nil_append.{0}
def sN:=And.intro @Option.getD_none.{0} @Option.isSome_none.{0}
def sS:=And.intro @Option.getD_some.{0} @Option.isSome_some.{0}
def sD:=And.intro @List.map_set.{0,0} <| And.intro @List.length_set.{0} <| And.intro @List.set_set.{0} <| And.intro @Bool.true_eq_false <| And.intro @Bool.false_eq_true <| And.intro @ne_eq.{1} <| And.intro @not_true <| And.intro @not_false_eq_true @or_self
def sT:=And.intro @List.getElem_toArray.{0} <| And.intro @List.getElem_cons_zero.{0} <| And.intro @List.getElem_cons_succ.{0} <| And.intro @List.setIfInBounds_toArray.{0} <| And.intro @List.set_cons_zero.{0} @List.set_cons_succ.{0}
def sG:=And.intro @List.size_toArray.{0} <| And.intro @List.length_cons.{0} <| And.intro @List.length_nil.{0} <| And.intro @_root_.Array.replicate_succ.{0} <| And.intro @_root_.Array.replicate_zero.{0} <| And.intro @List.push_toArray.{0} @List.append_toArray.{0}
def dT(p:Prop)[Decidable p](h:p:=by omega):decide p=true:=decide_eq_true h
def dF(p:Prop)[Decidable p](h:¬p:=by omega):decide p=false:=decide_eq_false h
def wS(k:Nat)(h:k<9223372036854775807:=by omega):IntKind.i64.wrap ((k:Int)+1)=((k+1:Nat):Int):=Oa h
end
section
def cv(n:bh):List DV:=[bl n.up,bl n.cU,bl n.bw,i64 n.version,i64 n.aM]
def dH(j:bT):List DV:=[i64 j.queue,i64 j.prio,i64 j.min,i64 j.max,i64 j.work,i64 j.pin,i64 j.phase,i64 j.inc,i64 j.nodes,i64 j.since,i64 j.til,i64 j.epoch]
def opR(o:cr):List DV:=[i64 o.kind,i64 o.a,i64 o.b,i64 o.c,i64 o.d,i64 o.e,i64 o.f]
def jQ(m:bE):List DV:=[i64 m.node,i64 m.kind,i64 m.term,i64 m.gen,i64 m.aM,i64 m.inc,i64 m.version,i64 m.epoch,i64 m.til,i64 m.mode,i64 m.work]
def bH(l:List bh):LV:=.d (.cM 5 (l.map cv))
def qM(l:List bT):LV:=.d (.cM 12 (l.map dH))
def Nh(l:List bE):LV:=.d (.cM 11 (l.map jQ))
def aU(s:aa):LV:=.agg [bH s.nodes,qM s.jobs,.int s.goal,.int s.prior,.int s.mode,.int s.term]
def BB(n:bh):LV:=.agg [.bool n.up,.bool n.cU,.bool n.bw,.int n.version,.int n.aM]
def Gf(j:bT):LV:=.agg [.int j.queue,.int j.prio,.int j.min,.int j.max,.int j.work,.int j.pin,.int j.phase,.int j.inc,.int j.nodes,.int j.since,.int j.til,.int j.epoch]
def qD(o:cr):LV:=.agg [.int o.kind,.int o.a,.int o.b,.int o.c,.int o.d,.int o.e,.int o.f]
def fG(m:bE):LV:=.agg [.int m.node,.int m.kind,.int m.term,.int m.gen,.int m.aM,.int m.inc,.int m.version,.int m.epoch,.int m.til,.int m.mode,.int m.work]
def eD(c:av):LV:=.agg [.int c.nodes,.int c.bA,.int c.cF,.int c.gQ,.int c.bD,.int c.ej,.int c.deadline,.int c.room,.int c.fT]
def vD(n:Nat)(h:n<9223372036854775808):IntKind.i64.wrap (n:Int)=n:=aH (by omega) (by omega)
def Jy(x:Int)(j:Nat)(hj:j<63):rF .i64 x ((2 ^ j-1:Nat):Int)=x % (2 ^ j:Nat):=by
 have O:2 ^ j<2 ^ 63:=Nat.pow_lt_pow_right (by omega) hj;have h0:0<2 ^ j:=Nat.two_pow_pos j;have e:rF .i64 x ((2 ^ j-1:Nat):Int)=IntKind.i64.wrap ((BitVec.ofInt 64 x&&& BitVec.ofInt 64 ((2 ^ j-1:Nat):Int)).toNat:Int):=rfl;rw[e,BitVec.toNat_and];have V:(BitVec.ofInt 64 ((2 ^ j-1:Nat):Int)).toNat=2 ^ j-1:=by rw[BitVec.ofInt_natCast,BitVec.toNat_ofNat];apply Nat.mod_eq_of_lt;omega
 rw[V,Nat.and_two_pow_sub_one_eq_mod];have X:(BitVec.ofInt 64 x).toNat % 2 ^ j<2 ^ j:=Nat.mod_lt _ h0;rw[vD _ (by omega)];rw[BitVec.toNat_ofInt];have n:((x % (2 ^ 64:Nat)).toNat:Int)=x % (2 ^ 64:Nat):=toNat_of_nonneg (emod_nonneg _ (by decide));have S:(((x % (2 ^ 64:Nat)).toNat % 2 ^ j:Nat):Int)=x % (2 ^ 64:Nat) % (2 ^ j:Nat):=by rw[natCast_emod,n]
 rw[S];apply emod_emod_of_dvd;exact natCast_dvd_natCast.2 (Nat.pow_dvd_pow 2 (by omega))
def GH(x:Int):rF .i64 x 1=x % 2:=Jy x 1 (by omega)
def aaK(x:Int):rF .i64 x 63=x % 64:=Jy x 6 (by omega)
def fdiv_pow(n:Int)(k:Nat):n.fdiv (2 ^ k)=n / 2 ^ k:=fdiv_eq_ediv_of_nonneg _ (Int.le_of_lt (by exact Int.pow_pos (by decide)))
def FI(n:Int)(i:Nat)(hi:i<64):vM .i64 n i=n / 2 ^ i:=by unfold vM;rw[toNat_natCast,show Nat.min i IntKind.i64.bits=i from Nat.min_eq_left (by show i<=64;omega),fdiv_pow]
def vN(k:Nat)(hk:k<=6):Df .i64 1 k=2 ^ k:=by
 have O:(2:Int) ^ k<=64/\1<=(2:Int) ^ k:=by
  have:k=0\/k=1\/k=2\/k=3\/k=4\/k=5\/k=6:=by omega
  rcases this with h|h|h|h|h|h|h<;>rw[h]<;>decide
 unfold Df;rw[toNat_natCast,show Nat.min k IntKind.i64.bits=k from Nat.min_eq_left (by show k<=64;omega),Int.one_mul,aH (by omega) (by omega)]
def Mj(n:Int)(i:Nat)(hi:i<64):(rF .i64 (vM .i64 n i) 1==1)=hasB n i:=by rw[GH,FI n i hi];unfold hasB;rw[Bool.eq_iff_iff];simp
def NH(n:Int)(i:Nat)(hi:i<64):(rF .i64 (vM .i64 n i) 1==0) = !hasB n i:=by rw[GH,FI n i hi];unfold hasB;rw[Bool.eq_iff_iff];simp;omega
attribute [go_sem] dU acC acz aaU acA aaX X6 X_ acH adI acy acB aaV aa1 acJ acK aa2 adF aaR acw aaS Rc US X7 UT Zb Ze Zc Zd adJ UX U0 UY UZ acI Ya U1 adH acv adG acu Wy YS zL aaY Yb de fS getM Dh bytesOf bF.ev aN di X0 LV.int LV.bool Zo LV.cells LV.VC LV.rz splice uk rowsOf xy Bw sO bg CY an fN.owned CW St.get St.obj St.put Value.oneCell' Ends bQ Ad.ap isNil St.keep St.FX SU bV bn aP gi.of RV.of aR zQ Re fA rn kC bP gz ew JS iF Option.map_some Option.map_none append_nil nil_append cons_append map_nil map_cons length_nil length_cons set_cons_zero set_cons_succ take_succ_cons List.take_zero take_nil drop_succ_cons drop_zero List.drop_nil getElem?_cons_zero getElem?_cons_succ getElem?_nil isEmpty_nil isEmpty_cons all_cons all_nil isEmpty_nil cond_true cond_false Bool.true_and Bool.false_and Bool.and_true Bool.and_false Bool.not_true Bool.not_false Bool.or_true Bool.true_or Bool.or_false Bool.false_or true_and and_true true_or or_true Option.some.injEq LV.d.injEq DV.val.injEq Value.bool.injEq Value.int.injEq decide_true decide_false and_self Nat.zero_add Nat.add_zero if_true if_false toNat_zero beq_self_eq_true Nat.zero_lt_succ toNat_natCast natCast_nonneg length_map i64 bl zip_cons_cons zip_nil_left zip_nil_right CW eD aU BB Gf bH qM qD fG cv dH opR jQ fW lz Nh qo qm qg qd qe qn ql qf qt qk q0
namespace Qq
def d :TypeInfo:=default
def i(d:TypeDesc)(s b:Nat)(z:Value):TypeInfo:={(default:TypeInfo)with desc:=d,size:=s,bytes:=b,zero:=some z}
def g(t o:Nat):Field:=.mk "" t o false "" "" 0
def z :Value:=.int .i64 0
def f :Value:=.bool false
def s :Value:=.string ⟨#[]⟩
def p :Value:=.pointer none
def l :Value:=.slice none 0 0
def P:=i (.pointer 0) 1 8 p
def L(e:Nat):=i (.slice e) 1 24 l
def N(k:IntKind)(b:Nat):=i (.int k) 1 b (.int k 0)
def F:=i (.func #[] #[] false) 1 8 .nilFunc
def R(a:Array Field)(b:Nat)(v:List Value):=i (.struct a) v.length b (.agg v.toArray)
def Y(n e b:Nat)(v:List Value):=i (.array n e) v.length b (.agg v.toArray)
def Q :Program:={(default:Program)with follow:=[.mixedOrders],types:=#[d,d,d,N .i64 8,i (.bool) 1 1 f,N .u8 1,d,d,d,i (.string) 1 16 s,d,d,d,d,d,d,d,d,d,d,d,d,d,R #[g 3 0,g 3 1,g 3 2,g 3 3,g 3 4,g 3 5,g 3 6,g 3 7,g 3 8] 72 [z,z,z,z,z,z,z,z,z],L 48,d,d,P,d,L 3,d,L 92,L 54,d,R #[g 31 0,g 32 1,g 3 2,g 3 3,g 3 4,g 3 5] 80 [l,l,z,z,z,z],d,d,d,d,d,L 94,d,d,d,d,d,R #[g 3 0,g 3 1,g 3 2,g 3 3,g 3 4,g 3 5,g 3 6] 56 [z,z,z,z,z,z,z],d,R #[g 3 0,g 3 1,g 3 2,g 46 3] 80 [z,z,z,z,z,z,z,z,z,z],d,L 56,d,d,d,R #[g 3 0,g 3 1,g 3 2,g 3 3,g 3 4,g 3 5,g 3 6,g 3 7,g 3 8,g 3 9,g 3 10,g 3 11] 96 [z,z,z,z,z,z,z,z,z,z,z,z],d,R #[g 4 0,g 3 1,g 3 2,g 3 3,g 3 4,g 3 5,g 3 6,g 3 7,g 3 8,g 3 9] 80 [f,z,z,z,z,z,z,z,z,z],P,d,d,d,P,d,L 137,d,d,d,d,R #[g 65 0,g 66 0,g 2 0] 8 [z],d,R #[g 63 0,g 68 1] 32 [l,z],P,d,N .u32 4,d,R #[g 65 0,g 73 0] 4 [.int .u32 0],d,d,d,R #[g 72 0,g 77 0] 8 [.int .i32 0,.int .u32 0],d,R #[g 72 0,g 75 0,g 79 1] 12 [.int .u32 0,.int .i32 0,.int .u32 0],F,Y 15 82 120 [.nilFunc,.nilFunc,.nilFunc,.nilFunc,.nilFunc,.nilFunc,.nilFunc,.nilFunc,.nilFunc,.nilFunc,.nilFunc,.nilFunc,.nilFunc,.nilFunc,.nilFunc],d,R #[g 23 0,g 3 9,g 50 10,g 70 11,g 57 13,g 61 14,g 71 15,g 68 16,g 81 17,g 83 20] 304 [z,z,z,z,z,z,z,z,z,z,l,l,z,p,p,p,z,.int .u32 0,.int .i32 0,.int .u32 0,.nilFunc,.nilFunc,.nilFunc,.nilFunc,.nilFunc,.nilFunc,.nilFunc,.nilFunc,.nilFunc,.nilFunc,.nilFunc,.nilFunc,.nilFunc,.nilFunc,.nilFunc],d,N .i64 8,d,d,d,d,R #[g 4 0,g 4 1,g 4 2,g 3 3,g 3 4] 24 [f,f,f,z,z],d,R #[g 3 0,g 3 1,g 3 2,g 3 3,g 3 4,g 3 5,g 3 6,g 3 7,g 3 8,g 3 9,g 3 10] 88 [z,z,z,z,z,z,z,z,z,z,z],d,d,d,d,d,L 5,d,P,L 100,d,d,d,d,d,d,d,d,d,d,R #[g 3 0,g 100 1] 32 [z,l],d,R #[g 114 0,g 114 2] 64 [z,l,z,l],Y 25 116 1600 [z,l,z,l,z,l,z,l,z,l,z,l,z,l,z,l,z,l,z,l,z,l,z,l,z,l,z,l,z,l,z,l,z,l,z,l,z,l,z,l,z,l,z,l,z,l,z,l,z,l,z,l,z,l,z,l,z,l,z,l,z,l,z,l,z,l,z,l,z,l,z,l,z,l,z,l,z,l,z,l,z,l,z,l,z,l,z,l,z,l,z,l,z,l,z,l,z,l,z,l],d,R #[g 3 0,g 3 1,g 117 2,g 68 102] 1624 [z,z,z,l,z,l,z,l,z,l,z,l,z,l,z,l,z,l,z,l,z,l,z,l,z,l,z,l,z,l,z,l,z,l,z,l,z,l,z,l,z,l,z,l,z,l,z,l,z,l,z,l,z,l,z,l,z,l,z,l,z,l,z,l,z,l,z,l,z,l,z,l,z,l,z,l,z,l,z,l,z,l,z,l,z,l,z,l,z,l,z,l,z,l,z,l,z,l,z,l,z,l,z],d,L 147,d,R #[g 100 0,g 121 1,g 68 2] 56 [l,l,z],d,d,L 130,d,R #[g 23 0,g 61 9,g 102 10,g 57 11,g 34 12,g 126 18,g 4 19,g 68 20] 216 [z,z,z,z,z,z,z,z,z,p,p,p,l,l,z,z,z,z,l,f,z],d,R #[g 3 0,g 4 1,g 94 2,g 3 13,g 3 14,g 94 15] 208 [z,f,z,z,z,z,z,z,z,z,z,z,z,z,z,z,z,z,z,z,z,z,z,z,z,z],d,d,d,d,P,d,R #[g 100 0,g 4 1] 32 [l,f],d,d,d,d,d,d,d,d,d,R #[g 3 0,g 100 1] 32 [z,l],P,d,d,P,d,d,d,R #[g 61 0,g 148 1,g 151 2,g 3 3,g 3 4] 40 [p,p,p,z,z],d,d,d,d,d,d,R #[] 0 [],d,d,d,d,d,d,R #[g 29 0] 24 [l],d,d,Y 22 3 176 [z,z,z,z,z,z,z,z,z,z,z,z,z,z,z,z,z,z,z,z,z,z],d,d,d,P,P,d,R #[g 23 0,g 34 9,g 46 15,g 176 22,g 177 23] 224 [z,z,z,z,z,z,z,z,z,l,l,z,z,z,z,z,z,z,z,z,z,z,p,p],F,d,R #[g 180 0,g 4 1,g 4 2] 16 [.nilFunc,f,f],Y 22 182 352 [.nilFunc,f,f,.nilFunc,f,f,.nilFunc,f,f,.nilFunc,f,f,.nilFunc,f,f,.nilFunc,f,f,.nilFunc,f,f,.nilFunc,f,f,.nilFunc,f,f,.nilFunc,f,f,.nilFunc,f,f,.nilFunc,f,f,.nilFunc,f,f,.nilFunc,f,f,.nilFunc,f,f,.nilFunc,f,f,.nilFunc,f,f,.nilFunc,f,f,.nilFunc,f,f,.nilFunc,f,f,.nilFunc,f,f,.nilFunc,f,f],d,d,d,d,F,d,i (.map 3 188) 1 8 (.map none),d,P,d,d,d,d,d,d,d,d,d,d,d,d,d,d,d,d,d,d,d,d,d,d,d,R #[g 61 0,g 3 1,g 3 2] 24 [p,z,z],d,R #[g 61 0,g 3 1,g 3 2,g 3 3] 32 [p,z,z,z],d,d,d,d,d,d,d,d,d,d,d,Y 22 9 352 [s,s,s,s,s,s,s,s,s,s,s,s,s,s,s,s,s,s,s,s,s,s],Y 6 3 48 [z,z,z,z,z,z],d,d,d,d,d,Y 11 3 88 [z,z,z,z,z,z,z,z,z,z,z],d,d,d,d,F,d,d,F,d,i (.map 3 245) 1 8 (.map none),d,P,d,R #[g 249 0,g 94 1,g 3 12,g 57 13] 112 [p,z,z,z,z,z,z,z,z,z,z,z,z,p],d,d,d,d,d,d,d,d,N .u64 8,d,d,d,d,d,d,d,d,d,d,d,d,d,L 4,d,d,F,d,d,d,d,d,d,d,N .u64 8,d,d,d,d,Y 2 4 2 [f,f],d,d,R #[g 277 0] 8 [.nilFunc],Y 3 293 24 [.nilFunc,.nilFunc,.nilFunc],d,d,d,d,d,d,d,F,d,d,d,R #[g 23 0,g 34 9,g 3 15] 160 [z,z,z,z,z,z,z,z,z,l,l,z,z,z,z,z],d,R #[g 242 0] 8 [.nilFunc],Y 3 308 24 [.nilFunc,.nilFunc,.nilFunc],d,d,d,d,d,d,d,d,d,d,d,d,d,d,Y 2 114 64 [z,l,z,l],d,d,d,d,d,d,Y 64 5 64 (replicate 64 (.int .u8 0))]}
end Qq
def qx(f:Func){r:Nat×C×List RV}(h:bM Qq.Q f=some r:=by conv=>lhs;cbv):Nat×C×List RV:=r
def qxE(f:Func){r:Nat×C×List RV}(h:bM Qq.Q f=some r):qx f h=r:=rfl
attribute [go_sem ↓] qxE
abbrev aS:=gd prog
section
variable {G:tY} {f:Nat} {fn:Func} {ir:Nat×C×List RV} {args:List LV} {af aC:List ah} {r:LV}
def MG(A:prog.funcs[f]? = some fn)(h:W prog G (Ends ir.2.2 r) [.c ir.2.1] ⟨dU 0 args,[]⟩)(q:bM Qq.Q fn=some ir:=by conv=>lhs;cbv)(b:bM prog fn=some ir:=by kernel_rfl)(D:(fn.name != "runtime.NumGoroutine")=true:=by decide)(Z:Nat.ble args.length ir.1=true:=by rfl)(hid:bV 0 r=true:=by rfl):gd prog G f args [] r []:=xS A D b Z hid h
def tW(A:prog.funcs[f]? = some fn)(h:W prog G (Rj ir.2.2 af.length r aC) [.c ir.2.1] ⟨dU 0 args,af.map some⟩)(q:bM Qq.Q fn=some ir:=by conv=>lhs;cbv)(b:bM prog fn=some ir:=by kernel_rfl)(D:(fn.name != "runtime.NumGoroutine")=true:=by decide)(Z:Nat.ble args.length ir.1=true:=by rfl):gd prog G f args af r aC:=G9 A D b Z h
def Lv(A:prog.funcs[f]? = some fn)(j:aC.all (aP aC.length)=true)(h:W prog G (mE ir.2.2 r aC) [.c ir.2.1] ⟨dU 0 args,af.map some⟩)(q:bM Qq.Q fn=some ir:=by conv=>lhs;cbv)(b:bM prog fn=some ir:=by kernel_rfl)(D:(fn.name != "runtime.NumGoroutine")=true:=by decide)(Z:Nat.ble args.length ir.1=true:=by rfl)(hid:bV aC.length r=true:=by rfl)(hlen:af.length=aC.length:=by rfl):gd prog G f args af r aC:=eY A D b Z hid j hlen h
def iL{X:Prop}(A:prog.funcs[f]? = some fn)(h:X)(q:bM Qq.Q fn=some ir:=by conv=>lhs;cbv)(b:bM prog fn=some ir:=by kernel_rfl)(D:(fn.name != "runtime.NumGoroutine")=true:=by decide)(Z:Nat.ble args.length ir.1=true:=by rfl)(hid:bV 0 r=true:=by rfl)(e:W prog G (Ends ir.2.2 r) [.c ir.2.1] ⟨dU 0 args,[]⟩=X:=by conv=>lhs;simp only[go_sem]):gd prog G f args [] r []:=xS A D b Z hid (e▸h)
def uW{X:Prop}(A:prog.funcs[f]? = some fn)(h:X)(q:bM Qq.Q fn=some ir:=by conv=>lhs;cbv)(b:bM prog fn=some ir:=by kernel_rfl)(D:(fn.name != "runtime.NumGoroutine")=true:=by decide)(Z:Nat.ble args.length ir.1=true:=by rfl)(e:W prog G (Rj ir.2.2 af.length r aC) [.c ir.2.1] ⟨dU 0 args,af.map some⟩=X:=by conv=>lhs;simp only[go_sem]):gd prog G f args af r aC:=G9 A D b Z (e▸h)
def oO{X:Prop}(A:prog.funcs[f]? = some fn)(j:aC.all (aP aC.length)=true)(h:X)(q:bM Qq.Q fn=some ir:=by conv=>lhs;cbv)(b:bM prog fn=some ir:=by kernel_rfl)(D:(fn.name != "runtime.NumGoroutine")=true:=by decide)(Z:Nat.ble args.length ir.1=true:=by rfl)(hid:bV aC.length r=true:=by rfl)(hlen:af.length=aC.length:=by rfl)(e:W prog G (mE ir.2.2 r aC) [.c ir.2.1] ⟨dU 0 args,af.map some⟩=X:=by conv=>lhs;simp only[go_sem]):gd prog G f args af r aC:=eY A D b Z hid j hlen (e▸h)
end
end
variable {G:tY}
open Go.Proofs
section
variable(c:av)(n:Int)
def aeS:=qx f185
def aeD:bM prog f185=some aeS:=by kernel_rfl
def fm(lo hi:Int):gd prog G 45 [.int n,.int lo,.int hi] [] (.bool (bN n lo hi)) []:=by
 refine iL func45 ?_;have e:bN n lo hi=(decide (n>=lo)&&decide (n<=hi)):=by unfold bN;rw[Bool.decide_and]
 rw[e]
 (first|with_reducible refine BZ (λh=>?_) (λh=>?_)|refine dK (λh=>?_) (λh=>?_))<;>simp only[h,go_sem]
def kY(s:aa):gd prog G 187 [aU s] [] (.int (gA s)) []:=by refine iL func187 ?_;unfold gA;refine bp (λh=>?_) (λh=>?_)<;>simp only[h,go_sem]<;>(try simp only[Gh]at h)<;>simp only[h,go_sem]
def wH:gd prog G 24 [eD c] [] (.bool (gq c)) []:=by
 refine iL func24 ?_;unfold gq;repeat' (first
  |(refine jB (fm _ _ _) rfl rfl rfl rfl ?_;simp only[go_sem])
  |((first|with_reducible refine BZ (λh=>?_) (λh=>?_)|refine dK (λh=>?_) (λh=>?_))<;>simp only[h,go_sem]))
def E_(j:bT)(h0:1<=c.bA/\c.bA<=1000):gd prog G 182 [eD c,Gf j] [] (.bool (nT c j)) []:=by
 refine iL func182 ?_;have S:IntKind.i64.wrap (c.bA-1)=c.bA-1:=aH (by omega) (by omega);simp only[S];unfold nT;repeat' (first
  |(refine jB (fm _ _ _) rfl rfl rfl rfl ?_;simp only[go_sem])
  |((first|with_reducible refine BZ (λh=>?_) (λh=>?_)|refine dK (λh=>?_) (λh=>?_))<;>simp only[h,go_sem]))
def KG(p:Int):gd prog G 183 [.int p] [] (.bool (eT p)) []:=by
 refine iL func183 ?_;have e:eT p=((p==1)||((p==2)||(p==3))):=by unfold eT;rw[Bool.eq_iff_iff];simp
 rw[e];repeat' ((first|with_reducible refine BZ (λh=>?_) (λh=>?_)|refine dK (λh=>?_) (λh=>?_))<;>simp only[h,go_sem])
def Kr(n:bh)(m:Int):gd prog G 185 [BB n,.ptr 0 0] [.box 3 [.int m]] (.bool (mg m n)) [.box 3 [.int m]]:=by
 refine FB func185 (by decide) aeD rfl rfl rfl rfl ?_;simp only[aeS,go_sem];have e:mg m n=(n.up&&(!n.bw&&(n.aM==m))):=by unfold mg;rw[Bool.eq_iff_iff];simp[and_assoc]
 rw[e];repeat' ((first|with_reducible refine BZ (λh=>?_) (λh=>?_)|refine dK (λh=>?_) (λh=>?_))<;>simp only[h,go_sem])
def KS(n:Nat)(D:n<64):gd prog G 227 [.d (.val (.int .u64 n))] [] (.int (many n)) []:=by refine iL func227 ?_;revert n;decide +kernel
def wk(n:Nat)(D:n<64):gd prog G 191 [.d (.val (.int .u64 n))] [] (.int (many n)) []:=by refine iL func191 ?_;refine a_ (KS n D) trivial
def tE:gd prog G 268 [.int n] [] (.int (many (n % 64))) []:=by
 refine iL func268 ?_;obtain⟨m,H⟩:=eq_ofNat_of_zero_le (emod_nonneg n (show(64:Int)≠0 by decide));have Z:m<64:=by omega
 have S:u64.wrap (m:Int)=m:=by simp[wrap,IntKind.bits,signed];omega
 simp only[aaK,H,S];refine a_ (wk m Z) trivial
end
def aeu:=qx f184
def ad8:bM prog f184=some aeu:=by kernel_rfl
def tD(s:aa)(q:Int)(k:Nat):St:=⟨[(1,.int q),(5,.int (dg (s.jobs.take k) q)),(9,qM s.jobs),(10,.int s.jobs.length),(11,.int k)],[some (.box 34 [bH s.nodes,qM s.jobs,.int s.goal,.int s.prior,.int s.mode,.int s.term])]⟩
def vh(s:aa)(q:Int)(D:s.jobs.length<=9223372036854775806):aS G 135 [aU s,.int q] [] (.int (dg s.jobs q)) []:=by
 refine iL func135 ?_;refine aQ [1,5,9,10,11] [] (λk:Nat=>k<=s.jobs.length) (λk=>s.jobs.length-k) (tD s q) 0 ?_ (Nat.zero_le _) (λk hk=>?_)
 .simp only[tD,go_sem,dg,filter_nil,Int.natCast_zero]
 simp only[tD,go_sem];refine bp (λh=>?_) (λh=>?_)
 .have h:=eV h;have T:=LZ (s.jobs.take k) q;rw[length_take]at T;have hs:s.jobs.take (k+1)=s.jobs.take k++[s.jobs[k]]:=by rw[take_succ_eq_append_getElem h]
  have hd:=w_ (s.jobs.take k) s.jobs[k] q;simp only[get_map h,go_sem];refine dK (λU=>?_) (λU=>?_)<;>simp only[U,go_sem]<;>(try simp only[Gh]at U)
  .refine bp (λh2=>?_) (λh2=>?_)<;>simp only[h2,go_sem]<;>(try simp only[Gh]at h2)
   .refine aY (k+1) ?_ ?_ (by omega) (by omega)
    .simp only[go_sem]
    .simp only[tD,go_sem,wS k,hs,hd,U,h2,aH (show -9223372036854775808<=dg (s.jobs.take k) q+1 by omega) (by omega)]
   .refine aY (k+1) ?_ ?_ (by omega) (by omega)
    .simp only[go_sem]
    .simp only[tD,go_sem,wS k,hs,hd,U,h2,and_false,Int.add_zero]
  .refine aY (k+1) ?_ ?_ (by omega) (by omega)
   .simp only[go_sem]
   .simp only[tD,go_sem,wS k,hs,hd,U,false_and,Int.add_zero]
 .obtain rfl:=eW h hk;simp only[go_sem,take_length]
def EM(s:aa)(j:bT)(nodes:Int)(f et:Nat)(cells:List LV)(w:Nat×Int):St:=⟨[(2,.int nodes),(3,.fn (.func f) [] [.ptr 0 0]),(9,.int w.2),(36,bH s.nodes),(37,.int s.nodes.length),(38,.int w.1)],[some (.box et cells),some (.box 34 [bH s.nodes,qM s.jobs,.int s.goal,.int s.prior,.int s.mode,.int s.term]),some (.box 54 [.int j.queue,.int j.prio,.int j.min,.int j.max,.int j.work,.int j.pin,.int j.phase,.int j.inc,.int j.nodes,.int j.since,.int j.til,.int j.epoch])]⟩
def Qa(s:aa)(j:bT)(nodes:Int)(f et:Nat)(cells:List LV)(e:bh->Bool)(D:s.nodes.length<=6)(hd:bn 0 cells=true)(K:∀n,aS G f [BB n,.ptr 0 0] [.box et cells] (.bool (e n)) [.box et cells]) :
  aS G 184 [aU s,Gf j,.int nodes,.fn (.func f) [] [.ptr 0 0]] [.box et cells] (.bool (oE s.nodes j nodes e)) [.box et cells]:=by
 refine FB func184 (by decide) ad8 rfl rfl (by simp[aP,hd]) rfl ?_;have O:(2:Int) ^ s.nodes.length<=64/\1<=(2:Int) ^ s.nodes.length:=by
  have:s.nodes.length=0\/s.nodes.length=1\/s.nodes.length=2\/s.nodes.length=3\/s.nodes.length=4\/s.nodes.length=5\/s.nodes.length=6:=by omega
  rcases this with h|h|h|h|h|h|h<;>rw[h]<;>decide
 have S:=vN s.nodes.length D;have c:bn 3 cells=true:=B6.2 cells 3 hd;have o:∀π,kC π cells=cells:=λπ=>lR π cells hd
 simp only[aeu,go_sem,S];unfold oE;have none:∀{x y:Prop} [Decidable x] [Decidable y] {b:Bool},x\/y->(if x\/y then false else b)=false:=λh=>by rw[if_pos h]
 refine iV (λU=>?_) (λU=>?_)<;>simp only[U,go_sem]<;>(try simp only[Gh]at U)
 .simp only[S];refine iV (λh2=>?_) (λh2=>?_)<;>simp only[h2,go_sem]<;>(try simp only[Gh]at h2)
  .obtain ⟨m,rfl⟩:=eq_ofNat_of_zero_le (show 0<=nodes by omega);have H:m<64:=by omega
   have V:u64.wrap (m:Int)=m:=by simp[wrap,IntKind.bits,signed];omega
   rw[if_neg (by omega)];simp only[V];refine cc (wk m H) ?_;refine cc (fm _ _ _) ?_;cases T:bN (many m) j.min j.max with
   |false=>simp only[go_sem]
   |true=>
    simp only[go_sem];generalize J:eC m e s.nodes 0 j.pin=r;refine aQ [2,3,9,36,37,38] [] (λw:Nat×Int=>w.1<=s.nodes.length/\eC m e (s.nodes.drop w.1) w.1 w.2=r) (λw=>s.nodes.length-w.1) (EM s j m f et cells) (0,j.pin) ?_ ⟨Nat.zero_le _,J⟩ ?_
    .simp only[EM,go_sem,Int.natCast_zero]
    rintro⟨k,v⟩ ⟨hk,A⟩;dsimp only at hk A;simp only[EM,go_sem];refine bp (λh=>?_) (λh=>?_)
    .have h:=eV h;rw[drop_eq_getElem_cons h]at A;unfold eC at A;simp only[get_map h,go_sem,NH (m:Int) k (by omega)];have go:∀Z,eC m e (s.nodes.drop (k+1)) (k+1) Z=r->(k+1,Z).1<=s.nodes.length/\eC m e (s.nodes.drop (k+1,Z).1) (k+1,Z).1 (k+1,Z).2=r:=λZ X=>⟨h,X⟩
     cases t:hasB (m:Int) k with
     |false=>
      rw[if_pos t]at A;simp only[go_sem];refine aY (k+1,v) ?_ ?_ (go _ A) (by dsimp only;omega)
      .simp only[go_sem,c]
      .simp only[EM,go_sem,wS k]
     |true=>
      rw[if_neg (by simp[t])]at A;simp only[go_sem];have a:bn 1 cells=true:=B6.2 cells 1 hd;refine bp (λB=>?_) (λB=>?_)<;>simp only[B,go_sem]<;>(try simp only[Gh]at B)
      .rw [if_pos B]at A;refine dz [0] (K s.nodes[k]) rfl ?_ (by decide) ?_ ?_ (by simp) ?_<;>simp only[ay,aB,go_sem,o,a]
       cases u:e s.nodes[k]with
       |false=>rw[if_neg (by simp[u])]at A;simp only[go_sem,o,<- A]
       |true=>
        by_cases E:s.nodes[k].version=s.nodes[k].version
        .rw [if_pos ⟨u,E⟩]at A;have q:(s.nodes[k].version !=s.nodes[k].version)=false:=by simp[<- E]
         simp only[go_sem,o,q];refine aY (k+1,s.nodes[k].version) ?_ ?_ (go _ A) (by dsimp only;omega)
         .simp only[go_sem,c]
         .simp only[EM,go_sem,wS k]
        .rw [if_neg (λX=>E X.2)]at A;have q:(s.nodes[k].version !=s.nodes[k].version)=true:=bne_iff_ne.2 E;simp only[go_sem,o,q,<- A]
      .rw [if_neg B]at A;refine dz [0] (K s.nodes[k]) rfl ?_ (by decide) ?_ ?_ (by simp) ?_<;>simp only[ay,aB,go_sem,o,a]
       cases u:e s.nodes[k]with
       |false=>rw[if_neg (by simp[u])]at A;simp only[go_sem,o,<- A]
       |true=>
        by_cases E:s.nodes[k].version=v
        .rw [if_pos ⟨u,E⟩]at A;have q:(s.nodes[k].version !=v)=false:=by simp[<- E]
         simp only[go_sem,o,q];refine aY (k+1,v) ?_ ?_ (go _ A) (by dsimp only;omega)
         .simp only[go_sem,c]
         .simp only[EM,go_sem,wS k]
        .rw [if_neg (λX=>E X.2)]at A;have q:(s.nodes[k].version !=v)=true:=bne_iff_ne.2 E;simp only[go_sem,o,q,<- A]
    .obtain rfl:=eW h hk;rw[drop_length]at A;simp only[go_sem,<- A,eC]
  .rw [if_pos (.inr h2)]
 .rw [if_pos (.inl U)]
section
variable(c:av)
def Kw(s:aa)(j:bT)(m:Int)(D:s.nodes.length<=6)(h0:1<=c.bA/\c.bA<=1000):aS G 133 [eD c,aU s,Gf j,.int m] [] (.bool (iN c s j m)) []:=by
 refine iL func133 ?_;unfold iN;refine a_ (E_ c j h0) ?_;repeat' (first
  |(refine jB (fm _ _ _) rfl rfl rfl rfl ?_;simp only[go_sem])
  |((first|with_reducible refine BZ (λh=>?_) (λh=>?_)|refine dK (λh=>?_) (λh=>?_))<;>simp only[h,go_sem]))
 refine mW (λU=>?_) (λU=>?_)<;>simp only[U,go_sem]<;>(try simp only[Gh]at U)
 refine a_ (KG _) ?_;refine mW (λh2=>?_) (λh2=>?_)<;>simp only[h2,go_sem]<;>(try simp only[Gh]at h2)
 .rfl
 refine bJ [3] (Qa s j j.nodes 185 3 [.int m] (mg m) D rfl (λn=>Kr n m)) trivial
def OH(s:aa)(n:bh)(m:Nat)(e:m<50)(Z:s.jobs.length<=1000000):aS G 134 [aU s,BB n,.int m] [] (.bool (oS s n m)) []:=by
 refine iL func134 ?_;unfold oS;have o:∀x:Int,decide (x≠0)=(x !=0):=λx=>by rw[Bool.eq_iff_iff];simp
 have t:∀x:Int,decide (x=0)=(x==0):=λx=>rfl
 rw[o,t];refine a_ (fm _ _ _) ?_;refine BZ (λU=>?_) (λU=>?_)<;>simp only[U,go_sem]<;>(try simp only[Gh]at U)
 refine a_ (fm _ _ _) ?_;cases h2:bN n.aM 0 s.jobs.length with
 |false=>simp only[go_sem]
 |true=>
  simp only[go_sem];have T:0<=n.aM/\n.aM<=s.jobs.length:=of_decide_eq_true h2;cases hj:(n.aM==0)with
  |true=>
   have k:(n.aM !=0)=false:=by simp[bne,hj]
   simp only[k,go_sem];repeat' (first|simp only[hj,k,go_sem]|((first|with_reducible refine BZ (λh=>?_) (λh=>?_)|refine dK (λh=>?_) (λh=>?_))<;>simp only[h,go_sem])|((first|with_reducible refine mW (λh=>?_) (λh=>?_)|refine bp (λh=>?_) (λh=>?_))<;>simp only[h,go_sem]))
  |false=>
   have k:(n.aM !=0)=true:=by simp[bne,hj]
   have a:n.aM≠0:=by simpa using hj
   have S:IntKind.i64.wrap (n.aM-1)=n.aM-1:=aH (by omega) (by omega);have h0:0<=n.aM-1:=by omega
   have V:(s.jobs.map dH)[(n.aM-1).toNat]? = some (dH (s.jobs.getD (n.aM-1).toNat az)):=aG _ (by omega);simp only[k,go_sem];repeat' (first|simp only[hj,k,S,h0,V,Mj _ m (show m<64 by omega),go_sem]|((first|with_reducible refine BZ (λh=>?_) (λh=>?_)|refine dK (λh=>?_) (λh=>?_))<;>simp only[h,go_sem])|((first|with_reducible refine mW (λh=>?_) (λh=>?_)|refine bp (λh=>?_) (λh=>?_))<;>simp only[h,go_sem]))
def Aj(c:av)(s:aa)(k:Nat):St:=⟨[(2,.ptr 0 0),(3,.ptr 1 0),(52,qM s.jobs),(53,.int s.jobs.length),(54,.int k)],[some (.box 23 [.int c.nodes,.int c.bA,.int c.cF,.int c.gQ,.int c.bD,.int c.ej,.int c.deadline,.int c.room,.int c.fT]),some (.box 34 [bH s.nodes,qM s.jobs,.int s.goal,.int s.prior,.int s.mode,.int s.term])]⟩
def Ai(c:av)(s:aa)(k:Nat):St:=⟨[(2,.ptr 0 0),(3,.ptr 1 0),(68,bH s.nodes),(69,.int s.nodes.length),(70,.int k)],[some (.box 23 [.int c.nodes,.int c.bA,.int c.cF,.int c.gQ,.int c.bD,.int c.ej,.int c.deadline,.int c.room,.int c.fT]),some (.box 34 [bH s.nodes,qM s.jobs,.int s.goal,.int s.prior,.int s.mode,.int s.term])]⟩
def Ah(c:av)(s:aa)(k:Nat):St:=⟨[(2,.ptr 0 0),(3,.ptr 1 0),(82,.int c.bA),(83,.int k)],[some (.box 23 [.int c.nodes,.int c.bA,.int c.cF,.int c.gQ,.int c.bD,.int c.ej,.int c.deadline,.int c.room,.int c.fT]),some (.box 34 [bH s.nodes,qM s.jobs,.int s.goal,.int s.prior,.int s.mode,.int s.term])]⟩
def Ep{c:av}(h:gq c=true):1<=c.nodes/\c.nodes<=6/\1<=c.bA/\c.bA<=3:=by unfold gq at h;simp only[Bool.and_eq_true]at h;have U:=bf h.1.1.1.1.1.1.1.1;have h2:=bf h.1.1.1.1.1.1.1.2;omega
theorem DZ(s:aa):aS G 87 [eD c,aU s] [] (.bool (jE c s)) []:=by
 refine iL func87 ?_;unfold jE;have o:decide ((s.nodes.length:Int)=c.nodes) = !((s.nodes.length:Int) !=c.nodes):=by rw[Bool.eq_iff_iff];simp
 have V:decide (s.jobs.length<=24) = !(decide ((s.jobs.length:Int)>24)):=by rw[Bool.eq_iff_iff];simp;omega
 rw[o,V];refine a_ (wH c) ?_;cases H:gq c with
 |false=>simp only[go_sem]
 |true=>
  have K:=Ep H;simp only[go_sem];repeat' (first
   |(refine jB (fm _ _ _) rfl rfl rfl rfl ?_;simp only[go_sem])
   |((first|with_reducible refine BZ (λh=>?_) (λh=>?_)|refine dK (λh=>?_) (λh=>?_))<;>simp only[h,go_sem]))
  refine mW (λu=>?_) (λu=>?_)<;>simp only[u,go_sem]<;>(try simp only[Gh]at u)
  have hj:s.jobs.length<=24:=by simp_all
  have D:s.nodes.length<=6:=by simp_all;omega
  generalize E:(fq c s s.jobs 0&&fO s s.nodes 0&&fk c s 0 c.bA.toNat)=r;refine aQ [2,3,52,53,54] [] (λk:Nat=>k<=s.jobs.length/\(fq c s (s.jobs.drop k) k&&fO s s.nodes 0&&fk c s 0 c.bA.toNat)=r) (λk=>s.jobs.length-k) (Aj c s) 0 ?_ ⟨Nat.zero_le _,E⟩ ?_
  .simp only[Aj,go_sem,Int.natCast_zero]
  rintro k ⟨hk,A⟩;simp only[Aj,go_sem];refine bp (λh=>?_) (λh=>?_)
  .have h:=eV h;rw[drop_eq_getElem_cons h,fq]at A;simp only[get_map h,go_sem,wS k];refine a_ (Kw c s s.jobs[k] (k+1:Nat) D ⟨K.2.2.1,by omega⟩) ?_;cases hs:iN c s s.jobs[k] (k+1:Nat)with
   |false=>have a:iN c s s.jobs[k] ((k:Int)+1)=false:=hs;rw[a]at A;simp only[Bool.false_and]at A;simp only[go_sem,<- A]
   |true=>
    have a:iN c s s.jobs[k] ((k:Int)+1)=true:=hs;rw[a,Bool.true_and]at A;simp only[go_sem];refine aY (k+1) ?_ ?_ ⟨h,A⟩ (by omega)
    .simp only[go_sem]
    .simp only[Aj,go_sem,wS k]
  .obtain rfl:=eW h hk;clear E hk;rw[drop_length,fq,Bool.true_and]at A;simp only[go_sem];refine aQ [2,3,68,69,70] [] (λk:Nat=>k<=s.nodes.length/\(fO s (s.nodes.drop k) k&&fk c s 0 c.bA.toNat)=r) (λk=>s.nodes.length-k) (Ai c s) 0 ?_ ⟨Nat.zero_le _,A⟩ ?_
   .simp only[Ai,go_sem,Int.natCast_zero]
   clear A;rintro k ⟨hk,A⟩;simp only[Ai,go_sem];refine bp (λh=>?_) (λh=>?_)
   .have h:=eV h;rw[drop_eq_getElem_cons h,fO]at A;simp only[get_map h,go_sem];refine a_ (OH s s.nodes[k] k (by omega) (by omega)) ?_;cases hs:oS s s.nodes[k] k with
    |false=>rw[hs]at A;simp only[Bool.false_and]at A;simp only[go_sem,<- A]
    |true=>
     rw[hs,Bool.true_and]at A;simp only[go_sem];refine aY (k+1) ?_ ?_ ⟨h,A⟩ (by omega)
     .simp only[go_sem]
     .simp only[Ai,go_sem,wS k]
   .obtain rfl:=eW h hk;clear hk;rw[drop_length,fO,Bool.true_and]at A;simp only[go_sem];refine aQ [2,3,82,83] [] (λk:Nat=>(k:Int)<=c.bA/\fk c s k (c.bA-k).toNat=r) (λk=>(c.bA-k).toNat) (Ah c s) 0 ?_ ⟨by omega,by simpa using A⟩ ?_
    .simp only[Ah,go_sem,Int.natCast_zero]
    clear A;rintro k ⟨hk,A⟩;simp only[Ah,go_sem];refine bp (λh=>?_) (λh=>?_)<;>simp only[h,go_sem]<;>(try simp only[Gh]at h)
    .rw [show(c.bA-(k:Int)).toNat=(c.bA-((k+1:Nat):Int)).toNat+1 by omega,fk]at A;refine cc (vh s k (by omega)) ?_;refine bp (λhs=>?_) (λhs=>?_)<;>simp only[hs,go_sem]<;>(try simp only[Gh]at hs)
     .rw [show decide (c.cF<dg s.jobs k)=true by simpa using hs]at A;simp only[Bool.not_true,Bool.false_and]at A;simp only[<- A,go_sem]
     .rw [show decide (c.cF<dg s.jobs k)=false by simpa using hs]at A;simp only[Bool.not_false,Bool.true_and]at A;refine aY (k+1) ?_ ?_ ⟨by omega,A⟩ (by omega)
      .simp only[go_sem]
      .simp only[Ah,go_sem,wS k]
    .rw [show(c.bA-(k:Int)).toNat=0 by omega,fk]at A;simp only[<- A,go_sem]
end
def Cx(l:List bh)(Z:l.length<=1000):aS G 96 [bH l] [] (.sl 0 l.length 5 0 l.length) [.dat 92 5 (l.map cv)]:=by
 refine uW func96 ?_;cases l with
 |nil=>
  simp only[go_sem];refine⟨?_,?_⟩
  .exact uv [.t 2 92 5] rfl rfl
  .exact uv [] rfl rfl
 |cons n l=>
  have h0:¬(n::l).length=0:=by simp
  have T:(l.length+1)*24<=70368744177664:=by simp at Z;omega
  simp only[h0,take_of_length_le (show(map cv (n::l)).length<=(n::l).length by simp),Nat.le_refl,go_sem];simp only[T,go_sem];exact uv [] rfl rfl
def Cy(l:List bT)(Z:l.length<=1000):aS G 97 [qM l] [] (.sl 0 l.length 12 0 l.length) [.dat 54 12 (l.map dH)]:=by
 refine uW func97 ?_;cases l with
 |nil=>
  simp only[go_sem];refine⟨?_,?_⟩
  .exact uv [.t 2 54 12] rfl rfl
  .exact uv [] rfl rfl
 |cons n l=>
  have h0:¬(n::l).length=0:=by simp
  have T:(l.length+1)*96<=70368744177664:=by simp at Z;omega
  simp only[h0,take_of_length_le (show(map dH (n::l)).length<=(n::l).length by simp),Nat.le_refl,go_sem];simp only[T,go_sem];exact uv [] rfl rfl
def sX(s:aa)(D:s.nodes.length<=1000)(hj:s.jobs.length<=1000):aS G 54 [aU s] [] (.agg [.sl 0 s.nodes.length 5 0 s.nodes.length,.sl 1 s.jobs.length 12 0 s.jobs.length,.int s.goal,.int s.prior,.int s.mode,.int s.term]) [.dat 92 5 (s.nodes.map cv),.dat 54 12 (s.jobs.map dH)]:=by refine uW func54 ?_;refine CP (Cx s.nodes D) ?_;refine CP (Cy s.jobs hj) ?_;refine dQ ?_;refine ue [] [2,3] [] rfl rfl (by decide) (by simp) (by simp) rfl rfl ?_;simp[aR,aB,ay]
section
variable(c:av)
@[reducible] def b_(c:av)(s:aa)(o:cr)(n j:LV):List ah:=
 [.box 179 [.int c.nodes,.int c.bA,.int c.cF,.int c.gQ,.int c.bD,.int c.ej,.int c.deadline,.int c.room,.int c.fT,
  .sl 1 s.nodes.length 5 0 s.nodes.length,.sl 2 s.jobs.length 12 0 s.jobs.length,.int s.goal,.int s.prior,.int s.mode,.int s.term,
  .int o.kind,.int o.a,.int o.b,.int o.c,.int o.d,.int o.e,.int o.f,n,j],
  .dat 92 5 (s.nodes.map cv),.dat 54 12 (s.jobs.map dH)]
@[reducible] def gZ:LV:=.d (.val (.pointer none))
def He(ok:Bool)(e:Int):aS G 225 [.bool ok,.int e] [] (.int (if ok=true then 0 else e)) []:=by refine iL func225 ?_;cases ok<;>simp only[go_sem,Bool.false_eq_true]
def AP(s:aa)(o:cr)(ok:Bool)(b:Int):aS G 188 [.ptr 0 0,.bool ok,.int b] (b_ c s o gZ gZ) (.int (iX s ok b).2) (b_ c (iX s ok b).1 o gZ gZ):=by
 refine oO func188 rfl ?_;cases ok with
 |true=>simp only[go_sem];refine a_ (He true 5) ?_;simp only[iX,go_sem]
 |false=>simp only[go_sem];refine a_ (He false 5) ?_;simp only[iX,go_sem,Bool.false_eq_true]
def Pb(s:aa)(o:cr):aS G 140 [.ptr 0 0] (b_ c s o gZ gZ) (.int (iX s (s.mode==0) 1).2) (b_ c (iX s (s.mode==0) 1).1 o gZ gZ):=by refine oO func140 rfl ?_;refine dz [0,1,2] (AP c s o (s.mode==0) 1) rfl ?_ (by decide) ?_ ?_ (by simp) ?_<;>simp only[ay,aB,go_sem,b_,length_range]
def KC(s:aa)(o:cr):aS G 141 [.ptr 0 0] (b_ c s o gZ gZ) (.int (iX s (s.mode==1) 0).2) (b_ c (iX s (s.mode==1) 0).1 o gZ gZ):=by refine oO func141 rfl ?_;refine dz [0,1,2] (AP c s o (s.mode==1) 0) rfl ?_ (by decide) ?_ ?_ (by simp) ?_<;>simp only[ay,aB,go_sem,b_]
def Rb(s:aa)(o:cr):aS G 142 [.ptr 0 0] (b_ c s o gZ gZ) (.int (iX s (s.mode !=2) 2).2) (b_ c (iX s (s.mode !=2) 2).1 o gZ gZ):=by refine oO func142 rfl ?_;refine dz [0,1,2] (AP c s o (s.mode !=2) 2) rfl ?_ (by decide) ?_ ?_ (by simp) ?_<;>simp only[ay,aB,go_sem,b_]
def H_(s:aa)(o:cr)(u:s.term<=1000000)(h0:0<=s.term):aS G 157 [.ptr 0 0] (b_ c s o gZ gZ) (.int (d_ s).2) (b_ c (d_ s).1 o gZ gZ):=by
 refine oO func157 rfl ?_;have S:IntKind.i64.wrap (s.term+1)=s.term+1:=aH (by omega) (by omega);refine bp (λh=>?_) (λh=>?_)<;>simp only[h,go_sem]<;>(try simp only[Gh]at h)
 .simp only[d_,h,ge_iff_le,go_sem]
 .simp only[d_,h,ge_iff_le,S,go_sem]
def Kq(s:aa)(o:cr)(D:s.nodes.length<=1000)(hj:s.jobs.length<=1000):aS G 139 [.ptr 0 0] (b_ c s o gZ gZ) (.int (lD s o).2) (b_ c (lD s o).1 o gZ gZ):=by
 refine oO func139 rfl ?_;refine a_ (fm _ _ _) ?_;cases h:bN o.a 1 9 with
 |false=>simp only[lD,h,go_sem]
 |true=>simp only[go_sem];refine xE [1,2] (kY s) rfl (by simp[ay,aB,bz,an,take_of_length_le,go_sem]) (by simp[an]) rfl rfl ?_;simp only[go_sem];refine aD rfl ?_;simp only[lD,h,go_sem,Bool.true_eq_false]
def Ks(s:aa)(o:cr)(h0:1<=c.bA/\c.bA<=1000)(hj:s.jobs.length<=1000):aS G 137 [.ptr 0 0] (b_ c s o gZ gZ) (.int (jU c s o).2) (b_ c (jU c s o).1 o gZ gZ):=by
 refine oO func137 rfl ?_;refine cc (E_ c (oZ o) h0) ?_;cases ha:nT c (oZ o)with
 |false=>simp only[jU,ha,go_sem]
 |true=>
  simp only[go_sem];have Z:(s.jobs.length+1)*96<=70368744177664:=by omega
  refine bp (λh=>?_) (λh=>?_)<;>simp only[h,go_sem]<;>(try simp only[Gh]at h)
  .simp only[jU,ha,h,ge_iff_le,go_sem,Bool.true_eq_false,show 24<=s.jobs.length by omega]
  .have x:¬24<=s.jobs.length:=by omega
   simp only[length_append,Z,go_sem];refine aD rfl ?_;simp only[jU,ha,x,map_append,length_append,go_sem,Bool.true_eq_false];simp only[oZ,go_sem]
def sn(c:av)(s:aa)(o:cr)(n j:LV)(m phase:Int)(k:Nat):St:=⟨[(0,.ptr 0 0),(1,.int m),(2,.int phase),(6,.rp 2 s.jobs.length 12 (m-1).toNat 0),(21,.int s.nodes.length),(22,.int k)],
 [some (.box 179 [.int c.nodes,.int c.bA,.int c.cF,.int c.gQ,.int c.bD,.int c.ej,.int c.deadline,.int c.room,.int c.fT,
  .sl 1 s.nodes.length 5 0 s.nodes.length,.sl 2 s.jobs.length 12 0 s.jobs.length,.int s.goal,.int s.prior,.int s.mode,.int s.term,
  .int o.kind,.int o.a,.int o.b,.int o.c,.int o.d,.int o.e,.int o.f,n,j]),
  some (.dat 92 5 ((iW (lets m) s.nodes k).map cv)),some (.dat 54 12 (s.jobs.map dH))]⟩
def lS(s:aa)(o:cr)(n j:LV)(m phase:Int)(b:bV 3 n=true)(e:bV 3 j=true)(U:1<=m)(h2:m<=s.jobs.length)(D:s.nodes.length<=1000)(hj:s.jobs.length<=1000) :
  aS G 186 [.ptr 0 0,.int m,.int phase] (b_ c s o n j) (.cZ []) (b_ c (eA s m phase) o n j):=by
 refine Lv func186 (by simp[aP,bV,bn,b,e,LV.int]) ?_;have S:IntKind.i64.wrap (m-1)=m-1:=aH (by omega) (by omega);have B:0<=m-1:=by omega
 have y:(m-1).toNat<s.jobs.length:=by omega
 simp only[S,B,y,go_sem];refine aQ [0,1,2,6,21,22] [] (λk:Nat=>k<=s.nodes.length) (λk=>s.nodes.length-k) (sn c s o n j m phase) 0 ?_ (Nat.zero_le _) (λk hk=>?_)
 .simp only[sn,go_sem,AI,Int.natCast_zero]
 simp only[sn,go_sem];refine bp (λh=>?_) (λh=>?_)
 .have h:=eV h;have V:((iW (lets m) s.nodes k).map cv)[k]? = some (cv s.nodes[k]):=by rw[getElem?_map,G7 _ _ h];rfl
  simp only[h,V,qi,go_sem];refine bp (λE=>?_) (λE=>?_)<;>simp only[E,go_sem]<;>(try simp only[Gh]at E)
  .have hs:((iW (lets m) s.nodes k).map cv).set k (cv { s.nodes[k]with aM:=0 })=(iW (lets m) s.nodes (k+1)).map cv:=by
    rw[<- map_set,xR _ _ h (by simp only[lets,E,if_true])]
   simp only[cv]at hs;simp only[h,V,qi,go_sem];refine aY (k+1) ?_ ?_ (by omega) (by omega)
   .simp only[go_sem,b,e]
   .simp only[sn,go_sem,wS k,hs]
  .have hs:=AJ (lets m) s.nodes h (by simp only[lets,E,if_false]);refine aY (k+1) ?_ ?_ (by omega) (by omega)
   .simp only[go_sem,b,e]
   .simp only[sn,go_sem,wS k,hs]
 .obtain rfl:=eW h hk;have v:=aG (f:=dH) az y;simp only[v,AK,go_sem];simp only[getElem?_set_self,y,set_set,length_set,go_sem];simp only[eA,eH,map_set,length_set,length_mapIdx,go_sem]
end
def yH(s:aa)(j:bT)(nodes:Int)(f:Nat)(w:Nat×Int):St:=⟨[(2,.int nodes),(3,.fn (.func f) [] []),(9,.int w.2),(36,bH s.nodes),(37,.int s.nodes.length),(38,.int w.1)],[some (.box 34 [bH s.nodes,qM s.jobs,.int s.goal,.int s.prior,.int s.mode,.int s.term]),some (.box 54 [.int j.queue,.int j.prio,.int j.min,.int j.max,.int j.work,.int j.pin,.int j.phase,.int j.inc,.int j.nodes,.int j.since,.int j.til,.int j.epoch])]⟩
def Qb(s:aa)(j:bT)(nodes:Int)(f:Nat)(e:bh->Bool)(D:s.nodes.length<=6)(K:∀n,aS G f [BB n] [] (.bool (e n)) []) :
  aS G 184 [aU s,Gf j,.int nodes,.fn (.func f) [] []] [] (.bool (oE s.nodes j nodes e)) []:=by
 refine xS func184 (by decide) ad8 rfl rfl ?_;have O:(2:Int) ^ s.nodes.length<=64/\1<=(2:Int) ^ s.nodes.length:=by
  have:s.nodes.length=0\/s.nodes.length=1\/s.nodes.length=2\/s.nodes.length=3\/s.nodes.length=4\/s.nodes.length=5\/s.nodes.length=6:=by omega
  rcases this with h|h|h|h|h|h|h<;>rw[h]<;>decide
 have S:=vN s.nodes.length D;simp only[aeu,go_sem,S];unfold oE;have none:∀{x y:Prop} [Decidable x] [Decidable y] {b:Bool},x\/y->(if x\/y then false else b)=false:=λh=>by rw[if_pos h]
 refine iV (λU=>?_) (λU=>?_)<;>simp only[U,go_sem]<;>(try simp only[Gh]at U)
 .simp only[S];refine iV (λh2=>?_) (λh2=>?_)<;>simp only[h2,go_sem]<;>(try simp only[Gh]at h2)
  .obtain ⟨m,rfl⟩:=eq_ofNat_of_zero_le (show 0<=nodes by omega);have H:m<64:=by omega
   have V:u64.wrap (m:Int)=m:=by simp[wrap,IntKind.bits,signed];omega
   rw[if_neg (by omega)];simp only[V];refine cc (wk m H) ?_;refine cc (fm _ _ _) ?_;cases T:bN (many m) j.min j.max with
   |false=>simp only[go_sem]
   |true=>
    simp only[go_sem];generalize J:eC m e s.nodes 0 j.pin=r;refine aQ [2,3,9,36,37,38] [] (λw:Nat×Int=>w.1<=s.nodes.length/\eC m e (s.nodes.drop w.1) w.1 w.2=r) (λw=>s.nodes.length-w.1) (yH s j m f) (0,j.pin) ?_ ⟨Nat.zero_le _,J⟩ ?_
    .simp only[yH,go_sem,Int.natCast_zero]
    rintro⟨k,v⟩ ⟨hk,A⟩;dsimp only at hk A;simp only[yH,go_sem];refine bp (λh=>?_) (λh=>?_)
    .have h:=eV h;rw[drop_eq_getElem_cons h]at A;unfold eC at A;simp only[get_map h,go_sem,NH (m:Int) k (by omega)];have go:∀Z,eC m e (s.nodes.drop (k+1)) (k+1) Z=r->(k+1,Z).1<=s.nodes.length/\eC m e (s.nodes.drop (k+1,Z).1) (k+1,Z).1 (k+1,Z).2=r:=λZ X=>⟨h,X⟩
     cases t:hasB (m:Int) k with
     |false=>
      rw[if_pos t]at A;simp only[go_sem];refine aY (k+1,v) ?_ ?_ (go _ A) (by dsimp only;omega)
      .simp only[go_sem]
      .simp only[yH,go_sem,wS k]
     |true=>
      rw[if_neg (by simp[t])]at A;simp only[go_sem];refine bp (λB=>?_) (λB=>?_)<;>simp only[B,go_sem]<;>(try simp only[Gh]at B)
      .rw [if_pos B]at A;refine a_ (K s.nodes[k]) ?_;cases u:e s.nodes[k]with
       |false=>rw[if_neg (by simp[u])]at A;simp only[go_sem,<- A]
       |true=>
        by_cases E:s.nodes[k].version=s.nodes[k].version
        .rw [if_pos ⟨u,E⟩]at A;have q:(s.nodes[k].version !=s.nodes[k].version)=false:=by simp[<- E]
         simp only[go_sem,q];refine aY (k+1,s.nodes[k].version) ?_ ?_ (go _ A) (by dsimp only;omega)
         .simp only[go_sem]
         .simp only[yH,go_sem,wS k]
        .rw [if_neg (λX=>E X.2)]at A;have q:(s.nodes[k].version !=s.nodes[k].version)=true:=bne_iff_ne.2 E;simp only[go_sem,q,<- A]
      .rw [if_neg B]at A;refine a_ (K s.nodes[k]) ?_;cases u:e s.nodes[k]with
       |false=>rw[if_neg (by simp[u])]at A;simp only[go_sem,<- A]
       |true=>
        by_cases E:s.nodes[k].version=v
        .rw [if_pos ⟨u,E⟩]at A;have q:(s.nodes[k].version !=v)=false:=by simp[<- E]
         simp only[go_sem,q];refine aY (k+1,v) ?_ ?_ (go _ A) (by dsimp only;omega)
         .simp only[go_sem]
         .simp only[yH,go_sem,wS k]
        .rw [if_neg (λX=>E X.2)]at A;have q:(s.nodes[k].version !=v)=true:=bne_iff_ne.2 E;simp only[go_sem,q,<- A]
    .obtain rfl:=eW h hk;rw[drop_length]at A;simp only[go_sem,<- A,eC]
  .rw [if_pos (.inr h2)]
 .rw [if_pos (.inl U)]
def IV(n:bh):aS G 189 [BB n] [] (.bool (nN n)) []:=by refine iL func189 ?_;unfold nN;cases U:n.up<;>cases h2:n.cU<;>cases B:n.bw<;>simp only[U,h2,B,go_sem]<;>rfl
section
variable (c:av) (s:aa) (o:cr) (i:Nat) (hi:i<s.nodes.length) (ha:o.a=i)
include hi ha
theorem L6:aS G 152 [.ptr 0 0] (b_ c s o gZ (.rp 1 s.nodes.length 5 i 0)) (.int (mP s o).2) (b_ c (mP s o).1 o gZ (.rp 1 s.nodes.length 5 i 0)):=by
 refine oO func152 rfl ?_;have V:=aG (f:=cv) aq hi;have e:o.a.toNat=i:=by omega
 have w:dm s o.a=s.nodes.getD i aq:=by unfold dm;rw[e]
 generalize s.nodes.getD i aq=n at *;cases y:n.up<;>cases K:n.cU<;>simp only[V,y,K,go_sem]<;>simp only[mP,y,K,lP,w,e,go_sem,sD]
theorem Fz:aS G 153 [.ptr 0 0] (b_ c s o gZ (.rp 1 s.nodes.length 5 i 0)) (.int (iK s o).2) (b_ c (iK s o).1 o gZ (.rp 1 s.nodes.length 5 i 0)):=by
 refine oO func153 rfl ?_;have V:=aG (f:=cv) aq hi;have e:o.a.toNat=i:=by omega
 have w:dm s o.a=s.nodes.getD i aq:=by unfold dm;rw[e]
 generalize s.nodes.getD i aq=n at *;cases y:n.bw<;>cases K:n.cU<;>simp only[V,y,K,go_sem]<;>simp only[iK,y,K,lP,w,e,go_sem,sD]
theorem Tf:aS G 154 [.ptr 0 0] (b_ c s o gZ (.rp 1 s.nodes.length 5 i 0)) (.int (wG s o).2) (b_ c (wG s o).1 o gZ (.rp 1 s.nodes.length 5 i 0)):=by
 refine oO func154 rfl ?_;have V:=aG (f:=cv) aq hi;have e:o.a.toNat=i:=by omega
 have w:dm s o.a=s.nodes.getD i aq:=by unfold dm;rw[e]
 generalize s.nodes.getD i aq=n at *;cases y:n.up<;>cases K:n.cU<;>cases H:n.bw<;>cases hj:(n.aM !=0)<;>simp only[V,y,K,H,hj,go_sem]<;>(simp only[Gh]at hj)<;>simp only[wG,y,K,H,hj,lP,w,e,go_sem,sD]
theorem Pk:aS G 155 [.ptr 0 0] (b_ c s o gZ (.rp 1 s.nodes.length 5 i 0)) (.int (nL s o).2) (b_ c (nL s o).1 o gZ (.rp 1 s.nodes.length 5 i 0)):=by
 refine oO func155 rfl ?_;have V:=aG (f:=cv) aq hi;have e:o.a.toNat=i:=by omega
 have w:dm s o.a=s.nodes.getD i aq:=by unfold dm;rw[e]
 generalize s.nodes.getD i aq=n at *;refine a_ (fm _ _ _) ?_;cases S:bN o.b 1 9 with
 |false=>simp only[V,go_sem];simp only[nL,S,lP,w,e,go_sem,sD]
 |true=>
  cases H:n.bw with
  |false=>simp only[V,H,go_sem];simp only[nL,S,H,lP,w,e,go_sem,sD]
  |true=>simp only[V,H,hi,getElem?_set_self,length_set,go_sem];refine aD rfl ?_;simp only[nL,S,H,lP,w,e,go_sem,sD]
theorem Zm:aS G 144 [.ptr 0 0] (b_ c s o gZ (.rp 1 s.nodes.length 5 i 0)) (.int (RD s o).2) (b_ c (RD s o).1 o gZ (.rp 1 s.nodes.length 5 i 0)):=by
 refine oO func144 rfl ?_;have V:=aG (f:=cv) aq hi;have e:o.a.toNat=i:=by omega
 have w:dm s o.a=s.nodes.getD i aq:=by unfold dm;rw[e]
 generalize s.nodes.getD i aq=n at *;refine a_ (fm _ _ _) ?_;cases S:bN o.b 1 9 with
 |false=>simp only[V,go_sem];simp only[RD,S,lP,w,e,go_sem,sD]
 |true=>
  cases H:n.up with
  |true=>simp only[V,H,go_sem];simp only[RD,S,H,lP,w,e,go_sem,sD]
  |false=>simp only[V,H,hi,getElem?_set_self,length_set,go_sem];refine aD rfl ?_;simp only[RD,S,H,lP,w,e,go_sem,sD]
end
section
variable(c:av)
def HD(s:aa)(o:cr)(k:Nat)(hk:k<s.jobs.length)(ha:o.a=k+1):aS G 190 [.ptr 0 0] (b_ c s o (.rp 2 s.jobs.length 12 k 0) gZ) (.bool (vQ (eH s o.a))) (b_ c s o (.rp 2 s.jobs.length 12 k 0) gZ):=by
 refine oO func190 rfl ?_;have V:=aG (f:=dH) az hk;have e:(o.a-1).toNat=k:=by omega
 have Z:eH s o.a=s.jobs.getD k az:=by unfold eH;rw[e]
 generalize s.jobs.getD k az=j at *;simp only[V,go_sem];refine dK (λh=>?_) (λh=>?_)<;>simp only[h,go_sem]<;>(try simp only[Gh]at h)
 .have B:(j.phase==2)=false:=by simpa using h
  simp only[V,Z,vQ,h,B,go_sem];rfl
 .have B:(j.phase==2)=true:=by simpa using h
  simp only[Z,vQ,h,B,go_sem]
def Mf(s:aa)(o:cr)(k:Nat)(hk:k<s.jobs.length)(ha:o.a=k+1)(D:s.nodes.length<=1000)(hj:s.jobs.length<=1000):aS G 138 [.ptr 0 0] (b_ c s o (.rp 2 s.jobs.length 12 k 0) gZ) (.int (lI s o).2) (b_ c (lI s o).1 o (.rp 2 s.jobs.length 12 k 0) gZ):=by
 refine oO func138 rfl ?_;have V:=aG (f:=dH) az hk;have e:(o.a-1).toNat=k:=by omega
 have Z:eH s o.a=s.jobs.getD k az:=by unfold eH;rw[e]
 generalize s.jobs.getD k az=j at *;simp only[V,go_sem];refine bp (λh=>?_) (λh=>?_)<;>simp only[h,go_sem]<;>(try simp only[Gh]at h)
 .simp only[lI,h,gJ,Z,e,go_sem,sD]
 .refine dz [0,1,2] (lS c s o (.rp 2 s.jobs.length 12 k 0) gZ o.a 4 rfl rfl (by omega) (by omega) D hj) rfl ?_ (by decide) ?_ ?_ (by simp) ?_<;>simp only[ay,aB,go_sem,b_]
  simp only[lI,h,gJ,Z,e,go_sem,sD]
def Kh(s:aa)(o:cr)(k:Nat)(hk:k<s.jobs.length)(ha:o.a=k+1)(D:s.nodes.length<=1000)(hj:s.jobs.length<=1000):aS G 147 [.ptr 0 0] (b_ c s o (.rp 2 s.jobs.length 12 k 0) gZ) (.int (lC s o).2) (b_ c (lC s o).1 o (.rp 2 s.jobs.length 12 k 0) gZ):=by
 refine oO func147 rfl ?_;have V:=aG (f:=dH) az hk;have e:(o.a-1).toNat=k:=by omega
 have Z:eH s o.a=s.jobs.getD k az:=by unfold eH;rw[e]
 generalize s.jobs.getD k az=j at *;simp only[V,go_sem];refine bp (λh=>?_) (λh=>?_)<;>simp only[h,go_sem]<;>(try simp only[Gh]at h)
 .simp only[lC,h,gJ,Z,e,go_sem,sD]
 .refine dz [0,1,2] (lS c s o (.rp 2 s.jobs.length 12 k 0) gZ o.a 0 rfl rfl (by omega) (by omega) D hj) rfl ?_ (by decide) ?_ ?_ (by simp) ?_<;>simp only[ay,aB,go_sem,b_]
  simp only[lC,h,gJ,Z,e,go_sem,sD]
def Qg(s:aa)(o:cr)(k:Nat)(hk:k<s.jobs.length)(ha:o.a=k+1)(D:s.nodes.length<=1000)(hj:s.jobs.length<=1000):aS G 150 [.ptr 0 0] (b_ c s o (.rp 2 s.jobs.length 12 k 0) gZ) (.int (pg s o).2) (b_ c (pg s o).1 o (.rp 2 s.jobs.length 12 k 0) gZ):=by
 refine oO func150 rfl ?_;have V:=aG (f:=dH) az hk;have e:(o.a-1).toNat=k:=by omega
 have Z:eH s o.a=s.jobs.getD k az:=by unfold eH;rw[e]
 generalize s.jobs.getD k az=j at *;simp only[V,go_sem];refine bp (λh=>?_) (λh=>?_)<;>simp only[h,go_sem]<;>(try simp only[Gh]at h)
 .simp only[pg,h,gJ,Z,e,go_sem,sD]
 .refine dz [0,1,2] (lS c s o (.rp 2 s.jobs.length 12 k 0) gZ o.a 0 rfl rfl (by omega) (by omega) D hj) rfl ?_ (by decide) ?_ ?_ (by simp) ?_<;>simp only[ay,aB,go_sem,b_]
  simp only[pg,h,gJ,Z,e,go_sem,sD]
def Qo(s:aa)(o:cr)(k:Nat)(hk:k<s.jobs.length)(ha:o.a=k+1)(D:s.nodes.length<=1000)(hj:s.jobs.length<=1000):aS G 151 [.ptr 0 0] (b_ c s o (.rp 2 s.jobs.length 12 k 0) gZ) (.int (uo s o).2) (b_ c (uo s o).1 o (.rp 2 s.jobs.length 12 k 0) gZ):=by
 refine oO func151 rfl ?_;have V:=aG (f:=dH) az hk;have e:(o.a-1).toNat=k:=by omega
 have Z:eH s o.a=s.jobs.getD k az:=by unfold eH;rw[e]
 generalize s.jobs.getD k az=j at *;refine dz [0,1,2] (HD c s o k hk ha) rfl ?_ (by decide) ?_ ?_ (by simp) ?_<;>simp only[ay,aB,go_sem,b_]
 simp only[Z];cases h:vQ j with
 |false=>simp only[go_sem];simp only[uo,h,gJ,Z,e,go_sem,sD]
 |true=>
  simp only[go_sem];refine dz [0,1,2] (lS c s o (.rp 2 s.jobs.length 12 k 0) gZ o.a 4 rfl rfl (by omega) (by omega) D hj) rfl ?_ (by decide) ?_ ?_ (by simp) ?_<;>simp only[ay,aB,go_sem,b_]
  simp only[uo,h,gJ,Z,e,go_sem,sD]
def OD(s:aa)(o:cr)(k:Nat)(hk:k<s.jobs.length)(ha:o.a=k+1):aS G 146 [.ptr 0 0] (b_ c s o (.rp 2 s.jobs.length 12 k 0) gZ) (.int (oP s o).2) (b_ c (oP s o).1 o (.rp 2 s.jobs.length 12 k 0) gZ):=by
 refine oO func146 rfl ?_;have V:=aG (f:=dH) az hk;have e:(o.a-1).toNat=k:=by omega
 have Z:eH s o.a=s.jobs.getD k az:=by unfold eH;rw[e]
 generalize s.jobs.getD k az=j at *;simp only[V,go_sem];refine bp (λh=>?_) (λh=>?_)<;>simp only[h,go_sem]<;>(try simp only[Gh]at h)
 .simp only[oP,h,gJ,Z,e,go_sem,sD]
 .simp only[V,hk,getElem?_set_self,length_set,go_sem];refine aD rfl ?_;simp only[oP,h,gJ,Z,e,go_sem,sD]
def OO(s:aa)(o:cr)(k:Nat)(hk:k<s.jobs.length)(ha:o.a=k+1):aS G 149 [.ptr 0 0] (b_ c s o (.rp 2 s.jobs.length 12 k 0) gZ) (.int (kR s o).2) (b_ c (kR s o).1 o (.rp 2 s.jobs.length 12 k 0) gZ):=by
 refine oO func149 rfl ?_;have V:=aG (f:=dH) az hk;have e:(o.a-1).toNat=k:=by omega
 have Z:eH s o.a=s.jobs.getD k az:=by unfold eH;rw[e]
 generalize s.jobs.getD k az=j at *;refine dz [0,1,2] (HD c s o k hk ha) rfl ?_ (by decide) ?_ ?_ (by simp) ?_<;>simp only[ay,aB,go_sem,b_]
 simp only[Z];cases h:vQ j with
 |false=>simp only[go_sem];simp only[kR,h,gJ,Z,e,go_sem,sD]
 |true=>
  simp only[V,go_sem];refine iV (λU=>?_) (λU=>?_)<;>simp only[U,go_sem]<;>(try simp only[Gh]at U)
  .simp only[V,go_sem];rw[U];refine bp (λh2=>?_) (λh2=>?_)<;>simp only[h2,go_sem]<;>(try simp only[Gh]at h2)
   .simp only[kR,h,U,h2,gJ,Z,e,go_sem,sD]
   .simp only[V,go_sem];refine aD rfl ?_;simp only[kR,h,U,h2,gJ,Z,e,go_sem,sD]
  .simp only[kR,h,U,gJ,Z,e,go_sem,sD]
def L0(s:aa)(o:cr)(k:Nat)(hk:k<s.jobs.length)(ha:o.a=k+1)(hj:s.jobs.length<=1000):aS G 148 [.ptr 0 0] (b_ c s o (.rp 2 s.jobs.length 12 k 0) gZ) (.int (nP c s o).2) (b_ c (nP c s o).1 o (.rp 2 s.jobs.length 12 k 0) gZ):=by
 refine oO func148 rfl ?_;have V:=aG (f:=dH) az hk;have e:(o.a-1).toNat=k:=by omega
 have Z:eH s o.a=s.jobs.getD k az:=by unfold eH;rw[e]
 generalize s.jobs.getD k az=j at *;simp only[V,go_sem];refine bp (λh=>?_) (λh=>?_)<;>simp only[h,go_sem]<;>(try simp only[Gh]at h)
 .simp only[nP,h,gJ,Z,e,go_sem,sD]
 .simp only[V,go_sem];refine xE [1,2] (vh s j.queue (by omega)) rfl (by simp[ay,aB,bz,an,take_of_length_le,go_sem]) (by simp[an]) rfl rfl ?_;simp only[go_sem];refine bp (λh2=>?_) (λh2=>?_)<;>simp only[h2,go_sem]<;>(try simp only[Gh]at h2)
  .simp only[nP,h,h2,ge_iff_le,gJ,Z,e,go_sem,sD]
  .simp only[V,hk,getElem?_set_self,length_set,go_sem];refine aD rfl ?_;simp only[nP,h,h2,ge_iff_le,gJ,Z,e,go_sem,sD]
def UD(s:aa)(o:cr)(i:Nat)(hi:i<s.nodes.length)(ha:o.a=i)(D:s.nodes.length<=1000)(hj:s.jobs.length<=1000)(T:0<=(dm s o.a).aM/\(dm s o.a).aM<=s.jobs.length) :
  aS G 143 [.ptr 0 0] (b_ c s o gZ (.rp 1 s.nodes.length 5 i 0)) (.int (sW s o).2) (b_ c (sW s o).1 o gZ (.rp 1 s.nodes.length 5 i 0)):=by
 refine oO func143 rfl ?_;have V:=aG (f:=cv) aq hi;have e:o.a.toNat=i:=by omega
 have w:dm s o.a=s.nodes.getD i aq:=by unfold dm;rw[e]
 generalize s.nodes.getD i aq=n at *;rw[w]at T;cases y:n.up with
 |false=>simp only[V,y,go_sem];simp only[sW,y,lP,w,e,go_sem,sD]
 |true=>
  simp only[V,y,go_sem];refine bp (λh=>?_) (λh=>?_)<;>simp only[h,go_sem]<;>(try simp only[Gh]at h)
  .simp only[V,go_sem];refine dz [0,1,2] (lS c s o gZ (.rp 1 s.nodes.length 5 i 0) n.aM 0 rfl rfl (by omega) (by omega) D hj) rfl ?_ (by decide) ?_ ?_ (by simp) ?_<;>simp only[ay,aB,go_sem,b_]
   have v:((eA s n.aM 0).nodes.map cv)[i]? = some (cv (dm (eA s n.aM 0) o.a)):=by unfold dm;rw[e];exact aG aq (by simp[eA];exact hi)
   have Z:(eA s n.aM 0).nodes.length=s.nodes.length:=by simp[eA]
   have A:i<(eA s n.aM 0).nodes.length:=by omega
   generalize H:dm (eA s n.aM 0) o.a=m at *;simp only[v,Z,hi,getElem?_set_self,length_set,go_sem];refine aD rfl ?_;simp only[sW,y,h,H,Z,lP,w,e,go_sem,sD]
  .simp only[V,hi,getElem?_set_self,length_set,go_sem];refine aD rfl ?_;simp only[sW,y,h,lP,w,e,go_sem,sD]
end
section
variable(c:av)
def aeU:Nat×C×List RV:=(92,
(.seq (.mj [qo 2 (.mv (qk 0))])
 (.seq (.block 0 (.seq (.mK [qm 4 0,
 qd 5 (.kL (.t 4)) [0],
 qd 6 (.B0 15 (.t 5)) [1,0],
 qd 7 (.B0 2 (.t 6)) [2,1,0],
 qd 8 (.ld1 (.t 7)) [3,2,1,0],
 qm 9 0,
 qd 10 (.kL (.t 9)) [5],
 qd 11 (.B0 9 (.t 10)) [6,5],
 qd 12 (.B0 0 (.t 11)) [7,6,5],
 qd 13 (.ld1 (.t 12)) [8,7,6,5],
 qd 14 (.len (.t 13)) [9,8,7,6,5],
 qd 15 (.bin .geq (.t 8) (.t 14)) [4,3,2,1,0,10,9,8,7,6,5],
 qd 3 (.mv (.t 15)) [11,4,3,2,1,0,10,9,8,7,6,5]])
 (.cond (.t 3) (.seq (.mj [qo 2 (.mv (qk 4))])
 .ret)
 (.seq (.mj [qm 17 0,
 qo 18 (.kL (.t 17)),
 qo 19 (.B0 22 (.t 18)),
 qo 20 (.ld1 (.t 19)),
 qo 21 (.kL (.t 20)),
 qo 22 (.B0 6 (.t 21)),
 qo 23 (.ld1 (.t 22)),
 qo 24 (.bin .neq (.t 23) (qk 2)),
 qm 16 24])
 (.cond (.t 16) (.seq (.mj [qo 2 (.mv (qk 5))])
 .ret)
 (.seq (.mK [qm 26 0,
 qd 27 (.kL (.t 26)) [0],
 qd 28 (.B0 9 (.t 27)) [1,0],
 qd 29 (.B0 0 (.t 28)) [2,1,0],
 qd 30 (.ld1 (.t 29)) [3,2,1,0],
 qm 31 0,
 qd 32 (.kL (.t 31)) [5],
 qd 33 (.B0 15 (.t 32)) [6,5],
 qd 34 (.B0 2 (.t 33)) [7,6,5],
 qd 35 (.ld1 (.t 34)) [8,7,6,5],
 qd 36 (.BU 5 (.t 30) (.t 35)) [4,3,2,1,0,9,8,7,6,5],
 qd 37 (.B0 4 (.t 36)) [10,4,3,2,1,0,9,8,7,6,5],
 qd 38 (.ld1 (.t 37)) [11,10,4,3,2,1,0,9,8,7,6,5],
 qm 39 0,
 qd 40 (.kL (.t 39)) [13],
 qd 41 (.B0 15 (.t 40)) [14,13],
 qd 42 (.B0 1 (.t 41)) [15,14,13],
 qd 43 (.ld1 (.t 42)) [16,15,14,13],
 qd 44 (.bin .neq (.t 38) (.t 43)) [12,11,10,4,3,2,1,0,9,8,7,6,5,17,16,15,14,13],
 qd 45 (.mv (.t 44)) [18,12,11,10,4,3,2,1,0,9,8,7,6,5,17,16,15,14,13],
 qe 46 (.mv (.t 0)) 45 false [19,18,12,11,10,4,3,2,1,0,9,8,7,6,5,17,16,15,14,13],
 qe 47 (.kL (.t 46)) 45 false [20,19,18,12,11,10,4,3,2,1,0,9,8,7,6,5,17,16,15,14,13],
 qe 48 (.B0 22 (.t 47)) 45 false [21,20,19,18,12,11,10,4,3,2,1,0,9,8,7,6,5,17,16,15,14,13],
 qe 49 (.ld1 (.t 48)) 45 false [22,21,20,19,18,12,11,10,4,3,2,1,0,9,8,7,6,5,17,16,15,14,13],
 qe 50 (.kL (.t 49)) 45 false [23,22,21,20,19,18,12,11,10,4,3,2,1,0,9,8,7,6,5,17,16,15,14,13],
 qe 51 (.B0 8 (.t 50)) 45 false [24,23,22,21,20,19,18,12,11,10,4,3,2,1,0,9,8,7,6,5,17,16,15,14,13],
 qe 52 (.ld1 (.t 51)) 45 false [25,24,23,22,21,20,19,18,12,11,10,4,3,2,1,0,9,8,7,6,5,17,16,15,14,13],
 qe 53 (.cvt .u64 (.t 52)) 45 false [26,25,24,23,22,21,20,19,18,12,11,10,4,3,2,1,0,9,8,7,6,5,17,16,15,14,13],
 qe 54 (.call (.f 191) [(.t 53)]) 45 false [27,26,25,24,23,22,21,20,19,18,12,11,10,4,3,2,1,0,9,8,7,6,5,17,16,15,14,13],
 qe 55 (.mv (.t 0)) 45 false [19,18,12,11,10,4,3,2,1,0,9,8,7,6,5,17,16,15,14,13],
 qe 56 (.kL (.t 55)) 45 false [29,19,18,12,11,10,4,3,2,1,0,9,8,7,6,5,17,16,15,14,13],
 qe 57 (.B0 22 (.t 56)) 45 false [30,29,19,18,12,11,10,4,3,2,1,0,9,8,7,6,5,17,16,15,14,13],
 qe 58 (.ld1 (.t 57)) 45 false [31,30,29,19,18,12,11,10,4,3,2,1,0,9,8,7,6,5,17,16,15,14,13],
 qe 59 (.kL (.t 58)) 45 false [32,31,30,29,19,18,12,11,10,4,3,2,1,0,9,8,7,6,5,17,16,15,14,13],
 qe 60 (.B0 2 (.t 59)) 45 false [33,32,31,30,29,19,18,12,11,10,4,3,2,1,0,9,8,7,6,5,17,16,15,14,13],
 qe 61 (.ld1 (.t 60)) 45 false [34,33,32,31,30,29,19,18,12,11,10,4,3,2,1,0,9,8,7,6,5,17,16,15,14,13],
 qe 62 (.bin .leq (.t 54) (.t 61)) 45 false [28,27,26,25,24,23,22,21,20,19,18,12,11,10,4,3,2,1,0,9,8,7,6,5,17,16,15,14,13,35,34,33,32,31,30,29],
 qd 63 (.pick (.t 45) qt (.t 62)) [19,18,12,11,10,4,3,2,1,0,9,8,7,6,5,17,16,15,14,13,36,28,27,26,25,24,23,22,21,20,35,34,33,32,31,30,29],
 qd 25 (.mv (.t 63)) [37,19,18,12,11,10,4,3,2,1,0,9,8,7,6,5,17,16,15,14,13,36,28,27,26,25,24,23,22,21,20,35,34,33,32,31,30,29]])
 (.cond (.t 25) (.seq (.mj [qo 2 (.mv (qk 8))])
 .ret)
 .skip)))))))
 (.seq (.mK [qm 64 0,
 qd 65 (.kL (.t 64)) [0],
 qd 66 (.B0 22 (.t 65)) [1,0],
 qd 67 (.ld1 (.t 66)) [2,1,0],
 qd 68 (.kL (.t 67)) [3,2,1,0],
 qd 69 (.B0 8 (.t 68)) [4,3,2,1,0],
 qd 70 (.ld1 (.t 69)) [5,4,3,2,1,0],
 qm 71 0,
 qd 72 (.kL (.t 71)) [7],
 qd 73 (.B0 15 (.t 72)) [8,7],
 qd 74 (.B0 2 (.t 73)) [9,8,7],
 qd 75 (.ld1 (.t 74)) [10,9,8,7],
 qd 76 (.bin .shl (qk 1) (.t 75)) [11,10,9,8,7],
 qd 77 (.bin .andNot (.t 70) (.t 76)) [6,5,4,3,2,1,0,12,11,10,9,8,7],
 qd 78 (.kL (.t 67)) [3,2,1,0,4,5,6,7,8,9,10,11,12,13],
 qd 79 (.B0 8 (.t 78)) [14,3,2,1,0,4,5,6,7,8,9,10,11,12,13],
 ql (.st 1 (.t 79) (.t 77)) [15,14,3,2,1,0,4,5,6,7,8,9,10,11,12,13]])
 (.seq (.mK [qm 80 0,
 qd 81 (.kL (.t 80)) [0],
 qd 82 (.B0 9 (.t 81)) [1,0],
 qd 83 (.B0 0 (.t 82)) [2,1,0],
 qd 84 (.ld1 (.t 83)) [3,2,1,0],
 qm 85 0,
 qd 86 (.kL (.t 85)) [5],
 qd 87 (.B0 15 (.t 86)) [6,5],
 qd 88 (.B0 2 (.t 87)) [7,6,5],
 qd 89 (.ld1 (.t 88)) [8,7,6,5],
 qd 90 (.BU 5 (.t 84) (.t 89)) [4,3,2,1,0,9,8,7,6,5],
 qd 91 (.B0 4 (.t 90)) [10,4,3,2,1,0,9,8,7,6,5],
 ql (.st 1 (.t 91) (qk 0)) [11,10,4,3,2,1,0,9,8,7,6,5]])
 (.seq (.mj [qo 2 (.mv (qk 0))])
 .ret))))),
[(.t 2)])
def aeF:bM prog f156=some aeU:=by kernel_rfl
def ID(c:av)(s:aa)(o:cr)(k0:Nat)(j':bT)(k:Nat):St:=⟨[(0,.ptr 0 0),(73,.int s.nodes.length),(74,.int k)],
 [some (.box 179 [.int c.nodes,.int c.bA,.int c.cF,.int c.gQ,.int c.bD,.int c.ej,.int c.deadline,.int c.room,.int c.fT,
  .sl 1 s.nodes.length 5 0 s.nodes.length,.sl 2 s.jobs.length 12 0 s.jobs.length,.int s.goal,.int s.prior,.int s.mode,.int s.term,
  .int o.kind,.int o.a,.int o.b,.int o.c,.int o.d,.int o.e,.int o.f,.rp 2 s.jobs.length 12 k0 0,gZ]),
  some (.dat 92 5 ((iW (iz o.b o.a) s.nodes k).map cv)),some (.dat 54 12 ((s.jobs.set k0 j').map dH))]⟩
def TQ(s:aa)(o:cr)(k:Nat)(hk:k<s.jobs.length)(ha:o.a=k+1)(D:s.nodes.length<=6)(hj:s.jobs.length<=1000)(m:0<=(eH s o.a).inc) :
  aS G 145 [.ptr 0 0] (b_ c s o (.rp 2 s.jobs.length 12 k 0) gZ) (.int (pP s o).2) (b_ c (pP s o).1 o (.rp 2 s.jobs.length 12 k 0) gZ):=by
 refine oO func145 rfl ?_;have V:=aG (f:=dH) az hk;have e:(o.a-1).toNat=k:=by omega
 have Z:eH s o.a=s.jobs.getD k az:=by unfold eH;rw[e]
 generalize s.jobs.getD k az=j at *;rw[Z]at m;simp only[V,go_sem];refine bp (λh=>?_) (λh=>?_)<;>simp only[h,go_sem]<;>(try simp only[Gh]at h)
 .simp only[pP,h,gJ,Z,e,go_sem,sD]
 .simp only[V,go_sem];refine xE [1,2] (Qb s j o.b 189 nN D IV) rfl (by simp[ay,aB,bz,an,take_of_length_le,go_sem]) (by simp[an]) rfl rfl ?_;simp only[go_sem];have fin:(oE s.nodes j o.b nN=false\/1000000<=j.inc)->pP s o=(s,8):=λX=>by
   simp only[pP,Z,h,X,ne_eq,not_true,if_false,if_true]
  cases A:oE s.nodes j o.b nN with
  |false=>simp only[go_sem,fin (.inl A)]
  |true=>
   simp only[V,go_sem];refine bp (λhi=>?_) (λhi=>?_)<;>simp only[hi,go_sem]<;>(try simp only[Gh]at hi)
   .simp only[go_sem,fin (.inr hi)]
   .have S:IntKind.i64.wrap (j.inc+1)=j.inc+1:=aH (by omega) (by omega);have r:pP s o=({ gJ s o.a { j with phase:=1,inc:=j.inc+1,nodes:=o.b }with nodes:=s.nodes.mapIdx (iz o.b o.a) },0):=by
     unfold pP;rw[Z,if_neg (by simpa using h),if_neg (by simp[A];omega)]
    simp only[V,hk,getElem?_set_self,length_set,set_set,go_sem];refine aD rfl ?_;simp only[V,hk,S,getElem?_set_self,length_set,set_set,go_sem];refine aQ [0,73,74] [] (λq:Nat=>q<=s.nodes.length) (λq=>s.nodes.length-q) (ID c s o k { j with phase:=1,inc:=j.inc+1,nodes:=o.b }) 0 ?_ (Nat.zero_le _) (λq E=>?_)
    .simp only[ID,AI,Int.natCast_zero,gJ,e,map_set,go_sem]
    simp only[ID,gJ,length_set,go_sem];refine bp (λh=>?_) (λh=>?_)
    .have h:=eV h;have v:((iW (iz o.b o.a) s.nodes q).map cv)[q]? = some (cv s.nodes[q]):=by rw[getElem?_map,G7 _ _ h];rfl
     simp only[Mj o.b q (by omega),go_sem];cases T:hasB o.b q with
     |true=>
      have hs:((iW (iz o.b o.a) s.nodes q).map cv).set q (cv { s.nodes[q]with aM:=o.a })=(iW (iz o.b o.a) s.nodes (q+1)).map cv:=by rw[<- map_set,xR _ _ h (by simp only[iz,T,if_true])]
      simp only[cv]at hs;simp only[h,v,qi,go_sem];refine dQ ?_;refine aY (q+1) ?_ ?_ (by omega) (by omega)
      .simp only[go_sem]
      .simp only[ID,gJ,length_set,go_sem,wS q,hs]
     |false=>
      have hs:=AJ (iz o.b o.a) s.nodes h (by simp only[iz,T,Bool.false_eq_true,if_false]);simp only[go_sem];refine aY (q+1) ?_ ?_ (by omega) (by omega)
      .simp only[go_sem]
      .simp only[ID,gJ,length_set,go_sem,wS q,hs]
    .obtain rfl:=eW h E;simp only[AK,r,gJ,e,length_mapIdx,length_set,go_sem]
def WO(m b:Nat)(H:m<64)(T:b<6):ig .i64 (m:Int) (2 ^ b)=oB m b:=by
 have:∀m:Nat,m<64->∀b:Nat,b<6->ig .i64 (m:Int) (2 ^ b)=oB m b:=by decide +kernel
 exact this m H b T
def KA(s:aa)(o:cr)(k:Nat)(hk:k<s.jobs.length)(ha:o.a=k+1)(D:s.nodes.length<=6)(hj:s.jobs.length<=1000)(A:0<=o.b)(H:0<=(eH s o.a).nodes/\(eH s o.a).nodes<64) :
  aS G 156 [.ptr 0 0] (b_ c s o (.rp 2 s.jobs.length 12 k 0) gZ) (.int (gT s o).2) (b_ c (gT s o).1 o (.rp 2 s.jobs.length 12 k 0) gZ):=by
 refine eY func156 (by decide) aeF rfl rfl rfl rfl ?_;simp only[aeU,go_sem];have V:=aG (f:=dH) az hk;have e:(o.a-1).toNat=k:=by omega
 have Z:eH s o.a=s.jobs.getD k az:=by unfold eH;rw[e]
 generalize s.jobs.getD k az=j at *;rw[Z]at H;obtain⟨m,t⟩:=eq_ofNat_of_zero_le H.1;have E:u64.wrap (m:Int)=m:=by simp[wrap,IntKind.bits,signed];omega
 obtain⟨b,T⟩:=eq_ofNat_of_zero_le A;rw[T];refine bp (λU=>?_) (λU=>?_)<;>simp only[U,go_sem]<;>(try simp only[Gh]at U)
 .simp only[gT,T,U,ge_iff_le,gJ,Z,e,go_sem,sD]
 .have v:b<s.nodes.length:=by omega
  simp only[V,go_sem];refine bp (λh2=>?_) (λh2=>?_)<;>simp only[h2,go_sem]<;>(try simp only[Gh]at h2)
  .simp only[gT,T,U,h2,ge_iff_le,gJ,Z,e,go_sem,sD]
  .have u:=aG (f:=cv) aq v;have w:dm s o.b=s.nodes.getD b aq:=by unfold dm;rw[T];rfl
   have h:dm s (b:Int)=s.nodes.getD b aq:=rfl;generalize s.nodes.getD b aq=n at *;have x:¬((s.nodes.length:Int)<=b):=by omega
   have fin:(n.aM≠o.a\/many j.nodes<=j.min)->gT s o=(s,8):=λX=>by unfold gT;rw[T,if_neg x,Z,if_neg (by simpa using h2),h,if_pos X]
   simp only[u,v,go_sem];refine iV (λB=>?_) (λB=>?_)<;>simp only[B,go_sem]<;>(try simp only[Gh]at B)
   .have q:n.aM=o.a:=B;simp only[V,t,E,go_sem];refine cc (wk m (by omega)) ?_;simp only[V,go_sem];refine bp (λy=>?_) (λy=>?_)<;>simp only[y,go_sem]<;>(try simp only[Gh]at y)
    .simp only[go_sem,fin (.inr (by rw[t];exact y)),T]
    .have r:gT s o=(lP (gJ s o.a { j with nodes:=oB j.nodes o.b }) o.b { n with aM:=0 },0):=by
      unfold gT;rw[T,if_neg x,Z,if_neg (by simpa using h2),h,if_neg (by rw[t];simp[q];omega)]
     have J:ig .i64 (m:Int) (Df .i64 1 b)=oB m b:=by rw[vN b (by omega),WO m b (by omega) (by omega)]
     simp only[V,t,J,go_sem];refine aD rfl ?_;simp only[u,v,go_sem];refine aD rfl ?_;simp only[r,lP,gJ,t,T,e,map_set,length_set,go_sem]
   .simp only[go_sem,fin (.inl B),T]
end
section
variable(k:Int)(o:cr)
def cO(o:cr):List Int:=[o.a,o.b,o.c,o.d,o.e,o.f]
def sx(m:Nat):List Int->Nat->Bool
 |[],_=>true
 |n::l,i=>q_ n (decide (i<m))&&sx m l (i+1)
def wj:eU o=(decide (1<=o.kind/\o.kind<=21)&&sx (fH o.kind) (cO o) 0):=by unfold eU cO;simp only[sx,Bool.and_true,Bool.and_assoc]
def Ys:List Int:=[0,6,1,1,0,0,0,1,2,2,2,1,2,2,1,1,1,1,1,2,2,0]
def Ga:List ByteArray:=[⟨#[]⟩,⟨#[115,117,98,109,105,116]⟩,⟨#[99,97,110,99,101,108]⟩,⟨#[116,97,114,103,101,116]⟩,⟨#[112,97,117,115,101]⟩,⟨#[114,101,115,117,109,101]⟩,⟨#[97,98,111,114,116]⟩,⟨#[100,111,119,110]⟩,⟨#[117,112]⟩,⟨#[104,111,108,100]⟩,⟨#[115,116,97,114,116]⟩,⟨#[117,110,104,111,108,100]⟩,⟨#[100,114,97,105,110]⟩,⟨#[115,97,118,101,100]⟩,⟨#[101,118,105,99,116]⟩,⟨#[100,111,110,101]⟩,⟨#[99,111,114,100,111,110]⟩,⟨#[117,110,99,111,114,100,111,110]⟩,⟨#[109,111,118,101]⟩,⟨#[109,111,118,101,100]⟩,⟨#[115,104,114,105,110,107]⟩,⟨#[110,101,119,116,101,114,109]⟩]
def Tp:List DV:=Ys.map i64
def BJ:List DV:=Ga.map λs=>.val (.string s)
def ck:tY:=λn=>if n=0 then some Tp else if n=1 then some BJ else none
def vo:ck 0=some Tp:=rfl
def Jr:ck 1=some BJ:=rfl
def Gb(h:1<=k/\k<=21):Tp[k.toNat]? = some (i64 (fH k:Nat)):=by
 have h:k=1\/k=2\/k=3\/k=4\/k=5\/k=6\/k=7\/k=8\/k=9\/k=10\/k=11\/k=12\/k=13\/k=14\/k=15\/k=16\/k=17\/k=18\/k=19\/k=20\/k=21:=by omega
 rcases h with h|h|h|h|h|h|h|h|h|h|h|h|h|h|h|h|h|h|h|h|h<;>subst h<;>rfl
def nameOf(k:Int):ByteArray:=if 1<=k/\k<=21 then Ga.getD k.toNat ⟨#[]⟩else⟨#[]⟩
def WH(h:0<=k/\k<=21):BJ[k.toNat]? = some (.val (.string (nameOf k))):=by
 have h:k=0\/k=1\/k=2\/k=3\/k=4\/k=5\/k=6\/k=7\/k=8\/k=9\/k=10\/k=11\/k=12\/k=13\/k=14\/k=15\/k=16\/k=17\/k=18\/k=19\/k=20\/k=21:=by omega
 rcases h with h|h|h|h|h|h|h|h|h|h|h|h|h|h|h|h|h|h|h|h|h|h<;>subst h<;>rfl
def tA(h:¬(1<=k/\k<=21)):nameOf k=⟨#[]⟩:=by unfold nameOf;rw[if_neg h]
def En(h:1<=k/\k<=21):((nameOf k).toList==(⟨#[]⟩:ByteArray).toList)=false:=by
 have h:k=1\/k=2\/k=3\/k=4\/k=5\/k=6\/k=7\/k=8\/k=9\/k=10\/k=11\/k=12\/k=13\/k=14\/k=15\/k=16\/k=17\/k=18\/k=19\/k=20\/k=21:=by omega
 rcases h with h|h|h|h|h|h|h|h|h|h|h|h|h|h|h|h|h|h|h|h|h<;>subst h<;>decide +kernel
def Ij:aS ck 88 [.int k] [] (.d (.val (.string (nameOf k)))) []:=by
 refine iL func88 ?_;refine dK (λU=>?_) (λU=>?_)<;>simp only[U,go_sem]<;>(try simp only[Gh]at U)
 .refine bp (λh2=>?_) (λh2=>?_)<;>simp only[h2,go_sem]<;>(try simp only[Gh]at h2)
  .rw [tA k (by omega)]
  .have B:0<=k:=by omega
   have y:k.toNat<22:=by omega
   simp only[Jr,B,y,Nat.mul_one,WH k (by omega),go_sem]
 .rw [tA k (by omega)]
def MO:aS G 136 [qD o] [] (.agg ((cO o).map LV.int)) []:=by refine iL func136 ?_;simp only[cO,go_sem]
def SH(o:cr)(k:Nat):St:=⟨[(1,.ptr 0 0),(10,.agg ((cO o).map LV.int)),(11,.int k)],[some (.box 46 [.int o.kind,.int o.a,.int o.b,.int o.c,.int o.d,.int o.e,.int o.f])]⟩
def S8(n:Int)(k m:Nat):q_ n (decide (k<m)) = !(decide (n<0)||decide (n>1000000)||(decide ((k:Int)>=(m:Int))&&(n !=0))):=by
 unfold q_;rw[Bool.eq_iff_iff];by_cases y:n=0
 .subst y;simp
 .have e:(n !=0)=true:=by simpa using y
  simp only[e,y,Bool.and_eq_true,Bool.or_eq_true,decide_eq_true_eq,Bool.not_eq_true',Bool.or_eq_false_iff,Bool.and_eq_false_iff,decide_eq_false_iff_not,decide_false,Bool.or_false,Bool.and_true];omega
def qC:aS ck 90 [qD o] [] (.bool (eU o)) []:=by
 refine iL func90 ?_;rw[wj];refine a_ (Ij o.kind) ?_;by_cases hk:1<=o.kind/\o.kind<=21
 .simp only[En _ hk,go_sem];refine jB (MO o) rfl rfl rfl rfl ?_;simp only[go_sem,hk];generalize E:sx (fH o.kind) (cO o) 0=r;have Z:(cO o).length=6:=rfl;have v:0<=o.kind:=by omega
  have w:o.kind.toNat<22:=by omega
  refine aQ [1,10,11] [] (λk:Nat=>k<=6/\sx (fH o.kind) ((cO o).drop k) k=r) (λk=>6-k) (SH o) 0 ?_ ⟨by omega,E⟩ ?_
  .simp only[SH,go_sem,Int.natCast_zero]
  rintro k ⟨S,A⟩;simp only[SH,go_sem];refine bp (λh=>?_) (λh=>?_)<;>simp only[h,go_sem]<;>(try simp only[Gh]at h)
  .have u:k<(cO o).length:=by omega
   have e:k<6:=by omega
   rw[drop_eq_getElem_cons u,sx,S8]at A;have V:((cO o).map LV.int)[k]? = some (LV.int (cO o)[k]):=get_map u;simp only[V,e,go_sem];generalize(cO o)[k]=n at *;refine dK (λU=>?_) (λU=>?_)<;>simp only[U,go_sem]<;>(try simp only[Gh]at U)
   .have x:decide (n<0)=false:=by simp;omega
    refine dK (λh2=>?_) (λh2=>?_)<;>simp only[h2,go_sem]<;>(try simp only[Gh]at h2)
    .have b:decide (n>1000000)=false:=by simp;omega
     simp only[vo,v,w,Gb _ hk,Nat.mul_one,go_sem];refine dK (λB=>?_) (λB=>?_)<;>simp only[B,go_sem]<;>(try simp only[Gh]at B)
     .have q:decide ((k:Int)>=(fH o.kind:Int))=true:=by simpa using B
      cases y:(n !=0)with
      |true=>rw[x,b,q,y]at A;simp only[go_sem]at A;simp only[go_sem,<- A]
      |false=>
       rw[x,b,q,y]at A;simp only[go_sem]at A;simp only[go_sem];refine aY (k+1) ?_ ?_ ⟨by omega,A⟩ (by omega)
       .simp only[go_sem];rfl
       .simp only[SH,go_sem,wS k]
     .have q:decide ((k:Int)>=(fH o.kind:Int))=false:=by simpa using B
      rw[x,b,q]at A;simp only[go_sem]at A;refine aY (k+1) ?_ ?_ ⟨by omega,A⟩ (by omega)
      .simp only[go_sem];rfl
      .simp only[SH,go_sem,wS k]
    .have b:decide (n>1000000)=true:=by simpa using h2
     rw[x,b]at A;simp only[go_sem]at A;simp only[go_sem,<- A]
   .have x:decide (n<0)=true:=by simpa using U
    rw[x]at A;simp only[go_sem]at A;simp only[go_sem,<- A]
  .obtain rfl:k=6:=by omega
   simp only[cO,drop_succ_cons,drop_zero,sx]at A;simp only[go_sem,<- A]
 .simp only[tA _ hk,hk,go_sem]
def iZ(f:Option Nat)(j n:Bool):List LV:=[match f with|some k=>.d (.fn (.func k) [] [])|none=>.d (.val .nilFunc),.bool j,.bool n]
def yJ:List LV:=iZ none false false++iZ (some 137) false false++iZ (some 138) true false++iZ (some 139) false false++iZ (some 140) false false++iZ (some 141) false false++iZ (some 142) false false
 ++iZ (some 143) false true++iZ (some 144) false true++iZ (some 145) true false++iZ (some 146) true false++iZ (some 147) true false++iZ (some 148) true false++iZ (some 149) true false
 ++iZ (some 150) true false++iZ (some 151) true false++iZ (some 152) false true++iZ (some 153) false true++iZ (some 154) false true++iZ (some 155) false true++iZ (some 156) true false++iZ (some 157) false false
def Qr:aS G 91 [] [] (.agg yJ) []:=by refine iL func91 ?_;rfl
end
section
variable{c:av}{o:cr}
def sZ{s:aa}(hr:jE c s=true)(h:eU o=true)(U:Li o.kind=false)(h2:BC o.kind=false):aW c s o=bW c s o:=by unfold aW yO;rw[if_neg (by simp[hr]),if_neg (by simp[h]),if_neg (by simp[U]),if_neg (by simp[h2])]
def NI{s:aa}(hr:jE c s=true)(h:eU o=true)(U:Li o.kind=true)(h2:BC o.kind=false):aW c s o=if o.a<1\/(s.jobs.length:Int)<o.a then(s,4)else bW c s o:=by
 unfold aW yO;rw[if_neg (by simp[hr]),if_neg (by simp[h])];by_cases E:o.a<1\/(s.jobs.length:Int)<o.a
 .rw [if_pos ⟨U,E⟩,if_pos E]
 .rw [if_neg (λh=>E h.2),if_neg (by simp[h2]),if_neg E]
def UO{s:aa}(hr:jE c s=true)(h:eU o=true)(U:Li o.kind=false)(h2:BC o.kind=true):aW c s o=if(s.nodes.length:Int)<=o.a then(s,4)else bW c s o:=by
 unfold aW yO;rw[if_neg (by simp[hr]),if_neg (by simp[h]),if_neg (by simp[U])];by_cases E:(s.nodes.length:Int)<=o.a
 .rw [if_pos ⟨h2,E⟩,if_pos E]
 .rw [if_neg (λh=>E h.2),if_neg E]
def tI(s:aa)(p:aa×Int):Prop:=p.2≠0->p.1=s
def XM{s:aa}{P:Prop}[Decidable P]{a b:aa×Int}(U:tI s a)(h2:tI s b):tI s (if P then a else b):=by
 split
 .exact U
 .exact h2
def Ut(s:aa)(e:Int):tI s (s,e):=λ_=>rfl
def aaB(s t:aa):tI s (t,0):=λh=>absurd rfl h
def Jc(c:av)(s:aa)(o:cr):tI s (bW c s o):=by unfold bW jU lI lD iX sW RD pP oP lC nP kR pg uo mP iK wG nL gT d_;repeat' (first|exact Ut _ _|exact aaB _ _|apply XM)
def ym(h:eU o=true):(1<=o.kind/\o.kind<=21)/\(0<=o.a/\o.a<=1000000)/\(0<=o.b/\o.b<=1000000):=by unfold eU q_ at h;simp only[Bool.and_eq_true,decide_eq_true_eq]at h;exact⟨h.1.1.1.1.1.1,h.1.1.1.1.1.2.1,h.1.1.1.1.2.1⟩
def Qu{s:aa}(O:bU c s)(b:1<=c.bA/\c.bA<=1000)(hk:o.kind=1\/o.kind=3\/o.kind=4\/o.kind=5\/o.kind=6\/o.kind=21):∃f,take 3 (drop (o.kind.toNat*3) yJ)=[.d (.fn (.func f) [] []),.bool false,.bool false]/\aS ck f [.ptr 0 0] (b_ c s o gZ gZ) (.int (bW c s o).2) (b_ c (bW c s o).1 o gZ gZ):=by
 have B:=O.len;have T:=O.jobs;have u:=O.term;rcases hk with hk|hk|hk|hk|hk|hk<;>refine⟨_,by rw[hk];rfl,?_⟩<;>simp only[bW,hk,Int.reduceEq,if_true,if_false]
 .exact Ks c s o b (by omega)
 .exact Kq c s o (by omega) (by omega)
 .exact Pb c s o
 .exact KC c s o
 .exact Rb c s o
 .exact H_ c s o (by omega) u.1
def UE{s:aa}(O:bU c s)(T:0<=o.b)(hk:o.kind=2\/o.kind=9\/o.kind=10\/o.kind=11\/o.kind=12\/o.kind=13\/o.kind=14\/o.kind=15\/o.kind=20){k:Nat}(u:k<s.jobs.length)(ha:o.a=k+1)(Z:eH s o.a=dO s k)(H:0<=(dO s k).nodes/\(dO s k).nodes<64):∃f,take 3 (drop (o.kind.toNat*3) yJ)=[.d (.fn (.func f) [] []),.bool true,.bool false]/\aS ck f [.ptr 0 0] (b_ c s o (.rp 2 s.jobs.length 12 k 0) gZ) (.int (bW c s o).2) (b_ c (bW c s o).1 o (.rp 2 s.jobs.length 12 k 0) gZ):=by
 have B:=O.len;have r:=O.jobs;rcases hk with hk|hk|hk|hk|hk|hk|hk|hk|hk<;>refine⟨_,by rw[hk];rfl,?_⟩<;>simp only[bW,hk,Int.reduceEq,if_true,if_false]
 .exact Mf c s o k u ha (by omega) (by omega)
 .exact TQ c s o k u ha (by omega) (by omega) (by rw[Z];exact(O.num k u).inc.1)
 .exact OD c s o k u ha
 .exact Kh c s o k u ha (by omega) (by omega)
 .exact L0 c s o k u ha (by omega)
 .exact OO c s o k u ha
 .exact Qg c s o k u ha (by omega) (by omega)
 .exact Qo c s o k u ha (by omega) (by omega)
 .exact KA c s o k u ha (by omega) (by omega) T (by rw[Z];exact H)
def Qv{s:aa}(O:bU c s)(hk:o.kind=7\/o.kind=8\/o.kind=16\/o.kind=17\/o.kind=18\/o.kind=19){i:Nat}(n:i<s.nodes.length)(ha:o.a=i)(w:dm s o.a=ei s i):∃f,take 3 (drop (o.kind.toNat*3) yJ)=[.d (.fn (.func f) [] []),.bool false,.bool true]/\aS ck f [.ptr 0 0] (b_ c s o gZ (.rp 1 s.nodes.length 5 i 0)) (.int (bW c s o).2) (b_ c (bW c s o).1 o gZ (.rp 1 s.nodes.length 5 i 0)):=by
 have B:=O.len;have T:=O.jobs;rcases hk with hk|hk|hk|hk|hk|hk<;>refine⟨_,by rw[hk];rfl,?_⟩<;>simp only[bW,hk,Int.reduceEq,if_true,if_false]
 .exact UD c s o i n ha (by omega) (by omega) (by rw[w];exact O.aM i n)
 .exact Zm c s o i n ha
 .exact L6 c s o i n ha
 .exact Fz c s o i n ha
 .exact Tf c s o i n ha
 .exact Pk c s o i n ha
def yM(c:av)(s:aa)(o:cr):aS ck 43 [eD c,aU s,qD o] [] (.cZ [aU (aW c s o).1,.int (aW c s o).2]) []:=by
 refine uW func43 ?_;refine a_ (DZ c s) ?_;cases hr:jE c s with
 |false=>
  have q:aW c s o=(pH,1):=by unfold aW;rw[if_pos hr]
  rw[q];simp only[go_sem];exact dP [] rfl (by simp) (by simp[St.obj,an,aR,St.get,aN,aB,ay,bz,pH,LV.int])
 |true=>
 have O:=(eG c s).1 hr;have B:=O.len;have T:=O.jobs;have b:=(vV hr).xw;simp only[go_sem];refine a_ (qC o) ?_;cases j:eU o with
 |false=>
  have q:aW c s o=(s,1):=by unfold aW yO;rw[if_neg (by simp[hr]),if_pos j]
  rw[q];simp only[go_sem];refine acj (sX s (by omega) (by omega)) ?_;exact dP [4,5] rfl (by simp[St.obj,an]) (by simp[St.obj,an,aR,St.get,aN,aB,ay,bz,LV.int,take_of_length_le])
 |true=>
 have V:=ym j;obtain⟨X,t,H⟩:=V;simp only[go_sem];refine CP (sX s (by omega) (by omega)) ?_;refine dQ ?_;refine cc Qr ?_;have J:=Jc c s o;have D:0<=o.kind/\o.kind.toNat<22:=by omega
 have hkg:(o.kind=1\/o.kind=3\/o.kind=4\/o.kind=5\/o.kind=6\/o.kind=21)\/(o.kind=2\/o.kind=9\/o.kind=10\/o.kind=11\/o.kind=12\/o.kind=13\/o.kind=14\/o.kind=15\/o.kind=20)\/(o.kind=7\/o.kind=8\/o.kind=16\/o.kind=17\/o.kind=18\/o.kind=19):=by omega
 rcases hkg with hk|hk|hk
 .obtain ⟨f,S,K⟩:=Qu O (by omega) hk;have q:aW c s o=bW c s o:=by
   rcases hk with hk|hk|hk|hk|hk|hk<;>exact sZ hr j (by rw[hk];rfl) (by rw[hk];rfl)
  rw[q];simp only[D,S,go_sem];refine dQ ?_;refine dz [6,4,5] K rfl ?_ (by decide) ?_ ?_ (by simp) ?_<;>simp only[ay,aB,go_sem,b_]
  generalize bW c s o=p at *;cases v:(p.2 !=0)with
  |true=>simp only[v,go_sem];refine acj (sX s (by omega) (by omega)) ?_;have hs:p.1=s:=J (by simpa using v);rw[hs];exact dP [8,9] rfl (by simp[St.obj,an]) (by simp[St.obj,an,aR,St.get,aN,aB,ay,bz,LV.int,take_of_length_le])
  |false=>
   have r:p.2=0:=by simpa using v
   simp only[v,go_sem];exact dP [4,5] rfl (by simp[St.obj,an]) (by simp[St.obj,an,aR,St.get,aN,aB,ay,bz,LV.int,take_of_length_le,r])
 .have q:aW c s o=if o.a<1\/(s.jobs.length:Int)<o.a then(s,4)else bW c s o:=by
   rcases hk with hk|hk|hk|hk|hk|hk|hk|hk|hk<;>exact NI hr j (by rw[hk];rfl) (by rw[hk];rfl)
  have S:∃f,take 3 (drop (o.kind.toNat*3) yJ)=[.d (.fn (.func f) [] []),.bool true,.bool false]:=by rcases hk with hk|hk|hk|hk|hk|hk|hk|hk|hk<;>exact⟨_,by rw[hk];rfl⟩
  obtain⟨f,S⟩:=S;rw[q];simp only[D,S,go_sem];refine dQ ?_;by_cases E:o.a<1\/(s.jobs.length:Int)<o.a
  .rw [if_pos E];refine dK (λU=>?_) (λU=>?_)<;>simp only[U,go_sem]<;>(try simp only[Gh]at U)
   .refine bp (λh2=>?_) (λh2=>?_)<;>simp only[h2,go_sem]<;>(try simp only[Gh]at h2)
    .exact dP [4,5] rfl (by simp[St.obj,an]) (by simp[St.obj,an,aR,St.get,aN,aB,ay,bz,LV.int,take_of_length_le])
    .omega
   .exact dP [4,5] rfl (by simp[St.obj,an]) (by simp[St.obj,an,aR,St.get,aN,aB,ay,bz,LV.int,take_of_length_le])
  rw[if_neg E];have A:decide (o.a<1)=false:=by simp;omega
  have e:decide (o.a>(s.jobs.length:Int))=false:=by simp;omega
  have m:IntKind.i64.wrap (o.a-1)=o.a-1:=aH (by omega) (by omega);have y:0<=o.a-1:=by omega
  obtain⟨k,hkq⟩:∃k:Nat,(o.a-1).toNat=k:=⟨_,rfl⟩;have u:k<s.jobs.length:=by omega
  have ac_:o.a=k+1:=by omega
  have Z:eH s o.a=dO s k:=by unfold eH dO;rw[hkq]
  obtain⟨x,h,K⟩:=UE O H.1 hk u ac_ Z ((vV hr).bits u);rw[h]at S;simp only[List.cons.injEq,LV.d.injEq,DV.fn.injEq,Fn.func.injEq,and_true]at S;obtain rfl:=S;simp only[A,e,y,m,hkq,u,go_sem];refine dQ ?_;refine dz [6,4,5] K rfl ?_ (by decide) ?_ ?_ (by simp) ?_<;>simp only[ay,aB,go_sem,b_]
  generalize bW c s o=p at *;cases v:(p.2 !=0)with
  |true=>simp only[v,go_sem];refine acj (sX s (by omega) (by omega)) ?_;have hs:p.1=s:=J (by simpa using v);rw[hs];exact dP [8,9] rfl (by simp[St.obj,an]) (by simp[St.obj,an,aR,St.get,aN,aB,ay,bz,LV.int,take_of_length_le])
  |false=>
   have r:p.2=0:=by simpa using v
   simp only[v,go_sem];exact dP [4,5] rfl (by simp[St.obj,an]) (by simp[St.obj,an,aR,St.get,aN,aB,ay,bz,LV.int,take_of_length_le,r])
 .have q:aW c s o=if(s.nodes.length:Int)<=o.a then(s,4)else bW c s o:=by
   rcases hk with hk|hk|hk|hk|hk|hk<;>exact UO hr j (by rw[hk];rfl) (by rw[hk];rfl)
  have S:∃f,take 3 (drop (o.kind.toNat*3) yJ)=[.d (.fn (.func f) [] []),.bool false,.bool true]:=by rcases hk with hk|hk|hk|hk|hk|hk<;>exact⟨_,by rw[hk];rfl⟩
  obtain⟨f,S⟩:=S;rw[q];simp only[D,S,go_sem];refine dQ ?_;by_cases E:(s.nodes.length:Int)<=o.a
  .rw [if_pos E];have A:decide (o.a>=(s.nodes.length:Int))=true:=by simpa using E
   simp only[A,go_sem];exact dP [4,5] rfl (by simp[St.obj,an]) (by simp[St.obj,an,aR,St.get,aN,aB,ay,bz,LV.int,take_of_length_le])
  rw[if_neg E];have A:decide (o.a>=(s.nodes.length:Int))=false:=by simp;omega
  have y:0<=o.a:=t.1;obtain⟨i,hiq⟩:∃i:Nat,o.a.toNat=i:=⟨_,rfl⟩;have n:i<s.nodes.length:=by omega
  have hia:o.a=i:=by omega
  have w:dm s o.a=ei s i:=by unfold dm ei;rw[hiq]
  obtain⟨x,h,K⟩:=Qv O hk n hia w;rw[h]at S;simp only[List.cons.injEq,LV.d.injEq,DV.fn.injEq,Fn.func.injEq,and_true]at S;obtain rfl:=S;simp only[A,y,hiq,n,go_sem];refine dQ ?_;refine dz [6,4,5] K rfl ?_ (by decide) ?_ ?_ (by simp) ?_<;>simp only[ay,aB,go_sem,b_]
  generalize bW c s o=p at *;cases v:(p.2 !=0)with
  |true=>simp only[v,go_sem];refine acj (sX s (by omega) (by omega)) ?_;have hs:p.1=s:=J (by simpa using v);rw[hs];exact dP [8,9] rfl (by simp[St.obj,an]) (by simp[St.obj,an,aR,St.get,aN,aB,ay,bz,LV.int,take_of_length_le])
  |false=>
   have r:p.2=0:=by simpa using v
   simp only[v,go_sem];exact dP [4,5] rfl (by simp[St.obj,an]) (by simp[St.obj,an,aR,St.get,aN,aB,ay,bz,LV.int,take_of_length_le,r])
end
section
variable(c:av)
def Tj:gq c=decide (1<=c.nodes/\c.nodes<=6/\1<=c.bA/\c.bA<=3/\0<=c.cF/\c.cF<=4/\1<=c.gQ/\c.gQ<=6/\2<=c.bD/\c.bD<=30/\1<=c.ej/\c.ej<=20/\1<=c.deadline/\c.deadline<=60/\0<=c.room/\c.room<=5000/\2000<=c.fT/\c.fT<=40000):=by rw[Bool.eq_iff_iff];simp only[gq,bN,Bool.and_eq_true,decide_eq_true_eq,and_assoc]
def Tk:aS G 23 [eD c] [] (.bool (gq c)) []:=by
 refine iL func23 ?_;rw[Tj];repeat' (first|((first|with_reducible refine BZ (λh=>?_) (λh=>?_)|refine dK (λh=>?_) (λh=>?_))<;>simp only[h,go_sem]<;>(try simp only[Gh]at h))|((first|with_reducible refine mW (λh=>?_) (λh=>?_)|refine bp (λh=>?_) (λh=>?_))<;>simp only[h,go_sem]<;>(try simp only[Gh]at h)))
 all_goals first|(symm;apply decide_eq_false;omega)|(symm;apply decide_eq_true;omega)|(rw[Bool.eq_iff_iff];simp only[decide_eq_true_eq];omega)
def node1:bh:=⟨true,false,false,1,0⟩
def dN(c:av):aa:=if gq c=true then⟨replicate c.nodes.toNat node1,[],1,1,0,0⟩else pH
def WA(c:av)(k:Nat):St:=⟨[(1,.ptr 0 0),(2,.ptr 1 0),(3,.ptr 2 0),(10,.int c.nodes),(11,.int k)],[some (.box 23 [.int c.nodes,.int c.bA,.int c.cF,.int c.gQ,.int c.bD,.int c.ej,.int c.deadline,.int c.room,.int c.fT]),some (.box 34 [.d (.val (.slice none 0 0)),.d (.val (.slice none 0 0)),.int 0,.int 0,.int 0,.int 0]),some (.box 34 [.sl 3 k 5 0 k,.d (.val (.slice none 0 0)),.int 1,.int 1,.int 0,.int 0]),some (.dat 92 5 ((replicate k node1).map cv))]⟩
def F7:aS G 40 [eD c] [] (aU (dN c)) []:=by
 refine uW func40 ?_;refine a_ (wH c) ?_;unfold dN;cases H:gq c with
 |false=>simp only[go_sem];exact dP [] rfl (by simp) (by simp[St.obj,an,aR,St.get,aN,aB,ay,bz,pH,LV.int])
 |true=>
  have K:=qL H;simp only[go_sem];refine aQ [1,2,3,10,11] [.b 2 0 92 5] (λk:Nat=>(k:Int)<=c.nodes) (λk=>(c.nodes-k).toNat) (WA c) 0 ?_ (by omega) (λk hk=>?_)
  .simp only[WA,go_sem,replicate_zero,Int.natCast_zero]
  simp only[WA,go_sem];refine bp (λh=>?_) (λh=>?_)<;>simp only[h,go_sem]<;>(try simp only[Gh]at h)
  .have a:(k+1)*24<=70368744177664:=by omega
   simp only[length_append,length_replicate,a,go_sem];refine aY (k+1) ?_ ?_ (by omega) (by omega)
   .simp only[go_sem]
   .simp only[WA,go_sem,wS k,replicate_succ',map_append];rfl
  .obtain rfl:k=c.nodes.toNat:=by omega
   exact dP [3] rfl (by simp[St.obj,an]) (by simp[St.obj,an,aR,St.get,aN,aB,ay,bz,LV.int,take_of_length_le])
end
section
variable {c:av} {s:aa} {o:cr} (ho:eU o=true)
include ho
end
@[reducible] def stA(s:aa)(a b:Nat):LV:=.agg [.sl a s.nodes.length 5 0 s.nodes.length,.sl b s.jobs.length 12 0 s.jobs.length,.int s.goal,.int s.prior,.int s.mode,.int s.term]
@[reducible] def adZ(s:aa):List ah:=[.dat 92 5 (s.nodes.map cv),.dat 54 12 (s.jobs.map dH)]
def Ta(a b:bh):(a.up==b.up&&(a.cU==b.cU&&(a.bw==b.bw&&(a.version==b.version&&(a.aM==b.aM&&true)))))=decide (a=b):=by rw[Bool.eq_iff_iff];obtain⟨K,T,U,v,q⟩:=a;obtain⟨t,w,Z,O,S⟩:=b;simp
def WT(a b:bT):(a.queue==b.queue&&(a.prio==b.prio&&(a.min==b.min&&(a.max==b.max&&(a.work==b.work&&(a.pin==b.pin&&(a.phase==b.phase&&(a.inc==b.inc&&(a.nodes==b.nodes&&(a.since==b.since&&(a.til==b.til&&(a.epoch==b.epoch&&true))))))))))))=decide (a=b):=by rw[Bool.eq_iff_iff];obtain⟨K,T,U,v,q,y,E,X,H,e,r,x⟩:=a;obtain⟨t,w,Z,O,S,j,k,m,n,h,u,A⟩:=b;simp
def Se(s t:aa):decide (s=t)=(decide (s.goal=t.goal/\s.prior=t.prior/\s.mode=t.mode/\s.term=t.term)&&(decide (s.nodes=t.nodes)&&decide (s.jobs=t.jobs))):=by
 rw[Bool.eq_iff_iff];obtain⟨K,T,U,v,q,y⟩:=s;obtain⟨X,w,Z,O,S,j⟩:=t;simp;constructor
 .rintro ⟨rfl,rfl,rfl,rfl,rfl,rfl⟩;simp
 .rintro ⟨⟨rfl,rfl,rfl,rfl⟩,rfl,rfl⟩;simp
def I9{α:Type}[DecidableEq α](l m:List α)(k:Nat)(z:α)(U:k<l.length)(h2:k<m.length):decide (l.drop k=m.drop k)=(decide (l.getD k z=m.getD k z)&&decide (l.drop (k+1)=m.drop (k+1))):=by rw[drop_cons l k z U,drop_cons m k z h2,Bool.eq_iff_iff];simp
def Ae(s t:aa)(k:Nat):St:=⟨[(2,.ptr 0 0),(3,.ptr 1 0),(5,.int k)],[some (.box 34 [bH s.nodes,qM s.jobs,.int s.goal,.int s.prior,.int s.mode,.int s.term]),some (.box 34 [bH t.nodes,qM t.jobs,.int t.goal,.int t.prior,.int t.mode,.int t.term])]⟩
def Ac(s t:aa)(k:Nat):St:=⟨[(2,.ptr 0 0),(3,.ptr 1 0),(6,.int k)],[some (.box 34 [bH s.nodes,qM s.jobs,.int s.goal,.int s.prior,.int s.mode,.int s.term]),some (.box 34 [bH t.nodes,qM t.jobs,.int t.goal,.int t.prior,.int t.mode,.int t.term])]⟩
def OQ(s t:aa)(D:s.nodes.length<=1000000000000)(hj:s.jobs.length<=1000000000000):aS G 12 [aU s,aU t] [] (.bool (decide (s=t))) []:=by
 refine iL func12 ?_;repeat' (first|((first|with_reducible refine BZ (λh=>?_) (λh=>?_)|refine dK (λh=>?_) (λh=>?_))<;>simp only[h,go_sem]<;>(try simp only[Gh]at h)))
 all_goals try (symm;apply decide_eq_false;intro e;subst e;omega)
 refine bp (λm=>?_) (λm=>?_)<;>simp only[m,go_sem]<;>(try simp only[Gh]at m)
 .symm;apply decide_eq_false;intro e;subst e;omega
 have B:s.nodes.length=t.nodes.length:=by omega
 have T:s.jobs.length=t.jobs.length:=by omega
 rw[Se,dT (s.goal=t.goal/\s.prior=t.prior/\s.mode=t.mode/\s.term=t.term),Bool.true_and];generalize E:(decide (s.nodes=t.nodes)&&decide (s.jobs=t.jobs))=r;refine aQ [2,3,5] [] (λk:Nat=>k<=s.nodes.length/\(decide (s.nodes.drop k=t.nodes.drop k)&&decide (s.jobs=t.jobs))=r) (λk=>s.nodes.length-k) (Ae s t) 0 ?_ ⟨Nat.zero_le _,E⟩ ?_
 .simp only[Ae,go_sem,Int.natCast_zero]
 rintro k ⟨hk,A⟩;simp only[Ae,go_sem];refine bp (λh=>?_) (λh=>?_)
 .have h:=eV h;have h2:k<t.nodes.length:=by omega
  rw[I9 s.nodes t.nodes k aq h h2]at A;have V:=aG (f:=cv) aq h;have v:=aG (f:=cv) aq h2;generalize s.nodes.getD k aq=a at *;generalize t.nodes.getD k aq=b at *;simp only[V,v,go_sem];have K:=Ta a b;simp only[Bool.and_true]at K;simp only[K,go_sem];cases j:decide (a=b)with
  |false=>rw[j]at A;simp only[Bool.false_and]at A;simp only[j,go_sem,<- A]
  |true=>
   rw[j,Bool.true_and]at A;simp only[j,go_sem];refine aY (k+1) ?_ ?_ ⟨by omega,A⟩ (by omega)
   .simp only[go_sem]
   .simp only[Ae,go_sem,wS k]
 .obtain rfl:=eW h hk;clear E hk;rw[drop_length,B,drop_length,decide_eq_true rfl,Bool.true_and]at A;simp only[go_sem];refine aQ [2,3,6] [] (λk:Nat=>k<=s.jobs.length/\decide (s.jobs.drop k=t.jobs.drop k)=r) (λk=>s.jobs.length-k) (Ac s t) 0 ?_ ⟨Nat.zero_le _,A⟩ ?_
  .simp only[Ac,go_sem,Int.natCast_zero]
  clear A;rintro k ⟨hk,A⟩;simp only[Ac,go_sem];refine bp (λh=>?_) (λh=>?_)
  .have h:=eV h;have h2:k<t.jobs.length:=by omega
   rw[I9 s.jobs t.jobs k az h h2]at A;have V:=aG (f:=dH) az h;have v:=aG (f:=dH) az h2;generalize s.jobs.getD k az=a at *;generalize t.jobs.getD k az=b at *;simp only[V,v,go_sem];have n:=WT a b;simp only[Bool.and_true]at n;simp only[n,go_sem];cases j:decide (a=b)with
   |false=>rw[j]at A;simp only[Bool.false_and]at A;simp only[j,go_sem,<- A]
   |true=>
    rw[j,Bool.true_and]at A;simp only[j,go_sem];refine aY (k+1) ?_ ?_ ⟨by omega,A⟩ (by omega)
    .simp only[go_sem]
    .simp only[Ac,go_sem,wS k]
  .obtain rfl:=eW h hk;rw[drop_length,T,drop_length,decide_eq_true rfl]at A;simp only[go_sem,<- A]
section
variable {s:aa} {o:cr}
end
section
variable{a b:Int}(n:Int)
def pR(n i:Nat):hasB (n:Int) i=n.testBit i:=by unfold hasB;rw[Nat.testBit_eq_decide_div_mod_eq];rw[Bool.eq_iff_iff,decide_eq_true_eq,decide_eq_true_eq];rw[show((2:Int) ^ i)=((2 ^ i:Nat):Int)by simp,<- natCast_ediv,show((2:Int))=((2:Nat):Int)from rfl,<- natCast_emod];omega
def gH(n:Int):Prop:=0<=n/\n<64
def gH.nat{n:Int}(h:gH n):∃m:Nat,n=m/\m<64:=by obtain⟨m,rfl⟩:=eq_ofNat_of_zero_le h.1;exact⟨m,rfl,by have:=h.2;omega⟩
def Wn(a b:Nat)(X:a<64)(T:b<64):Ef .i64 (a:Int) (b:Int)=((a||| b:Nat):Int):=by have h:a||| b<2 ^ 6:=Nat.or_lt_two_pow (n:=6) X T;unfold Ef;rw[show IntKind.i64.bits=64 from rfl,BitVec.toNat_or,BitVec.ofInt_natCast,BitVec.ofInt_natCast,BitVec.toNat_ofNat,BitVec.toNat_ofNat,Nat.mod_eq_of_lt (by omega),Nat.mod_eq_of_lt (by omega),vD _ (by omega)]
def Yo(X:gH a)(T:gH b):gH (Ef .i64 a b)/\∀i,hasB (Ef .i64 a b) i=(hasB a i||hasB b i):=by obtain⟨m,rfl,H⟩:=X.nat;obtain⟨n,rfl,D⟩:=T.nat;have h:m||| n<2 ^ 6:=Nat.or_lt_two_pow (n:=6) H D;rw[Wn m n H D];refine⟨⟨by omega,by omega⟩,λi=>?_⟩;rw[pR,pR,pR,Nat.testBit_or]
def UQ:∀a b:Fin 64,ig .i64 (a.val:Int) (b.val:Int)=((a.val&&& (63-b.val):Nat):Int):=by decide +kernel
def aa8:∀b:Fin 64,∀i:Fin 6,(63-b.val).testBit i.val = !b.val.testBit i.val:=by decide +kernel
def QV(X:gH a)(T:gH b):gH (ig .i64 a b)/\∀i,i<6->hasB (ig .i64 a b) i=(hasB a i&&!hasB b i):=by obtain⟨m,rfl,H⟩:=X.nat;obtain⟨n,rfl,D⟩:=T.nat;have e:=UQ ⟨m,H⟩ ⟨n,D⟩;dsimp only at e;rw[e];have h:m&&& (63-n)<=m:=Nat.and_le_left;refine⟨⟨by omega,by omega⟩,λi hi=>?_⟩;have V:=aa8 ⟨n,D⟩ ⟨i,hi⟩;dsimp only at V;rw[pR,pR,pR,Nat.testBit_and,V]
def fJ(f:Nat->Bool):Nat->Int
 |0=>0
 |k+1=>if f k=true then fJ f k+2 ^ k else fJ f k
def abu(k:Nat)(h:k<=6):(2:Int) ^ k<=64/\1<=(2:Int) ^ k:=by
 have:k=0\/k=1\/k=2\/k=3\/k=4\/k=5\/k=6:=by omega
 rcases this with h|h|h|h|h|h|h<;>rw[h]<;>decide
def uQ(f:Nat->Bool):∀k:Nat,0<=fJ f k/\fJ f k<2 ^ k
 |0=>by simp[fJ]
 |k+1=>by
  have:=uQ f k;have O:(2:Int) ^ (k+1)=2 ^ k*2:=Int.pow_succ 2 k;rw[fJ]
  split<;>omega
def BL(f:Nat->Bool)(k:Nat)(h:k<=6):gH (fJ f k):=by have:=uQ f k;have:=abu k h;exact⟨by omega,by omega⟩
def aaO:∀k:Fin 6,∀a:Fin 64,a.val<2 ^ k.val->Ef .i64 (a.val:Int) (2 ^ k.val)=(a.val:Int)+2 ^ k.val:=by decide +kernel
def Nc(f:Nat->Bool)(k:Nat)(h:k<6):Ef .i64 (fJ f k) (2 ^ k)=fJ f k+2 ^ k:=by
 obtain⟨m,H,Z⟩:=(BL f k (by omega)).nat;have h2:=(uQ f k).2;rw[H]at h2 ⊢;refine aaO ⟨k,h⟩ ⟨m,Z⟩ ?_;show m<2 ^ k;have:(m:Int)<((2 ^ k:Nat):Int):=by simpa using h2
 omega
def To(h:gH n):many (n % 64)=many n:=by rw[emod_eq_of_lt h.1 h.2]
def Ik:0<=many n/\many n<=6:=Er n 6
def Ar(p:Int×Int×Int):Int×Int×Int:=(ig .i64 p.1 (rF .i64 p.1 (-p.1)),p.2.1-1,Ef .i64 p.2.2 (rF .i64 p.1 (-p.1)))
def yx:Nat->Int×Int×Int->Int
 |0,p=>p.2.2
 |f+1,p=>if p.1≠0/\0<p.2.1 then yx f (Ar p)else p.2.2
def Gd(a mx:Int):Nat->Int
 |0=>0
 |k+1=>if hasB a k=true/\many (Gd a mx k)<mx then Gd a mx k+2 ^ k else Gd a mx k
def ZT:∀s:Fin 64,∀m:Fin 7,yx 6 ((s.val:Int),(m.val:Int),0)=Gd (s.val:Int) (m.val:Int) 6:=by decide +kernel
end
def ug(s:aa):Int:=fJ (λi=>nN (s.nodes.getD i aq)) s.nodes.length
def Qw(set v:Int)(i:Nat)(n:bh):Bool:=hasB set i&&n.up&&!n.cU&&!n.bw&&decide (n.version=v)
def gj(s:aa)(set v:Int):Int:=fJ (λi=>Qw set v i (s.nodes.getD i aq)) s.nodes.length
def Om:List Int:=[1,2,3,4,5,6,7,8,9]
def Fv(m:Int):List Int:=m::Om.filter (λv=>decide (v≠m))
def okV(s:aa)(j:bT)(set v:Int):Bool:=!(decide (j.pin≠0)&&decide (j.pin≠v))&&decide (j.min<=many (gj s set v))
def chs(s:aa)(j:bT)(set:Int):List Int:=((Fv (gA s)).filter (okV s j set)).map (gj s set)
def UI(mx n:Int):Int:=if mx<many n then mx else many n
def vL(mx:Int)(p:Int×Int)(n:Int):Int×Int:=if p.2<UI mx n then(n,UI mx n)else p
def p_(s:aa)(j:bT)(set:Int):Int×Int:=(chs s j set).foldl (vL j.max) (0,0)
def kK(s:aa)(j:bT)(set:Int):Int×Bool:=(yx 6 ((p_ s j set).1,j.max,0),decide (0<(p_ s j set).2))
section
variable (K:Int->Int) (m:Int)
end
def vX(s:aa)(set v:Int)(h:s.nodes.length<=6):gH (gj s set v):=BL _ _ h
def WK{a m:Int}(X:gH a)(H:0<=m/\m<=6):yx 6 (a,m,0)=Gd a m 6:=by obtain⟨n,rfl,D⟩:=X.nat;obtain⟨k,rfl⟩:=eq_ofNat_of_zero_le H.1;exact ZT ⟨n,D⟩ ⟨k,by omega⟩
def e_(s:aa)(i:Nat):Int:=(s.jobs.getD i az).prio
def qB(s:aa)(i:Nat):Bool:=decide ((s.jobs.getD i az).phase=0)
def GR(s:aa)(i j:Nat):Bool:=decide (e_ s j<e_ s i\/(e_ s i=e_ s j/\i<j))
def qz(s:aa):List Nat:=(List.range s.jobs.length).filter (qB s)
def oA(s:aa):List Nat:=(qz s).mergeSort (λi j=>!GR s j i)
def yQ{s:aa}{i j:Nat} : GR s i j=true↔(e_ s j<e_ s i\/(e_ s i=e_ s j/\i<j)):=by unfold GR;rw[decide_eq_true_eq]
def aaL(s:aa)(i:Nat):GR s i i=false:=by
 cases h:GR s i i with
 |false=>rfl
 |true=>have:=yQ.1 h;omega
def JA{s:aa}{i j k:Nat}(U:GR s i j=true)(h2:GR s j k=true):GR s i k=true:=by have:=yQ.1 U;have:=yQ.1 h2;exact yQ.2 (by omega)
def JB{s:aa}{i j:Nat}(h:i≠j):GR s i j=true\/GR s j i=true:=by
 by_cases U:GR s i j=true
 .exact .inl U
 .refine .inr (yQ.2 ?_);have h2:¬(e_ s j<e_ s i\/(e_ s i=e_ s j/\i<j)):=λh=>U (yQ.2 h)
  omega
def jG{s:aa}{i:Nat} : i∈qz s↔i<s.jobs.length/\qB s i=true:=by unfold qz;rw[mem_filter,mem_range]
def uR(s:aa):(oA s).Perm (qz s):=mergeSort_perm _ _
def Th{s:aa}{i:Nat} : i∈oA s↔i<s.jobs.length/\qB s i=true:=by rw[(uR s).mem_iff,jG]
section
variable{c:av}
def Tl(a b:Int):Int:=if b>a then b else a
def w9(j:bT)(now:Int):Int:=if j.phase=1 then now+j.work else if j.phase=2 then Tl now (j.since+j.work)else if j.phase=3 then Tl now j.til else -1
def XO(s:aa)(aM now:Int):Int:=if aM<1\/(s.jobs.length:Int)<aM then -1 else w9 (s.jobs.getD (aM-1).toNat az) now
def okE(e t:Int):Bool:=decide (0<=e)&&decide (e<=t)
def iP(s:aa)(aM:Int):Bool:=decide (1<=aM/\aM<=(s.jobs.length:Int)/\(s.jobs.getD (aM-1).toNat az).phase=0)
def JT(s:aa)(now t:Int):Nat->Int
 |0=>ug s
 |k+1=>if okE (w9 (dO s k) now) t=true then Ef .i64 (JT s now t k) (dO s k).nodes else JT s now t k
structure Yd(j:bT):Prop where
 work:0<=j.work/\j.work<=1000000
 since:0<=j.since/\j.since<=1000000
 til:0<=j.til/\j.til<=1000000
structure vw(s:aa):Prop where
 nodes:s.nodes.length<=6
 jobs:s.jobs.length<=1000
 ends:∀k,k<s.jobs.length->Yd (dO s k)
 sets:∀k,k<s.jobs.length->gH (dO s k).nodes
 most:∀k,k<s.jobs.length->0<=(dO s k).max/\(dO s k).max<=6
 prio:∀k,k<s.jobs.length->0<=e_ s k/\e_ s k<=1000000
def bU.acT{s:aa}(h:bU c s)(k:Nat)(hk:k<s.jobs.length):gH (dO s k).nodes:=by
 cases O:eT (dO s k).phase with
 |false=>rw[h.idle k hk O];exact⟨by decide,by decide⟩
 |true=>have t:=h.oW k hk O;have Z:=h.len;have:=abu s.nodes.length Z.2;have U:=t.lo;have h2:=t.hi;exact⟨U,by omega⟩
def Nw{s:aa}{k:Nat}(hk:k<s.jobs.length)(now:Int):XO s ((k+1:Nat):Int) now=w9 (dO s k) now:=by unfold XO dO;rw[if_neg (by omega),show(((k+1:Nat):Int)-1).toNat=k by omega]
def Uv{j:bT}(h:Yd j){now:Int}(h0:0<=now/\now<=1000000):-1<=w9 j now/\w9 j now<=2000000:=by
 have U:=h.work;have h2:=h.since;have B:=h.til;unfold w9 Tl;repeat' split
 all_goals omega
def Ml{j:bT}(h:nT c j=true):0<=j.work/\j.work<=1000000:=by unfold nT at h;simp only[Bool.and_eq_true]at h;have:=bf h.1.2;omega
def Fa{j:bT}(h:nT c j=true):(1<=j.min/\j.min<=j.max)/\(1<=j.max/\j.max<=c.nodes)/\(0<=j.prio/\j.prio<=9)/\(0<=j.pin/\j.pin<=9):=by unfold nT at h;simp only[Bool.and_eq_true]at h;exact⟨bf h.1.1.1.2,bf h.1.1.2,bf h.1.1.1.1.2,bf h.2⟩
def bU.adC{s:aa}(h:bU c s)(k:Nat)(hk:k<s.jobs.length):Yd (dO s k):=
 ⟨Ml (h.num k hk).asked,(h.num k hk).since,(h.num k hk).til⟩
def bU.fits{s:aa}(h:bU c s):vw s:=
 ⟨h.len.2,by have:=h.jobs;omega,h.adC,h.acT,λk hk=>by
  have:=(Fa (h.num k hk).asked).2.1;have:=qL h.xw;omega,λk hk=>by
  have:=(Fa (h.num k hk).asked).2.2.1;show 0<=(dO s k).prio/\(dO s k).prio<=1000000;omega⟩
def GK(l:List Int)(e:Int):List Int:=if e∈l then l else l++[e]
def uB(s:aa)(now:Int):Nat->List Int
 |0=>[now]
 |k+1=>if 0<=w9 (dO s k) now then GK (uB s now k) (w9 (dO s k) now)else uB s now k
def uC(s:aa)(now:Int):List Int:=(uB s now s.jobs.length).mergeSort (λx y=>decide (x<=y))
def Ti{l:List Int}{e x:Int} : x∈GK l e↔x∈l\/x=e:=by
 unfold GK;split
 .rename_i h;exact⟨.inl,by rintro(U|rfl);exact U;exact h⟩
 .simp
def Mv{l:List Int}(h:l.Nodup)(e:Int):(GK l e).Nodup:=by
 unfold GK;split
 .exact h
 .rename_i D;rw[nodup_append];exact⟨h,by simp,λa X b T=>by rw[mem_singleton.1 T];rintro rfl;exact D X⟩
def uA(s:aa)(now:Int):∀k,(uB s now k).Nodup
 |0=>by simp[uB]
 |k+1=>by
  unfold uB;split
  .exact Mv (uA s now k) _
  .exact uA s now k
def G8(s:aa)(now:Int):∀k,(uB s now k).length<=k+1
 |0=>by simp[uB]
 |k+1=>by
  have:=G8 s now k;unfold uB GK;split
  .split<;>simp<;>omega
  .omega
def Km(s:aa)(now:Int):(uC s now).length<=s.jobs.length+1:=by unfold uC;rw[length_mergeSort];exact G8 s now _
end
def Lh(s:aa)(aM:Int):bT:=s.jobs.getD (aM-1).toNat az
def Bz(s:aa)(aM:Int):Int×Bool:=if iP s aM=true then kK s (Lh s aM) (ug s)else(0,false)
def qR(s:aa)(j:bT)(now:Int):List Int->Int×Int×Bool
 |[]=>(0,0,false)
 |t::l=>if(kK s j (JT s now t s.jobs.length)).2=true then(t,(kK s j (JT s now t s.jobs.length)).1,true)else qR s j now l
def zT(s:aa)(aM now:Int):Int×Int×Bool:=if iP s aM=true then qR s (Lh s aM) now (uC s now)else(0,0,false)
def rj(s:aa):Int:=(((oA s).getD 0 0+1:Nat):Int)
def zA(s:aa)(aM now:Int):Int×Bool:=
 if iP s aM=false\/rj s=aM then(0,false)
 else if(kK s (Lh s aM) (ig .i64 (ug s) (zT s (rj s) now).2.1)).2=true then((kK s (Lh s aM) (ig .i64 (ug s) (zT s (rj s) now).2.1)).1,true)
 else if(zT s (rj s) now).2.2=false\/(Bz s aM).2=false\/(zT s (rj s) now).1<now+(Lh s aM).work then(0,false)else((Bz s aM).1,true)
def TG(b a:Int->Int×Bool):List Nat->Nat->Int×Int×Bool
 |[],_=>(0,0,false)
 |k::l,0=>if(b ((k+1:Nat):Int)).2=true then(((k+1:Nat):Int),(b ((k+1:Nat):Int)).1,true)else TG b a l 1
 |k::l,i+1=>if(a ((k+1:Nat):Int)).2=true then(((k+1:Nat):Int),(a ((k+1:Nat):Int)).1,true)else TG b a l (i+2)
def s6(s:aa)(now:Int):Int×Int×Bool:=TG (Bz s) (λk=>zA s k now) (oA s) 0
def sr{s:aa}{aM:Int} : iP s aM=true↔∃i:Nat,aM=((i+1:Nat):Int)/\i∈qz s:=by
 unfold iP;rw[decide_eq_true_eq];constructor
 .rintro ⟨U,h2,B⟩;refine⟨(aM-1).toNat,by omega,jG.2 ⟨by omega,?_⟩⟩;unfold qB;rw[decide_eq_true_eq];exact B
 .rintro ⟨i,rfl,hi⟩;obtain⟨U,h2⟩:=jG.1 hi;refine⟨by omega,by omega,?_⟩;rw[show(((i+1:Nat):Int)-1).toNat=i by omega];unfold qB at h2;exact of_decide_eq_true h2
def As(s:aa)(i:Nat):Lh s ((i+1:Nat):Int)=dO s i:=by unfold Lh dO;rw[show(((i+1:Nat):Int)-1).toNat=i by omega]
def ZM{s:aa}{j:bT}(set:Int)(D:s.nodes.length<=6)(H:0<=j.max/\j.max<=6)(T:gH (p_ s j set).1):kK s j set=(Gd (p_ s j set).1 j.max 6,(kK s j set).2):=by unfold kK;rw[WK T H]
def LM{s:aa}(h:s.nodes.length<=6):gH (ug s):=BL _ _ h
def Nt(s:aa)(j:bT)(now:Int)(O:∀set,gH (kK s j set).1):∀l:List Int,gH (qR s j now l).2.1
 |[]=>(⟨by decide,by decide⟩:gH 0)
 |t::l=>by
  unfold qR;split
  .exact O _
  .exact Nt s j now O l
def aeq(s:aa)(aM now:Int)(O:∀j,j∈s.jobs->∀set,gH (kK s j set).1):gH (zT s aM now).2.1:=by
 unfold zT;split
 .rename_i E;obtain⟨i,rfl,hi⟩:=sr.1 E;have X:=(jG.1 hi).1;refine Nt _ _ _ (O _ ?_) _;rw[As];unfold dO;have e:s.jobs.getD i az=s.jobs[i]:=by simp[getD,X]
  rw[e];exact getElem_mem X
 .exact ⟨by decide,by decide⟩
def MH(mx:Int):∀(l:List Int) (p:Int×Int),gH p.1->(∀n∈l,gH n)->gH (l.foldl (vL mx) p).1
 |[],p,h,_=>h
 |n::l,p,h,Z=>MH mx l _ (by
   unfold vL;split
   .exact Z n mem_cons_self
   .exact h) (λm H=>Z m (mem_cons_of_mem _ H))
def Tv(a mx:Int):∀k:Nat,k<=6->0<=Gd a mx k/\Gd a mx k<2 ^ k
 |0,_=>(by decide:(0:Int)<=0/\(0:Int)<2 ^ 0)
 |k+1,hk=>by
  have o:=Tv a mx k (by omega);have h2:(2:Int) ^ (k+1)=2 ^ k*2:=Int.pow_succ 2 k;have:(0:Int)<2 ^ k:=Int.pow_pos (by decide);unfold Gd
  split<;>omega
def We{s:aa}(h:vw s){j:bT}(hj:0<=j.max/\j.max<=6)(set:Int):gH (kK s j set).1:=by have T:gH (p_ s j set).1:=MH _ _ _ ⟨by decide,by decide⟩ (λn D=>by unfold chs at D;obtain⟨v,_,rfl⟩:=mem_map.1 D;exact vX s set v h.nodes);rw[ZM set h.nodes hj T];have:=Tv (p_ s j set).1 j.max 6 (Nat.le_refl _);exact⟨this.1,this.2⟩
def vw.mem{s:aa}(h:vw s){j:bT}(hj:j∈s.jobs):0<=j.max/\j.max<=6:=by obtain⟨k,hk,rfl⟩:=getElem_of_mem hj;have:=h.most k hk;unfold dO at this;rw[show s.jobs.getD k az=s.jobs[k]by simp[getD,hk]]at this;exact this
def vw.aeq{s:aa}(h:vw s)(aM now:Int):gH (zT s aM now).2.1:=Dv.aeq s aM now (λj hj set=>We h (h.mem hj) set)
def Y_{s:aa}(h:vw s)(now t:Int):∀k,k<=s.jobs.length->gH (JT s now t k)
 |0,_=>LM h.nodes
 |k+1,hk=>by
  have o:=Y_ h now t k (by omega);unfold JT;split
  .exact (Yo o (h.sets k (by omega))).1
  .exact o
def fM(s:aa):ah:=.box 34 [bH s.nodes,qM s.jobs,.int s.goal,.int s.prior,.int s.mode,.int s.term]
def Tm{f:Nat->Bool}{k:Nat}{b:Bool}(h:f k=b):fJ f (k+1)=if b=true then fJ f k+2 ^ k else fJ f k:=by rw[<- h];rfl
def SI(s:aa)(k:Nat):St:=⟨[(3,.int (fJ (λi=>nN (s.nodes.getD i aq)) k)),(7,bH s.nodes),(8,.int s.nodes.length),(9,.int k)],[some (fM s)]⟩
def yF(s:aa)(D:s.nodes.length<=6):aS G 280 [aU s] [] (.int (ug s)) []:=by
 refine iL func280 ?_;refine aQ [3,7,8,9] [] (λk:Nat=>k<=s.nodes.length) (λk=>s.nodes.length-k) (SI s) 0 ?_ (Nat.zero_le _) (λk hk=>?_)
 .simp only[SI,fM,go_sem,fJ,Int.natCast_zero]
 simp only[SI,fM,go_sem];by_cases X:k<s.nodes.length
 .have V:=aG (f:=cv) aq X;have H:=Tm (f:=λi=>nN (s.nodes.getD i aq)) (k:=k) (b:=nN (s.nodes.getD k aq)) rfl;have j:=Nc (λi=>nN (s.nodes.getD i aq)) k (by omega);have x:=vN k (by omega);generalize s.nodes.getD k aq=n at V H;simp only[cv]at V;simp only[dT ((k:Int)<(s.nodes.length:Int)),V,go_sem];refine a_ (IV n) ?_;cases A:nN n with
  |true=>
   rw[A,if_pos rfl,<- j]at H;simp only[x,go_sem];refine aY (k+1) ?_ ?_ (by omega) (by omega)
   .simp only[go_sem]
   .simp only[SI,fM,H,wS k,go_sem]
  |false=>
   rw[A,if_neg (by decide)]at H;simp only[go_sem];refine aY (k+1) ?_ ?_ (by omega) (by omega)
   .simp only[go_sem]
   .simp only[SI,fM,H,wS k,go_sem]
 .obtain rfl:k=s.nodes.length:=by omega
  simp only[dF ((s.nodes.length:Int)<(s.nodes.length:Int)),ug,go_sem]
def Sq(s:aa)(set v:Int)(k:Nat):St:=⟨[(1,.int set),(2,.int v),(7,.int (fJ (λi=>Qw set v i (s.nodes.getD i aq)) k)),(11,bH s.nodes),(12,.int s.nodes.length),(13,.int k)],[some (fM s)]⟩
def OY(s:aa)(set v:Int)(D:s.nodes.length<=6):aS G 300 [aU s,.int set,.int v] [] (.int (gj s set v)) []:=by
 refine iL func300 ?_;refine aQ [1,2,7,11,12,13] [] (λk:Nat=>k<=s.nodes.length) (λk=>s.nodes.length-k) (Sq s set v) 0 ?_ (Nat.zero_le _) (λk hk=>?_)
 .simp only[Sq,fM,go_sem,fJ,Int.natCast_zero]
 simp only[Sq,fM,go_sem];by_cases X:k<s.nodes.length
 .have V:=aG (f:=cv) aq X;have H:=Tm (f:=λi=>Qw set v i (s.nodes.getD i aq)) (k:=k) (b:=Qw set v k (s.nodes.getD k aq)) rfl;have j:=Nc (λi=>Qw set v i (s.nodes.getD i aq)) k (by omega);have x:=vN k (by omega);have t:=Mj set k (by omega);generalize s.nodes.getD k aq=n at V H;simp only[cv]at V;have a:Qw set v k n=(hasB set k&&n.up&&!n.cU&&!n.bw&&decide (n.version=v)):=rfl;obtain⟨up,cU,bw,version,aM⟩:=n;dsimp only at V a;simp only[dT ((k:Int)<(s.nodes.length:Int)),V,t,go_sem];have c:Qw set v k ⟨up,cU,bw,version,aM⟩=true->fJ (λi=>Qw set v i (s.nodes.getD i aq)) (k+1)=Ef .i64 (fJ (λi=>Qw set v i (s.nodes.getD i aq)) k) (2 ^ k):=λh=>by rw[H,if_pos h,j]
  have no:Qw set v k ⟨up,cU,bw,version,aM⟩=false->fJ (λi=>Qw set v i (s.nodes.getD i aq)) (k+1)=fJ (λi=>Qw set v i (s.nodes.getD i aq)) k:=λh=>by rw[H,h,if_neg (by decide)]
  rw[a]at c no;cases T:hasB set k<;>(try cases up)<;>(try cases cU)<;>(try cases bw)<;>(try (by_cases B:version=v))<;>simp only[T,B,x,bne_self_eq_false,Bool.false_eq_true,false_implies,true_implies,beq_eq_false_iff_ne.2,ne_eq,not_false_eq_true,go_sem]at c no ⊢<;>
   (refine aY (k+1) ?_ ?_ (by omega) (by omega)
    .simp only[go_sem]
    .first
     |(simp only[Sq,fM,no,wS k,go_sem];done)
     |simp only[Sq,fM,c,wS k,go_sem])
 .obtain rfl:k=s.nodes.length:=by omega
  simp only[dF ((s.nodes.length:Int)<(s.nodes.length:Int)),gj,go_sem]
def Tu:∀a:Fin 64,a.val≠0->(∃b:Fin 64,rF .i64 (a.val:Int) (-(a.val:Int))=(b.val:Int))/\∃c:Fin 64,ig .i64 (a.val:Int) (rF .i64 (a.val:Int) (-(a.val:Int)))=(c.val:Int)/\many (c.val:Int)+1=many (a.val:Int):=by decide +kernel
def Pq:∀a:Fin 64,many (a.val:Int)=0->a.val=0:=by decide +kernel
def OM:gH 0:=⟨by decide,by decide⟩
def WM(a:Nat×Int×Int×Int):St:=⟨[(0,.int a.2.1),(1,.int a.2.2.1),(5,.int a.2.2.2)],[]⟩
def K9(set most:Int)(hs:gH set)(H:0<=most/\most<=1000):aS G 286 [.int set,.int most] [] (.int (yx 6 (set,most,0))) []:=by
 refine iL func286 ?_;generalize w:yx 6 (set,most,0)=R;refine aQ [0,1,5] [] (λa:Nat×Int×Int×Int=>gH a.2.1/\gH a.2.2.2/\many a.2.1<=a.1/\(0<=a.2.2.1/\a.2.2.1<=1000)/\yx a.1 a.2=R) (λa=>a.1) WM (6,set,most,0) ?_ ⟨hs,OM,(Ik set).2,H,w⟩ ?_
 .simp only[WM,go_sem]
 rintro⟨f,p,m,out⟩ ⟨U,h2,B,y,A⟩;dsimp only at U h2 B y A;simp only[WM,go_sem];obtain⟨n,rfl,D⟩:=U.nat;by_cases j:n=0
 .subst j;have:R=out:=by rw[<- A];cases f with|zero=>rfl|succ f=>rw[yx,if_neg (by simp)]
  subst this;simp only[Int.natCast_zero,bne_self_eq_false,go_sem]
 by_cases r:0<m;case neg=>
  have:R=out:=by rw[<- A];cases f with|zero=>rfl|succ f=>rw[yx,if_neg (λh=>r h.2)]
  subst this;simp only[show((n:Int) !=0)=true from bne_iff_ne.2 (by omega),dF (m>0),go_sem]
 obtain⟨⟨b,T⟩,c,K,o⟩:=Tu ⟨n,D⟩ j;dsimp only at T K o;have t:IntKind.i64.wrap (0-(n:Int)) = -(n:Int):=by rw[aH (by omega) (by omega)];omega
 have q:IntKind.i64.wrap (m-1)=m-1:=aH (by omega) (by omega);cases f with
 |zero=>have h0:=Ik (n:Int);exact absurd (Pq ⟨n,D⟩ (show many (n:Int)=0 by omega)) j
 |succ f=>
  have S:yx f (Ar ((n:Int),m,out))=R:=by rw[<- A,yx,if_pos ⟨by dsimp only;omega,r⟩]
  have e:Ar ((n:Int),m,out)=((c.val:Int),m-1,Ef .i64 out (b.val:Int)):=by unfold Ar;dsimp only;rw[K,T]
  rw[e]at S;have k:=(Yo h2 (⟨by omega,by omega⟩:gH (b.val:Int))).1;simp only[show((n:Int) !=0)=true from bne_iff_ne.2 (by omega),dT (m>0),t,q,T,go_sem];rw[T]at K;refine aY (f,(c.val:Int),m-1,Ef .i64 out (b.val:Int)) ?_ ?_ ⟨⟨by dsimp only;omega,by dsimp only;omega⟩,k,by dsimp only;omega,by dsimp only;omega,S⟩ (by dsimp only;omega)
  .simp only[go_sem]
  .simp only[WM,K,go_sem]
def G1:∀k:Fin 9,Om.take (k.val+1)=Om.take k.val++[((k.val+1:Nat):Int)]:=by decide
section
variable{J:Nat->Prop}{ι:Nat->Nat->Option Nat}{b:Nat}{x0 x1 x2 x3 x4 x5:Value}(m:Int)(k:Nat)
def gd.num{P:Program}{G:Nat->Option (List DV)}{f:Nat}{args:List LV}{r:Int}(h:gd P G f args [] (.int r) []){w:World}{vs:Array Value}(S:aA G J w ι (an []))(hR:cm J w ι args vs.toList) :
  Calls P f vs w λe w'=>e=.returned (.int .i64 r)/\RowKit.Below w.heap.size w w':=by
 refine(h.2 J ι w vs S hR).mono λe w' hh=>?_
 obtain⟨v,he,J',ι',S',hr,hE⟩:=hh;obtain rfl:v=.int .i64 r:=hr;refine⟨he,⟨hE.ev.os,hE.ev.tape,hE.ev.output,hE.ev.size,λk hk=>hE.ev.same k hk ?_⟩⟩;rintro⟨o,hb⟩;simp[an,bK.own]at hb
structure nZ(J:Nat->Prop)(s:aa)(W:World)(b:Nat)(x0 x1 x2 x3 x4 x5:Value):Prop where
 heap:W.heap[b]? = some (.cells #[x0,x1,x2,x3,x4,x5] 34 (0,0))
 rep:bG J W [.cM 5 (s.nodes.map cv),.cM 12 (s.jobs.map dH),i64 s.goal,i64 s.prior,i64 s.mode,i64 s.term] [x0,x1,x2,x3,x4,x5]
 one:∀v∈[x0,x1,x2,x3,x4,x5],v.oneCell'=true
def nZ.cells{s:aa}{W:World}(h:nZ J s W b x0 x1 x2 x3 x4 x5):W.cell? ⟨b,0,none⟩=some x0/\W.cell? ⟨b,1,none⟩=some x1/\W.cell? ⟨b,2,none⟩=some x2/\W.cell? ⟨b,3,none⟩=some x3/\W.cell? ⟨b,4,none⟩=some x4/\W.cell? ⟨b,5,none⟩=some x5:=by refine⟨?_,?_,?_,?_,?_,?_⟩<;>simp[cell?,h.heap]
def nZ.kept{s:aa}{W W':World}(h:nZ J s W b x0 x1 x2 x3 x4 x5)(hb:W'.heap[b]? = W.heap[b]?)(hJ:∀k,J k->W'.heap[k]? = W.heap[k]?):nZ J s W' b x0 x1 x2 x3 x4 x5:=
 ⟨hb.trans h.heap,bG.mono (λ_ h=>h) hJ _ _ h.rep,h.one⟩
def nZ.arg{s:aa}{W:World}(h:nZ J s W b x0 x1 x2 x3 x4 x5):cW J W ι (aU s) (.agg #[x0,x1,x2,x3,x4,x5]):=
 ⟨#[x0,x1,x2,x3,x4,x5],rfl,bG.zX h.rep h.one⟩
def Mc(W:World)(C:Array Value)(t:TypeId)(b:Nat)(hb:b=W.heap.size)(j:Nat)(u:Value)(h:C.toList[j]? = some u):(W.alloc (.cells C t)).cell? ((⟨b,0,none⟩:Addr).add j)=some u:=by
 subst hb;have e:((⟨W.heap.size,0,none⟩:Addr).add j)=⟨W.heap.size,j,none⟩:=by
  cases j with
  |zero=>rfl
  |succ j=>simp[Addr.add]
 rw[e];simp only[cell?,alloc_heap_new];simpa using h
def zU(m:Int)(k:Nat):List Int:=m::(Om.take k).filter (λv=>decide (v≠m))
def SE:zU m 9=Fv m:=rfl
def SB(h:k<9)(hv:((k+1:Nat):Int)≠m):zU m (k+1)=zU m k++[((k+1:Nat):Int)]:=by have e:=G1 ⟨k,h⟩;dsimp only at e;unfold zU;rw[e,filter_append,filter_cons_of_pos (by simpa using hv)];simp
def Wi(h:k<9)(hv:((k+1:Nat):Int)=m):zU m (k+1)=zU m k:=by have e:=G1 ⟨k,h⟩;dsimp only at e;unfold zU;rw[e,filter_append,filter_cons_of_neg (by simpa using hv)];simp
def SD:(zU m k).length<=k+1:=by unfold zU;have:=length_filter_le (λv=>decide (v≠m)) (Om.take k);have:=length_take_le k Om;rw[length_cons];omega
def CB(s:aa)(j:bT)(set:Int):List Int->List (Int×Int)
 |[]=>[]
 |v::l=>if okV s j set v=true then(v,gj s set v)::CB s j set l else CB s j set l
def qW(s:aa)(j:bT)(set:Int):∀(l l':List Int),CB s j set (l++l')=CB s j set l++CB s j set l'
 |[],l'=>rfl
 |v::l,l'=>by
  rw[cons_append,CB,CB,qW s j set l l']
  split<;>rfl
def Nz(s:aa)(j:bT)(set:Int):∀l:List Int,(CB s j set l).length<=l.length
 |[]=>Nat.le_refl _
 |v::l=>by have:=Nz s j set l;rw[CB];split<;>simp<;>omega
end
end Dv
namespace Go.Proofs
open Go.RowKit Go.Shelf
variable{B1 B2:Nat}
attribute [local go_sem] Oper.semAt_some
def L_(n:Nat)(x0 x1 x2 x3 x4 x5 c0 c1 c2 c3 c4 c5 c6 c7 c8 c9 c10 c11:Value)(set:Int)(w:World) :
  CallsIn Fence.wide n Tryz.prog 285 #[.agg #[x0,x1,x2,x3,x4,x5],.agg #[c0,c1,c2,c3,c4,c5,c6,c7,c8,c9,c10,c11],.int .i64 set] w λe w'=>
   e=.returned (.func (.func 299) #[] #[.pointer (some ⟨w.heap.size,0,none⟩),.pointer (some ⟨w.heap.size+1,0,none⟩),.pointer (some ⟨w.heap.size+1+1,0,none⟩)])/\
   w'=((w.alloc (.cells #[x0,x1,x2,x3,x4,x5] 34)).alloc (.cells #[c0,c1,c2,c3,c4,c5,c6,c7,c8,c9,c10,c11] 54)).alloc (.cells #[.int .i64 set] 3):=by
 refine callsIn_of_wp Tryz.func285 rfl trivial ?_ rfl;simp only[Tryz.ntmps285,Nat.reduceAdd,Nat.reduceSub,Dv.sG,Dv.sA]
 gi_wp2
 go_ret
 exact⟨rfl,rfl⟩
structure vv(B1 B2:Nat)(W W':World):Prop where
 os:W'.os=W.os
 tape:W'.tape=W.tape
 output:W'.output=W.output
 size:W.heap.size<=W'.heap.size
 same:∀(k:Nat) C t f,k≠B1->k≠B2->W.heap[k]? = some (.cells C t f)->W'.heap[k]? = some (.cells C t f)
 shape:∀k,(W.shape? k).isSome=true->W'.shape? k=W.shape? k
def vv.nH{W W':World}(h:Below W.heap.size W W'):vv B1 B2 W W':=
 ⟨h.os,h.tape,h.output,h.size,λk C t f _ _ hk=>(h.block k (Array.getElem?_eq_some_iff.1 hk).1).trans hk,λk hk=>Dv.bI (h.block k (Dv.iA hk))⟩
def vv.drew(W:World):vv B1 B2 W W.drew:=⟨rfl,rfl,rfl,Nat.le_refl _,λ_ _ _ _ _ _ h=>h,λ_ _=>rfl⟩
def Zi{A B:World->Prop}(e:Ending)(W':World)(h:(e=.returned (.bool true)/\A W')\/(e=.returned (.bool false)/\B W')):∃b:Bool,e=.returned (.bool b)/\(b=true->A W')/\(b=false->B W'):=by
 rcases h with ⟨h,k⟩|⟨h,k⟩
 .exact ⟨true,h,λ_=>k,λh=>by cases h⟩
 .exact ⟨false,h,λh=>(by cases h),λ_=>k⟩
structure ChI(G:Nat->Option (List Dv.DV))(Js:Nat->Prop)(ι:Nat->Nat->Option Nat)(s:Dv.aa)(j:Dv.bT)(set:Int)(bs bj bk B1 B2 g:Nat)(x0 x1 x2 x3 x4 x5:Value)(L:List Int)(W:World):Prop where
 st:Dv.aA G Js W ι (Dv.an [])
 hs:Dv.nZ Js s W bs x0 x1 x2 x3 x4 x5
 hj:W.heap[bj]? = some (.cells #[.int .i64 j.queue,.int .i64 j.prio,.int .i64 j.min,.int .i64 j.max,.int .i64 j.work,.int .i64 j.pin,.int .i64 j.phase,.int .i64 j.inc,.int .i64 j.nodes,.int .i64 j.since,.int .i64 j.til,.int .i64 j.epoch] 54 (0,0))
 hk:Boxed W bk 3 (.int .i64 set)
 row:∃cur,W.heap[g]? = some (.cells cur 3 (0,0))/\∀(i:Nat) v,L[i]? = some v->cur[i]? = some (.int .i64 v)
def ChI.kept{G:Nat->Option (List Dv.DV)}{Js:Nat->Prop}{ι:Nat->Nat->Option Nat}{s:Dv.aa}{j:Dv.bT}{set:Int}{bs bj bk B1 B2 g:Nat}{x0 x1 x2 x3 x4 x5:Value}{L:List Int}{W W':World}(h:ChI G Js ι s j set bs bj bk B1 B2 g x0 x1 x2 x3 x4 x5 L W)
  (hJB:∀k,Js k->k≠B1/\k≠B2) (hBs:bs≠B1/\bs≠B2) (hBj:bj≠B1/\bj≠B2) (hBk:bk≠B1/\bk≠B2) (hBg:g≠B1/\g≠B2) (hk:vv B1 B2 W W'):ChI G Js ι s j set bs bj bk B1 B2 g x0 x1 x2 x3 x4 x5 L W':=by
 have hJ:∀k,Js k->W'.heap[k]? = W.heap[k]?:=λk hkj=>by obtain⟨C,t,f,hc⟩:=h.st.jcell k hkj;rw[hc];exact hk.same k C t f (hJB k hkj).1 (hJB k hkj).2 hc
 have hsb:W'.heap[bs]? = W.heap[bs]?:=by rw[h.hs.heap];exact hk.same _ _ _ _ hBs.1 hBs.2 h.hs.heap
 obtain⟨cur,hg,hc⟩:=h.row;exact⟨h.st.still hJ (λb ⟨o,ho⟩=>by simp[Dv.an,Dv.bK.own]at ho) hk.shape,h.hs.kept hsb hJ,hk.same _ _ _ _ hBj.1 hBj.2 h.hj,hk.same _ _ _ _ hBk.1 hBk.2 h.hk,cur,hk.same _ _ _ _ hBg.1 hBg.2 hg,hc⟩
theorem Ji{G:Nat->Option (List Dv.DV)}{Js:Nat->Prop}{ι:Nat->Nat->Option Nat}(s:Dv.aa)(j:Dv.bT)(set:Int)(hn:s.nodes.length<=6)(hs6:Dv.gH set)(n:Nat)(hn1:1<=n)(l bs bj bk B1 B2:Nat)(W:World)(x0 x1 x2 x3 x4 x5:Value)
  (S:Dv.aA G Js W ι (Dv.an [])) (hJB:∀k,Js k->k≠B1/\k≠B2) (hBs:bs≠B1/\bs≠B2) (hBj:bj≠B1/\bj≠B2) (hBk:bk≠B1/\bk≠B2) (hB1:B1<W.heap.size) (hB2:B2<W.heap.size)
  (hs:Dv.nZ Js s W bs x0 x1 x2 x3 x4 x5)
  (hj:W.heap[bj]? = some (.cells #[.int .i64 j.queue,.int .i64 j.prio,.int .i64 j.min,.int .i64 j.max,.int .i64 j.work,.int .i64 j.pin,.int .i64 j.phase,.int .i64 j.inc,.int .i64 j.nodes,.int .i64 j.since,.int .i64 j.til,.int .i64 j.epoch] 54 (0,0)))
  (hk':Boxed W bk 3 (.int .i64 set))
  (I Jx:List (Int×Int)->World->Prop) (hI:∀pre A A',I pre A->A.grownBy A' none->I pre A')
  (hY:∀pre x A,I pre A->pre.length<10->YieldAt Fence.wide (n-1) Tryz.prog l #[.int .i64 x.1,.int .i64 x.2] A λe A'=>(e=.returned (.bool true)/\I (pre++[x]) A'/\vv B1 B2 A A')\/(e=.returned (.bool false)/\Jx (pre++[x]) A'))
  (h0:I [] W) :
  CallsIn Fence.wide n Tryz.prog 299 #[.func (.yield l) #[] #[],.pointer (some ⟨bs,0,none⟩),.pointer (some ⟨bj,0,none⟩),.pointer (some ⟨bk,0,none⟩)] W λe W'=>(∃v,e=.returned v)/\
   ((∃ys,ys=Dv.CB s j set (Dv.Fv (Dv.gA s))/\I ys W')\/(∃pre,True/\Jx pre W')):=by
 have hYb:∀pre x A,I pre A->pre.length<10->YieldAt Fence.wide (n-1) Tryz.prog l #[.int .i64 x.1,.int .i64 x.2] A λe A'=>∃b:Bool,e=.returned (.bool b)/\(b=true->I (pre++[x]) A'/\vv B1 B2 A A')/\(b=false->Jx (pre++[x]) A'):=λpre x A h1 h2=>(hY pre x A h1 h2).mono (λe W' h=>Zi (A:=λW'=>I (pre++[x]) W'/\vv B1 B2 A W') (B:=λW'=>Jx (pre++[x]) W') e W' h)
 clear hY;obtain⟨a0,a1,a2,a3,a4,a5⟩:=hs.cells;have hM:Calls Tryz.prog 187 #[.agg #[x0,x1,x2,x3,x4,x5]] W λe w'=>e=.returned (.int .i64 (Dv.gA s))/\Below W.heap.size W w':=(Dv.kY s).num S ⟨hs.arg,trivial⟩
 refine callsIn_of_wp Tryz.func299 rfl trivial ?_ rfl;simp only[Tryz.ntmps299,Nat.reduceAdd,Nat.reduceSub,Dv.sG,Dv.sA]
 gi_wp2_with (refine⟨trivial,?_⟩;gi_at_call 187;refine(callsIn_wide.2 hM).mono ?_;rintro e w1 ⟨rfl,hb1⟩)
 generalize hm:Dv.gA s=m at *;obtain⟨i0,z0,q1,q2,q3,q4,q5,_⟩:=Dv.nO (P:=Tryz.prog) (e:=3) (n:=1) (b:=8) (by kernel_rfl)
 gi_loopw [5,6] (λp q wr=>∃(k:Nat) (v:Int),(0<=v/\v.toNat=k+1)/\k<=9/\q=.int .i64 v/\wr.ownsRow W.heap.size 3 1 p (Dv.zU m k).length ((Dv.zU m k).map (Value.int .i64))/\Below W.heap.size W wr)
  (λ_ q _=>10-(intOf q).toNat)
 case atStart=>refine⟨0,1,⟨by omega,rfl⟩,by omega,rfl,⟨rfl,.inr ⟨_,1,#[.int .i64 m],rfl,hb1.size,World.alloc_heap_new _ _,Nat.le_refl _,by decide,rfl,rfl⟩⟩,hb1.alloc hb1.size _⟩
 case round=>
  obtain⟨k,v,hvv,hk9,rfl,hown,hbw⟩:=hrel;have hlen:=Dv.SD m k;obtain⟨N,hN⟩:∃N,(Dv.zU m k).length=N+1:=⟨_,rfl⟩;rw[hN]at hown hlen;obtain⟨g,cap,rfl⟩:=ownsRow_succ hown;have hg0:wr.cell? ⟨g,0,none⟩=some (.int .i64 m):=by
   rcases hown.2 with ⟨h,_⟩|⟨g',cap',cur,h,_,hgb,_,_,_,h4⟩
   .cases h
   .cases h;simp only[World.cell?,hgb];rw[Nat.mul_one]at h4;have:=congrArg (λl=>l[0]?) h4;simp only[List.getElem?_take]at this;rw[if_pos (by omega)]at this;rw[<- Array.getElem?_toList,this];rfl
  have hv0:0<=v:=by omega
  have hv1:v<=10:=by omega
  rcases Nat.lt_or_ge k 9 with hk|hk
  .have hle:v<=9:=by omega
   have hw2:IntKind.i64.wrap (v+1)=v+1:=Dv.aH (by omega) (by omega);by_cases hv:v=m
   .have hno:=Dv.Wi m k hk (by omega);subst hv
    gi_wp2
    exact⟨⟨k+1,v+1,⟨by omega,by omega⟩,by omega,rfl,by rw[hno,hN];exact hown,hbw⟩,by simp[intOf];omega⟩
   .have hyes:=Dv.SB m k hk (by omega);rw[show((k+1:Nat):Int)=v by omega]at hyes;have hsz:=hbw.size
    gi_wp2_with (gi_at_builtin;refine wpListIn_append_own _ rfl _ _ 29 rfl W.heap.size 3 i0 z0 1 8 Tryz.underlying29 q1 q2 q3 q4 (q5.trans q3) (by decide) _ _ _ rfl (hown.alloc _) ⟨wr.heap.size,0,none⟩ 1 1 [.int .i64 v] rfl rfl (λj u hj=>Dv.Mc wr _ _ _ (by simp) j u hj) (by simp[Value.oneCell']) (by simp only[Go.maxLen];omega) (by omega) (by simp;omega) (λv' w3 hown2 hg3 hz=>?_))
    have hgW:W.heap.size<=g:=by
     rcases hown.2 with ⟨h,_⟩|⟨g',cap',cur,h,hb,_⟩
     .cases h
     .cases h;exact hb
    refine⟨⟨k+1,v+1,⟨by omega,by omega⟩,by omega,rfl,by rw[hyes,List.map_append,List.length_append,hN];exact hown2,?_⟩,by simp[intOf];omega⟩;exact(hbw.alloc hsz _).grown hg3 (by simp;omega) (λr e=>by cases e;exact hgW)
  .obtain rfl:k=9:=by omega
   obtain rfl:v=10:=by omega
   have hrow:∃cur,wr.heap[g]? = some (.cells cur 3 (0,0))/\∀(i:Nat) v,(Dv.Fv m)[i]? = some v->cur[i]? = some (.int .i64 v):=by
    rcases hown.2 with ⟨h,_⟩|⟨g',cap',cur,h,_,hgb,_,_,_,h4⟩
    .cases h
    .cases h;refine⟨cur,hgb,λi v hi=>?_⟩;rw[Nat.mul_one]at h4;have hlt:=(List.getElem?_eq_some_iff.1 hi).1;have:=congrArg (λl=>l[i]?) h4;simp only[List.getElem?_take]at this;rw[if_pos (by rw[<- hN];exact hlt)]at this;rw[<- Array.getElem?_toList,this,List.getElem?_map,Dv.SE,hi];rfl
   have hgW:W.heap.size<=g:=by
    rcases hown.2 with ⟨h,_⟩|⟨g',cap',cur,h,hb,_⟩
    .cases h
    .cases h;exact hb
   have hlenL:(Dv.Fv m).length=N+1:=hN;have hC0:ChI G Js ι s j set bs bj bk B1 B2 g x0 x1 x2 x3 x4 x5 (Dv.Fv m) wr:=by
    have hC:∀k,k<W.heap.size->wr.heap[k]? = W.heap[k]?:=λk hk=>hbw.block k hk
    exact⟨S.still (λb hb=>hC b (S.Ey b hb)) (λb ⟨o,ho⟩=>by simp[Dv.an,Dv.bK.own]at ho) (λb hb=>Dv.bI (hC b (Dv.iA hb))),hs.kept (hC bs (Array.getElem?_eq_some_iff.1 hs.heap).1) (λb hb=>hC b (S.Ey b hb)),(hC bj (Array.getElem?_eq_some_iff.1 hj).1).trans hj,(hC bk hk'.lt).trans hk',hrow⟩
   have hI0:I [] wr:=hI _ _ _ h0 ⟨hbw.os,hbw.tape,hbw.output,hbw.size,λk hk _=>hbw.block k hk⟩;have hBg:g≠B1/\g≠B2:=⟨by omega,by omega⟩;have hb1W:=Nat.lt_of_lt_of_le hB1 hbw.size;have hb2W:=Nat.lt_of_lt_of_le hB2 hbw.size;clear hown hrow h0 hs hj hk' S hM hb1 hg0;generalize hL:Dv.Fv m=L at *
   gi_wp2
   have mixed:Tryz.prog.follows .mixedOrders=true:=by kernel_rfl
   gi_loopw [28] (λq wq=>∃i:Nat,q=.int .i64 i/\i<=N+1/\ChI G Js ι s j set bs bj bk B1 B2 g x0 x1 x2 x3 x4 x5 L wq/\I (Dv.CB s j set (L.take i)) wq)
    (λq _=>N+1-(intOf q).toNat)
   case atStart=>exact⟨0,rfl,by omega,hC0,hI0⟩
   case round=>
    obtain⟨i,rfl,hi,hC,hIi⟩:=hrel;obtain⟨cur,hgc,hgv⟩:=hC.row;obtain⟨b0,b1,b2,b3,b4,b5⟩:=hC.hs.cells;have hk0:=hC.hk.cell;have hp5:wr.cell? ⟨bj,5,none⟩=some (.int .i64 j.pin):=by simp only[World.cell?,hC.hj];rfl
    have hp2:wr.cell? ⟨bj,2,none⟩=some (.int .i64 j.min):=by simp only[World.cell?,hC.hj];rfl
    rcases Nat.lt_or_ge i (N+1)with hlt|hge
    .obtain ⟨v,hv⟩:∃v,L[i]? = some v:=⟨L[i],List.getElem?_eq_getElem (by omega)⟩;have hgi:wr.cell? ⟨g,i,none⟩=some (.int .i64 v):=by
      have:=hgv i v hv;simp only[World.cell?,hgc];exact this
     have htk:L.take (i+1)=L.take i++[v]:=by rw[List.take_add_one,hv];rfl
     have hR:=(Dv.OY (G:=G) s set v hn).num hC.st (vs:=#[.agg #[x0,x1,x2,x3,x4,x5],.int .i64 set,.int .i64 v]) ⟨hC.hs.arg,rfl,rfl,trivial⟩;have hlen2:=Dv.Nz s j set (L.take i);have hlt2:=List.length_take_le i L;by_cases hpin:j.pin≠0/\j.pin≠v
     .have hok:Dv.okV s j set v=false:=by unfold Dv.okV;rw[decide_eq_true hpin.1,decide_eq_true hpin.2];rfl
      have hp0:=hpin.1;have hpv:=hpin.2
      gi_wp2
      rotate_left
      .have h2:=‹(j.pin !=0)=false\/(j.pin !=v)=false›;simp only[bne_eq_false_iff_eq]at h2;exact absurd h2 (by rintro(h|h);exact hp0 h;exact hpv h)
      exact⟨⟨i+1,by simp,by omega,hC,by rw[htk,Dv.qW];simp only[Dv.CB,hok,Bool.false_eq_true,if_false,List.append_nil];exact hIi⟩,by simp[intOf];omega⟩
     .by_cases hp0:j.pin=0
      .have hokv:Dv.okV s j set v=decide (j.min<=Dv.many (Dv.gj s set v)):=by
        unfold Dv.okV;rw[decide_eq_false (λh=>h hp0)];rfl
       gi_wp2_with (refine⟨trivial,?_⟩;gi_at_call 300;refine(callsIn_wide.2 hR).mono ?_;rintro e w2 ⟨rfl,hb2⟩)
       have hC2:=hC.kept hJB hBs hBj hBk hBg (vv.nH hb2);have hC2d:=hC2.kept hJB hBs hBj hBk hBg (vv.drew w2);have hp2':w2.cell? ⟨bj,2,none⟩=some (.int .i64 j.min):=by simp only[World.cell?,hC2.hj];rfl
       have hCt:=(Dv.tE (G:=G) (Dv.gj s set v)).num hC2d.st (vs:=#[.int .i64 (Dv.gj s set v)]) ⟨rfl,trivial⟩;have hI2:I (Dv.CB s j set (L.take i)) w2.drew:=hI _ _ _ hIi ⟨hb2.os,hb2.tape,hb2.output,hb2.size,λk hk _=>hb2.block k hk⟩;have hr6:=Dv.To _ (Dv.vX s set v hn);rw[hr6]at hCt;have hchs:∀b:Bool,Dv.okV s j set v=b->Dv.CB s j set (L.take (i+1))=Dv.CB s j set (L.take i)++if b=true then[(v,Dv.gj s set v)]else[]:=λb hb=>by rw[htk,Dv.qW];simp only[Dv.CB,hb]
       generalize Dv.gj s set v=r at *;generalize Dv.many r=c at *;by_cases hmin:j.min<=c
       .rw [decide_eq_true hmin]at hokv;have hch:=hchs _ hokv;rw[if_pos rfl]at hch
        gi_region_with_o (first
         |(refine⟨trivial,?_⟩;gi_at_call 268;refine(CallsIn.mono (callsIn_wide.2 hCt) ?_);rintro e w3 ⟨rfl,hb3⟩;have hC3:=hC2d.kept hJB hBs hBj hBk hBg (vv.nH hb3);have hp3:w3.cell? ⟨bj,2,none⟩=some (.int .i64 j.min):=(by simp only[World.cell?,hC3.hj];rfl);have hI3:=hI _ _ w3 hI2 ⟨hb3.os,hb3.tape,hb3.output,hb3.size,λk hk _=>hb3.block k hk⟩;obtain⟨fn,tmps,assign,body,hy,hYR⟩:=hYb _ (v,r) w3 hI3 (by omega))
         |(refine hYR.mono ?_;rintro e w4 ⟨b,rfl,hyes,hno⟩))
        all_goals
         cases b with
         |true=>
          obtain⟨hI4,hK4⟩:=hyes rfl;have hC4:=hC3.kept hJB hBs hBj hBk hBg hK4
          gi_wp2
          exact⟨⟨i+1,by simp,by omega,hC4,by rw[hch];exact hI4⟩,by simp[intOf];omega⟩
         |false=>
          gi_wp2
          refine bodyPost_ret (results_none rfl _ _ _) rfl ?_;exact⟨⟨_,rfl⟩,.inr ⟨_,by first|exact hno rfl|exact hno|simpa using hno⟩⟩
       .rw [decide_eq_false hmin]at hokv;have hmin':c<j.min:=by omega
        have hdec:decide (j.min<=c)=false:=decide_eq_false hmin;have hch:=hchs _ hokv;rw[if_neg (by decide),List.append_nil]at hch;refine wpIn_wide.2 ?_;refine wp_region_held_drew (S:=λA=>A.cell? ⟨bj,2,none⟩=some (.int .i64 j.min)) mixed hp2' (λhS=>?_)
        (refine wpAnyH_take (i:=0) (v:=?_) rfl (by kernel_rfl) (by kernel_rfl) (by kernel_rfl) (λ_ _ _ h=>h) (Or.inl ⟨by rfl,?_⟩) (by assumption) ?_);rotate_left 1;(focus (intro w hSw;(try dsimp only at hSw);go_simp;try (with_reducible rfl)));(try simp only[Act.put,Dv.sT])
        (refine wpAnyH_take (i:=2) (v:=?_) rfl (by kernel_rfl) (by kernel_rfl) (by kernel_rfl) (λ_ _ _ h=>h) (Or.inl ⟨by rfl,?_⟩) (by assumption) ?_);rotate_left 1;(focus (intro w hSw;(try dsimp only at hSw);go_simp;try (with_reducible rfl)));(try simp only[Act.put,Dv.sT])
        (refine wpAnyH_take (i:=3) (v:=?_) rfl (by kernel_rfl) (by kernel_rfl) (by kernel_rfl) (λ_ _ _ h=>h) (Or.inl ⟨by rfl,?_⟩) (by assumption) ?_);rotate_left 1;(focus (intro w hSw;(try dsimp only at hSw);go_simp;try (with_reducible rfl)));(try simp only[Act.put,Dv.sT])
        (refine wpAnyH_ready (rs:=[1]) (by kernel_rfl) (by simp) ?_);(refine AllReadyH.cons rfl (λK hK=>?_) AllReadyH.nil);go_simp
        refine hCt.mono ?_;rintro e w3 ⟨rfl,hb3⟩;have hC3:=hC2d.kept hJB hBs hBj hBk hBg (vv.nH hb3);have hI3:=hI _ _ w3 hI2 ⟨hb3.os,hb3.tape,hb3.output,hb3.size,λk hk _=>hb3.block k hk⟩
        (refine hK.out _ _ (by simp only[World.cell?,hC3.hj];rfl) (λhHeld=>?_));clear hK K;(try simp only[Act.put,Dv.sT])
        (refine wpAnyH_take (i:=4) (v:=?_) rfl (by kernel_rfl) (by kernel_rfl) (by kernel_rfl) (λ_ _ _ h=>h) (Or.inl ⟨by rfl,?_⟩) (by assumption) ?_);rotate_left 1;(focus (intro w hSw;(try dsimp only at hSw);go_simp;try (with_reducible rfl)));(try simp only[Act.put,Dv.sT])
        (refine wpAnyH_take (i:=5) (v:=?_) rfl (by kernel_rfl) (by kernel_rfl) (by kernel_rfl) (λ_ _ _ h=>h) (Or.inl ⟨by rfl,?_⟩) (by assumption) ?_);rotate_left 1;(focus (intro w hSw;(try dsimp only at hSw);go_simp;try (with_reducible rfl)));(try simp only[Act.put,Dv.sT])
        (refine wpAnyH_take (i:=6) (v:=undef) rfl (by kernel_rfl) (by kernel_rfl) (by kernel_rfl) (λ_ _ _ h=>h) (Or.inr ⟨by rfl,rfl⟩) (by assumption) ?_);(try simp only[Act.put,Dv.sT])
        (refine wpAnyH_take (i:=7) (v:=undef) rfl (by kernel_rfl) (by kernel_rfl) (by kernel_rfl) (λ_ _ _ h=>h) (Or.inr ⟨by rfl,rfl⟩) (by assumption) ?_);(try simp only[Act.put,Dv.sT])
        (refine wpAnyH_take (i:=8) (v:=undef) rfl (by kernel_rfl) (by kernel_rfl) (by kernel_rfl) (λ_ _ _ h=>h) (Or.inr ⟨by rfl,rfl⟩) (by assumption) ?_);(try simp only[Act.put,Dv.sT])
        (refine wpAnyH_take (i:=9) (v:=undef) rfl (by kernel_rfl) (by kernel_rfl) (by kernel_rfl) (λ_ _ _ h=>h) (Or.inr ⟨by rfl,rfl⟩) (by assumption) ?_);(try simp only[Act.put,Dv.sT])
        (refine wpAnyH_take (i:=10) (v:=undef) rfl (by kernel_rfl) (by kernel_rfl) (by kernel_rfl) (λ_ _ _ h=>h) (Or.inr ⟨by rfl,rfl⟩) (by assumption) ?_);(try simp only[Act.put,Dv.sT])
        (refine wpAnyH_take (i:=11) (v:=?_) rfl (by kernel_rfl) (by kernel_rfl) (by kernel_rfl) (λ_ _ _ h=>h) (Or.inl ⟨by rfl,?_⟩) (by assumption) ?_);rotate_left 1;(focus (intro w hSw;(try dsimp only at hSw);go_simp;try (with_reducible rfl)));(try simp only[Act.put,Dv.sT])
        refine wpAnyH_done (by kernel_rfl) ?_ _
        gi_wp2
        exact⟨⟨i+1,by simp,by omega,hC3,by rw[hch];exact hI3⟩,by simp[intOf];omega⟩
      .obtain hpv:j.pin=v:=Decidable.byContradiction λh=>hpin ⟨hp0,h⟩
       have hokv:Dv.okV s j set v=decide (j.min<=Dv.many (Dv.gj s set v)):=by unfold Dv.okV;rw[decide_eq_false (p:=j.pin≠v) (λh=>h hpv),Bool.and_false];rfl
       gi_wp2_with (refine⟨trivial,?_⟩;gi_at_call 300;refine(callsIn_wide.2 hR).mono ?_;rintro e w2 ⟨rfl,hb2⟩)
       have hC2:=hC.kept hJB hBs hBj hBk hBg (vv.nH hb2);have hC2d:=hC2.kept hJB hBs hBj hBk hBg (vv.drew w2);have hp2':w2.cell? ⟨bj,2,none⟩=some (.int .i64 j.min):=by simp only[World.cell?,hC2.hj];rfl
       have hCt:=(Dv.tE (G:=G) (Dv.gj s set v)).num hC2d.st (vs:=#[.int .i64 (Dv.gj s set v)]) ⟨rfl,trivial⟩;have hI2:I (Dv.CB s j set (L.take i)) w2.drew:=hI _ _ _ hIi ⟨hb2.os,hb2.tape,hb2.output,hb2.size,λk hk _=>hb2.block k hk⟩;have hr6:=Dv.To _ (Dv.vX s set v hn);rw[hr6]at hCt;have hchs:∀b:Bool,Dv.okV s j set v=b->Dv.CB s j set (L.take (i+1))=Dv.CB s j set (L.take i)++if b=true then[(v,Dv.gj s set v)]else[]:=λb hb=>by rw[htk,Dv.qW];simp only[Dv.CB,hb]
       generalize Dv.gj s set v=r at *;generalize Dv.many r=c at *;by_cases hmin:j.min<=c
       .rw [decide_eq_true hmin]at hokv;have hch:=hchs _ hokv;rw[if_pos rfl]at hch
        gi_region_with_o (first
         |(refine⟨trivial,?_⟩;gi_at_call 268;refine(CallsIn.mono (callsIn_wide.2 hCt) ?_);rintro e w3 ⟨rfl,hb3⟩;have hC3:=hC2d.kept hJB hBs hBj hBk hBg (vv.nH hb3);have hp3:w3.cell? ⟨bj,2,none⟩=some (.int .i64 j.min):=(by simp only[World.cell?,hC3.hj];rfl);have hI3:=hI _ _ w3 hI2 ⟨hb3.os,hb3.tape,hb3.output,hb3.size,λk hk _=>hb3.block k hk⟩;obtain⟨fn,tmps,assign,body,hy,hYR⟩:=hYb _ (v,r) w3 hI3 (by omega))
         |(refine hYR.mono ?_;rintro e w4 ⟨b,rfl,hyes,hno⟩))
        all_goals
         cases b with
         |true=>
          obtain⟨hI4,hK4⟩:=hyes rfl;have hC4:=hC3.kept hJB hBs hBj hBk hBg hK4
          gi_wp2
          exact⟨⟨i+1,by simp,by omega,hC4,by rw[hch];exact hI4⟩,by simp[intOf];omega⟩
         |false=>
          gi_wp2
          refine bodyPost_ret (results_none rfl _ _ _) rfl ?_;exact⟨⟨_,rfl⟩,.inr ⟨_,by first|exact hno rfl|exact hno|simpa using hno⟩⟩
       .rw [decide_eq_false hmin]at hokv;have hmin':c<j.min:=by omega
        have hdec:decide (j.min<=c)=false:=decide_eq_false hmin;have hch:=hchs _ hokv;rw[if_neg (by decide),List.append_nil]at hch;refine wpIn_wide.2 ?_;refine wp_region_held_drew (S:=λA=>A.cell? ⟨bj,2,none⟩=some (.int .i64 j.min)) mixed hp2' (λhS=>?_)
        (refine wpAnyH_take (i:=0) (v:=?_) rfl (by kernel_rfl) (by kernel_rfl) (by kernel_rfl) (λ_ _ _ h=>h) (Or.inl ⟨by rfl,?_⟩) (by assumption) ?_);rotate_left 1;(focus (intro w hSw;(try dsimp only at hSw);go_simp;try (with_reducible rfl)));(try simp only[Act.put,Dv.sT])
        (refine wpAnyH_take (i:=2) (v:=?_) rfl (by kernel_rfl) (by kernel_rfl) (by kernel_rfl) (λ_ _ _ h=>h) (Or.inl ⟨by rfl,?_⟩) (by assumption) ?_);rotate_left 1;(focus (intro w hSw;(try dsimp only at hSw);go_simp;try (with_reducible rfl)));(try simp only[Act.put,Dv.sT])
        (refine wpAnyH_take (i:=3) (v:=?_) rfl (by kernel_rfl) (by kernel_rfl) (by kernel_rfl) (λ_ _ _ h=>h) (Or.inl ⟨by rfl,?_⟩) (by assumption) ?_);rotate_left 1;(focus (intro w hSw;(try dsimp only at hSw);go_simp;try (with_reducible rfl)));(try simp only[Act.put,Dv.sT])
        (refine wpAnyH_ready (rs:=[1]) (by kernel_rfl) (by simp) ?_);(refine AllReadyH.cons rfl (λK hK=>?_) AllReadyH.nil);go_simp
        refine hCt.mono ?_;rintro e w3 ⟨rfl,hb3⟩;have hC3:=hC2d.kept hJB hBs hBj hBk hBg (vv.nH hb3);have hI3:=hI _ _ w3 hI2 ⟨hb3.os,hb3.tape,hb3.output,hb3.size,λk hk _=>hb3.block k hk⟩
        (refine hK.out _ _ (by simp only[World.cell?,hC3.hj];rfl) (λhHeld=>?_));clear hK K;(try simp only[Act.put,Dv.sT])
        (refine wpAnyH_take (i:=4) (v:=?_) rfl (by kernel_rfl) (by kernel_rfl) (by kernel_rfl) (λ_ _ _ h=>h) (Or.inl ⟨by rfl,?_⟩) (by assumption) ?_);rotate_left 1;(focus (intro w hSw;(try dsimp only at hSw);go_simp;try (with_reducible rfl)));(try simp only[Act.put,Dv.sT])
        (refine wpAnyH_take (i:=5) (v:=?_) rfl (by kernel_rfl) (by kernel_rfl) (by kernel_rfl) (λ_ _ _ h=>h) (Or.inl ⟨by rfl,?_⟩) (by assumption) ?_);rotate_left 1;(focus (intro w hSw;(try dsimp only at hSw);go_simp;try (with_reducible rfl)));(try simp only[Act.put,Dv.sT])
        (refine wpAnyH_take (i:=6) (v:=undef) rfl (by kernel_rfl) (by kernel_rfl) (by kernel_rfl) (λ_ _ _ h=>h) (Or.inr ⟨by rfl,rfl⟩) (by assumption) ?_);(try simp only[Act.put,Dv.sT])
        (refine wpAnyH_take (i:=7) (v:=undef) rfl (by kernel_rfl) (by kernel_rfl) (by kernel_rfl) (λ_ _ _ h=>h) (Or.inr ⟨by rfl,rfl⟩) (by assumption) ?_);(try simp only[Act.put,Dv.sT])
        (refine wpAnyH_take (i:=8) (v:=undef) rfl (by kernel_rfl) (by kernel_rfl) (by kernel_rfl) (λ_ _ _ h=>h) (Or.inr ⟨by rfl,rfl⟩) (by assumption) ?_);(try simp only[Act.put,Dv.sT])
        (refine wpAnyH_take (i:=9) (v:=undef) rfl (by kernel_rfl) (by kernel_rfl) (by kernel_rfl) (λ_ _ _ h=>h) (Or.inr ⟨by rfl,rfl⟩) (by assumption) ?_);(try simp only[Act.put,Dv.sT])
        (refine wpAnyH_take (i:=10) (v:=undef) rfl (by kernel_rfl) (by kernel_rfl) (by kernel_rfl) (λ_ _ _ h=>h) (Or.inr ⟨by rfl,rfl⟩) (by assumption) ?_);(try simp only[Act.put,Dv.sT])
        (refine wpAnyH_take (i:=11) (v:=?_) rfl (by kernel_rfl) (by kernel_rfl) (by kernel_rfl) (λ_ _ _ h=>h) (Or.inl ⟨by rfl,?_⟩) (by assumption) ?_);rotate_left 1;(focus (intro w hSw;(try dsimp only at hSw);go_simp;try (with_reducible rfl)));(try simp only[Act.put,Dv.sT])
        refine wpAnyH_done (by kernel_rfl) ?_ _
        gi_wp2
        exact⟨⟨i+1,by simp,by omega,hC3,by rw[hch];exact hI3⟩,by simp[intOf];omega⟩
    .obtain rfl:i=N+1:=by omega
     gi_wp2
     go_end0
     rw[List.take_of_length_le (by omega)]at hIi;exact⟨⟨_,rfl⟩,.inl ⟨_,by rw[hm,hL],hIi⟩⟩
end Go.Proofs
namespace Dv
open Go Go.Proofs List
def rR(mx:Int)(p:Int×Int)(n:Int):Int×Int:=if p.2<UI mx (n % 64)then(n,UI mx (n % 64))else p
def CA(s:aa)(j:bT)(set:Int)(hn:s.nodes.length<=6):∀(l:List Int) (p:Int×Int),(CB s j set l).foldl (λq x=>rR j.max q x.2) p=((l.filter (okV s j set)).map (gj s set)).foldl (vL j.max) p
 |[],p=>rfl
 |v::l,p=>by
  rw[CB];by_cases h:okV s j set v=true
  .rw [if_pos h,filter_cons_of_pos h,map_cons,foldl_cons,foldl_cons,CA s j set hn l];congr 1;have h6:=vX s set v hn;show rR j.max p (gj s set v)=vL j.max p (gj s set v);unfold rR vL;rw[Int.emod_eq_of_lt h6.1 h6.2]
  .rw [if_neg h,filter_cons_of_neg h,CA s j set hn l]
def MI(mx:Int):∀(l:List Int) (p:Int×Int),gH p.1->(∀n∈l,gH n)->gH (l.foldl (vL mx) p).1
 |[],p,h,_=>h
 |n::l,p,h,hl=>by
  rw[foldl_cons];refine MI mx l _ ?_ (λm hm=>hl m (mem_cons_of_mem _ hm));unfold vL;split
  .exact hl n mem_cons_self
  .exact h
def X1(s:aa)(j:bT)(set:Int)(hn:s.nodes.length<=6):gH (p_ s j set).1:=by refine MI j.max _ _ ⟨by decide,by decide⟩ (λn hn2=>?_);unfold chs at hn2;obtain⟨v,_,rfl⟩:=mem_map.1 hn2;exact vX s set v hn
def aaD:∀a:Fin 64,bits BinOp.and IntKind.i64 (a.val:Int) 63=(a.val:Int):=by decide +kernel
end Dv
namespace Go.Proofs
open Go.RowKit Go.Shelf
variable{B1 B2:Nat}
attribute [local go_sem] Oper.semAt_some
def Zf(Q:Exit->Act->World->Prop):Exit->Act->World->Prop
 |.normal,a,w=>Q .normal a w
 |_,_,_=>False
def Oc{F:Fence}{n:Nat}{P:Program}{c:Code}{Q:Exit->Act->World->Prop}{a:Act}{w:World}(h:c.wpIn F n P (Zf Q) a w):c.wpIn F n P Q a w:=
 wpIn_mono h (λe a w h=>by cases e<;>first|exact h|exact h.elim)
def ri:∀(os:List Obj) (w:World) (k:Nat),k<w.heap.size->(os.foldl (λW o=>W.alloc o) w).heap[k]? = w.heap[k]?
 |[],w,k,_=>rfl
 |x::os,w,k,h=>(ri os (w.alloc x) k (by simp;omega)).trans (Below.heap_alloc _ _ _ h)
def zo:∀(os:List Obj) (w:World) (i:Nat) (o:Obj),os[i]? = some o->(os.foldl (λW o=>W.alloc o) w).heap[w.heap.size+i]? = some o
 |[],w,i,o,h=>by simp at h
 |x::os,w,0,o,h=>by simp only[List.getElem?_cons_zero,Option.some.injEq]at h;subst h;exact(ri os (w.alloc x) w.heap.size (by simp)).trans (World.alloc_heap_new w x)
 |x::os,w,i+1,o,h=>by have:=zo os (w.alloc x) i o (by simpa using h);rw[World.size_alloc]at this;rwa [show w.heap.size+(i+1)=w.heap.size+1+i by omega]
def vv.trans{B1 B2:Nat}{X Y Z:World}(h:vv B1 B2 X Y)(k:vv B1 B2 Y Z):vv B1 B2 X Z:=
 ⟨k.os.trans h.os,k.tape.trans h.tape,k.output.trans h.output,Nat.le_trans h.size k.size,λi C t f h1 h2 hc=>k.same i C t f h1 h2 (h.same i C t f h1 h2 hc),λi hi=>by have e:=h.shape i hi;rw[k.shape i (by rw[e];exact hi),e]⟩
def vv.put(W:World)(l:Nat)(o o':Obj)(hl:W.heap[l]? = some o)(ho:o.isCells=false):vv B1 B2 W (W.putObj l o'):=
 ⟨rfl,rfl,rfl,by simp,λk C t f _ _ hk=>(World.putObj_heap_other (λe=>by subst e;rw[hl]at hk;cases hk;cases ho)).trans hk,λk hk=>by
  by_cases e:k=l
  .subst e;unfold World.shape? at hk;rw[hl]at hk;cases o<;>first|(cases ho;done)|(cases hk;done)
  .exact Dv.bI (World.putObj_heap_other e)⟩
def vv.abk{W:World}{t:TypeId}{v:Value}(v':Value)(b:Nat)(hb:b=B1\/b=B2)(h:Boxed W b t v):vv B1 B2 W (W.setCell ⟨b,0,none⟩ v'):=
 ⟨rfl,rfl,rfl,(KeepsWalks.setCell W _ v').size,λk C t f h1 h2 hk=>(Below.heap_setCell W _ v' k (by rcases hb with rfl|rfl;exact h1;exact h2)).trans hk,λk hk=>by
  by_cases e:k=b
  .subst e;have:=(h.set v');unfold World.shape?;rw[show(W.setCell ⟨k,0,none⟩ v').heap[k]? = _ from this,show W.heap[k]? = _ from h];rfl
  .exact Dv.bI (Below.heap_setCell W _ v' k e)⟩
def Bh{G:Nat->Option (List Dv.DV)}(s:Dv.aa)(j:Dv.bT)(set:Int)(hn:s.nodes.length<=6)(hs6:Dv.gH set)(hmx:0<=j.max/\j.max<=6) :
  Dv.aS G 279 [Dv.aU s,Dv.Gf j,.int set] [] (.cZ [.int (Dv.kK s j set).1,.bool (Dv.kK s j set).2]) []:=by
 refine⟨by decide,λJ ι w vs S hR=>?_⟩;obtain⟨vl⟩:=vs
 match vl,hR with
 |[va,vj,vk],⟨ha,hj,hk,_⟩=>
 have hk:vk=.int .i64 set:=hk;subst hk;obtain⟨cs,rfl,hcs⟩:=ha;obtain⟨cl⟩:=cs;obtain⟨js,rfl,hjs⟩:=hj;obtain⟨jl⟩:=js
 match cl,hcs,jl,hjs with
 |[x0,x1,x2,x3,x4,x5],hcs,[c0,c1,c2,c3,c4,c5,c6,c7,c8,c9,c10,c11],⟨_,e0,_,e1,_,e2,_,e3,_,e4,_,e5,_,e6,_,e7,_,e8,_,e9,_,e10,_,e11,_⟩=>
 simp only[Dv.LV.int,Dv.cW,Dv.kz]at e0 e1 e2 e3 e4 e5 e6 e7 e8 e9 e10 e11;subst e0 e1 e2 e3 e4 e5 e6 e7 e8 e9 e10 e11;have hds:=Dv.m_ (ds:=[.cM 5 (s.nodes.map Dv.cv),.cM 12 (s.jobs.map Dv.dH),Dv.i64 s.goal,Dv.i64 s.prior,Dv.i64 s.mode,Dv.i64 s.term]) rfl hcs.CV;have hone:=hcs.one;refine(callsIn_wide (n:=8)).1 ?_;refine callsIn_of_wp_marks Tryz.func279 rfl trivial ?_ rfl;simp only[Tryz.ntmps279,Nat.reduceAdd,Nat.reduceSub,Dv.sG,Dv.sA]
 gi_wp2_with (refine⟨trivial,?_⟩;gi_at_call 285;refine(L_ _ _ _ _ _ _ _ _ _ _ _ _ _ _ _ _ _ _ _ _ _).mono ?_;rintro e w' ⟨rfl,rfl⟩)
 obtain⟨mset,rfl,hmset⟩:=hs6.nat;have hset:bits BinOp.and IntKind.i64 (mset:Int) 63=(mset:Int):=Dv.aaD ⟨mset,hmset⟩;rw[hset];obtain⟨W0,hW0⟩:∃W0,(((((((w.alloc (Obj.cells #[x0,x1,x2,x3,x4,x5] 34)).alloc (Obj.cells #[Value.int .i64 j.queue,Value.int .i64 j.prio,Value.int .i64 j.min,Value.int .i64 j.max,Value.int .i64 j.work,Value.int .i64 j.pin,Value.int .i64 j.phase,Value.int .i64 j.inc,Value.int .i64 j.nodes,Value.int .i64 j.since,Value.int .i64 j.til,Value.int .i64 j.epoch] 54)).alloc (Obj.cells #[Value.int .i64 0] 3)).alloc (Obj.cells #[Value.int .i64 0] 3)).alloc (Obj.cells #[x0,x1,x2,x3,x4,x5] 34)).alloc (Obj.cells #[Value.int .i64 j.queue,Value.int .i64 j.prio,Value.int .i64 j.min,Value.int .i64 j.max,Value.int .i64 j.work,Value.int .i64 j.pin,Value.int .i64 j.phase,Value.int .i64 j.inc,Value.int .i64 j.nodes,Value.int .i64 j.since,Value.int .i64 j.til,Value.int .i64 j.epoch] 54)).alloc (Obj.cells #[Value.int .i64 (mset:Int)] 3))=W0:=⟨_,rfl⟩;have hsz:W0.heap.size=w.heap.size+7:=by rw[<- hW0];simp
 have hB0:Below w.heap.size w W0:=by rw[<- hW0];exact(((((((Below.refl _ w).alloc (Nat.le_refl _) _).alloc (by simp) _).alloc (by simp;omega) _).alloc (by simp;omega) _).alloc (by simp;omega) _).alloc (by simp;omega) _).alloc (by simp;omega) _
 have hat:∀k o,w.heap.size<=k->[Obj.cells #[x0,x1,x2,x3,x4,x5] 34,Obj.cells #[Value.int .i64 j.queue,Value.int .i64 j.prio,Value.int .i64 j.min,Value.int .i64 j.max,Value.int .i64 j.work,Value.int .i64 j.pin,Value.int .i64 j.phase,Value.int .i64 j.inc,Value.int .i64 j.nodes,Value.int .i64 j.since,Value.int .i64 j.til,Value.int .i64 j.epoch] 54,Obj.cells #[Value.int .i64 0] 3,Obj.cells #[Value.int .i64 0] 3,Obj.cells #[x0,x1,x2,x3,x4,x5] 34,Obj.cells #[Value.int .i64 j.queue,Value.int .i64 j.prio,Value.int .i64 j.min,Value.int .i64 j.max,Value.int .i64 j.work,Value.int .i64 j.pin,Value.int .i64 j.phase,Value.int .i64 j.inc,Value.int .i64 j.nodes,Value.int .i64 j.since,Value.int .i64 j.til,Value.int .i64 j.epoch] 54,Obj.cells #[Value.int .i64 (mset:Int)] 3][k-w.heap.size]? = some o->W0.heap[k]? = some o:=λk o hk ho=>by have:=zo _ w _ o ho;rw[Nat.add_sub_cancel' hk]at this;rw[<- hW0];exact this
 rw[hW0];have g1:W0.heap[w.heap.size+1 ]? = some (Obj.cells #[Value.int .i64 j.queue,Value.int .i64 j.prio,Value.int .i64 j.min,Value.int .i64 j.max,Value.int .i64 j.work,Value.int .i64 j.pin,Value.int .i64 j.phase,Value.int .i64 j.inc,Value.int .i64 j.nodes,Value.int .i64 j.since,Value.int .i64 j.til,Value.int .i64 j.epoch] 54 (0,0)):=hat _ _ (by omega) (by rw[Nat.add_sub_cancel_left];rfl);have g2:Boxed W0 (w.heap.size+1+1) 3 (.int .i64 0):=hat _ _ (by omega) (by rw[show w.heap.size+1+1-w.heap.size=2 by omega];rfl);have g3:Boxed W0 (w.heap.size+1+1+1) 3 (.int .i64 0):=hat _ _ (by omega) (by rw[show w.heap.size+1+1+1-w.heap.size=3 by omega];rfl);have g4:W0.heap[w.heap.size+1+1+1+1 ]? = some (Obj.cells #[x0,x1,x2,x3,x4,x5] 34 (0,0)):=hat _ _ (by omega) (by rw[show w.heap.size+1+1+1+1-w.heap.size=4 by omega];rfl);have g5:W0.heap[w.heap.size+1+1+1+1+1 ]? = some (Obj.cells #[Value.int .i64 j.queue,Value.int .i64 j.prio,Value.int .i64 j.min,Value.int .i64 j.max,Value.int .i64 j.work,Value.int .i64 j.pin,Value.int .i64 j.phase,Value.int .i64 j.inc,Value.int .i64 j.nodes,Value.int .i64 j.since,Value.int .i64 j.til,Value.int .i64 j.epoch] 54 (0,0)):=hat _ _ (by omega) (by rw[show w.heap.size+1+1+1+1+1-w.heap.size=5 by omega];rfl);have g6:Boxed W0 (w.heap.size+1+1+1+1+1+1) 3 (.int .i64 (mset:Int)):=hat _ _ (by omega) (by rw[show w.heap.size+1+1+1+1+1+1-w.heap.size=6 by omega];rfl);clear hat hW0;have hst:∀A,Below w.heap.size w A->Dv.aA G J A ι (Dv.an []):=λA hb=>S.still (λb h=>hb.block b (S.Ey b h)) (λb h=>hb.block b (S.TF h)) (λb h=>Dv.bI (hb.block b (Dv.iA h)))
 refine wpIn_rangeFunc_ownG (n:=8) rfl (by decide) (gf:=299) (lb:=#[.pointer (some ⟨w.heap.size+1+1+1+1,0,none⟩),.pointer (some ⟨w.heap.size+1+1+1+1+1,0,none⟩),.pointer (some ⟨w.heap.size+1+1+1+1+1+1,0,none⟩)]) rfl trivial (enters_of Tryz.func299 (by kernel_rfl) rfl)
  (encs:=λx:Int×Int=>#[.int .i64 x.1,.int .i64 x.2]) (Kp:=vv (w.heap.size+1+1) (w.heap.size+1+1+1)) (S:=λys=>ys=Dv.CB s j mset (Dv.Fv (Dv.gA s))) (Sp:=λ_=>True) (N:=10) (w0:=W0)
  (λl I Jx W hbw hIa _ hY h0=>?seq) (λh k=>h.trans k) (λW l o o' hl ho hc hw=>?kb) (Below.refl _ _) (λ_=>rfl)
  (λpre W=>Below w.heap.size w W/\Boxed W (w.heap.size+1+1) 3 (.int .i64 (pre.foldl (λq x=>Dv.rR j.max q x.2) (0,0)).1)/\Boxed W (w.heap.size+1+1+1) 3 (.int .i64 (pre.foldl (λq x=>Dv.rR j.max q x.2) (0,0)).2)/\W.heap[w.heap.size+1 ]? = some (Obj.cells #[Value.int .i64 j.queue,Value.int .i64 j.prio,Value.int .i64 j.min,Value.int .i64 j.max,Value.int .i64 j.work,Value.int .i64 j.pin,Value.int .i64 j.phase,Value.int .i64 j.inc,Value.int .i64 j.nodes,Value.int .i64 j.since,Value.int .i64 j.til,Value.int .i64 j.epoch] 54 (0,0))/\W0.heap.size<=W.heap.size)
  (λ_ _ _=>False) ?own (λc=>λ_ _ _ _ h=>h.elim) ⟨hB0,g2,g3,g1,Nat.le_refl _⟩
  (λx=>{ tmps:=#[.agg #[x0,x1,x2,x3,x4,x5],.agg #[Value.int .i64 j.queue,Value.int .i64 j.prio,Value.int .i64 j.min,Value.int .i64 j.max,Value.int .i64 j.work,Value.int .i64 j.pin,Value.int .i64 j.phase,Value.int .i64 j.inc,Value.int .i64 j.nodes,Value.int .i64 j.since,Value.int .i64 j.til,Value.int .i64 j.epoch],.int .i64 (mset:Int),.pointer (some ⟨w.heap.size,0,none⟩),.pointer (some ⟨w.heap.size+1,0,none⟩),undef,.int .i64 0,.bool false,.pointer (some ⟨w.heap.size+1+1,0,none⟩),.pointer (some ⟨w.heap.size+1+1+1,0,none⟩),undef,.int .i64 x.2,undef,.agg #[x0,x1,x2,x3,x4,x5],.agg #[Value.int .i64 j.queue,Value.int .i64 j.prio,Value.int .i64 j.min,Value.int .i64 j.max,Value.int .i64 j.work,Value.int .i64 j.pin,Value.int .i64 j.phase,Value.int .i64 j.inc,Value.int .i64 j.nodes,Value.int .i64 j.since,Value.int .i64 j.til,Value.int .i64 j.epoch],.int .i64 (mset:Int),.int .i64 (mset:Int),.func (.func 299) #[] #[.pointer (some ⟨w.heap.size+1+1+1+1,0,none⟩),.pointer (some ⟨w.heap.size+1+1+1+1+1,0,none⟩),.pointer (some ⟨w.heap.size+1+1+1+1+1+1,0,none⟩)],.int .i64 x.1,.int .i64 x.2,undef,undef,undef,undef,undef,undef,undef,undef,undef,undef,undef,undef,undef,undef,undef,undef],defers:=[] }) ?assign ?body ?done (λ_ _ _ _ _ _ h=>h.elim)
 case seq=>
  have hC:∀k,k<W0.heap.size->W.heap[k]? = W0.heap[k]?:=λk hk=>hbw.block k hk
  have hBW:Below w.heap.size w W:=hB0.trans (hbw.mono (by omega));exact Ji s j mset hn ⟨by omega,by omega⟩ 7 (by decide) l _ _ _ (w.heap.size+1+1) (w.heap.size+1+1+1) W x0 x1 x2 x3 x4 x5 (hst W hBW) (λk hk=>by have:=S.Ey k hk;omega) (by omega) (by omega) (by omega) (by have:=hbw.size;omega) (by have:=hbw.size;omega)
   ⟨(hC _ (by omega)).trans g4,Dv.bG.mono (λ_ h=>h) (λb h=>hBW.block b (S.Ey b h)) _ _ hds,hone⟩ ((hC _ (by omega)).trans g5) ((hC _ (by omega)).trans g6) I Jx (λpre A A' h hg=>hIa pre A A' none h hg (λr e=>by cases e)) hY h0
 case kb=>exact vv.put W l o o' ho hc
 case own=>
  rintro pre A A' row ⟨hB,hb1,hb2,hj1,hsz1⟩ hg hr;have hne:∀k,k<W0.heap.size->some k≠row:=λk hk e=>by have:=(hr k e.symm).1;omega
  exact⟨hB.grown hg hB.size (λk e=>by have:=(hr k e).1;omega),hb1.kept hg (hne _ (by omega)),hb2.kept hg (hne _ (by omega)),(hg.block _ (by omega) (hne _ (by omega))).trans hj1,Nat.le_trans hsz1 hg.size⟩
 case assign=>
  intro l x W K hK
  gi_wp2
  exact hK
 case body=>
  rintro l pre x W ⟨hB,hb1,hb2,hj1,hsz1⟩ hlen;have mixed:Tryz.prog.follows .mixedOrders=true:=by kernel_rfl
  have hBd:Below w.heap.size w W.drew:=⟨hB.os,hB.tape,hB.output,hB.size,hB.block⟩;have hCt:=(Dv.tE (G:=G) x.2).num (hst _ hBd) (vs:=#[.int .i64 x.2]) ⟨rfl,trivial⟩;have hp3:W.cell? ⟨w.heap.size+1,3,none⟩=some (.int .i64 j.max):=by simp only[World.cell?,hj1];rfl
  have hfold:(pre++[x]).foldl (λq x=>Dv.rR j.max q x.2) (0,0)=Dv.rR j.max (pre.foldl (λq x=>Dv.rR j.max q x.2) (0,0)) x.2:=by rw[List.foldl_append];rfl
  generalize(pre.foldl (λq x=>Dv.rR j.max q x.2) (0,0))=p at *;obtain⟨best,most⟩:=p;dsimp only at hb1 hb2;generalize hc:Dv.many (x.2 % 64)=c at hCt;have hst2:Dv.rR j.max (best,most) x.2=if most<(if j.max<c then j.max else c)then(x.2,if j.max<c then j.max else c)else(best,most):=by unfold Dv.rR Dv.UI;rw[hc]
  rw[hst2]at hfold;have hlt1:w.heap.size+1<W.drew.heap.size:=(Array.getElem?_eq_some_iff.1 hj1).1
  gi_wp2
  gi_region_with_o (refine⟨trivial,?_⟩;gi_at_call 268;refine(CallsIn.mono (CallsIn.inRound l (callsIn_wide.2 hCt)) ?_);rintro e w3 ⟨rfl,hb3⟩;have hp4:w3.cell? ⟨w.heap.size+1,3,none⟩=some (.int .i64 j.max):=((Dv.kr (hb3.block _ hlt1)).trans hp3))
  all_goals
   have hlt3:=hb3.size;have b1:Boxed w3 (w.heap.size+1+1) 3 (.int .i64 best):=(hb3.block _ (show w.heap.size+1+1<W.heap.size by omega)).trans hb1;have b2:Boxed w3 (w.heap.size+1+1+1) 3 (.int .i64 most):=(hb3.block _ (show w.heap.size+1+1+1<W.heap.size by omega)).trans hb2;have bb2:Boxed (w3.setCell ⟨w.heap.size+1+1,0,none⟩ (.int .i64 x.2)) (w.heap.size+1+1+1) 3 (.int .i64 most):=b2.kept (grownBy_setCell' _ _ _) (by simp);have d1:=b1.cell;have e1:=b1.frozen;have d2:=b2.cell;have d3:=bb2.cell;have e3:=bb2.frozen;have Hk:vv (w.heap.size+1+1) (w.heap.size+1+1+1) W w3:=(vv.drew W).trans (vv.nH hb3);have Hf:KeepsFrom (w.heap.size+7) W w3:=⟨hlt3,λk o _ hk _=>(hb3.block k (Array.getElem?_eq_some_iff.1 hk).1).trans hk⟩;have HB:Below w.heap.size w w3:=hBd.trans (hb3.mono hB.size);have Hj:w3.heap[w.heap.size+1 ]? = _:=(hb3.block _ hlt1).trans hj1;have hsz3:W0.heap.size<=w3.heap.size:=Nat.le_trans hsz1 hlt3
   gi_wp2
  all_goals
   rw[<- hsz];first
   |(have hy:=‹most<if j.max<c then j.max else c›
     rw[if_pos hy]at hfold;refine⟨hsz▸(Hf.trans ((KeepsOthers.setCell _ _ _).from _)).trans ((KeepsOthers.setCell _ _ _).from _),(Hk.trans (vv.abk _ _ (.inl rfl) b1)).trans (vv.abk _ _ (.inr rfl) bb2),(HB.setCell (p:=⟨w.heap.size+1+1,0,none⟩) (show w.heap.size<=w.heap.size+1+1 by omega) _).setCell (p:=⟨w.heap.size+1+1+1,0,none⟩) (show w.heap.size<=w.heap.size+1+1+1 by omega) _,?_,?_,?_,?_⟩
     .rw [hfold];exact(b1.set _).kept (grownBy_setCell' _ _ _) (by simp)
     .rw [hfold];first
      |(rw[if_pos ‹j.max<c›];exact bb2.set _)
      |(rw[if_neg (by omega)];exact bb2.set _)
     .exact (Below.heap_setCell _ _ _ _ (show w.heap.size+1≠w.heap.size+1+1+1 by omega)).trans ((Below.heap_setCell _ _ _ _ (show w.heap.size+1≠w.heap.size+1+1 by omega)).trans Hj)
     .exact Nat.le_trans hsz3 (Nat.le_trans (KeepsWalks.setCell _ _ _).size (KeepsWalks.setCell _ _ _).size))
   |(have hy:=‹(if j.max<c then j.max else c)<=most›
     rw[if_neg (by omega)]at hfold;refine⟨hsz▸Hf,Hk,HB,?_,?_,Hj,hsz3⟩
     .rw [hfold];exact b1
     .rw [hfold];exact b2)
 case done=>
  rintro D ys W hD rfl ⟨hB,hb1,hb2,hj1,hsz1⟩ hK;have mixed:Tryz.prog.follows .mixedOrders=true:=by kernel_rfl
  rw[Dv.CA s j mset hn]at hb1 hb2;have e1:=hb1.cell;have e2:=hb2.cell;have hp3:W.cell? ⟨w.heap.size+1,3,none⟩=some (.int .i64 j.max):=by simp only[World.cell?,hj1];rfl
  have hbp:(((Dv.Fv (Dv.gA s)).filter (Dv.okV s j mset)).map (Dv.gj s mset)).foldl (Dv.vL j.max) (0,0)=Dv.p_ s j mset:=rfl;rw[hbp]at e1 e2 hb1 hb2;have h6:=Dv.X1 s j mset hn;have hBd:Below w.heap.size w W.drew:=⟨hB.os,hB.tape,hB.output,hB.size,hB.block⟩;have hL:=(Dv.K9 (G:=G) (Dv.p_ s j mset).1 j.max h6 ⟨hmx.1,by omega⟩).num (hst _ hBd) (vs:=#[.int .i64 (Dv.p_ s j mset).1,.int .i64 j.max]) ⟨rfl,rfl,trivial⟩;have hpk:Dv.kK s j mset=(Dv.yx 6 ((Dv.p_ s j mset).1,j.max,0),decide (0<(Dv.p_ s j mset).2)):=rfl;generalize Dv.p_ s j mset=p at *;obtain⟨best,most⟩:=p;dsimp only at *;generalize Dv.yx 6 (best,j.max,0)=r at *;have hlt2:w.heap.size+1+1+1<W.drew.heap.size:=hb2.lt;have hDl:D<W.drew.heap.size:=(Array.getElem?_eq_some_iff.1 hK).1
  gi_wp2
  refine Oc ?_
  gi_region_with_o (refine⟨trivial,?_⟩;gi_at_call 286;refine(callsIn_wide.2 hL).mono ?_;rintro e w3 ⟨rfl,hb3⟩;have e3:w3.cell? ⟨w.heap.size+1+1+1,0,none⟩=some (.int .i64 most):=((Dv.kr (hb3.block _ hlt2)).trans e2);have hK3:w3.heap[D]? = some (.deferred (some [])):=((hb3.block _ hDl).trans hK))
  all_goals simp only[Zf]
  all_goals gi_wp2
  all_goals
   refine⟨by simp,.inl ⟨_,_,rfl,run_takeDeferred hK3,?_⟩⟩;have hB4:Below w.heap.size w (w3.putObj D (.deferred none)):=(hBd.trans (hb3.mono hB.size)).grown (grownBy_putObj' w3 D (.deferred none)) (Nat.le_trans hB.size hb3.size) (λk e=>by cases e;omega);refine⟨.tuple #[.int .i64 r,.bool (decide (0<most))],?_,_,rfl,?_⟩
   .simp [results,Tryz.f279,go_sem]
   .rw [hpk];exact Dv.aO.Wq S hB4 (λ_ _ _=>⟨_,rfl,rfl,rfl,trivial⟩)
end Go.Proofs
