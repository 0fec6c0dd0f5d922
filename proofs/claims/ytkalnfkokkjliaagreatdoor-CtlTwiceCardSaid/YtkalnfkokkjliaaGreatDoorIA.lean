/- part -/
import Derived.Test.YtkalnfkokkjliaaGreatDoorDB
import Derived.Test.YtkalnfkokkjliaaGreatDoorVD
import Derived.Tactics
import Derived.Tactics2
import Derived.WalkKit
import Derived.Test.YtkalnfkokkjliaaGreatDoorPB
import Derived.Defers
import Derived.Recover
import Derived.Laws.Pointers
import Derived.Test.YtkalnfkokkjliaaGreatDoorI0
import Derived.Test.YtkalnfkokkjliaaGreatDoorDF
set_option linter.all false
set_option maxHeartbeats 4000000
set_option maxRecDepth 1000000
namespace Dv
open Go Go.Proofs
open Go.RowKit
variable {G:Nat→Option (List DV)}
def nT:Value:=.iface 275 (.agg #[])
def Xt:=qx Tryz.f216
theorem TO:aj Tryz.prog Tryz.f216=some Xt:=by kernel_rfl
theorem qO:bw Tryz.prog G 216 [.bool true] [] (.dJ []) []:=by
 refine br Tryz.func216 (by decide) TO rfl rfl ?_
 simp only [Xt,go_sem]
theorem lD:wK Tryz.prog G 216 [.bool false] [] nT []:=by
 refine ⟨by decide,fun J ι w vs S hR=>?_⟩
 obtain ⟨vl⟩:=vs
 match vl,hR with
 | [v],⟨hv,_⟩=>
 have hv:v=.bool false:=hv
 subst hv
 go_enter Tryz.func216,Tryz.ntmps216
 have hp:∀ (u:TypeId) (v:Value) (w:World),(Instr.panic (.iface u v)).run Tryz.prog w=.halt (.panic (.iface u v)) w:=fun _ _ _=>rfl
 go_wp2
 exact ⟨rfl,rfl,bg.stay S trivial⟩
end Dv
namespace Dv
open Go Go.Proofs
variable {G:Nat→Option (List DV)}
def Px:=qx Tryz.f263
theorem Ke:aj Tryz.prog Tryz.f263=some Px:=by kernel_rfl
def Ko:=qx Tryz.f262
theorem DS:aj Tryz.prog Tryz.f262=some Ko:=by kernel_rfl
def Ml (l:List Int):List (List DV):=l.map fun x=>[i64 x]
def zl (xs:List Int) (k:Nat):List aH:=[.box 282 [.sl 1 xs.length 1 k (xs.length-k)],.dat 3 1 (Ml xs)]
attribute [local go_sem] zl Ml
attribute [local simp] zl
theorem cW (xs:List Int) (k:Nat) (hk:k<xs.length) (h63:xs.length≤1000000):bw Tryz.prog G 263 [.ptr 0 0] (zl xs k) (.int (xs.getD k 0)) (zl xs (k+1)):=by
 have hg:=aJ (f:=fun x:Int=>[i64 x]) 0 hk
 generalize xs.getD k 0=x at *
 refine aT Tryz.func263 (by decide) Ke rfl rfl rfl rfl ?_
 simp only [Px,go_sem]
 have h1:decide (((xs.length-k:Nat):Int)>0)=true:=decide_eq_true (by omega)
 simp only [h1,go_sem]
 refine ay (qO) rfl rfl rfl rfl ?_; simp only [go_sem]
 have h2:0<xs.length-k:=by omega
 have h3:xs.length-k-1=xs.length-(k+1):=by omega
 have h4:1≤xs.length-k∧xs.length-k≤xs.length-k:=by omega
 simp only [h2,hg,if_pos h4,h3,go_sem]
theorem cH (xs:List Int):wK Tryz.prog G 263 [.ptr 0 0] (zl xs xs.length) nT (zl xs xs.length):=by
 refine JG Tryz.func263 (by decide) Ke rfl rfl ?_ ?_
 ·simp only [go_sem]
 have h1:decide (((xs.length-xs.length:Nat):Int)>0)=false:=decide_eq_false (by omega)
 simp only [Px,h1,go_sem]
 refine oh lD rfl rfl rfl ?_
 simp only [eZ,iI,go_sem]
theorem s9 (xs:List Int) (k:Nat) (most:Int) (hk:k<xs.length) (h63:xs.length≤1000000) (hm:xs.getD k 0≤most):bw Tryz.prog G 262 [.ptr 0 0,.int most] (zl xs k) (.int (xs.getD k 0)) (zl xs (k+1)):=by
 refine aT Tryz.func262 (by decide) DS rfl rfl rfl rfl ?_
 simp only [Ko,go_sem]
 refine av [0,1] (cW xs k hk h63) rfl ?_ (by decide) ?_ ?_ (by simp) ?_ <;> simp only [ag,ah,go_sem]
 rw [decide_eq_true hm]
 refine ay (qO) rfl rfl rfl rfl ?_; simp only [go_sem]
theorem qz (xs:List Int) (k:Nat) (most:Int) (hk:k<xs.length) (h63:xs.length≤1000000) (hm:¬ xs.getD k 0≤most):wK Tryz.prog G 262 [.ptr 0 0,.int most] (zl xs k) nT (zl xs (k+1)):=by
 refine JG Tryz.func262 (by decide) DS rfl rfl ?_ ?_
 ·simp only [go_sem]
 simp only [Ko,go_sem]
 refine av [0,1] (cW xs k hk h63) rfl ?_ (by decide) ?_ ?_ (by simp) ?_ <;> simp only [ag,ah,go_sem]
 rw [decide_eq_false hm]
 refine oh lD rfl rfl rfl ?_
 simp only [eZ,iI,go_sem]
theorem oD (xs:List Int) (most:Int):wK Tryz.prog G 262 [.ptr 0 0,.int most] (zl xs xs.length) nT (zl xs xs.length):=by
 refine JG Tryz.func262 (by decide) DS rfl rfl ?_ ?_
 ·simp only [go_sem]
 simp only [Ko,go_sem]
 refine cU [0,1] (cH xs) rfl ?_ (by decide) ?_ ?_ (by simp) ?_ <;> simp only [ag,ah,eZ,gY,iI,go_sem]
end Dv
namespace Dv
open Go Go.Proofs
variable {G:Nat→Option (List DV)}
def Pz:=qx Tryz.f217
theorem Kh:aj Tryz.prog Tryz.f217=some Pz:=by kernel_rfl
attribute [local go_sem] zl Ml
attribute [local simp] zl
def kg:LV:=.d (.val (.slice none 0 0))
attribute [local go_sem] kg
def aaT (xs:List Int):Except Nat aa→St→Prop
 | .ok s=>vv [.cn 2 6] 2 (.agg [.sl 2 s.nodes.length 5 0 s.nodes.length,.sl 3 s.jobs.length 12 0 s.jobs.length,.int s.goal,.int s.prior,.int s.mode,.int s.term]) (zl xs xs.length++[.dat 102 5 (s.nodes.map bY),.dat 119 12 (s.jobs.map dD)])
 | .error _=>fun _=>False
def fT (xs:List Int):Except Nat aa→List It
 | .ok _=>[]
 | .error k=>[.pn (iI nT (zl xs k))]
def R4 (xs:List Int) (n:Int) (ns:List bp):St:=⟨[(0,.ptr 0 0),(2,.ptr 2 0),(3,.ptr 3 0),(7,.int n),(8,.int ns.length)],
 [some (.box 282 [.sl 1 xs.length 1 (1+3*ns.length) (xs.length-(1+3*ns.length))]),some (.dat 3 1 (Ml xs)),some (.box 30 [kg,kg,.int 0,.int 0,.int 0,.int 0]),
  some (.box 30 [.sl 4 ns.length 5 0 ns.length,kg,.int 0,.int 0,.int 0,.int 0]),some (.dat 102 5 (ns.map bY))]⟩
def R5 (xs:List Int) (m:Int) (ns:List bp) (p0:Nat) (js:List bP):St:=⟨[(0,.ptr 0 0),(2,.ptr 2 0),(3,.ptr 3 0),(33,.int m),(34,.int js.length)],
 [some (.box 282 [.sl 1 xs.length 1 (p0+12*js.length) (xs.length-(p0+12*js.length))]),some (.dat 3 1 (Ml xs)),some (.box 30 [kg,kg,.int 0,.int 0,.int 0,.int 0]),
  some (.box 30 [.sl 4 ns.length 5 0 ns.length,.sl 5 js.length 12 0 js.length,.int 0,.int 0,.int 0,.int 0]),some (.dat 102 5 (ns.map bY)),some (.dat 119 12 (js.map dD))]⟩
theorem y5 (xs:List Int) (Vi:xs.length≤400) (h0:∀ x∈xs,0≤x):W Tryz.prog G (aaT xs (kC xs)) (.c Pz.2.1::fT xs (kC xs)) ⟨fF 0 [.ptr 0 0],(zl xs 0).map some⟩:=by
 generalize hq:kC xs=q
 replace hq:kC (xs.drop 0)=q:=hq
 simp only [Pz,go_sem]
 cases hl:xs.drop 0 with
 | nil=>
   have hk:=cG hl (Nat.zero_le _)
   rw [hl,kC] at hq
   subst hq
   simp only [fT]
   have hT:=oD (G:=G) xs 6
   rw [← hk] at hT
   refine cU [0,1] (hT) rfl ?_ (by decide) ?_ ?_ (by simp) ?_ <;> simp only [ag,ah,eZ,gY,iI,go_sem]
 | cons n l=>
 obtain ⟨hk,hx,hd⟩:=b_ hl
 have hn0:0≤n:=h0 n (by rw [← hx]; simp [List.getD,hk])
 rw [hl,kC] at hq
 split at hq
 case isFalse hn6=>
  subst hq
  simp only [fT]
  have hT:=qz (G:=G) xs 0 6 hk (by omega) (by rw [hx]; exact hn6)
  refine cU [0,1] (hT) rfl ?_ (by decide) ?_ ?_ (by simp) ?_ <;> simp only [ag,ah,eZ,gY,iI,go_sem]
 rename_i hn6
 have hT:=s9 (G:=G) xs 0 6 hk (by omega) (by rw [hx]; exact hn6)
 rw [hx] at hT
 refine av [0,1] (hT) rfl ?_ (by decide) ?_ ?_ (by simp) ?_ <;> simp only [ag,ah,go_sem]
 refine aW [0,2,3,7,8] [.b 3 0 102 5] (fun ns:List bp=>ns.length≤n.toNat∧1+3*ns.length≤xs.length∧ig (n.toNat-ns.length) ns (1+3*ns.length) (xs.drop (1+3*ns.length))=q) (fun ns=>n.toNat-ns.length) (R4 xs n) [] ?_ ⟨Nat.zero_le _,by rw [List.length_nil]; omega,by rw [← hd] at hq; exact hq⟩ ?_
 ·simp only [R4,go_sem,Int.natCast_zero,Nat.mul_zero]
 clear hT hq hd hl hx
 rintro ns ⟨hi,hp,hF⟩
 generalize sE:ns.length=i at *
 simp only [R4,sE,go_sem]
 cases hlt:decide ((i:Int)<n) with
 | false=>
   have hin:i=n.toNat:=by have:=of_decide_eq_false hlt; omega
   rw [show n.toNat-i=0 by omega,w8] at hF
   simp only [go_sem]
   cases hl:xs.drop (1+3*i) with
   | nil=>
     have hk:=cG hl hp
     rw [hl] at hF
     replace hF:Except.error (1+3*i)=q:=hF
     subst hF
     simp only [fT]
     have hT:=oD (G:=G) xs 24
     rw [← hk] at hT
     refine cU [0,1] (hT) rfl ?_ (by decide) ?_ ?_ (by simp) ?_ <;> simp only [ag,ah,eZ,gY,iI,go_sem]
   | cons m l=>
   obtain ⟨hk,hx,hd⟩:=b_ hl
   have hm0:0≤m:=h0 m (by rw [← hx]; simp [List.getD,hk])
   rw [hl] at hF
   by_cases U8:m≤24
   case neg=>
    rw [HK _ _ _ _ U8] at hF
    subst hF
    simp only [fT]
    have hT:=qz (G:=G) xs (1+3*i) 24 hk (by omega) (by rw [hx]; exact U8)
    refine cU [0,1] (hT) rfl ?_ (by decide) ?_ ?_ (by simp) ?_ <;> simp only [ag,ah,eZ,gY,iI,go_sem]
   have hT:=s9 (G:=G) xs (1+3*i) 24 hk (by omega) (by rw [hx]; exact U8)
   rw [hx] at hT
   rw [B8 _ _ _ _ U8] at hF
   refine av [0,1] (hT) rfl ?_ (by decide) ?_ ?_ (by simp) ?_ <;> simp only [ag,ah,go_sem]
   generalize hp0:1+3*i+1=p0 at *
   have adR:ns.length≤6:=by omega
   refine aW [0,2,3,33,34] [.b 3 1 119 12] (fun js:List bP=>js.length≤m.toNat∧p0+12*js.length≤xs.length∧qH ns (m.toNat-js.length) js (p0+12*js.length) (xs.drop (p0+12*js.length))=q) (fun js=>m.toNat-js.length) (R5 xs m ns p0) [] ?_ ⟨Nat.zero_le _,by rw [List.length_nil]; omega,by rw [← hd] at hF; exact hF⟩ ?_
   ·simp only [R5,sE,go_sem,Int.natCast_zero,Nat.mul_zero]
   clear hT hF hd hl hx hk hp0
   rintro js ⟨hjm,hP,hF⟩
   generalize hlj:js.length=k at *
   generalize hPk:p0+12*k=P at *
   simp only [R5,hlj,hPk,sE,go_sem]
   cases abU:decide ((k:Int)<m) with
   | false=>
     have hkm:k=m.toNat:=by have:=of_decide_eq_false abU; omega
     rw [show m.toNat-k=0 by omega,zw] at hF
     simp only [go_sem]
     generalize Ny:xs.drop P=l0 at hF
     cases hl0:l0 with
     | nil=>
       have hk:=cG (Ny.trans hl0) (by omega)
       have kq:Except.error (P+0)=q:=by rw [← hF,hl0]; rfl
       rw [show P+0=P from rfl] at kq
       subst kq
       simp only [fT]
       have hT:=cH (G:=G) xs
       rw [← hk] at hT
       refine cU [0,1] (hT) rfl ?_ (by decide) ?_ ?_ (by simp) ?_ <;> simp only [ag,ah,eZ,gY,iI,go_sem]
     | cons x0 l1=>
     obtain ⟨hk0,hx0,YH⟩:=b_ (Ny.trans hl0)
     have hT:=cW (G:=G) xs (P) hk0 (by omega)
     rw [hx0] at hT
     refine av [0,1] (hT) rfl ?_ (by decide) ?_ ?_ (by simp) ?_ <;> simp only [ag,ah,go_sem]
     clear hT
     cases tP:l1 with
     | nil=>
       have hk:=cG (YH.trans tP) (by omega)
       have kq:Except.error (P+1)=q:=by rw [← hF,hl0,tP]; rfl
       rw [show P+1=P+1 from rfl] at kq
       subst kq
       simp only [fT]
       have hT:=cH (G:=G) xs
       rw [← hk] at hT
       refine cU [0,1] (hT) rfl ?_ (by decide) ?_ ?_ (by simp) ?_ <;> simp only [ag,ah,eZ,gY,iI,go_sem]
     | cons x1 l2=>
     obtain ⟨wg,hx1,hd2⟩:=b_ (YH.trans tP)
     have hT:=cW (G:=G) xs (P+1) wg (by omega)
     rw [hx1] at hT
     refine av [0,1] (hT) rfl ?_ (by decide) ?_ ?_ (by simp) ?_ <;> simp only [ag,ah,go_sem]
     clear hT
     cases hl2:l2 with
     | nil=>
       have hk:=cG (hd2.trans hl2) (by omega)
       have kq:Except.error (P+2)=q:=by rw [← hF,hl0,tP,hl2]; rfl
       rw [show P+2=P+1+1 from rfl] at kq
       subst kq
       simp only [fT]
       have hT:=cH (G:=G) xs
       rw [← hk] at hT
       refine cU [0,1] (hT) rfl ?_ (by decide) ?_ ?_ (by simp) ?_ <;> simp only [ag,ah,eZ,gY,iI,go_sem]
     | cons x2 l3=>
     obtain ⟨hk2,hx2,Qo⟩:=b_ (hd2.trans hl2)
     have hT:=cW (G:=G) xs (P+1+1) hk2 (by omega)
     rw [hx2] at hT
     refine av [0,1] (hT) rfl ?_ (by decide) ?_ ?_ (by simp) ?_ <;> simp only [ag,ah,go_sem]
     clear hT
     cases Bo:l3 with
     | nil=>
       have hk:=cG (Qo.trans Bo) (by omega)
       have kq:Except.error (P+3)=q:=by rw [← hF,hl0,tP,hl2,Bo]; rfl
       rw [show P+3=P+1+1+1 from rfl] at kq
       subst kq
       simp only [fT]
       have hT:=cH (G:=G) xs
       rw [← hk] at hT
       refine cU [0,1] (hT) rfl ?_ (by decide) ?_ ?_ (by simp) ?_ <;> simp only [ag,ah,eZ,gY,iI,go_sem]
     | cons x3 l4=>
     obtain ⟨U_,hx3,hd4⟩:=b_ (Qo.trans Bo)
     have hT:=cW (G:=G) xs (P+1+1+1) U_ (by omega)
     rw [hx3] at hT
     refine av [0,1] (hT) rfl ?_ (by decide) ?_ ?_ (by simp) ?_ <;> simp only [ag,ah,go_sem]
     clear hT
     cases EC:l4 with
     | cons y l5=>
       obtain ⟨hk4,_,_⟩:=b_ (hd4.trans EC)
       have kq:Except.error (P+4)=q:=by rw [← hF,hl0,tP,hl2,Bo,EC]; rfl
       rw [show P+4=P+1+1+1+1 from rfl] at kq
       subst kq
       simp only [fT]
       have h1:(((xs.length-(P+1+1+1+1):Nat):Int)==0)=false:=by simp; omega
       simp only [h1,go_sem]
       refine oh lD rfl rfl rfl ?_
       simp only [eZ,gY,iI,go_sem]
     | nil=>
     have hk:=cG (hd4.trans EC) (by omega)
     have kq:Except.ok ⟨ns,js,x0,x1,x2,x3⟩=q:=by rw [← hF,hl0,tP,hl2,Bo,EC]; rfl
     subst kq
     simp only [fT]
     have h1:(((xs.length-(P+1+1+1+1):Nat):Int)==0)=true:=by simp; omega
     simp only [h1,go_sem]
     refine ay (qO) rfl rfl rfl rfl ?_; simp only [go_sem]
     simp only [aaT]
     clear hPk
     rw [hk]
     subst sE hlj
     refine dh [] [0,1,4,5] [] rfl rfl (by decide) (by simp) (by simp) rfl rfl ?_
     show ah _ _ _ (.agg [.sl 4 ns.length 5 0 ns.length,.sl 5 js.length 12 0 js.length,.int x0,.int x1,.int x2,.int x3]) _
     simp [ah,ag,LV.int]
   | true=>
   have hkm:k<m.toNat:=by have:=of_decide_eq_true abU; omega
   rw [show m.toNat-k=(m.toNat-(k+1))+1 by omega] at hF
   simp only [go_sem]
   generalize Ny:xs.drop P=l0 at hF
   cases hl0:l0 with
   | nil=>
     have hk:=cG (Ny.trans hl0) (by omega)
     have kq:Except.error (P+0)=q:=by rw [← hF,hl0]; rfl
     rw [show P+0=P from rfl] at kq
     subst kq
     simp only [fT]
     have hT:=cH (G:=G) xs
     rw [← hk] at hT
     refine cU [0,1] (hT) rfl ?_ (by decide) ?_ ?_ (by simp) ?_ <;> simp only [ag,ah,eZ,gY,iI,go_sem]
   | cons x0 l1=>
   obtain ⟨hk0,hx0,YH⟩:=b_ (Ny.trans hl0)
   have hT:=cW (G:=G) xs (P) hk0 (by omega)
   rw [hx0] at hT
   refine av [0,1] (hT) rfl ?_ (by decide) ?_ ?_ (by simp) ?_ <;> simp only [ag,ah,go_sem]
   clear hT
   cases tP:l1 with
   | nil=>
     have hk:=cG (YH.trans tP) (by omega)
     have kq:Except.error (P+1)=q:=by rw [← hF,hl0,tP]; rfl
     rw [show P+1=P+1 from rfl] at kq
     subst kq
     simp only [fT]
     have hT:=cH (G:=G) xs
     rw [← hk] at hT
     refine cU [0,1] (hT) rfl ?_ (by decide) ?_ ?_ (by simp) ?_ <;> simp only [ag,ah,eZ,gY,iI,go_sem]
   | cons x1 l2=>
   obtain ⟨wg,hx1,hd2⟩:=b_ (YH.trans tP)
   have hT:=cW (G:=G) xs (P+1) wg (by omega)
   rw [hx1] at hT
   refine av [0,1] (hT) rfl ?_ (by decide) ?_ ?_ (by simp) ?_ <;> simp only [ag,ah,go_sem]
   clear hT
   cases hl2:l2 with
   | nil=>
     have hk:=cG (hd2.trans hl2) (by omega)
     have kq:Except.error (P+2)=q:=by rw [← hF,hl0,tP,hl2]; rfl
     rw [show P+2=P+1+1 from rfl] at kq
     subst kq
     simp only [fT]
     have hT:=cH (G:=G) xs
     rw [← hk] at hT
     refine cU [0,1] (hT) rfl ?_ (by decide) ?_ ?_ (by simp) ?_ <;> simp only [ag,ah,eZ,gY,iI,go_sem]
   | cons x2 l3=>
   obtain ⟨hk2,hx2,Qo⟩:=b_ (hd2.trans hl2)
   have hT:=cW (G:=G) xs (P+1+1) hk2 (by omega)
   rw [hx2] at hT
   refine av [0,1] (hT) rfl ?_ (by decide) ?_ ?_ (by simp) ?_ <;> simp only [ag,ah,go_sem]
   clear hT
   cases Bo:l3 with
   | nil=>
     have hk:=cG (Qo.trans Bo) (by omega)
     have kq:Except.error (P+3)=q:=by rw [← hF,hl0,tP,hl2,Bo]; rfl
     rw [show P+3=P+1+1+1 from rfl] at kq
     subst kq
     simp only [fT]
     have hT:=cH (G:=G) xs
     rw [← hk] at hT
     refine cU [0,1] (hT) rfl ?_ (by decide) ?_ ?_ (by simp) ?_ <;> simp only [ag,ah,eZ,gY,iI,go_sem]
   | cons x3 l4=>
   obtain ⟨U_,hx3,hd4⟩:=b_ (Qo.trans Bo)
   have hT:=cW (G:=G) xs (P+1+1+1) U_ (by omega)
   rw [hx3] at hT
   refine av [0,1] (hT) rfl ?_ (by decide) ?_ ?_ (by simp) ?_ <;> simp only [ag,ah,go_sem]
   clear hT
   cases EC:l4 with
   | nil=>
     have hk:=cG (hd4.trans EC) (by omega)
     have kq:Except.error (P+4)=q:=by rw [← hF,hl0,tP,hl2,Bo,EC]; rfl
     rw [show P+4=P+1+1+1+1 from rfl] at kq
     subst kq
     simp only [fT]
     have hT:=cH (G:=G) xs
     rw [← hk] at hT
     refine cU [0,1] (hT) rfl ?_ (by decide) ?_ ?_ (by simp) ?_ <;> simp only [ag,ah,eZ,gY,iI,go_sem]
   | cons x4 l5=>
   obtain ⟨hk4,hx4,hd5⟩:=b_ (hd4.trans EC)
   have hT:=cW (G:=G) xs (P+1+1+1+1) hk4 (by omega)
   rw [hx4] at hT
   refine av [0,1] (hT) rfl ?_ (by decide) ?_ ?_ (by simp) ?_ <;> simp only [ag,ah,go_sem]
   clear hT
   cases P0:l5 with
   | nil=>
     have hk:=cG (hd5.trans P0) (by omega)
     have kq:Except.error (P+5)=q:=by rw [← hF,hl0,tP,hl2,Bo,EC,P0]; rfl
     rw [show P+5=P+1+1+1+1+1 from rfl] at kq
     subst kq
     simp only [fT]
     have hT:=cH (G:=G) xs
     rw [← hk] at hT
     refine cU [0,1] (hT) rfl ?_ (by decide) ?_ ?_ (by simp) ?_ <;> simp only [ag,ah,eZ,gY,iI,go_sem]
   | cons x5 l6=>
   obtain ⟨hk5,hx5,hd6⟩:=b_ (hd5.trans P0)
   have hT:=cW (G:=G) xs (P+1+1+1+1+1) hk5 (by omega)
   rw [hx5] at hT
   refine av [0,1] (hT) rfl ?_ (by decide) ?_ ?_ (by simp) ?_ <;> simp only [ag,ah,go_sem]
   clear hT
   cases EB:l6 with
   | nil=>
     have hk:=cG (hd6.trans EB) (by omega)
     have kq:Except.error (P+6)=q:=by rw [← hF,hl0,tP,hl2,Bo,EC,P0,EB]; rfl
     rw [show P+6=P+1+1+1+1+1+1 from rfl] at kq
     subst kq
     simp only [fT]
     have hT:=cH (G:=G) xs
     rw [← hk] at hT
     refine cU [0,1] (hT) rfl ?_ (by decide) ?_ ?_ (by simp) ?_ <;> simp only [ag,ah,eZ,gY,iI,go_sem]
   | cons x6 l7=>
   obtain ⟨hk6,hx6,hd7⟩:=b_ (hd6.trans EB)
   have hT:=cW (G:=G) xs (P+1+1+1+1+1+1) hk6 (by omega)
   rw [hx6] at hT
   refine av [0,1] (hT) rfl ?_ (by decide) ?_ ?_ (by simp) ?_ <;> simp only [ag,ah,go_sem]
   clear hT
   cases YG:l7 with
   | nil=>
     have hk:=cG (hd7.trans YG) (by omega)
     have kq:Except.error (P+7)=q:=by rw [← hF,hl0,tP,hl2,Bo,EC,P0,EB,YG]; rfl
     rw [show P+7=P+1+1+1+1+1+1+1 from rfl] at kq
     subst kq
     simp only [fT]
     have hT:=cH (G:=G) xs
     rw [← hk] at hT
     refine cU [0,1] (hT) rfl ?_ (by decide) ?_ ?_ (by simp) ?_ <;> simp only [ag,ah,eZ,gY,iI,go_sem]
   | cons x7 l8=>
   obtain ⟨hk7,hx7,hd8⟩:=b_ (hd7.trans YG)
   have hT:=cW (G:=G) xs (P+1+1+1+1+1+1+1) hk7 (by omega)
   rw [hx7] at hT
   refine av [0,1] (hT) rfl ?_ (by decide) ?_ ?_ (by simp) ?_ <;> simp only [ag,ah,go_sem]
   clear hT
   cases YF:l8 with
   | nil=>
     have hk:=cG (hd8.trans YF) (by omega)
     have kq:Except.error (P+8)=q:=by rw [← hF,hl0,tP,hl2,Bo,EC,P0,EB,YG,YF]; rfl
     rw [show P+8=P+1+1+1+1+1+1+1+1 from rfl] at kq
     subst kq
     simp only [fT]
     have hT:=cH (G:=G) xs
     rw [← hk] at hT
     refine cU [0,1] (hT) rfl ?_ (by decide) ?_ ?_ (by simp) ?_ <;> simp only [ag,ah,eZ,gY,iI,go_sem]
   | cons x8 l9=>
   obtain ⟨hk8,hx8,hd9⟩:=b_ (hd8.trans YF)
   have hT:=cW (G:=G) xs (P+1+1+1+1+1+1+1+1) hk8 (by omega)
   rw [hx8] at hT
   refine av [0,1] (hT) rfl ?_ (by decide) ?_ ?_ (by simp) ?_ <;> simp only [ag,ah,go_sem]
   clear hT
   cases hl9:l9 with
   | nil=>
     have hk:=cG (hd9.trans hl9) (by omega)
     have kq:Except.error (P+9)=q:=by rw [← hF,hl0,tP,hl2,Bo,EC,P0,EB,YG,YF,hl9]; rfl
     rw [show P+9=P+1+1+1+1+1+1+1+1+1 from rfl] at kq
     subst kq
     simp only [fT]
     have hT:=cH (G:=G) xs
     rw [← hk] at hT
     refine cU [0,1] (hT) rfl ?_ (by decide) ?_ ?_ (by simp) ?_ <;> simp only [ag,ah,eZ,gY,iI,go_sem]
   | cons x9 l10=>
   obtain ⟨hk9,hx9,ab5⟩:=b_ (hd9.trans hl9)
   have hT:=cW (G:=G) xs (P+1+1+1+1+1+1+1+1+1) hk9 (by omega)
   rw [hx9] at hT
   refine av [0,1] (hT) rfl ?_ (by decide) ?_ ?_ (by simp) ?_ <;> simp only [ag,ah,go_sem]
   clear hT
   cases P9:l10 with
   | nil=>
     have hk:=cG (ab5.trans P9) (by omega)
     have kq:Except.error (P+10)=q:=by rw [← hF,hl0,tP,hl2,Bo,EC,P0,EB,YG,YF,hl9,P9]; rfl
     rw [show P+10=P+1+1+1+1+1+1+1+1+1+1 from rfl] at kq
     subst kq
     simp only [fT]
     have hT:=cH (G:=G) xs
     rw [← hk] at hT
     refine cU [0,1] (hT) rfl ?_ (by decide) ?_ ?_ (by simp) ?_ <;> simp only [ag,ah,eZ,gY,iI,go_sem]
   | cons x10 l11=>
   obtain ⟨adf,ac0,ab4⟩:=b_ (ab5.trans P9)
   have hT:=cW (G:=G) xs (P+1+1+1+1+1+1+1+1+1+1) adf (by omega)
   rw [ac0] at hT
   refine av [0,1] (hT) rfl ?_ (by decide) ?_ ?_ (by simp) ?_ <;> simp only [ag,ah,go_sem]
   clear hT
   cases U9:l11 with
   | nil=>
     have hk:=cG (ab4.trans U9) (by omega)
     have kq:Except.error (P+11)=q:=by rw [← hF,hl0,tP,hl2,Bo,EC,P0,EB,YG,YF,hl9,P9,U9]; rfl
     rw [show P+11=P+1+1+1+1+1+1+1+1+1+1+1 from rfl] at kq
     subst kq
     simp only [fT]
     have hT:=cH (G:=G) xs
     rw [← hk] at hT
     refine cU [0,1] (hT) rfl ?_ (by decide) ?_ ?_ (by simp) ?_ <;> simp only [ag,ah,eZ,gY,iI,go_sem]
   | cons x11 l12=>
   obtain ⟨ade,acZ,adr⟩:=b_ (ab4.trans U9)
   have hT:=cW (G:=G) xs (P+1+1+1+1+1+1+1+1+1+1+1) ade (by omega)
   rw [acZ] at hT
   refine av [0,1] (hT) rfl ?_ (by decide) ?_ ?_ (by simp) ?_ <;> simp only [ag,ah,go_sem]
   clear hT
   rw [hl0,tP,hl2,Bo,EC,P0,EB,YG,YF,hl9,P9,U9,zx] at hF
   have uQ:∀ row:List DV,(List.map dD js++[row]).length*96≤70368744177664:=fun row=>by simp only [List.length_append,List.length_map,List.length_cons,List.length_nil]; omega
   simp only [hlj,if_pos (uQ _),go_sem]
   refine a_ (js++[⟨x0,x1,x2,x3,x4,x5,x6,x7,x8,x9,x10,x11⟩]) ?_ ?_ ⟨by simp; omega,by simp; omega,?_⟩ (by simp; omega)
   ·simp only [go_sem]
   ·simp only [R5,List.length_append,List.map_append,hlj,sE,aG (show k<9223372036854775807 by omega),show p0+12*(k+1)=P+1+1+1+1+1+1+1+1+1+1+1+1 by omega,go_sem]
   ·simp only [List.length_append,List.length_cons,List.length_nil,hlj,show p0+12*(k+(0+1))=P+1+1+1+1+1+1+1+1+1+1+1+1 by omega]
    rw [adr]; exact hF
 | true=>
 have hin:i<n.toNat:=by have:=of_decide_eq_true hlt; omega
 rw [show n.toNat-i=(n.toNat-(i+1))+1 by omega] at hF
 simp only [go_sem]
 cases hl:xs.drop (1+3*i) with
 | nil=>
   have hk:=cG hl hp
   rw [hl,HJ] at hF
   subst hF
   simp only [fT]
   have hT:=oD (G:=G) xs 7
   rw [← hk] at hT
   refine cU [0,1] (hT) rfl ?_ (by decide) ?_ ?_ (by simp) ?_ <;> simp only [ag,ah,eZ,gY,iI,go_sem]
 | cons f l=>
 obtain ⟨hk,hx,hd⟩:=b_ hl
 have A8:0≤f:=h0 f (by rw [← hx]; simp [List.getD,hk])
 rw [hl] at hF
 by_cases hf7:f≤7
 case neg=>
  rw [HI _ _ _ _ _ hf7] at hF
  subst hF
  simp only [fT]
  have hT:=qz (G:=G) xs (1+3*i) 7 hk (by omega) (by rw [hx]; exact hf7)
  refine cU [0,1] (hT) rfl ?_ (by decide) ?_ ?_ (by simp) ?_ <;> simp only [ag,ah,eZ,gY,iI,go_sem]
 have hT:=s9 (G:=G) xs (1+3*i) 7 hk (by omega) (by rw [hx]; exact hf7)
 rw [hx] at hT
 refine av [0,1] (hT) rfl ?_ (by decide) ?_ ?_ (by simp) ?_ <;> simp only [ag,ah,go_sem]
 cases hl2:l with
 | nil=>
   rw [hl2] at hF hd
   have hk2:=cG hd (by omega)
   rw [Ov _ _ _ _ hf7] at hF
   subst hF
   simp only [fT]
   have hT2:=cH (G:=G) xs
   rw [← hk2] at hT2
   refine CZ [0,1] (hT2) rfl (by simp only [ag,ah,go_sem]) (by decide) (by simp only [go_sem]) (by simp only [go_sem]) (by simp) ?_ ?_
   ·simp only [eZ,gY,iI,go_sem]
   ·(repeat' (first | rw [xL (by decide)] | rw [CY (by decide)])) <;> rw [AX] <;> exact ⟨by decide,by decide⟩
 | cons v l2=>
 rw [hl2] at hF hd
 obtain ⟨hk2,hx2,hd2⟩:=b_ hd
 have hT2:=cW (G:=G) xs (1+3*i+1) hk2 (by omega)
 rw [hx2] at hT2
 refine dV [0,1] (hT2) rfl ?_ (by decide) ?_ ?_ (by simp) ?_ <;> simp only [ag,ah,go_sem]
 cases Bo:l2 with
 | nil=>
   rw [Bo] at hF hd2
   have U_:=cG hd2 (by omega)
   rw [LJ _ _ _ _ _ hf7] at hF
   subst hF
   simp only [fT]
   have hT3:=cH (G:=G) xs
   rw [← U_] at hT3
   refine CZ [0,1] (hT3) rfl (by simp only [ag,ah,go_sem]) (by decide) (by simp only [go_sem]) (by simp only [go_sem]) (by simp) ?_ ?_
   ·simp only [eZ,gY,iI,go_sem]
   ·(repeat' (first | rw [xL (by decide)] | rw [CY (by decide)])) <;> rw [AX] <;> exact ⟨by decide,by decide⟩
 | cons j l3=>
 rw [Bo] at hF hd2
 obtain ⟨U_,hx3,Qo⟩:=b_ hd2
 have hT3:=cW (G:=G) xs (1+3*i+1+1) U_ (by omega)
 rw [hx3] at hT3
 rw [zu _ _ _ _ _ _ _ hf7] at hF
 refine dV [0,1] (hT3) rfl ?_ (by decide) ?_ ?_ (by simp) ?_ <;> simp only [ag,ah,go_sem]
 have e1:(ry .i64 f 1 !=0)=hasB f 0∧(ry .i64 f 2 !=0)=hasB f 1∧(ry .i64 f 4 !=0)=hasB f 2:=by
  have:f=0∨f=1∨f=2∨f=3∨f=4∨f=5∨f=6∨f=7:=by omega
  rcases this with rfl | rfl | rfl | rfl | rfl | rfl | rfl | rfl <;> decide
 obtain ⟨e1,e2,e3⟩:=e1
 have uQ:∀ row:List DV,(List.map bY ns++[row]).length*24≤70368744177664:=fun row=>by simp only [List.length_append,List.length_map,List.length_cons,List.length_nil]; omega
 simp only [sE,e1,e2,e3,if_pos (uQ _),go_sem]
 refine au (by decide) ?_
 simp only [go_sem]
 refine a_ (ns++[Cf f v j]) ?_ ?_ ⟨by simp; omega,by simp; omega,?_⟩ (by simp; omega)
 ·simp only [go_sem]
 ·simp only [R4,List.length_append,List.map_append,Cf,sE,aG (show i<9223372036854775807 by omega),show 1+3*(i+1)=1+3*i+1+1+1 by omega,go_sem]
 ·simp only [List.length_append,List.length_cons,List.length_nil,sE,show 1+3*(i+(0+1))=1+3*i+1+1+1 by omega]
  rw [Qo]; exact hF
theorem Li (xs:List Int) (s:aa) (Vi:xs.length≤400) (h0:∀ x∈xs,0≤x) (h:kC xs=.ok s):bw Tryz.prog G 217 [.ptr 0 0] (zl xs 0) (.agg [.sl 2 s.nodes.length 5 0 s.nodes.length,.sl 3 s.jobs.length 12 0 s.jobs.length,.int s.goal,.int s.prior,.int s.mode,.int s.term]) (zl xs xs.length++[.dat 102 5 (s.nodes.map bY),.dat 119 12 (s.jobs.map dD)]):=by
 have hw:=y5 (G:=G) xs Vi h0
 rw [h] at hw
 exact cD Tryz.func217 (by decide) Kh rfl hw
theorem Hl (xs:List Int) (k:Nat) (Vi:xs.length≤400) (h0:∀ x∈xs,0≤x) (h:kC xs=.error k):wK Tryz.prog G 217 [.ptr 0 0] (zl xs 0) nT (zl xs k):=by
 have hw:=y5 (G:=G) xs Vi h0
 rw [h] at hw
 exact JG Tryz.func217 (by decide) Kh rfl rfl (by simp only [go_sem]) hw
end Dv
namespace Dv
open Go Go.Proofs
open Go.RowKit
def lI:Value:=.agg #[.slice none 0 0,.slice none 0 0,.int .i64 0,.int .i64 0,.int .i64 0,.int .i64 0]
theorem BC {P:Program} {T type:TypeId} {n:Nat} {x y:Operand} {pos:String} {after:Array Edge} {g:Option (Nat×Bool)} {a:Act} {w:World} {K:Act→World→Prop} {Q:Exit→Act→World→Prop} {b off:Nat} {v:Value} (hx:a.eval x=.pointer (some ⟨b,off,none⟩)) (hy:a.eval y=v) (hs:dS P T=some n) (ht:w.there b off v.cells.size) (hl:v.cells.size=n) (h1:∀ u∈v.cells.toList,u.oneCell'=true)
  (hK:K a (w.setCells b off v.cells.toList)):Oper.wp P ⟨none,.store T x y,type,pos,after,g⟩ a w K Q:=by
 have hr:=Ht (P:=P) (w:=w) hs ht hl h1
 refine (cM.yq (post:=fun _ w'=>w'=w.setCells b off v.cells.toList) ?_ rfl) K Q (fun v' w' h=>by subst h; exact hK)
 show (execOp a.eval _).run P w=_
 simp only [execOp,hx,hy,Sem.run_bind,hr,Result.andThen_ok,Sem.run_pure]
theorem Ji (ps pk:Value) (w:World) :
  CallsD Tryz.prog 214 #[ps,pk] .returning w fun e u' w'=>e=.returned (.tuple #[])∧u'=.returning∧w'=w:=by
 refine callsD_of_wpS Tryz.func214 rfl fun c₀ cs hu=>?_
 apply wpS_seq
 apply wpS_region
 simp [wpOpsS,go_sem,recoverD,hu,Tryz.ntmps214,Exit.thenS]
 apply wpS_seq
 apply wpS_region
 simp [wpOpsS,go_sem,recoverD,hu,Tryz.ntmps214,Exit.thenS]
 refine wpS_cond (t:=false) (by simp [Act.eval,Array.replicate]) ?_
 simp only [Bool.false_eq_true,if_false]
 refine wpS_of_wp (wp_skip ?_)
 cases c₀
 simp_all [bodyPostS,results,Tryz.results214]
theorem M7 (bs bk:Nat) (C:Array Value) (b:Value) (w:World) (hs:w.heap[bs]? = some (.cells C 30 (0,0))) (hC:C.size=6) (hk:w.heap[bk]? = some (.cells #[b] 4 (0,0))) (hne:bs≠bk) :
  CallsD Tryz.prog 214 #[.pointer (some ⟨bs,0,none⟩),.pointer (some ⟨bk,0,none⟩)] (.panicking [{ v:=nT,recovered:=false }]) w fun e u' w'=>
   e=.returned (.tuple #[])∧u'=.panicking [{ v:=nT,recovered:=true }]∧w'=((w.alloc (.cells #[] 275)).setCells bs 0 lI.cells.toList).setCells bk 0 [.bool false]:=by
 refine callsD_of_wpS Tryz.func214 rfl fun c₀ cs hu=>?_
 apply wpS_seq
 apply wpS_region
 simp [wpOpsS,go_sem,recoverD,hu,nT,Tryz.ntmps214,Exit.thenS]
 apply wpS_seq
 apply wpS_region
 simp [wpOpsS,go_sem,recoverD,hu,nT,Tryz.ntmps214,Exit.thenS]
 refine wpS_cond (t:=true) (by simp [Act.eval,Array.replicate]) ?_
 simp only [if_true]
 refine wpS_of_wp ?_
 simp only [Array.replicate_succ,Array.replicate_zero,List.push_toArray,List.append_toArray,List.nil_append,List.cons_append,List.size_toArray]
 have hta:∀ w,(Instr.typeAssert (Value.iface 275 (.agg #[])) 20 275 true).run Tryz.prog w=.ok (.tuple #[.agg #[],.bool true]) w:=fun _=>by rfl
 apply wp_seq
 refine wp_mono (Q:=fun e a' w'=>e=.normal∧w'=w.alloc (.cells #[] 275)∧a'.tmps[0]? = some (.pointer (some ⟨bs,0,none⟩))∧a'.tmps[1]? = some (.pointer (some ⟨bk,0,none⟩))∧a'.tmps.size=17∧a'.defers=[]) ?_ ?_
 ·go_wp2
 rintro e ⟨tmps,ds⟩ w' ⟨rfl,rfl,e0,e1,e2,e3⟩
 dsimp only at e0 e1 e2 e3
 subst e3
 simp only [Exit.then]
 refine wp_region_list ?_
 have yA:bs<w.heap.size:=(Array.getElem?_eq_some_iff.1 hs).1
 have hkl:bk<w.heap.size:=(Array.getElem?_eq_some_iff.1 hk).1
 have as1:(w.alloc (.cells #[] 275)).heap[bs]? = some (.cells C 30 (0,0)):=(Below.heap_alloc _ _ _ yA).trans hs
 have ak1:(w.alloc (.cells #[] 275)).heap[bk]? = some (.cells #[b] 4 (0,0)):=(Below.heap_alloc _ _ _ hkl).trans hk
 generalize hw1:w.alloc (.cells #[] 275)=w1 at *
 refine wpList_plain rfl (fun K hK=>?_)
 refine cM.of_run (v:=lI) (w':=w1) (post:=fun v' w'=>v'=lI∧w'=w1) (by simp [execOp,lI,go_sem]) ⟨rfl,rfl⟩ K _ (fun v' w' h=>?_)
 obtain ⟨rfl,rfl⟩:=h
 refine hK _ _ ?_
 refine wpList_plain rfl (fun K hK=>?_)
 refine BC (n:=6) (b:=bs) (off:=0) (v:=lI) ?_ ?_ (by kernel_rfl) ?_ rfl ?_ (hK _ _ ?_)
 ·simp [Act.eval,Act.put,e0]
 ·simp [Act.eval,Act.put,e2]
 ·intro j hj
  have hj:j<6:=hj
  simp [World.cell?,World.frozen?,as1,hC,hj]
 ·intro u hu
  simp [lI,Value.cells] at hu
  rcases hu with rfl | rfl <;> rfl
 clear hK
 refine wpList_plain rfl (fun K hK=>?_)
 refine BC (n:=1) (b:=bk) (off:=0) (v:=.bool false) ?_ rfl (by kernel_rfl) ?_ rfl ?_ (hK _ _ ?_)
 ·simp [Act.eval,Act.put,e1]
 ·intro j hj
  have hj:j<1:=hj
  obtain rfl:j=0:=by omega
  have h3:(w'.setCells bs 0 lI.cells.toList).heap[bk]? = some (.cells #[b] 4 (0,0)):=(heap_setCells_other (fun e=>hne e.symm) _ _ _).trans ak1
  simp [World.cell?,World.frozen?,h3]
 ·intro u hu
  simp [Value.cells] at hu
  subst hu; rfl
 refine wpList_nil ?_
 refine ⟨rfl,_,rfl,.tuple #[],results_none rfl _ _ _,rfl,rfl,rfl⟩
end Dv
namespace Dv
open Go Go.Proofs
variable {G:Nat→Option (List DV)}
attribute [local go_sem] gd
def WZ:=qx Tryz.f261
theorem To:aj Tryz.prog Tryz.f261=some WZ:=by kernel_rfl
def Xu:=qx Tryz.f215
theorem TP:aj Tryz.prog Tryz.f215=some Xu:=by kernel_rfl
def Fj (b:List Int) (p:Nat) (k:Bool):List aH:=[.box 57 [aq b],.box 3 [.int p],.box 4 [.bool k]]
attribute [local go_sem] Fj aq
attribute [local simp] Fj
theorem zi (b:List Int) (hb:∀ c∈b,0≤c∧c≤255) (hl:b.length≤1000000) (a0:Nat) (ha:a0≤1000000) (q:Option (Int×Nat)) (hq:gq b a0=q) (p:Nat) (k:Bool) :
  bw Tryz.prog G 261 [.int a0,.ptr 0 0,.ptr 1 0,.ptr 2 0] (Fj b p k) (.int (zj q)) (Fj b (zk q) q.isSome):=by
 refine Dc Tryz.func261 (by decide) To rfl rfl rfl rfl ?_
 simp only [WZ,go_sem]
 refine ay (jT b hb hl a0 ha q hq) rfl rfl rfl rfl ?_; simp only [go_sem]
def glS (b:List Int) (n:Int) (p:List Int×Nat):St:=⟨[(9,.ptr 1 0),(10,.ptr 2 0),(11,.fn (.func 261) [] [.ptr 0 0,.ptr 1 0,.ptr 2 0]),(13,.sl 3 p.1.length 1 0 p.1.length),(26,.int n),(27,.int p.1.length)],(Fj b p.2 true++[aH.dat 3 1 (iu p.1)]).map some⟩
def Ak:Option (List Int×Nat)→LV
 | none=>.dJ [.d (.val (.slice none 0 0)),.int 0,.bool false]
 | some (xs,e)=>.dJ [.sl 0 xs.length 1 0 xs.length,.int e,.bool true]
def Al:Option (List Int×Nat)→List aH
 | none=>[]
 | some (xs,e)=>[.dat 3 1 (iu xs)]
theorem kV (b:List Int) (hb:∀ c∈b,0≤c∧c≤255) (hl:b.length≤1000000) (many:Nat) (hm:many≤1000) (q:Option (List Int×Nat)) (hq:wu b 0 many=q):bw Tryz.prog G 215 [aq b,.int 0,.int many] [] (Ak q) (Al q):=by
 refine cD Tryz.func215 (by decide) TP rfl ?_
 simp only [Xu,go_sem]
 refine av [0,1,2] (zi b hb hl 0 (by decide) _ rfl 0 false) rfl ?_ (by decide) ?_ ?_ (by simp) ?_ <;> simp only [ag,ah,go_sem,Int.natCast_zero]
 unfold wu at hq
 cases hn:gq b 0 with
 | none=>
   rw [hn] at hq
   subst hq
   simp only [zj,zk,Option.isSome_none,Ak,Al,go_sem]
   exact jy (aA:=[]) ⟨rfl,rfl⟩ rfl rfl rfl
 | some np=>
 obtain ⟨n,p0⟩:=np
 rw [hn] at hq
 dsimp only at hq
 obtain ⟨hn0,hn1,hp0,hp1⟩:=gp (fun c hc=>(hb c hc).1) hn
 by_cases hgt:(many:Int)<n
 case pos=>
  rw [if_pos hgt] at hq
  subst hq
  simp only [zj,zk,Option.isSome_some,decide_eq_true (show n>(many:Int) from hgt),Ak,Al,go_sem]
  exact jy (aA:=[]) ⟨rfl,rfl⟩ rfl rfl rfl
 rw [if_neg hgt] at hq
 simp only [zj,zk,Option.isSome_some,decide_eq_false (show ¬ n>(many:Int) from hgt),go_sem]
 refine aW [9,10,11,13,26,27] [.t 13 3 1] (fun p:List Int×Nat=>p.1.length≤n.toNat∧p.2≤b.length∧(qS b (n.toNat-p.1.length) p.2).map (fun r=>(p.1++r.1,r.2))=q) (fun p=>n.toNat-p.1.length) (glS b n) ([],p0) ?_ ⟨Nat.zero_le _,hp1,?_⟩ ?_
 ·simp only [glS,iu,Int.natCast_zero,go_sem]
 ·dsimp only
  rw [← hq]
  simp
 clear hn hp0 hp1 hq
 rintro ⟨xs,p⟩ ⟨hk,hp,hF⟩
 dsimp only at hk hp hF
 generalize F1:xs.length=k at *
 simp only [glS,F1,go_sem]
 cases hlt:decide ((k:Int)<n) with
 | false=>
   have hk2:k=n.toNat:=by have:=of_decide_eq_false hlt; omega
   rw [show n.toNat-k=0 by omega] at hF
   have:q=some (xs,p):=by rw [← hF]; simp [qS]
   subst this
   simp only [Ak,Al,F1,go_sem]
   refine dh [] [3] [] (vs:=[.sl 3 k 1 0 k,.int p,.bool true]) rfl rfl (by decide) (by simp) (by simp) ?_ ?_ ?_
   ·simp [St.obj,aD,dg,fB]
   ·simp [dZ]
   ·simp [aU,ah,ag,dg,St.obj,aD,LV.int,LV.bool]
 | true=>
 have hk2:k<n.toNat:=by have:=of_decide_eq_true hlt; omega
 rw [show n.toNat-k=(n.toNat-(k+1))+1 by omega] at hF
 unfold qS at hF
 simp only [go_sem]
 cases hn:gq b p with
 | none=>
   rw [hn] at hF
   have:q=none:=by rw [← hF]; rfl
   subst this
   refine av [0,1,2] (zi b hb hl p (by omega) _ hn p true) rfl ?_ (by decide) ?_ ?_ (by simp) ?_ <;> simp only [ag,ah,go_sem,zj,zk,Option.isSome_none]
   simp only [Ak,Al,go_sem]
   exact jy (aA:=[]) ⟨rfl,rfl⟩ rfl rfl rfl
 | some np=>
 obtain ⟨x,p1⟩:=np
 rw [hn] at hF
 dsimp only at hF
 refine av [0,1,2] (zi b hb hl p (by omega) _ hn p true) rfl ?_ (by decide) ?_ ?_ (by simp) ?_ <;> simp only [ag,ah,go_sem,zj,zk,Option.isSome_some]
 obtain ⟨hx0,hx1,hp2,hp3⟩:=gp (fun c hc=>(hb c hc).1) hn
 have uQ:∀ row:List DV,(iu xs++[row]).length*8≤70368744177664:=fun row=>by simp [iu,F1]; omega
 have hnl:(iu xs).length=k:=by simp [iu,F1]
 have h7:k=(iu xs).length∧(iu xs++[[DV.val (Value.int IntKind.i64 x)]]).length*8≤70368744177664:=⟨hnl.symm,uQ _⟩
 rw [if_pos h7]
 simp only [hnl,go_sem]
 have hap:(xs++[x]).length=k+1:=by simp [F1]
 refine a_ (xs++[x],p1) ?_ ?_ ⟨by dsimp only; omega,hp3,?_⟩ (by dsimp only; omega)
 ·simp only [go_sem]
 ·simp only [glS,hap,iu,List.map_append,aG (show k<9223372036854775807 by omega),go_sem]
 ·dsimp only
  rw [hap,← hF]
  cases qS b (n.toNat-(k+1)) p1 with
  | none=>rfl
  | some r=>simp
theorem F9 (b:List Int) (hb:∀ c∈b,0≤c∧c≤255) (hl:b.length≤1000000) (many:Nat) (hm:many≤1000) (xs:List Int) (e:Nat) (h:wu b 0 many=some (xs,e)):bw Tryz.prog G 215 [aq b,.int 0,.int many] [] (.dJ [.sl 0 xs.length 1 0 xs.length,.int e,.bool true]) [.dat 3 1 (iu xs)]:=kV b hb hl many hm _ h
theorem wo (b:List Int) (hb:∀ c∈b,0≤c∧c≤255) (hl:b.length≤1000000) (many:Nat) (hm:many≤1000) (h:wu b 0 many=none):bw Tryz.prog G 215 [aq b,.int 0,.int many] [] (.dJ [.d (.val (.slice none 0 0)),.int 0,.bool false]) []:=kV b hb hl many hm _ h
end Dv
namespace Dv
open Go Go.Proofs
variable {G:Nat→Option (List DV)}
attribute [local go_sem] zl Ml aq aB u8 iu kg
attribute [local simp] zl
def ack:C:=(.iJ [⟨(some 2),.box 23 (.t 0),none,[]⟩,⟨(some 4),.new 30 [(.val (.slice none 0 0)),(.val (.slice none 0 0)),(.val (.int .i64 0)),(.val (.int .i64 0)),(.val (.int .i64 0)),(.val (.int .i64 0))],none,[]⟩,⟨(some 5),.new 4 [(.val (.bool false))],none,[]⟩])
def aam:C:=(.seq (.iJ [⟨(some 11),.mv (.t 1),none,[]⟩,⟨(some 12),.call (.f 215) [(.t 11),(.c (.val (.int .i64 0))),(.c (.val (.int .i64 400)))],none,[]⟩,⟨(some 10),.mv (.t 12),none,[]⟩,⟨(some 13),.ext (.t 10) 0,none,[]⟩,⟨(some 14),.ext (.t 10) 1,none,[]⟩,⟨(some 15),.ext (.t 10) 2,none,[]⟩,⟨(some 6),.mv (.t 13),none,[]⟩,⟨(some 7),.mv (.t 14),none,[]⟩,⟨(some 8),.mv (.t 15),none,[]⟩])
 (.seq (.iJ [⟨(some 16),.mv (.t 8),none,[]⟩,⟨(some 17),.mv (.t 16),none,[]⟩,⟨(some 18),.mv (.t 7),(some (17,true)),[]⟩,⟨(some 19),.mv (.t 1),(some (17,true)),[]⟩,⟨(some 20),.len (.t 19),(some (17,true)),[]⟩,⟨(some 21),.bin .eql (.t 18) (.t 20),(some (17,true)),[]⟩,⟨(some 22),.pick (.t 17) (.t 21) (.c (.val (.bool false))),none,[]⟩,⟨(some 23),.call (.f 216) [(.t 22)],none,[]⟩])
 (.seq (.iJ [⟨(some 24),.mv (.t 6),none,[]⟩,⟨(some 25),.build [(.val (.slice none 0 0))] [(0,1,(.t 24))],none,[]⟩,⟨(some 26),.box 282 (.t 25),none,[]⟩,⟨(some 27),.call (.f 217) [(.t 26)],none,[]⟩,⟨none,.st 6 (.t 4) (.t 27),none,[]⟩])
 (.seq (.iJ [⟨(some 28),.Bi 9 (.t 2),none,[]⟩,⟨(some 29),.Bi 6 (.t 4),none,[]⟩,⟨(some 30),.call (.f 42) [(.t 28),(.t 29)],none,[]⟩,⟨(some 31),.call (.f 216) [(.t 30)],none,[]⟩])
 (.seq (.iJ [⟨(some 32),.Bi 6 (.t 4),none,[]⟩,⟨none,.st 6 (.t 4) (.t 32),none,[]⟩,⟨none,.st 1 (.t 5) (.c (.val (.bool true))),none,[]⟩])
 .ret)))))
def Qk:Option Code→Code
 | some (.seq a _)=>a
 | _=>.skip
def HA:Option Code→Code
 | some (.seq _ (.seq _ b))=>b
 | _=>.skip
theorem Vo:eR Tryz.prog 33 (Qk Tryz.f132.body)=some ack:=by kernel_rfl
theorem Vn:eR Tryz.prog 33 (HA Tryz.f132.body)=some aam:=by kernel_rfl
def Gf (c:aC) (b:List Int):Option aa→St→Prop
 | some s=>fun st=>st.get 4=.ptr 1 0∧st.get 5=.ptr 2 0∧st.obj 2=.live (.box 4 [.bool true])∧∃ cells Z,st.obj 1=.live (.box 30 cells)∧cells.length=6∧(∀ z∈Z,∃ et e rows,st.obj z=.live (.dat et e rows)∨st.obj z=.live (.kW et e rows))∧ah st.obj [] Z (.agg cells) (aY s)
 | none=>fun _=>False
def IG (st:St):Prop:=st.get gY=.d (.val nT)∧st.get 4=.ptr 1 0∧st.get 5=.ptr 2 0∧∃ cells x,st.obj 1=.live (.box 30 cells)∧cells.length=6∧st.obj 2=.live (.box 4 [x])
def qU:Option aa→List It
 | some _=>[]
 | none=>[.pn IG]
def Mw (c:aC) (b:List Int):St:=⟨[(5,.ptr 2 0),(4,.ptr 1 0),(2,.ptr 0 0),(0,fV c),(1,aq b)],[some (.box 23 [.int c.nodes,.int c.bH,.int c.cB,.int c.gF,.int c.bZ,.int c.eC,.int c.deadline,.int c.room,.int c.fP]),some (.box 30 [kg,kg,.int 0,.int 0,.int 0,.int 0]),some (.box 4 [.bool false])]⟩
theorem Qt (c:aC) (b:List Int) (hb:∀ x∈b,0≤x∧x≤255) (hl:b.length≤1000000):W Tryz.prog G (Gf c b (uT c b)) (.c aam::qU (uT c b)) (Mw c b):=by
 generalize hq:uT c b=q
 unfold uT at hq
 simp only [aam,Mw,go_sem]
 cases hL:wu b 0 400 with
 | none=>
   rw [hL] at hq
   subst hq
   refine ay (wo b hb hl 400 (by decide) hL) rfl rfl rfl rfl ?_
   simp only [qU,go_sem]
   refine oh lD rfl rfl rfl ?_
   simp only [eZ,gY,IG,go_sem]
   exact ⟨_,_,rfl,rfl,rfl⟩
 | some p=>
 obtain ⟨xs,e⟩:=p
 obtain ⟨h1,h2,h3⟩:=F_ (fun c hc=>(hb c hc).1) hL
 rw [hL] at hq
 dsimp only at hq
 refine jw (F9 b hb hl 400 (by decide) xs e hL) rfl rfl rfl ?_
 simp only [go_sem]
 by_cases he:e=b.length
 case neg=>
  rw [if_neg he] at hq
  subst hq
  have Ql:(((e:Nat):Int)==((b.length:Nat):Int))=false:=by simp; omega
  simp only [qU,Ql,go_sem]
  refine oh lD rfl rfl rfl ?_
  simp only [eZ,gY,IG,go_sem]
  exact ⟨_,_,rfl,rfl,rfl⟩
 rw [if_pos he] at hq
 have Ql:(((e:Nat):Int)==((b.length:Nat):Int))=true:=by simp; omega
 simp only [Ql,go_sem]
 refine ay (qO) rfl rfl rfl rfl ?_; simp only [go_sem]
 have h0:∀ x∈xs,0≤x:=fun x hx=>(h2 x hx).1
 cases hp:kC xs with
 | error k=>
   rw [hp] at hq
   dsimp only at hq
   subst hq
   simp only [qU]
   refine cU [4,3] (Hl xs k h1 h0 hp) rfl (by simp only [ag,ah,go_sem]) (by decide) (by simp only [Nat.sub_zero,go_sem]) (by simp only [go_sem]) (by simp) ?_
   simp only [eZ,gY,IG,go_sem]
   exact ⟨_,_,rfl,rfl,rfl⟩
 | ok s=>
 rw [hp] at hq
 dsimp only at hq
 refine av [4,3] (Li xs s h1 h0 hp) rfl (by simp only [ag,ah,go_sem]) (by decide) (by simp only [Nat.sub_zero,go_sem]) (by simp only [go_sem]) (by simp) ?_
 simp only [go_sem]
 have ht1:List.take s.nodes.length (s.nodes.map bY)=s.nodes.map bY:=List.take_of_length_le (by simp)
 have ht2:List.take s.jobs.length (s.jobs.map dD)=s.jobs.map dD:=List.take_of_length_le (by simp)
 refine yD [5,6] (BW c s) rfl (by simp [ag,ah,bG,aD,ht1,ht2,go_sem]) (by simp [aD]) rfl rfl ?_; simp only [go_sem]
 cases hr:iL c s with
 | false=>
   rw [hr,if_neg (by decide)] at hq
   subst hq
   simp only [qU,go_sem]
   refine oh lD rfl rfl rfl ?_
   simp only [eZ,gY,IG,go_sem]
   exact ⟨_,_,rfl,rfl,rfl⟩
 | true=>
   rw [hr,if_pos rfl] at hq
   subst hq
   refine ay (qO) rfl rfl rfl rfl ?_; simp only [go_sem]
   simp only [Gf]
   refine ⟨rfl,rfl,rfl,_,[5,6],rfl,rfl,?_,?_⟩
   ·intro z hz
    simp only [List.mem_cons,List.not_mem_nil,or_false] at hz
    rcases hz with rfl | rfl
    ·exact ⟨_,_,_,.inl rfl⟩
    ·exact ⟨_,_,_,.inl rfl⟩
   ·simp [St.obj,aD,ah,ag,bG,LV.int,aY,bO,cO,List.take_of_length_le]
end Dv
namespace Dv
open Go Go.Proofs
open Go.RowKit
variable {G:Nat→Option (List DV)}
def kL (q:Option aa):LV:=.dJ [aY (q.getD wO),.bool q.isSome]
def Wd:Option Code→Code
 | some (.seq _ (.seq b _))=>b
 | _=>.skip
theorem Qv:Tryz.f132.body=some (.seq (Qk Tryz.f132.body) (.seq (Wd Tryz.f132.body) (HA Tryz.f132.body))):=by kernel_rfl
theorem Qu:o8 Tryz.prog Tryz.f132.results.toList=some [.cn 4 6,.c1 5]:=by kernel_rfl
theorem Vk {Q:Exit→Act→World→Prop} {a:Act} {w:World} (hs:a.tmps.size=33) {bs bk:Nat} (h4:a.tmps.getD 4 Go.undef=.pointer (some ⟨bs,0,none⟩)) (h5:a.tmps.getD 5 Go.undef=.pointer (some ⟨bk,0,none⟩))
  (hQ:∀ a':Act,a'.defers = { target:=.fn (.func 214) #[.pointer (some ⟨bs,0,none⟩),.pointer (some ⟨bk,0,none⟩)],args:=#[] }::a.defers→a'.tmps.size=33→(∀ t,t≠9→a'.tmps.getD t Go.undef=a.tmps.getD t Go.undef)→Q .normal a' w):(Wd Tryz.f132.body).wp Tryz.prog Q a w:=by
 refine wp_region_list ?_
 refine wpList_plain rfl (fun K hK=>?_)
 have e4:a.eval (.tmp 4)=.pointer (some ⟨bs,0,none⟩):=by
  rw [← h4]; simp [Act.eval,Array.getD_eq_getD_getElem?]
 have e5:a.eval (.tmp 5)=.pointer (some ⟨bk,0,none⟩):=by
  rw [← h5]; simp [Act.eval,Array.getD_eq_getD_getElem?]
 refine cM.of_run (v:=.func (.func 214) #[] #[.pointer (some ⟨bs,0,none⟩),.pointer (some ⟨bk,0,none⟩)]) (w':=w) (post:=fun v' w'=>v'=.func (.func 214) #[] #[.pointer (some ⟨bs,0,none⟩),.pointer (some ⟨bk,0,none⟩)]∧w'=w) ?_ ⟨rfl,rfl⟩ K _ (fun v' w' h=>?_)
 ·simp [execOp,go_sem,e4,e5]
  exact ⟨by simpa [Array.getD_eq_getD_getElem?] using h4,by simpa [Array.getD_eq_getD_getElem?] using h5⟩
 obtain ⟨rfl,rfl⟩:=h
 refine hK _ _ ?_
 clear hK
 refine wpList_plain rfl (fun K hK=>?_)
 have e9:(a.put (some 9) (.func (.func 214) #[] #[.pointer (some ⟨bs,0,none⟩),.pointer (some ⟨bk,0,none⟩)])).eval (.tmp 9)=.func (.func 214) #[] #[.pointer (some ⟨bs,0,none⟩),.pointer (some ⟨bk,0,none⟩)]:=by
  simp [Act.eval,Act.put,hs]
 unfold Oper.wp
 have hrun:(execOp (a.put (some 9) (.func (.func 214) #[] #[.pointer (some ⟨bs,0,none⟩),.pointer (some ⟨bk,0,none⟩)])).eval
   { dst:=none,op:=Op.defer { callee:=Callee.value (Operand.tmp 9),args:=#[],argTypes:=#[] },type:=0,pos:= "image.go:88",after:=#[{ on:=0,ground:=Ground.data }],guard:=none }).run Tryz.prog w'=.ok (.defer { target:=.fn (.func 214) #[.pointer (some ⟨bs,0,none⟩),.pointer (some ⟨bk,0,none⟩)],args:=#[] }) w':=by
  simp [execOp,resolve,Deferred.ofValue,e9,hs,go_sem]
 rw [hrun,Oper.upon_defer]
 refine hK _ _ (wpList_nil (hQ _ rfl ?_ ?_))
 ·simp [Act.put,hs]
 ·intro t ht
  simp [Act.put,Array.getD_eq_getD_getElem?,Array.getElem?_setIfInBounds_ne (fun e=>ht e.symm)]
def dG (bs bk:Nat):Deferred:={ target:=.fn (.func 214) #[.pointer (some ⟨bs,0,none⟩),.pointer (some ⟨bk,0,none⟩)],args:=#[] }
theorem CL (bs bk:Nat) (w:World):(invoke (.fn (.func 214) #[.pointer (some ⟨bs,0,none⟩),.pointer (some ⟨bk,0,none⟩)]) #[]).run Tryz.prog w=.ok (.enter 214 #[.pointer (some ⟨bs,0,none⟩),.pointer (some ⟨bk,0,none⟩)]) w:=by
 simp only [invoke]
 exact oa (by decide) _ w
theorem Vj (c:aC) (b:List Int) (hb:∀ x∈b,0≤x∧x≤255) (hl:b.length≤1000000):bw Tryz.prog G 132 [fV c,aq b] [] (kL (uT c b)) []:=by
 refine ⟨by decide,fun J0 ck w0 vs S0 hargs=>?_⟩
 refine calls_of_wp_defers Tryz.func132 Qv ?_
 refine K6 Vo (s1:=Mw c b) ?_ (KP (n:=33) (aK:=[]) S0 hargs (show 2≤33 by decide)) (fun a w hA=>?_)
 ·simp [ack,vc,gG,yH,yI,cI,Mw,fV,fF,bU.ev,St.get,aZ,St.app,dY,fQ,LV.cells,kg,LV.int,LV.bool]
 obtain ⟨J1,x_,S1,E1⟩:=hA.ex
 obtain ⟨bs,Rx,h4⟩:=S1.env 4
 obtain ⟨bk,hbk,h5⟩:=S1.env 5
 refine wp_seq (Vk S1.size h4 h5 (fun a1 hd hs ht=>?_))
 show (HA Tryz.f132.body).wp Tryz.prog _ a1 w
 have adz:oq G (Dk.plain [dG bs bk] false) 33 (Mw c b).obj J1 x_ w (Mw c b) a1 w:=by
  refine ⟨J1,x_,⟨S1.store,fun t=>?_,hs,by rw [hd,S1.defers.none rfl]; exact Marks.plain (Dk.plain [dG bs bk] false) w,trivial,S1.lim⟩,Ext.refl ..⟩
  by_cases h9:t=9
  ·subst h9; trivial
  ·rw [ht t h9]; exact S1.env t
 have hw:=Qt (G:=G) c b hb hl
 generalize uT c b=q at *
 refine K7 (fin:=Gf c b q) (pan:=fun s=>q=none∧IG s) Vn ?_ adz ?_ ?_
 ·simp only [W] at hw
  refine ot _ _ ⟨W Tryz.prog G (Gf c b q) (qU q),fun i s'=>Wx Tryz.prog G (Gf c b q) i (qU q) s',Gf c b q,rN,none⟩ ⟨Gf c b q,fun i s=>i=gY∧(q=none∧IG s),Gf c b q,rN,none⟩ (fun s h=>?_) (fun i s h=>?_) (fun s h=>h) hw
  ·cases q with
   | none=>simpa only [qU,W] using h
   | some s0=>simpa only [qU,W] using h
  ·cases q with
   | none=>
     simp only [qU,Wx] at h
     split at h
     ·rename_i hi; exact ⟨hi,rfl,h⟩
     ·exact h.elim
   | some s0=>simp only [qU,Wx] at h
 ·intro s a2 w2 F7 Bq
  obtain ⟨J2,xZ,S2,E2⟩:=F7.ex
  cases q with
  | none=>exact Bq.elim
  | some s0=>
  obtain ⟨g4,g5,YC,cells,Z,Z7,EB,hZ,hR⟩:=Bq
  have hL:Leaves Tryz.prog Tryz.f132 a2.tmps (fun e w'=>∃ v,e=Ending.returned v∧bg G (aD (List.map some [])) (aD (List.map some [])) J0 ck w0 (kL (some s0)) v w') a2.defers .returning w2:=by
   rw [S2.defers.none rfl]
   refine leaves_cons (by simp) (CL bs bk w2) ((Ji _ _ w2).mono ?_)
   rintro e u' w' ⟨rfl,rfl,rfl⟩
   obtain ⟨v,hv1,Il⟩:=Ei (r:=kL (some s0)) Z S2.store S2.env S0 (E1.trans E2) Qu (rs:=[.agg cells,.bool true]) (by
    have:List.take 6 cells=cells:=List.take_of_length_le (by omega)
    simp [yE.of,RV.of,g4,g5,Z7,YC,EB,this,LV.bool]) hZ (by
    simp [aU,kL,ah,ag,LV.bool]
    exact hR)
   exact ⟨v,hv1,v,rfl,Il⟩
  exact ⟨hL,hL⟩
 ·rintro v s a2 w2 hd2 ⟨J2,xZ,S2,E2,adC⟩ ⟨rfl,hv,g4,g5,cells,x,Z7,EB,YC⟩
  have hv:v=nT:=by simpa [jY,St.get,aZ] using hv
  subst hv
  have g4:s.get 4=.ptr 1 0:=by simpa [jY,St.get,aZ,gY] using g4
  have g5:s.get 5=.ptr 2 0:=by simpa [jY,St.get,aZ,gY] using g5
  have Z7:s.obj 1=.live (.box 30 cells):=Z7
  have YC:s.obj 2=.live (.box 4 [x]):=YC
  have hb1:xZ 1 0=some bs:=E2.ev.iC 1 0 bs Rx
  have hb2:xZ 2 0=some bk:=E2.ev.iC 2 0 bk hbk
  have r1:=S2.rep 1
  rw [Z7] at r1
  obtain ⟨⟨b1,C,k1,k2,k3⟩,_⟩:=r1
  rw [hb1] at k1; cases k1
  have r2:=S2.rep 2
  rw [YC] at r2
  obtain ⟨⟨b2,C2,m1,m2,m3⟩,_⟩:=r2
  rw [hb2] at m1; cases m1
  have hC:C.size=6:=by have:=k3.length; simp at this; omega
  obtain ⟨C2⟩:=C2
  match C2,m3 with
  | [x2],_=>
  have hne:bs≠bk:=fun e=>by
   have:=S2.inj 1 2 bs (by rw [Z7]; exact hb1) (by rw [YC,e]; exact hb2)
   cases this
  have hlen:2<s.af.length:=yt YC
  obtain ⟨J3,YZ,S3,_,E3⟩:=bg.box S2 (base:=s.af.length) (cR (Nat.le_refl _)) 275 [] #[] trivial
  obtain ⟨b1',j1,_,J4,ι4,S4,_,E4⟩:=bg.y9 S3 (o:=1) (et:=30) (cells:=cells) (cs:=[kg,kg,.int 0,.int 0,.int 0,.int 0]) (vs:=lI.cells.toList) (col:=0) (by rw [if_neg (by omega)]; exact Z7)
   (by simp [bM,dm,iH,lI,kg,LV.int,Value.cells,Value.oneCell']) (by simp [EB])
  have e1:b1'=bs:=by have:=E3.ev.iC 1 0 bs hb1; rw [this] at j1; exact (Option.some.inj j1).symm
  subst e1
  obtain ⟨b2',j2,_,J5,ι5,S5,_,E5⟩:=bg.y9 S4 (o:=2) (et:=4) (cells:=[x]) (cs:=[.bool false]) (vs:=[.bool false]) (col:=0) (by rw [if_neg (by omega),if_neg (by omega)]; exact YC)
   (by simp [bM,dm,iH,LV.bool,Value.oneCell']) (by simp)
  have e2:b2'=bk:=by have:=E4.ev.iC 2 0 bk (E3.ev.iC 2 0 bk hb2); rw [this] at j2; exact (Option.some.inj j2).symm
  subst e2
  obtain ⟨s3,Yx⟩:∃ s3:St,s3=⟨s.env,((s.af++[some (aH.box 275 [])]).set 1 (some (aH.box 30 (splice cells 0 [kg,kg,.int 0,.int 0,.int 0,.int 0])))).set 2 (some (aH.box 4 (splice [x] 0 [.bool false])))⟩:=⟨_,rfl⟩
  have Bl:s3.obj=fun o=>if o=2 then .live (.box 4 (splice [x] 0 [.bool false])) else if o=1 then .live (.box 30 (splice cells 0 [kg,kg,.int 0,.int 0,.int 0,.int 0])) else if o=s.af.length then .live (.box 275 []) else s.obj o:=by
   subst Yx
   exact (Fs (by simp; omega) _).trans (by rw [Fs (by simp; omega),lz]; rfl)
  have S5':aI G J5 (((w2.alloc (.cells #[] 275)).setCells b1' 0 lI.cells.toList).setCells b2' 0 [.bool false]) ι5 s3.obj:=by rw [Bl]; exact S5
  have E5':=E5
  rw [← Bl] at E5'
  have h6:splice cells 0 [kg,kg,.int 0,.int 0,.int 0,.int 0]=[kg,kg,.int 0,.int 0,.int 0,.int 0]:=by
   simp only [splice,List.take_zero,List.nil_append,List.length_cons,List.length_nil]
   rw [List.drop_eq_nil_of_le (by omega),List.append_nil]
  have q1:s3.obj 1=.live (.box 30 [kg,kg,.int 0,.int 0,.int 0,.int 0]):=by rw [Bl,h6]; rfl
  have q2:s3.obj 2=.live (.box 4 [.bool false]):=by rw [Bl]; rfl
  have p4:s3.get 4=.ptr 1 0:=by subst Yx; exact g4
  have p5:s3.get 5=.ptr 2 0:=by subst Yx; exact g5
  have adB:∀ t,dm J5 (((w2.alloc (.cells #[] 275)).setCells b1' 0 lI.cells.toList).setCells b2' 0 [.bool false]) ι5 (s3.get t) (a2.tmps.getD t Go.undef):=fun t=>by
   have:s3.get t=s.get t:=by subst Yx; rfl
   rw [this]
   exact (((adC t).ev S2 E3.ev).ev S3 E4.ev).ev S4 E5.ev
  have hL:Leaves Tryz.prog Tryz.f132 a2.tmps (fun e w'=>∃ v,e=Ending.returned v∧bg G (aD (List.map some [])) (aD (List.map some [])) J0 ck w0 (kL none) v w') a2.defers (.panicking [{ v:=nT,recovered:=false }]) w2:=by
   rw [hd2 rfl]
   refine leaves_cons (by simp) (CL _ _ w2) ((M7 _ _ C x2 w2 k2 hC m2 hne).mono ?_)
   rintro e u' w' ⟨rfl,rfl,rfl⟩
   obtain ⟨v,hv1,Il⟩:=Ei (r:=kL none) [] S5' adB S0 ((((E1.trans E2).trans E3).trans E4).trans E5') Qu (rs:=[.agg [kg,kg,.int 0,.int 0,.int 0,.int 0],.bool false]) (by
    simp [yE.of,RV.of,p4,p5,q1,q2,LV.bool]) (fun z hz=>by cases hz) (by
    simp [aU,kL,ah,ag,LV.bool,LV.int,wO,aY,kg,bO,cO])
   exact ⟨v,hv1,v,rfl,Il⟩
  exact hL
end Dv
