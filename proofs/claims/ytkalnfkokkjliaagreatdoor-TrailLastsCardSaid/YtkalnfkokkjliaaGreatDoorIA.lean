/- part -/
import Derived.Test.YtkalnfkokkjliaaGreatDoorDB
import Derived.Test.YtkalnfkokkjliaaGreatDoorVD
import Derived.Tactics
import Derived.Tactics2
import Derived.WalkKit
import Derived.Test.YtkalnfkokkjliaaGreatDoorPB
import Derived.Defers
import Derived.Recover
import Derived.Laws.Pointers
import Derived.Test.YtkalnfkokkjliaaGreatDoorI0
import Derived.Test.YtkalnfkokkjliaaGreatDoorDF
set_option linter.all false
set_option maxHeartbeats 4000000
set_option maxRecDepth 1000000
namespace Dv
open Go Go.Proofs
open Go.RowKit
variable {G:Nat→Option (List DV)}
def nC:Value:=.iface 275 (.agg #[])
def WQ:=qx Tryz.f216
theorem Te:aj Tryz.prog Tryz.f216=some WQ:=by kernel_rfl
theorem qq:bh Tryz.prog G 216 [.bool true] [] (.dH []) []:=by
 refine bn Tryz.func216 (by decide) Te rfl rfl ?_
 simp only [WQ,go_sem]
theorem kS:wm Tryz.prog G 216 [.bool false] [] nC []:=by
 refine ⟨by decide,fun J ι w vs S hR=>?_⟩
 obtain ⟨vl⟩:=vs
 match vl,hR with
 | [v],⟨hv,_⟩=>
 have hv:v=.bool false:=hv
 subst hv
 go_enter Tryz.func216,Tryz.ntmps216
 have hp:∀ (u:TypeId) (v:Value) (w:World),(Instr.panic (.iface u v)).run Tryz.prog w=.halt (.panic (.iface u v)) w:=fun _ _ _=>rfl
 go_wp2
 exact ⟨rfl,rfl,aN.stay S trivial⟩
end Dv
namespace Dv
open Go Go.Proofs
variable {G:Nat→Option (List DV)}
def OS:=qx Tryz.f263
theorem JB:aj Tryz.prog Tryz.f263=some OS:=by kernel_rfl
def JL:=qx Tryz.f262
theorem Di:aj Tryz.prog Tryz.f262=some JL:=by kernel_rfl
def LL (l:List Int):List (List DV):=l.map fun x=>[i64 x]
def yZ (xs:List Int) (k:Nat):List aC:=[.box 282 [.sl 1 xs.length 1 k (xs.length-k)],.dat 3 1 (LL xs)]
attribute [local go_sem] yZ LL
attribute [local simp] yZ
theorem cN (xs:List Int) (k:Nat) (hk:k<xs.length) (h63:xs.length≤1000000):bh Tryz.prog G 263 [.ptr 0 0] (yZ xs k) (.int (xs.getD k 0)) (yZ xs (k+1)):=by
 have hg:=aK (f:=fun x:Int=>[i64 x]) 0 hk
 generalize xs.getD k 0=x at *
 refine aQ Tryz.func263 (by decide) JB rfl rfl rfl rfl ?_
 simp only [OS,go_sem]
 have h1:decide (((xs.length-k:Nat):Int)>0)=true:=decide_eq_true (by omega)
 simp only [h1,go_sem]
 refine ax (qq) rfl rfl rfl rfl ?_; simp only [go_sem]
 have h2:0<xs.length-k:=by omega
 have h3:xs.length-k-1=xs.length-(k+1):=by omega
 have h4:1≤xs.length-k∧xs.length-k≤xs.length-k:=by omega
 simp only [h2,hg,if_pos h4,h3,go_sem]
theorem cD (xs:List Int):wm Tryz.prog G 263 [.ptr 0 0] (yZ xs xs.length) nC (yZ xs xs.length):=by
 refine IY Tryz.func263 (by decide) JB rfl rfl ?_ ?_
 ·simp only [go_sem]
 have h1:decide (((xs.length-xs.length:Nat):Int)>0)=false:=decide_eq_false (by omega)
 simp only [OS,h1,go_sem]
 refine nP kS rfl rfl rfl ?_
 simp only [eR,iz,go_sem]
theorem sL (xs:List Int) (k:Nat) (most:Int) (hk:k<xs.length) (h63:xs.length≤1000000) (hm:xs.getD k 0≤most):bh Tryz.prog G 262 [.ptr 0 0,.int most] (yZ xs k) (.int (xs.getD k 0)) (yZ xs (k+1)):=by
 refine aQ Tryz.func262 (by decide) Di rfl rfl rfl rfl ?_
 simp only [JL,go_sem]
 refine av [0,1] (cN xs k hk h63) rfl ?_ (by decide) ?_ ?_ (by simp) ?_ <;> simp only [ag,ah,go_sem]
 rw [decide_eq_true hm]
 refine ax (qq) rfl rfl rfl rfl ?_; simp only [go_sem]
theorem p6 (xs:List Int) (k:Nat) (most:Int) (hk:k<xs.length) (h63:xs.length≤1000000) (hm:¬ xs.getD k 0≤most):wm Tryz.prog G 262 [.ptr 0 0,.int most] (yZ xs k) nC (yZ xs (k+1)):=by
 refine IY Tryz.func262 (by decide) Di rfl rfl ?_ ?_
 ·simp only [go_sem]
 simp only [JL,go_sem]
 refine av [0,1] (cN xs k hk h63) rfl ?_ (by decide) ?_ ?_ (by simp) ?_ <;> simp only [ag,ah,go_sem]
 rw [decide_eq_false hm]
 refine nP kS rfl rfl rfl ?_
 simp only [eR,iz,go_sem]
theorem oc (xs:List Int) (most:Int):wm Tryz.prog G 262 [.ptr 0 0,.int most] (yZ xs xs.length) nC (yZ xs xs.length):=by
 refine IY Tryz.func262 (by decide) Di rfl rfl ?_ ?_
 ·simp only [go_sem]
 simp only [JL,go_sem]
 refine cM [0,1] (cD xs) rfl ?_ (by decide) ?_ ?_ (by simp) ?_ <;> simp only [ag,ah,eR,gN,iz,go_sem]
end Dv
namespace Dv
open Go Go.Proofs
variable {G:Nat→Option (List DV)}
def OU:=qx Tryz.f217
theorem JE:aj Tryz.prog Tryz.f217=some OU:=by kernel_rfl
attribute [local go_sem] yZ LL
attribute [local simp] yZ
def j8:LV:=.d (.val (.slice none 0 0))
attribute [local go_sem] j8
def aaw (xs:List Int):Except Nat aa→St→Prop
 | .ok s=>vh [.cn 2 6] 2 (.agg [.sl 2 s.nodes.length 5 0 s.nodes.length,.sl 3 s.jobs.length 12 0 s.jobs.length,.int s.goal,.int s.prior,.int s.mode,.int s.term]) (yZ xs xs.length++[.dat 102 5 (s.nodes.map bX),.dat 119 12 (s.jobs.map dF)])
 | .error _=>fun _=>False
def fJ (xs:List Int):Except Nat aa→List It
 | .ok _=>[]
 | .error k=>[.pn (iz nC (yZ xs k))]
def Rq (xs:List Int) (n:Int) (ns:List a_):St:=⟨[(0,.ptr 0 0),(2,.ptr 2 0),(3,.ptr 3 0),(7,.int n),(8,.int ns.length)],
 [some (.box 282 [.sl 1 xs.length 1 (1+3*ns.length) (xs.length-(1+3*ns.length))]),some (.dat 3 1 (LL xs)),some (.box 30 [j8,j8,.int 0,.int 0,.int 0,.int 0]),
  some (.box 30 [.sl 4 ns.length 5 0 ns.length,j8,.int 0,.int 0,.int 0,.int 0]),some (.dat 102 5 (ns.map bX))]⟩
def Rr (xs:List Int) (m:Int) (ns:List a_) (p0:Nat) (js:List bP):St:=⟨[(0,.ptr 0 0),(2,.ptr 2 0),(3,.ptr 3 0),(33,.int m),(34,.int js.length)],
 [some (.box 282 [.sl 1 xs.length 1 (p0+12*js.length) (xs.length-(p0+12*js.length))]),some (.dat 3 1 (LL xs)),some (.box 30 [j8,j8,.int 0,.int 0,.int 0,.int 0]),
  some (.box 30 [.sl 4 ns.length 5 0 ns.length,.sl 5 js.length 12 0 js.length,.int 0,.int 0,.int 0,.int 0]),some (.dat 102 5 (ns.map bX)),some (.dat 119 12 (js.map dF))]⟩
theorem yG (xs:List Int) (UG:xs.length≤400) (h0:∀ x∈xs,0≤x):W Tryz.prog G (aaw xs (kq xs)) (.c OU.2.1::fJ xs (kq xs)) ⟨fm 0 [.ptr 0 0],(yZ xs 0).map some⟩:=by
 generalize hq:kq xs=q
 replace hq:kq (xs.drop 0)=q:=hq
 simp only [OU,go_sem]
 cases hl:xs.drop 0 with
 | nil=>
   have hk:=cC hl (Nat.zero_le _)
   rw [hl,kq] at hq
   subst hq
   simp only [fJ]
   have hT:=oc (G:=G) xs 6
   rw [← hk] at hT
   refine cM [0,1] (hT) rfl ?_ (by decide) ?_ ?_ (by simp) ?_ <;> simp only [ag,ah,eR,gN,iz,go_sem]
 | cons n l=>
 obtain ⟨hk,hx,hd⟩:=bW hl
 have hn0:0≤n:=h0 n (by rw [← hx]; simp [List.getD,hk])
 rw [hl,kq] at hq
 split at hq
 case isFalse hn6=>
  subst hq
  simp only [fJ]
  have hT:=p6 (G:=G) xs 0 6 hk (by omega) (by rw [hx]; exact hn6)
  refine cM [0,1] (hT) rfl ?_ (by decide) ?_ ?_ (by simp) ?_ <;> simp only [ag,ah,eR,gN,iz,go_sem]
 rename_i hn6
 have hT:=sL (G:=G) xs 0 6 hk (by omega) (by rw [hx]; exact hn6)
 rw [hx] at hT
 refine av [0,1] (hT) rfl ?_ (by decide) ?_ ?_ (by simp) ?_ <;> simp only [ag,ah,go_sem]
 refine aR [0,2,3,7,8] [.b 3 0 102 5] (fun ns:List a_=>ns.length≤n.toNat∧1+3*ns.length≤xs.length∧gU (n.toNat-ns.length) ns (1+3*ns.length) (xs.drop (1+3*ns.length))=q) (fun ns=>n.toNat-ns.length) (Rq xs n) [] ?_ ⟨Nat.zero_le _,by rw [List.length_nil]; omega,by rw [← hd] at hq; exact hq⟩ ?_
 ·simp only [Rq,go_sem,Int.natCast_zero,Nat.mul_zero]
 clear hT hq hd hl hx
 rintro ns ⟨hi,hp,hF⟩
 generalize vm:ns.length=i at *
 simp only [Rq,vm,go_sem]
 cases hlt:decide ((i:Int)<n) with
 | false=>
   have hin:i=n.toNat:=by have:=of_decide_eq_false hlt; omega
   rw [show n.toNat-i=0 by omega,wI] at hF
   simp only [go_sem]
   cases hl:xs.drop (1+3*i) with
   | nil=>
     have hk:=cC hl hp
     rw [hl] at hF
     replace hF:Except.error (1+3*i)=q:=hF
     subst hF
     simp only [fJ]
     have hT:=oc (G:=G) xs 24
     rw [← hk] at hT
     refine cM [0,1] (hT) rfl ?_ (by decide) ?_ ?_ (by simp) ?_ <;> simp only [ag,ah,eR,gN,iz,go_sem]
   | cons m l=>
   obtain ⟨hk,hx,hd⟩:=bW hl
   have hm0:0≤m:=h0 m (by rw [← hx]; simp [List.getD,hk])
   rw [hl] at hF
   by_cases Uv:m≤24
   case neg=>
    rw [GZ _ _ _ _ Uv] at hF
    subst hF
    simp only [fJ]
    have hT:=p6 (G:=G) xs (1+3*i) 24 hk (by omega) (by rw [hx]; exact Uv)
    refine cM [0,1] (hT) rfl ?_ (by decide) ?_ ?_ (by simp) ?_ <;> simp only [ag,ah,eR,gN,iz,go_sem]
   have hT:=sL (G:=G) xs (1+3*i) 24 hk (by omega) (by rw [hx]; exact Uv)
   rw [hx] at hT
   rw [BJ _ _ _ _ Uv] at hF
   refine av [0,1] (hT) rfl ?_ (by decide) ?_ ?_ (by simp) ?_ <;> simp only [ag,ah,go_sem]
   generalize hp0:1+3*i+1=p0 at *
   have adr:ns.length≤6:=by omega
   refine aR [0,2,3,33,34] [.b 3 1 119 12] (fun js:List bP=>js.length≤m.toNat∧p0+12*js.length≤xs.length∧qc ns (m.toNat-js.length) js (p0+12*js.length) (xs.drop (p0+12*js.length))=q) (fun js=>m.toNat-js.length) (Rr xs m ns p0) [] ?_ ⟨Nat.zero_le _,by rw [List.length_nil]; omega,by rw [← hd] at hF; exact hF⟩ ?_
   ·simp only [Rr,vm,go_sem,Int.natCast_zero,Nat.mul_zero]
   clear hT hF hd hl hx hk hp0
   rintro js ⟨hjm,hP,hF⟩
   generalize hlj:js.length=k at *
   generalize hPk:p0+12*k=P at *
   simp only [Rr,hlj,hPk,vm,go_sem]
   cases abB:decide ((k:Int)<m) with
   | false=>
     have hkm:k=m.toNat:=by have:=of_decide_eq_false abB; omega
     rw [show m.toNat-k=0 by omega,y_] at hF
     simp only [go_sem]
     generalize MY:xs.drop P=l0 at hF
     cases hl0:l0 with
     | nil=>
       have hk:=cC (MY.trans hl0) (by omega)
       have j_:Except.error (P+0)=q:=by rw [← hF,hl0]; rfl
       rw [show P+0=P from rfl] at j_
       subst j_
       simp only [fJ]
       have hT:=cD (G:=G) xs
       rw [← hk] at hT
       refine cM [0,1] (hT) rfl ?_ (by decide) ?_ ?_ (by simp) ?_ <;> simp only [ag,ah,eR,gN,iz,go_sem]
     | cons x0 l1=>
     obtain ⟨hk0,hx0,Ya⟩:=bW (MY.trans hl0)
     have hT:=cN (G:=G) xs (P) hk0 (by omega)
     rw [hx0] at hT
     refine av [0,1] (hT) rfl ?_ (by decide) ?_ ?_ (by simp) ?_ <;> simp only [ag,ah,go_sem]
     clear hT
     cases tB:l1 with
     | nil=>
       have hk:=cC (Ya.trans tB) (by omega)
       have j_:Except.error (P+1)=q:=by rw [← hF,hl0,tB]; rfl
       rw [show P+1=P+1 from rfl] at j_
       subst j_
       simp only [fJ]
       have hT:=cD (G:=G) xs
       rw [← hk] at hT
       refine cM [0,1] (hT) rfl ?_ (by decide) ?_ ?_ (by simp) ?_ <;> simp only [ag,ah,eR,gN,iz,go_sem]
     | cons x1 l2=>
     obtain ⟨vS,hx1,hd2⟩:=bW (Ya.trans tB)
     have hT:=cN (G:=G) xs (P+1) vS (by omega)
     rw [hx1] at hT
     refine av [0,1] (hT) rfl ?_ (by decide) ?_ ?_ (by simp) ?_ <;> simp only [ag,ah,go_sem]
     clear hT
     cases hl2:l2 with
     | nil=>
       have hk:=cC (hd2.trans hl2) (by omega)
       have j_:Except.error (P+2)=q:=by rw [← hF,hl0,tB,hl2]; rfl
       rw [show P+2=P+1+1 from rfl] at j_
       subst j_
       simp only [fJ]
       have hT:=cD (G:=G) xs
       rw [← hk] at hT
       refine cM [0,1] (hT) rfl ?_ (by decide) ?_ ?_ (by simp) ?_ <;> simp only [ag,ah,eR,gN,iz,go_sem]
     | cons x2 l3=>
     obtain ⟨hk2,hx2,PB⟩:=bW (hd2.trans hl2)
     have hT:=cN (G:=G) xs (P+1+1) hk2 (by omega)
     rw [hx2] at hT
     refine av [0,1] (hT) rfl ?_ (by decide) ?_ ?_ (by simp) ?_ <;> simp only [ag,ah,go_sem]
     clear hT
     cases A0:l3 with
     | nil=>
       have hk:=cC (PB.trans A0) (by omega)
       have j_:Except.error (P+3)=q:=by rw [← hF,hl0,tB,hl2,A0]; rfl
       rw [show P+3=P+1+1+1 from rfl] at j_
       subst j_
       simp only [fJ]
       have hT:=cD (G:=G) xs
       rw [← hk] at hT
       refine cM [0,1] (hT) rfl ?_ (by decide) ?_ ?_ (by simp) ?_ <;> simp only [ag,ah,eR,gN,iz,go_sem]
     | cons x3 l4=>
     obtain ⟨Ux,hx3,hd4⟩:=bW (PB.trans A0)
     have hT:=cN (G:=G) xs (P+1+1+1) Ux (by omega)
     rw [hx3] at hT
     refine av [0,1] (hT) rfl ?_ (by decide) ?_ ?_ (by simp) ?_ <;> simp only [ag,ah,go_sem]
     clear hT
     cases DS:l4 with
     | cons y l5=>
       obtain ⟨hk4,_,_⟩:=bW (hd4.trans DS)
       have j_:Except.error (P+4)=q:=by rw [← hF,hl0,tB,hl2,A0,DS]; rfl
       rw [show P+4=P+1+1+1+1 from rfl] at j_
       subst j_
       simp only [fJ]
       have h1:(((xs.length-(P+1+1+1+1):Nat):Int)==0)=false:=by simp; omega
       simp only [h1,go_sem]
       refine nP kS rfl rfl rfl ?_
       simp only [eR,gN,iz,go_sem]
     | nil=>
     have hk:=cC (hd4.trans DS) (by omega)
     have j_:Except.ok ⟨ns,js,x0,x1,x2,x3⟩=q:=by rw [← hF,hl0,tB,hl2,A0,DS]; rfl
     subst j_
     simp only [fJ]
     have h1:(((xs.length-(P+1+1+1+1):Nat):Int)==0)=true:=by simp; omega
     simp only [h1,go_sem]
     refine ax (qq) rfl rfl rfl rfl ?_; simp only [go_sem]
     simp only [aaw]
     clear hPk
     rw [hk]
     subst vm hlj
     refine dm [] [0,1,4,5] [] rfl rfl (by decide) (by simp) (by simp) rfl rfl ?_
     show ah _ _ _ (.agg [.sl 4 ns.length 5 0 ns.length,.sl 5 js.length 12 0 js.length,.int x0,.int x1,.int x2,.int x3]) _
     simp [ah,ag,LV.int]
   | true=>
   have hkm:k<m.toNat:=by have:=of_decide_eq_true abB; omega
   rw [show m.toNat-k=(m.toNat-(k+1))+1 by omega] at hF
   simp only [go_sem]
   generalize MY:xs.drop P=l0 at hF
   cases hl0:l0 with
   | nil=>
     have hk:=cC (MY.trans hl0) (by omega)
     have j_:Except.error (P+0)=q:=by rw [← hF,hl0]; rfl
     rw [show P+0=P from rfl] at j_
     subst j_
     simp only [fJ]
     have hT:=cD (G:=G) xs
     rw [← hk] at hT
     refine cM [0,1] (hT) rfl ?_ (by decide) ?_ ?_ (by simp) ?_ <;> simp only [ag,ah,eR,gN,iz,go_sem]
   | cons x0 l1=>
   obtain ⟨hk0,hx0,Ya⟩:=bW (MY.trans hl0)
   have hT:=cN (G:=G) xs (P) hk0 (by omega)
   rw [hx0] at hT
   refine av [0,1] (hT) rfl ?_ (by decide) ?_ ?_ (by simp) ?_ <;> simp only [ag,ah,go_sem]
   clear hT
   cases tB:l1 with
   | nil=>
     have hk:=cC (Ya.trans tB) (by omega)
     have j_:Except.error (P+1)=q:=by rw [← hF,hl0,tB]; rfl
     rw [show P+1=P+1 from rfl] at j_
     subst j_
     simp only [fJ]
     have hT:=cD (G:=G) xs
     rw [← hk] at hT
     refine cM [0,1] (hT) rfl ?_ (by decide) ?_ ?_ (by simp) ?_ <;> simp only [ag,ah,eR,gN,iz,go_sem]
   | cons x1 l2=>
   obtain ⟨vS,hx1,hd2⟩:=bW (Ya.trans tB)
   have hT:=cN (G:=G) xs (P+1) vS (by omega)
   rw [hx1] at hT
   refine av [0,1] (hT) rfl ?_ (by decide) ?_ ?_ (by simp) ?_ <;> simp only [ag,ah,go_sem]
   clear hT
   cases hl2:l2 with
   | nil=>
     have hk:=cC (hd2.trans hl2) (by omega)
     have j_:Except.error (P+2)=q:=by rw [← hF,hl0,tB,hl2]; rfl
     rw [show P+2=P+1+1 from rfl] at j_
     subst j_
     simp only [fJ]
     have hT:=cD (G:=G) xs
     rw [← hk] at hT
     refine cM [0,1] (hT) rfl ?_ (by decide) ?_ ?_ (by simp) ?_ <;> simp only [ag,ah,eR,gN,iz,go_sem]
   | cons x2 l3=>
   obtain ⟨hk2,hx2,PB⟩:=bW (hd2.trans hl2)
   have hT:=cN (G:=G) xs (P+1+1) hk2 (by omega)
   rw [hx2] at hT
   refine av [0,1] (hT) rfl ?_ (by decide) ?_ ?_ (by simp) ?_ <;> simp only [ag,ah,go_sem]
   clear hT
   cases A0:l3 with
   | nil=>
     have hk:=cC (PB.trans A0) (by omega)
     have j_:Except.error (P+3)=q:=by rw [← hF,hl0,tB,hl2,A0]; rfl
     rw [show P+3=P+1+1+1 from rfl] at j_
     subst j_
     simp only [fJ]
     have hT:=cD (G:=G) xs
     rw [← hk] at hT
     refine cM [0,1] (hT) rfl ?_ (by decide) ?_ ?_ (by simp) ?_ <;> simp only [ag,ah,eR,gN,iz,go_sem]
   | cons x3 l4=>
   obtain ⟨Ux,hx3,hd4⟩:=bW (PB.trans A0)
   have hT:=cN (G:=G) xs (P+1+1+1) Ux (by omega)
   rw [hx3] at hT
   refine av [0,1] (hT) rfl ?_ (by decide) ?_ ?_ (by simp) ?_ <;> simp only [ag,ah,go_sem]
   clear hT
   cases DS:l4 with
   | nil=>
     have hk:=cC (hd4.trans DS) (by omega)
     have j_:Except.error (P+4)=q:=by rw [← hF,hl0,tB,hl2,A0,DS]; rfl
     rw [show P+4=P+1+1+1+1 from rfl] at j_
     subst j_
     simp only [fJ]
     have hT:=cD (G:=G) xs
     rw [← hk] at hT
     refine cM [0,1] (hT) rfl ?_ (by decide) ?_ ?_ (by simp) ?_ <;> simp only [ag,ah,eR,gN,iz,go_sem]
   | cons x4 l5=>
   obtain ⟨hk4,hx4,hd5⟩:=bW (hd4.trans DS)
   have hT:=cN (G:=G) xs (P+1+1+1+1) hk4 (by omega)
   rw [hx4] at hT
   refine av [0,1] (hT) rfl ?_ (by decide) ?_ ?_ (by simp) ?_ <;> simp only [ag,ah,go_sem]
   clear hT
   cases QM:l5 with
   | nil=>
     have hk:=cC (hd5.trans QM) (by omega)
     have j_:Except.error (P+5)=q:=by rw [← hF,hl0,tB,hl2,A0,DS,QM]; rfl
     rw [show P+5=P+1+1+1+1+1 from rfl] at j_
     subst j_
     simp only [fJ]
     have hT:=cD (G:=G) xs
     rw [← hk] at hT
     refine cM [0,1] (hT) rfl ?_ (by decide) ?_ ?_ (by simp) ?_ <;> simp only [ag,ah,eR,gN,iz,go_sem]
   | cons x5 l6=>
   obtain ⟨hk5,hx5,hd6⟩:=bW (hd5.trans QM)
   have hT:=cN (G:=G) xs (P+1+1+1+1+1) hk5 (by omega)
   rw [hx5] at hT
   refine av [0,1] (hT) rfl ?_ (by decide) ?_ ?_ (by simp) ?_ <;> simp only [ag,ah,go_sem]
   clear hT
   cases DR:l6 with
   | nil=>
     have hk:=cC (hd6.trans DR) (by omega)
     have j_:Except.error (P+6)=q:=by rw [← hF,hl0,tB,hl2,A0,DS,QM,DR]; rfl
     rw [show P+6=P+1+1+1+1+1+1 from rfl] at j_
     subst j_
     simp only [fJ]
     have hT:=cD (G:=G) xs
     rw [← hk] at hT
     refine cM [0,1] (hT) rfl ?_ (by decide) ?_ ?_ (by simp) ?_ <;> simp only [ag,ah,eR,gN,iz,go_sem]
   | cons x6 l7=>
   obtain ⟨ZG,hx6,hd7⟩:=bW (hd6.trans DR)
   have hT:=cN (G:=G) xs (P+1+1+1+1+1+1) ZG (by omega)
   rw [hx6] at hT
   refine av [0,1] (hT) rfl ?_ (by decide) ?_ ?_ (by simp) ?_ <;> simp only [ag,ah,go_sem]
   clear hT
   cases X_:l7 with
   | nil=>
     have hk:=cC (hd7.trans X_) (by omega)
     have j_:Except.error (P+7)=q:=by rw [← hF,hl0,tB,hl2,A0,DS,QM,DR,X_]; rfl
     rw [show P+7=P+1+1+1+1+1+1+1 from rfl] at j_
     subst j_
     simp only [fJ]
     have hT:=cD (G:=G) xs
     rw [← hk] at hT
     refine cM [0,1] (hT) rfl ?_ (by decide) ?_ ?_ (by simp) ?_ <;> simp only [ag,ah,eR,gN,iz,go_sem]
   | cons x7 l8=>
   obtain ⟨hk7,hx7,hd8⟩:=bW (hd7.trans X_)
   have hT:=cN (G:=G) xs (P+1+1+1+1+1+1+1) hk7 (by omega)
   rw [hx7] at hT
   refine av [0,1] (hT) rfl ?_ (by decide) ?_ ?_ (by simp) ?_ <;> simp only [ag,ah,go_sem]
   clear hT
   cases X9:l8 with
   | nil=>
     have hk:=cC (hd8.trans X9) (by omega)
     have j_:Except.error (P+8)=q:=by rw [← hF,hl0,tB,hl2,A0,DS,QM,DR,X_,X9]; rfl
     rw [show P+8=P+1+1+1+1+1+1+1+1 from rfl] at j_
     subst j_
     simp only [fJ]
     have hT:=cD (G:=G) xs
     rw [← hk] at hT
     refine cM [0,1] (hT) rfl ?_ (by decide) ?_ ?_ (by simp) ?_ <;> simp only [ag,ah,eR,gN,iz,go_sem]
   | cons x8 l9=>
   obtain ⟨hk8,hx8,hd9⟩:=bW (hd8.trans X9)
   have hT:=cN (G:=G) xs (P+1+1+1+1+1+1+1+1) hk8 (by omega)
   rw [hx8] at hT
   refine av [0,1] (hT) rfl ?_ (by decide) ?_ ?_ (by simp) ?_ <;> simp only [ag,ah,go_sem]
   clear hT
   cases hl9:l9 with
   | nil=>
     have hk:=cC (hd9.trans hl9) (by omega)
     have j_:Except.error (P+9)=q:=by rw [← hF,hl0,tB,hl2,A0,DS,QM,DR,X_,X9,hl9]; rfl
     rw [show P+9=P+1+1+1+1+1+1+1+1+1 from rfl] at j_
     subst j_
     simp only [fJ]
     have hT:=cD (G:=G) xs
     rw [← hk] at hT
     refine cM [0,1] (hT) rfl ?_ (by decide) ?_ ?_ (by simp) ?_ <;> simp only [ag,ah,eR,gN,iz,go_sem]
   | cons x9 l10=>
   obtain ⟨hk9,hx9,abK⟩:=bW (hd9.trans hl9)
   have hT:=cN (G:=G) xs (P+1+1+1+1+1+1+1+1+1) hk9 (by omega)
   rw [hx9] at hT
   refine av [0,1] (hT) rfl ?_ (by decide) ?_ ?_ (by simp) ?_ <;> simp only [ag,ah,go_sem]
   clear hT
   cases Pm:l10 with
   | nil=>
     have hk:=cC (abK.trans Pm) (by omega)
     have j_:Except.error (P+10)=q:=by rw [← hF,hl0,tB,hl2,A0,DS,QM,DR,X_,X9,hl9,Pm]; rfl
     rw [show P+10=P+1+1+1+1+1+1+1+1+1+1 from rfl] at j_
     subst j_
     simp only [fJ]
     have hT:=cD (G:=G) xs
     rw [← hk] at hT
     refine cM [0,1] (hT) rfl ?_ (by decide) ?_ ?_ (by simp) ?_ <;> simp only [ag,ah,eR,gN,iz,go_sem]
   | cons x10 l11=>
   obtain ⟨acQ,acD,abJ⟩:=bW (abK.trans Pm)
   have hT:=cN (G:=G) xs (P+1+1+1+1+1+1+1+1+1+1) acQ (by omega)
   rw [acD] at hT
   refine av [0,1] (hT) rfl ?_ (by decide) ?_ ?_ (by simp) ?_ <;> simp only [ag,ah,go_sem]
   clear hT
   cases Uw:l11 with
   | nil=>
     have hk:=cC (abJ.trans Uw) (by omega)
     have j_:Except.error (P+11)=q:=by rw [← hF,hl0,tB,hl2,A0,DS,QM,DR,X_,X9,hl9,Pm,Uw]; rfl
     rw [show P+11=P+1+1+1+1+1+1+1+1+1+1+1 from rfl] at j_
     subst j_
     simp only [fJ]
     have hT:=cD (G:=G) xs
     rw [← hk] at hT
     refine cM [0,1] (hT) rfl ?_ (by decide) ?_ ?_ (by simp) ?_ <;> simp only [ag,ah,eR,gN,iz,go_sem]
   | cons x11 l12=>
   obtain ⟨acP,acC,acZ⟩:=bW (abJ.trans Uw)
   have hT:=cN (G:=G) xs (P+1+1+1+1+1+1+1+1+1+1+1) acP (by omega)
   rw [acC] at hT
   refine av [0,1] (hT) rfl ?_ (by decide) ?_ ?_ (by simp) ?_ <;> simp only [ag,ah,go_sem]
   clear hT
   rw [hl0,tB,hl2,A0,DS,QM,DR,X_,X9,hl9,Pm,Uw,za] at hF
   have uG:∀ row:List DV,(List.map dF js++[row]).length*96≤70368744177664:=fun row=>by simp only [List.length_append,List.length_map,List.length_cons,List.length_nil]; omega
   simp only [hlj,if_pos (uG _),go_sem]
   refine bg (js++[⟨x0,x1,x2,x3,x4,x5,x6,x7,x8,x9,x10,x11⟩]) ?_ ?_ ⟨by simp; omega,by simp; omega,?_⟩ (by simp; omega)
   ·simp only [go_sem]
   ·simp only [Rr,List.length_append,List.map_append,hlj,vm,aG (show k<9223372036854775807 by omega),show p0+12*(k+1)=P+1+1+1+1+1+1+1+1+1+1+1+1 by omega,go_sem]
   ·simp only [List.length_append,List.length_cons,List.length_nil,hlj,show p0+12*(k+(0+1))=P+1+1+1+1+1+1+1+1+1+1+1+1 by omega]
    rw [acZ]; exact hF
 | true=>
 have hin:i<n.toNat:=by have:=of_decide_eq_true hlt; omega
 rw [show n.toNat-i=(n.toNat-(i+1))+1 by omega] at hF
 simp only [go_sem]
 cases hl:xs.drop (1+3*i) with
 | nil=>
   have hk:=cC hl hp
   rw [hl,GY] at hF
   subst hF
   simp only [fJ]
   have hT:=oc (G:=G) xs 7
   rw [← hk] at hT
   refine cM [0,1] (hT) rfl ?_ (by decide) ?_ ?_ (by simp) ?_ <;> simp only [ag,ah,eR,gN,iz,go_sem]
 | cons f l=>
 obtain ⟨hk,hx,hd⟩:=bW hl
 have Ft:0≤f:=h0 f (by rw [← hx]; simp [List.getD,hk])
 rw [hl] at hF
 by_cases hf7:f≤7
 case neg=>
  rw [GX _ _ _ _ _ hf7] at hF
  subst hF
  simp only [fJ]
  have hT:=p6 (G:=G) xs (1+3*i) 7 hk (by omega) (by rw [hx]; exact hf7)
  refine cM [0,1] (hT) rfl ?_ (by decide) ?_ ?_ (by simp) ?_ <;> simp only [ag,ah,eR,gN,iz,go_sem]
 have hT:=sL (G:=G) xs (1+3*i) 7 hk (by omega) (by rw [hx]; exact hf7)
 rw [hx] at hT
 refine av [0,1] (hT) rfl ?_ (by decide) ?_ ?_ (by simp) ?_ <;> simp only [ag,ah,go_sem]
 cases hl2:l with
 | nil=>
   rw [hl2] at hF hd
   have hk2:=cC hd (by omega)
   rw [NM _ _ _ _ hf7] at hF
   subst hF
   simp only [fJ]
   have hT2:=cD (G:=G) xs
   rw [← hk2] at hT2
   refine Cs [0,1] (hT2) rfl (by simp only [ag,ah,go_sem]) (by decide) (by simp only [go_sem]) (by simp only [go_sem]) (by simp) ?_ ?_
   ·simp only [eR,gN,iz,go_sem]
   ·(repeat' (first | rw [xu (by decide)] | rw [Cr (by decide)])) <;> rw [AK] <;> exact ⟨by decide,by decide⟩
 | cons v l2=>
 rw [hl2] at hF hd
 obtain ⟨hk2,hx2,hd2⟩:=bW hd
 have hT2:=cN (G:=G) xs (1+3*i+1) hk2 (by omega)
 rw [hx2] at hT2
 refine ei [0,1] (hT2) rfl ?_ (by decide) ?_ ?_ (by simp) ?_ <;> simp only [ag,ah,go_sem]
 cases A0:l2 with
 | nil=>
   rw [A0] at hF hd2
   have Ux:=cC hd2 (by omega)
   rw [Lc _ _ _ _ _ hf7] at hF
   subst hF
   simp only [fJ]
   have hT3:=cD (G:=G) xs
   rw [← Ux] at hT3
   refine Cs [0,1] (hT3) rfl (by simp only [ag,ah,go_sem]) (by decide) (by simp only [go_sem]) (by simp only [go_sem]) (by simp) ?_ ?_
   ·simp only [eR,gN,iz,go_sem]
   ·(repeat' (first | rw [xu (by decide)] | rw [Cr (by decide)])) <;> rw [AK] <;> exact ⟨by decide,by decide⟩
 | cons j l3=>
 rw [A0] at hF hd2
 obtain ⟨Ux,hx3,PB⟩:=bW hd2
 have hT3:=cN (G:=G) xs (1+3*i+1+1) Ux (by omega)
 rw [hx3] at hT3
 rw [y9 _ _ _ _ _ _ _ hf7] at hF
 refine ei [0,1] (hT3) rfl ?_ (by decide) ?_ ?_ (by simp) ?_ <;> simp only [ag,ah,go_sem]
 have e1:(qL .i64 f 1 !=0)=hasB f 0∧(qL .i64 f 2 !=0)=hasB f 1∧(qL .i64 f 4 !=0)=hasB f 2:=by
  have:f=0∨f=1∨f=2∨f=3∨f=4∨f=5∨f=6∨f=7:=by omega
  rcases this with rfl | rfl | rfl | rfl | rfl | rfl | rfl | rfl <;> decide
 obtain ⟨e1,e2,e3⟩:=e1
 have uG:∀ row:List DV,(List.map bX ns++[row]).length*24≤70368744177664:=fun row=>by simp only [List.length_append,List.length_map,List.length_cons,List.length_nil]; omega
 simp only [vm,e1,e2,e3,if_pos (uG _),go_sem]
 refine an (by decide) ?_
 simp only [go_sem]
 refine bg (ns++[BP f v j]) ?_ ?_ ⟨by simp; omega,by simp; omega,?_⟩ (by simp; omega)
 ·simp only [go_sem]
 ·simp only [Rq,List.length_append,List.map_append,BP,vm,aG (show i<9223372036854775807 by omega),show 1+3*(i+1)=1+3*i+1+1+1 by omega,go_sem]
 ·simp only [List.length_append,List.length_cons,List.length_nil,vm,show 1+3*(i+(0+1))=1+3*i+1+1+1 by omega]
  rw [PB]; exact hF
theorem KH (xs:List Int) (s:aa) (UG:xs.length≤400) (h0:∀ x∈xs,0≤x) (h:kq xs=.ok s):bh Tryz.prog G 217 [.ptr 0 0] (yZ xs 0) (.agg [.sl 2 s.nodes.length 5 0 s.nodes.length,.sl 3 s.jobs.length 12 0 s.jobs.length,.int s.goal,.int s.prior,.int s.mode,.int s.term]) (yZ xs xs.length++[.dat 102 5 (s.nodes.map bX),.dat 119 12 (s.jobs.map dF)]):=by
 have hw:=yG (G:=G) xs UG h0
 rw [h] at hw
 exact cA Tryz.func217 (by decide) JE rfl hw
theorem GB (xs:List Int) (k:Nat) (UG:xs.length≤400) (h0:∀ x∈xs,0≤x) (h:kq xs=.error k):wm Tryz.prog G 217 [.ptr 0 0] (yZ xs 0) nC (yZ xs k):=by
 have hw:=yG (G:=G) xs UG h0
 rw [h] at hw
 exact IY Tryz.func217 (by decide) JE rfl rfl (by simp only [go_sem]) hw
end Dv
namespace Dv
open Go Go.Proofs
open Go.RowKit
def kV:Value:=.agg #[.slice none 0 0,.slice none 0 0,.int .i64 0,.int .i64 0,.int .i64 0,.int .i64 0]
theorem Bc {P:Program} {T type:TypeId} {n:Nat} {x y:Operand} {pos:String} {after:Array Edge} {g:Option (Nat×Bool)} {a:Act} {w:World} {K:Act→World→Prop} {Q:Exit→Act→World→Prop} {b off:Nat} {v:Value} (hx:a.eval x=.pointer (some ⟨b,off,none⟩)) (hy:a.eval y=v) (hs:dP P T=some n) (ht:w.there b off v.cells.size) (hl:v.cells.size=n) (h1:∀ u∈v.cells.toList,u.oneCell'=true)
  (hK:K a (w.setCells b off v.cells.toList)):Oper.wp P ⟨none,.store T x y,type,pos,after,g⟩ a w K Q:=by
 have hr:=yP (P:=P) (w:=w) hs ht hl h1
 refine (cw.xX (post:=fun _ w'=>w'=w.setCells b off v.cells.toList) ?_ rfl) K Q (fun v' w' h=>by subst h; exact hK)
 show (execOp a.eval _).run P w=_
 simp only [execOp,hx,hy,Sem.run_bind,hr,Result.andThen_ok,Sem.run_pure]
theorem IA (ps pk:Value) (w:World) :
  CallsD Tryz.prog 214 #[ps,pk] .returning w fun e u' w'=>e=.returned (.tuple #[])∧u'=.returning∧w'=w:=by
 refine callsD_of_wpS Tryz.func214 rfl fun c₀ cs hu=>?_
 apply wpS_seq
 apply wpS_region
 simp [wpOpsS,go_sem,recoverD,hu,Tryz.ntmps214,Exit.thenS]
 apply wpS_seq
 apply wpS_region
 simp [wpOpsS,go_sem,recoverD,hu,Tryz.ntmps214,Exit.thenS]
 refine wpS_cond (t:=false) (by simp [Act.eval,Array.replicate]) ?_
 simp only [Bool.false_eq_true,if_false]
 refine wpS_of_wp (wp_skip ?_)
 cases c₀
 simp_all [bodyPostS,results,Tryz.results214]
theorem Mx (bs bk:Nat) (C:Array Value) (b:Value) (w:World) (hs:w.heap[bs]? = some (.cells C 30 (0,0))) (hC:C.size=6) (hk:w.heap[bk]? = some (.cells #[b] 4 (0,0))) (hne:bs≠bk) :
  CallsD Tryz.prog 214 #[.pointer (some ⟨bs,0,none⟩),.pointer (some ⟨bk,0,none⟩)] (.panicking [{ v:=nC,recovered:=false }]) w fun e u' w'=>
   e=.returned (.tuple #[])∧u'=.panicking [{ v:=nC,recovered:=true }]∧w'=((w.alloc (.cells #[] 275)).setCells bs 0 kV.cells.toList).setCells bk 0 [.bool false]:=by
 refine callsD_of_wpS Tryz.func214 rfl fun c₀ cs hu=>?_
 apply wpS_seq
 apply wpS_region
 simp [wpOpsS,go_sem,recoverD,hu,nC,Tryz.ntmps214,Exit.thenS]
 apply wpS_seq
 apply wpS_region
 simp [wpOpsS,go_sem,recoverD,hu,nC,Tryz.ntmps214,Exit.thenS]
 refine wpS_cond (t:=true) (by simp [Act.eval,Array.replicate]) ?_
 simp only [if_true]
 refine wpS_of_wp ?_
 simp only [Array.replicate_succ,Array.replicate_zero,List.push_toArray,List.append_toArray,List.nil_append,List.cons_append,List.size_toArray]
 have hta:∀ w,(Instr.typeAssert (Value.iface 275 (.agg #[])) 20 275 true).run Tryz.prog w=.ok (.tuple #[.agg #[],.bool true]) w:=fun _=>by rfl
 apply wp_seq
 refine wp_mono (Q:=fun e a' w'=>e=.normal∧w'=w.alloc (.cells #[] 275)∧a'.tmps[0]? = some (.pointer (some ⟨bs,0,none⟩))∧a'.tmps[1]? = some (.pointer (some ⟨bk,0,none⟩))∧a'.tmps.size=17∧a'.defers=[]) ?_ ?_
 ·go_wp2
 rintro e ⟨tmps,ds⟩ w' ⟨rfl,rfl,e0,e1,e2,e3⟩
 dsimp only at e0 e1 e2 e3
 subst e3
 simp only [Exit.then]
 refine wp_region_list ?_
 have xF:bs<w.heap.size:=(Array.getElem?_eq_some_iff.1 hs).1
 have hkl:bk<w.heap.size:=(Array.getElem?_eq_some_iff.1 hk).1
 have as1:(w.alloc (.cells #[] 275)).heap[bs]? = some (.cells C 30 (0,0)):=(Below.heap_alloc _ _ _ xF).trans hs
 have ak1:(w.alloc (.cells #[] 275)).heap[bk]? = some (.cells #[b] 4 (0,0)):=(Below.heap_alloc _ _ _ hkl).trans hk
 generalize hw1:w.alloc (.cells #[] 275)=w1 at *
 refine wpList_plain rfl (fun K hK=>?_)
 refine cw.of_run (v:=kV) (w':=w1) (post:=fun v' w'=>v'=kV∧w'=w1) (by simp [execOp,kV,go_sem]) ⟨rfl,rfl⟩ K _ (fun v' w' h=>?_)
 obtain ⟨rfl,rfl⟩:=h
 refine hK _ _ ?_
 refine wpList_plain rfl (fun K hK=>?_)
 refine Bc (n:=6) (b:=bs) (off:=0) (v:=kV) ?_ ?_ (by kernel_rfl) ?_ rfl ?_ (hK _ _ ?_)
 ·simp [Act.eval,Act.put,e0]
 ·simp [Act.eval,Act.put,e2]
 ·intro j hj
  have hj:j<6:=hj
  simp [World.cell?,World.frozen?,as1,hC,hj]
 ·intro u hu
  simp [kV,Value.cells] at hu
  rcases hu with rfl | rfl <;> rfl
 clear hK
 refine wpList_plain rfl (fun K hK=>?_)
 refine Bc (n:=1) (b:=bk) (off:=0) (v:=.bool false) ?_ rfl (by kernel_rfl) ?_ rfl ?_ (hK _ _ ?_)
 ·simp [Act.eval,Act.put,e1]
 ·intro j hj
  have hj:j<1:=hj
  obtain rfl:j=0:=by omega
  have h3:(w'.setCells bs 0 kV.cells.toList).heap[bk]? = some (.cells #[b] 4 (0,0)):=(heap_setCells_other (fun e=>hne e.symm) _ _ _).trans ak1
  simp [World.cell?,World.frozen?,h3]
 ·intro u hu
  simp [Value.cells] at hu
  subst hu; rfl
 refine wpList_nil ?_
 refine ⟨rfl,_,rfl,.tuple #[],results_none rfl _ _ _,rfl,rfl,rfl⟩
end Dv
namespace Dv
open Go Go.Proofs
variable {G:Nat→Option (List DV)}
attribute [local go_sem] fP
def Wj:=qx Tryz.f261
theorem SH:aj Tryz.prog Tryz.f261=some Wj:=by kernel_rfl
def WR:=qx Tryz.f215
theorem Tf:aj Tryz.prog Tryz.f215=some WR:=by kernel_rfl
def EC (b:List Int) (p:Nat) (k:Bool):List aC:=[.box 57 [ak b],.box 3 [.int p],.box 4 [.bool k]]
attribute [local go_sem] EC ak
attribute [local simp] EC
theorem yW (b:List Int) (hb:∀ c∈b,0≤c∧c≤255) (hl:b.length≤1000000) (a0:Nat) (ha:a0≤1000000) (q:Option (Int×Nat)) (hq:fZ b a0=q) (p:Nat) (k:Bool) :
  bh Tryz.prog G 261 [.int a0,.ptr 0 0,.ptr 1 0,.ptr 2 0] (EC b p k) (.int (yX q)) (EC b (yY q) q.isSome):=by
 refine Cz Tryz.func261 (by decide) SH rfl rfl rfl rfl ?_
 simp only [Wj,go_sem]
 refine ax (jJ b hb hl a0 ha q hq) rfl rfl rfl rfl ?_; simp only [go_sem]
def glS (b:List Int) (n:Int) (p:List Int×Nat):St:=⟨[(9,.ptr 1 0),(10,.ptr 2 0),(11,.fn (.func 261) [] [.ptr 0 0,.ptr 1 0,.ptr 2 0]),(13,.sl 3 p.1.length 1 0 p.1.length),(26,.int n),(27,.int p.1.length)],(EC b p.2 true++[aC.dat 3 1 (gW p.1)]).map some⟩
def zX:Option (List Int×Nat)→LV
 | none=>.dH [.d (.val (.slice none 0 0)),.int 0,.bool false]
 | some (xs,e)=>.dH [.sl 0 xs.length 1 0 xs.length,.int e,.bool true]
def zY:Option (List Int×Nat)→List aC
 | none=>[]
 | some (xs,e)=>[.dat 3 1 (gW xs)]
theorem kJ (b:List Int) (hb:∀ c∈b,0≤c∧c≤255) (hl:b.length≤1000000) (many:Nat) (hm:many≤1000) (q:Option (List Int×Nat)) (hq:vW b 0 many=q):bh Tryz.prog G 215 [ak b,.int 0,.int many] [] (zX q) (zY q):=by
 refine cA Tryz.func215 (by decide) Tf rfl ?_
 simp only [WR,go_sem]
 refine av [0,1,2] (yW b hb hl 0 (by decide) _ rfl 0 false) rfl ?_ (by decide) ?_ ?_ (by simp) ?_ <;> simp only [ag,ah,go_sem,Int.natCast_zero]
 unfold vW at hq
 cases hn:fZ b 0 with
 | none=>
   rw [hn] at hq
   subst hq
   simp only [yX,yY,Option.isSome_none,zX,zY,go_sem]
   exact jh (ay:=[]) ⟨rfl,rfl⟩ rfl rfl rfl
 | some np=>
 obtain ⟨n,p0⟩:=np
 rw [hn] at hq
 dsimp only at hq
 obtain ⟨hn0,hn1,hp0,hp1⟩:=fW (fun c hc=>(hb c hc).1) hn
 by_cases hgt:(many:Int)<n
 case pos=>
  rw [if_pos hgt] at hq
  subst hq
  simp only [yX,yY,Option.isSome_some,decide_eq_true (show n>(many:Int) from hgt),zX,zY,go_sem]
  exact jh (ay:=[]) ⟨rfl,rfl⟩ rfl rfl rfl
 rw [if_neg hgt] at hq
 simp only [yX,yY,Option.isSome_some,decide_eq_false (show ¬ n>(many:Int) from hgt),go_sem]
 refine aR [9,10,11,13,26,27] [.t 13 3 1] (fun p:List Int×Nat=>p.1.length≤n.toNat∧p.2≤b.length∧(qy b (n.toNat-p.1.length) p.2).map (fun r=>(p.1++r.1,r.2))=q) (fun p=>n.toNat-p.1.length) (glS b n) ([],p0) ?_ ⟨Nat.zero_le _,hp1,?_⟩ ?_
 ·simp only [glS,gW,Int.natCast_zero,go_sem]
 ·dsimp only
  rw [← hq]
  simp
 clear hn hp0 hp1 hq
 rintro ⟨xs,p⟩ ⟨hk,hp,hF⟩
 dsimp only at hk hp hF
 generalize Fq:xs.length=k at *
 simp only [glS,Fq,go_sem]
 cases hlt:decide ((k:Int)<n) with
 | false=>
   have hk2:k=n.toNat:=by have:=of_decide_eq_false hlt; omega
   rw [show n.toNat-k=0 by omega] at hF
   have:q=some (xs,p):=by rw [← hF]; simp [qy]
   subst this
   simp only [zX,zY,Fq,go_sem]
   refine dm [] [3] [] (vs:=[.sl 3 k 1 0 k,.int p,.bool true]) rfl rfl (by decide) (by simp) (by simp) ?_ ?_ ?_
   ·simp [St.obj,au,c_,ff]
   ·simp [dV]
   ·simp [aP,ah,ag,c_,St.obj,au,LV.int,LV.bool]
 | true=>
 have hk2:k<n.toNat:=by have:=of_decide_eq_true hlt; omega
 rw [show n.toNat-k=(n.toNat-(k+1))+1 by omega] at hF
 unfold qy at hF
 simp only [go_sem]
 cases hn:fZ b p with
 | none=>
   rw [hn] at hF
   have:q=none:=by rw [← hF]; rfl
   subst this
   refine av [0,1,2] (yW b hb hl p (by omega) _ hn p true) rfl ?_ (by decide) ?_ ?_ (by simp) ?_ <;> simp only [ag,ah,go_sem,yX,yY,Option.isSome_none]
   simp only [zX,zY,go_sem]
   exact jh (ay:=[]) ⟨rfl,rfl⟩ rfl rfl rfl
 | some np=>
 obtain ⟨x,p1⟩:=np
 rw [hn] at hF
 dsimp only at hF
 refine av [0,1,2] (yW b hb hl p (by omega) _ hn p true) rfl ?_ (by decide) ?_ ?_ (by simp) ?_ <;> simp only [ag,ah,go_sem,yX,yY,Option.isSome_some]
 obtain ⟨hx0,hx1,hp2,hp3⟩:=fW (fun c hc=>(hb c hc).1) hn
 have uG:∀ row:List DV,(gW xs++[row]).length*8≤70368744177664:=fun row=>by simp [gW,Fq]; omega
 have hnl:(gW xs).length=k:=by simp [gW,Fq]
 have h7:k=(gW xs).length∧(gW xs++[[DV.val (Value.int IntKind.i64 x)]]).length*8≤70368744177664:=⟨hnl.symm,uG _⟩
 rw [if_pos h7]
 simp only [hnl,go_sem]
 have hap:(xs++[x]).length=k+1:=by simp [Fq]
 refine bg (xs++[x],p1) ?_ ?_ ⟨by dsimp only; omega,hp3,?_⟩ (by dsimp only; omega)
 ·simp only [go_sem]
 ·simp only [glS,hap,gW,List.map_append,aG (show k<9223372036854775807 by omega),go_sem]
 ·dsimp only
  rw [hap,← hF]
  cases qy b (n.toNat-(k+1)) p1 with
  | none=>rfl
  | some r=>simp
theorem Fy (b:List Int) (hb:∀ c∈b,0≤c∧c≤255) (hl:b.length≤1000000) (many:Nat) (hm:many≤1000) (xs:List Int) (e:Nat) (h:vW b 0 many=some (xs,e)):bh Tryz.prog G 215 [ak b,.int 0,.int many] [] (.dH [.sl 0 xs.length 1 0 xs.length,.int e,.bool true]) [.dat 3 1 (gW xs)]:=kJ b hb hl many hm _ h
theorem vV (b:List Int) (hb:∀ c∈b,0≤c∧c≤255) (hl:b.length≤1000000) (many:Nat) (hm:many≤1000) (h:vW b 0 many=none):bh Tryz.prog G 215 [ak b,.int 0,.int many] [] (.dH [.d (.val (.slice none 0 0)),.int 0,.bool false]) []:=kJ b hb hl many hm _ h
end Dv
namespace Dv
open Go Go.Proofs
variable {G:Nat→Option (List DV)}
attribute [local go_sem] yZ LL ak az u8 gW j8
attribute [local simp] yZ
def abW:C:=(.qV [⟨(some 2),.box 23 (.t 0),none,[]⟩,⟨(some 4),.new 30 [(.val (.slice none 0 0)),(.val (.slice none 0 0)),(.val (.int .i64 0)),(.val (.int .i64 0)),(.val (.int .i64 0)),(.val (.int .i64 0))],none,[]⟩,⟨(some 5),.new 4 [(.val (.bool false))],none,[]⟩])
def ZU:C:=(.seq (.qV [⟨(some 11),.mv (.t 1),none,[]⟩,⟨(some 12),.call (.f 215) [(.t 11),(.c (.val (.int .i64 0))),(.c (.val (.int .i64 400)))],none,[]⟩,⟨(some 10),.mv (.t 12),none,[]⟩,⟨(some 13),.ext (.t 10) 0,none,[]⟩,⟨(some 14),.ext (.t 10) 1,none,[]⟩,⟨(some 15),.ext (.t 10) 2,none,[]⟩,⟨(some 6),.mv (.t 13),none,[]⟩,⟨(some 7),.mv (.t 14),none,[]⟩,⟨(some 8),.mv (.t 15),none,[]⟩])
 (.seq (.qV [⟨(some 16),.mv (.t 8),none,[]⟩,⟨(some 17),.mv (.t 16),none,[]⟩,⟨(some 18),.mv (.t 7),(some (17,true)),[]⟩,⟨(some 19),.mv (.t 1),(some (17,true)),[]⟩,⟨(some 20),.len (.t 19),(some (17,true)),[]⟩,⟨(some 21),.bin .eql (.t 18) (.t 20),(some (17,true)),[]⟩,⟨(some 22),.pick (.t 17) (.t 21) (.c (.val (.bool false))),none,[]⟩,⟨(some 23),.call (.f 216) [(.t 22)],none,[]⟩])
 (.seq (.qV [⟨(some 24),.mv (.t 6),none,[]⟩,⟨(some 25),.build [(.val (.slice none 0 0))] [(0,1,(.t 24))],none,[]⟩,⟨(some 26),.box 282 (.t 25),none,[]⟩,⟨(some 27),.call (.f 217) [(.t 26)],none,[]⟩,⟨none,.st 6 (.t 4) (.t 27),none,[]⟩])
 (.seq (.qV [⟨(some 28),.Jw 9 (.t 2),none,[]⟩,⟨(some 29),.Jw 6 (.t 4),none,[]⟩,⟨(some 30),.call (.f 42) [(.t 28),(.t 29)],none,[]⟩,⟨(some 31),.call (.f 216) [(.t 30)],none,[]⟩])
 (.seq (.qV [⟨(some 32),.Jw 6 (.t 4),none,[]⟩,⟨none,.st 6 (.t 4) (.t 32),none,[]⟩,⟨none,.st 1 (.t 5) (.c (.val (.bool true))),none,[]⟩])
 .ret)))))
def Px:Option Code→Code
 | some (.seq a _)=>a
 | _=>.skip
def GP:Option Code→Code
 | some (.seq _ (.seq _ b))=>b
 | _=>.skip
theorem UM:eD Tryz.prog 33 (Px Tryz.f132.body)=some abW:=by kernel_rfl
theorem UL:eD Tryz.prog 33 (GP Tryz.f132.body)=some ZU:=by kernel_rfl
def FF (c:aB) (b:List Int):Option aa→St→Prop
 | some s=>fun st=>st.get 4=.ptr 1 0∧st.get 5=.ptr 2 0∧st.obj 2=.live (.box 4 [.bool true])∧∃ cells Z,st.obj 1=.live (.box 30 cells)∧cells.length=6∧(∀ z∈Z,∃ et e rows,st.obj z=.live (.dat et e rows)∨st.obj z=.live (.kK et e rows))∧ah st.obj [] Z (.agg cells) (aY s)
 | none=>fun _=>False
def HY (st:St):Prop:=st.get gN=.d (.val nC)∧st.get 4=.ptr 1 0∧st.get 5=.ptr 2 0∧∃ cells x,st.obj 1=.live (.box 30 cells)∧cells.length=6∧st.obj 2=.live (.box 4 [x])
def qA:Option aa→List It
 | some _=>[]
 | none=>[.pn HY]
def LX (c:aB) (b:List Int):St:=⟨[(5,.ptr 2 0),(4,.ptr 1 0),(2,.ptr 0 0),(0,fN c),(1,ak b)],[some (.box 23 [.int c.nodes,.int c.bI,.int c.cH,.int c.iN,.int c.cr,.int c.eZ,.int c.deadline,.int c.room,.int c.gX]),some (.box 30 [j8,j8,.int 0,.int 0,.int 0,.int 0]),some (.box 4 [.bool false])]⟩
theorem PI (c:aB) (b:List Int) (hb:∀ x∈b,0≤x∧x≤255) (hl:b.length≤1000000):W Tryz.prog G (FF c b (sW c b)) (.c ZU::qA (sW c b)) (LX c b):=by
 generalize hq:sW c b=q
 unfold sW at hq
 simp only [ZU,LX,go_sem]
 cases hL:vW b 0 400 with
 | none=>
   rw [hL] at hq
   subst hq
   refine ax (vV b hb hl 400 (by decide) hL) rfl rfl rfl rfl ?_
   simp only [qA,go_sem]
   refine nP kS rfl rfl rfl ?_
   simp only [eR,gN,HY,go_sem]
   exact ⟨_,_,rfl,rfl,rfl⟩
 | some p=>
 obtain ⟨xs,e⟩:=p
 obtain ⟨h1,h2,h3⟩:=Fz (fun c hc=>(hb c hc).1) hL
 rw [hL] at hq
 dsimp only at hq
 refine gu (Fy b hb hl 400 (by decide) xs e hL) rfl rfl rfl ?_
 simp only [go_sem]
 by_cases he:e=b.length
 case neg=>
  rw [if_neg he] at hq
  subst hq
  have Py:(((e:Nat):Int)==((b.length:Nat):Int))=false:=by simp; omega
  simp only [qA,Py,go_sem]
  refine nP kS rfl rfl rfl ?_
  simp only [eR,gN,HY,go_sem]
  exact ⟨_,_,rfl,rfl,rfl⟩
 rw [if_pos he] at hq
 have Py:(((e:Nat):Int)==((b.length:Nat):Int))=true:=by simp; omega
 simp only [Py,go_sem]
 refine ax (qq) rfl rfl rfl rfl ?_; simp only [go_sem]
 have h0:∀ x∈xs,0≤x:=fun x hx=>(h2 x hx).1
 cases hp:kq xs with
 | error k=>
   rw [hp] at hq
   dsimp only at hq
   subst hq
   simp only [qA]
   refine cM [4,3] (GB xs k h1 h0 hp) rfl (by simp only [ag,ah,go_sem]) (by decide) (by simp only [Nat.sub_zero,go_sem]) (by simp only [go_sem]) (by simp) ?_
   simp only [eR,gN,HY,go_sem]
   exact ⟨_,_,rfl,rfl,rfl⟩
 | ok s=>
 rw [hp] at hq
 dsimp only at hq
 refine av [4,3] (KH xs s h1 h0 hp) rfl (by simp only [ag,ah,go_sem]) (by decide) (by simp only [Nat.sub_zero,go_sem]) (by simp only [go_sem]) (by simp) ?_
 simp only [go_sem]
 have ht1:List.take s.nodes.length (s.nodes.map bX)=s.nodes.map bX:=List.take_of_length_le (by simp)
 have ht2:List.take s.jobs.length (s.jobs.map dF)=s.jobs.map dF:=List.take_of_length_le (by simp)
 refine ye [5,6] (Bz c s) rfl (by simp [ag,ah,bB,au,ht1,ht2,go_sem]) (by simp [au]) rfl rfl ?_; simp only [go_sem]
 cases hr:iD c s with
 | false=>
   rw [hr,if_neg (by decide)] at hq
   subst hq
   simp only [qA,go_sem]
   refine nP kS rfl rfl rfl ?_
   simp only [eR,gN,HY,go_sem]
   exact ⟨_,_,rfl,rfl,rfl⟩
 | true=>
   rw [hr,if_pos rfl] at hq
   subst hq
   refine ax (qq) rfl rfl rfl rfl ?_; simp only [go_sem]
   simp only [FF]
   refine ⟨rfl,rfl,rfl,_,[5,6],rfl,rfl,?_,?_⟩
   ·intro z hz
    simp only [List.mem_cons,List.not_mem_nil,or_false] at hz
    rcases hz with rfl | rfl
    ·exact ⟨_,_,_,.inl rfl⟩
    ·exact ⟨_,_,_,.inl rfl⟩
   ·simp [St.obj,au,ah,ag,bB,LV.int,aY,bS,de,List.take_of_length_le]
end Dv
namespace Dv
open Go Go.Proofs
open Go.RowKit
variable {G:Nat→Option (List DV)}
def wV (q:Option aa):LV:=.dH [aY (q.getD Vk),.bool q.isSome]
def Vu:Option Code→Code
 | some (.seq _ (.seq b _))=>b
 | _=>.skip
theorem PK:Tryz.f132.body=some (.seq (Px Tryz.f132.body) (.seq (Vu Tryz.f132.body) (GP Tryz.f132.body))):=by kernel_rfl
theorem PJ:oI Tryz.prog Tryz.f132.results.toList=some [.cn 4 6,.c1 5]:=by kernel_rfl
theorem UI {Q:Exit→Act→World→Prop} {a:Act} {w:World} (hs:a.tmps.size=33) {bs bk:Nat} (h4:a.tmps.getD 4 Go.undef=.pointer (some ⟨bs,0,none⟩)) (h5:a.tmps.getD 5 Go.undef=.pointer (some ⟨bk,0,none⟩))
  (hQ:∀ a':Act,a'.defers = { target:=.fn (.func 214) #[.pointer (some ⟨bs,0,none⟩),.pointer (some ⟨bk,0,none⟩)],args:=#[] }::a.defers→a'.tmps.size=33→(∀ t,t≠9→a'.tmps.getD t Go.undef=a.tmps.getD t Go.undef)→Q .normal a' w):(Vu Tryz.f132.body).wp Tryz.prog Q a w:=by
 refine wp_region_list ?_
 refine wpList_plain rfl (fun K hK=>?_)
 have e4:a.eval (.tmp 4)=.pointer (some ⟨bs,0,none⟩):=by
  rw [← h4]; simp [Act.eval,Array.getD_eq_getD_getElem?]
 have e5:a.eval (.tmp 5)=.pointer (some ⟨bk,0,none⟩):=by
  rw [← h5]; simp [Act.eval,Array.getD_eq_getD_getElem?]
 refine cw.of_run (v:=.func (.func 214) #[] #[.pointer (some ⟨bs,0,none⟩),.pointer (some ⟨bk,0,none⟩)]) (w':=w) (post:=fun v' w'=>v'=.func (.func 214) #[] #[.pointer (some ⟨bs,0,none⟩),.pointer (some ⟨bk,0,none⟩)]∧w'=w) ?_ ⟨rfl,rfl⟩ K _ (fun v' w' h=>?_)
 ·simp [execOp,go_sem,e4,e5]
  exact ⟨by simpa [Array.getD_eq_getD_getElem?] using h4,by simpa [Array.getD_eq_getD_getElem?] using h5⟩
 obtain ⟨rfl,rfl⟩:=h
 refine hK _ _ ?_
 clear hK
 refine wpList_plain rfl (fun K hK=>?_)
 have e9:(a.put (some 9) (.func (.func 214) #[] #[.pointer (some ⟨bs,0,none⟩),.pointer (some ⟨bk,0,none⟩)])).eval (.tmp 9)=.func (.func 214) #[] #[.pointer (some ⟨bs,0,none⟩),.pointer (some ⟨bk,0,none⟩)]:=by
  simp [Act.eval,Act.put,hs]
 unfold Oper.wp
 have hrun:(execOp (a.put (some 9) (.func (.func 214) #[] #[.pointer (some ⟨bs,0,none⟩),.pointer (some ⟨bk,0,none⟩)])).eval
   { dst:=none,op:=Op.defer { callee:=Callee.value (Operand.tmp 9),args:=#[],argTypes:=#[] },type:=0,pos:= "image.go:88",after:=#[{ on:=0,ground:=Ground.data }],guard:=none }).run Tryz.prog w'=.ok (.defer { target:=.fn (.func 214) #[.pointer (some ⟨bs,0,none⟩),.pointer (some ⟨bk,0,none⟩)],args:=#[] }) w':=by
  simp [execOp,resolve,Deferred.ofValue,e9,hs,go_sem]
 rw [hrun,Oper.upon_defer]
 refine hK _ _ (wpList_nil (hQ _ rfl ?_ ?_))
 ·simp [Act.put,hs]
 ·intro t ht
  simp [Act.put,Array.getD_eq_getD_getElem?,Array.getElem?_setIfInBounds_ne (fun e=>ht e.symm)]
def dG (bs bk:Nat):Deferred:={ target:=.fn (.func 214) #[.pointer (some ⟨bs,0,none⟩),.pointer (some ⟨bk,0,none⟩)],args:=#[] }
theorem Cj (bs bk:Nat) (w:World):(invoke (.fn (.func 214) #[.pointer (some ⟨bs,0,none⟩),.pointer (some ⟨bk,0,none⟩)]) #[]).run Tryz.prog w=.ok (.enter 214 #[.pointer (some ⟨bs,0,none⟩),.pointer (some ⟨bk,0,none⟩)]) w:=by
 simp only [invoke]
 exact nK (by decide) _ w
theorem UH (c:aB) (b:List Int) (hb:∀ x∈b,0≤x∧x≤255) (hl:b.length≤1000000):bh Tryz.prog G 132 [fN c,ak b] [] (wV (sW c b)) []:=by
 refine ⟨by decide,fun J0 bV w0 vs S0 hargs=>?_⟩
 refine calls_of_wp_defers Tryz.func132 PK ?_
 refine Ks UM (s1:=LX c b) ?_ (Kh (n:=33) (aH:=[]) S0 hargs (show 2≤33 by decide)) (fun a w hA=>?_)
 ·simp [abW,vc,gy,yj,ym,cE,LX,fN,fm,bM.ev,St.get,aW,St.app,dU,fH,LV.cells,j8,LV.int,LV.bool]
 obtain ⟨J1,xL,S1,E1⟩:=hA.ex
 obtain ⟨bs,QS,h4⟩:=S1.env 4
 obtain ⟨bk,hbk,h5⟩:=S1.env 5
 refine wp_seq (UI S1.size h4 h5 (fun a1 hd hs ht=>?_))
 show (GP Tryz.f132.body).wp Tryz.prog _ a1 w
 have ac7:nR G (Dk.plain [dG bs bk] false) 33 (LX c b).obj J1 xL w (LX c b) a1 w:=by
  refine ⟨J1,xL,⟨S1.store,fun t=>?_,hs,by rw [hd,S1.defers.none rfl]; exact Marks.plain (Dk.plain [dG bs bk] false) w,trivial,S1.lim⟩,Ext.refl ..⟩
  by_cases h9:t=9
  ·subst h9; trivial
  ·rw [ht t h9]; exact S1.env t
 have hw:=PI (G:=G) c b hb hl
 generalize sW c b=q at *
 refine Kt (fin:=FF c b q) (pan:=fun s=>q=none∧HY s) UL ?_ ac7 ?_ ?_
 ·simp only [W] at hw
  refine nS _ _ ⟨W Tryz.prog G (FF c b q) (qA q),fun i s'=>Wx Tryz.prog G (FF c b q) i (qA q) s',FF c b q,qZ,none⟩ ⟨FF c b q,fun i s=>i=gN∧(q=none∧HY s),FF c b q,qZ,none⟩ (fun s h=>?_) (fun i s h=>?_) (fun s h=>h) hw
  ·cases q with
   | none=>simpa only [qA,W] using h
   | some s0=>simpa only [qA,W] using h
  ·cases q with
   | none=>
     simp only [qA,Wx] at h
     split at h
     ·rename_i hi; exact ⟨hi,rfl,h⟩
     ·exact h.elim
   | some s0=>simp only [qA,Wx] at h
 ·intro s a2 w2 hA2 A4
  obtain ⟨J2,xK,S2,E2⟩:=hA2.ex
  cases q with
  | none=>exact A4.elim
  | some s0=>
  obtain ⟨g4,g5,X6,cells,Z,Zz,DR,hZ,hR⟩:=A4
  have hL:Leaves Tryz.prog Tryz.f132 a2.tmps (fun e w'=>∃ v,e=Ending.returned v∧aN G (au (List.map some [])) (au (List.map some [])) J0 bV w0 (wV (some s0)) v w') a2.defers .returning w2:=by
   rw [S2.defers.none rfl]
   refine leaves_cons (by simp) (Cj bs bk w2) ((IA _ _ w2).mono ?_)
   rintro e u' w' ⟨rfl,rfl,rfl⟩
   obtain ⟨v,hv1,HF⟩:=DB (r:=wV (some s0)) Z S2.store S2.env S0 (E1.trans E2) PJ (rs:=[.agg cells,.bool true]) (by
    have:List.take 6 cells=cells:=List.take_of_length_le (by omega)
    simp [yf.of,RV.of,g4,g5,Zz,X6,DR,this,LV.bool]) hZ (by
    simp [aP,wV,ah,ag,LV.bool]
    exact hR)
   exact ⟨v,hv1,v,rfl,HF⟩
  exact ⟨hL,hL⟩
 ·rintro v s a2 w2 hd2 ⟨J2,xK,S2,E2,ac_⟩ ⟨rfl,hv,g4,g5,cells,x,Zz,DR,X6⟩
  have hv:v=nC:=by simpa [jT,St.get,aW] using hv
  subst hv
  have g4:s.get 4=.ptr 1 0:=by simpa [jT,St.get,aW,gN] using g4
  have g5:s.get 5=.ptr 2 0:=by simpa [jT,St.get,aW,gN] using g5
  have Zz:s.obj 1=.live (.box 30 cells):=Zz
  have X6:s.obj 2=.live (.box 4 [x]):=X6
  have hb1:xK 1 0=some bs:=E2.ev.gQ 1 0 bs QS
  have hb2:xK 2 0=some bk:=E2.ev.gQ 2 0 bk hbk
  have r1:=S2.rep 1
  rw [Zz] at r1
  obtain ⟨⟨b1,C,k1,k2,k3⟩,_⟩:=r1
  rw [hb1] at k1; cases k1
  have r2:=S2.rep 2
  rw [X6] at r2
  obtain ⟨⟨b2,C2,m1,m2,m3⟩,_⟩:=r2
  rw [hb2] at m1; cases m1
  have hC:C.size=6:=by have:=k3.length; simp at this; omega
  obtain ⟨C2⟩:=C2
  match C2,m3 with
  | [x2],_=>
  have hne:bs≠bk:=fun e=>by
   have:=S2.inj 1 2 bs (by rw [Zz]; exact hb1) (by rw [X6,e]; exact hb2)
   cases this
  have hlen:2<s.af.length:=mz X6
  obtain ⟨J3,Yo,S3,_,E3⟩:=aN.box S2 (base:=s.af.length) (cv (Nat.le_refl _)) 275 [] #[] trivial
  obtain ⟨b1',j1,_,J4,ι4,S4,_,E4⟩:=aN.yL S3 (o:=1) (et:=30) (cells:=cells) (cs:=[j8,j8,.int 0,.int 0,.int 0,.int 0]) (vs:=kV.cells.toList) (col:=0) (by rw [if_neg (by omega)]; exact Zz)
   (by simp [bA,cT,jM,kV,j8,LV.int,Value.cells,Value.oneCell']) (by simp [DR])
  have e1:b1'=bs:=by have:=E3.ev.gQ 1 0 bs hb1; rw [this] at j1; exact (Option.some.inj j1).symm
  subst e1
  obtain ⟨b2',j2,_,J5,ι5,S5,_,E5⟩:=aN.yL S4 (o:=2) (et:=4) (cells:=[x]) (cs:=[.bool false]) (vs:=[.bool false]) (col:=0) (by rw [if_neg (by omega),if_neg (by omega)]; exact X6)
   (by simp [bA,cT,jM,LV.bool,Value.oneCell']) (by simp)
  have e2:b2'=bk:=by have:=E4.ev.gQ 2 0 bk (E3.ev.gQ 2 0 bk hb2); rw [this] at j2; exact (Option.some.inj j2).symm
  subst e2
  obtain ⟨s3,X2⟩:∃ s3:St,s3=⟨s.env,((s.af++[some (aC.box 275 [])]).set 1 (some (aC.box 30 (splice cells 0 [j8,j8,.int 0,.int 0,.int 0,.int 0])))).set 2 (some (aC.box 4 (splice [x] 0 [.bool false])))⟩:=⟨_,rfl⟩
  have rL:s3.obj=fun o=>if o=2 then .live (.box 4 (splice [x] 0 [.bool false])) else if o=1 then .live (.box 30 (splice cells 0 [j8,j8,.int 0,.int 0,.int 0,.int 0])) else if o=s.af.length then .live (.box 275 []) else s.obj o:=by
   subst X2
   exact (EJ (by simp; omega) _).trans (by rw [EJ (by simp; omega),gI]; rfl)
  have S5':aF G J5 (((w2.alloc (.cells #[] 275)).setCells b1' 0 kV.cells.toList).setCells b2' 0 [.bool false]) ι5 s3.obj:=by rw [rL]; exact S5
  have E5':=E5
  rw [← rL] at E5'
  have h6:splice cells 0 [j8,j8,.int 0,.int 0,.int 0,.int 0]=[j8,j8,.int 0,.int 0,.int 0,.int 0]:=by
   simp only [splice,List.take_zero,List.nil_append,List.length_cons,List.length_nil]
   rw [List.drop_eq_nil_of_le (by omega),List.append_nil]
  have q1:s3.obj 1=.live (.box 30 [j8,j8,.int 0,.int 0,.int 0,.int 0]):=by rw [rL,h6]; rfl
  have q2:s3.obj 2=.live (.box 4 [.bool false]):=by rw [rL]; rfl
  have p4:s3.get 4=.ptr 1 0:=by subst X2; exact g4
  have p5:s3.get 5=.ptr 2 0:=by subst X2; exact g5
  have ac9:∀ t,cT J5 (((w2.alloc (.cells #[] 275)).setCells b1' 0 kV.cells.toList).setCells b2' 0 [.bool false]) ι5 (s3.get t) (a2.tmps.getD t Go.undef):=fun t=>by
   have:s3.get t=s.get t:=by subst X2; rfl
   rw [this]
   exact (((ac_ t).ev S2 E3.ev).ev S3 E4.ev).ev S4 E5.ev
  have hL:Leaves Tryz.prog Tryz.f132 a2.tmps (fun e w'=>∃ v,e=Ending.returned v∧aN G (au (List.map some [])) (au (List.map some [])) J0 bV w0 (wV none) v w') a2.defers (.panicking [{ v:=nC,recovered:=false }]) w2:=by
   rw [hd2 rfl]
   refine leaves_cons (by simp) (Cj _ _ w2) ((Mx _ _ C x2 w2 k2 hC m2 hne).mono ?_)
   rintro e u' w' ⟨rfl,rfl,rfl⟩
   obtain ⟨v,hv1,HF⟩:=DB (r:=wV none) [] S5' ac9 S0 ((((E1.trans E2).trans E3).trans E4).trans E5') PJ (rs:=[.agg [j8,j8,.int 0,.int 0,.int 0,.int 0],.bool false]) (by
    simp [yf.of,RV.of,p4,p5,q1,q2,LV.bool]) (fun z hz=>by cases hz) (by
    simp [aP,wV,ah,ag,LV.bool,LV.int,Vk,aY,j8,bS,de])
   exact ⟨v,hv1,v,rfl,HF⟩
  exact hL
end Dv
