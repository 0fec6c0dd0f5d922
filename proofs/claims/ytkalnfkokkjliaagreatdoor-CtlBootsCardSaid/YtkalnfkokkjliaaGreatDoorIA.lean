/- The logical machine and its plain laws: parts I1, I2, I3, I4, I5, I6, I7, proved sound. -/
import Derived.Test.YtkalnfkokkjliaaGreatDoorDB
import Derived.Test.YtkalnfkokkjliaaGreatDoorVD
import Derived.Tactics
import Derived.Tactics2
import Derived.WalkKit
import Derived.Test.YtkalnfkokkjliaaGreatDoorPB
import Derived.Defers
import Derived.Recover
import Derived.Laws.Pointers
import Derived.Test.YtkalnfkokkjliaaGreatDoorI0
import Derived.Test.YtkalnfkokkjliaaGreatDoorD4
set_option linter.unusedVariables false
set_option linter.unusedSimpArgs false
set_option maxRecDepth 100000
namespace Dv
open Go Go.Proofs
open Go.RowKit
variable {G:Nat→Option (List DV)}
def nr:Value:=.iface 275 (.agg #[])
def Uj:=qx Tryz.f216
theorem QO:aq Tryz.prog Tryz.f216=some Uj:=by kernel_rfl
theorem pZ:br Tryz.prog G 216 [.bool true] [] (.dM []) []:=by
 refine b_ Tryz.func216 (by decide) QO rfl rfl ?_
 simp only [Uj,go_sem,simprocAttr]
set_option maxRecDepth 1000000 in
theorem lz:vF Tryz.prog G 216 [.bool false] [] nr []:=by
 refine ⟨by decide,fun J ι w vs S hR=>?_⟩
 obtain ⟨vl⟩:=vs
 match vl,hR with
 | [v],⟨hv,_⟩=>
 have hv:v=.bool false:=hv
 subst hv
 go_enter Tryz.func216,Tryz.ntmps216
 have hp:∀ (u:TypeId) (v:Value) (w:World),(Instr.panic (.iface u v)).run Tryz.prog w=.halt (.panic (.iface u v)) w:=fun _ _ _=>rfl
 go_wp2
 exact ⟨rfl,rfl,bB.stay S trivial⟩
end Dv
set_option maxRecDepth 100000
namespace Dv
open Go Go.Proofs
variable {G:Nat→Option (List DV)}
def M1:=qx Tryz.f263
theorem HY:aq Tryz.prog Tryz.f263=some M1:=by kernel_rfl
def Ig:=qx Tryz.f262
theorem Cr:aq Tryz.prog Tryz.f262=some Ig:=by kernel_rfl
def Kg (l:List Int):List (List DV):=l.map fun x=>[i64 x]
def yg (xs:List Int) (k:Nat):List aG:=[.box 282 [.sl 1 xs.length 1 k (xs.length-k)],.dat 3 1 (Kg xs)]
attribute [local go_sem] yg Kg
attribute [local simp] yg
theorem dh (xs:List Int) (k:Nat) (hk:k<xs.length) (h63:xs.length≤1000000):br Tryz.prog G 263 [.ptr 0 0] (yg xs k) (.int (xs.getD k 0)) (yg xs (k+1)):=by
 have hg:=aB (f:=fun x:Int=>[i64 x]) 0 hk
 generalize xs.getD k 0=x at *
 refine aY Tryz.func263 (by decide) HY rfl rfl rfl rfl ?_
 simp only [M1,go_sem,simprocAttr]
 have h1:decide (((xs.length-k:Nat):Int)>0)=true:=decide_eq_true (by omega)
 simp only [h1,go_sem,simprocAttr]
 refine av (pZ) rfl rfl rfl rfl ?_; simp only [go_sem,simprocAttr]
 have h2:0<xs.length-k:=by omega
 have h3:xs.length-k-1=xs.length-(k+1):=by omega
 have h4:1≤xs.length-k∧xs.length-k≤xs.length-k:=by omega
 simp only [h2,hg,if_pos h4,h3,go_sem,simprocAttr]
theorem cN (xs:List Int):vF Tryz.prog G 263 [.ptr 0 0] (yg xs xs.length) nr (yg xs xs.length):=by
 refine HA Tryz.func263 (by decide) HY rfl rfl ?_ ?_
 ·simp only [go_sem,simprocAttr]
 have h1:decide (((xs.length-xs.length:Nat):Int)>0)=false:=decide_eq_false (by omega)
 simp only [M1,h1,go_sem,simprocAttr]
 refine nP lz rfl rfl rfl ?_
 simp only [fh,iO,go_sem,simprocAttr]
theorem sD (xs:List Int) (k:Nat) (most:Int) (hk:k<xs.length) (h63:xs.length≤1000000) (hm:xs.getD k 0≤most):br Tryz.prog G 262 [.ptr 0 0,.int most] (yg xs k) (.int (xs.getD k 0)) (yg xs (k+1)):=by
 refine aY Tryz.func262 (by decide) Cr rfl rfl rfl rfl ?_
 simp only [Ig,go_sem,simprocAttr]
 refine au [0,1] (dh xs k hk h63) rfl ?_ (by decide) ?_ ?_ (by simp) ?_ <;> simp only [aa,ah,go_sem,simprocAttr]
 rw [decide_eq_true hm]
 refine av (pZ) rfl rfl rfl rfl ?_; simp only [go_sem,simprocAttr]
theorem pP (xs:List Int) (k:Nat) (most:Int) (hk:k<xs.length) (h63:xs.length≤1000000) (hm:¬ xs.getD k 0≤most):vF Tryz.prog G 262 [.ptr 0 0,.int most] (yg xs k) nr (yg xs (k+1)):=by
 refine HA Tryz.func262 (by decide) Cr rfl rfl ?_ ?_
 ·simp only [go_sem,simprocAttr]
 simp only [Ig,go_sem,simprocAttr]
 refine au [0,1] (dh xs k hk h63) rfl ?_ (by decide) ?_ ?_ (by simp) ?_ <;> simp only [aa,ah,go_sem,simprocAttr]
 rw [decide_eq_false hm]
 refine nP lz rfl rfl rfl ?_
 simp only [fh,iO,go_sem,simprocAttr]
theorem n_ (xs:List Int) (most:Int):vF Tryz.prog G 262 [.ptr 0 0,.int most] (yg xs xs.length) nr (yg xs xs.length):=by
 refine HA Tryz.func262 (by decide) Cr rfl rfl ?_ ?_
 ·simp only [go_sem,simprocAttr]
 simp only [Ig,go_sem,simprocAttr]
 refine dc [0,1] (cN xs) rfl ?_ (by decide) ?_ ?_ (by simp) ?_ <;> simp only [aa,ah,fh,iq,iO,go_sem,simprocAttr]
end Dv
set_option maxRecDepth 100000
namespace Dv
open Go Go.Proofs
variable {G:Nat→Option (List DV)}
def M4:=qx Tryz.f217
theorem H7:aq Tryz.prog Tryz.f217=some M4:=by kernel_rfl
attribute [local go_sem] yg Kg
attribute [local simp] yg
def j_:LV:=.d (.val (.slice none 0 0))
attribute [local go_sem] j_
def YX (xs:List Int):Except Nat ai→St→Prop
 | .ok s=>rL [.cn 2 6] 2 (.agg [.sl 2 s.nodes.length 5 0 s.nodes.length,.sl 3 s.jobs.length 12 0 s.jobs.length,.int s.goal,.int s.bH,.int s.mode,.int s.term]) (yg xs xs.length++[.dat 102 5 (s.nodes.map a_),.dat 119 12 (s.jobs.map cQ)])
 | .error _=>fun _=>False
def gj (xs:List Int):Except Nat ai→List It
 | .ok _=>[]
 | .error k=>[.pn (iO nr (yg xs k))]
def Pv (xs:List Int) (n:Int) (ns:List bu):St:=⟨[(0,.ptr 0 0),(2,.ptr 2 0),(3,.ptr 3 0),(7,.int n),(8,.int ns.length)],
 [some (.box 282 [.sl 1 xs.length 1 (1+3*ns.length) (xs.length-(1+3*ns.length))]),some (.dat 3 1 (Kg xs)),some (.box 30 [j_,j_,.int 0,.int 0,.int 0,.int 0]),
  some (.box 30 [.sl 4 ns.length 5 0 ns.length,j_,.int 0,.int 0,.int 0,.int 0]),some (.dat 102 5 (ns.map a_))]⟩
def Pw (xs:List Int) (m:Int) (ns:List bu) (p0:Nat) (js:List ct):St:=⟨[(0,.ptr 0 0),(2,.ptr 2 0),(3,.ptr 3 0),(33,.int m),(34,.int js.length)],
 [some (.box 282 [.sl 1 xs.length 1 (p0+12*js.length) (xs.length-(p0+12*js.length))]),some (.dat 3 1 (Kg xs)),some (.box 30 [j_,j_,.int 0,.int 0,.int 0,.int 0]),
  some (.box 30 [.sl 4 ns.length 5 0 ns.length,.sl 5 js.length 12 0 js.length,.int 0,.int 0,.int 0,.int 0]),some (.dat 102 5 (ns.map a_)),some (.dat 119 12 (js.map cQ))]⟩
set_option maxHeartbeats 2000000 in
theorem xR (xs:List Int) (SK:xs.length≤400) (h0:∀ x∈xs,0≤x):W Tryz.prog G (YX xs (jk xs)) (.c M4.2.1::gj xs (jk xs)) ⟨fc 0 [.ptr 0 0],(yg xs 0).map some⟩:=by
 generalize hq:jk xs=q
 replace hq:jk (xs.drop 0)=q:=hq
 simp only [M4,go_sem,simprocAttr]
 cases hl:xs.drop 0 with
 | nil=>
   have hk:=cM hl (Nat.zero_le _)
   rw [hl,jk] at hq
   subst hq
   simp only [gj]
   have hT:=n_ (G:=G) xs 6
   rw [← hk] at hT
   refine dc [0,1] (hT) rfl ?_ (by decide) ?_ ?_ (by simp) ?_ <;> simp only [aa,ah,fh,iq,iO,go_sem,simprocAttr]
 | cons n l=>
 obtain ⟨hk,hx,hd⟩:=cB hl
 have hn0:0≤n:=h0 n (by rw [← hx]; simp [List.getD,hk])
 rw [hl,jk] at hq
 split at hq
 case isFalse hn6=>
  subst hq
  simp only [gj]
  have hT:=pP (G:=G) xs 0 6 hk (by omega) (by rw [hx]; exact hn6)
  refine dc [0,1] (hT) rfl ?_ (by decide) ?_ ?_ (by simp) ?_ <;> simp only [aa,ah,fh,iq,iO,go_sem,simprocAttr]
 rename_i hn6
 have hT:=sD (G:=G) xs 0 6 hk (by omega) (by rw [hx]; exact hn6)
 rw [hx] at hT
 refine au [0,1] (hT) rfl ?_ (by decide) ?_ ?_ (by simp) ?_ <;> simp only [aa,ah,go_sem,simprocAttr]
 refine aP [0,2,3,7,8] [.b 3 0 102 5] (fun ns:List bu=>ns.length≤n.toNat∧1+3*ns.length≤xs.length∧gP (n.toNat-ns.length) ns (1+3*ns.length) (xs.drop (1+3*ns.length))=q) (fun ns=>n.toNat-ns.length) (Pv xs n) [] ?_ ⟨Nat.zero_le _,by rw [List.length_nil]; omega,by rw [← hd] at hq; exact hq⟩ ?_
 ·simp only [Pv,go_sem,simprocAttr,Int.natCast_zero,Nat.mul_zero]
 clear hT hq hd hl hx
 rintro ns ⟨hi,hp,hF⟩
 generalize rD:ns.length=i at *
 simp only [Pv,rD,go_sem,simprocAttr]
 cases hlt:decide ((i:Int)<n) with
 | false=>
   have hin:i=n.toNat:=by have:=of_decide_eq_false hlt; omega
   rw [show n.toNat-i=0 by omega,pR] at hF
   simp only [go_sem,simprocAttr]
   cases hl:xs.drop (1+3*i) with
   | nil=>
     have hk:=cM hl hp
     rw [hl] at hF
     replace hF:Except.error (1+3*i)=q:=hF
     subst hF
     simp only [gj]
     have hT:=n_ (G:=G) xs 24
     rw [← hk] at hT
     refine dc [0,1] (hT) rfl ?_ (by decide) ?_ ?_ (by simp) ?_ <;> simp only [aa,ah,fh,iq,iO,go_sem,simprocAttr]
   | cons m l=>
   obtain ⟨hk,hx,hd⟩:=cB hl
   have hm0:0≤m:=h0 m (by rw [← hx]; simp [List.getD,hk])
   rw [hl] at hF
   by_cases SA:m≤24
   case neg=>
    rw [yp _ _ _ _ SA] at hF
    subst hF
    simp only [gj]
    have hT:=pP (G:=G) xs (1+3*i) 24 hk (by omega) (by rw [hx]; exact SA)
    refine dc [0,1] (hT) rfl ?_ (by decide) ?_ ?_ (by simp) ?_ <;> simp only [aa,ah,fh,iq,iO,go_sem,simprocAttr]
   have hT:=sD (G:=G) xs (1+3*i) 24 hk (by omega) (by rw [hx]; exact SA)
   rw [hx] at hT
   rw [u6 _ _ _ _ SA] at hF
   refine au [0,1] (hT) rfl ?_ (by decide) ?_ ?_ (by simp) ?_ <;> simp only [aa,ah,go_sem,simprocAttr]
   generalize mz:1+3*i+1=p0 at *
   have acs:ns.length≤6:=by omega
   refine aP [0,2,3,33,34] [.b 3 1 119 12] (fun js:List ct=>js.length≤m.toNat∧p0+12*js.length≤xs.length∧nk ns (m.toNat-js.length) js (p0+12*js.length) (xs.drop (p0+12*js.length))=q) (fun js=>m.toNat-js.length) (Pw xs m ns p0) [] ?_ ⟨Nat.zero_le _,by rw [List.length_nil]; omega,by rw [← hd] at hF; exact hF⟩ ?_
   ·simp only [Pw,rD,go_sem,simprocAttr,Int.natCast_zero,Nat.mul_zero]
   clear hT hF hd hl hx hk mz
   rintro js ⟨hjm,hP,hF⟩
   generalize hlj:js.length=k at *
   generalize hPk:p0+12*k=P at *
   simp only [Pw,hlj,hPk,rD,go_sem,simprocAttr]
   cases aak:decide ((k:Int)<m) with
   | false=>
     have hkm:k=m.toNat:=by have:=of_decide_eq_false aak; omega
     rw [show m.toNat-k=0 by omega,sG] at hF
     simp only [go_sem,simprocAttr]
     generalize Kr:xs.drop P=l0 at hF
     cases hl0:l0 with
     | nil=>
       have hk:=cM (Kr.trans hl0) (by omega)
       have kz:Except.error (P+0)=q:=by rw [← hF,hl0]; rfl
       rw [show P+0=P from rfl] at kz
       subst kz
       simp only [gj]
       have hT:=cN (G:=G) xs
       rw [← hk] at hT
       refine dc [0,1] (hT) rfl ?_ (by decide) ?_ ?_ (by simp) ?_ <;> simp only [aa,ah,fh,iq,iO,go_sem,simprocAttr]
     | cons x0 l1=>
     obtain ⟨VP,hx0,SG⟩:=cB (Kr.trans hl0)
     have hT:=dh (G:=G) xs (P) VP (by omega)
     rw [hx0] at hT
     refine au [0,1] (hT) rfl ?_ (by decide) ?_ ?_ (by simp) ?_ <;> simp only [aa,ah,go_sem,simprocAttr]
     clear hT
     cases qY:l1 with
     | nil=>
       have hk:=cM (SG.trans qY) (by omega)
       have kz:Except.error (P+1)=q:=by rw [← hF,hl0,qY]; rfl
       rw [show P+1=P+1 from rfl] at kz
       subst kz
       simp only [gj]
       have hT:=cN (G:=G) xs
       rw [← hk] at hT
       refine dc [0,1] (hT) rfl ?_ (by decide) ?_ ?_ (by simp) ?_ <;> simp only [aa,ah,fh,iq,iO,go_sem,simprocAttr]
     | cons x1 l2=>
     obtain ⟨NA,hx1,hd2⟩:=cB (SG.trans qY)
     have hT:=dh (G:=G) xs (P+1) NA (by omega)
     rw [hx1] at hT
     refine au [0,1] (hT) rfl ?_ (by decide) ?_ ?_ (by simp) ?_ <;> simp only [aa,ah,go_sem,simprocAttr]
     clear hT
     cases hl2:l2 with
     | nil=>
       have hk:=cM (hd2.trans hl2) (by omega)
       have kz:Except.error (P+2)=q:=by rw [← hF,hl0,qY,hl2]; rfl
       rw [show P+2=P+1+1 from rfl] at kz
       subst kz
       simp only [gj]
       have hT:=cN (G:=G) xs
       rw [← hk] at hT
       refine dc [0,1] (hT) rfl ?_ (by decide) ?_ ?_ (by simp) ?_ <;> simp only [aa,ah,fh,iq,iO,go_sem,simprocAttr]
     | cons x2 l3=>
     obtain ⟨hk2,hx2,NN⟩:=cB (hd2.trans hl2)
     have hT:=dh (G:=G) xs (P+1+1) hk2 (by omega)
     rw [hx2] at hT
     refine au [0,1] (hT) rfl ?_ (by decide) ?_ ?_ (by simp) ?_ <;> simp only [aa,ah,go_sem,simprocAttr]
     clear hT
     cases xw:l3 with
     | nil=>
       have hk:=cM (NN.trans xw) (by omega)
       have kz:Except.error (P+3)=q:=by rw [← hF,hl0,qY,hl2,xw]; rfl
       rw [show P+3=P+1+1+1 from rfl] at kz
       subst kz
       simp only [gj]
       have hT:=cN (G:=G) xs
       rw [← hk] at hT
       refine dc [0,1] (hT) rfl ?_ (by decide) ?_ ?_ (by simp) ?_ <;> simp only [aa,ah,fh,iq,iO,go_sem,simprocAttr]
     | cons x3 l4=>
     obtain ⟨XP,hx3,hd4⟩:=cB (NN.trans xw)
     have hT:=dh (G:=G) xs (P+1+1+1) XP (by omega)
     rw [hx3] at hT
     refine au [0,1] (hT) rfl ?_ (by decide) ?_ ?_ (by simp) ?_ <;> simp only [aa,ah,go_sem,simprocAttr]
     clear hT
     cases zZ:l4 with
     | cons y l5=>
       obtain ⟨hk4,_,_⟩:=cB (hd4.trans zZ)
       have kz:Except.error (P+4)=q:=by rw [← hF,hl0,qY,hl2,xw,zZ]; rfl
       rw [show P+4=P+1+1+1+1 from rfl] at kz
       subst kz
       simp only [gj]
       have h1:(((xs.length-(P+1+1+1+1):Nat):Int)==0)=false:=by simp; omega
       simp only [h1,go_sem,simprocAttr]
       refine nP lz rfl rfl rfl ?_
       simp only [fh,iq,iO,go_sem,simprocAttr]
     | nil=>
     have hk:=cM (hd4.trans zZ) (by omega)
     have kz:Except.ok ⟨ns,js,x0,x1,x2,x3⟩=q:=by rw [← hF,hl0,qY,hl2,xw,zZ]; rfl
     subst kz
     simp only [gj]
     have h1:(((xs.length-(P+1+1+1+1):Nat):Int)==0)=true:=by simp; omega
     simp only [h1,go_sem,simprocAttr]
     refine av (pZ) rfl rfl rfl rfl ?_; simp only [go_sem,simprocAttr]
     simp only [YX]
     clear hPk
     rw [hk]
     subst rD hlj
     refine bM [] [0,1,4,5] [] rfl rfl (by decide) (by simp) (by simp) rfl rfl ?_
     show ah _ _ _ (.agg [.sl 4 ns.length 5 0 ns.length,.sl 5 js.length 12 0 js.length,.int x0,.int x1,.int x2,.int x3]) _
     simp [ah,aa,LV.int]
   | true=>
   have hkm:k<m.toNat:=by have:=of_decide_eq_true aak; omega
   rw [show m.toNat-k=(m.toNat-(k+1))+1 by omega] at hF
   simp only [go_sem,simprocAttr]
   generalize Kr:xs.drop P=l0 at hF
   cases hl0:l0 with
   | nil=>
     have hk:=cM (Kr.trans hl0) (by omega)
     have kz:Except.error (P+0)=q:=by rw [← hF,hl0]; rfl
     rw [show P+0=P from rfl] at kz
     subst kz
     simp only [gj]
     have hT:=cN (G:=G) xs
     rw [← hk] at hT
     refine dc [0,1] (hT) rfl ?_ (by decide) ?_ ?_ (by simp) ?_ <;> simp only [aa,ah,fh,iq,iO,go_sem,simprocAttr]
   | cons x0 l1=>
   obtain ⟨VP,hx0,SG⟩:=cB (Kr.trans hl0)
   have hT:=dh (G:=G) xs (P) VP (by omega)
   rw [hx0] at hT
   refine au [0,1] (hT) rfl ?_ (by decide) ?_ ?_ (by simp) ?_ <;> simp only [aa,ah,go_sem,simprocAttr]
   clear hT
   cases qY:l1 with
   | nil=>
     have hk:=cM (SG.trans qY) (by omega)
     have kz:Except.error (P+1)=q:=by rw [← hF,hl0,qY]; rfl
     rw [show P+1=P+1 from rfl] at kz
     subst kz
     simp only [gj]
     have hT:=cN (G:=G) xs
     rw [← hk] at hT
     refine dc [0,1] (hT) rfl ?_ (by decide) ?_ ?_ (by simp) ?_ <;> simp only [aa,ah,fh,iq,iO,go_sem,simprocAttr]
   | cons x1 l2=>
   obtain ⟨NA,hx1,hd2⟩:=cB (SG.trans qY)
   have hT:=dh (G:=G) xs (P+1) NA (by omega)
   rw [hx1] at hT
   refine au [0,1] (hT) rfl ?_ (by decide) ?_ ?_ (by simp) ?_ <;> simp only [aa,ah,go_sem,simprocAttr]
   clear hT
   cases hl2:l2 with
   | nil=>
     have hk:=cM (hd2.trans hl2) (by omega)
     have kz:Except.error (P+2)=q:=by rw [← hF,hl0,qY,hl2]; rfl
     rw [show P+2=P+1+1 from rfl] at kz
     subst kz
     simp only [gj]
     have hT:=cN (G:=G) xs
     rw [← hk] at hT
     refine dc [0,1] (hT) rfl ?_ (by decide) ?_ ?_ (by simp) ?_ <;> simp only [aa,ah,fh,iq,iO,go_sem,simprocAttr]
   | cons x2 l3=>
   obtain ⟨hk2,hx2,NN⟩:=cB (hd2.trans hl2)
   have hT:=dh (G:=G) xs (P+1+1) hk2 (by omega)
   rw [hx2] at hT
   refine au [0,1] (hT) rfl ?_ (by decide) ?_ ?_ (by simp) ?_ <;> simp only [aa,ah,go_sem,simprocAttr]
   clear hT
   cases xw:l3 with
   | nil=>
     have hk:=cM (NN.trans xw) (by omega)
     have kz:Except.error (P+3)=q:=by rw [← hF,hl0,qY,hl2,xw]; rfl
     rw [show P+3=P+1+1+1 from rfl] at kz
     subst kz
     simp only [gj]
     have hT:=cN (G:=G) xs
     rw [← hk] at hT
     refine dc [0,1] (hT) rfl ?_ (by decide) ?_ ?_ (by simp) ?_ <;> simp only [aa,ah,fh,iq,iO,go_sem,simprocAttr]
   | cons x3 l4=>
   obtain ⟨XP,hx3,hd4⟩:=cB (NN.trans xw)
   have hT:=dh (G:=G) xs (P+1+1+1) XP (by omega)
   rw [hx3] at hT
   refine au [0,1] (hT) rfl ?_ (by decide) ?_ ?_ (by simp) ?_ <;> simp only [aa,ah,go_sem,simprocAttr]
   clear hT
   cases zZ:l4 with
   | nil=>
     have hk:=cM (hd4.trans zZ) (by omega)
     have kz:Except.error (P+4)=q:=by rw [← hF,hl0,qY,hl2,xw,zZ]; rfl
     rw [show P+4=P+1+1+1+1 from rfl] at kz
     subst kz
     simp only [gj]
     have hT:=cN (G:=G) xs
     rw [← hk] at hT
     refine dc [0,1] (hT) rfl ?_ (by decide) ?_ ?_ (by simp) ?_ <;> simp only [aa,ah,fh,iq,iO,go_sem,simprocAttr]
   | cons x4 l5=>
   obtain ⟨hk4,hx4,hd5⟩:=cB (hd4.trans zZ)
   have hT:=dh (G:=G) xs (P+1+1+1+1) hk4 (by omega)
   rw [hx4] at hT
   refine au [0,1] (hT) rfl ?_ (by decide) ?_ ?_ (by simp) ?_ <;> simp only [aa,ah,go_sem,simprocAttr]
   clear hT
   cases Iq:l5 with
   | nil=>
     have hk:=cM (hd5.trans Iq) (by omega)
     have kz:Except.error (P+5)=q:=by rw [← hF,hl0,qY,hl2,xw,zZ,Iq]; rfl
     rw [show P+5=P+1+1+1+1+1 from rfl] at kz
     subst kz
     simp only [gj]
     have hT:=cN (G:=G) xs
     rw [← hk] at hT
     refine dc [0,1] (hT) rfl ?_ (by decide) ?_ ?_ (by simp) ?_ <;> simp only [aa,ah,fh,iq,iO,go_sem,simprocAttr]
   | cons x5 l6=>
   obtain ⟨hk5,hx5,hd6⟩:=cB (hd5.trans Iq)
   have hT:=dh (G:=G) xs (P+1+1+1+1+1) hk5 (by omega)
   rw [hx5] at hT
   refine au [0,1] (hT) rfl ?_ (by decide) ?_ ?_ (by simp) ?_ <;> simp only [aa,ah,go_sem,simprocAttr]
   clear hT
   cases GF:l6 with
   | nil=>
     have hk:=cM (hd6.trans GF) (by omega)
     have kz:Except.error (P+6)=q:=by rw [← hF,hl0,qY,hl2,xw,zZ,Iq,GF]; rfl
     rw [show P+6=P+1+1+1+1+1+1 from rfl] at kz
     subst kz
     simp only [gj]
     have hT:=cN (G:=G) xs
     rw [← hk] at hT
     refine dc [0,1] (hT) rfl ?_ (by decide) ?_ ?_ (by simp) ?_ <;> simp only [aa,ah,fh,iq,iO,go_sem,simprocAttr]
   | cons x6 l7=>
   obtain ⟨hk6,hx6,hd7⟩:=cB (hd6.trans GF)
   have hT:=dh (G:=G) xs (P+1+1+1+1+1+1) hk6 (by omega)
   rw [hx6] at hT
   refine au [0,1] (hT) rfl ?_ (by decide) ?_ ?_ (by simp) ?_ <;> simp only [aa,ah,go_sem,simprocAttr]
   clear hT
   cases VO:l7 with
   | nil=>
     have hk:=cM (hd7.trans VO) (by omega)
     have kz:Except.error (P+7)=q:=by rw [← hF,hl0,qY,hl2,xw,zZ,Iq,GF,VO]; rfl
     rw [show P+7=P+1+1+1+1+1+1+1 from rfl] at kz
     subst kz
     simp only [gj]
     have hT:=cN (G:=G) xs
     rw [← hk] at hT
     refine dc [0,1] (hT) rfl ?_ (by decide) ?_ ?_ (by simp) ?_ <;> simp only [aa,ah,fh,iq,iO,go_sem,simprocAttr]
   | cons x7 l8=>
   obtain ⟨hk7,hx7,hd8⟩:=cB (hd7.trans VO)
   have hT:=dh (G:=G) xs (P+1+1+1+1+1+1+1) hk7 (by omega)
   rw [hx7] at hT
   refine au [0,1] (hT) rfl ?_ (by decide) ?_ ?_ (by simp) ?_ <;> simp only [aa,ah,go_sem,simprocAttr]
   clear hT
   cases VN:l8 with
   | nil=>
     have hk:=cM (hd8.trans VN) (by omega)
     have kz:Except.error (P+8)=q:=by rw [← hF,hl0,qY,hl2,xw,zZ,Iq,GF,VO,VN]; rfl
     rw [show P+8=P+1+1+1+1+1+1+1+1 from rfl] at kz
     subst kz
     simp only [gj]
     have hT:=cN (G:=G) xs
     rw [← hk] at hT
     refine dc [0,1] (hT) rfl ?_ (by decide) ?_ ?_ (by simp) ?_ <;> simp only [aa,ah,fh,iq,iO,go_sem,simprocAttr]
   | cons x8 l9=>
   obtain ⟨hk8,hx8,hd9⟩:=cB (hd8.trans VN)
   have hT:=dh (G:=G) xs (P+1+1+1+1+1+1+1+1) hk8 (by omega)
   rw [hx8] at hT
   refine au [0,1] (hT) rfl ?_ (by decide) ?_ ?_ (by simp) ?_ <;> simp only [aa,ah,go_sem,simprocAttr]
   clear hT
   cases YD:l9 with
   | nil=>
     have hk:=cM (hd9.trans YD) (by omega)
     have kz:Except.error (P+9)=q:=by rw [← hF,hl0,qY,hl2,xw,zZ,Iq,GF,VO,VN,YD]; rfl
     rw [show P+9=P+1+1+1+1+1+1+1+1+1 from rfl] at kz
     subst kz
     simp only [gj]
     have hT:=cN (G:=G) xs
     rw [← hk] at hT
     refine dc [0,1] (hT) rfl ?_ (by decide) ?_ ?_ (by simp) ?_ <;> simp only [aa,ah,fh,iq,iO,go_sem,simprocAttr]
   | cons x9 l10=>
   obtain ⟨hk9,hx9,aax⟩:=cB (hd9.trans YD)
   have hT:=dh (G:=G) xs (P+1+1+1+1+1+1+1+1+1) hk9 (by omega)
   rw [hx9] at hT
   refine au [0,1] (hT) rfl ?_ (by decide) ?_ ?_ (by simp) ?_ <;> simp only [aa,ah,go_sem,simprocAttr]
   clear hT
   cases Ny:l10 with
   | nil=>
     have hk:=cM (aax.trans Ny) (by omega)
     have kz:Except.error (P+10)=q:=by rw [← hF,hl0,qY,hl2,xw,zZ,Iq,GF,VO,VN,YD,Ny]; rfl
     rw [show P+10=P+1+1+1+1+1+1+1+1+1+1 from rfl] at kz
     subst kz
     simp only [gj]
     have hT:=cN (G:=G) xs
     rw [← hk] at hT
     refine dc [0,1] (hT) rfl ?_ (by decide) ?_ ?_ (by simp) ?_ <;> simp only [aa,ah,fh,iq,iO,go_sem,simprocAttr]
   | cons O5 l11=>
   obtain ⟨abP,abv,aaw⟩:=cB (aax.trans Ny)
   have hT:=dh (G:=G) xs (P+1+1+1+1+1+1+1+1+1+1) abP (by omega)
   rw [abv] at hT
   refine au [0,1] (hT) rfl ?_ (by decide) ?_ ?_ (by simp) ?_ <;> simp only [aa,ah,go_sem,simprocAttr]
   clear hT
   cases SC:l11 with
   | nil=>
     have hk:=cM (aaw.trans SC) (by omega)
     have kz:Except.error (P+11)=q:=by rw [← hF,hl0,qY,hl2,xw,zZ,Iq,GF,VO,VN,YD,Ny,SC]; rfl
     rw [show P+11=P+1+1+1+1+1+1+1+1+1+1+1 from rfl] at kz
     subst kz
     simp only [gj]
     have hT:=cN (G:=G) xs
     rw [← hk] at hT
     refine dc [0,1] (hT) rfl ?_ (by decide) ?_ ?_ (by simp) ?_ <;> simp only [aa,ah,fh,iq,iO,go_sem,simprocAttr]
   | cons O4 l12=>
   obtain ⟨abO,abu,abZ⟩:=cB (aaw.trans SC)
   have hT:=dh (G:=G) xs (P+1+1+1+1+1+1+1+1+1+1+1) abO (by omega)
   rw [abu] at hT
   refine au [0,1] (hT) rfl ?_ (by decide) ?_ ?_ (by simp) ?_ <;> simp only [aa,ah,go_sem,simprocAttr]
   clear hT
   rw [hl0,qY,hl2,xw,zZ,Iq,GF,VO,VN,YD,Ny,SC,sH] at hF
   have iR:∀ row:List DV,(List.map cQ js++[row]).length*96≤70368744177664:=fun row=>by simp only [List.length_append,List.length_map,List.length_cons,List.length_nil]; omega
   simp only [hlj,if_pos (iR _),go_sem,simprocAttr]
   refine aR (js++[⟨x0,x1,x2,x3,x4,x5,x6,x7,x8,x9,O5,O4⟩]) ?_ ?_ ⟨by simp; omega,by simp; omega,?_⟩ (by simp; omega)
   ·simp only [go_sem,simprocAttr]
   ·simp only [Pw,List.length_append,List.map_append,hlj,rD,ax (show k<9223372036854775807 by omega),show p0+12*(k+1)=P+1+1+1+1+1+1+1+1+1+1+1+1 by omega,go_sem,simprocAttr]
   ·simp only [List.length_append,List.length_cons,List.length_nil,hlj,show p0+12*(k+(0+1))=P+1+1+1+1+1+1+1+1+1+1+1+1 by omega]
    rw [abZ]; exact hF
 | true=>
 have hin:i<n.toNat:=by have:=of_decide_eq_true hlt; omega
 rw [show n.toNat-i=(n.toNat-(i+1))+1 by omega] at hF
 simp only [go_sem,simprocAttr]
 cases hl:xs.drop (1+3*i) with
 | nil=>
   have hk:=cM hl hp
   rw [hl,ym] at hF
   subst hF
   simp only [gj]
   have hT:=n_ (G:=G) xs 7
   rw [← hk] at hT
   refine dc [0,1] (hT) rfl ?_ (by decide) ?_ ?_ (by simp) ?_ <;> simp only [aa,ah,fh,iq,iO,go_sem,simprocAttr]
 | cons f l=>
 obtain ⟨hk,hx,hd⟩:=cB hl
 have q_:0≤f:=h0 f (by rw [← hx]; simp [List.getD,hk])
 rw [hl] at hF
 by_cases YH:f≤7
 case neg=>
  rw [yj _ _ _ _ _ YH] at hF
  subst hF
  simp only [gj]
  have hT:=pP (G:=G) xs (1+3*i) 7 hk (by omega) (by rw [hx]; exact YH)
  refine dc [0,1] (hT) rfl ?_ (by decide) ?_ ?_ (by simp) ?_ <;> simp only [aa,ah,fh,iq,iO,go_sem,simprocAttr]
 have hT:=sD (G:=G) xs (1+3*i) 7 hk (by omega) (by rw [hx]; exact YH)
 rw [hx] at hT
 refine au [0,1] (hT) rfl ?_ (by decide) ?_ ?_ (by simp) ?_ <;> simp only [aa,ah,go_sem,simprocAttr]
 cases hl2:l with
 | nil=>
   rw [hl2] at hF hd
   have hk2:=cM hd (by omega)
   rw [DT _ _ _ _ YH] at hF
   subst hF
   simp only [gj]
   have VS:=cN (G:=G) xs
   rw [← hk2] at VS
   refine BI [0,1] (VS) rfl (by simp only [aa,ah,go_sem,simprocAttr]) (by decide) (by simp only [go_sem,simprocAttr]) (by simp only [go_sem,simprocAttr]) (by simp) ?_ ?_
   ·simp only [fh,iq,iO,go_sem,simprocAttr]
   ·(repeat' (first | rw [wz (by decide)] | rw [BH (by decide)])) <;> rw [zL] <;> exact ⟨by decide,by decide⟩
 | cons v l2=>
 rw [hl2] at hF hd
 obtain ⟨hk2,hx2,hd2⟩:=cB hd
 have VS:=dh (G:=G) xs (1+3*i+1) hk2 (by omega)
 rw [hx2] at VS
 refine dS [0,1] (VS) rfl ?_ (by decide) ?_ ?_ (by simp) ?_ <;> simp only [aa,ah,go_sem,simprocAttr]
 cases xw:l2 with
 | nil=>
   rw [xw] at hF hd2
   have XP:=cM hd2 (by omega)
   rw [AL _ _ _ _ _ YH] at hF
   subst hF
   simp only [gj]
   have VR:=cN (G:=G) xs
   rw [← XP] at VR
   refine BI [0,1] (VR) rfl (by simp only [aa,ah,go_sem,simprocAttr]) (by decide) (by simp only [go_sem,simprocAttr]) (by simp only [go_sem,simprocAttr]) (by simp) ?_ ?_
   ·simp only [fh,iq,iO,go_sem,simprocAttr]
   ·(repeat' (first | rw [wz (by decide)] | rw [BH (by decide)])) <;> rw [zL] <;> exact ⟨by decide,by decide⟩
 | cons j l3=>
 rw [xw] at hF hd2
 obtain ⟨XP,hx3,NN⟩:=cB hd2
 have VR:=dh (G:=G) xs (1+3*i+1+1) XP (by omega)
 rw [hx3] at VR
 rw [sF _ _ _ _ _ _ _ YH] at hF
 refine dS [0,1] (VR) rfl ?_ (by decide) ?_ ?_ (by simp) ?_ <;> simp only [aa,ah,go_sem,simprocAttr]
 have e1:(uF .i64 f 1 !=0)=hasB f 0∧(uF .i64 f 2 !=0)=hasB f 1∧(uF .i64 f 4 !=0)=hasB f 2:=by
  have:f=0∨f=1∨f=2∨f=3∨f=4∨f=5∨f=6∨f=7:=by omega
  rcases this with rfl | rfl | rfl | rfl | rfl | rfl | rfl | rfl <;> decide
 obtain ⟨e1,e2,e3⟩:=e1
 have iR:∀ row:List DV,(List.map a_ ns++[row]).length*24≤70368744177664:=fun row=>by simp only [List.length_append,List.length_map,List.length_cons,List.length_nil]; omega
 simp only [rD,e1,e2,e3,if_pos (iR _),go_sem,simprocAttr]
 refine az (by decide) ?_
 simp only [go_sem,simprocAttr]
 refine aR (ns++[pX f v j]) ?_ ?_ ⟨by simp; omega,by simp; omega,?_⟩ (by simp; omega)
 ·simp only [go_sem,simprocAttr]
 ·simp only [Pv,List.length_append,List.map_append,pX,rD,ax (show i<9223372036854775807 by omega),show 1+3*(i+1)=1+3*i+1+1+1 by omega,go_sem,simprocAttr]
 ·simp only [List.length_append,List.length_cons,List.length_nil,rD,show 1+3*(i+(0+1))=1+3*i+1+1+1 by omega]
  rw [NN]; exact hF
theorem Jj (xs:List Int) (s:ai) (SK:xs.length≤400) (h0:∀ x∈xs,0≤x) (h:jk xs=.ok s):br Tryz.prog G 217 [.ptr 0 0] (yg xs 0) (.agg [.sl 2 s.nodes.length 5 0 s.nodes.length,.sl 3 s.jobs.length 12 0 s.jobs.length,.int s.goal,.int s.bH,.int s.mode,.int s.term]) (yg xs xs.length++[.dat 102 5 (s.nodes.map a_),.dat 119 12 (s.jobs.map cQ)]):=by
 have hw:=xR (G:=G) xs SK h0
 rw [h] at hw
 exact bD Tryz.func217 (by decide) H7 rfl hw
theorem FK (xs:List Int) (k:Nat) (SK:xs.length≤400) (h0:∀ x∈xs,0≤x) (h:jk xs=.error k):vF Tryz.prog G 217 [.ptr 0 0] (yg xs 0) nr (yg xs k):=by
 have hw:=xR (G:=G) xs SK h0
 rw [h] at hw
 exact HA Tryz.func217 (by decide) H7 rfl rfl (by simp only [go_sem,simprocAttr]) hw
end Dv
namespace Dv
open Go Go.Proofs
open Go.RowKit
def lD:Value:=.agg #[.slice none 0 0,.slice none 0 0,.int .i64 0,.int .i64 0,.int .i64 0,.int .i64 0]
theorem Am {P:Program} {T type:TypeId} {n:Nat} {x y:Operand} {pos:String} {after:Array Edge} {g:Option (Nat×Bool)} {a:Act} {w:World} {K:Act→World→Prop} {Q:Exit→Act→World→Prop} {b off:Nat} {v:Value} (hx:a.eval x=.pointer (some ⟨b,off,none⟩)) (hy:a.eval y=v) (hs:dZ P T=some n) (ht:w.there b off v.cells.size) (hl:v.cells.size=n) (h1:∀ u∈v.cells.toList,u.oneCell'=true)
  (hK:K a (w.setCells b off v.cells.toList)):Oper.wp P ⟨none,.store T x y,type,pos,after,g⟩ a w K Q:=by
 have hr:=FT (P:=P) (w:=w) hs ht hl h1
 refine (cS.w_ (post:=fun _ w'=>w'=w.setCells b off v.cells.toList) ?_ rfl) K Q (fun v' w' h=>by subst h; exact hK)
 show (execOp a.eval _).run P w=_
 simp only [execOp,hx,hy,Sem.run_bind,hr,Result.andThen_ok,Sem.run_pure]
theorem G6 (ps pk:Value) (w:World) :
  CallsD Tryz.prog 214 #[ps,pk] .returning w fun e u' w'=>e=.returned (.tuple #[])∧u'=.returning∧w'=w:=by
 refine callsD_of_wpS Tryz.func214 rfl fun c₀ cs hu=>?_
 apply wpS_seq
 apply wpS_region
 simp [wpOpsS,go_sem,recoverD,hu,Tryz.ntmps214,Exit.thenS]
 apply wpS_seq
 apply wpS_region
 simp [wpOpsS,go_sem,recoverD,hu,Tryz.ntmps214,Exit.thenS]
 refine wpS_cond (t:=false) (by simp [Act.eval,Array.replicate]) ?_
 simp only [Bool.false_eq_true,if_false]
 refine wpS_of_wp (wp_skip ?_)
 cases c₀
 simp_all [bodyPostS,results,Tryz.results214]
set_option maxHeartbeats 4000000 in
set_option maxRecDepth 100000 in
theorem La (bs bk:Nat) (C:Array Value) (b:Value) (w:World) (hs:w.heap[bs]? = some (.cells C 30 (0,0))) (hC:C.size=6) (hk:w.heap[bk]? = some (.cells #[b] 4 (0,0))) (hne:bs≠bk) :
  CallsD Tryz.prog 214 #[.pointer (some ⟨bs,0,none⟩),.pointer (some ⟨bk,0,none⟩)] (.panicking [{ v:=nr,recovered:=false }]) w fun e u' w'=>
   e=.returned (.tuple #[])∧u'=.panicking [{ v:=nr,recovered:=true }]∧w'=((w.alloc (.cells #[] 275)).setCells bs 0 lD.cells.toList).setCells bk 0 [.bool false]:=by
 refine callsD_of_wpS Tryz.func214 rfl fun c₀ cs hu=>?_
 apply wpS_seq
 apply wpS_region
 simp [wpOpsS,go_sem,recoverD,hu,nr,Tryz.ntmps214,Exit.thenS]
 apply wpS_seq
 apply wpS_region
 simp [wpOpsS,go_sem,recoverD,hu,nr,Tryz.ntmps214,Exit.thenS]
 refine wpS_cond (t:=true) (by simp [Act.eval,Array.replicate]) ?_
 simp only [if_true]
 refine wpS_of_wp ?_
 simp only [Array.replicate_succ,Array.replicate_zero,List.push_toArray,List.append_toArray,List.nil_append,List.cons_append,List.size_toArray]
 have hta:∀ w,(Instr.typeAssert (Value.iface 275 (.agg #[])) 20 275 true).run Tryz.prog w=.ok (.tuple #[.agg #[],.bool true]) w:=fun _=>by rfl
 apply wp_seq
 refine wp_mono (Q:=fun e a' w'=>e=.normal∧w'=w.alloc (.cells #[] 275)∧a'.tmps[0]? = some (.pointer (some ⟨bs,0,none⟩))∧a'.tmps[1]? = some (.pointer (some ⟨bk,0,none⟩))∧a'.tmps.size=17∧a'.defers=[]) ?_ ?_
 ·go_wp2
 rintro e ⟨tmps,ds⟩ w' ⟨rfl,rfl,e0,e1,e2,e3⟩
 dsimp only at e0 e1 e2 e3
 subst e3
 simp only [Exit.then]
 refine wp_region_list ?_
 have uM:bs<w.heap.size:=(Array.getElem?_eq_some_iff.1 hs).1
 have hkl:bk<w.heap.size:=(Array.getElem?_eq_some_iff.1 hk).1
 have as1:(w.alloc (.cells #[] 275)).heap[bs]? = some (.cells C 30 (0,0)):=(Below.heap_alloc _ _ _ uM).trans hs
 have ak1:(w.alloc (.cells #[] 275)).heap[bk]? = some (.cells #[b] 4 (0,0)):=(Below.heap_alloc _ _ _ hkl).trans hk
 generalize hw1:w.alloc (.cells #[] 275)=w1 at *
 refine wpList_plain rfl (fun K hK=>?_)
 refine cS.of_run (v:=lD) (w':=w1) (post:=fun v' w'=>v'=lD∧w'=w1) (by simp [execOp,lD,go_sem]) ⟨rfl,rfl⟩ K _ (fun v' w' h=>?_)
 obtain ⟨rfl,rfl⟩:=h
 refine hK _ _ ?_
 refine wpList_plain rfl (fun K hK=>?_)
 refine Am (n:=6) (b:=bs) (off:=0) (v:=lD) ?_ ?_ (by kernel_rfl) ?_ rfl ?_ (hK _ _ ?_)
 ·simp [Act.eval,Act.put,e0]
 ·simp [Act.eval,Act.put,e2]
 ·intro j hj
  have hj:j<6:=hj
  simp [World.cell?,World.frozen?,as1,hC,hj]
 ·intro u hu
  simp [lD,Value.cells] at hu
  rcases hu with rfl | rfl <;> rfl
 clear hK
 refine wpList_plain rfl (fun K hK=>?_)
 refine Am (n:=1) (b:=bk) (off:=0) (v:=.bool false) ?_ rfl (by kernel_rfl) ?_ rfl ?_ (hK _ _ ?_)
 ·simp [Act.eval,Act.put,e1]
 ·intro j hj
  have hj:j<1:=hj
  obtain rfl:j=0:=by omega
  have h3:(w'.setCells bs 0 lD.cells.toList).heap[bk]? = some (.cells #[b] 4 (0,0)):=(heap_setCells_other (fun e=>hne e.symm) _ _ _).trans ak1
  simp [World.cell?,World.frozen?,h3]
 ·intro u hu
  simp [Value.cells] at hu
  subst hu; rfl
 refine wpList_nil ?_
 refine ⟨rfl,_,rfl,.tuple #[],results_none rfl _ _ _,rfl,rfl,rfl⟩
end Dv
set_option maxRecDepth 100000
namespace Dv
open Go Go.Proofs
variable {G:Nat→Option (List DV)}
attribute [local go_sem] eT
def TT:=qx Tryz.f261
theorem Qn:aq Tryz.prog Tryz.f261=some TT:=by kernel_rfl
def Uk:=qx Tryz.f215
theorem QS:aq Tryz.prog Tryz.f215=some Uk:=by kernel_rfl
def DL (b:List Int) (p:Nat) (k:Bool):List aG:=[.box 57 [af b],.box 3 [.int p],.box 4 [.bool k]]
attribute [local go_sem] DL af
attribute [local simp] DL
theorem yf (b:List Int) (hb:∀ c∈b,0≤c∧c≤255) (hl:b.length≤1000000) (a0:Nat) (ha:a0≤1000000) (q:Option (Int×Nat)) (hq:eZ b a0=q) (p:Nat) (k:Bool) :
  br Tryz.prog G 261 [.int a0,.ptr 0 0,.ptr 1 0,.ptr 2 0] (DL b p k) (.int (oH q)) (DL b (oI q) q.isSome):=by
 refine nX Tryz.func261 (by decide) Qn rfl rfl rfl rfl ?_
 simp only [TT,go_sem,simprocAttr]
 refine av (lV b hb hl a0 ha q hq) rfl rfl rfl rfl ?_; simp only [go_sem,simprocAttr]
def glS (b:List Int) (n:Int) (p:List Int×Nat):St:=⟨[(9,.ptr 1 0),(10,.ptr 2 0),(11,.fn (.func 261) [] [.ptr 0 0,.ptr 1 0,.ptr 2 0]),(13,.sl 3 p.1.length 1 0 p.1.length),(26,.int n),(27,.int p.1.length)],(DL b p.2 true++[aG.dat 3 1 (bT p.1)]).map some⟩
def y9:Option (List Int×Nat)→LV
 | none=>.dM [.d (.val (.slice none 0 0)),.int 0,.bool false]
 | some (xs,e)=>.dM [.sl 0 xs.length 1 0 xs.length,.int e,.bool true]
def y_:Option (List Int×Nat)→List aG
 | none=>[]
 | some (xs,e)=>[.dat 3 1 (bT xs)]
set_option maxHeartbeats 1000000 in
theorem kS (b:List Int) (hb:∀ c∈b,0≤c∧c≤255) (hl:b.length≤1000000) (many:Nat) (hm:many≤1000) (q:Option (List Int×Nat)) (hq:kn b 0 many=q):br Tryz.prog G 215 [af b,.int 0,.int many] [] (y9 q) (y_ q):=by
 refine bD Tryz.func215 (by decide) QS rfl ?_
 simp only [Uk,go_sem,simprocAttr]
 refine au [0,1,2] (yf b hb hl 0 (by decide) _ rfl 0 false) rfl ?_ (by decide) ?_ ?_ (by simp) ?_ <;> simp only [aa,ah,go_sem,simprocAttr,Int.natCast_zero]
 unfold kn at hq
 cases hn:eZ b 0 with
 | none=>
   rw [hn] at hq
   subst hq
   simp only [oH,oI,Option.isSome_none,y9,y_,go_sem,simprocAttr]
   exact fQ (aC:=[]) ⟨rfl,rfl⟩ rfl rfl rfl
 | some np=>
 obtain ⟨n,p0⟩:=np
 rw [hn] at hq
 dsimp only at hq
 obtain ⟨hn0,LB,mz,hp1⟩:=eY (fun c hc=>(hb c hc).1) hn
 by_cases hgt:(many:Int)<n
 case pos=>
  rw [if_pos hgt] at hq
  subst hq
  simp only [oH,oI,Option.isSome_some,decide_eq_true (show n>(many:Int) from hgt),y9,y_,go_sem,simprocAttr]
  exact fQ (aC:=[]) ⟨rfl,rfl⟩ rfl rfl rfl
 rw [if_neg hgt] at hq
 simp only [oH,oI,Option.isSome_some,decide_eq_false (show ¬ n>(many:Int) from hgt),go_sem,simprocAttr]
 refine aP [9,10,11,13,26,27] [.t 13 3 1] (fun p:List Int×Nat=>p.1.length≤n.toNat∧p.2≤b.length∧(kj b (n.toNat-p.1.length) p.2).map (fun r=>(p.1++r.1,r.2))=q) (fun p=>n.toNat-p.1.length) (glS b n) ([],p0) ?_ ⟨Nat.zero_le _,hp1,?_⟩ ?_
 ·simp only [glS,bT,Int.natCast_zero,go_sem,simprocAttr]
 ·dsimp only
  rw [← hq]
  simp
 clear hn mz hp1 hq
 rintro ⟨xs,p⟩ ⟨hk,hp,hF⟩
 dsimp only at hk hp hF
 generalize v_:xs.length=k at *
 simp only [glS,v_,go_sem,simprocAttr]
 cases hlt:decide ((k:Int)<n) with
 | false=>
   have hk2:k=n.toNat:=by have:=of_decide_eq_false hlt; omega
   rw [show n.toNat-k=0 by omega] at hF
   have:q=some (xs,p):=by rw [← hF]; simp [kj]
   subst this
   simp only [y9,y_,v_,go_sem,simprocAttr]
   refine bM [] [3] [] (vs:=[.sl 3 k 1 0 k,.int p,.bool true]) rfl rfl (by decide) (by simp) (by simp) ?_ ?_ ?_
   ·simp [St.obj,ay,bX,fC]
   ·simp [dQ]
   ·simp [aF,ah,aa,bX,St.obj,ay,LV.int,LV.bool]
 | true=>
 have hk2:k<n.toNat:=by have:=of_decide_eq_true hlt; omega
 rw [show n.toNat-k=(n.toNat-(k+1))+1 by omega] at hF
 unfold kj at hF
 simp only [go_sem,simprocAttr]
 cases hn:eZ b p with
 | none=>
   rw [hn] at hF
   have:q=none:=by rw [← hF]; rfl
   subst this
   refine au [0,1,2] (yf b hb hl p (by omega) _ hn p true) rfl ?_ (by decide) ?_ ?_ (by simp) ?_ <;> simp only [aa,ah,go_sem,simprocAttr,oH,oI,Option.isSome_none]
   simp only [y9,y_,go_sem,simprocAttr]
   exact fQ (aC:=[]) ⟨rfl,rfl⟩ rfl rfl rfl
 | some np=>
 obtain ⟨x,p1⟩:=np
 rw [hn] at hF
 dsimp only at hF
 refine au [0,1,2] (yf b hb hl p (by omega) _ hn p true) rfl ?_ (by decide) ?_ ?_ (by simp) ?_ <;> simp only [aa,ah,go_sem,simprocAttr,oH,oI,Option.isSome_some]
 obtain ⟨hx0,hx1,hp2,hp3⟩:=eY (fun c hc=>(hb c hc).1) hn
 have iR:∀ row:List DV,(bT xs++[row]).length*8≤70368744177664:=fun row=>by simp [bT,v_]; omega
 have hnl:(bT xs).length=k:=by simp [bT,v_]
 have h7:k=(bT xs).length∧(bT xs++[[DV.val (Value.int IntKind.i64 x)]]).length*8≤70368744177664:=⟨hnl.symm,iR _⟩
 rw [if_pos h7]
 simp only [hnl,go_sem,simprocAttr]
 have hap:(xs++[x]).length=k+1:=by simp [v_]
 refine aR (xs++[x],p1) ?_ ?_ ⟨by dsimp only; omega,hp3,?_⟩ (by dsimp only; omega)
 ·simp only [go_sem,simprocAttr]
 ·simp only [glS,hap,bT,List.map_append,ax (show k<9223372036854775807 by omega),go_sem,simprocAttr]
 ·dsimp only
  rw [hap,← hF]
  cases kj b (n.toNat-(k+1)) p1 with
  | none=>rfl
  | some r=>simp
theorem EF (b:List Int) (hb:∀ c∈b,0≤c∧c≤255) (hl:b.length≤1000000) (many:Nat) (hm:many≤1000) (xs:List Int) (e:Nat) (h:kn b 0 many=some (xs,e)):br Tryz.prog G 215 [af b,.int 0,.int many] [] (.dM [.sl 0 xs.length 1 0 xs.length,.int e,.bool true]) [.dat 3 1 (bT xs)]:=kS b hb hl many hm _ h
theorem vr (b:List Int) (hb:∀ c∈b,0≤c∧c≤255) (hl:b.length≤1000000) (many:Nat) (hm:many≤1000) (h:kn b 0 many=none):br Tryz.prog G 215 [af b,.int 0,.int many] [] (.dM [.d (.val (.slice none 0 0)),.int 0,.bool false]) []:=kS b hb hl many hm _ h
end Dv
namespace Dv
open Go Go.Proofs
variable {G:Nat→Option (List DV)}
attribute [local go_sem] yg Kg af ak u8 bT j_
attribute [local simp] yg
def aaH:C:=(.kH [⟨(some 2),.box 23 (.t 0),none,[]⟩,⟨(some 4),.new 30 [(.val (.slice none 0 0)),(.val (.slice none 0 0)),(.val (.int .i64 0)),(.val (.int .i64 0)),(.val (.int .i64 0)),(.val (.int .i64 0))],none,[]⟩,⟨(some 5),.new 4 [(.val (.bool false))],none,[]⟩])
def X8:C:=(.seq (.kH [⟨(some 11),.mv (.t 1),none,[]⟩,⟨(some 12),.call (.f 215) [(.t 11),(.c (.val (.int .i64 0))),(.c (.val (.int .i64 400)))],none,[]⟩,⟨(some 10),.mv (.t 12),none,[]⟩,⟨(some 13),.ext (.t 10) 0,none,[]⟩,⟨(some 14),.ext (.t 10) 1,none,[]⟩,⟨(some 15),.ext (.t 10) 2,none,[]⟩,⟨(some 6),.mv (.t 13),none,[]⟩,⟨(some 7),.mv (.t 14),none,[]⟩,⟨(some 8),.mv (.t 15),none,[]⟩])
 (.seq (.kH [⟨(some 16),.mv (.t 8),none,[]⟩,⟨(some 17),.mv (.t 16),none,[]⟩,⟨(some 18),.mv (.t 7),(some (17,true)),[]⟩,⟨(some 19),.mv (.t 1),(some (17,true)),[]⟩,⟨(some 20),.len (.t 19),(some (17,true)),[]⟩,⟨(some 21),.bin .eql (.t 18) (.t 20),(some (17,true)),[]⟩,⟨(some 22),.pick (.t 17) (.t 21) (.c (.val (.bool false))),none,[]⟩,⟨(some 23),.call (.f 216) [(.t 22)],none,[]⟩])
 (.seq (.kH [⟨(some 24),.mv (.t 6),none,[]⟩,⟨(some 25),.build [(.val (.slice none 0 0))] [(0,1,(.t 24))],none,[]⟩,⟨(some 26),.box 282 (.t 25),none,[]⟩,⟨(some 27),.call (.f 217) [(.t 26)],none,[]⟩,⟨none,.st 6 (.t 4) (.t 27),none,[]⟩])
 (.seq (.kH [⟨(some 28),.HV 9 (.t 2),none,[]⟩,⟨(some 29),.HV 6 (.t 4),none,[]⟩,⟨(some 30),.call (.f 42) [(.t 28),(.t 29)],none,[]⟩,⟨(some 31),.call (.f 216) [(.t 30)],none,[]⟩])
 (.seq (.kH [⟨(some 32),.HV 6 (.t 4),none,[]⟩,⟨none,.st 6 (.t 4) (.t 32),none,[]⟩,⟨none,.st 1 (.t 5) (.c (.val (.bool true))),none,[]⟩])
 .ret)))))
def NI:Option Code→Code
 | some (.seq a _)=>a
 | _=>.skip
def F2:Option Code→Code
 | some (.seq _ (.seq _ b))=>b
 | _=>.skip
theorem SU:fZ Tryz.prog 33 (NI Tryz.f132.body)=some aaH:=by kernel_rfl
theorem SS:fZ Tryz.prog 33 (F2 Tryz.f132.body)=some X8:=by kernel_rfl
def EJ (c:aI) (b:List Int):Option ai→St→Prop
 | some s=>fun st=>st.get 4=.ptr 1 0∧st.get 5=.ptr 2 0∧st.obj 2=.live (.box 4 [.bool true])∧∃ cells Z,st.obj 1=.live (.box 30 cells)∧cells.length=6∧(∀ z∈Z,∃ et e rows,st.obj z=.live (.dat et e rows)∨st.obj z=.live (.kU et e rows))∧ah st.obj [] Z (.agg cells) (bz s)
 | none=>fun _=>False
def GL (st:St):Prop:=st.get iq=.d (.val nr)∧st.get 4=.ptr 1 0∧st.get 5=.ptr 2 0∧∃ cells x,st.obj 1=.live (.box 30 cells)∧cells.length=6∧st.obj 2=.live (.box 4 [x])
def p_:Option ai→List It
 | some _=>[]
 | none=>[.pn GL]
def Kx (c:aI) (b:List Int):St:=⟨[(5,.ptr 2 0),(4,.ptr 1 0),(2,.ptr 0 0),(0,f_ c),(1,af b)],[some (.box 23 [.int c.nodes,.int c.bn,.int c.cv,.int c.gJ,.int c.eF,.int c.eE,.int c.deadline,.int c.room,.int c.gq]),some (.box 30 [j_,j_,.int 0,.int 0,.int 0,.int 0]),some (.box 4 [.bool false])]⟩
theorem NW (c:aI) (b:List Int) (hb:∀ x∈b,0≤x∧x≤255) (hl:b.length≤1000000):W Tryz.prog G (EJ c b (nG c b)) (.c X8::p_ (nG c b)) (Kx c b):=by
 generalize hq:nG c b=q
 unfold nG at hq
 simp only [X8,Kx,go_sem,simprocAttr]
 cases hL:kn b 0 400 with
 | none=>
   rw [hL] at hq
   subst hq
   refine av (vr b hb hl 400 (by decide) hL) rfl rfl rfl rfl ?_
   simp only [p_,go_sem,simprocAttr]
   refine nP lz rfl rfl rfl ?_
   simp only [fh,iq,GL,go_sem,simprocAttr]
   exact ⟨_,_,rfl,rfl,rfl⟩
 | some p=>
 obtain ⟨xs,e⟩:=p
 obtain ⟨h1,h2,h3⟩:=ug (fun c hc=>(hb c hc).1) hL
 rw [hL] at hq
 dsimp only at hq
 refine fO (EF b hb hl 400 (by decide) xs e hL) rfl rfl rfl ?_
 simp only [go_sem,simprocAttr]
 by_cases he:e=b.length
 case neg=>
  rw [if_neg he] at hq
  subst hq
  have NJ:(((e:Nat):Int)==((b.length:Nat):Int))=false:=by simp; omega
  simp only [p_,NJ,go_sem,simprocAttr]
  refine nP lz rfl rfl rfl ?_
  simp only [fh,iq,GL,go_sem,simprocAttr]
  exact ⟨_,_,rfl,rfl,rfl⟩
 rw [if_pos he] at hq
 have NJ:(((e:Nat):Int)==((b.length:Nat):Int))=true:=by simp; omega
 simp only [NJ,go_sem,simprocAttr]
 refine av (pZ) rfl rfl rfl rfl ?_; simp only [go_sem,simprocAttr]
 have h0:∀ x∈xs,0≤x:=fun x hx=>(h2 x hx).1
 cases hp:jk xs with
 | error k=>
   rw [hp] at hq
   dsimp only at hq
   subst hq
   simp only [p_]
   refine dc [4,3] (FK xs k h1 h0 hp) rfl (by simp only [aa,ah,go_sem,simprocAttr]) (by decide) (by simp only [Nat.sub_zero,go_sem,simprocAttr]) (by simp only [go_sem,simprocAttr]) (by simp) ?_
   simp only [fh,iq,GL,go_sem,simprocAttr]
   exact ⟨_,_,rfl,rfl,rfl⟩
 | ok s=>
 rw [hp] at hq
 dsimp only at hq
 refine au [4,3] (Jj xs s h1 h0 hp) rfl (by simp only [aa,ah,go_sem,simprocAttr]) (by decide) (by simp only [Nat.sub_zero,go_sem,simprocAttr]) (by simp only [go_sem,simprocAttr]) (by simp) ?_
 simp only [go_sem,simprocAttr]
 have ht1:List.take s.nodes.length (s.nodes.map a_)=s.nodes.map a_:=List.take_of_length_le (by simp)
 have ht2:List.take s.jobs.length (s.jobs.map cQ)=s.jobs.map cQ:=List.take_of_length_le (by simp)
 refine xz [5,6] (AE c s) rfl (by simp [aa,ah,aM,ay,ht1,ht2,go_sem,simprocAttr]) (by simp [ay]) rfl rfl ?_; simp only [go_sem,simprocAttr]
 cases hr:iy c s with
 | false=>
   rw [hr,if_neg (by decide)] at hq
   subst hq
   simp only [p_,go_sem,simprocAttr]
   refine nP lz rfl rfl rfl ?_
   simp only [fh,iq,GL,go_sem,simprocAttr]
   exact ⟨_,_,rfl,rfl,rfl⟩
 | true=>
   rw [hr,if_pos rfl] at hq
   subst hq
   refine av (pZ) rfl rfl rfl rfl ?_; simp only [go_sem,simprocAttr]
   simp only [EJ]
   refine ⟨rfl,rfl,rfl,_,[5,6],rfl,rfl,?_,?_⟩
   ·intro z hz
    simp only [List.mem_cons,List.not_mem_nil,or_false] at hz
    rcases hz with rfl | rfl
    ·exact ⟨_,_,_,.inl rfl⟩
    ·exact ⟨_,_,_,.inl rfl⟩
   ·simp [St.obj,ay,ah,aa,aM,LV.int,bz,bK,cA,List.take_of_length_le]
end Dv
namespace Dv
open Go Go.Proofs
open Go.RowKit
variable {G:Nat→Option (List DV)}
def fW (q:Option ai):LV:=.dM [bz (q.getD j4),.bool q.isSome]
def TG:Option Code→Code
 | some (.seq _ (.seq b _))=>b
 | _=>.skip
theorem NY:Tryz.f132.body=some (.seq (NI Tryz.f132.body) (.seq (TG Tryz.f132.body) (F2 Tryz.f132.body))):=by kernel_rfl
theorem NX:ox Tryz.prog Tryz.f132.results.toList=some [.cn 4 6,.c1 5]:=by kernel_rfl
set_option maxRecDepth 1000000 in
theorem SP {Q:Exit→Act→World→Prop} {a:Act} {w:World} (hs:a.tmps.size=33) {bs bk:Nat} (h4:a.tmps.getD 4 Go.undef=.pointer (some ⟨bs,0,none⟩)) (h5:a.tmps.getD 5 Go.undef=.pointer (some ⟨bk,0,none⟩))
  (hQ:∀ a':Act,a'.defers = { target:=.fn (.func 214) #[.pointer (some ⟨bs,0,none⟩),.pointer (some ⟨bk,0,none⟩)],args:=#[] }::a.defers→a'.tmps.size=33→(∀ t,t≠9→a'.tmps.getD t Go.undef=a.tmps.getD t Go.undef)→Q .normal a' w):(TG Tryz.f132.body).wp Tryz.prog Q a w:=by
 refine wp_region_list ?_
 refine wpList_plain rfl (fun K hK=>?_)
 have e4:a.eval (.tmp 4)=.pointer (some ⟨bs,0,none⟩):=by
  rw [← h4]; simp [Act.eval,Array.getD_eq_getD_getElem?]
 have e5:a.eval (.tmp 5)=.pointer (some ⟨bk,0,none⟩):=by
  rw [← h5]; simp [Act.eval,Array.getD_eq_getD_getElem?]
 refine cS.of_run (v:=.func (.func 214) #[] #[.pointer (some ⟨bs,0,none⟩),.pointer (some ⟨bk,0,none⟩)]) (w':=w) (post:=fun v' w'=>v'=.func (.func 214) #[] #[.pointer (some ⟨bs,0,none⟩),.pointer (some ⟨bk,0,none⟩)]∧w'=w) ?_ ⟨rfl,rfl⟩ K _ (fun v' w' h=>?_)
 ·simp [execOp,go_sem,e4,e5]
  exact ⟨by simpa [Array.getD_eq_getD_getElem?] using h4,by simpa [Array.getD_eq_getD_getElem?] using h5⟩
 obtain ⟨rfl,rfl⟩:=h
 refine hK _ _ ?_
 clear hK
 refine wpList_plain rfl (fun K hK=>?_)
 have e9:(a.put (some 9) (.func (.func 214) #[] #[.pointer (some ⟨bs,0,none⟩),.pointer (some ⟨bk,0,none⟩)])).eval (.tmp 9)=.func (.func 214) #[] #[.pointer (some ⟨bs,0,none⟩),.pointer (some ⟨bk,0,none⟩)]:=by
  simp [Act.eval,Act.put,hs]
 unfold Oper.wp
 have hrun:(execOp (a.put (some 9) (.func (.func 214) #[] #[.pointer (some ⟨bs,0,none⟩),.pointer (some ⟨bk,0,none⟩)])).eval
   { dst:=none,op:=Op.defer { callee:=Callee.value (Operand.tmp 9),args:=#[],argTypes:=#[] },type:=0,pos:= "image.go:88",after:=#[{ on:=0,ground:=Ground.data }],guard:=none }).run Tryz.prog w'=.ok (.defer { target:=.fn (.func 214) #[.pointer (some ⟨bs,0,none⟩),.pointer (some ⟨bk,0,none⟩)],args:=#[] }) w':=by
  simp [execOp,resolve,Deferred.ofValue,e9,hs,go_sem]
 rw [hrun,Oper.upon_defer]
 refine hK _ _ (wpList_nil (hQ _ rfl ?_ ?_))
 ·simp [Act.put,hs]
 ·intro t ht
  simp [Act.put,Array.getD_eq_getD_getElem?,Array.getElem?_setIfInBounds_ne (fun e=>ht e.symm)]
def dG (bs bk:Nat):Deferred:={ target:=.fn (.func 214) #[.pointer (some ⟨bs,0,none⟩),.pointer (some ⟨bk,0,none⟩)],args:=#[] }
set_option maxRecDepth 1000000 in
theorem Bx (bs bk:Nat) (w:World):(invoke (.fn (.func 214) #[.pointer (some ⟨bs,0,none⟩),.pointer (some ⟨bk,0,none⟩)]) #[]).run Tryz.prog w=.ok (.enter 214 #[.pointer (some ⟨bs,0,none⟩),.pointer (some ⟨bk,0,none⟩)]) w:=by
 simp only [invoke]
 exact ru (by decide) _ w
set_option maxRecDepth 1000000 in
theorem SN (c:aI) (b:List Int) (hb:∀ x∈b,0≤x∧x≤255) (hl:b.length≤1000000):br Tryz.prog G 132 [f_ c,af b] [] (fW (nG c b)) []:=by
 refine ⟨by decide,fun J0 cI w0 vs S0 hargs=>?_⟩
 refine calls_of_wp_defers Tryz.func132 NY ?_
 refine I9 SU (s1:=Kx c b) ?_ (Ti (n:=33) (aH:=[]) S0 hargs (show 2≤33 by decide)) (fun a w hA=>?_)
 ·simp [aaH,vc,gO,xD,xE,cR,Kx,f_,fc,bY.ev,St.get,aO,St.app,ej,ga,LV.cells,j_,LV.int,LV.bool]
 obtain ⟨J1,wO,S1,E1⟩:=hA.ex
 obtain ⟨bs,OY,h4⟩:=S1.env 4
 obtain ⟨bk,hbk,h5⟩:=S1.env 5
 refine wp_seq (SP S1.size h4 h5 (fun a1 hd hs ht=>?_))
 show (F2 Tryz.f132.body).wp Tryz.prog _ a1 w
 have ab7:oS G (Dk.plain [dG bs bk] false) 33 (Kx c b).obj J1 wO w (Kx c b) a1 w:=by
  refine ⟨J1,wO,⟨S1.store,fun t=>?_,hs,by rw [hd,S1.defers.none rfl]; exact Marks.plain (Dk.plain [dG bs bk] false) w,trivial,S1.lim⟩,Ext.refl ..⟩
  by_cases h9:t=9
  ·subst h9; trivial
  ·rw [ht t h9]; exact S1.env t
 have hw:=NW (G:=G) c b hb hl
 generalize nG c b=q at *
 refine I_ (fin:=EJ c b q) (pan:=fun s=>q=none∧GL s) SS ?_ ab7 ?_ ?_
 ·simp only [W] at hw
  refine nT _ _ ⟨W Tryz.prog G (EJ c b q) (p_ q),fun i s'=>Wx Tryz.prog G (EJ c b q) i (p_ q) s',EJ c b q,qS,none⟩ ⟨EJ c b q,fun i s=>i=iq∧(q=none∧GL s),EJ c b q,qS,none⟩ (fun s h=>?_) (fun i s h=>?_) (fun s h=>h) hw
  ·cases q with
   | none=>simpa only [p_,W] using h
   | some s0=>simpa only [p_,W] using h
  ·cases q with
   | none=>
     simp only [p_,Wx] at h
     split at h
     ·rename_i hi; exact ⟨hi,rfl,h⟩
     ·exact h.elim
   | some s0=>simp only [p_,Wx] at h
 ·intro s a2 w2 o7 kR
  obtain ⟨J2,zO,S2,E2⟩:=o7.ex
  cases q with
  | none=>exact kR.elim
  | some s0=>
  obtain ⟨g4,g5,OU,cells,Z,Sx,GF,hZ,hR⟩:=kR
  have hL:Leaves Tryz.prog Tryz.f132 a2.tmps (fun e w'=>∃ v,e=Ending.returned v∧bB G (ay (List.map some [])) (ay (List.map some [])) J0 cI w0 (fW (some s0)) v w') a2.defers .returning w2:=by
   rw [S2.defers.none rfl]
   refine leaves_cons (by simp) (Bx bs bk w2) ((G6 _ _ w2).mono ?_)
   rintro e u' w' ⟨rfl,rfl,rfl⟩
   obtain ⟨v,zN,uL⟩:=IE (r:=fW (some s0)) Z S2.store S2.env S0 (E1.trans E2) NX (rs:=[.agg cells,.bool true]) (by
    have:List.take 6 cells=cells:=List.take_of_length_le (by omega)
    simp [uH.of,RV.of,g4,g5,Sx,OU,GF,this,LV.bool]) hZ (by
    simp [aF,fW,ah,aa,LV.bool]
    exact hR)
   exact ⟨v,zN,v,rfl,uL⟩
  exact ⟨hL,hL⟩
 ·rintro v s a2 w2 hd2 ⟨J2,zO,S2,E2,ace⟩ ⟨rfl,hv,g4,g5,cells,x,Sx,GF,OU⟩
  have hv:v=nr:=by simpa [jW,St.get,aO] using hv
  subst hv
  have g4:s.get 4=.ptr 1 0:=by simpa [jW,St.get,aO,iq] using g4
  have g5:s.get 5=.ptr 2 0:=by simpa [jW,St.get,aO,iq] using g5
  have Sx:s.obj 1=.live (.box 30 cells):=Sx
  have OU:s.obj 2=.live (.box 4 [x]):=OU
  have EC:zO 1 0=some bs:=E2.ev.iY 1 0 bs OY
  have NR:zO 2 0=some bk:=E2.ev.iY 2 0 bk hbk
  have r1:=S2.rep 1
  rw [Sx] at r1
  obtain ⟨⟨b1,C,k1,k2,k3⟩,_⟩:=r1
  rw [EC] at k1; cases k1
  have r2:=S2.rep 2
  rw [OU] at r2
  obtain ⟨⟨b2,C2,m1,m2,m3⟩,_⟩:=r2
  rw [NR] at m1; cases m1
  have hC:C.size=6:=by have:=k3.length; simp at this; omega
  obtain ⟨C2⟩:=C2
  match C2,m3 with
  | [x2],_=>
  have hne:bs≠bk:=fun e=>by
   have:=S2.inj 1 2 bs (by rw [Sx]; exact EC) (by rw [OU,e]; exact NR)
   cases this
  have hlen:2<s.ag.length:=xh OU
  obtain ⟨J3,Wm,S3,_,E3⟩:=bB.box S2 (base:=s.ag.length) (dw (Nat.le_refl _)) 275 [] #[] trivial
  obtain ⟨b1',j1,_,J4,ι4,S4,_,E4⟩:=bB.xU S3 (o:=1) (et:=30) (cells:=cells) (cs:=[j_,j_,.int 0,.int 0,.int 0,.int 0]) (vs:=lD.cells.toList) (col:=0) (by rw [if_neg (by omega)]; exact Sx)
   (by simp [bS,dF,jc,lD,j_,LV.int,Value.cells,Value.oneCell']) (by simp [GF])
  have e1:b1'=bs:=by have:=E3.ev.iY 1 0 bs EC; rw [this] at j1; exact (Option.some.inj j1).symm
  subst e1
  obtain ⟨b2',j2,_,J5,YU,S5,_,E5⟩:=bB.xU S4 (o:=2) (et:=4) (cells:=[x]) (cs:=[.bool false]) (vs:=[.bool false]) (col:=0) (by rw [if_neg (by omega),if_neg (by omega)]; exact OU)
   (by simp [bS,dF,jc,LV.bool,Value.oneCell']) (by simp)
  have e2:b2'=bk:=by have:=E4.ev.iY 2 0 bk (E3.ev.iY 2 0 bk NR); rw [this] at j2; exact (Option.some.inj j2).symm
  subst e2
  obtain ⟨s3,VI⟩:∃ s3:St,s3=⟨s.env,((s.ag++[some (aG.box 275 [])]).set 1 (some (aG.box 30 (splice cells 0 [j_,j_,.int 0,.int 0,.int 0,.int 0])))).set 2 (some (aG.box 4 (splice [x] 0 [.bool false])))⟩:=⟨_,rfl⟩
  have zY:s3.obj=fun o=>if o=2 then .live (.box 4 (splice [x] 0 [.bool false])) else if o=1 then .live (.box 30 (splice cells 0 [j_,j_,.int 0,.int 0,.int 0,.int 0])) else if o=s.ag.length then .live (.box 275 []) else s.obj o:=by
   subst VI
   exact (DX (by simp; omega) _).trans (by rw [DX (by simp; omega),k_]; rfl)
  have S5':aN G J5 (((w2.alloc (.cells #[] 275)).setCells b1' 0 lD.cells.toList).setCells b2' 0 [.bool false]) YU s3.obj:=by rw [zY]; exact S5
  have E5':=E5
  rw [← zY] at E5'
  have h6:splice cells 0 [j_,j_,.int 0,.int 0,.int 0,.int 0]=[j_,j_,.int 0,.int 0,.int 0,.int 0]:=by
   simp only [splice,List.take_zero,List.nil_append,List.length_cons,List.length_nil]
   rw [List.drop_eq_nil_of_le (by omega),List.append_nil]
  have q1:s3.obj 1=.live (.box 30 [j_,j_,.int 0,.int 0,.int 0,.int 0]):=by rw [zY,h6]; rfl
  have q2:s3.obj 2=.live (.box 4 [.bool false]):=by rw [zY]; rfl
  have p4:s3.get 4=.ptr 1 0:=by subst VI; exact g4
  have p5:s3.get 5=.ptr 2 0:=by subst VI; exact g5
  have acd:∀ t,dF J5 (((w2.alloc (.cells #[] 275)).setCells b1' 0 lD.cells.toList).setCells b2' 0 [.bool false]) YU (s3.get t) (a2.tmps.getD t Go.undef):=fun t=>by
   have:s3.get t=s.get t:=by subst VI; rfl
   rw [this]
   exact (((ace t).ev S2 E3.ev).ev S3 E4.ev).ev S4 E5.ev
  have hL:Leaves Tryz.prog Tryz.f132 a2.tmps (fun e w'=>∃ v,e=Ending.returned v∧bB G (ay (List.map some [])) (ay (List.map some [])) J0 cI w0 (fW none) v w') a2.defers (.panicking [{ v:=nr,recovered:=false }]) w2:=by
   rw [hd2 rfl]
   refine leaves_cons (by simp) (Bx _ _ w2) ((La _ _ C x2 w2 k2 hC m2 hne).mono ?_)
   rintro e u' w' ⟨rfl,rfl,rfl⟩
   obtain ⟨v,zN,uL⟩:=IE (r:=fW none) [] S5' acd S0 ((((E1.trans E2).trans E3).trans E4).trans E5') NX (rs:=[.agg [j_,j_,.int 0,.int 0,.int 0,.int 0],.bool false]) (by
    simp [uH.of,RV.of,p4,p5,q1,q2,LV.bool]) (fun z hz=>by cases hz) (by
    simp [aF,fW,ah,aa,LV.bool,LV.int,j4,bz,j_,bK,cA])
   exact ⟨v,zN,v,rfl,uL⟩
  exact hL
end Dv
