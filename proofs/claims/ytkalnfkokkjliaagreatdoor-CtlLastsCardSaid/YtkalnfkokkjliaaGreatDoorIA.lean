/- part -/
import Derived.Test.YtkalnfkokkjliaaGreatDoorDB
import Derived.Test.YtkalnfkokkjliaaGreatDoorVD
import Derived.Tactics
import Derived.Tactics2
import Derived.WalkKit
import Derived.Test.YtkalnfkokkjliaaGreatDoorPB
import Derived.Defers
import Derived.Recover
import Derived.Laws.Pointers
import Derived.Test.YtkalnfkokkjliaaGreatDoorI0
import Derived.Test.YtkalnfkokkjliaaGreatDoorDF
set_option linter.all false
set_option maxHeartbeats 4000000
set_option maxRecDepth 1000000
namespace Dv
open Go Go.Proofs
open Go.RowKit
variable {G:Nat→Option (List DV)}
def n_:Value:=.iface 275 (.agg #[])
def XR:=qx Tryz.f216
theorem T8:aj Tryz.prog Tryz.f216=some XR:=by kernel_rfl
theorem qV:bu Tryz.prog G 216 [.bool true] [] (.dM []) []:=by
 refine bz Tryz.func216 (by decide) T8 rfl rfl ?_
 simp only [XR,go_sem]
theorem lG:xl Tryz.prog G 216 [.bool false] [] n_ []:=by
 refine ⟨by decide,fun J ι w vs S hR=>?_⟩
 obtain ⟨vl⟩:=vs
 match vl,hR with
 | [v],⟨hv,_⟩=>
 have hv:v=.bool false:=hv
 subst hv
 go_enter Tryz.func216,Tryz.ntmps216
 have hp:∀ (u:TypeId) (v:Value) (w:World),(Instr.panic (.iface u v)).run Tryz.prog w=.halt (.panic (.iface u v)) w:=fun _ _ _=>rfl
 go_wp2
 exact ⟨rfl,rfl,bn.stay S trivial⟩
end Dv
namespace Dv
open Go Go.Proofs
variable {G:Nat→Option (List DV)}
def PU:=qx Tryz.f263
theorem Kt:aj Tryz.prog Tryz.f263=some PU:=by kernel_rfl
def KE:=qx Tryz.f262
theorem Ef:aj Tryz.prog Tryz.f262=some KE:=by kernel_rfl
def ME (l:List Int):List (List DV):=l.map fun x=>[i64 x]
def zO (xs:List Int) (k:Nat):List aG:=[.box 282 [.sl 1 xs.length 1 k (xs.length-k)],.dat 3 1 (ME xs)]
attribute [local go_sem] zO ME
attribute [local simp] zO
theorem dg (xs:List Int) (k:Nat) (hk:k<xs.length) (h63:xs.length≤1000000):bu Tryz.prog G 263 [.ptr 0 0] (zO xs k) (.int (xs.getD k 0)) (zO xs (k+1)):=by
 have hg:=aM (f:=fun x:Int=>[i64 x]) 0 hk
 generalize xs.getD k 0=x at *
 refine aT Tryz.func263 (by decide) Kt rfl rfl rfl rfl ?_
 simp only [PU,go_sem]
 have h1:decide (((xs.length-k:Nat):Int)>0)=true:=decide_eq_true (by omega)
 simp only [h1,go_sem]
 refine av (qV) rfl rfl rfl rfl ?_; simp only [go_sem]
 have h2:0<xs.length-k:=by omega
 have h3:xs.length-k-1=xs.length-(k+1):=by omega
 have h4:1≤xs.length-k∧xs.length-k≤xs.length-k:=by omega
 simp only [h2,hg,if_pos h4,h3,go_sem]
theorem cN (xs:List Int):xl Tryz.prog G 263 [.ptr 0 0] (zO xs xs.length) n_ (zO xs xs.length):=by
 refine JW Tryz.func263 (by decide) Kt rfl rfl ?_ ?_
 ·simp only [go_sem]
 have h1:decide (((xs.length-xs.length:Nat):Int)>0)=false:=decide_eq_false (by omega)
 simp only [PU,h1,go_sem]
 refine oA lG rfl rfl rfl ?_
 simp only [fe,iP,go_sem]
theorem tw (xs:List Int) (k:Nat) (most:Int) (hk:k<xs.length) (h63:xs.length≤1000000) (hm:xs.getD k 0≤most):bu Tryz.prog G 262 [.ptr 0 0,.int most] (zO xs k) (.int (xs.getD k 0)) (zO xs (k+1)):=by
 refine aT Tryz.func262 (by decide) Ef rfl rfl rfl rfl ?_
 simp only [KE,go_sem]
 refine au [0,1] (dg xs k hk h63) rfl ?_ (by decide) ?_ ?_ (by simp) ?_ <;> simp only [ag,ah,go_sem]
 rw [decide_eq_true hm]
 refine av (qV) rfl rfl rfl rfl ?_; simp only [go_sem]
theorem qK (xs:List Int) (k:Nat) (most:Int) (hk:k<xs.length) (h63:xs.length≤1000000) (hm:¬ xs.getD k 0≤most):xl Tryz.prog G 262 [.ptr 0 0,.int most] (zO xs k) n_ (zO xs (k+1)):=by
 refine JW Tryz.func262 (by decide) Ef rfl rfl ?_ ?_
 ·simp only [go_sem]
 simp only [KE,go_sem]
 refine au [0,1] (dg xs k hk h63) rfl ?_ (by decide) ?_ ?_ (by simp) ?_ <;> simp only [ag,ah,go_sem]
 rw [decide_eq_false hm]
 refine oA lG rfl rfl rfl ?_
 simp only [fe,iP,go_sem]
theorem oM (xs:List Int) (most:Int):xl Tryz.prog G 262 [.ptr 0 0,.int most] (zO xs xs.length) n_ (zO xs xs.length):=by
 refine JW Tryz.func262 (by decide) Ef rfl rfl ?_ ?_
 ·simp only [go_sem]
 simp only [KE,go_sem]
 refine dc [0,1] (cN xs) rfl ?_ (by decide) ?_ ?_ (by simp) ?_ <;> simp only [ag,ah,fe,ij,iP,go_sem]
end Dv
namespace Dv
open Go Go.Proofs
variable {G:Nat→Option (List DV)}
def PW:=qx Tryz.f217
theorem Kw:aj Tryz.prog Tryz.f217=some PW:=by kernel_rfl
attribute [local go_sem] zO ME
attribute [local simp] zO
def kr:LV:=.d (.val (.slice none 0 0))
attribute [local go_sem] kr
def aba (xs:List Int):Except Nat aa→St→Prop
 | .ok s=>sE [.cn 2 6] 2 (.agg [.sl 2 s.nodes.length 5 0 s.nodes.length,.sl 3 s.jobs.length 12 0 s.jobs.length,.int s.goal,.int s.prior,.int s.mode,.int s.term]) (zO xs xs.length++[.dat 102 5 (s.nodes.map bZ),.dat 119 12 (s.jobs.map dJ)])
 | .error _=>fun _=>False
def fW (xs:List Int):Except Nat aa→List It
 | .ok _=>[]
 | .error k=>[.pn (iP n_ (zO xs k))]
def Si (xs:List Int) (n:Int) (ns:List br):St:=⟨[(0,.ptr 0 0),(2,.ptr 2 0),(3,.ptr 3 0),(7,.int n),(8,.int ns.length)],
 [some (.box 282 [.sl 1 xs.length 1 (1+3*ns.length) (xs.length-(1+3*ns.length))]),some (.dat 3 1 (ME xs)),some (.box 30 [kr,kr,.int 0,.int 0,.int 0,.int 0]),
  some (.box 30 [.sl 4 ns.length 5 0 ns.length,kr,.int 0,.int 0,.int 0,.int 0]),some (.dat 102 5 (ns.map bZ))]⟩
def Sj (xs:List Int) (m:Int) (ns:List br) (p0:Nat) (js:List bQ):St:=⟨[(0,.ptr 0 0),(2,.ptr 2 0),(3,.ptr 3 0),(33,.int m),(34,.int js.length)],
 [some (.box 282 [.sl 1 xs.length 1 (p0+12*js.length) (xs.length-(p0+12*js.length))]),some (.dat 3 1 (ME xs)),some (.box 30 [kr,kr,.int 0,.int 0,.int 0,.int 0]),
  some (.box 30 [.sl 4 ns.length 5 0 ns.length,.sl 5 js.length 12 0 js.length,.int 0,.int 0,.int 0,.int 0]),some (.dat 102 5 (ns.map bZ)),some (.dat 119 12 (js.map dJ))]⟩
theorem zx (xs:List Int) (VA:xs.length≤400) (h0:∀ x∈xs,0≤x):W Tryz.prog G (aba xs (kJ xs)) (.c PW.2.1::fW xs (kJ xs)) ⟨fB 0 [.ptr 0 0],(zO xs 0).map some⟩:=by
 generalize hq:kJ xs=q
 replace hq:kJ (xs.drop 0)=q:=hq
 simp only [PW,go_sem]
 cases hl:xs.drop 0 with
 | nil=>
   have hk:=cM hl (Nat.zero_le _)
   rw [hl,kJ] at hq
   subst hq
   simp only [fW]
   have hT:=oM (G:=G) xs 6
   rw [← hk] at hT
   refine dc [0,1] (hT) rfl ?_ (by decide) ?_ ?_ (by simp) ?_ <;> simp only [ag,ah,fe,ij,iP,go_sem]
 | cons n l=>
 obtain ⟨hk,hx,hd⟩:=cr hl
 have hn0:0≤n:=h0 n (by rw [← hx]; simp [List.getD,hk])
 rw [hl,kJ] at hq
 split at hq
 case isFalse hn6=>
  subst hq
  simp only [fW]
  have hT:=qK (G:=G) xs 0 6 hk (by omega) (by rw [hx]; exact hn6)
  refine dc [0,1] (hT) rfl ?_ (by decide) ?_ ?_ (by simp) ?_ <;> simp only [ag,ah,fe,ij,iP,go_sem]
 rename_i hn6
 have hT:=tw (G:=G) xs 0 6 hk (by omega) (by rw [hx]; exact hn6)
 rw [hx] at hT
 refine au [0,1] (hT) rfl ?_ (by decide) ?_ ?_ (by simp) ?_ <;> simp only [ag,ah,go_sem]
 refine aW [0,2,3,7,8] [.b 3 0 102 5] (fun ns:List br=>ns.length≤n.toNat∧1+3*ns.length≤xs.length∧iC (n.toNat-ns.length) ns (1+3*ns.length) (xs.drop (1+3*ns.length))=q) (fun ns=>n.toNat-ns.length) (Si xs n) [] ?_ ⟨Nat.zero_le _,by rw [List.length_nil]; omega,by rw [← hd] at hq; exact hq⟩ ?_
 ·simp only [Si,go_sem,Int.natCast_zero,Nat.mul_zero]
 clear hT hq hd hl hx
 rintro ns ⟨hi,hp,hF⟩
 generalize sP:ns.length=i at *
 simp only [Si,sP,go_sem]
 cases hlt:decide ((i:Int)<n) with
 | false=>
   have hin:i=n.toNat:=by have:=of_decide_eq_false hlt; omega
   rw [show n.toNat-i=0 by omega,xH] at hF
   simp only [go_sem]
   cases hl:xs.drop (1+3*i) with
   | nil=>
     have hk:=cM hl hp
     rw [hl] at hF
     replace hF:Except.error (1+3*i)=q:=hF
     subst hF
     simp only [fW]
     have hT:=oM (G:=G) xs 24
     rw [← hk] at hT
     refine dc [0,1] (hT) rfl ?_ (by decide) ?_ ?_ (by simp) ?_ <;> simp only [ag,ah,fe,ij,iP,go_sem]
   | cons m l=>
   obtain ⟨hk,hx,hd⟩:=cr hl
   have hm0:0≤m:=h0 m (by rw [← hx]; simp [List.getD,hk])
   rw [hl] at hF
   by_cases Vj:m≤24
   case neg=>
    rw [H7 _ _ _ _ Vj] at hF
    subst hF
    simp only [fW]
    have hT:=qK (G:=G) xs (1+3*i) 24 hk (by omega) (by rw [hx]; exact Vj)
    refine dc [0,1] (hT) rfl ?_ (by decide) ?_ ?_ (by simp) ?_ <;> simp only [ag,ah,fe,ij,iP,go_sem]
   have hT:=tw (G:=G) xs (1+3*i) 24 hk (by omega) (by rw [hx]; exact Vj)
   rw [hx] at hT
   rw [Cr _ _ _ _ Vj] at hF
   refine au [0,1] (hT) rfl ?_ (by decide) ?_ ?_ (by simp) ?_ <;> simp only [ag,ah,go_sem]
   generalize hp0:1+3*i+1=p0 at *
   have ad3:ns.length≤6:=by omega
   refine aW [0,2,3,33,34] [.b 3 1 119 12] (fun js:List bQ=>js.length≤m.toNat∧p0+12*js.length≤xs.length∧qO ns (m.toNat-js.length) js (p0+12*js.length) (xs.drop (p0+12*js.length))=q) (fun js=>m.toNat-js.length) (Sj xs m ns p0) [] ?_ ⟨Nat.zero_le _,by rw [List.length_nil]; omega,by rw [← hd] at hF; exact hF⟩ ?_
   ·simp only [Sj,sP,go_sem,Int.natCast_zero,Nat.mul_zero]
   clear hT hF hd hl hx hk hp0
   rintro js ⟨hjm,hP,hF⟩
   generalize hlj:js.length=k at *
   generalize hPk:p0+12*k=P at *
   simp only [Sj,hlj,hPk,sP,go_sem]
   cases ab_:decide ((k:Int)<m) with
   | false=>
     have hkm:k=m.toNat:=by have:=of_decide_eq_false ab_; omega
     rw [show m.toNat-k=0 by omega,zV] at hF
     simp only [go_sem]
     generalize NS:xs.drop P=l0 at hF
     cases hl0:l0 with
     | nil=>
       have hk:=cM (NS.trans hl0) (by omega)
       have kB:Except.error (P+0)=q:=by rw [← hF,hl0]; rfl
       rw [show P+0=P from rfl] at kB
       subst kB
       simp only [fW]
       have hT:=cN (G:=G) xs
       rw [← hk] at hT
       refine dc [0,1] (hT) rfl ?_ (by decide) ?_ ?_ (by simp) ?_ <;> simp only [ag,ah,fe,ij,iP,go_sem]
     | cons x0 l1=>
     obtain ⟨hk0,hx0,Y6⟩:=cr (NS.trans hl0)
     have hT:=dg (G:=G) xs (P) hk0 (by omega)
     rw [hx0] at hT
     refine au [0,1] (hT) rfl ?_ (by decide) ?_ ?_ (by simp) ?_ <;> simp only [ag,ah,go_sem]
     clear hT
     cases sQ:l1 with
     | nil=>
       have hk:=cM (Y6.trans sQ) (by omega)
       have kB:Except.error (P+1)=q:=by rw [← hF,hl0,sQ]; rfl
       rw [show P+1=P+1 from rfl] at kB
       subst kB
       simp only [fW]
       have hT:=cN (G:=G) xs
       rw [← hk] at hT
       refine dc [0,1] (hT) rfl ?_ (by decide) ?_ ?_ (by simp) ?_ <;> simp only [ag,ah,fe,ij,iP,go_sem]
     | cons x1 l2=>
     obtain ⟨wJ,hx1,hd2⟩:=cr (Y6.trans sQ)
     have hT:=dg (G:=G) xs (P+1) wJ (by omega)
     rw [hx1] at hT
     refine au [0,1] (hT) rfl ?_ (by decide) ?_ ?_ (by simp) ?_ <;> simp only [ag,ah,go_sem]
     clear hT
     cases hl2:l2 with
     | nil=>
       have hk:=cM (hd2.trans hl2) (by omega)
       have kB:Except.error (P+2)=q:=by rw [← hF,hl0,sQ,hl2]; rfl
       rw [show P+2=P+1+1 from rfl] at kB
       subst kB
       simp only [fW]
       have hT:=cN (G:=G) xs
       rw [← hk] at hT
       refine dc [0,1] (hT) rfl ?_ (by decide) ?_ ?_ (by simp) ?_ <;> simp only [ag,ah,fe,ij,iP,go_sem]
     | cons x2 l3=>
     obtain ⟨hk2,hx2,QK⟩:=cr (hd2.trans hl2)
     have hT:=dg (G:=G) xs (P+1+1) hk2 (by omega)
     rw [hx2] at hT
     refine au [0,1] (hT) rfl ?_ (by decide) ?_ ?_ (by simp) ?_ <;> simp only [ag,ah,go_sem]
     clear hT
     cases BJ:l3 with
     | nil=>
       have hk:=cM (QK.trans BJ) (by omega)
       have kB:Except.error (P+3)=q:=by rw [← hF,hl0,sQ,hl2,BJ]; rfl
       rw [show P+3=P+1+1+1 from rfl] at kB
       subst kB
       simp only [fW]
       have hT:=cN (G:=G) xs
       rw [← hk] at hT
       refine dc [0,1] (hT) rfl ?_ (by decide) ?_ ?_ (by simp) ?_ <;> simp only [ag,ah,fe,ij,iP,go_sem]
     | cons x3 l4=>
     obtain ⟨Vl,hx3,hd4⟩:=cr (QK.trans BJ)
     have hT:=dg (G:=G) xs (P+1+1+1) Vl (by omega)
     rw [hx3] at hT
     refine au [0,1] (hT) rfl ?_ (by decide) ?_ ?_ (by simp) ?_ <;> simp only [ag,ah,go_sem]
     clear hT
     cases EU:l4 with
     | cons y l5=>
       obtain ⟨hk4,_,_⟩:=cr (hd4.trans EU)
       have kB:Except.error (P+4)=q:=by rw [← hF,hl0,sQ,hl2,BJ,EU]; rfl
       rw [show P+4=P+1+1+1+1 from rfl] at kB
       subst kB
       simp only [fW]
       have h1:(((xs.length-(P+1+1+1+1):Nat):Int)==0)=false:=by simp; omega
       simp only [h1,go_sem]
       refine oA lG rfl rfl rfl ?_
       simp only [fe,ij,iP,go_sem]
     | nil=>
     have hk:=cM (hd4.trans EU) (by omega)
     have kB:Except.ok ⟨ns,js,x0,x1,x2,x3⟩=q:=by rw [← hF,hl0,sQ,hl2,BJ,EU]; rfl
     subst kB
     simp only [fW]
     have h1:(((xs.length-(P+1+1+1+1):Nat):Int)==0)=true:=by simp; omega
     simp only [h1,go_sem]
     refine av (qV) rfl rfl rfl rfl ?_; simp only [go_sem]
     simp only [aba]
     clear hPk
     rw [hk]
     subst sP hlj
     refine dA [] [0,1,4,5] [] rfl rfl (by decide) (by simp) (by simp) rfl rfl ?_
     show ah _ _ _ (.agg [.sl 4 ns.length 5 0 ns.length,.sl 5 js.length 12 0 js.length,.int x0,.int x1,.int x2,.int x3]) _
     simp [ah,ag,LV.int]
   | true=>
   have hkm:k<m.toNat:=by have:=of_decide_eq_true ab_; omega
   rw [show m.toNat-k=(m.toNat-(k+1))+1 by omega] at hF
   simp only [go_sem]
   generalize NS:xs.drop P=l0 at hF
   cases hl0:l0 with
   | nil=>
     have hk:=cM (NS.trans hl0) (by omega)
     have kB:Except.error (P+0)=q:=by rw [← hF,hl0]; rfl
     rw [show P+0=P from rfl] at kB
     subst kB
     simp only [fW]
     have hT:=cN (G:=G) xs
     rw [← hk] at hT
     refine dc [0,1] (hT) rfl ?_ (by decide) ?_ ?_ (by simp) ?_ <;> simp only [ag,ah,fe,ij,iP,go_sem]
   | cons x0 l1=>
   obtain ⟨hk0,hx0,Y6⟩:=cr (NS.trans hl0)
   have hT:=dg (G:=G) xs (P) hk0 (by omega)
   rw [hx0] at hT
   refine au [0,1] (hT) rfl ?_ (by decide) ?_ ?_ (by simp) ?_ <;> simp only [ag,ah,go_sem]
   clear hT
   cases sQ:l1 with
   | nil=>
     have hk:=cM (Y6.trans sQ) (by omega)
     have kB:Except.error (P+1)=q:=by rw [← hF,hl0,sQ]; rfl
     rw [show P+1=P+1 from rfl] at kB
     subst kB
     simp only [fW]
     have hT:=cN (G:=G) xs
     rw [← hk] at hT
     refine dc [0,1] (hT) rfl ?_ (by decide) ?_ ?_ (by simp) ?_ <;> simp only [ag,ah,fe,ij,iP,go_sem]
   | cons x1 l2=>
   obtain ⟨wJ,hx1,hd2⟩:=cr (Y6.trans sQ)
   have hT:=dg (G:=G) xs (P+1) wJ (by omega)
   rw [hx1] at hT
   refine au [0,1] (hT) rfl ?_ (by decide) ?_ ?_ (by simp) ?_ <;> simp only [ag,ah,go_sem]
   clear hT
   cases hl2:l2 with
   | nil=>
     have hk:=cM (hd2.trans hl2) (by omega)
     have kB:Except.error (P+2)=q:=by rw [← hF,hl0,sQ,hl2]; rfl
     rw [show P+2=P+1+1 from rfl] at kB
     subst kB
     simp only [fW]
     have hT:=cN (G:=G) xs
     rw [← hk] at hT
     refine dc [0,1] (hT) rfl ?_ (by decide) ?_ ?_ (by simp) ?_ <;> simp only [ag,ah,fe,ij,iP,go_sem]
   | cons x2 l3=>
   obtain ⟨hk2,hx2,QK⟩:=cr (hd2.trans hl2)
   have hT:=dg (G:=G) xs (P+1+1) hk2 (by omega)
   rw [hx2] at hT
   refine au [0,1] (hT) rfl ?_ (by decide) ?_ ?_ (by simp) ?_ <;> simp only [ag,ah,go_sem]
   clear hT
   cases BJ:l3 with
   | nil=>
     have hk:=cM (QK.trans BJ) (by omega)
     have kB:Except.error (P+3)=q:=by rw [← hF,hl0,sQ,hl2,BJ]; rfl
     rw [show P+3=P+1+1+1 from rfl] at kB
     subst kB
     simp only [fW]
     have hT:=cN (G:=G) xs
     rw [← hk] at hT
     refine dc [0,1] (hT) rfl ?_ (by decide) ?_ ?_ (by simp) ?_ <;> simp only [ag,ah,fe,ij,iP,go_sem]
   | cons x3 l4=>
   obtain ⟨Vl,hx3,hd4⟩:=cr (QK.trans BJ)
   have hT:=dg (G:=G) xs (P+1+1+1) Vl (by omega)
   rw [hx3] at hT
   refine au [0,1] (hT) rfl ?_ (by decide) ?_ ?_ (by simp) ?_ <;> simp only [ag,ah,go_sem]
   clear hT
   cases EU:l4 with
   | nil=>
     have hk:=cM (hd4.trans EU) (by omega)
     have kB:Except.error (P+4)=q:=by rw [← hF,hl0,sQ,hl2,BJ,EU]; rfl
     rw [show P+4=P+1+1+1+1 from rfl] at kB
     subst kB
     simp only [fW]
     have hT:=cN (G:=G) xs
     rw [← hk] at hT
     refine dc [0,1] (hT) rfl ?_ (by decide) ?_ ?_ (by simp) ?_ <;> simp only [ag,ah,fe,ij,iP,go_sem]
   | cons x4 l5=>
   obtain ⟨hk4,hx4,hd5⟩:=cr (hd4.trans EU)
   have hT:=dg (G:=G) xs (P+1+1+1+1) hk4 (by omega)
   rw [hx4] at hT
   refine au [0,1] (hT) rfl ?_ (by decide) ?_ ?_ (by simp) ?_ <;> simp only [ag,ah,go_sem]
   clear hT
   cases Qt:l5 with
   | nil=>
     have hk:=cM (hd5.trans Qt) (by omega)
     have kB:Except.error (P+5)=q:=by rw [← hF,hl0,sQ,hl2,BJ,EU,Qt]; rfl
     rw [show P+5=P+1+1+1+1+1 from rfl] at kB
     subst kB
     simp only [fW]
     have hT:=cN (G:=G) xs
     rw [← hk] at hT
     refine dc [0,1] (hT) rfl ?_ (by decide) ?_ ?_ (by simp) ?_ <;> simp only [ag,ah,fe,ij,iP,go_sem]
   | cons x5 l6=>
   obtain ⟨hk5,hx5,hd6⟩:=cr (hd5.trans Qt)
   have hT:=dg (G:=G) xs (P+1+1+1+1+1) hk5 (by omega)
   rw [hx5] at hT
   refine au [0,1] (hT) rfl ?_ (by decide) ?_ ?_ (by simp) ?_ <;> simp only [ag,ah,go_sem]
   clear hT
   cases ET:l6 with
   | nil=>
     have hk:=cM (hd6.trans ET) (by omega)
     have kB:Except.error (P+6)=q:=by rw [← hF,hl0,sQ,hl2,BJ,EU,Qt,ET]; rfl
     rw [show P+6=P+1+1+1+1+1+1 from rfl] at kB
     subst kB
     simp only [fW]
     have hT:=cN (G:=G) xs
     rw [← hk] at hT
     refine dc [0,1] (hT) rfl ?_ (by decide) ?_ ?_ (by simp) ?_ <;> simp only [ag,ah,fe,ij,iP,go_sem]
   | cons x6 l7=>
   obtain ⟨hk6,hx6,hd7⟩:=cr (hd6.trans ET)
   have hT:=dg (G:=G) xs (P+1+1+1+1+1+1) hk6 (by omega)
   rw [hx6] at hT
   refine au [0,1] (hT) rfl ?_ (by decide) ?_ ?_ (by simp) ?_ <;> simp only [ag,ah,go_sem]
   clear hT
   cases Y4:l7 with
   | nil=>
     have hk:=cM (hd7.trans Y4) (by omega)
     have kB:Except.error (P+7)=q:=by rw [← hF,hl0,sQ,hl2,BJ,EU,Qt,ET,Y4]; rfl
     rw [show P+7=P+1+1+1+1+1+1+1 from rfl] at kB
     subst kB
     simp only [fW]
     have hT:=cN (G:=G) xs
     rw [← hk] at hT
     refine dc [0,1] (hT) rfl ?_ (by decide) ?_ ?_ (by simp) ?_ <;> simp only [ag,ah,fe,ij,iP,go_sem]
   | cons x7 l8=>
   obtain ⟨hk7,hx7,hd8⟩:=cr (hd7.trans Y4)
   have hT:=dg (G:=G) xs (P+1+1+1+1+1+1+1) hk7 (by omega)
   rw [hx7] at hT
   refine au [0,1] (hT) rfl ?_ (by decide) ?_ ?_ (by simp) ?_ <;> simp only [ag,ah,go_sem]
   clear hT
   cases Y3:l8 with
   | nil=>
     have hk:=cM (hd8.trans Y3) (by omega)
     have kB:Except.error (P+8)=q:=by rw [← hF,hl0,sQ,hl2,BJ,EU,Qt,ET,Y4,Y3]; rfl
     rw [show P+8=P+1+1+1+1+1+1+1+1 from rfl] at kB
     subst kB
     simp only [fW]
     have hT:=cN (G:=G) xs
     rw [← hk] at hT
     refine dc [0,1] (hT) rfl ?_ (by decide) ?_ ?_ (by simp) ?_ <;> simp only [ag,ah,fe,ij,iP,go_sem]
   | cons x8 l9=>
   obtain ⟨hk8,hx8,hd9⟩:=cr (hd8.trans Y3)
   have hT:=dg (G:=G) xs (P+1+1+1+1+1+1+1+1) hk8 (by omega)
   rw [hx8] at hT
   refine au [0,1] (hT) rfl ?_ (by decide) ?_ ?_ (by simp) ?_ <;> simp only [ag,ah,go_sem]
   clear hT
   cases hl9:l9 with
   | nil=>
     have hk:=cM (hd9.trans hl9) (by omega)
     have kB:Except.error (P+9)=q:=by rw [← hF,hl0,sQ,hl2,BJ,EU,Qt,ET,Y4,Y3,hl9]; rfl
     rw [show P+9=P+1+1+1+1+1+1+1+1+1 from rfl] at kB
     subst kB
     simp only [fW]
     have hT:=cN (G:=G) xs
     rw [← hk] at hT
     refine dc [0,1] (hT) rfl ?_ (by decide) ?_ ?_ (by simp) ?_ <;> simp only [ag,ah,fe,ij,iP,go_sem]
   | cons x9 l10=>
   obtain ⟨hk9,hx9,acn⟩:=cr (hd9.trans hl9)
   have hT:=dg (G:=G) xs (P+1+1+1+1+1+1+1+1+1) hk9 (by omega)
   rw [hx9] at hT
   refine au [0,1] (hT) rfl ?_ (by decide) ?_ ?_ (by simp) ?_ <;> simp only [ag,ah,go_sem]
   clear hT
   cases Qu:l10 with
   | nil=>
     have hk:=cM (acn.trans Qu) (by omega)
     have kB:Except.error (P+10)=q:=by rw [← hF,hl0,sQ,hl2,BJ,EU,Qt,ET,Y4,Y3,hl9,Qu]; rfl
     rw [show P+10=P+1+1+1+1+1+1+1+1+1+1 from rfl] at kB
     subst kB
     simp only [fW]
     have hT:=cN (G:=G) xs
     rw [← hk] at hT
     refine dc [0,1] (hT) rfl ?_ (by decide) ?_ ?_ (by simp) ?_ <;> simp only [ag,ah,fe,ij,iP,go_sem]
   | cons x10 l11=>
   obtain ⟨adu,adg,acm⟩:=cr (acn.trans Qu)
   have hT:=dg (G:=G) xs (P+1+1+1+1+1+1+1+1+1+1) adu (by omega)
   rw [adg] at hT
   refine au [0,1] (hT) rfl ?_ (by decide) ?_ ?_ (by simp) ?_ <;> simp only [ag,ah,go_sem]
   clear hT
   cases Vk:l11 with
   | nil=>
     have hk:=cM (acm.trans Vk) (by omega)
     have kB:Except.error (P+11)=q:=by rw [← hF,hl0,sQ,hl2,BJ,EU,Qt,ET,Y4,Y3,hl9,Qu,Vk]; rfl
     rw [show P+11=P+1+1+1+1+1+1+1+1+1+1+1 from rfl] at kB
     subst kB
     simp only [fW]
     have hT:=cN (G:=G) xs
     rw [← hk] at hT
     refine dc [0,1] (hT) rfl ?_ (by decide) ?_ ?_ (by simp) ?_ <;> simp only [ag,ah,fe,ij,iP,go_sem]
   | cons x11 l12=>
   obtain ⟨adt,adf,adG⟩:=cr (acm.trans Vk)
   have hT:=dg (G:=G) xs (P+1+1+1+1+1+1+1+1+1+1+1) adt (by omega)
   rw [adf] at hT
   refine au [0,1] (hT) rfl ?_ (by decide) ?_ ?_ (by simp) ?_ <;> simp only [ag,ah,go_sem]
   clear hT
   rw [hl0,sQ,hl2,BJ,EU,Qt,ET,Y4,Y3,hl9,Qu,Vk,zW] at hF
   have vg:∀ row:List DV,(List.map dJ js++[row]).length*96≤70368744177664:=fun row=>by simp only [List.length_append,List.length_map,List.length_cons,List.length_nil]; omega
   simp only [hlj,if_pos (vg _),go_sem]
   refine bh (js++[⟨x0,x1,x2,x3,x4,x5,x6,x7,x8,x9,x10,x11⟩]) ?_ ?_ ⟨by simp; omega,by simp; omega,?_⟩ (by simp; omega)
   ·simp only [go_sem]
   ·simp only [Sj,List.length_append,List.map_append,hlj,sP,aH (show k<9223372036854775807 by omega),show p0+12*(k+1)=P+1+1+1+1+1+1+1+1+1+1+1+1 by omega,go_sem]
   ·simp only [List.length_append,List.length_cons,List.length_nil,hlj,show p0+12*(k+(0+1))=P+1+1+1+1+1+1+1+1+1+1+1+1 by omega]
    rw [adG]; exact hF
 | true=>
 have hin:i<n.toNat:=by have:=of_decide_eq_true hlt; omega
 rw [show n.toNat-i=(n.toNat-(i+1))+1 by omega] at hF
 simp only [go_sem]
 cases hl:xs.drop (1+3*i) with
 | nil=>
   have hk:=cM hl hp
   rw [hl,H6] at hF
   subst hF
   simp only [fW]
   have hT:=oM (G:=G) xs 7
   rw [← hk] at hT
   refine dc [0,1] (hT) rfl ?_ (by decide) ?_ ?_ (by simp) ?_ <;> simp only [ag,ah,fe,ij,iP,go_sem]
 | cons f l=>
 obtain ⟨hk,hx,hd⟩:=cr hl
 have CR:0≤f:=h0 f (by rw [← hx]; simp [List.getD,hk])
 rw [hl] at hF
 by_cases hf7:f≤7
 case neg=>
  rw [HZ _ _ _ _ _ hf7] at hF
  subst hF
  simp only [fW]
  have hT:=qK (G:=G) xs (1+3*i) 7 hk (by omega) (by rw [hx]; exact hf7)
  refine dc [0,1] (hT) rfl ?_ (by decide) ?_ ?_ (by simp) ?_ <;> simp only [ag,ah,fe,ij,iP,go_sem]
 have hT:=tw (G:=G) xs (1+3*i) 7 hk (by omega) (by rw [hx]; exact hf7)
 rw [hx] at hT
 refine au [0,1] (hT) rfl ?_ (by decide) ?_ ?_ (by simp) ?_ <;> simp only [ag,ah,go_sem]
 cases hl2:l with
 | nil=>
   rw [hl2] at hF hd
   have hk2:=cM hd (by omega)
   rw [OM _ _ _ _ hf7] at hF
   subst hF
   simp only [fW]
   have Vu:=cN (G:=G) xs
   rw [← hk2] at Vu
   refine Dp [0,1] (Vu) rfl (by simp only [ag,ah,go_sem]) (by decide) (by simp only [go_sem]) (by simp only [go_sem]) (by simp) ?_ ?_
   ·simp only [fe,ij,iP,go_sem]
   ·(repeat' (first | rw [yf (by decide)] | rw [Dn (by decide)])) <;> rw [Bu] <;> exact ⟨by decide,by decide⟩
 | cons v l2=>
 rw [hl2] at hF hd
 obtain ⟨hk2,hx2,hd2⟩:=cr hd
 have Vu:=dg (G:=G) xs (1+3*i+1) hk2 (by omega)
 rw [hx2] at Vu
 refine eM [0,1] (Vu) rfl ?_ (by decide) ?_ ?_ (by simp) ?_ <;> simp only [ag,ah,go_sem]
 cases BJ:l2 with
 | nil=>
   rw [BJ] at hF hd2
   have Vl:=cM hd2 (by omega)
   rw [L4 _ _ _ _ _ hf7] at hF
   subst hF
   simp only [fW]
   have Vt:=cN (G:=G) xs
   rw [← Vl] at Vt
   refine Dp [0,1] (Vt) rfl (by simp only [ag,ah,go_sem]) (by decide) (by simp only [go_sem]) (by simp only [go_sem]) (by simp) ?_ ?_
   ·simp only [fe,ij,iP,go_sem]
   ·(repeat' (first | rw [yf (by decide)] | rw [Dn (by decide)])) <;> rw [Bu] <;> exact ⟨by decide,by decide⟩
 | cons j l3=>
 rw [BJ] at hF hd2
 obtain ⟨Vl,hx3,QK⟩:=cr hd2
 have Vt:=dg (G:=G) xs (1+3*i+1+1) Vl (by omega)
 rw [hx3] at Vt
 rw [zU _ _ _ _ _ _ _ hf7] at hF
 refine eM [0,1] (Vt) rfl ?_ (by decide) ?_ ?_ (by simp) ?_ <;> simp only [ag,ah,go_sem]
 have e1:(rH .i64 f 1 !=0)=hasB f 0∧(rH .i64 f 2 !=0)=hasB f 1∧(rH .i64 f 4 !=0)=hasB f 2:=by
  have:f=0∨f=1∨f=2∨f=3∨f=4∨f=5∨f=6∨f=7:=by omega
  rcases this with rfl | rfl | rfl | rfl | rfl | rfl | rfl | rfl <;> decide
 obtain ⟨e1,e2,e3⟩:=e1
 have vg:∀ row:List DV,(List.map bZ ns++[row]).length*24≤70368744177664:=fun row=>by simp only [List.length_append,List.length_map,List.length_cons,List.length_nil]; omega
 simp only [sP,e1,e2,e3,if_pos (vg _),go_sem]
 refine ay (by decide) ?_
 simp only [go_sem]
 refine bh (ns++[Cy f v j]) ?_ ?_ ⟨by simp; omega,by simp; omega,?_⟩ (by simp; omega)
 ·simp only [go_sem]
 ·simp only [Si,List.length_append,List.map_append,Cy,sP,aH (show i<9223372036854775807 by omega),show 1+3*(i+1)=1+3*i+1+1+1 by omega,go_sem]
 ·simp only [List.length_append,List.length_cons,List.length_nil,sP,show 1+3*(i+(0+1))=1+3*i+1+1+1 by omega]
  rw [QK]; exact hF
theorem LA (xs:List Int) (s:aa) (VA:xs.length≤400) (h0:∀ x∈xs,0≤x) (h:kJ xs=.ok s):bu Tryz.prog G 217 [.ptr 0 0] (zO xs 0) (.agg [.sl 2 s.nodes.length 5 0 s.nodes.length,.sl 3 s.jobs.length 12 0 s.jobs.length,.int s.goal,.int s.prior,.int s.mode,.int s.term]) (zO xs xs.length++[.dat 102 5 (s.nodes.map bZ),.dat 119 12 (s.jobs.map dJ)]):=by
 have hw:=zx (G:=G) xs VA h0
 rw [h] at hw
 exact cI Tryz.func217 (by decide) Kw rfl hw
theorem HG (xs:List Int) (k:Nat) (VA:xs.length≤400) (h0:∀ x∈xs,0≤x) (h:kJ xs=.error k):xl Tryz.prog G 217 [.ptr 0 0] (zO xs 0) n_ (zO xs k):=by
 have hw:=zx (G:=G) xs VA h0
 rw [h] at hw
 exact JW Tryz.func217 (by decide) Kw rfl rfl (by simp only [go_sem]) hw
end Dv
namespace Dv
open Go Go.Proofs
open Go.RowKit
def lK:Value:=.agg #[.slice none 0 0,.slice none 0 0,.int .i64 0,.int .i64 0,.int .i64 0,.int .i64 0]
theorem BX {P:Program} {T type:TypeId} {n:Nat} {x y:Operand} {pos:String} {after:Array Edge} {g:Option (Nat×Bool)} {a:Act} {w:World} {K:Act→World→Prop} {Q:Exit→Act→World→Prop} {b off:Nat} {v:Value} (hx:a.eval x=.pointer (some ⟨b,off,none⟩)) (hy:a.eval y=v) (hs:dX P T=some n) (ht:w.there b off v.cells.size) (hl:v.cells.size=n) (h1:∀ u∈v.cells.toList,u.oneCell'=true)
  (hK:K a (w.setCells b off v.cells.toList)):Oper.wp P ⟨none,.store T x y,type,pos,after,g⟩ a w K Q:=by
 have hr:=HM (P:=P) (w:=w) hs ht hl h1
 refine (cR.yP (post:=fun _ w'=>w'=w.setCells b off v.cells.toList) ?_ rfl) K Q (fun v' w' h=>by subst h; exact hK)
 show (execOp a.eval _).run P w=_
 simp only [execOp,hx,hy,Sem.run_bind,hr,Result.andThen_ok,Sem.run_pure]
theorem JD (ps pk:Value) (w:World) :
  CallsD Tryz.prog 214 #[ps,pk] .returning w fun e u' w'=>e=.returned (.tuple #[])∧u'=.returning∧w'=w:=by
 refine callsD_of_wpS Tryz.func214 rfl fun c₀ cs hu=>?_
 apply wpS_seq
 apply wpS_region
 simp [wpOpsS,go_sem,recoverD,hu,Tryz.ntmps214,Exit.thenS]
 apply wpS_seq
 apply wpS_region
 simp [wpOpsS,go_sem,recoverD,hu,Tryz.ntmps214,Exit.thenS]
 refine wpS_cond (t:=false) (by simp [Act.eval,Array.replicate]) ?_
 simp only [Bool.false_eq_true,if_false]
 refine wpS_of_wp (wp_skip ?_)
 cases c₀
 simp_all [bodyPostS,results,Tryz.results214]
theorem No (bs bk:Nat) (C:Array Value) (b:Value) (w:World) (hs:w.heap[bs]? = some (.cells C 30 (0,0))) (hC:C.size=6) (hk:w.heap[bk]? = some (.cells #[b] 4 (0,0))) (hne:bs≠bk) :
  CallsD Tryz.prog 214 #[.pointer (some ⟨bs,0,none⟩),.pointer (some ⟨bk,0,none⟩)] (.panicking [{ v:=n_,recovered:=false }]) w fun e u' w'=>
   e=.returned (.tuple #[])∧u'=.panicking [{ v:=n_,recovered:=true }]∧w'=((w.alloc (.cells #[] 275)).setCells bs 0 lK.cells.toList).setCells bk 0 [.bool false]:=by
 refine callsD_of_wpS Tryz.func214 rfl fun c₀ cs hu=>?_
 apply wpS_seq
 apply wpS_region
 simp [wpOpsS,go_sem,recoverD,hu,n_,Tryz.ntmps214,Exit.thenS]
 apply wpS_seq
 apply wpS_region
 simp [wpOpsS,go_sem,recoverD,hu,n_,Tryz.ntmps214,Exit.thenS]
 refine wpS_cond (t:=true) (by simp [Act.eval,Array.replicate]) ?_
 simp only [if_true]
 refine wpS_of_wp ?_
 simp only [Array.replicate_succ,Array.replicate_zero,List.push_toArray,List.append_toArray,List.nil_append,List.cons_append,List.size_toArray]
 have hta:∀ w,(Instr.typeAssert (Value.iface 275 (.agg #[])) 20 275 true).run Tryz.prog w=.ok (.tuple #[.agg #[],.bool true]) w:=fun _=>by rfl
 apply wp_seq
 refine wp_mono (Q:=fun e a' w'=>e=.normal∧w'=w.alloc (.cells #[] 275)∧a'.tmps[0]? = some (.pointer (some ⟨bs,0,none⟩))∧a'.tmps[1]? = some (.pointer (some ⟨bk,0,none⟩))∧a'.tmps.size=17∧a'.defers=[]) ?_ ?_
 ·go_wp2
 rintro e ⟨tmps,ds⟩ w' ⟨rfl,rfl,e0,e1,e2,e3⟩
 dsimp only at e0 e1 e2 e3
 subst e3
 simp only [Exit.then]
 refine wp_region_list ?_
 have yW:bs<w.heap.size:=(Array.getElem?_eq_some_iff.1 hs).1
 have hkl:bk<w.heap.size:=(Array.getElem?_eq_some_iff.1 hk).1
 have as1:(w.alloc (.cells #[] 275)).heap[bs]? = some (.cells C 30 (0,0)):=(Below.heap_alloc _ _ _ yW).trans hs
 have ak1:(w.alloc (.cells #[] 275)).heap[bk]? = some (.cells #[b] 4 (0,0)):=(Below.heap_alloc _ _ _ hkl).trans hk
 generalize hw1:w.alloc (.cells #[] 275)=w1 at *
 refine wpList_plain rfl (fun K hK=>?_)
 refine cR.of_run (v:=lK) (w':=w1) (post:=fun v' w'=>v'=lK∧w'=w1) (by simp [execOp,lK,go_sem]) ⟨rfl,rfl⟩ K _ (fun v' w' h=>?_)
 obtain ⟨rfl,rfl⟩:=h
 refine hK _ _ ?_
 refine wpList_plain rfl (fun K hK=>?_)
 refine BX (n:=6) (b:=bs) (off:=0) (v:=lK) ?_ ?_ (by kernel_rfl) ?_ rfl ?_ (hK _ _ ?_)
 ·simp [Act.eval,Act.put,e0]
 ·simp [Act.eval,Act.put,e2]
 ·intro j hj
  have hj:j<6:=hj
  simp [World.cell?,World.frozen?,as1,hC,hj]
 ·intro u hu
  simp [lK,Value.cells] at hu
  rcases hu with rfl | rfl <;> rfl
 clear hK
 refine wpList_plain rfl (fun K hK=>?_)
 refine BX (n:=1) (b:=bk) (off:=0) (v:=.bool false) ?_ rfl (by kernel_rfl) ?_ rfl ?_ (hK _ _ ?_)
 ·simp [Act.eval,Act.put,e1]
 ·intro j hj
  have hj:j<1:=hj
  obtain rfl:j=0:=by omega
  have h3:(w'.setCells bs 0 lK.cells.toList).heap[bk]? = some (.cells #[b] 4 (0,0)):=(heap_setCells_other (fun e=>hne e.symm) _ _ _).trans ak1
  simp [World.cell?,World.frozen?,h3]
 ·intro u hu
  simp [Value.cells] at hu
  subst hu; rfl
 refine wpList_nil ?_
 refine ⟨rfl,_,rfl,.tuple #[],results_none rfl _ _ _,rfl,rfl,rfl⟩
end Dv
namespace Dv
open Go Go.Proofs
variable {G:Nat→Option (List DV)}
attribute [local go_sem] gj
def Xq:=qx Tryz.f261
theorem TC:aj Tryz.prog Tryz.f261=some Xq:=by kernel_rfl
def XS:=qx Tryz.f215
theorem T9:aj Tryz.prog Tryz.f215=some XS:=by kernel_rfl
def FB (b:List Int) (p:Nat) (k:Bool):List aG:=[.box 57 [aq b],.box 3 [.int p],.box 4 [.bool k]]
attribute [local go_sem] FB aq
attribute [local simp] FB
theorem zK (b:List Int) (hb:∀ c∈b,0≤c∧c≤255) (hl:b.length≤1000000) (a0:Nat) (ha:a0≤1000000) (q:Option (Int×Nat)) (hq:f_ b a0=q) (p:Nat) (k:Bool) :
  bu Tryz.prog G 261 [.int a0,.ptr 0 0,.ptr 1 0,.ptr 2 0] (FB b p k) (.int (zM q)) (FB b (zN q) q.isSome):=by
 refine Dw Tryz.func261 (by decide) TC rfl rfl rfl rfl ?_
 simp only [Xq,go_sem]
 refine av (jY b hb hl a0 ha q hq) rfl rfl rfl rfl ?_; simp only [go_sem]
def glS (b:List Int) (n:Int) (p:List Int×Nat):St:=⟨[(9,.ptr 1 0),(10,.ptr 2 0),(11,.fn (.func 261) [] [.ptr 0 0,.ptr 1 0,.ptr 2 0]),(13,.sl 3 p.1.length 1 0 p.1.length),(26,.int n),(27,.int p.1.length)],(FB b p.2 true++[aG.dat 3 1 (iE p.1)]).map some⟩
def AK:Option (List Int×Nat)→LV
 | none=>.dM [.d (.val (.slice none 0 0)),.int 0,.bool false]
 | some (xs,e)=>.dM [.sl 0 xs.length 1 0 xs.length,.int e,.bool true]
def AL:Option (List Int×Nat)→List aG
 | none=>[]
 | some (xs,e)=>[.dat 3 1 (iE xs)]
theorem kZ (b:List Int) (hb:∀ c∈b,0≤c∧c≤255) (hl:b.length≤1000000) (many:Nat) (hm:many≤1000) (q:Option (List Int×Nat)) (hq:wR b 0 many=q):bu Tryz.prog G 215 [aq b,.int 0,.int many] [] (AK q) (AL q):=by
 refine cI Tryz.func215 (by decide) T9 rfl ?_
 simp only [XS,go_sem]
 refine au [0,1,2] (zK b hb hl 0 (by decide) _ rfl 0 false) rfl ?_ (by decide) ?_ ?_ (by simp) ?_ <;> simp only [ag,ah,go_sem,Int.natCast_zero]
 unfold wR at hq
 cases hn:f_ b 0 with
 | none=>
   rw [hn] at hq
   subst hq
   simp only [zM,zN,Option.isSome_none,AK,AL,go_sem]
   exact jE (aA:=[]) ⟨rfl,rfl⟩ rfl rfl rfl
 | some np=>
 obtain ⟨n,p0⟩:=np
 rw [hn] at hq
 dsimp only at hq
 obtain ⟨hn0,hn1,hp0,hp1⟩:=gv (fun c hc=>(hb c hc).1) hn
 by_cases hgt:(many:Int)<n
 case pos=>
  rw [if_pos hgt] at hq
  subst hq
  simp only [zM,zN,Option.isSome_some,decide_eq_true (show n>(many:Int) from hgt),AK,AL,go_sem]
  exact jE (aA:=[]) ⟨rfl,rfl⟩ rfl rfl rfl
 rw [if_neg hgt] at hq
 simp only [zM,zN,Option.isSome_some,decide_eq_false (show ¬ n>(many:Int) from hgt),go_sem]
 refine aW [9,10,11,13,26,27] [.t 13 3 1] (fun p:List Int×Nat=>p.1.length≤n.toNat∧p.2≤b.length∧(ri b (n.toNat-p.1.length) p.2).map (fun r=>(p.1++r.1,r.2))=q) (fun p=>n.toNat-p.1.length) (glS b n) ([],p0) ?_ ⟨Nat.zero_le _,hp1,?_⟩ ?_
 ·simp only [glS,iE,Int.natCast_zero,go_sem]
 ·dsimp only
  rw [← hq]
  simp
 clear hn hp0 hp1 hq
 rintro ⟨xs,p⟩ ⟨hk,hp,hF⟩
 dsimp only at hk hp hF
 generalize Gf:xs.length=k at *
 simp only [glS,Gf,go_sem]
 cases hlt:decide ((k:Int)<n) with
 | false=>
   have hk2:k=n.toNat:=by have:=of_decide_eq_false hlt; omega
   rw [show n.toNat-k=0 by omega] at hF
   have:q=some (xs,p):=by rw [← hF]; simp [ri]
   subst this
   simp only [AK,AL,Gf,go_sem]
   refine dA [] [3] [] (vs:=[.sl 3 k 1 0 k,.int p,.bool true]) rfl rfl (by decide) (by simp) (by simp) ?_ ?_ ?_
   ·simp [St.obj,aC,b_,fq]
   ·simp [dW]
   ·simp [aV,ah,ag,b_,St.obj,aC,LV.int,LV.bool]
 | true=>
 have hk2:k<n.toNat:=by have:=of_decide_eq_true hlt; omega
 rw [show n.toNat-k=(n.toNat-(k+1))+1 by omega] at hF
 unfold ri at hF
 simp only [go_sem]
 cases hn:f_ b p with
 | none=>
   rw [hn] at hF
   have:q=none:=by rw [← hF]; rfl
   subst this
   refine au [0,1,2] (zK b hb hl p (by omega) _ hn p true) rfl ?_ (by decide) ?_ ?_ (by simp) ?_ <;> simp only [ag,ah,go_sem,zM,zN,Option.isSome_none]
   simp only [AK,AL,go_sem]
   exact jE (aA:=[]) ⟨rfl,rfl⟩ rfl rfl rfl
 | some np=>
 obtain ⟨x,p1⟩:=np
 rw [hn] at hF
 dsimp only at hF
 refine au [0,1,2] (zK b hb hl p (by omega) _ hn p true) rfl ?_ (by decide) ?_ ?_ (by simp) ?_ <;> simp only [ag,ah,go_sem,zM,zN,Option.isSome_some]
 obtain ⟨hx0,hx1,hp2,hp3⟩:=gv (fun c hc=>(hb c hc).1) hn
 have vg:∀ row:List DV,(iE xs++[row]).length*8≤70368744177664:=fun row=>by simp [iE,Gf]; omega
 have hnl:(iE xs).length=k:=by simp [iE,Gf]
 have h7:k=(iE xs).length∧(iE xs++[[DV.val (Value.int IntKind.i64 x)]]).length*8≤70368744177664:=⟨hnl.symm,vg _⟩
 rw [if_pos h7]
 simp only [hnl,go_sem]
 have hap:(xs++[x]).length=k+1:=by simp [Gf]
 refine bh (xs++[x],p1) ?_ ?_ ⟨by dsimp only; omega,hp3,?_⟩ (by dsimp only; omega)
 ·simp only [go_sem]
 ·simp only [glS,hap,iE,List.map_append,aH (show k<9223372036854775807 by omega),go_sem]
 ·dsimp only
  rw [hap,← hF]
  cases ri b (n.toNat-(k+1)) p1 with
  | none=>rfl
  | some r=>simp
theorem Gn (b:List Int) (hb:∀ c∈b,0≤c∧c≤255) (hl:b.length≤1000000) (many:Nat) (hm:many≤1000) (xs:List Int) (e:Nat) (h:wR b 0 many=some (xs,e)):bu Tryz.prog G 215 [aq b,.int 0,.int many] [] (.dM [.sl 0 xs.length 1 0 xs.length,.int e,.bool true]) [.dat 3 1 (iE xs)]:=kZ b hb hl many hm _ h
theorem wQ (b:List Int) (hb:∀ c∈b,0≤c∧c≤255) (hl:b.length≤1000000) (many:Nat) (hm:many≤1000) (h:wR b 0 many=none):bu Tryz.prog G 215 [aq b,.int 0,.int many] [] (.dM [.d (.val (.slice none 0 0)),.int 0,.bool false]) []:=kZ b hb hl many hm _ h
end Dv
namespace Dv
open Go Go.Proofs
variable {G:Nat→Option (List DV)}
attribute [local go_sem] zO ME aq aB u8 iE kr
attribute [local simp] zO
def acC:C:=(.pZ [⟨(some 2),.box 23 (.t 0),none,[]⟩,⟨(some 4),.new 30 [(.val (.slice none 0 0)),(.val (.slice none 0 0)),(.val (.int .i64 0)),(.val (.int .i64 0)),(.val (.int .i64 0)),(.val (.int .i64 0))],none,[]⟩,⟨(some 5),.new 4 [(.val (.bool false))],none,[]⟩])
def aaF:C:=(.seq (.pZ [⟨(some 11),.mv (.t 1),none,[]⟩,⟨(some 12),.call (.f 215) [(.t 11),(.c (.val (.int .i64 0))),(.c (.val (.int .i64 400)))],none,[]⟩,⟨(some 10),.mv (.t 12),none,[]⟩,⟨(some 13),.ext (.t 10) 0,none,[]⟩,⟨(some 14),.ext (.t 10) 1,none,[]⟩,⟨(some 15),.ext (.t 10) 2,none,[]⟩,⟨(some 6),.mv (.t 13),none,[]⟩,⟨(some 7),.mv (.t 14),none,[]⟩,⟨(some 8),.mv (.t 15),none,[]⟩])
 (.seq (.pZ [⟨(some 16),.mv (.t 8),none,[]⟩,⟨(some 17),.mv (.t 16),none,[]⟩,⟨(some 18),.mv (.t 7),(some (17,true)),[]⟩,⟨(some 19),.mv (.t 1),(some (17,true)),[]⟩,⟨(some 20),.len (.t 19),(some (17,true)),[]⟩,⟨(some 21),.bin .eql (.t 18) (.t 20),(some (17,true)),[]⟩,⟨(some 22),.pick (.t 17) (.t 21) (.c (.val (.bool false))),none,[]⟩,⟨(some 23),.call (.f 216) [(.t 22)],none,[]⟩])
 (.seq (.pZ [⟨(some 24),.mv (.t 6),none,[]⟩,⟨(some 25),.build [(.val (.slice none 0 0))] [(0,1,(.t 24))],none,[]⟩,⟨(some 26),.box 282 (.t 25),none,[]⟩,⟨(some 27),.call (.f 217) [(.t 26)],none,[]⟩,⟨none,.st 6 (.t 4) (.t 27),none,[]⟩])
 (.seq (.pZ [⟨(some 28),.Ir 9 (.t 2),none,[]⟩,⟨(some 29),.Ir 6 (.t 4),none,[]⟩,⟨(some 30),.call (.f 42) [(.t 28),(.t 29)],none,[]⟩,⟨(some 31),.call (.f 216) [(.t 30)],none,[]⟩])
 (.seq (.pZ [⟨(some 32),.Ir 6 (.t 4),none,[]⟩,⟨none,.st 6 (.t 4) (.t 32),none,[]⟩,⟨none,.st 1 (.t 5) (.c (.val (.bool true))),none,[]⟩])
 .ret)))))
def QG:Option Code→Code
 | some (.seq a _)=>a
 | _=>.skip
def HT:Option Code→Code
 | some (.seq _ (.seq _ b))=>b
 | _=>.skip
theorem VG:eT Tryz.prog 33 (QG Tryz.f132.body)=some acC:=by kernel_rfl
theorem VF:eT Tryz.prog 33 (HT Tryz.f132.body)=some aaF:=by kernel_rfl
def Gu (c:aF) (b:List Int):Option aa→St→Prop
 | some s=>fun st=>st.get 4=.ptr 1 0∧st.get 5=.ptr 2 0∧st.obj 2=.live (.box 4 [.bool true])∧∃ cells Z,st.obj 1=.live (.box 30 cells)∧cells.length=6∧(∀ z∈Z,∃ et e rows,st.obj z=.live (.dat et e rows)∨st.obj z=.live (.kK et e rows))∧ah st.obj [] Z (.agg cells) (aX s)
 | none=>fun _=>False
def Jc (st:St):Prop:=st.get ij=.d (.val n_)∧st.get 4=.ptr 1 0∧st.get 5=.ptr 2 0∧∃ cells x,st.obj 1=.live (.box 30 cells)∧cells.length=6∧st.obj 2=.live (.box 4 [x])
def rq:Option aa→List It
 | some _=>[]
 | none=>[.pn Jc]
def MN (c:aF) (b:List Int):St:=⟨[(5,.ptr 2 0),(4,.ptr 1 0),(2,.ptr 0 0),(0,fN c),(1,aq b)],[some (.box 23 [.int c.nodes,.int c.bL,.int c.cE,.int c.gT,.int c.cc,.int c.eG,.int c.deadline,.int c.room,.int c.ga]),some (.box 30 [kr,kr,.int 0,.int 0,.int 0,.int 0]),some (.box 4 [.bool false])]⟩
theorem QO (c:aF) (b:List Int) (hb:∀ x∈b,0≤x∧x≤255) (hl:b.length≤1000000):W Tryz.prog G (Gu c b (vi c b)) (.c aaF::rq (vi c b)) (MN c b):=by
 generalize hq:vi c b=q
 unfold vi at hq
 simp only [aaF,MN,go_sem]
 cases hL:wR b 0 400 with
 | none=>
   rw [hL] at hq
   subst hq
   refine av (wQ b hb hl 400 (by decide) hL) rfl rfl rfl rfl ?_
   simp only [rq,go_sem]
   refine oA lG rfl rfl rfl ?_
   simp only [fe,ij,Jc,go_sem]
   exact ⟨_,_,rfl,rfl,rfl⟩
 | some p=>
 obtain ⟨xs,e⟩:=p
 obtain ⟨h1,h2,h3⟩:=Gp (fun c hc=>(hb c hc).1) hL
 rw [hL] at hq
 dsimp only at hq
 refine jD (Gn b hb hl 400 (by decide) xs e hL) rfl rfl rfl ?_
 simp only [go_sem]
 by_cases he:e=b.length
 case neg=>
  rw [if_neg he] at hq
  subst hq
  have QH:(((e:Nat):Int)==((b.length:Nat):Int))=false:=by simp; omega
  simp only [rq,QH,go_sem]
  refine oA lG rfl rfl rfl ?_
  simp only [fe,ij,Jc,go_sem]
  exact ⟨_,_,rfl,rfl,rfl⟩
 rw [if_pos he] at hq
 have QH:(((e:Nat):Int)==((b.length:Nat):Int))=true:=by simp; omega
 simp only [QH,go_sem]
 refine av (qV) rfl rfl rfl rfl ?_; simp only [go_sem]
 have h0:∀ x∈xs,0≤x:=fun x hx=>(h2 x hx).1
 cases hp:kJ xs with
 | error k=>
   rw [hp] at hq
   dsimp only at hq
   subst hq
   simp only [rq]
   refine dc [4,3] (HG xs k h1 h0 hp) rfl (by simp only [ag,ah,go_sem]) (by decide) (by simp only [Nat.sub_zero,go_sem]) (by simp only [go_sem]) (by simp) ?_
   simp only [fe,ij,Jc,go_sem]
   exact ⟨_,_,rfl,rfl,rfl⟩
 | ok s=>
 rw [hp] at hq
 dsimp only at hq
 refine au [4,3] (LA xs s h1 h0 hp) rfl (by simp only [ag,ah,go_sem]) (by decide) (by simp only [Nat.sub_zero,go_sem]) (by simp only [go_sem]) (by simp) ?_
 simp only [go_sem]
 have ht1:List.take s.nodes.length (s.nodes.map bZ)=s.nodes.map bZ:=List.take_of_length_le (by simp)
 have ht2:List.take s.jobs.length (s.jobs.map dJ)=s.jobs.map dJ:=List.take_of_length_le (by simp)
 refine y2 [5,6] (wg c s) rfl (by simp [ag,ah,bK,aC,ht1,ht2,go_sem]) (by simp [aC]) rfl rfl ?_; simp only [go_sem]
 cases hr:iR c s with
 | false=>
   rw [hr,if_neg (by decide)] at hq
   subst hq
   simp only [rq,go_sem]
   refine oA lG rfl rfl rfl ?_
   simp only [fe,ij,Jc,go_sem]
   exact ⟨_,_,rfl,rfl,rfl⟩
 | true=>
   rw [hr,if_pos rfl] at hq
   subst hq
   refine av (qV) rfl rfl rfl rfl ?_; simp only [go_sem]
   simp only [Gu]
   refine ⟨rfl,rfl,rfl,_,[5,6],rfl,rfl,?_,?_⟩
   ·intro z hz
    simp only [List.mem_cons,List.not_mem_nil,or_false] at hz
    rcases hz with rfl | rfl
    ·exact ⟨_,_,_,.inl rfl⟩
    ·exact ⟨_,_,_,.inl rfl⟩
   ·simp [St.obj,aC,ah,ag,bK,LV.int,aX,bS,cZ,List.take_of_length_le]
end Dv
namespace Dv
open Go Go.Proofs
open Go.RowKit
variable {G:Nat→Option (List DV)}
def kR (q:Option aa):LV:=.dM [aX (q.getD xu),.bool q.isSome]
def WH:Option Code→Code
 | some (.seq _ (.seq b _))=>b
 | _=>.skip
theorem QT:Tryz.f132.body=some (.seq (QG Tryz.f132.body) (.seq (WH Tryz.f132.body) (HT Tryz.f132.body))):=by kernel_rfl
theorem QS:pH Tryz.prog Tryz.f132.results.toList=some [.cn 4 6,.c1 5]:=by kernel_rfl
theorem VC {Q:Exit→Act→World→Prop} {a:Act} {w:World} (hs:a.tmps.size=33) {bs bk:Nat} (h4:a.tmps.getD 4 Go.undef=.pointer (some ⟨bs,0,none⟩)) (h5:a.tmps.getD 5 Go.undef=.pointer (some ⟨bk,0,none⟩))
  (hQ:∀ a':Act,a'.defers = { target:=.fn (.func 214) #[.pointer (some ⟨bs,0,none⟩),.pointer (some ⟨bk,0,none⟩)],args:=#[] }::a.defers→a'.tmps.size=33→(∀ t,t≠9→a'.tmps.getD t Go.undef=a.tmps.getD t Go.undef)→Q .normal a' w):(WH Tryz.f132.body).wp Tryz.prog Q a w:=by
 refine wp_region_list ?_
 refine wpList_plain rfl (fun K hK=>?_)
 have e4:a.eval (.tmp 4)=.pointer (some ⟨bs,0,none⟩):=by
  rw [← h4]; simp [Act.eval,Array.getD_eq_getD_getElem?]
 have e5:a.eval (.tmp 5)=.pointer (some ⟨bk,0,none⟩):=by
  rw [← h5]; simp [Act.eval,Array.getD_eq_getD_getElem?]
 refine cR.of_run (v:=.func (.func 214) #[] #[.pointer (some ⟨bs,0,none⟩),.pointer (some ⟨bk,0,none⟩)]) (w':=w) (post:=fun v' w'=>v'=.func (.func 214) #[] #[.pointer (some ⟨bs,0,none⟩),.pointer (some ⟨bk,0,none⟩)]∧w'=w) ?_ ⟨rfl,rfl⟩ K _ (fun v' w' h=>?_)
 ·simp [execOp,go_sem,e4,e5]
  exact ⟨by simpa [Array.getD_eq_getD_getElem?] using h4,by simpa [Array.getD_eq_getD_getElem?] using h5⟩
 obtain ⟨rfl,rfl⟩:=h
 refine hK _ _ ?_
 clear hK
 refine wpList_plain rfl (fun K hK=>?_)
 have e9:(a.put (some 9) (.func (.func 214) #[] #[.pointer (some ⟨bs,0,none⟩),.pointer (some ⟨bk,0,none⟩)])).eval (.tmp 9)=.func (.func 214) #[] #[.pointer (some ⟨bs,0,none⟩),.pointer (some ⟨bk,0,none⟩)]:=by
  simp [Act.eval,Act.put,hs]
 unfold Oper.wp
 have hrun:(execOp (a.put (some 9) (.func (.func 214) #[] #[.pointer (some ⟨bs,0,none⟩),.pointer (some ⟨bk,0,none⟩)])).eval
   { dst:=none,op:=Op.defer { callee:=Callee.value (Operand.tmp 9),args:=#[],argTypes:=#[] },type:=0,pos:= "image.go:88",after:=#[{ on:=0,ground:=Ground.data }],guard:=none }).run Tryz.prog w'=.ok (.defer { target:=.fn (.func 214) #[.pointer (some ⟨bs,0,none⟩),.pointer (some ⟨bk,0,none⟩)],args:=#[] }) w':=by
  simp [execOp,resolve,Deferred.ofValue,e9,hs,go_sem]
 rw [hrun,Oper.upon_defer]
 refine hK _ _ (wpList_nil (hQ _ rfl ?_ ?_))
 ·simp [Act.put,hs]
 ·intro t ht
  simp [Act.put,Array.getD_eq_getD_getElem?,Array.getElem?_setIfInBounds_ne (fun e=>ht e.symm)]
def dG (bs bk:Nat):Deferred:={ target:=.fn (.func 214) #[.pointer (some ⟨bs,0,none⟩),.pointer (some ⟨bk,0,none⟩)],args:=#[] }
theorem Db (bs bk:Nat) (w:World):(invoke (.fn (.func 214) #[.pointer (some ⟨bs,0,none⟩),.pointer (some ⟨bk,0,none⟩)]) #[]).run Tryz.prog w=.ok (.enter 214 #[.pointer (some ⟨bs,0,none⟩),.pointer (some ⟨bk,0,none⟩)]) w:=by
 simp only [invoke]
 exact oq (by decide) _ w
theorem VB (c:aF) (b:List Int) (hb:∀ x∈b,0≤x∧x≤255) (hl:b.length≤1000000):bu Tryz.prog G 132 [fN c,aq b] [] (kR (vi c b)) []:=by
 refine ⟨by decide,fun J0 cu w0 vs S0 hargs=>?_⟩
 refine calls_of_wp_defers Tryz.func132 QT ?_
 refine Ll VG (s1:=MN c b) ?_ (La (n:=33) (aI:=[]) S0 hargs (show 2≤33 by decide)) (fun a w hA=>?_)
 ·simp [acC,vc,gK,y8,y9,cO,MN,fN,fB,bX.ev,St.get,aY,St.app,ei,fU,LV.cells,kr,LV.int,LV.bool]
 obtain ⟨J1,yD,S1,E1⟩:=hA.ex
 obtain ⟨bs,RN,h4⟩:=S1.env 4
 obtain ⟨bk,hbk,h5⟩:=S1.env 5
 refine wp_seq (VC S1.size h4 h5 (fun a1 hd hs ht=>?_))
 show (HT Tryz.f132.body).wp Tryz.prog _ a1 w
 have adO:oD G (Dk.plain [dG bs bk] false) 33 (MN c b).obj J1 yD w (MN c b) a1 w:=by
  refine ⟨J1,yD,⟨S1.store,fun t=>?_,hs,by rw [hd,S1.defers.none rfl]; exact Marks.plain (Dk.plain [dG bs bk] false) w,trivial,S1.lim⟩,Ext.refl ..⟩
  by_cases h9:t=9
  ·subst h9; trivial
  ·rw [ht t h9]; exact S1.env t
 have hw:=QO (G:=G) c b hb hl
 generalize vi c b=q at *
 refine Lm (fin:=Gu c b q) (pan:=fun s=>q=none∧Jc s) VF ?_ adO ?_ ?_
 ·simp only [W] at hw
  refine oE _ _ ⟨W Tryz.prog G (Gu c b q) (rq q),fun i s'=>Wx Tryz.prog G (Gu c b q) i (rq q) s',Gu c b q,rV,none⟩ ⟨Gu c b q,fun i s=>i=ij∧(q=none∧Jc s),Gu c b q,rV,none⟩ (fun s h=>?_) (fun i s h=>?_) (fun s h=>h) hw
  ·cases q with
   | none=>simpa only [rq,W] using h
   | some s0=>simpa only [rq,W] using h
  ·cases q with
   | none=>
     simp only [rq,Wx] at h
     split at h
     ·rename_i hi; exact ⟨hi,rfl,h⟩
     ·exact h.elim
   | some s0=>simp only [rq,Wx] at h
 ·intro s a2 w2 Gl u7
  obtain ⟨J2,yC,S2,E2⟩:=Gl.ex
  cases q with
  | none=>exact u7.elim
  | some s0=>
  obtain ⟨g4,g5,Y0,cells,Z,ho1,ET,hZ,hR⟩:=u7
  have hL:Leaves Tryz.prog Tryz.f132 a2.tmps (fun e w'=>∃ v,e=Ending.returned v∧bn G (aC (List.map some [])) (aC (List.map some [])) J0 cu w0 (kR (some s0)) v w') a2.defers .returning w2:=by
   rw [S2.defers.none rfl]
   refine leaves_cons (by simp) (Db bs bk w2) ((JD _ _ w2).mono ?_)
   rintro e u' w' ⟨rfl,rfl,rfl⟩
   obtain ⟨v,hv1,IG⟩:=EA (r:=kR (some s0)) Z S2.store S2.env S0 (E1.trans E2) QS (rs:=[.agg cells,.bool true]) (by
    have:List.take 6 cells=cells:=List.take_of_length_le (by omega)
    simp [yB.of,RV.of,g4,g5,ho1,Y0,ET,this,LV.bool]) hZ (by
    simp [aV,kR,ah,ag,LV.bool]
    exact hR)
   exact ⟨v,hv1,v,rfl,IG⟩
  exact ⟨hL,hL⟩
 ·rintro v s a2 w2 hd2 ⟨J2,yC,S2,E2,adR⟩ ⟨rfl,hv,g4,g5,cells,x,ho1,ET,Y0⟩
  have hv:v=n_:=by simpa [j6,St.get,aY] using hv
  subst hv
  have g4:s.get 4=.ptr 1 0:=by simpa [j6,St.get,aY,ij] using g4
  have g5:s.get 5=.ptr 2 0:=by simpa [j6,St.get,aY,ij] using g5
  have ho1:s.obj 1=.live (.box 30 cells):=ho1
  have Y0:s.obj 2=.live (.box 4 [x]):=Y0
  have hb1:yC 1 0=some bs:=E2.ev.iy 1 0 bs RN
  have hb2:yC 2 0=some bk:=E2.ev.iy 2 0 bk hbk
  have r1:=S2.rep 1
  rw [ho1] at r1
  obtain ⟨⟨b1,C,k1,k2,k3⟩,_⟩:=r1
  rw [hb1] at k1; cases k1
  have r2:=S2.rep 2
  rw [Y0] at r2
  obtain ⟨⟨b2,C2,m1,m2,m3⟩,_⟩:=r2
  rw [hb2] at m1; cases m1
  have hC:C.size=6:=by have:=k3.length; simp at this; omega
  obtain ⟨C2⟩:=C2
  match C2,m3 with
  | [x2],_=>
  have hne:bs≠bk:=fun e=>by
   have:=S2.inj 1 2 bs (by rw [ho1]; exact hb1) (by rw [Y0,e]; exact hb2)
   cases this
  have hlen:2<s.af.length:=yQ Y0
  obtain ⟨J3,Zk,S3,_,E3⟩:=bn.box S2 (base:=s.af.length) (cW (Nat.le_refl _)) 275 [] #[] trivial
  obtain ⟨b1',j1,_,J4,ι4,S4,_,E4⟩:=bn.zA S3 (o:=1) (et:=30) (cells:=cells) (cs:=[kr,kr,.int 0,.int 0,.int 0,.int 0]) (vs:=lK.cells.toList) (col:=0) (by rw [if_neg (by omega)]; exact ho1)
   (by simp [bP,dz,iO,lK,kr,LV.int,Value.cells,Value.oneCell']) (by simp [ET])
  have e1:b1'=bs:=by have:=E3.ev.iy 1 0 bs hb1; rw [this] at j1; exact (Option.some.inj j1).symm
  subst e1
  obtain ⟨b2',j2,_,J5,ι5,S5,_,E5⟩:=bn.zA S4 (o:=2) (et:=4) (cells:=[x]) (cs:=[.bool false]) (vs:=[.bool false]) (col:=0) (by rw [if_neg (by omega),if_neg (by omega)]; exact Y0)
   (by simp [bP,dz,iO,LV.bool,Value.oneCell']) (by simp)
  have e2:b2'=bk:=by have:=E4.ev.iy 2 0 bk (E3.ev.iy 2 0 bk hb2); rw [this] at j2; exact (Option.some.inj j2).symm
  subst e2
  obtain ⟨s3,YV⟩:∃ s3:St,s3=⟨s.env,((s.af++[some (aG.box 275 [])]).set 1 (some (aG.box 30 (splice cells 0 [kr,kr,.int 0,.int 0,.int 0,.int 0])))).set 2 (some (aG.box 4 (splice [x] 0 [.bool false])))⟩:=⟨_,rfl⟩
  have BI:s3.obj=fun o=>if o=2 then .live (.box 4 (splice [x] 0 [.bool false])) else if o=1 then .live (.box 30 (splice cells 0 [kr,kr,.int 0,.int 0,.int 0,.int 0])) else if o=s.af.length then .live (.box 275 []) else s.obj o:=by
   subst YV
   exact (FH (by simp; omega) _).trans (by rw [FH (by simp; omega),lD]; rfl)
  have S5':aJ G J5 (((w2.alloc (.cells #[] 275)).setCells b1' 0 lK.cells.toList).setCells b2' 0 [.bool false]) ι5 s3.obj:=by rw [BI]; exact S5
  have E5':=E5
  rw [← BI] at E5'
  have h6:splice cells 0 [kr,kr,.int 0,.int 0,.int 0,.int 0]=[kr,kr,.int 0,.int 0,.int 0,.int 0]:=by
   simp only [splice,List.take_zero,List.nil_append,List.length_cons,List.length_nil]
   rw [List.drop_eq_nil_of_le (by omega),List.append_nil]
  have q1:s3.obj 1=.live (.box 30 [kr,kr,.int 0,.int 0,.int 0,.int 0]):=by rw [BI,h6]; rfl
  have q2:s3.obj 2=.live (.box 4 [.bool false]):=by rw [BI]; rfl
  have p4:s3.get 4=.ptr 1 0:=by subst YV; exact g4
  have p5:s3.get 5=.ptr 2 0:=by subst YV; exact g5
  have adQ:∀ t,dz J5 (((w2.alloc (.cells #[] 275)).setCells b1' 0 lK.cells.toList).setCells b2' 0 [.bool false]) ι5 (s3.get t) (a2.tmps.getD t Go.undef):=fun t=>by
   have:s3.get t=s.get t:=by subst YV; rfl
   rw [this]
   exact (((adR t).ev S2 E3.ev).ev S3 E4.ev).ev S4 E5.ev
  have hL:Leaves Tryz.prog Tryz.f132 a2.tmps (fun e w'=>∃ v,e=Ending.returned v∧bn G (aC (List.map some [])) (aC (List.map some [])) J0 cu w0 (kR none) v w') a2.defers (.panicking [{ v:=n_,recovered:=false }]) w2:=by
   rw [hd2 rfl]
   refine leaves_cons (by simp) (Db _ _ w2) ((No _ _ C x2 w2 k2 hC m2 hne).mono ?_)
   rintro e u' w' ⟨rfl,rfl,rfl⟩
   obtain ⟨v,hv1,IG⟩:=EA (r:=kR none) [] S5' adQ S0 ((((E1.trans E2).trans E3).trans E4).trans E5') QS (rs:=[.agg [kr,kr,.int 0,.int 0,.int 0,.int 0],.bool false]) (by
    simp [yB.of,RV.of,p4,p5,q1,q2,LV.bool]) (fun z hz=>by cases hz) (by
    simp [aV,kR,ah,ag,LV.bool,LV.int,xu,aX,kr,bS,cZ])
   exact ⟨v,hv1,v,rfl,IG⟩
  exact hL
end Dv
