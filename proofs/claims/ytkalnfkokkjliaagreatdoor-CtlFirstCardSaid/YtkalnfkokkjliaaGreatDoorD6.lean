/- wave.Next. -/
import Derived.Test.YtkalnfkokkjliaaGreatDoorD5
set_option linter.unusedVariables false
set_option linter.unusedSimpArgs false
namespace Dv
open Go Go.Proofs
variable {G:Nat→Option (List DV)}
def Iz:Nat→Nat
 | 0=>286
 | 1=>287
 | _=>288
def x7 (c:aH) (s:aa) (now:Int):Nat→bK→Int→Option cH
 | 0=>Jk s
 | 1=>mF c s now
 | _=>yg c s
def tell (c:aH) (s:aa) (now:Int) (i:Nat) (n:bK) (k:Nat):cH×Bool:=match i with
 | 0=>(⟨17,k,0,0,0,0,0⟩,EY s n)
 | 1=>((mF c s now n k).getD gh,(mF c s now n k).isSome)
 | _=>(⟨16,k,0,0,0,0,0⟩,EN c s n)
theorem Iy (c:aH) (s:aa) (now:Int) (i:Nat) (n:bK) (k:Nat):x7 c s now i n k=if (tell c s now i n k).2=true then some (tell c s now i n k).1 else none:=by
 match i with
 | 0=>rfl
 | 1=>simp only [x7,tell]; cases mF c s now n k <;> rfl
 | i+2=>rfl
theorem Iw (c:aH) (s:aa) (now:Int) (i k:Nat) (hs:NJ s) (hk:k<s.nodes.length) (h1:-1000000000≤now+c.deadline∧now+c.deadline≤1000000000) :
  bw Tryz.prog G (Iz i) [j_ c s now,.int k] [] (.dP [uN (tell c s now i (s.nodes.getD k ag) k).1,.bool (tell c s now i (s.nodes.getD k ag) k).2]) []:=by
 match i with
 | 0=>exact Jj c s now k hs hk
 | 1=>exact HN c s now k hs hk h1
 | i+2=>exact IJ c s now k hs hk
def vz (c:aH) (s:aa) (now:Int):Nat→Option cH
 | 0=>match gj (Jk s) s.nodes 0 with
   | some o=>some o
   | none=>match gj (mF c s now) s.nodes 0 with
     | some o=>some o
     | none=>gj (yg c s) s.nodes 0
 | 1=>match gj (mF c s now) s.nodes 0 with
   | some o=>some o
   | none=>gj (yg c s) s.nodes 0
 | 2=>gj (yg c s) s.nodes 0
 | _=>none
theorem I6 (c:aH) (s:aa) (now:Int) (i:Nat) (hi:i<3):vz c s now i=match gj (x7 c s now i) s.nodes 0 with | some o=>some o | none=>vz c s now (i+1):=by
 match i,hi with
 | 0,_=>rfl
 | 1,_=>rfl
 | 2,_=>simp only [vz,x7]; cases gj (yg c s) s.nodes 0 <;> rfl
def KV (c:aH) (s:aa) (now:Int):List LV:=[.fn (.func 286) [j_ c s now] [],.fn (.func 287) [j_ c s now] [],.fn (.func 288) [j_ c s now] []]
theorem KU (c:aH) (s:aa) (now:Int) (i:Nat) (hi:i<3):((KV c s now).drop (i*1)).take 1=[.fn (.func (Iz i)) [j_ c s now] []]:=by
 match i,hi with
 | 0,_=>rfl
 | 1,_=>rfl
 | 2,_=>rfl
def Ir (c:aH) (s:aa) (now:Int):List LV:=[.int c.nodes,.int c.bG,.int c.cD,.int c.wave,.int c.b_,.int c.eE,.int c.deadline,.int c.room,.int c.fG,bZ s.nodes,dg s.jobs,.int s.goal,.int s.prior,.int s.mode,.int s.term,.int now]
def iS (c:aH) (s:aa) (now:Int):List (Option aD):=[some (.box 23 [.int c.nodes,.int c.bG,.int c.cD,.int c.wave,.int c.b_,.int c.eE,.int c.deadline,.int c.room,.int c.fG]),some (.box 30 [bZ s.nodes,dg s.jobs,.int s.goal,.int s.prior,.int s.mode,.int s.term]),some (.box 37 [.int 0,.int 0,.int 0,.int 0,.int 0,.int 0,.int 0]),some (.box 326 (Ir c s now))]
def E_ (c:aH) (s:aa) (now:Int) (i:Nat):St:=⟨[(4,.ptr 1 0),(6,.ptr 2 0),(7,.bool false),(31,.agg (KV c s now)),(32,.int i)],iS c s now⟩
def zP (c:aH) (s:aa) (now:Int) (i k:Nat):St:=⟨[(4,.ptr 1 0),(6,.ptr 2 0),(7,.bool false),(10,.ptr 4 0),(31,.agg (KV c s now)),(32,.int i),(37,.int s.nodes.length),(38,.int k)],iS c s now++[some (.box 328 [.fn (.func (Iz i)) [j_ c s now] []])]⟩
theorem JB (c:aH) (s:aa) (now:Int) (hs:NJ s) (h1:-1000000000≤now+c.deadline∧now+c.deadline≤1000000000):bw Tryz.prog G 246 [gK c,bp s,.int now] [] (gV (Br c s now)) []:=by
 refine bn Tryz.func246 (by decide) Nd rfl rfl ?_
 unfold Br
 simp only [QH,go_sem,simprocAttr]
 cases hm:(s.mode==1) with
 | true=>
   have hm':s.mode=1:=by simpa using hm
   simp only [hm',go_sem,simprocAttr,gV,Option.getD_none,Option.isSome_none]
 | false=>
 have hm':¬ s.mode=1:=by simpa using hm
 rw [if_neg hm']
 show W Tryz.prog G (Ends [.cn 6 7,.t 7] (gV (vz c s now 0))) _ _
 generalize hr:vz c s now 0=r
 simp only [go_sem,simprocAttr]
 have hn:=hs.nodes
 refine aY [4,6,7,31,32] [] (fun i:Nat=>i≤3∧vz c s now i=r) (fun i=>3-i) (E_ c s now) 0 ?_ ⟨by omega,hr⟩ ?_
 ·simp only [E_,iS,KV,Ir,j_,go_sem,simprocAttr,Int.natCast_zero]
 clear hr
 rintro i ⟨hi,hr⟩
 simp only [E_,iS,go_sem,simprocAttr]
 cases hlt:decide ((i:Int)<3) with
 | false=>
   have h3:i=3:=by have:=of_decide_eq_false hlt; omega
   subst h3
   simp only [vz] at hr
   simp only [← hr,go_sem,simprocAttr,gV,Option.getD_none,Option.isSome_none]
 | true=>
 have h3:i<3:=by have:=of_decide_eq_true hlt; omega
 rw [I6 c s now i h3] at hr
 have hg:=KU c s now i h3
 simp only [go_sem,simprocAttr,hg,h3]
 have hv:∀ m,dZ m (j_ c s now)=true:=fun m=>rfl
 have hl:∀ m,ej m (Ir c s now)=true:=fun m=>rfl
 have hf:∀ m,ej m (KV c s now)=true:=fun m=>rfl
 generalize OZ:gj (x7 c s now i) s.nodes 0=q at hr
 refine aY [4,6,7,10,31,32,37,38] [] (fun k:Nat=>k≤s.nodes.length∧gj (x7 c s now i) (s.nodes.drop k) k=q) (fun k=>s.nodes.length-k) (zP c s now i) 0 ?_ ⟨Nat.zero_le _,OZ⟩ ?_
 ·simp only [zP,iS,go_sem,simprocAttr,Int.natCast_zero]
 clear OZ
 rintro k ⟨hk,hF⟩
 simp only [zP,iS,go_sem,simprocAttr]
 refine bg (fun h=>?_) (fun h=>?_)
 ·have h:=dX h
  rw [List.drop_eq_getElem_cons h,gj,Iy] at hF
  simp only [go_sem,simprocAttr]
  refine aC (Iw c s now i k hs h h1) rfl rfl (by rfl) rfl ?_
  rw [show s.nodes.getD k ag=s.nodes[k] by simp [List.getD,h]]
  generalize tell c s now i s.nodes[k] k=p at *
  obtain ⟨⟨o1,o2,o3,o4,o5,o6,o7⟩,b⟩:=p
  simp only [go_sem,simprocAttr]
  cases b with
  | true=>
    simp only [if_true] at hF
    subst hF
    subst hr
    simp only [go_sem,simprocAttr,gV,Option.getD_some,Option.isSome_some]
  | false=>
    simp only [Bool.false_eq_true,if_false] at hF
    simp only [go_sem,simprocAttr]
    refine bz (k+1) ?_ ?_ ⟨h,hF⟩ (by omega)
    ·simp only [go_sem,simprocAttr,hv,hl,hf]
    ·simp only [zP,iS,go_sem,simprocAttr,aG (show k<9223372036854775807 by omega)]
 ·obtain rfl:=d_ h hk
  rw [List.drop_length,gj] at hF
  subst hF
  simp only [go_sem,simprocAttr]
  refine bz (i+1) ?_ ?_ ⟨h3,hr⟩ (by omega)
  ·simp only [go_sem,simprocAttr,hl,hf]
  ·simp only [E_,iS,go_sem,simprocAttr,aG (show i<9223372036854775807 by omega)]
end Dv
