/- part -/
import Derived.Test.YtkalnfkokkjliaaGreatDoorQA
import Derived.Test.YtkalnfkokkjliaaGreatDoorDD
import Derived.Test.YtkalnfkokkjliaaGreatDoorDF
set_option linter.all false
set_option maxHeartbeats 8000000
set_option maxRecDepth 100000
namespace Dv
open Go Go.Proofs
variable {G:Nat→Option (List DV)}
def Wn:=qx Tryz.f327
theorem SM:aj Tryz.prog Tryz.f327=some Wn:=by kernel_rfl
def Wi:=qx Tryz.f350
theorem SH:aj Tryz.prog Tryz.f350=some Wi:=by kernel_rfl
def Wk:=qx Tryz.f337
theorem SJ:aj Tryz.prog Tryz.f337=some Wk:=by kernel_rfl
def fE (s:aa):aH:=.box 30 [bO s.nodes,cO s.jobs,.int s.goal,.int s.prior,.int s.mode,.int s.term]
theorem O_ {f:Nat→Bool} {k:Nat} {b:Bool} (h:f k=b):fD f (k+1)=if b=true then fD f k+2 ^ k else fD f k:=by rw [← h]; rfl
def OC (s:aa) (k:Nat):St:=⟨[(3,.int (fD (fun i=>me (s.nodes.getD i ai)) k)),(7,bO s.nodes),(8,.int s.nodes.length),(9,.int k)],[some (fE s)]⟩
theorem wv (s:aa) (hn:s.nodes.length≤6):bw Tryz.prog G 327 [aY s] [] (.int (sF s)) []:=by
 refine br Tryz.func327 (by decide) SM rfl rfl ?_
 simp only [Wn,go_sem]
 refine aW [3,7,8,9] [] (fun k:Nat=>k≤s.nodes.length) (fun k=>s.nodes.length-k) (OC s) 0 ?_ (Nat.zero_le _) (fun k hk=>?_)
 ·simp only [OC,fE,go_sem,fD,Int.natCast_zero]
 simp only [OC,fE,go_sem]
 by_cases hlt:k<s.nodes.length
 ·have hg:=aJ (f:=bY) ai hlt
  have hm:=O_ (f:=fun i=>me (s.nodes.getD i ai)) (k:=k) (b:=me (s.nodes.getD k ai)) rfl
  have ho:=J9 (fun i=>me (s.nodes.getD i ai)) k (by omega)
  have hs1:=tZ k (by omega)
  generalize s.nodes.getD k ai=n at hg hm
  simp only [bY] at hg
  simp only [decide_eq_true (show ((k:Nat):Int)<((s.nodes.length:Nat):Int) by omega),hg,go_sem]
  refine ay (Gh n) rfl rfl rfl rfl ?_; simp only [go_sem]
  cases hf:me n with
  | true=>
    rw [hf,if_pos rfl,← ho] at hm
    simp only [hs1,go_sem]
    refine a_ (k+1) ?_ ?_ (by omega) (by omega)
    ·simp only [go_sem]
    ·simp only [OC,fE,hm,aG (show k<9223372036854775807 by omega),go_sem]
  | false=>
    rw [hf,if_neg (by decide)] at hm
    simp only [go_sem]
    refine a_ (k+1) ?_ ?_ (by omega) (by omega)
    ·simp only [go_sem]
    ·simp only [OC,fE,hm,aG (show k<9223372036854775807 by omega),go_sem]
 ·obtain rfl:k=s.nodes.length:=by omega
  simp only [decide_eq_false (show ¬ ((s.nodes.length:Nat):Int)<((s.nodes.length:Nat):Int) by omega),sF,go_sem]
def Om (s:aa) (set v:Int) (k:Nat):St:=⟨[(1,.int set),(2,.int v),(7,.int (fD (fun i=>kA set v i (s.nodes.getD i ai)) k)),(11,bO s.nodes),(12,.int s.nodes.length),(13,.int k)],[some (fE s)]⟩
theorem LA (s:aa) (set v:Int) (hn:s.nodes.length≤6):bw Tryz.prog G 350 [aY s,.int set,.int v] [] (.int (fS s set v)) []:=by
 refine br Tryz.func350 (by decide) SH rfl rfl ?_
 simp only [Wi,go_sem]
 refine aW [1,2,7,11,12,13] [] (fun k:Nat=>k≤s.nodes.length) (fun k=>s.nodes.length-k) (Om s set v) 0 ?_ (Nat.zero_le _) (fun k hk=>?_)
 ·simp only [Om,fE,go_sem,fD,Int.natCast_zero]
 simp only [Om,fE,go_sem]
 by_cases hlt:k<s.nodes.length
 ·have hg:=aJ (f:=bY) ai hlt
  have hm:=O_ (f:=fun i=>kA set v i (s.nodes.getD i ai)) (k:=k) (b:=kA set v k (s.nodes.getD k ai)) rfl
  have ho:=J9 (fun i=>kA set v i (s.nodes.getD i ai)) k (by omega)
  have hs1:=tZ k (by omega)
  have hb1:=Jq set k (by omega)
  generalize s.nodes.getD k ai=n at hg hm
  simp only [bY] at hg
  have hrb:kA set v k n=(hasB set k&&n.up&&!n.cL&&!n.bC&&decide (n.version=v)):=rfl
  obtain ⟨up,cL,bC,version,aQ⟩:=n
  dsimp only at hg hrb
  simp only [decide_eq_true (show ((k:Nat):Int)<((s.nodes.length:Nat):Int) by omega),hg,hb1,go_sem]
  have yes:kA set v k ⟨up,cL,bC,version,aQ⟩=true→fD (fun i=>kA set v i (s.nodes.getD i ai)) (k+1)=B9 .i64 (fD (fun i=>kA set v i (s.nodes.getD i ai)) k) (2 ^ k):=fun h=>by rw [hm,if_pos h,ho]
  have no:kA set v k ⟨up,cL,bC,version,aQ⟩=false→fD (fun i=>kA set v i (s.nodes.getD i ai)) (k+1)=fD (fun i=>kA set v i (s.nodes.getD i ai)) k:=fun h=>by rw [hm,h,if_neg (by decide)]
  rw [hrb] at yes no
  cases hb:hasB set k <;> (try cases up) <;> (try cases cL) <;> (try cases bC) <;> (try (by_cases hv:version=v)) <;> simp only [hb,hv,hs1,bne_self_eq_false,Bool.false_eq_true,false_implies,true_implies,beq_eq_false_iff_ne.2,ne_eq,not_false_eq_true,reduceCtorEq,go_sem] at yes no ⊢ <;>
   (refine a_ (k+1) ?_ ?_ (by omega) (by omega)
    ·simp only [go_sem]
    ·first
     | (simp only [Om,fE,no,aG (show k<9223372036854775807 by omega),go_sem]; done)
     | simp only [Om,fE,yes,aG (show k<9223372036854775807 by omega),go_sem])
 ·obtain rfl:k=s.nodes.length:=by omega
  simp only [decide_eq_false (show ¬ ((s.nodes.length:Nat):Int)<((s.nodes.length:Nat):Int) by omega),fS,go_sem]
theorem Pc:∀ a:Fin 64,a.val≠0→(∃ b:Fin 64,ry .i64 (a.val:Int) (-(a.val:Int))=(b.val:Int))∧∃ c:Fin 64,gz .i64 (a.val:Int) (ry .i64 (a.val:Int) (-(a.val:Int)))=(c.val:Int)∧many (c.val:Int)+1=many (a.val:Int):=by decide +kernel
theorem LY:∀ a:Fin 64,many (a.val:Int)=0→a.val=0:=by decide +kernel
theorem Lr:gj 0:=⟨by decide,by decide⟩
def Sz (a:Nat×Int×Int×Int):St:=⟨[(0,.int a.2.1),(1,.int a.2.2.1),(5,.int a.2.2.2)],[]⟩
theorem HX (set most:Int) (hs:gj set) (hm:0≤most∧most≤1000):bw Tryz.prog G 337 [.int set,.int most] [] (.int (vW 6 (set,most,0))) []:=by
 refine br Tryz.func337 (by decide) SJ rfl rfl ?_
 simp only [Wk,go_sem]
 generalize hR:vW 6 (set,most,0)=R
 refine aW [0,1,5] [] (fun a:Nat×Int×Int×Int=>gj a.2.1∧gj a.2.2.2∧many a.2.1≤a.1∧(0≤a.2.2.1∧a.2.2.1≤1000)∧vW a.1 a.2=R) (fun a=>a.1) Sz (6,set,most,0) ?_ ⟨hs,Lr,(FG set).2,hm,hR⟩ ?_
 ·simp only [Sz,go_sem]
 rintro ⟨f,p,m,out⟩ ⟨h1,h2,h3,h4,h5⟩
 dsimp only at h1 h2 h3 h4 h5
 simp only [Sz,go_sem]
 obtain ⟨n,rfl,hn⟩:=h1.nat
 by_cases hz:n=0
 ·subst hz
  have:R=out:=by rw [← h5]; cases f with | zero=>rfl | succ f=>rw [vW,if_neg (by simp)]
  subst this
  simp only [Int.natCast_zero,bne_self_eq_false,go_sem]
 by_cases hm0:0<m
 case neg=>
  have:R=out:=by rw [← h5]; cases f with | zero=>rfl | succ f=>rw [vW,if_neg (fun h=>hm0 h.2)]
  subst this
  simp only [show ((n:Int) !=0)=true from bne_iff_ne.2 (by omega),decide_eq_false (show ¬ m>0 by omega),go_sem]
 obtain ⟨⟨b,hb⟩,c,hc,hmc⟩:=Pc ⟨n,hn⟩ hz
 dsimp only at hb hc hmc
 have hwn:IntKind.i64.wrap (0-(n:Int)) = -(n:Int):=by rw [aN (by omega) (by omega)]; omega
 have hwm:IntKind.i64.wrap (m-1)=m-1:=aN (by omega) (by omega)
 cases f with
 | zero=>
   have h0:=FG (n:Int)
   exact absurd (LY ⟨n,hn⟩ (show many (n:Int)=0 by omega)) hz
 | succ f=>
   have hst:vW f (yy ((n:Int),m,out))=R:=by rw [← h5,vW,if_pos ⟨by dsimp only; omega,hm0⟩]
   have e:yy ((n:Int),m,out)=((c.val:Int),m-1,B9 .i64 out (b.val:Int)):=by unfold yy; dsimp only; rw [hc,hb]
   rw [e] at hst
   have Yy:=(V_ h2 (⟨by omega,by omega⟩:gj (b.val:Int))).1
   simp only [show ((n:Int) !=0)=true from bne_iff_ne.2 (by omega),decide_eq_true (show m>0 by omega),hwn,hwm,hb,go_sem]
   rw [hb] at hc
   refine a_ (f,(c.val:Int),m-1,B9 .i64 out (b.val:Int)) ?_ ?_ ⟨⟨by dsimp only; omega,by dsimp only; omega⟩,Yy,by dsimp only; omega,by dsimp only; omega,hst⟩ (by dsimp only; omega)
   ·simp only [go_sem]
   ·simp only [Sz,hc,go_sem]
end Dv
namespace Dv
open Go Go.Proofs
variable {G:Nat→Option (List DV)}
theorem EF:∀ k:Fin 9,La.take (k.val+1)=La.take k.val++[((k.val+1:Nat):Int)]:=by decide
end Dv
