/- part -/
import Derived.Test.YtkalnfkokkjliaaGreatDoorQA
import Derived.Test.YtkalnfkokkjliaaGreatDoorDD
import Derived.Test.YtkalnfkokkjliaaGreatDoorDF
set_option linter.all false
set_option maxHeartbeats 8000000
set_option maxRecDepth 100000
namespace Dv
open Go Go.Proofs
variable {G:Nat→Option (List DV)}
def VF:=qx Tryz.f327
theorem R9:aj Tryz.prog Tryz.f327=some VF:=by kernel_rfl
def VA:=qx Tryz.f350
theorem R4:aj Tryz.prog Tryz.f350=some VA:=by kernel_rfl
def VC:=qx Tryz.f337
theorem R6:aj Tryz.prog Tryz.f337=some VC:=by kernel_rfl
def fk (s:aa):aC:=.box 30 [bS s.nodes,de s.jobs,.int s.goal,.int s.prior,.int s.mode,.int s.term]
theorem OB {f:Nat→Bool} {k:Nat} {b:Bool} (h:f k=b):fh f (k+1)=if b=true then fh f k+2 ^ k else fh f k:=by rw [← h]; rfl
def NT (s:aa) (k:Nat):St:=⟨[(3,.int (fh (fun i=>lM (s.nodes.getD i ai)) k)),(7,bS s.nodes),(8,.int s.nodes.length),(9,.int k)],[some (fk s)]⟩
theorem vX (s:aa) (hn:s.nodes.length≤6):bh Tryz.prog G 327 [aY s] [] (.int (rY s)) []:=by
 refine bn Tryz.func327 (by decide) R9 rfl rfl ?_
 simp only [VF,go_sem]
 refine aR [3,7,8,9] [] (fun k:Nat=>k≤s.nodes.length) (fun k=>s.nodes.length-k) (NT s) 0 ?_ (Nat.zero_le _) (fun k hk=>?_)
 ·simp only [NT,fk,go_sem,fh,Int.natCast_zero]
 simp only [NT,fk,go_sem]
 by_cases hlt:k<s.nodes.length
 ·have hg:=aK (f:=bX) ai hlt
  have hm:=OB (f:=fun i=>lM (s.nodes.getD i ai)) (k:=k) (b:=lM (s.nodes.getD k ai)) rfl
  have ho:=Jv (fun i=>lM (s.nodes.getD i ai)) k (by omega)
  have hs1:=tM k (by omega)
  generalize s.nodes.getD k ai=n at hg hm
  simp only [bX] at hg
  simp only [decide_eq_true (show ((k:Nat):Int)<((s.nodes.length:Nat):Int) by omega),hg,go_sem]
  refine ax (FI n) rfl rfl rfl rfl ?_; simp only [go_sem]
  cases hf:lM n with
  | true=>
    rw [hf,if_pos rfl,← ho] at hm
    simp only [hs1,go_sem]
    refine bg (k+1) ?_ ?_ (by omega) (by omega)
    ·simp only [go_sem]
    ·simp only [NT,fk,hm,aG (show k<9223372036854775807 by omega),go_sem]
  | false=>
    rw [hf,if_neg (by decide)] at hm
    simp only [go_sem]
    refine bg (k+1) ?_ ?_ (by omega) (by omega)
    ·simp only [go_sem]
    ·simp only [NT,fk,hm,aG (show k<9223372036854775807 by omega),go_sem]
 ·obtain rfl:k=s.nodes.length:=by omega
  simp only [decide_eq_false (show ¬ ((s.nodes.length:Nat):Int)<((s.nodes.length:Nat):Int) by omega),rY,go_sem]
def NF (s:aa) (set v:Int) (k:Nat):St:=⟨[(1,.int set),(2,.int v),(7,.int (fh (fun i=>kn set v i (s.nodes.getD i ai)) k)),(11,bS s.nodes),(12,.int s.nodes.length),(13,.int k)],[some (fk s)]⟩
theorem KZ (s:aa) (set v:Int) (hn:s.nodes.length≤6):bh Tryz.prog G 350 [aY s,.int set,.int v] [] (.int (fI s set v)) []:=by
 refine bn Tryz.func350 (by decide) R4 rfl rfl ?_
 simp only [VA,go_sem]
 refine aR [1,2,7,11,12,13] [] (fun k:Nat=>k≤s.nodes.length) (fun k=>s.nodes.length-k) (NF s set v) 0 ?_ (Nat.zero_le _) (fun k hk=>?_)
 ·simp only [NF,fk,go_sem,fh,Int.natCast_zero]
 simp only [NF,fk,go_sem]
 by_cases hlt:k<s.nodes.length
 ·have hg:=aK (f:=bX) ai hlt
  have hm:=OB (f:=fun i=>kn set v i (s.nodes.getD i ai)) (k:=k) (b:=kn set v k (s.nodes.getD k ai)) rfl
  have ho:=Jv (fun i=>kn set v i (s.nodes.getD i ai)) k (by omega)
  have hs1:=tM k (by omega)
  have hb1:=II set k (by omega)
  generalize s.nodes.getD k ai=n at hg hm
  simp only [bX] at hg
  have hrb:kn set v k n=(hasB set k&&n.up&&!n.cF&&!n.bw&&decide (n.version=v)):=rfl
  obtain ⟨up,cF,bw,version,aM⟩:=n
  dsimp only at hg hrb
  simp only [decide_eq_true (show ((k:Nat):Int)<((s.nodes.length:Nat):Int) by omega),hg,hb1,go_sem]
  have yes:kn set v k ⟨up,cF,bw,version,aM⟩=true→fh (fun i=>kn set v i (s.nodes.getD i ai)) (k+1)=BK .i64 (fh (fun i=>kn set v i (s.nodes.getD i ai)) k) (2 ^ k):=fun h=>by rw [hm,if_pos h,ho]
  have no:kn set v k ⟨up,cF,bw,version,aM⟩=false→fh (fun i=>kn set v i (s.nodes.getD i ai)) (k+1)=fh (fun i=>kn set v i (s.nodes.getD i ai)) k:=fun h=>by rw [hm,h,if_neg (by decide)]
  rw [hrb] at yes no
  cases hb:hasB set k <;> (try cases up) <;> (try cases cF) <;> (try cases bw) <;> (try (by_cases hv:version=v)) <;> simp only [hb,hv,hs1,bne_self_eq_false,Bool.false_eq_true,false_implies,true_implies,beq_eq_false_iff_ne.2,ne_eq,not_false_eq_true,reduceCtorEq,go_sem] at yes no ⊢ <;>
   (refine bg (k+1) ?_ ?_ (by omega) (by omega)
    ·simp only [go_sem]
    ·first
     | (simp only [NF,fk,no,aG (show k<9223372036854775807 by omega),go_sem]; done)
     | simp only [NF,fk,yes,aG (show k<9223372036854775807 by omega),go_sem])
 ·obtain rfl:k=s.nodes.length:=by omega
  simp only [decide_eq_false (show ¬ ((s.nodes.length:Nat):Int)<((s.nodes.length:Nat):Int) by omega),fI,go_sem]
theorem OE:∀ a:Fin 64,a.val≠0→(∃ b:Fin 64,qL .i64 (a.val:Int) (-(a.val:Int))=(b.val:Int))∧∃ c:Fin 64,gr .i64 (a.val:Int) (qL .i64 (a.val:Int) (-(a.val:Int)))=(c.val:Int)∧many (c.val:Int)+1=many (a.val:Int):=by decide +kernel
theorem Lr:∀ a:Fin 64,many (a.val:Int)=0→a.val=0:=by decide +kernel
theorem KP:fS 0:=⟨by decide,by decide⟩
def RU (a:Nat×Int×Int×Int):St:=⟨[(0,.int a.2.1),(1,.int a.2.2.1),(5,.int a.2.2.2)],[]⟩
theorem Hi (set most:Int) (hs:fS set) (hm:0≤most∧most≤1000):bh Tryz.prog G 337 [.int set,.int most] [] (.int (vN 6 (set,most,0))) []:=by
 refine bn Tryz.func337 (by decide) R6 rfl rfl ?_
 simp only [VC,go_sem]
 generalize hR:vN 6 (set,most,0)=R
 refine aR [0,1,5] [] (fun a:Nat×Int×Int×Int=>fS a.2.1∧fS a.2.2.2∧many a.2.1≤a.1∧(0≤a.2.2.1∧a.2.2.1≤1000)∧vN a.1 a.2=R) (fun a=>a.1) RU (6,set,most,0) ?_ ⟨hs,KP,(EZ set).2,hm,hR⟩ ?_
 ·simp only [RU,go_sem]
 rintro ⟨f,p,m,out⟩ ⟨h1,h2,h3,h4,h5⟩
 dsimp only at h1 h2 h3 h4 h5
 simp only [RU,go_sem]
 obtain ⟨n,rfl,hn⟩:=h1.nat
 by_cases hz:n=0
 ·subst hz
  have:R=out:=by rw [← h5]; cases f with | zero=>rfl | succ f=>rw [vN,if_neg (by simp)]
  subst this
  simp only [Int.natCast_zero,bne_self_eq_false,go_sem]
 by_cases hm0:0<m
 case neg=>
  have:R=out:=by rw [← h5]; cases f with | zero=>rfl | succ f=>rw [vN,if_neg (fun h=>hm0 h.2)]
  subst this
  simp only [show ((n:Int) !=0)=true from bne_iff_ne.2 (by omega),decide_eq_false (show ¬ m>0 by omega),go_sem]
 obtain ⟨⟨b,hb⟩,c,hc,hmc⟩:=OE ⟨n,hn⟩ hz
 dsimp only at hb hc hmc
 have hwn:IntKind.i64.wrap (0-(n:Int)) = -(n:Int):=by rw [aL (by omega) (by omega)]; omega
 have hwm:IntKind.i64.wrap (m-1)=m-1:=aL (by omega) (by omega)
 cases f with
 | zero=>
   have h0:=EZ (n:Int)
   exact absurd (Lr ⟨n,hn⟩ (show many (n:Int)=0 by omega)) hz
 | succ f=>
   have hst:vN f (ya ((n:Int),m,out))=R:=by rw [← h5,vN,if_pos ⟨by dsimp only; omega,hm0⟩]
   have e:ya ((n:Int),m,out)=((c.val:Int),m-1,BK .i64 out (b.val:Int)):=by unfold ya; dsimp only; rw [hc,hb]
   rw [e] at hst
   have Pf:=(Vq h2 (⟨by omega,by omega⟩:fS (b.val:Int))).1
   simp only [show ((n:Int) !=0)=true from bne_iff_ne.2 (by omega),decide_eq_true (show m>0 by omega),hwn,hwm,hb,go_sem]
   rw [hb] at hc
   refine bg (f,(c.val:Int),m-1,BK .i64 out (b.val:Int)) ?_ ?_ ⟨⟨by dsimp only; omega,by dsimp only; omega⟩,Pf,by dsimp only; omega,by dsimp only; omega,hst⟩ (by dsimp only; omega)
   ·simp only [go_sem]
   ·simp only [RU,hc,go_sem]
end Dv
namespace Dv
open Go Go.Proofs
variable {G:Nat→Option (List DV)}
theorem DW:∀ k:Fin 9,Kx.take (k.val+1)=Kx.take k.val++[((k.val+1:Nat):Int)]:=by decide
end Dv
