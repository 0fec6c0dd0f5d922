/- part -/
import Derived.Test.YtkalnfkokkjliaaGreatDoorQA
import Derived.Test.YtkalnfkokkjliaaGreatDoorDD
import Derived.Test.YtkalnfkokkjliaaGreatDoorDF
set_option linter.all false
set_option maxHeartbeats 8000000
set_option maxRecDepth 100000
namespace Dv
open Go Go.Proofs
variable {G:Nat→Option (List DV)}
def WS:=qx Tryz.f327
theorem S8:aj Tryz.prog Tryz.f327=some WS:=by kernel_rfl
def WM:=qx Tryz.f350
theorem SX:aj Tryz.prog Tryz.f350=some WM:=by kernel_rfl
def WO:=qx Tryz.f337
theorem SZ:aj Tryz.prog Tryz.f337=some WO:=by kernel_rfl
def fG (s:aa):aG:=.box 30 [bS s.nodes,cZ s.jobs,.int s.goal,.int s.prior,.int s.mode,.int s.term]
theorem Pt {f:Nat→Bool} {k:Nat} {b:Bool} (h:f k=b):fF f (k+1)=if b=true then fF f k+2 ^ k else fF f k:=by rw [← h]; rfl
def OT (s:aa) (k:Nat):St:=⟨[(3,.int (fF (fun i=>mq (s.nodes.getD i ai)) k)),(7,bS s.nodes),(8,.int s.nodes.length),(9,.int k)],[some (fG s)]⟩
theorem wT (s:aa) (hn:s.nodes.length≤6):bu Tryz.prog G 327 [aX s] [] (.int (sS s)) []:=by
 refine bz Tryz.func327 (by decide) S8 rfl rfl ?_
 simp only [WS,go_sem]
 refine aW [3,7,8,9] [] (fun k:Nat=>k≤s.nodes.length) (fun k=>s.nodes.length-k) (OT s) 0 ?_ (Nat.zero_le _) (fun k hk=>?_)
 ·simp only [OT,fG,go_sem,fF,Int.natCast_zero]
 simp only [OT,fG,go_sem]
 by_cases hlt:k<s.nodes.length
 ·have hg:=aM (f:=bZ) ai hlt
  have hm:=Pt (f:=fun i=>mq (s.nodes.getD i ai)) (k:=k) (b:=mq (s.nodes.getD k ai)) rfl
  have ho:=Kq (fun i=>mq (s.nodes.getD i ai)) k (by omega)
  have hs1:=uu k (by omega)
  generalize s.nodes.getD k ai=n at hg hm
  simp only [bZ] at hg
  simp only [decide_eq_true (show ((k:Nat):Int)<((s.nodes.length:Nat):Int) by omega),hg,go_sem]
  refine av (Gw n) rfl rfl rfl rfl ?_; simp only [go_sem]
  cases hf:mq n with
  | true=>
    rw [hf,if_pos rfl,← ho] at hm
    simp only [hs1,go_sem]
    refine bh (k+1) ?_ ?_ (by omega) (by omega)
    ·simp only [go_sem]
    ·simp only [OT,fG,hm,aH (show k<9223372036854775807 by omega),go_sem]
  | false=>
    rw [hf,if_neg (by decide)] at hm
    simp only [go_sem]
    refine bh (k+1) ?_ ?_ (by omega) (by omega)
    ·simp only [go_sem]
    ·simp only [OT,fG,hm,aH (show k<9223372036854775807 by omega),go_sem]
 ·obtain rfl:k=s.nodes.length:=by omega
  simp only [decide_eq_false (show ¬ ((s.nodes.length:Nat):Int)<((s.nodes.length:Nat):Int) by omega),sS,go_sem]
def OG (s:aa) (set v:Int) (k:Nat):St:=⟨[(1,.int set),(2,.int v),(7,.int (fF (fun i=>kH set v i (s.nodes.getD i ai)) k)),(11,bS s.nodes),(12,.int s.nodes.length),(13,.int k)],[some (fG s)]⟩
theorem LQ (s:aa) (set v:Int) (hn:s.nodes.length≤6):bu Tryz.prog G 350 [aX s,.int set,.int v] [] (.int (fV s set v)) []:=by
 refine bz Tryz.func350 (by decide) SX rfl rfl ?_
 simp only [WM,go_sem]
 refine aW [1,2,7,11,12,13] [] (fun k:Nat=>k≤s.nodes.length) (fun k=>s.nodes.length-k) (OG s set v) 0 ?_ (Nat.zero_le _) (fun k hk=>?_)
 ·simp only [OG,fG,go_sem,fF,Int.natCast_zero]
 simp only [OG,fG,go_sem]
 by_cases hlt:k<s.nodes.length
 ·have hg:=aM (f:=bZ) ai hlt
  have hm:=Pt (f:=fun i=>kH set v i (s.nodes.getD i ai)) (k:=k) (b:=kH set v k (s.nodes.getD k ai)) rfl
  have ho:=Kq (fun i=>kH set v i (s.nodes.getD i ai)) k (by omega)
  have hs1:=uu k (by omega)
  have hb1:=JJ set k (by omega)
  generalize s.nodes.getD k ai=n at hg hm
  simp only [bZ] at hg
  have hrb:kH set v k n=(hasB set k&&n.up&&!n.cQ&&!n.bG&&decide (n.version=v)):=rfl
  obtain ⟨up,cQ,bG,version,aQ⟩:=n
  dsimp only at hg hrb
  simp only [decide_eq_true (show ((k:Nat):Int)<((s.nodes.length:Nat):Int) by omega),hg,hb1,go_sem]
  have yes:kH set v k ⟨up,cQ,bG,version,aQ⟩=true→fF (fun i=>kH set v i (s.nodes.getD i ai)) (k+1)=Cs .i64 (fF (fun i=>kH set v i (s.nodes.getD i ai)) k) (2 ^ k):=fun h=>by rw [hm,if_pos h,ho]
  have no:kH set v k ⟨up,cQ,bG,version,aQ⟩=false→fF (fun i=>kH set v i (s.nodes.getD i ai)) (k+1)=fF (fun i=>kH set v i (s.nodes.getD i ai)) k:=fun h=>by rw [hm,h,if_neg (by decide)]
  rw [hrb] at yes no
  cases hb:hasB set k <;> (try cases up) <;> (try cases cQ) <;> (try cases bG) <;> (try (by_cases hv:version=v)) <;> simp only [hb,hv,hs1,bne_self_eq_false,Bool.false_eq_true,false_implies,true_implies,beq_eq_false_iff_ne.2,ne_eq,not_false_eq_true,reduceCtorEq,go_sem] at yes no ⊢ <;>
   (refine bh (k+1) ?_ ?_ (by omega) (by omega)
    ·simp only [go_sem]
    ·first
     | (simp only [OG,fG,no,aH (show k<9223372036854775807 by omega),go_sem]; done)
     | simp only [OG,fG,yes,aH (show k<9223372036854775807 by omega),go_sem])
 ·obtain rfl:k=s.nodes.length:=by omega
  simp only [decide_eq_false (show ¬ ((s.nodes.length:Nat):Int)<((s.nodes.length:Nat):Int) by omega),fV,go_sem]
theorem Pw:∀ a:Fin 64,a.val≠0→(∃ b:Fin 64,rH .i64 (a.val:Int) (-(a.val:Int))=(b.val:Int))∧∃ c:Fin 64,gF .i64 (a.val:Int) (rH .i64 (a.val:Int) (-(a.val:Int)))=(c.val:Int)∧many (c.val:Int)+1=many (a.val:Int):=by decide +kernel
theorem Mh:∀ a:Fin 64,many (a.val:Int)=0→a.val=0:=by decide +kernel
theorem LJ:gq 0:=⟨by decide,by decide⟩
def SO (a:Nat×Int×Int×Int):St:=⟨[(0,.int a.2.1),(1,.int a.2.2.1),(5,.int a.2.2.2)],[]⟩
theorem Im (set most:Int) (hs:gq set) (hm:0≤most∧most≤1000):bu Tryz.prog G 337 [.int set,.int most] [] (.int (wC 6 (set,most,0))) []:=by
 refine bz Tryz.func337 (by decide) SZ rfl rfl ?_
 simp only [WO,go_sem]
 generalize hR:wC 6 (set,most,0)=R
 refine aW [0,1,5] [] (fun a:Nat×Int×Int×Int=>gq a.2.1∧gq a.2.2.2∧many a.2.1≤a.1∧(0≤a.2.2.1∧a.2.2.1≤1000)∧wC a.1 a.2=R) (fun a=>a.1) SO (6,set,most,0) ?_ ⟨hs,LJ,(FW set).2,hm,hR⟩ ?_
 ·simp only [SO,go_sem]
 rintro ⟨f,p,m,out⟩ ⟨h1,h2,h3,h4,h5⟩
 dsimp only at h1 h2 h3 h4 h5
 simp only [SO,go_sem]
 obtain ⟨n,rfl,hn⟩:=h1.nat
 by_cases hz:n=0
 ·subst hz
  have:R=out:=by rw [← h5]; cases f with | zero=>rfl | succ f=>rw [wC,if_neg (by simp)]
  subst this
  simp only [Int.natCast_zero,bne_self_eq_false,go_sem]
 by_cases hm0:0<m
 case neg=>
  have:R=out:=by rw [← h5]; cases f with | zero=>rfl | succ f=>rw [wC,if_neg (fun h=>hm0 h.2)]
  subst this
  simp only [show ((n:Int) !=0)=true from bne_iff_ne.2 (by omega),decide_eq_false (show ¬ m>0 by omega),go_sem]
 obtain ⟨⟨b,hb⟩,c,hc,hmc⟩:=Pw ⟨n,hn⟩ hz
 dsimp only at hb hc hmc
 have hwn:IntKind.i64.wrap (0-(n:Int)) = -(n:Int):=by rw [aO (by omega) (by omega)]; omega
 have hwm:IntKind.i64.wrap (m-1)=m-1:=aO (by omega) (by omega)
 cases f with
 | zero=>
   have h0:=FW (n:Int)
   exact absurd (Mh ⟨n,hn⟩ (show many (n:Int)=0 by omega)) hz
 | succ f=>
   have hst:wC f (yU ((n:Int),m,out))=R:=by rw [← h5,wC,if_pos ⟨by dsimp only; omega,hm0⟩]
   have e:yU ((n:Int),m,out)=((c.val:Int),m-1,Cs .i64 out (b.val:Int)):=by unfold yU; dsimp only; rw [hc,hb]
   rw [e] at hst
   have YW:=(Wz h2 (⟨by omega,by omega⟩:gq (b.val:Int))).1
   simp only [show ((n:Int) !=0)=true from bne_iff_ne.2 (by omega),decide_eq_true (show m>0 by omega),hwn,hwm,hb,go_sem]
   rw [hb] at hc
   refine bh (f,(c.val:Int),m-1,Cs .i64 out (b.val:Int)) ?_ ?_ ⟨⟨by dsimp only; omega,by dsimp only; omega⟩,YW,by dsimp only; omega,by dsimp only; omega,hst⟩ (by dsimp only; omega)
   ·simp only [go_sem]
   ·simp only [SO,hc,go_sem]
end Dv
namespace Dv
open Go Go.Proofs
variable {G:Nat→Option (List DV)}
theorem EX:∀ k:Fin 9,Lq.take (k.val+1)=Lq.take k.val++[((k.val+1:Nat):Int)]:=by decide
end Dv
