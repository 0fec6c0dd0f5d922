/- The logical machine and its plain laws: parts T2, T3, proved sound. -/
import Derived.Test.YtkalnfkokkjliaaGreatDoorQA
import Derived.Test.YtkalnfkokkjliaaGreatDoorDD
import Derived.Test.YtkalnfkokkjliaaGreatDoorD4
set_option linter.unusedVariables false
set_option linter.unusedSimpArgs false
namespace Dv
open Go Go.Proofs
variable {G:Nat→Option (List DV)}
def PZ:Nat×C×List RV:=(22,
(.seq (.af [qo 1 (.box 30 (.t 0)),
 qo 2 (.mv (qk 0))])
 (.seq (.af [qo 3 (.mv (qk 0))])
 (.seq (.seq (.af [qo 6 (.aj 0 (.t 1)),
 qo 7 (.ld1 (.t 6)),
 qo 8 (.len (.t 7)),
 qo 9 (.mv (qk 0))])
 (.block 0 (.loop (.seq (.af [qo 10 (.bin .lss (.t 9) (.t 8))])
 (.seq (.cond (.t 10) .skip
 (.exit 0))
 (.seq (.block 1 (.seq (.af [qm 11 9,
 qo 12 (.eG 5 (.t 7) (.t 9)),
 qo 13 (.bP 5 (.t 12)),
 qo 5 (.new 102 [(.val (.bool false)),(.val (.bool false)),(.val (.bool false)),q0,q0]),
 qm 4 11,
 qn (.st 5 (.t 5) (.t 13))])
 (.seq (.af [qo 14 (.bP 5 (.t 5)),
 qo 15 (.call (.f 222) [(.t 14)])])
 (.cond (.t 15) (.af [qm 16 3,
 qm 17 4,
 qo 18 (.bin .shl (qk 1) (.t 17)),
 qo 19 (.bin .or (.t 16) (.t 18)),
 qm 3 19])
 .skip))))
 (.af [qo 20 (.bin .add (.t 9) (qk 1)),
 qm 9 20])))))))
 (.seq (.af [qm 21 3,
 qm 2 21])
 .ret)))),
[(.t 2)])
theorem MC:aq Tryz.prog Tryz.f327=some PZ:=by kernel_rfl
def PU:Nat×C×List RV:=(49,
(.seq (.af [qo 3 (.box 30 (.t 0)),
 qo 6 (.mv (qk 0))])
 (.seq (.af [qo 7 (.mv (qk 0))])
 (.seq (.seq (.af [qo 10 (.aj 0 (.t 3)),
 qo 11 (.ld1 (.t 10)),
 qo 12 (.len (.t 11)),
 qo 13 (.mv (qk 0))])
 (.block 0 (.loop (.seq (.af [qo 14 (.bin .lss (.t 13) (.t 12))])
 (.seq (.cond (.t 14) .skip
 (.exit 0))
 (.seq (.block 1 (.seq (.af [qm 15 13,
 qo 16 (.eG 5 (.t 11) (.t 13)),
 qo 17 (.bP 5 (.t 16)),
 qo 9 (.new 102 [(.val (.bool false)),(.val (.bool false)),(.val (.bool false)),q0,q0]),
 qm 8 15,
 qn (.st 5 (.t 9) (.t 17))])
 (.seq (.af [qm 18 1,
 qm 19 8,
 qo 20 (.bin .shr (.t 18) (.t 19)),
 qo 21 (.bin .and (.t 20) (qk 1)),
 qo 22 (.bin .eql (.t 21) (qk 1)),
 qm 23 22,
 qg 24 (.aj 0 (.t 9)) 23 true,
 qg 25 (.ld1 (.t 24)) 23 true,
 qo 26 (.pick (.t 23) (.t 25) qf),
 qm 27 26,
 qg 28 (.aj 1 (.t 9)) 27 true,
 qg 29 (.ld1 (.t 28)) 27 true,
 qg 30 (.not (.t 29)) 27 true,
 qo 31 (.pick (.t 27) (.t 30) qf),
 qm 32 31,
 qg 33 (.aj 2 (.t 9)) 32 true,
 qg 34 (.ld1 (.t 33)) 32 true,
 qg 35 (.not (.t 34)) 32 true,
 qo 36 (.pick (.t 32) (.t 35) qf),
 qm 37 36,
 qg 38 (.aj 3 (.t 9)) 37 true,
 qg 39 (.ld1 (.t 38)) 37 true,
 qg 40 (.mv (.t 2)) 37 true,
 qg 41 (.bin .eql (.t 39) (.t 40)) 37 true,
 qo 42 (.pick (.t 37) (.t 41) qf)])
 (.cond (.t 42) (.af [qm 43 7,
 qm 44 8,
 qo 45 (.bin .shl (qk 1) (.t 44)),
 qo 46 (.bin .or (.t 43) (.t 45)),
 qm 7 46])
 .skip))))
 (.af [qo 47 (.bin .add (.t 13) (qk 1)),
 qm 13 47])))))))
 (.seq (.af [qm 48 7,
 qm 6 48])
 .ret)))),
[(.t 6)])
theorem Mx:aq Tryz.prog Tryz.f350=some PU:=by kernel_rfl
def PW:Nat×C×List RV:=(26,
(.seq (.af [qo 4 (.mv (qk 0))])
 (.seq (.af [qo 5 (.mv (qk 0))])
 (.seq (.block 0 (.loop (.seq (.seq (.af [qm 7 0,
 qo 8 (.bin .neq (.t 7) (qk 0)),
 qm 9 8,
 qg 10 (.mv (.t 1)) 9 true,
 qg 11 (.bin .gtr (.t 10) (qk 0)) 9 true,
 qo 12 (.pick (.t 9) (.t 11) qf)])
 (.cond (.t 12) .skip
 (.exit 0)))
 (.seq (.block 1 (.seq (.af [qm 15 0,
 qm 16 0,
 qo 17 (.neg (.t 16)),
 qo 18 (.bin .and (.t 15) (.t 17)),
 qm 6 18])
 (.seq (.af [qm 19 5,
 qm 20 6,
 qo 21 (.bin .or (.t 19) (.t 20)),
 qm 5 21])
 (.af [qm 22 0,
 qm 23 6,
 qo 24 (.bin .andNot (.t 22) (.t 23)),
 qm 0 24]))))
 (.af [qm 13 1,
 qo 14 (.bin .sub (.t 13) (qk 1)),
 qm 1 14])))))
 (.seq (.af [qm 25 5,
 qm 4 25])
 .ret)))),
[(.t 4)])
theorem Mz:aq Tryz.prog Tryz.f337=some PW:=by kernel_rfl
def eM (s:aa):aD:=.box 30 [bZ s.nodes,dg s.jobs,.int s.goal,.int s.prior,.int s.mode,.int s.term]
theorem JM {f:Nat→Bool} {k:Nat} {b:Bool} (h:f k=b):eL f (k+1)=if b=true then eL f k+2 ^ k else eL f k:=by rw [← h]; rfl
def Ji (s:aa) (k:Nat):St:=⟨[(3,.int (eL (fun i=>jW (s.nodes.getD i ag)) k)),(7,bZ s.nodes),(8,.int s.nodes.length),(9,.int k)],[some (eM s)]⟩
set_option maxHeartbeats 4000000 in
theorem s_ (s:aa) (hn:s.nodes.length≤6):bw Tryz.prog G 327 [bp s] [] (.int (pE s)) []:=by
 refine bn Tryz.func327 (by decide) MC rfl rfl ?_
 simp only [PZ,go_sem,simprocAttr]
 refine aY [3,7,8,9] [] (fun k:Nat=>k≤s.nodes.length) (fun k=>s.nodes.length-k) (Ji s) 0 ?_ (Nat.zero_le _) (fun k hk=>?_)
 ·simp only [Ji,eM,go_sem,simprocAttr,eL,Int.natCast_zero]
 simp only [Ji,eM,go_sem,simprocAttr]
 by_cases hlt:k<s.nodes.length
 ·have hg:=aL (f:=ck) ag hlt
  have hm:=JM (f:=fun i=>jW (s.nodes.getD i ag)) (k:=k) (b:=jW (s.nodes.getD k ag)) rfl
  have ho:=Fc (fun i=>jW (s.nodes.getD i ag)) k (by omega)
  have hs1:=qN k (by omega)
  generalize s.nodes.getD k ag=n at hg hm
  simp only [ck] at hg
  simp only [decide_eq_true (show ((k:Nat):Int)<((s.nodes.length:Nat):Int) by omega),hg,go_sem,simprocAttr]
  refine aC (B0 n) rfl rfl rfl rfl ?_; simp only [go_sem,simprocAttr]
  cases hf:jW n with
  | true=>
    rw [hf,if_pos rfl,← ho] at hm
    simp only [hs1,go_sem,simprocAttr]
    refine bz (k+1) ?_ ?_ (by omega) (by omega)
    ·simp only [go_sem,simprocAttr]
    ·simp only [Ji,eM,hm,aG (show k<9223372036854775807 by omega),go_sem,simprocAttr]
  | false=>
    rw [hf,if_neg (by decide)] at hm
    simp only [go_sem,simprocAttr]
    refine bz (k+1) ?_ ?_ (by omega) (by omega)
    ·simp only [go_sem,simprocAttr]
    ·simp only [Ji,eM,hm,aG (show k<9223372036854775807 by omega),go_sem,simprocAttr]
 ·obtain rfl:k=s.nodes.length:=by omega
  simp only [decide_eq_false (show ¬ ((s.nodes.length:Nat):Int)<((s.nodes.length:Nat):Int) by omega),pE,go_sem,simprocAttr]
def I9 (s:aa) (set v:Int) (k:Nat):St:=⟨[(1,.int set),(2,.int v),(7,.int (eL (fun i=>iY set v i (s.nodes.getD i ag)) k)),(11,bZ s.nodes),(12,.int s.nodes.length),(13,.int k)],[some (eM s)]⟩
set_option maxHeartbeats 8000000 in
theorem Gp (s:aa) (set v:Int) (hn:s.nodes.length≤6):bw Tryz.prog G 350 [bp s,.int set,.int v] [] (.int (eY s set v)) []:=by
 refine bn Tryz.func350 (by decide) Mx rfl rfl ?_
 simp only [PU,go_sem,simprocAttr]
 refine aY [1,2,7,11,12,13] [] (fun k:Nat=>k≤s.nodes.length) (fun k=>s.nodes.length-k) (I9 s set v) 0 ?_ (Nat.zero_le _) (fun k hk=>?_)
 ·simp only [I9,eM,go_sem,simprocAttr,eL,Int.natCast_zero]
 simp only [I9,eM,go_sem,simprocAttr]
 by_cases hlt:k<s.nodes.length
 ·have hg:=aL (f:=ck) ag hlt
  have hm:=JM (f:=fun i=>iY set v i (s.nodes.getD i ag)) (k:=k) (b:=iY set v k (s.nodes.getD k ag)) rfl
  have ho:=Fc (fun i=>iY set v i (s.nodes.getD i ag)) k (by omega)
  have hs1:=qN k (by omega)
  have hb1:=Ex set k (by omega)
  generalize s.nodes.getD k ag=n at hg hm
  simp only [ck] at hg
  have hrb:iY set v k n=(hasB set k&&n.up&&!n.ct&&!n.bu&&decide (n.version=v)):=rfl
  obtain ⟨up,ct,bu,version,aN⟩:=n
  dsimp only at hg hrb
  simp only [decide_eq_true (show ((k:Nat):Int)<((s.nodes.length:Nat):Int) by omega),hg,hb1,go_sem,simprocAttr]
  have yes:iY set v k ⟨up,ct,bu,version,aN⟩=true→eL (fun i=>iY set v i (s.nodes.getD i ag)) (k+1)=yA .i64 (eL (fun i=>iY set v i (s.nodes.getD i ag)) k) (2 ^ k):=fun h=>by rw [hm,if_pos h,ho]
  have no:iY set v k ⟨up,ct,bu,version,aN⟩=false→eL (fun i=>iY set v i (s.nodes.getD i ag)) (k+1)=eL (fun i=>iY set v i (s.nodes.getD i ag)) k:=fun h=>by rw [hm,h,if_neg (by decide)]
  rw [hrb] at yes no
  cases hb:hasB set k <;> (try cases up) <;> (try cases ct) <;> (try cases bu) <;> (try (by_cases hv:version=v)) <;> simp only [hb,hv,hs1,Bool.false_eq_true,false_implies,true_implies,beq_eq_false_iff_ne.2,ne_eq,not_false_eq_true,reduceCtorEq,go_sem,simprocAttr] at yes no ⊢ <;>
   (refine bz (k+1) ?_ ?_ (by omega) (by omega)
    ·simp only [go_sem,simprocAttr]
    ·first
     | (simp only [I9,eM,no,aG (show k<9223372036854775807 by omega),go_sem,simprocAttr]; done)
     | simp only [I9,eM,yes,aG (show k<9223372036854775807 by omega),go_sem,simprocAttr])
 ·obtain rfl:k=s.nodes.length:=by omega
  simp only [decide_eq_false (show ¬ ((s.nodes.length:Nat):Int)<((s.nodes.length:Nat):Int) by omega),eY,go_sem,simprocAttr]
theorem JQ:∀ a:Fin 64,a.val≠0→(∃ b:Fin 64,rY .i64 (a.val:Int) (-(a.val:Int))=(b.val:Int))∧∃ c:Fin 64,fC .i64 (a.val:Int) (rY .i64 (a.val:Int) (-(a.val:Int)))=(c.val:Int)∧many (c.val:Int)+1=many (a.val:Int):=by decide +kernel
theorem GL:∀ a:Fin 64,many (a.val:Int)=0→a.val=0:=by decide +kernel
theorem Ge:fh 0:=⟨by decide,by decide⟩
def Mq (a:Nat×Int×Int×Int):St:=⟨[(0,.int a.2.1),(1,.int a.2.2.1),(5,.int a.2.2.2)],[]⟩
set_option maxHeartbeats 4000000 in
theorem Dz (set most:Int) (hs:fh set) (hm:0≤most∧most≤1000):bw Tryz.prog G 337 [.int set,.int most] [] (.int (sW 6 (set,most,0))) []:=by
 refine bn Tryz.func337 (by decide) Mz rfl rfl ?_
 simp only [PW,go_sem,simprocAttr]
 generalize hR:sW 6 (set,most,0)=R
 refine aY [0,1,5] [] (fun a:Nat×Int×Int×Int=>fh a.2.1∧fh a.2.2.2∧many a.2.1≤a.1∧(0≤a.2.2.1∧a.2.2.1≤1000)∧sW a.1 a.2=R) (fun a=>a.1) Mq (6,set,most,0) ?_ ⟨hs,Ge,(BA set).2,hm,hR⟩ ?_
 ·simp only [Mq,go_sem,simprocAttr]
 rintro ⟨f,p,m,out⟩ ⟨h1,h2,h3,h4,h5⟩
 dsimp only at h1 h2 h3 h4 h5
 simp only [Mq,go_sem,simprocAttr]
 obtain ⟨n,rfl,hn⟩:=h1.nat
 by_cases hz:n=0
 ·subst hz
  have:R=out:=by rw [← h5]; cases f with | zero=>rfl | succ f=>rw [sW,if_neg (by simp)]
  subst this
  simp only [Int.natCast_zero,bne_self_eq_false,go_sem,simprocAttr]
 by_cases hm0:0<m
 case neg=>
  have:R=out:=by rw [← h5]; cases f with | zero=>rfl | succ f=>rw [sW,if_neg (fun h=>hm0 h.2)]
  subst this
  simp only [show ((n:Int) !=0)=true from bne_iff_ne.2 (by omega),decide_eq_false (show ¬ m>0 by omega),go_sem,simprocAttr]
 obtain ⟨⟨b,hb⟩,c,hc,hmc⟩:=JQ ⟨n,hn⟩ hz
 dsimp only at hb hc hmc
 have hwn:IntKind.i64.wrap (0-(n:Int)) = -(n:Int):=by rw [aO (by omega) (by omega)]; omega
 have hwm:IntKind.i64.wrap (m-1)=m-1:=aO (by omega) (by omega)
 cases f with
 | zero=>
   have h0:=BA (n:Int)
   exact absurd (GL ⟨n,hn⟩ (show many (n:Int)=0 by omega)) hz
 | succ f=>
   have hst:sW f (uO ((n:Int),m,out))=R:=by rw [← h5,sW,if_pos ⟨by dsimp only; omega,hm0⟩]
   have e:uO ((n:Int),m,out)=((c.val:Int),m-1,yA .i64 out (b.val:Int)):=by unfold uO; dsimp only; rw [hc,hb]
   rw [e] at hst
   have Sb:=(PK h2 (⟨by omega,by omega⟩:fh (b.val:Int))).1
   simp only [show ((n:Int) !=0)=true from bne_iff_ne.2 (by omega),decide_eq_true (show m>0 by omega),hwn,hwm,hb,go_sem,simprocAttr]
   rw [hb] at hc
   refine bz (f,(c.val:Int),m-1,yA .i64 out (b.val:Int)) ?_ ?_ ⟨⟨by dsimp only; omega,by dsimp only; omega⟩,Sb,by dsimp only; omega,by dsimp only; omega,hst⟩ (by dsimp only; omega)
   ·simp only [go_sem,simprocAttr]
   ·simp only [Mq,hc,go_sem,simprocAttr]
end Dv
namespace Dv
open Go Go.Proofs
variable {G:Nat→Option (List DV)}
theorem AP:∀ k:Fin 9,F2.take (k.val+1)=F2.take k.val++[((k.val+1:Nat):Int)]:=by decide
end Dv
