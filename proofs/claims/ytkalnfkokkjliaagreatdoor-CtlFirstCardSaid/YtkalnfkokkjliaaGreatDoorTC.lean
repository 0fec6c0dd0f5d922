/- The logical machine and its plain laws: parts T10, T11, T12, T13, proved sound. -/
import Derived.Test.YtkalnfkokkjliaaGreatDoorTA
import Derived.Test.YtkalnfkokkjliaaGreatDoorTS
import Derived.Test.YtkalnfkokkjliaaGreatDoorT9
import Derived.Test.YtkalnfkokkjliaaGreatDoorQA
import Derived.Test.YtkalnfkokkjliaaGreatDoorSR
import Derived.Maps.OwnIn
import Derived.Maps.Views
set_option linter.unusedVariables false
set_option linter.unusedSimpArgs false
namespace Dv
open Go Go.Proofs
variable {G:Nat→Option (List DV)}
def PT:Nat×C×List RV:=(46,
(.seq (.af [qo 3 (.box 30 (.t 0)),
 qo 6 (.mv (qk 0))])
 (.seq (.seq (.af [qm 8 1,
 qo 9 (.bin .lss (.t 8) (qk 1)),
 qm 10 9,
 qg 11 (.mv (.t 1)) 10 false,
 qg 12 (.aj 1 (.t 3)) 10 false,
 qg 13 (.ld1 (.t 12)) 10 false,
 qg 14 (.len (.t 13)) 10 false,
 qg 15 (.bin .gtr (.t 11) (.t 14)) 10 false,
 qo 16 (.pick (.t 10) qt (.t 15))])
 (.cond (.t 16) (.seq (.af [qo 6 (.mv (.c (.val (.int .i64 (-1)))))])
 .ret)
 .skip))
 (.seq (.af [qo 17 (.aj 1 (.t 3)),
 qo 18 (.ld1 (.t 17)),
 qm 19 1,
 qo 20 (.bin .sub (.t 19) (qk 1)),
 qo 21 (.eG 12 (.t 18) (.t 20)),
 qo 22 (.bP 12 (.t 21)),
 qo 7 (.new 119 [q0,q0,q0,q0,q0,q0,q0,q0,q0,q0,q0,q0]),
 qn (.st 12 (.t 7) (.t 22))])
 (.seq (.seq (.af [qo 23 (.aj 6 (.t 7)),
 qo 24 (.ld1 (.t 23))])
 (.block 0 (.seq (.af [qo 26 (.bin .eql (.t 24) (qk 1)),
 qm 25 26])
 (.cond (.t 25) (.seq (.af [qm 27 2,
 qo 28 (.aj 4 (.t 7)),
 qo 29 (.ld1 (.t 28)),
 qo 30 (.bin .add (.t 27) (.t 29)),
 qm 6 30])
 .ret)
 (.seq (.af [qo 32 (.bin .eql (.t 24) (qk 2)),
 qm 31 32])
 (.cond (.t 31) (.seq (.af [qm 33 2,
 qo 34 (.aj 9 (.t 7)),
 qo 35 (.ld1 (.t 34)),
 qo 36 (.aj 4 (.t 7)),
 qo 37 (.ld1 (.t 36)),
 qo 38 (.bin .add (.t 35) (.t 37)),
 qo 39 (.max (.t 33) (.t 38)),
 qm 6 39])
 .ret)
 (.seq (.af [qo 41 (.bin .eql (.t 24) (qk 3)),
 qm 40 41])
 (.cond (.t 40) (.seq (.af [qm 42 2,
 qo 43 (.aj 10 (.t 7)),
 qo 44 (.ld1 (.t 43)),
 qo 45 (.max (.t 42) (.t 44)),
 qm 6 45])
 .ret)
 .skip))))))))
 (.seq (.af [qo 6 (.mv (.c (.val (.int .i64 (-1)))))])
 .ret))))),
[(.t 6)])
theorem Mw:aq Tryz.prog Tryz.f351=some PT:=by kernel_rfl
def PV:Nat×C×List RV:=(39,
(.seq (.af [qo 3 (.box 30 (.t 0)),
 qo 6 (.mv (qk 0))])
 (.seq (.af [qo 11 (.bP 6 (.t 3)),
 qo 12 (.call (.f 327) [(.t 11)]),
 qm 7 12])
 (.seq (.seq (.af [qo 13 (.aj 1 (.t 3)),
 qo 14 (.ld1 (.t 13)),
 qo 15 (.len (.t 14)),
 qo 16 (.mv (qk 0))])
 (.block 0 (.loop (.seq (.af [qo 17 (.bin .lss (.t 16) (.t 15))])
 (.seq (.cond (.t 17) .skip
 (.exit 0))
 (.seq (.block 1 (.seq (.af [qm 18 16,
 qo 19 (.eG 12 (.t 14) (.t 16)),
 qo 20 (.bP 12 (.t 19)),
 qo 9 (.new 119 [q0,q0,q0,q0,q0,q0,q0,q0,q0,q0,q0,q0]),
 qm 8 18,
 qn (.st 12 (.t 9) (.t 20))])
 (.seq (.af [qo 21 (.bP 6 (.t 3)),
 qm 22 8,
 qo 23 (.bin .add (.t 22) (qk 1)),
 qm 24 1,
 qo 25 (.call (.f 351) [(.t 21),(.t 23),(.t 24)]),
 qm 10 25])
 (.seq (.af [qm 26 10,
 qo 27 (.bin .geq (.t 26) (qk 0)),
 qm 28 27,
 qg 29 (.mv (.t 10)) 28 true,
 qg 30 (.mv (.t 2)) 28 true,
 qg 31 (.bin .leq (.t 29) (.t 30)) 28 true,
 qo 32 (.pick (.t 28) (.t 31) qf)])
 (.cond (.t 32) (.af [qm 33 7,
 qo 34 (.aj 8 (.t 9)),
 qo 35 (.ld1 (.t 34)),
 qo 36 (.bin .or (.t 33) (.t 35)),
 qm 7 36])
 .skip)))))
 (.af [qo 37 (.bin .add (.t 16) (qk 1)),
 qm 16 37])))))))
 (.seq (.af [qm 38 7,
 qm 6 38])
 .ret)))),
[(.t 6)])
theorem My:aq Tryz.prog Tryz.f339=some PV:=by kernel_rfl
def PY:Nat×C×List RV:=(24,
(.seq (.af [qo 2 (.box 30 (.t 0)),
 qo 4 (.mv qf)])
 (.seq (.af [qm 5 1,
 qo 6 (.bin .geq (.t 5) (qk 1)),
 qm 7 6,
 qg 8 (.mv (.t 1)) 7 true,
 qg 9 (.aj 1 (.t 2)) 7 true,
 qg 10 (.ld1 (.t 9)) 7 true,
 qg 11 (.len (.t 10)) 7 true,
 qg 12 (.bin .leq (.t 8) (.t 11)) 7 true,
 qo 13 (.pick (.t 7) (.t 12) qf),
 qm 14 13,
 qg 15 (.aj 1 (.t 2)) 14 true,
 qg 16 (.ld1 (.t 15)) 14 true,
 qg 17 (.mv (.t 1)) 14 true,
 qg 18 (.bin .sub (.t 17) (qk 1)) 14 true,
 qg 19 (.eG 12 (.t 16) (.t 18)) 14 true,
 qg 20 (.aj 6 (.t 19)) 14 true,
 qg 21 (.ld1 (.t 20)) 14 true,
 qg 22 (.bin .eql (.t 21) (qk 0)) 14 true,
 qo 23 (.pick (.t 14) (.t 22) qf),
 qm 4 23])
 .ret)),
[(.t 4)])
theorem MB:aq Tryz.prog Tryz.f328=some PY:=by kernel_rfl
def r_ (now:Int):Prop:=0≤now∧now≤1000000
set_option maxHeartbeats 4000000 in
theorem FG (s:aa) (h:qD s) (aN now:Int) (h0:r_ now):bw Tryz.prog G 351 [bp s,.int aN,.int now] [] (.int (Pa s aN now)) []:=by
 refine bn Tryz.func351 (by decide) Mw rfl rfl ?_
 simp only [PT,go_sem,simprocAttr]
 have hj:=h.jobs
 obtain ⟨h01,h02⟩:=h0
 unfold Pa
 by_cases h1:aN<1
 ·simp only [h1,go_sem,simprocAttr]
 simp only [h1,false_or,go_sem,simprocAttr]
 by_cases h2:(s.jobs.length:Int)<aN
 ·simp only [h2,go_sem,simprocAttr]
 simp only [h2,go_sem,simprocAttr]
 obtain ⟨i,rfl⟩:∃ i:Nat,aN=((i+1:Nat):Int):=⟨(aN-1).toNat,by omega⟩
 have hi:i<s.jobs.length:=by omega
 have e1:=succ_pred i (by omega)
 have e0:(((i+1:Nat):Int)-1).toNat=i:=by omega
 have hgi:=aL (f:=dh) ax hi
 have hE:Py (s.jobs.getD i ax):=h.ends i hi
 generalize hx:s.jobs.getD i ax=x at hgi hE
 obtain ⟨w1,w2,w3⟩:=hE
 simp only [dh] at hgi
 simp only [e0,e1,hx,hgi,go_sem,simprocAttr]
 unfold rP
 by_cases h3:x.phase=1
 ·simp only [show (x.phase==1)=true from beq_iff_eq.2 h3,if_pos h3,aO (show -9223372036854775808≤now+x.work by omega) (show now+x.work≤9223372036854775807 by omega),go_sem,simprocAttr]
 simp only [show (x.phase==1)=false from beq_eq_false_iff_ne.2 h3,if_neg h3,go_sem,simprocAttr]
 by_cases h4:x.phase=2
 ·simp only [show (x.phase==2)=true from beq_iff_eq.2 h4,if_pos h4,aO (show -9223372036854775808≤x.since+x.work by omega) (show x.since+x.work≤9223372036854775807 by omega),JL,go_sem,simprocAttr]
 simp only [show (x.phase==2)=false from beq_eq_false_iff_ne.2 h4,if_neg h4,go_sem,simprocAttr]
 by_cases h5:x.phase=3
 ·simp only [show (x.phase==3)=true from beq_iff_eq.2 h5,if_pos h5,JL,go_sem,simprocAttr]
 simp only [show (x.phase==3)=false from beq_eq_false_iff_ne.2 h5,if_neg h5,go_sem,simprocAttr]
set_option maxHeartbeats 4000000 in
theorem vC (s:aa) (hn:s.jobs.length≤1000) (aN:Int):bw Tryz.prog G 328 [bp s,.int aN] [] (.bool (fS s aN)) []:=by
 refine bn Tryz.func328 (by decide) MB rfl rfl ?_
 simp only [PY,go_sem,simprocAttr]
 unfold fS
 by_cases h1:aN<1
 ·simp only [show ¬ (1≤aN) by omega,false_and,go_sem,simprocAttr]
 simp only [show 1≤aN by omega,go_sem,simprocAttr]
 by_cases h2:(s.jobs.length:Int)<aN
 ·simp only [show ¬ (aN≤(s.jobs.length:Int)) by omega,false_and,go_sem,simprocAttr]
 simp only [show aN≤(s.jobs.length:Int) by omega,go_sem,simprocAttr]
 obtain ⟨i,rfl⟩:∃ i:Nat,aN=((i+1:Nat):Int):=⟨(aN-1).toNat,by omega⟩
 have hi:i<s.jobs.length:=by omega
 have e1:=succ_pred i (by omega)
 have e0:(((i+1:Nat):Int)-1).toNat=i:=by omega
 have hgi:=aL (f:=dh) ax hi
 generalize hx:s.jobs.getD i ax=x at hgi
 simp only [dh] at hgi
 simp only [e0,e1,hx,hgi,go_sem,simprocAttr]
 by_cases h3:x.phase=0
 ·simp only [h3,go_sem,simprocAttr]
 ·simp only [show (x.phase==0)=false from beq_eq_false_iff_ne.2 h3,h3,go_sem,simprocAttr]
theorem Jo (e t:Int):Xw e t=if 0≤e then decide (e≤t) else false:=by
 unfold Xw
 split
 ·rw [decide_eq_true (by assumption),Bool.true_and]
 ·rw [decide_eq_false (by assumption),Bool.false_and]
def HV (s:aa) (now t:Int) (k:Nat):St:=⟨[(1,.int now),(2,.int t),(3,.ptr 0 0),(7,.int (CJ s now t k)),(14,dg s.jobs),(15,.int s.jobs.length),(16,.int k)],[some (eM s)]⟩
set_option maxHeartbeats 4000000 in
theorem Ud (s:aa) (h:qD s) (now t:Int) (h0:r_ now):bw Tryz.prog G 339 [bp s,.int now,.int t] [] (.int (CJ s now t s.jobs.length)) []:=by
 refine bn Tryz.func339 (by decide) My rfl rfl ?_
 simp only [PV,go_sem,simprocAttr]
 have hn:=h.jobs
 refine aC (s_ s h.nodes) rfl rfl rfl rfl ?_; simp only [go_sem,simprocAttr]
 refine aY [1,2,3,7,14,15,16] [] (fun k:Nat=>k≤s.jobs.length) (fun k=>s.jobs.length-k) (HV s now t) 0 ?_ (Nat.zero_le _) (fun k hk=>?_)
 ·simp only [HV,eM,CJ,Int.natCast_zero,go_sem,simprocAttr]
 simp only [HV,eM,go_sem,simprocAttr]
 by_cases hlt:k<s.jobs.length
 ·have hg:=aL (f:=dh) ax hlt
  have he:=FH (s:=s) hlt now
  have hst:CJ s now t (k+1)=if Xw (rP (cZ s k) now) t=true then yA .i64 (CJ s now t k) (cZ s k).nodes else CJ s now t k:=rfl
  have hjo:cZ s k=s.jobs.getD k ax:=rfl
  generalize s.jobs.getD k ax=x at hg hjo
  rw [hjo] at he hst
  simp only [dh] at hg
  simp only [decide_eq_true (show ((k:Nat):Int)<((s.jobs.length:Nat):Int) by omega),hg,aG (show k<9223372036854775807 by omega),go_sem,simprocAttr]
  refine aC (FG s h ((k+1:Nat):Int) now h0) rfl rfl rfl rfl ?_; simp only [go_sem,simprocAttr]
  simp only [he,go_sem,simprocAttr]
  rw [Jo] at hst
  generalize rP x now=e at hst ⊢
  by_cases h1:0≤e
  ·simp only [if_pos h1] at hst
   simp only [decide_eq_true (show e≥0 from h1),go_sem,simprocAttr]
   by_cases h2:e≤t
   ·rw [decide_eq_true h2,if_pos rfl] at hst
    simp only [decide_eq_true h2,go_sem,simprocAttr]
    refine bz (k+1) ?_ ?_ (by omega) (by omega)
    ·simp only [go_sem,simprocAttr]
    ·simp only [HV,eM,hst,aG (show k<9223372036854775807 by omega),go_sem,simprocAttr]
   ·rw [decide_eq_false h2,if_neg (by decide)] at hst
    simp only [decide_eq_false h2,go_sem,simprocAttr]
    refine bz (k+1) ?_ ?_ (by omega) (by omega)
    ·simp only [go_sem,simprocAttr]
    ·simp only [HV,eM,hst,aG (show k<9223372036854775807 by omega),go_sem,simprocAttr]
  ·simp only [if_neg h1,if_neg (show ¬ false=true by decide)] at hst
   simp only [decide_eq_false (show ¬ e≥0 from h1),go_sem,simprocAttr]
   refine bz (k+1) ?_ ?_ (by omega) (by omega)
   ·simp only [go_sem,simprocAttr]
   ·simp only [HV,eM,hst,aG (show k<9223372036854775807 by omega),go_sem,simprocAttr]
 ·obtain rfl:k=s.jobs.length:=by omega
  simp only [decide_eq_false (show ¬ ((s.jobs.length:Nat):Int)<((s.jobs.length:Nat):Int) by omega),go_sem,simprocAttr]
end Dv
namespace Dv
open Go Go.Proofs
variable {G:Nat→Option (List DV)}
def P_:Nat×C×List RV:=(37,
(.seq (.af [qo 2 (.box 30 (.t 0)),
 qo 4 (.mv (qk 0)),
 qo 5 (.mv qf)])
 (.seq (.seq (.af [qm 6 1,
 qo 7 (.bin .lss (.t 6) (qk 1)),
 qm 8 7,
 qg 9 (.mv (.t 1)) 8 false,
 qg 10 (.aj 1 (.t 2)) 8 false,
 qg 11 (.ld1 (.t 10)) 8 false,
 qg 12 (.len (.t 11)) 8 false,
 qg 13 (.bin .gtr (.t 9) (.t 12)) 8 false,
 qo 14 (.pick (.t 8) qt (.t 13)),
 qm 15 14,
 qg 16 (.aj 1 (.t 2)) 15 false,
 qg 17 (.ld1 (.t 16)) 15 false,
 qg 18 (.mv (.t 1)) 15 false,
 qg 19 (.bin .sub (.t 18) (qk 1)) 15 false,
 qg 20 (.eG 12 (.t 17) (.t 19)) 15 false,
 qg 21 (.aj 6 (.t 20)) 15 false,
 qg 22 (.ld1 (.t 21)) 15 false,
 qg 23 (.bin .neq (.t 22) (qk 0)) 15 false,
 qo 24 (.pick (.t 15) qt (.t 23))])
 (.cond (.t 24) (.seq (.af [qo 4 (.mv (qk 0)),
 qo 5 (.mv qf)])
 .ret)
 .skip))
 (.seq (.bQ [qo 25 (.bP 6 (.t 2)),
 qo 26 (.aj 1 (.t 2)),
 qd 27 (.ld1 (.t 26)) [1],
 qm 28 1,
 qd 29 (.bin .sub (.t 28) (qk 1)) [3],
 qd 30 (.eG 12 (.t 27) (.t 29)) [2,1,4,3],
 qd 31 (.bP 12 (.t 30)) [5,2,1,4,3],
 qo 32 (.bP 6 (.t 2)),
 qd 33 (.call (.f 327) [(.t 32)]) [7],
 qd 34 (.call (.f 326) [(.t 25),(.t 31),(.t 33)]) [0,6,5,2,1,4,3,8,7],
 qd 35 (.ext (.t 34) 0) [9,0,6,5,2,1,4,3,8,7],
 qd 36 (.ext (.t 34) 1) [9,0,6,5,2,1,4,3,8,7],
 qd 4 (.mv (.t 35)) [10,9,0,6,5,2,1,4,3,8,7,11],
 qd 5 (.mv (.t 36)) [11,9,0,6,5,2,1,4,3,8,7,12,10]])
 .ret))),
[(.t 4),(.t 5)])
theorem MG:aq Tryz.prog Tryz.f313=some P_:=by kernel_rfl
theorem qX (s:aa) (aN:Int):(aN<1∧fS s aN=false)∨(¬ aN<1∧(s.jobs.length:Int)<aN∧fS s aN=false)∨
  ∃ i:Nat,aN=((i+1:Nat):Int)∧i<s.jobs.length∧¬ aN<1∧¬ (s.jobs.length:Int)<aN∧fS s aN=decide ((s.jobs.getD i ax).phase=0):=by
 unfold fS
 by_cases h1:aN<1
 ·exact .inl ⟨h1,decide_eq_false (fun h=>by omega)⟩
 by_cases h2:(s.jobs.length:Int)<aN
 ·exact .inr (.inl ⟨h1,h2,decide_eq_false (fun h=>by omega)⟩)
 refine .inr (.inr ⟨(aN-1).toNat,by omega,by omega,h1,h2,?_⟩)
 simp only [show 1≤aN by omega,show aN≤(s.jobs.length:Int) by omega,true_and]
set_option maxHeartbeats 4000000 in
theorem E6 (s:aa) (h:qD s) (aN:Int):bw Tryz.prog G 313 [bp s,.int aN] [] (.dP [.int (vM s aN).1,.bool (vM s aN).2]) []:=by
 refine bn Tryz.func313 (by decide) MG rfl rfl ?_
 simp only [P_,go_sem,simprocAttr]
 have hj:=h.jobs
 unfold vM
 rcases qX s aN with ⟨h1,hq⟩ | ⟨h1,h2,hq⟩ | ⟨i,rfl,hi,h1,h2,hq⟩
 ·simp only [decide_eq_true h1,hq,go_sem,simprocAttr]
 ·simp only [decide_eq_false h1,decide_eq_true (show aN>(s.jobs.length:Int) from h2),hq,go_sem,simprocAttr]
 have e1:=succ_pred i (by omega)
 have e2:=uP s i
 have hgi:=aL (f:=dh) ax hi
 have hm:=h.most i hi
 have hjo:cZ s i=s.jobs.getD i ax:=rfl
 generalize s.jobs.getD i ax=x at hgi hjo hq
 rw [hjo] at e2 hm
 simp only [dh] at hgi
 simp only [decide_eq_false h1,decide_eq_false (show ¬ ((i+1:Nat):Int)>(s.jobs.length:Int) from h2),e1,e2,hgi,go_sem,simprocAttr]
 by_cases h3:x.phase=0
 ·simp only [show (x.phase !=0)=false from (bne_eq_false_iff_eq.2 h3),hq,decide_eq_true h3,e1,hgi,go_sem,simprocAttr]
  refine bf (s_ s h.nodes) rfl rfl rfl rfl ?_; simp only [go_sem,simprocAttr]
  refine bf (vF s x (pE s) h.nodes (D7 h.nodes) hm) rfl rfl rfl rfl ?_; simp only [go_sem,simprocAttr]
 ·simp only [show (x.phase !=0)=true from bne_iff_ne.2 h3,hq,decide_eq_false h3,go_sem,simprocAttr]
theorem Bx (l:List Nat) (i:Nat) (h:i<l.length):(jr l)[i]? = some [i64 ((l.getD i 0+1:Nat):Int)]:=by
 unfold jr
 rw [List.getElem?_map,List.getElem?_eq_getElem h]
 simp [List.getD,h]
theorem Bw (l:List Nat):(jr l).length=l.length:=by unfold jr; rw [List.length_map]
theorem Bt (f g:Int→Int×Bool) (L:List Nat) (i:Nat) (hi:i<L.length):kT f g (L.drop i) i =
  if (if i=0 then f ((L.getD i 0+1:Nat):Int) else g ((L.getD i 0+1:Nat):Int)).2=true then (((L.getD i 0+1:Nat):Int),(if i=0 then f ((L.getD i 0+1:Nat):Int) else g ((L.getD i 0+1:Nat):Int)).1,true) else kT f g (L.drop (i+1)) (i+1):=by
 rw [List.drop_eq_getElem_cons hi,show L.getD i 0=L[i] by simp [List.getD,hi]]
 cases i with
 | zero=>simp only [kT,if_true]
 | succ i=>simp only [kT,if_neg (Nat.succ_ne_zero i)]
end Dv
namespace Dv
open Go Go.Proofs
theorem yp {J:Nat→Prop} {w:World} {g:Nat} : ∀ (l:List Int) (off:Nat),(∀ (j:Nat) x,l[j]? = some x→w.cell? ⟨g,off+j,none⟩=some (.int .i64 x))→bC J w 1 (l.map fun i=>[i64 i]) g off
 | [],_,_=>trivial
 | x::l,off,h=>⟨rfl,⟨⟨.int .i64 x,h 0 x rfl,rfl,rfl⟩,trivial⟩,yp l (off+1) (fun j y hy=>by
    have:=h (j+1) y (by simpa using hy)
    rw [show off+1+j=off+(j+1) by omega]; exact this)⟩
theorem OM {J:Nat→Prop} {w:World} {n0:Nat} {e:TypeId} {v:Value} {l:List Int} (h:w.ownsRow n0 e 1 v l.length (l.map (Value.int .i64))) (hj:∀ b,v.ownBlock=some b→J b):h_ J w (.dY 1 (l.map fun i=>[i64 i])) v:=by
 rcases h.2 with ⟨rfl,h0⟩ | ⟨g,cap,cur,rfl,_,hg,hc,_,_,hx⟩
 ·exact ⟨none,0,0,rfl,by simp [h0],Nat.le_refl _,.inl (by rw [List.eq_nil_of_length_eq_zero h0]; rfl)⟩
 ·refine ⟨_,_,_,rfl,by simp,hc,.inr ⟨g,0,rfl,hj g rfl,yp l 0 (fun j x hjx=>?_)⟩⟩
  have h1:(cur.toList.take (l.length*1))[j]? = some (.int .i64 x):=by rw [hx,List.getElem?_map,hjx]; rfl
  have hlt:=(List.getElem?_eq_some_iff.1 h1).1
  rw [List.length_take] at hlt
  rw [List.getElem?_take,if_pos (by omega)] at h1
  rw [Nat.zero_add]
  simp only [World.cell?,hg]
  simpa using h1
theorem I2 {w:World} {n0:Nat} {e:TypeId} {esz k:Nat} {v:Value} {xs:List Value} (h:w.ownsRow n0 e esz v k xs) (b:Nat) (hb:v.ownBlock=some b):n0≤b∧∃ C t f,w.heap[b]? = some (.cells C t f):=by
 rcases h.2 with ⟨rfl,h0⟩ | ⟨g,cap,cur,rfl,hge,hg,_⟩
 ·simp [Value.ownBlock] at hb
 ·simp only [Value.ownBlock,Option.some.injEq] at hb
  subst hb
  exact ⟨hge,_,_,_,hg⟩
theorem H8 {G:Nat→Option (List DV)} {J:Nat→Prop} {ι:Nat→Nat→Option Nat} {w W:World} (S:aJ G J w ι (aB [])) (hB:RowKit.Below w.heap.size w W) {n0:Nat} (hn:w.heap.size≤n0) {e:TypeId} {v:Value} {l:List Int}
  (h:W.ownsRow n0 e 1 v l.length (l.map (Value.int .i64))):a_ G (aB []) (aB []) J ι w (.d (.dY 1 (l.map fun i=>[i64 i]))) v W:=by
 have S1:aJ G J W ι (aB []):=S.still (fun b h=>hB.block b (S.AK b h)) (fun b h=>hB.block b (S.kS h)) (fun b h=>bD (hB.block b (fI h)))
 have nil:∀ o b,¬ (aB [] o).own ι o b:=fun o b=>by rw [cR (by simp)]; exact fun h=>h.elim
 refine ⟨fun b=>J b∨v.ownBlock=some b,ι,⟨fun o=>?_,fun o o' b h=>absurd h (nil o b),fun o b h=>absurd h (nil o b),fun b hb=>?_,fun q row hq=>?_⟩,OM h (fun b hb=>.inr hb),
  ⟨⟨hB.os,hB.tape,hB.output,hB.size,fun b hb _=>hB.block b hb,fun b hb=>bD (hB.block b hb),fun b hb=>.inl hb,fun b hb=>?_,fun _ _ _ h=>h⟩,fun b hb=>?_⟩⟩
 ·have:=S1.rep o
  rw [cR (by simp)] at this ⊢
  exact this
 ·rcases hb with hb | hb
  ·exact S1.jcell b hb
  ·exact (I2 h b hb).2
 ·obtain ⟨q1,q2,q3⟩:=S1.wA q row hq
  exact ⟨.inl q1,cU.mono (fun k h=>.inl h) (fun _ _=>rfl) _ _ _ rfl q2,q3⟩
 ·rcases hb with hb | hb
  ·exact .inl hb
  ·exact .inr (.inl (Nat.le_trans hn (I2 h b hb).1))
 ·obtain ⟨o,h⟩:=hb
  exact absurd h (nil o b)
def G3 (l:List Int):List (List DV):=l.map fun i=>[i64 i]
end Dv
namespace Go
open Go.Maps (Keyed)
theorem oO {H:Type} {P:Program} (w:World) {F:Fence} {nF:Nat} {ops:Array Oper} {rest:List Oper} {o:Oper} {a:Act} {Q:Exit→Act→World→Prop}
  (hg:o.guard=none) (m x v:Operand) (t:TypeId) (hop:o.op=Op.insert t m x v)
  (k e:TypeId) (K:Keyed P k) (ht:P.underlying t=some (.map k e)) (R:Value→Option (DataW H×List MemPlace)) (b n:Nat) (D:DataW H)
  (hm:a.eval m=.map (some b)) (hown:w.ownsMap P k R b n D) (hn:n<maxLen) (key val:Value) (kl:Lit) (hx:a.eval x=key) (hv:a.eval v=val) (hkey:keyOf P k key=some kl)
  (d:DataW H) (ps:List MemPlace) (hval:R val=some (d,ps))
  (hK:∀ w',w'.ownsMap P k R b (n+1) (D.put kl d)→w.grownBy w' (some b)→wpListIn F nF P ops Q rest (a.put o.dst undef) w') :
  wpListIn F nF P ops Q (o::rest) a w:=by
 refine wpListIn_plain hg fun K' hK'=>?_
 obtain ⟨w',hrun,r1,r2⟩:=hown.update K ht hn hkey hval
 unfold Oper.wpIn
 refine ⟨by simp [Oper.about,hop],?_⟩
 rw [Oper.semAt_plain F _ _ (by rw [hop]; intro c xN; cases xN)]
 simp [execOp,hop,hm,hx,hv,hrun,Result.andThen]
 exact hK' _ _ (hK w' r1 r2)
end Go
namespace Go.Proofs
open Go.RowKit Go.Shelf Go.Maps
attribute [local go_sem] Oper.semAt_some
theorem Tryz.SE (m:Nat):AnyZI.SortsIn Tryz.prog Tryz.tM Fence.wide m:=
 ⟨fun blk off cap ss W hH hblk hsz=>callsIn_wide.2 (AnyM.slices_Sort_int Tryz.PE blk off cap ss W hH hblk hsz),
  fun p cap W=>callsIn_wide.2 (AnyM.slices_Sort_int_none Tryz.PE p cap W)⟩
theorem keys_perm {P:Program} {k:TypeId} {R:Value→Option (DataW Unit×List MemPlace)} {W:World} {b nn:Nat} {D:DataW Unit} (hown:W.ownsMap P k R b nn D) (K:Keyed P k) (hk:P.underlying k=some (.int .i64)) {l:List Int} (hn:l.Nodup) (hm:∀ x,Maps.has D (.int .i64 x)=true↔x∈l):l.Perm (intKeys D):=by
 obtain ⟨es,hD,hpw,_⟩:=hown.entries K
 obtain ⟨es',ZP,hko⟩:=hown.keysOf
 obtain rfl:es=es':=by rw [hD] at ZP; simpa using ZP
 subst hD
 exact perm_intKeys hpw (fun p hp=>by obtain ⟨v,hv⟩:=hko p hp; obtain ⟨x,_,hx,_⟩:=Maps.keyOf_i64 hk hv; exact ⟨x,hx⟩) hn (fun x=>(hm x).symm)
theorem tZ {D:DataW Unit} (hD:IsMap D) (e x:Int) (d:DataW Unit) (l:List Int) (hm:∀ x,Maps.has D (.int .i64 x)=true↔x∈l):Maps.has (D.put (.int .i64 e) d) (.int .i64 x)=true↔x∈Dv.AE l e:=by
 rw [Dv.JI]
 by_cases h:x=e
 ·subst h
  rw [has_put_same hD (show WideAt.IsKeyLit (Lit.int .i64 x) from trivial)]
  simp
 ·rw [has_put_other (fun h'=>h (by cases h'; rfl)),hm]
  simp [h]
set_option maxRecDepth 100000 in
set_option maxHeartbeats 2000000 in
theorem F3 {G:Nat→Option (List Dv.DV)} (s:Dv.aa) (h:Dv.qD s) (now:Int) (h0:Dv.r_ now):Dv.bw Tryz.prog G 338 [Dv.bp s,.int now] [] (.d (.dY 1 (Dv.G3 (Dv.pN s now)))) []:=by
 refine ⟨by decide,fun J ι w vs S hR=>?_⟩
 obtain ⟨vl⟩:=vs
 match vl,hR with
 | [va,vk],⟨ha,hk,_⟩=>
 have hk:vk=.int .i64 now:=hk
 subst hk
 obtain ⟨cs,rfl,hcs⟩:=ha
 obtain ⟨cl⟩:=cs
 match cl,hcs with
 | [x0,x1,x2,x3,x4,x5],hcs=>
 have hds:=Dv.k9 (ds:=[.dY 5 (s.nodes.map Dv.ck),.dY 12 (s.jobs.map Dv.dh),Dv.i64 s.goal,Dv.i64 s.prior,Dv.i64 s.mode,Dv.i64 s.term]) rfl hcs.xC
 have hone:=hcs.one
 obtain ⟨ja,jn,jc,rfl,hjn,hjc,hjr⟩:=hds.2.1
 rw [List.length_map] at hjn
 subst hjn
 have YF:=h.jobs
 have OS:=@run_makeMap Tryz.prog
 refine (callsIn_wide (n:=6)).1 ?_
 refine callsIn_of_wp Tryz.func338 rfl trivial ?_ rfl
 simp only [Tryz.ntmps338,List.size_toArray,List.length_cons,List.length_nil,Nat.reduceAdd,Nat.reduceSub,Array.replicate_succ,Array.replicate_zero,List.push_toArray,List.append_toArray,List.nil_append,List.cons_append]
 have Zj:∀ x:Int,-9223372036854775808≤x→x≤9223372036854775807→(Lit.int .i64 x).wf=true:=fun x h1 h2=>by
  have e1:IntKind.i64.min = -9223372036854775808:=by decide
  have e2:IntKind.i64.max=9223372036854775807:=by decide
  simp only [Lit.wf,e1,e2,h1,h2,decide_true,Bool.and_self]
 have XL:=h0
 obtain ⟨n1,n2⟩:=XL
 have hwf:=Zj now (by omega) (by omega)
 have hm0:=World.ownsMap_made (w.alloc (.cells #[x0,.slice ja s.jobs.length jc,x2,x3,x4,x5] 30)) Tryz.prog 3 (plainElem (H:=Unit) Tryz.prog 4)
 have ZR:Below w.heap.size w ((w.alloc (.cells #[x0,.slice ja s.jobs.length jc,x2,x3,x4,x5] 30)).alloc (.map #[] 0)):=((Below.refl _ w).alloc (Nat.le_refl _) _).alloc (by simp) _
 have hst:∀ A,Below w.heap.size w A→Dv.aJ G J A ι (Dv.aB []):=fun A hb=>S.still (fun b h=>hb.block b (S.AK b h)) (fun b h=>hb.block b (S.kS h)) (fun b h=>Dv.bD (hb.block b (Dv.fI h)))
 have TT:∀ A,Below w.heap.size w A→A.heap[w.heap.size]? = some (.cells #[x0,.slice ja s.jobs.length jc,x2,x3,x4,x5] 30 (0,0))→Dv.j5 J s A w.heap.size x0 (.slice ja s.jobs.length jc) x2 x3 x4 x5:=fun A hb hh=>
  ⟨hh,Dv.bq.mono (fun _ h=>h) (fun b h=>hb.block b (S.AK b h)) _ _ hds,hone⟩
 have hh0:((w.alloc (.cells #[x0,.slice ja s.jobs.length jc,x2,x3,x4,x5] 30)).alloc (.map #[] 0)).heap[w.heap.size]? = some (.cells #[x0,.slice ja s.jobs.length jc,x2,x3,x4,x5] 30 (0,0)):=
  (Below.block (Below.alloc (Below.refl _ _) (Nat.le_refl _) _) _ (by simp)).trans (World.alloc_heap_new _ _)
 have hsA:(w.alloc (.cells #[x0,.slice ja s.jobs.length jc,x2,x3,x4,x5] 30)).heap.size=w.heap.size+1:=by simp
 rw [hsA] at hm0
 gi_wp2_with (refine oO _ rfl _ _ _ 362 rfl 3 4 (Maps.int_keyed Tryz.underlying3) Tryz.underlying362 _ _ 0 _ rfl hm0 (by decide) _ _ _ rfl rfl (Maps.keyOf_int_mk Tryz.underlying3 hwf) _ [] (plainElem_bool Tryz.underlying4 true) ?_; intro w1 wk KG; have hb1:Below w.heap.size w w1:=ZR.grown KG ZR.size (fun r e=>by cases e; simp); have WK:=TT w1 hb1 ((KG.block _ (by simp; omega) (by simp)).trans hh0); obtain ⟨a0,a1,a2,a3,a4,a5⟩:=WK.cells)
 gi_loopw [14] (fun q wr=>∃ (k nn:Nat) (D:DataW Unit),q=.int .i64 k∧k≤s.jobs.length∧nn≤k+1∧wr.ownsMap Tryz.prog 3 (plainElem Tryz.prog 4) (w.heap.size+1) nn D∧(∀ x,Maps.has D (.int .i64 x)=true↔x∈Dv.pL s now k)∧Below w.heap.size w wr∧Dv.j5 J s wr w.heap.size x0 (.slice ja s.jobs.length jc) x2 x3 x4 x5)
  (fun q _=>s.jobs.length-(intOf q).toNat)
 case atStart=>
  refine ⟨0,1,_,rfl,Nat.zero_le _,Nat.le_refl _,wk,fun x=>?_,hb1,WK⟩
  rw [tZ ⟨_,rfl⟩ now x _ [] (fun x=>by simp [Maps.has])]
  simp [Dv.AE,Dv.pL]
 case round=>
  obtain ⟨k,nn,D,rfl,hk,XE,hown,hD,OX,XI⟩:=hrel
  obtain ⟨b0,b1,b2,b3,b4,b5⟩:=XI.cells
  rcases Nat.lt_or_ge k s.jobs.length with hlt | hge
  ·have hE:=(Dv.FG (G:=G) s h ((k+1:Nat):Int) now h0).num (hst wr OX) (vs:=#[.agg #[x0,.slice ja s.jobs.length jc,x2,x3,x4,x5],.int .i64 ((k+1:Nat):Int),.int .i64 now]) ⟨XI.arg,rfl,rfl,trivial⟩
   have hts:Dv.pL s now (k+1)=if 0≤Dv.rP (Dv.cZ s k) now then Dv.AE (Dv.pL s now k) (Dv.rP (Dv.cZ s k) now) else Dv.pL s now k:=rfl
   have her:=Dv.K7 (h.ends k hlt) ⟨n1,n2⟩
   rw [Dv.FH hlt,show ((k+1:Nat):Int)=(k:Int)+1 by omega] at hE
   generalize Dv.rP (Dv.cZ s k) now=e at hE hts her
   have hwe:=Zj e (by omega) (by omega)
   gi_wp2_with (first
    | (refine ⟨trivial,?_⟩; gi_at_call 351; refine (callsIn_wide.2 hE).mono ?_; rintro e3 w3 ⟨rfl,hb3⟩
       have Kt:=hown.kept (w':=w3) (row:=none) ⟨hb3.os,hb3.tape,hb3.output,hb3.size,fun k hk _=>hb3.block k hk⟩ (by simp))
    | (gi_at_mapUpdate; refine wpListIn_mapUpdate_own _ rfl _ _ _ 362 rfl 3 4 (Maps.int_keyed Tryz.underlying3) Tryz.underlying362 _ _ nn _ rfl Kt (by simp only [Go.maxLen]; omega) _ _ _ rfl rfl (Maps.keyOf_int_mk Tryz.underlying3 hwe) _ [] (plainElem_bool Tryz.underlying4 true) ?_; intro w4 Wd KF))
   ·have hge:0≤e:=‹0≤e›
    rw [if_pos hge] at hts
    have hsz3:=OX.size
    have aab:=hb3.size
    have hml:=hown.lt
    have hb4:Below w.heap.size w w4:=(OX.trans (hb3.mono OX.size)).grown KF (Nat.le_trans OX.size hb3.size) (fun r e=>by cases e; omega)
    have hbk:=XI.heap
    have TJ:=(Array.getElem?_eq_some_iff.1 hbk).1
    refine ⟨⟨k+1,nn+1,_,rfl,by omega,by omega,Wd,fun x=>?_,hb4,TT w4 hb4 ?_⟩,by simp [intOf]; omega⟩
    ·rw [hts]
     exact tZ Kt.isMap e x _ _ hD
    ·exact ((KF.block _ (by omega) (by simp)).trans (hb3.block _ TJ)).trans hbk
   ·have hge:e<0:=‹e<0›
    rw [if_neg (by omega)] at hts
    have hb4:Below w.heap.size w w3:=OX.trans (hb3.mono OX.size)
    have hbk:=XI.heap
    have TJ:=(Array.getElem?_eq_some_iff.1 hbk).1
    exact ⟨⟨k+1,nn,D,rfl,by omega,by omega,Kt,fun x=>by rw [hts]; exact hD x,hb4,TT w3 hb4 ((hb3.block _ TJ).trans hbk)⟩,by simp [intOf]; omega⟩
  ·obtain rfl:k=s.jobs.length:=by omega
   have hsz:=hown.size_le
   have hml:=hown.lt
   have hseq:SeqGives Fence.wide 2 Tryz.prog 361 #[.pointer (some ⟨wr.heap.size,0,none⟩)] encZ (fun ss=>ss.Perm (intKeys D)) (Maps.size D) (wr.alloc (.cells #[.map (some (w.heap.size+1))] 362)):=
    AnyZI.keys_gives (ρ:=Tryz.yI) { Tryz.PO with } Fence.wide _ trivial rfl (by omega) wr.heap.size (w.heap.size+1) nn D _ (by simp) (by simp) (hown.alloc _)
   have cK:∀ mb W,CallsIn Fence.wide 5 Tryz.prog 353 #[.map mb] W fun e w'=>e=.returned (.func (.func 361) #[] #[.pointer (some ⟨W.heap.size,0,none⟩)])∧w'=W.alloc (.cells #[.map mb] 362):=fun mb W=>AnyZI.keys_in Tryz.PO Fence.wide 5 trivial rfl mb W
   have cS:=AnyZI.sorted_in Tryz.LO Fence.wide 5 trivial trivial trivial trivial rfl (by omega) (Tryz.SE _) (enters_of Tryz.func360 (by kernel_rfl) rfl) 361 #[.pointer (some ⟨wr.heap.size,0,none⟩)] trivial (enters_of Tryz.func361 (by kernel_rfl) rfl) _ _ (by simp only [Go.maxLen]; omega) (by omega) _ hseq
   change CallsIn _ _ Tryz.prog 352 _ _ _ at cS
   have hpm:(Dv.pL s now s.jobs.length).Perm (intKeys D):=keys_perm hown (Maps.int_keyed Tryz.underlying3) Tryz.underlying3 (Dv.pK s now _) hD
   have hsb:=OX.size
   gi_wp2_with (first
    | (refine ⟨trivial,?_⟩; gi_at_call 353; refine (cK _ _).mono ?_; rintro e w' ⟨rfl,rfl⟩)
    | (refine ⟨trivial,?_⟩; gi_at_call 352; refine cS.mono ?_; rintro e w5 ⟨v,ss,rfl,hS,hrow,kW,hb5⟩))
   have hee:ss.mergeSort (fun x y=>decide (x≤y))=Dv.pN s now:=mergeSort_of_perm_i (hS.trans hpm.symm)
   have uQ:ss.length=(Dv.pN s now).length:=by rw [← hee,List.length_mergeSort]
   rw [hee,uQ] at hrow
   go_ret
   have hbw:Below w.heap.size w w5:=(OX.alloc hsb _).trans (hb5.mono (by simp; omega))
   exact ⟨v,rfl,Dv.H8 S hbw (by simp; omega) hrow⟩
end Go.Proofs
namespace Dv
open Go Go.Proofs
variable {G:Nat→Option (List DV)}
def PX:Nat×C×List RV:=(44,
(.seq (.af [qo 3 (.box 30 (.t 0)),
 qo 6 (.mv (qk 0)),
 qo 7 (.mv (qk 0)),
 qo 8 (.mv qf)])
 (.seq (.seq (.af [qo 13 (.bP 6 (.t 3)),
 qm 14 1,
 qo 15 (.call (.f 328) [(.t 13),(.t 14)]),
 qo 16 (.not (.t 15))])
 (.cond (.t 16) (.seq (.af [qo 6 (.mv (qk 0)),
 qo 7 (.mv (qk 0)),
 qo 8 (.mv qf)])
 .ret)
 .skip))
 (.seq (.seq (.af [qo 17 (.bP 6 (.t 3)),
 qm 18 2,
 qo 19 (.call (.f 338) [(.t 17),(.t 18)]),
 qo 20 (.len (.t 19)),
 qo 21 (.mv (qk 0))])
 (.block 0 (.loop (.seq (.af [qo 22 (.bin .lss (.t 21) (.t 20))])
 (.seq (.cond (.t 22) .skip
 (.exit 0))
 (.seq (.block 1 (.seq (.af [qo 23 (.eG 1 (.t 19) (.t 21)),
 qo 24 (.ld1 (.t 23)),
 qm 10 24])
 (.seq (.bQ [qo 26 (.bP 6 (.t 3)),
 qo 27 (.aj 1 (.t 3)),
 qd 28 (.ld1 (.t 27)) [1],
 qm 29 1,
 qd 30 (.bin .sub (.t 29) (qk 1)) [3],
 qd 31 (.eG 12 (.t 28) (.t 30)) [2,1,4,3],
 qd 32 (.bP 12 (.t 31)) [5,2,1,4,3],
 qo 33 (.bP 6 (.t 3)),
 qm 34 2,
 qm 35 10,
 qd 36 (.call (.f 339) [(.t 33),(.t 34),(.t 35)]) [7,8,9],
 qd 37 (.call (.f 326) [(.t 26),(.t 32),(.t 36)]) [0,6,5,2,1,4,3,10,7,8,9],
 qd 25 (.mv (.t 37)) [11,0,6,5,2,1,4,3,10,7,8,9],
 qd 38 (.ext (.t 25) 0) [12,11,0,6,5,2,1,4,3,10,7,8,9],
 qd 39 (.ext (.t 25) 1) [12,11,0,6,5,2,1,4,3,10,7,8,9],
 qd 11 (.mv (.t 38)) [13,12,11,0,6,5,2,1,4,3,10,7,8,9],
 qd 12 (.mv (.t 39)) [14,12,11,0,6,5,2,1,4,3,10,7,8,9,15,13]])
 (.seq (.af [qm 40 12])
 (.cond (.t 40) (.seq (.af [qm 41 10,
 qm 42 11,
 qm 6 41,
 qm 7 42,
 qo 8 (.mv qt)])
 .ret)
 .skip)))))
 (.af [qo 43 (.bin .add (.t 21) (qk 1)),
 qm 21 43])))))))
 (.seq (.af [qo 6 (.mv (qk 0)),
 qo 7 (.mv (qk 0)),
 qo 8 (.mv qf)])
 .ret)))),
[(.t 6),(.t 7),(.t 8)])
theorem MA:aq Tryz.prog Tryz.f329=some PX:=by kernel_rfl
def P9:Nat×C×List RV:=(79,
(.seq (.af [qo 3 (.box 30 (.t 0)),
 qo 6 (.mv (qk 0)),
 qo 7 (.mv qf)])
 (.seq (.af [qo 17 (.bP 6 (.t 3)),
 qo 18 (.call (.f 312) [(.t 17)]),
 qm 8 18])
 (.seq (.seq (.af [qo 19 (.bP 6 (.t 3)),
 qm 20 1,
 qo 21 (.call (.f 328) [(.t 19),(.t 20)]),
 qo 22 (.not (.t 21)),
 qm 23 22,
 qg 24 (.mv (.t 8)) 23 false,
 qg 25 (.eG 1 (.t 24) (qk 0)) 23 false,
 qg 26 (.ld1 (.t 25)) 23 false,
 qg 27 (.mv (.t 1)) 23 false,
 qg 28 (.bin .eql (.t 26) (.t 27)) 23 false,
 qo 29 (.pick (.t 23) qt (.t 28))])
 (.cond (.t 29) (.seq (.af [qo 6 (.mv (qk 0)),
 qo 7 (.mv qf)])
 .ret)
 .skip))
 (.seq (.af [qo 30 (.aj 1 (.t 3)),
 qo 31 (.ld1 (.t 30)),
 qm 32 1,
 qo 33 (.bin .sub (.t 32) (qk 1)),
 qo 34 (.eG 12 (.t 31) (.t 33)),
 qo 35 (.bP 12 (.t 34)),
 qo 9 (.new 119 [q0,q0,q0,q0,q0,q0,q0,q0,q0,q0,q0,q0]),
 qn (.st 12 (.t 9) (.t 35))])
 (.seq (.bQ [qo 37 (.bP 6 (.t 3)),
 qm 38 8,
 qd 39 (.eG 1 (.t 38) (qk 0)) [1],
 qd 40 (.ld1 (.t 39)) [2,1],
 qm 41 2,
 qd 42 (.call (.f 329) [(.t 37),(.t 40),(.t 41)]) [0,3,2,1,4],
 qd 36 (.mv (.t 42)) [5,0,3,2,1,4],
 qd 43 (.ext (.t 36) 0) [6,5,0,3,2,1,4],
 qd 44 (.ext (.t 36) 1) [6,5,0,3,2,1,4],
 qd 45 (.ext (.t 36) 2) [6,5,0,3,2,1,4],
 qd 10 (.mv (.t 43)) [7,6,5,0,3,2,1,4],
 qd 11 (.mv (.t 44)) [8,6,5,0,3,2,1,4,10,7],
 qd 12 (.mv (.t 45)) [9,6,5,0,3,2,1,4,11,8,10,7]])
 (.seq (.seq (.bQ [qo 47 (.bP 6 (.t 3)),
 qo 48 (.bP 12 (.t 9)),
 qo 49 (.bP 6 (.t 3)),
 qd 50 (.call (.f 327) [(.t 49)]) [2],
 qm 51 11,
 qd 52 (.bin .andNot (.t 50) (.t 51)) [3,2,4],
 qd 53 (.call (.f 326) [(.t 47),(.t 48),(.t 52)]) [0,1,5,3,2,4],
 qd 46 (.mv (.t 53)) [6,0,1,5,3,2,4],
 qd 54 (.ext (.t 46) 0) [7,6,0,1,5,3,2,4],
 qd 55 (.ext (.t 46) 1) [7,6,0,1,5,3,2,4],
 qd 13 (.mv (.t 54)) [8,7,6,0,1,5,3,2,4],
 qd 14 (.mv (.t 55)) [9,7,6,0,1,5,3,2,4,10,8]])
 (.seq (.af [qm 56 14])
 (.cond (.t 56) (.seq (.af [qm 57 13,
 qm 6 57,
 qo 7 (.mv qt)])
 .ret)
 .skip)))
 (.seq (.af [qo 59 (.bP 6 (.t 3)),
 qm 60 1,
 qo 61 (.call (.f 313) [(.t 59),(.t 60)]),
 qm 58 61,
 qo 62 (.ext (.t 58) 0),
 qo 63 (.ext (.t 58) 1),
 qm 15 62,
 qm 16 63])
 (.seq (.seq (.af [qm 64 12,
 qo 65 (.not (.t 64)),
 qm 66 65,
 qg 67 (.mv (.t 16)) 66 false,
 qg 68 (.not (.t 67)) 66 false,
 qo 69 (.pick (.t 66) qt (.t 68)),
 qm 70 69,
 qg 71 (.mv (.t 2)) 70 false,
 qg 72 (.aj 4 (.t 9)) 70 false,
 qg 73 (.ld1 (.t 72)) 70 false,
 qg 74 (.bin .add (.t 71) (.t 73)) 70 false,
 qg 75 (.mv (.t 10)) 70 false,
 qg 76 (.bin .gtr (.t 74) (.t 75)) 70 false,
 qo 77 (.pick (.t 70) qt (.t 76))])
 (.cond (.t 77) (.seq (.af [qo 6 (.mv (qk 0)),
 qo 7 (.mv qf)])
 .ret)
 .skip))
 (.seq (.af [qm 78 15,
 qm 6 78,
 qo 7 (.mv qt)])
 .ret))))))))),
[(.t 6),(.t 7)])
theorem MF:aq Tryz.prog Tryz.f314=some P9:=by kernel_rfl
def Qj:Nat×C×List RV:=(44,
(.seq (.af [qo 2 (.box 30 (.t 0)),
 qo 4 (.mv (qk 0)),
 qo 5 (.mv (qk 0)),
 qo 6 (.mv qf)])
 (.scope (.seq (.af [qo 7 (.mv (qk 0)),
 qo 8 (.mv (qk 0))])
 (.seq .skip
 (.seq (.seq (.af [qo 13 (.bP 6 (.t 2)),
 qo 14 (.call (.f 312) [(.t 13)]),
 qo 15 (.len (.t 14)),
 qo 16 (.mv (qk 0))])
 (.block 0 (.loop (.seq (.af [qo 17 (.bin .lss (.t 16) (.t 15))])
 (.seq (.cond (.t 17) .skip
 (.exit 0))
 (.seq (.block 1 (.seq (.af [qm 18 16,
 qo 19 (.eG 1 (.t 14) (.t 16)),
 qo 20 (.ld1 (.t 19)),
 qm 9 18,
 qm 10 20])
 (.seq (.af [qo 11 (.mv (qk 0)),
 qo 12 (.mv qf)])
 (.seq (.seq (.af [qm 21 9,
 qo 22 (.bin .eql (.t 21) (qk 0))])
 (.cond (.t 22) (.af [qo 24 (.bP 6 (.t 2)),
 qm 25 10,
 qo 26 (.call (.f 313) [(.t 24),(.t 25)]),
 qm 23 26,
 qo 27 (.ext (.t 23) 0),
 qo 28 (.ext (.t 23) 1),
 qm 11 27,
 qm 12 28])
 (.af [qo 30 (.bP 6 (.t 2)),
 qm 31 10,
 qm 32 1,
 qo 33 (.call (.f 314) [(.t 30),(.t 31),(.t 32)]),
 qm 29 33,
 qo 34 (.ext (.t 29) 0),
 qo 35 (.ext (.t 29) 1),
 qm 11 34,
 qm 12 35])))
 (.seq (.af [qm 36 12])
 (.cond (.t 36) (.seq (.af [qm 37 10,
 qm 38 11,
 qm 7 37,
 qm 8 38])
 (.exit 0))
 .skip))))))
 (.af [qo 39 (.bin .add (.t 16) (qk 1)),
 qm 16 39])))))))
 (.seq (.af [qm 40 7,
 qm 41 8,
 qm 42 7,
 qo 43 (.bin .gtr (.t 42) (qk 0)),
 qm 4 40,
 qm 5 41,
 qm 6 43])
 .ret)))))),
[(.t 4),(.t 5),(.t 6)])
theorem MQ:aq Tryz.prog Tryz.f289=some Qj:=by kernel_rfl
theorem Ke (l:List Int) (i:Nat) (h:i<l.length):(G3 l)[i]? = some [i64 (l.getD i 0)]:=by
 unfold G3
 rw [List.getElem?_map,List.getElem?_eq_getElem h]
 simp [List.getD,h]
theorem BN (l:List Int):(G3 l).length=l.length:=by unfold G3; rw [List.length_map]
theorem B5 (s:aa) (j:bU) (now:Int) (L:List Int) (i:Nat) (hi:i<L.length):mz s j now (L.drop i) =
  if (iq s j (CJ s now (L.getD i 0) s.jobs.length)).2=true then (L.getD i 0,(iq s j (CJ s now (L.getD i 0) s.jobs.length)).1,true) else mz s j now (L.drop (i+1)):=by
 rw [List.drop_eq_getElem_cons hi,show L.getD i 0=L[i] by simp [List.getD,hi]]
 rfl
def Xv (s:aa) (aN now:Int) (L:List Int) (k:Nat):St:=⟨[(1,.int aN),(2,.int now),(3,.ptr 0 0),(19,.d (.dY 1 (G3 L))),(20,.int L.length),(21,.int k)],[some (eM s)]⟩
set_option maxHeartbeats 8000000 in
theorem L1 (s:aa) (h:qD s) (aN now:Int) (h0:r_ now):bw Tryz.prog G 329 [bp s,.int aN,.int now] [] (.dP [.int (uu s aN now).1,.int (uu s aN now).2.1,.bool (uu s aN now).2.2]) []:=by
 refine bn Tryz.func329 (by decide) MA rfl rfl ?_
 simp only [PX,go_sem,simprocAttr]
 have hj:=h.jobs
 unfold uu
 refine aC (vC s hj aN) rfl rfl rfl rfl ?_; simp only [go_sem,simprocAttr]
 rcases qX s aN with ⟨h1,hq⟩ | ⟨h1,h2,hq⟩ | ⟨i,rfl,hi,h1,h2,hq⟩
 ·simp only [hq,go_sem,simprocAttr]
 ·simp only [hq,go_sem,simprocAttr]
 have e1:=succ_pred i (by omega)
 have e2:=uP s i
 have hgi:=aL (f:=dh) ax hi
 have hm:=h.most i hi
 have hjo:cZ s i=s.jobs.getD i ax:=rfl
 generalize s.jobs.getD i ax=x at hgi hjo hq
 rw [hjo] at e2 hm
 simp only [dh] at hgi
 by_cases h3:x.phase=0
 case neg=>simp only [hq,decide_eq_false h3,go_sem,simprocAttr]
 simp only [hq,decide_eq_true h3,go_sem,simprocAttr]
 refine aC (F3 s h now h0) rfl rfl rfl rfl ?_; simp only [go_sem,simprocAttr]
 have hL:=CT s now
 simp only [e2,BN,go_sem,simprocAttr]
 generalize pN s now=L at hL ⊢
 refine aY [1,2,3,19,20,21] [] (fun k:Nat=>k≤L.length∧mz s x now L=mz s x now (L.drop k)) (fun k=>L.length-k) (Xv s ((i+1:Nat):Int) now L) 0 ?_ ⟨Nat.zero_le _,rfl⟩ (fun k hk=>?_)
 ·simp only [Xv,eM,Int.natCast_zero,go_sem,simprocAttr]
 obtain ⟨hk,hN⟩:=hk
 simp only [Xv,eM,go_sem,simprocAttr]
 by_cases hlt:k<L.length
 case neg=>
  obtain rfl:k=L.length:=by omega
  rw [List.drop_length] at hN
  simp only [decide_eq_false (show ¬ ((L.length:Nat):Int)<((L.length:Nat):Int) by omega),hN,mz,go_sem,simprocAttr]
 have WA:=Ke L k hlt
 have hs:=B5 s x now L k hlt
 generalize L.getD k 0=t at WA hs
 rw [← hN] at hs
 simp only [decide_eq_true (show ((k:Nat):Int)<((L.length:Nat):Int) by omega),WA,e1,hgi,go_sem,simprocAttr]
 refine bf (Ud s h now t h0) rfl rfl rfl rfl ?_; simp only [go_sem,simprocAttr]
 refine bf (vF s x (CJ s now t s.jobs.length) h.nodes (Sq h now t _ (Nat.le_refl _)) hm) rfl rfl rfl rfl ?_; simp only [go_sem,simprocAttr]
 generalize iq s x (CJ s now t s.jobs.length)=r at hs ⊢
 obtain ⟨n,ok⟩:=r
 cases ok with
 | true=>
   rw [if_pos rfl] at hs
   simp only [hs,go_sem,simprocAttr]
 | false=>
   rw [if_neg Bool.false_ne_true] at hs
   simp only [go_sem,simprocAttr]
   refine bz (k+1) ?_ ?_ ⟨by omega,hs⟩ (by omega)
   ·simp only [go_sem,simprocAttr]
   simp only [Xv,eM,aG (show k<9223372036854775807 by omega),go_sem,simprocAttr]
theorem GM {s:aa} {aN:Int} (hq:fS s aN=true):0<(kr s).length:=by
 obtain ⟨i,_,hi⟩:=nO.1 hq
 exact List.length_pos_of_mem (JH.2 (gz.1 hi))
set_option maxHeartbeats 8000000 in
theorem KZ (s:aa) (h:qD s) (aN now:Int) (h0:r_ now):bw Tryz.prog G 314 [bp s,.int aN,.int now] [] (.dP [.int (uc s aN now).1,.bool (uc s aN now).2]) []:=by
 refine bn Tryz.func314 (by decide) MF rfl rfl ?_
 simp only [P9,go_sem,simprocAttr]
 have hj:=h.jobs
 have hn:=h.nodes
 unfold uc
 refine aC (BD s hj h.prio) rfl rfl rfl rfl ?_; simp only [go_sem,simprocAttr]
 refine aC (vC s hj aN) rfl rfl rfl rfl ?_; simp only [go_sem,simprocAttr]
 cases hq:fS s aN with
 | false=>simp only [go_sem,simprocAttr]
 | true=>
 have hl:=GM hq
 have hg0:=Bx (kr s) 0 hl
 have hh:((((kr s).getD 0 0+1:Nat):Int))=mV s:=rfl
 rw [hh] at hg0
 simp only [hg0,go_sem,simprocAttr]
 by_cases XH:mV s=aN
 ·simp only [XH,go_sem,simprocAttr]
 simp only [show (mV s==aN)=false from beq_eq_false_iff_ne.2 XH,XH,or_self,go_sem,simprocAttr]
 obtain ⟨i,rfl,hi⟩:=nO.1 hq
 have hil:=(gz.1 hi).1
 have e1:=succ_pred i (by omega)
 have e2:=uP s i
 have hgi:=aL (f:=dh) ax hil
 have hm:=h.most i hil
 have hE:=h.ends i hil
 have hjo:cZ s i=s.jobs.getD i ax:=rfl
 generalize s.jobs.getD i ax=x at hgi hjo
 rw [hjo] at e2 hm hE
 obtain ⟨w1,w2,w3⟩:=hE
 have hwr:IntKind.i64.wrap (now+x.work)=now+x.work:=aO (by have:=h0.1; omega) (by have:=h0.2; omega)
 simp only [dh] at hgi
 simp only [e1,e2,hgi,hg0,go_sem,simprocAttr]
 refine bf (L1 s h (mV s) now h0) rfl rfl rfl rfl ?_; simp only [go_sem,simprocAttr]
 have h6:=h.I8 (mV s) now
 generalize uu s (mV s) now=r at h6 ⊢
 obtain ⟨t,kept,ok⟩:=r
 simp only [go_sem,simprocAttr]
 refine bf (s_ s h.nodes) rfl rfl rfl rfl ?_; simp only [go_sem,simprocAttr]
 have hset:=(HY (D7 h.nodes) h6).1
 refine bf (vF s x (fC .i64 (pE s) kept) h.nodes hset hm) rfl rfl rfl rfl ?_; simp only [go_sem,simprocAttr]
 generalize iq s x (fC .i64 (pE s) kept)=pk
 obtain ⟨p1,p2⟩:=pk
 cases p2 with
 | true=>simp only [go_sem,simprocAttr]
 | false=>
   simp only [go_sem,simprocAttr]
   refine aC (E6 s h ((i+1:Nat):Int)) rfl rfl rfl rfl ?_; simp only [go_sem,simprocAttr]
   generalize vM s ((i+1:Nat):Int)=nw
   obtain ⟨n1,n2⟩:=nw
   cases ok with
   | false=>simp only [go_sem,simprocAttr]
   | true=>
     cases n2 with
     | false=>simp only [go_sem,simprocAttr]
     | true=>
       simp only [hwr,go_sem,simprocAttr]
       by_cases h5:t<now+x.work
       ·simp only [h5,go_sem,simprocAttr]
       ·simp only [h5,or_self,go_sem,simprocAttr]
def U7 (s:aa) (now:Int) (L:List Nat) (k:Nat):St:=⟨[(1,.int now),(2,.ptr 0 0),(7,.int 0),(8,.int 0),(14,.d (.dY 1 (jr L))),(15,.int L.length),(16,.int k)],[some (eM s)]⟩
set_option maxHeartbeats 8000000 in
theorem HX (s:aa) (h:qD s) (now:Int) (h0:r_ now):bw Tryz.prog G 289 [bp s,.int now] [] (.dP [.int (oh s now).1,.int (oh s now).2.1,.bool (oh s now).2.2]) []:=by
 refine bn Tryz.func289 (by decide) MQ rfl rfl ?_
 simp only [Qj,go_sem,simprocAttr]
 have hj:=h.jobs
 have hL:(kr s).length≤1000:=by
  have:=(pZ s).length_eq
  have:=l7 s s.jobs.length
  have e:eC s s.jobs.length=l8 s:=rfl
  rw [e] at this
  omega
 unfold oh
 refine aC (BD s hj h.prio) rfl rfl rfl rfl ?_; simp only [go_sem,simprocAttr]
 simp only [Bw,go_sem,simprocAttr]
 generalize kr s=L at hL ⊢
 refine aY [1,2,7,8,14,15,16] [] (fun k:Nat=>k≤L.length∧kT (vM s) (fun k=>uc s k now) L 0=kT (vM s) (fun k=>uc s k now) (L.drop k) k) (fun k=>L.length-k) (U7 s now L) 0 ?_ ⟨Nat.zero_le _,rfl⟩ (fun k hk=>?_)
 ·simp only [U7,eM,Int.natCast_zero,go_sem,simprocAttr]
 obtain ⟨hk,hN⟩:=hk
 simp only [U7,eM,go_sem,simprocAttr]
 by_cases hlt:k<L.length
 case neg=>
  obtain rfl:k=L.length:=by omega
  rw [List.drop_length] at hN
  simp only [decide_eq_false (show ¬ ((L.length:Nat):Int)<((L.length:Nat):Int) by omega),hN,kT,go_sem,simprocAttr] <;> rfl
 have WA:=Bx L k hlt
 have hs:=Bt (vM s) (fun k=>uc s k now) L k hlt
 have hpos:0<((L.getD k 0+1:Nat):Int):=by omega
 generalize ((L.getD k 0+1:Nat):Int)=aN at WA hs hpos
 rw [← hN] at hs
 simp only [decide_eq_true (show ((k:Nat):Int)<((L.length:Nat):Int) by omega),WA,go_sem,simprocAttr]
 by_cases hk0:k=0
 case pos=>
  simp only [if_pos hk0] at hs
  simp only [show (((k:Nat):Int)==0)=true from beq_iff_eq.2 (by omega),go_sem,simprocAttr]
  refine aC (E6 s h aN) rfl rfl rfl rfl ?_; simp only [go_sem,simprocAttr]
  generalize vM s aN=r at hs ⊢
  obtain ⟨n,ok⟩:=r
  cases ok with
  | true=>
    rw [if_pos rfl] at hs
    simp only [hs,decide_eq_true (show aN>0 from hpos),go_sem,simprocAttr]
  | false=>
    rw [if_neg Bool.false_ne_true] at hs
    simp only [go_sem,simprocAttr]
    refine bz (k+1) ?_ ?_ ⟨by omega,hs⟩ (by omega)
    ·simp only [go_sem,simprocAttr]
    simp only [U7,eM,aG (show k<9223372036854775807 by omega),go_sem,simprocAttr]
 case neg=>
  simp only [if_neg hk0] at hs
  simp only [show (((k:Nat):Int)==0)=false from beq_eq_false_iff_ne.2 (by omega),go_sem,simprocAttr]
  refine aC (KZ s h aN now h0) rfl rfl rfl rfl ?_; simp only [go_sem,simprocAttr]
  generalize uc s aN now=r at hs ⊢
  obtain ⟨n,ok⟩:=r
  cases ok with
  | true=>
    rw [if_pos rfl] at hs
    simp only [hs,decide_eq_true (show aN>0 from hpos),go_sem,simprocAttr]
  | false=>
    rw [if_neg Bool.false_ne_true] at hs
    simp only [go_sem,simprocAttr]
    refine bz (k+1) ?_ ?_ ⟨by omega,hs⟩ (by omega)
    ·simp only [go_sem,simprocAttr]
    simp only [U7,eM,aG (show k<9223372036854775807 by omega),go_sem,simprocAttr]
end Dv
