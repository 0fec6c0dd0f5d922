/- The logical machine and its plain laws: parts C10, C11, C12, C13, C14, proved sound. -/
import Derived.Test.YtkalnfkokkjliaaGreatDoorCA
import Derived.Test.YtkalnfkokkjliaaGreatDoorA2
import Derived.Test.YtkalnfkokkjliaaGreatDoorNA
import Derived.Test.YtkalnfkokkjliaaGreatDoorI0
import Derived.Test.YtkalnfkokkjliaaGreatDoorGA
import Derived.Test.YtkalnfkokkjliaaGreatDoorA1
set_option linter.unusedVariables false
set_option linter.unusedSimpArgs false
namespace Dv
open Go Go.Proofs
variable {G:Nat→Option (List DV)}
def tX:Nat×C×List RV:=(88,
(.seq (.af [qo 3 (.box 30 (.t 0)),
 qo 6 (.new 87 [q0,q0,q0,q0,q0,q0,q0,q0,q0,q0,q0]),
 qo 7 (.mv qf)])
 (.seq (.seq (.af [qm 11 1,
 qo 12 (.bin .lss (.t 11) (qk 0)),
 qm 13 12,
 qg 14 (.mv (.t 1)) 13 false,
 qg 15 (.aj 0 (.t 3)) 13 false,
 qg 16 (.ld1 (.t 15)) 13 false,
 qg 17 (.len (.t 16)) 13 false,
 qg 18 (.bin .geq (.t 14) (.t 17)) 13 false,
 qo 19 (.pick (.t 13) qt (.t 18)),
 qm 20 19,
 qg 21 (.aj 0 (.t 3)) 20 false,
 qg 22 (.ld1 (.t 21)) 20 false,
 qg 23 (.mv (.t 1)) 20 false,
 qg 24 (.eG 5 (.t 22) (.t 23)) 20 false,
 qg 25 (.aj 0 (.t 24)) 20 false,
 qg 26 (.ld1 (.t 25)) 20 false,
 qg 27 (.not (.t 26)) 20 false,
 qo 28 (.pick (.t 20) qt (.t 27))])
 (.cond (.t 28) (.seq (.af [qo 29 (.build [q0,q0,q0,q0,q0,q0,q0,q0,q0,q0,q0] []),
 qn (.st 11 (.t 6) (.t 29)),
 qo 7 (.mv qf)])
 .ret)
 .skip))
 (.seq (.af [qo 30 (.aj 0 (.t 3)),
 qo 31 (.ld1 (.t 30)),
 qm 32 1,
 qo 33 (.eG 5 (.t 31) (.t 32)),
 qo 34 (.bP 5 (.t 33)),
 qo 8 (.new 102 [(.val (.bool false)),(.val (.bool false)),(.val (.bool false)),q0,q0]),
 qn (.st 5 (.t 8) (.t 34))])
 (.seq (.af [qm 35 1,
 qo 36 (.build [q0,q0,q0,q0,q0,q0,q0,q0,q0,q0,q0] [(0,1,(.t 35)),(1,1,(qk 1))]),
 qo 9 (.new 87 [q0,q0,q0,q0,q0,q0,q0,q0,q0,q0,q0]),
 qn (.st 11 (.t 9) (.t 36))])
 (.seq (.seq (.af [qo 37 (.aj 2 (.t 8)),
 qo 38 (.ld1 (.t 37))])
 (.cond (.t 38) (.af [qo 39 (.bP 6 (.t 3)),
 qo 40 (.call (.f 220) [(.t 39)]),
 qo 41 (.aj 1 (.t 9)),
 qn (.st 1 (.t 41) (qk 5)),
 qo 42 (.aj 6 (.t 9)),
 qn (.st 1 (.t 42) (.t 40))])
 .skip))
 (.seq (.seq (.af [qo 43 (.aj 4 (.t 8)),
 qo 44 (.ld1 (.t 43)),
 qo 45 (.bin .eql (.t 44) (qk 0))])
 (.cond (.t 45) (.seq (.af [qo 46 (.bP 11 (.t 9)),
 qn (.st 11 (.t 6) (.t 46)),
 qo 7 (.mv qt)])
 .ret)
 .skip))
 (.seq (.af [qo 47 (.aj 1 (.t 3)),
 qo 48 (.ld1 (.t 47)),
 qo 49 (.aj 4 (.t 8)),
 qo 50 (.ld1 (.t 49)),
 qo 51 (.bin .sub (.t 50) (qk 1)),
 qo 52 (.eG 12 (.t 48) (.t 51)),
 qo 53 (.bP 12 (.t 52)),
 qo 10 (.new 119 [q0,q0,q0,q0,q0,q0,q0,q0,q0,q0,q0,q0]),
 qn (.st 12 (.t 10) (.t 53))])
 (.seq (.bQ [qo 54 (.aj 4 (.t 8)),
 qd 55 (.ld1 (.t 54)) [0],
 qo 56 (.aj 7 (.t 10)),
 qd 57 (.ld1 (.t 56)) [2],
 qd 58 (.aj 4 (.t 9)) [0,1],
 ql (.st 1 (.t 58) (.t 55)) [4,0,1],
 qd 59 (.aj 5 (.t 9)) [0,1,2,3,4,5],
 ql (.st 1 (.t 59) (.t 57)) [6,0,1,2,3,4,5]])
 (.seq (.seq (.af [qo 60 (.aj 6 (.t 10)),
 qo 61 (.ld1 (.t 60))])
 (.block 0 (.seq (.block 4 (.seq (.block 3 (.seq (.block 2 (.seq (.block 1 (.seq (.seq (.seq (.af [qo 63 (.bin .eql (.t 61) (qk 2)),
 qm 62 63])
 (.cond (.t 62) (.exit 1)
 .skip))
 (.seq (.seq (.af [qo 65 (.bin .eql (.t 61) (qk 3)),
 qm 64 65])
 (.cond (.t 64) (.exit 2)
 .skip))
 (.seq (.af [qo 67 (.bin .eql (.t 61) (qk 1)),
 qm 66 67])
 (.cond (.t 66) (.exit 3)
 .skip))))
 (.exit 4)))
 (.seq (.seq (.bQ [qo 68 (.aj 11 (.t 10)),
 qd 69 (.ld1 (.t 68)) [0],
 qo 70 (.bP 6 (.t 3)),
 qo 71 (.aj 4 (.t 8)),
 qd 72 (.ld1 (.t 71)) [3],
 qm 73 2,
 qd 74 (.call (.f 248) [(.t 70),(.t 72),(.t 73)]) [2,4,3,5],
 qd 75 (.aj 7 (.t 9)) [0,1],
 ql (.st 1 (.t 75) (.t 69)) [7,0,1,6,2,4,3,5],
 qd 76 (.aj 10 (.t 9)) [0,1,2,3,4,5,6,7,8],
 ql (.st 1 (.t 76) (.t 74)) [9,0,1,2,3,4,5,6,7,8]])
 (.af [qo 77 (.aj 1 (.t 9)),
 qn (.st 1 (.t 77) (qk 3))]))
 (.exit 0))))
 (.seq (.seq (.af [qo 78 (.bP 12 (.t 10)),
 qm 79 1,
 qo 80 (.call (.f 249) [(.t 78),(.t 79)]),
 qo 81 (.aj 9 (.t 9)),
 qn (.st 1 (.t 81) (.t 80))])
 (.af [qo 82 (.aj 1 (.t 9)),
 qn (.st 1 (.t 82) (qk 4))]))
 (.exit 0))))
 (.af [qo 83 (.aj 3 (.t 8)),
 qo 84 (.ld1 (.t 83)),
 qo 85 (.aj 6 (.t 9)),
 qn (.st 1 (.t 85) (.t 84))])))
 (.seq (.af [qo 86 (.aj 1 (.t 9)),
 qn (.st 1 (.t 86) (qk 2))])
 (.exit 0)))))
 (.seq (.af [qo 87 (.bP 11 (.t 9)),
 qn (.st 11 (.t 6) (.t 87)),
 qo 7 (.mv qt)])
 .ret)))))))))),
[(.cn 6 11),(.t 7)])
theorem mj:aq Tryz.prog Tryz.f201=some tX:=by kernel_rfl
def Q8:Nat×C×List RV:=(10,
(.seq (.af [qo 2 (.box 87 (.t 0)),
 qo 3 (.box 87 (.t 1)),
 qo 4 (.mv qf)])
 (.seq (.bQ [qo 5 (.bP 11 (.t 2)),
 qd 6 (.call (.f 250) [(.t 5)]) [0],
 qo 7 (.bP 11 (.t 3)),
 qd 8 (.call (.f 250) [(.t 7)]) [2,1,0],
 qd 9 (.eqs false [0,0,0,0,0,0,0,0,0,0,0] (.t 6) (.t 8)) [1,0,3,2],
 qd 4 (.mv (.t 9)) [4,1,0,3,2]])
 .ret)),
[(.t 4)])
theorem Ny:aq Tryz.prog Tryz.f202=some Q8:=by kernel_rfl
def QE:Nat×C×List RV:=(11,
(.seq (.af [qo 2 (.box 119 (.t 0)),
 qo 4 (.mv (qk 0))])
 (.seq (.seq (.af [qo 5 (.aj 8 (.t 2)),
 qo 6 (.ld1 (.t 5)),
 qo 7 (.y2 .u64 (.t 6)),
 qo 8 (.call (.f 292) [(.t 7)]),
 qm 9 1,
 qo 10 (.bin .eql (.t 8) (.t 9))])
 (.cond (.t 10) (.seq (.af [qo 4 (.mv (qk 1))])
 .ret)
 .skip))
 (.seq (.af [qo 4 (.mv (qk 0))])
 .ret))),
[(.t 4)])
theorem Na:aq Tryz.prog Tryz.f249=some QE:=by kernel_rfl
def QC:Nat×C×List RV:=(7,
(.seq (.af [qo 1 (.box 87 (.t 0)),
 qo 2 (.new 87 [q0,q0,q0,q0,q0,q0,q0,q0,q0,q0,q0])])
 (.seq (.af [qo 3 (.aj 2 (.t 1)),
 qn (.st 1 (.t 3) (qk 0)),
 qo 4 (.aj 3 (.t 1)),
 qn (.st 1 (.t 4) (qk 0)),
 qo 5 (.aj 8 (.t 1)),
 qn (.st 1 (.t 5) (qk 0))])
 (.seq (.af [qo 6 (.bP 11 (.t 1)),
 qn (.st 11 (.t 2) (.t 6))])
 .ret))),
[(.cn 2 11)])
theorem M_:aq Tryz.prog Tryz.f250=some QC:=by kernel_rfl
def fB (m:dc):dc:={ m with term:=0,gen:=0,til:=0 }
theorem Co (m:dc):bw Tryz.prog G 250 [vU m] [] (vU (fB m)) []:=by
 refine bn Tryz.func250 (by decide) M_ rfl rfl ?_
 simp only [QC,go_sem,simprocAttr]
 simp only [fB,go_sem,simprocAttr]
def AD (a b:dc):Bool:=((fB a).node==(fB b).node&&((fB a).kind==(fB b).kind&&((fB a).term==(fB b).term&&((fB a).gen==(fB b).gen&&((fB a).aN==(fB b).aN&&((fB a).inc==(fB b).inc&&((fB a).version==(fB b).version&&((fB a).epoch==(fB b).epoch&&((fB a).til==(fB b).til&&((fB a).mode==(fB b).mode&&(fB a).work==(fB b).work))))))))))
theorem H7 (a b:dc):bw Tryz.prog G 202 [vU a,vU b] [] (.bool (AD a b)) []:=by
 have ha:=Co (G:=G) a
 have hb:=Co (G:=G) b
 unfold AD
 refine bn Tryz.func202 (by decide) Ny rfl rfl ?_
 simp only [Q8,go_sem,simprocAttr]
 refine bf (ha) rfl rfl rfl rfl ?_; simp only [go_sem,simprocAttr]
 refine bf (hb) rfl rfl rfl rfl ?_; simp only [go_sem,simprocAttr]
def US (m:Int):Int:=if hasB m 0=true then 0 else if hasB m 1=true then 1 else if hasB m 2=true then 2 else if hasB m 3=true then 3 else if hasB m 4=true then 4 else if hasB m 5=true then 5 else 64
noncomputable def UR (m:Nat):Bool:=match oQ dI (pO (lH Tryz.prog) []) 200 20 false 292 [.d (.val (.int .u64 m))] [] with
 | some (r,o)=>l5 [r] [.int (US m)]&&qP o []
 | none=>false
theorem SD:(List.range 64).all UR=true:=by kernel_rfl
theorem SC (m:Nat) (hm:m<64):bw Tryz.prog dI 292 [.d (.val (.int .u64 m))] [] (.int (US m)) []:=by
 have h:=List.all_eq_true.1 SD m (List.mem_range.2 hm)
 unfold UR at h
 split at h
 ·rename_i r o hr
  rw [Bool.and_eq_true] at h
  obtain ⟨h1,h2⟩:=h
  have h3:=lC _ _ h1
  have h4:=pQ h2
  cases h3
  cases h4
  exact jk (l:=[]) (fun _ h=>by cases h) hr
 ·cases h
theorem CM (j:bU) (i:Nat) (hj:0≤j.nodes∧j.nodes<64):bw Tryz.prog dI 249 [zW j,.int i] [] (.int (if US j.nodes=i then 1 else 0)) []:=by
 obtain ⟨m,hm⟩:∃ m:Nat,j.nodes=m:=⟨j.nodes.toNat,by omega⟩
 have hT:=SC m (by omega)
 have hw:IntKind.u64.wrap (m:Int)=m:=by
  show (m:Int) % 18446744073709551616=m
  omega
 rw [hm]
 refine bn Tryz.func249 (by decide) Na rfl rfl ?_
 simp only [QE,go_sem,simprocAttr]
 simp only [hm,hw,go_sem,simprocAttr]
 refine aC (hT) rfl rfl rfl rfl ?_; simp only [go_sem,simprocAttr]
 by_cases h:US (m:Int)=(i:Int)
 ·simp only [h,go_sem,simprocAttr]
 ·simp only [beq_eq_false_iff_ne.2 h,h,go_sem,simprocAttr]
def jP (s:aa) (had:Int→Int) (i:Nat):Option dc:=
 if (dm s i).up=false then none else
 if (dm s i).aN=0 then some ⟨i,if (dm s i).bu=true then 5 else 1,0,0,0,0,if (dm s i).bu=true then fk s else 0,0,0,0,0⟩ else
 if (cZ s ((dm s i).aN-1).toNat).phase=2 then some ⟨i,3,0,0,(dm s i).aN,(cZ s ((dm s i).aN-1).toNat).inc,if (dm s i).bu=true then fk s else 0,(cZ s ((dm s i).aN-1).toNat).epoch,0,0,had (dm s i).aN⟩ else
 if (cZ s ((dm s i).aN-1).toNat).phase=3 then some ⟨i,4,0,0,(dm s i).aN,(cZ s ((dm s i).aN-1).toNat).inc,if (dm s i).bu=true then fk s else 0,0,0,if US (cZ s ((dm s i).aN-1).toNat).nodes=i then 1 else 0,0⟩ else
 if (cZ s ((dm s i).aN-1).toNat).phase=1 then some ⟨i,2,0,0,(dm s i).aN,(cZ s ((dm s i).aN-1).toNat).inc,(dm s i).version,0,0,0,0⟩ else
 some ⟨i,2,0,0,(dm s i).aN,(cZ s ((dm s i).aN-1).toNat).inc,if (dm s i).bu=true then fk s else 0,0,0,0,0⟩
def gi (q:Option dc):LV:=.dP [vU (q.getD gO),.bool q.isSome]
set_option maxHeartbeats 2000000 in
theorem Gx (c:aH) (s:aa) (h:bT c s) (had:Int→Int) (i:Nat) (hi:i<s.nodes.length) (room term:Int) (sh:List ni) (wr:Int) (hh:∀ j:Int,1≤j∧j≤s.jobs.length→bw Tryz.prog dI 248 [bp s,.int j,.ptr 0 0] (jA room term sh wr) (.int (had j)) (jA room term sh wr)) :
  bw Tryz.prog dI 201 [bp s,.int i,.ptr 0 0] (jA room term sh wr) (gi (jP s had i)) (jA room term sh wr):=by
 have hg:=aL (f:=ck) ag hi
 have hM:=iE (G:=dI) s
 have KB:=h.aN i hi
 have Yz:=h.bu i hi
 have hlj:=h.jobs
 unfold jP gi
 have hN:dm s i=s.nodes.getD i ag:=rfl
 rw [hN] at KB Yz ⊢
 generalize s.nodes.getD i ag=n at *
 obtain ⟨up,co,mo,ve,jo⟩:=n
 dsimp only at KB Yz ⊢
 simp only [ck] at hg
 have c1:i<s.nodes.length:=hi
 cases up with
 | false=>
   simp only [if_true]
   refine aR Tryz.func201 (by decide) mj rfl rfl (fo _ _ _ _ _) rfl ?_
   simp only [jA,tX,go_sem,simprocAttr]
   simp only [decide_eq_false (show ¬ ((i:Nat):Int)<0 by omega),decide_eq_false (show ¬ ((i:Nat):Int)≥(s.nodes.length:Nat) by omega),hg,Option.getD_none,Option.isSome_none,go_sem,simprocAttr]
 | true=>
 simp only [Bool.true_eq_false,if_false]
 by_cases hj0:jo=0
 ·subst hj0
  simp only [if_true]
  cases mo with
  | true=>
    refine aR Tryz.func201 (by decide) mj rfl rfl (fo _ _ _ _ _) rfl ?_
    simp only [jA,tX,go_sem,simprocAttr]
    simp only [decide_eq_false (show ¬ ((i:Nat):Int)<0 by omega),decide_eq_false (show ¬ ((i:Nat):Int)≥(s.nodes.length:Nat) by omega),hg,Option.getD_some,Option.isSome_some,go_sem,simprocAttr]
    refine aC (hM) rfl rfl rfl rfl ?_; simp only [go_sem,simprocAttr]
  | false=>
    refine aR Tryz.func201 (by decide) mj rfl rfl (fo _ _ _ _ _) rfl ?_
    simp only [jA,tX,go_sem,simprocAttr]
    simp only [decide_eq_false (show ¬ ((i:Nat):Int)<0 by omega),decide_eq_false (show ¬ ((i:Nat):Int)≥(s.nodes.length:Nat) by omega),hg,Option.getD_some,Option.isSome_some,go_sem,simprocAttr]
 have hmo:mo=false:=by
  cases mo with
  | false=>rfl
  | true=>exact absurd (Yz rfl).2.2 hj0
 subst hmo
 obtain ⟨k,hk⟩:∃ k:Nat,jo=k+1:=⟨(jo-1).toNat,by omega⟩
 have hkl:k<s.jobs.length:=by omega
 have Io:=aL (f:=dh) ax hkl
 have hJ:cZ s (jo-1).toNat=s.jobs.getD k ax:=by unfold cZ; rw [show (jo-1).toNat=k by omega]
 have FA:=FP h hkl
 have Wz:=hh jo (by omega)
 rw [hJ]
 unfold cZ at FA
 generalize s.jobs.getD k ax=j at *
 simp only [dh] at Io
 have hw:IntKind.i64.wrap (jo-1)=k:=by rw [aO (by omega) (by omega)]; omega
 have hwr:=CM j i FA
 simp only [hj0,if_false]
 have hjb:(jo==0)=false:=beq_eq_false_iff_ne.2 hj0
 simp only [jA,List.cons_append,List.nil_append] at Wz
 by_cases p2:j.phase=2
 ·have b2:(j.phase==2)=true:=beq_iff_eq.2 p2
  rw [if_pos p2]
  refine aR Tryz.func201 (by decide) mj rfl rfl (fo _ _ _ _ _) rfl ?_
  simp only [jA,tX,go_sem,simprocAttr]
  simp only [decide_eq_false (show ¬ ((i:Nat):Int)<0 by omega),decide_eq_false (show ¬ ((i:Nat):Int)≥(s.nodes.length:Nat) by omega),hg,Option.getD_some,Option.isSome_some,go_sem,simprocAttr]
  simp only [hjb,hw,Io,go_sem,simprocAttr]
  refine av rfl ?_
  simp only [b2,go_sem,simprocAttr]
  refine er [0] (Wz) rfl ?_ (by decide) ?_ ?_ ?_ <;> simp only [ah,ai,go_sem,simprocAttr,bA,bN,aP,bh]
  refine av rfl ?_
  simp only [go_sem,simprocAttr]
 have b2:(j.phase==2)=false:=beq_eq_false_iff_ne.2 p2
 rw [if_neg p2]
 by_cases p3:j.phase=3
 ·have b3:(j.phase==3)=true:=beq_iff_eq.2 p3
  rw [if_pos p3]
  refine aR Tryz.func201 (by decide) mj rfl rfl (fo _ _ _ _ _) rfl ?_
  simp only [jA,tX,go_sem,simprocAttr]
  simp only [decide_eq_false (show ¬ ((i:Nat):Int)<0 by omega),decide_eq_false (show ¬ ((i:Nat):Int)≥(s.nodes.length:Nat) by omega),hg,Option.getD_some,Option.isSome_some,go_sem,simprocAttr]
  simp only [hjb,hw,Io,go_sem,simprocAttr]
  refine av rfl ?_
  simp only [b2,b3,go_sem,simprocAttr]
  refine aC (hwr) rfl rfl rfl rfl ?_; simp only [go_sem,simprocAttr]
 have b3:(j.phase==3)=false:=beq_eq_false_iff_ne.2 p3
 rw [if_neg p3]
 by_cases p1:j.phase=1
 ·have b1:(j.phase==1)=true:=beq_iff_eq.2 p1
  rw [if_pos p1]
  refine aR Tryz.func201 (by decide) mj rfl rfl (fo _ _ _ _ _) rfl ?_
  simp only [jA,tX,go_sem,simprocAttr]
  simp only [decide_eq_false (show ¬ ((i:Nat):Int)<0 by omega),decide_eq_false (show ¬ ((i:Nat):Int)≥(s.nodes.length:Nat) by omega),hg,Option.getD_some,Option.isSome_some,go_sem,simprocAttr]
  simp only [hjb,hw,Io,go_sem,simprocAttr]
  refine av rfl ?_
  simp only [b1,b2,b3,go_sem,simprocAttr]
 have b1:(j.phase==1)=false:=beq_eq_false_iff_ne.2 p1
 rw [if_neg p1]
 refine aR Tryz.func201 (by decide) mj rfl rfl (fo _ _ _ _ _) rfl ?_
 simp only [jA,tX,go_sem,simprocAttr]
 simp only [decide_eq_false (show ¬ ((i:Nat):Int)<0 by omega),decide_eq_false (show ¬ ((i:Nat):Int)≥(s.nodes.length:Nat) by omega),hg,Option.getD_some,Option.isSome_some,go_sem,simprocAttr]
 simp only [hjb,hw,Io,go_sem,simprocAttr]
 refine av rfl ?_
 simp only [b1,b2,b3,go_sem,simprocAttr]
end Dv
namespace Dv
open Go Go.Proofs
variable {G:Nat→Option (List DV)}
def Qi:Nat×C×List RV:=(40,
(.seq (.af [qo 6 (.mv (.c (.val (.slice none 0 0)))),
 qo 7 (.mv qf)])
 (.seq (.af [qm 11 0,
 qm 12 1,
 qo 13 (.call (.f 126) [(.t 11),(.t 12)]),
 qm 8 13])
 (.seq (.seq (.af [qm 14 8,
 qo 15 (.ic false (.t 14)),
 qm 16 15,
 qg 17 (.mv (.t 2)) 16 false,
 qg 18 (.bin .lss (.t 17) (qk 1)) 16 false,
 qo 19 (.pick (.t 16) qt (.t 18))])
 (.cond (.t 19) (.seq (.af [qo 6 (.mv (.c (.val (.slice none 0 0)))),
 qo 7 (.mv qf)])
 .ret)
 .skip))
 (.seq (.seq (.bQ [qm 20 8,
 qd 21 (.aV (.t 20)) [0],
 qd 22 (.aj 0 (.t 21)) [1,0],
 qd 23 (.bP 2 (.t 22)) [2,1,0],
 qm 24 8,
 qd 25 (.aV (.t 24)) [4],
 qd 26 (.aj 2 (.t 25)) [5,4],
 qd 27 (.bP 2 (.t 26)) [6,5,4],
 qd 28 (.build [q0,(.val (.slice none 0 0)),q0,(.val (.slice none 0 0))] [(0,2,(.t 23)),(2,2,(.t 27))]) [3,2,1,0,7,6,5,4],
 qo 29 (.mv (qk 0))])
 (.block 0 (.loop (.seq (.af [qo 30 (.bin .lss (.t 29) (qk 2))])
 (.seq (.cond (.t 30) .skip
 (.exit 0))
 (.seq (.block 1 (.seq (.af [qo 31 (.PS 2 2 (.t 28) (.t 29)),
 qo 10 (.new 185 [q0,(.val (.slice none 0 0))]),
 qn (.st 2 (.t 10) (.t 31))])
 (.seq (.af [qo 32 (.aj 0 (.t 10)),
 qo 33 (.ld1 (.t 32)),
 qm 34 2,
 qo 35 (.bin .eql (.t 33) (.t 34))])
 (.cond (.t 35) (.seq (.af [qo 36 (.aj 1 (.t 10)),
 qo 37 (.ld1 (.t 36)),
 qo 38 (.call (.f 84) [(.t 37)]),
 qm 6 38,
 qo 7 (.mv qt)])
 .ret)
 .skip))))
 (.af [qo 39 (.bin .add (.t 29) (qk 1)),
 qm 29 39])))))))
 (.seq (.af [qo 6 (.mv (.c (.val (.slice none 0 0)))),
 qo 7 (.mv qf)])
 .ret))))),
[(.t 6),(.t 7)])
theorem MP:aq Tryz.prog Tryz.f290=some Qi:=by kernel_rfl
def Qh:Nat×C×List RV:=(37,
(.seq (.af [qo 4 (.mv (.c (.val (.string ⟨#[]⟩)))),
 qo 5 (.mv (qk 0)),
 qo 6 (.mv qf)])
 (.seq (.af [qm 11 0,
 qm 12 1,
 qo 13 (.call (.f 172) [(.t 11),(.t 12)]),
 qm 10 13,
 qo 14 (.ext (.t 10) 0),
 qo 15 (.ext (.t 10) 1),
 qo 16 (.ext (.t 10) 2),
 qm 7 14,
 qm 8 15,
 qm 9 16])
 (.seq (.seq (.af [qm 17 9,
 qo 18 (.not (.t 17)),
 qm 19 18,
 qg 20 (.mv (.t 7)) 19 false,
 qg 21 (.mv (.t 0)) 19 false,
 qg 22 (.len (.t 21)) 19 false,
 qg 23 (.mv (.t 8)) 19 false,
 qg 24 (.bin .sub (.t 22) (.t 23)) 19 false,
 qg 25 (.bin .gtr (.t 20) (.t 24)) 19 false,
 qo 26 (.pick (.t 19) qt (.t 25))])
 (.cond (.t 26) (.seq (.af [qo 4 (.mv (.c (.val (.string ⟨#[]⟩)))),
 qo 5 (.mv (qk 0)),
 qo 6 (.mv qf)])
 .ret)
 .skip))
 (.seq (.af [qm 27 0,
 qm 28 8,
 qm 29 8,
 qm 30 7,
 qo 31 (.bin .add (.t 29) (.t 30)),
 qo 32 (.zm 1 (.t 27) (some (.t 28)) (some (.t 31)) none),
 qo 33 (.more (.UM (.t 32))),
 qm 34 8,
 qm 35 7,
 qo 36 (.bin .add (.t 34) (.t 35)),
 qm 4 33,
 qm 5 36,
 qo 6 (.mv qt)])
 .ret)))),
[(.t 4),(.t 5),(.t 6)])
theorem MO:aq Tryz.prog Tryz.f291=some Qh:=by kernel_rfl
def QF:Nat×C×List RV:=(78,
(.seq (.af [qo 3 (.box 30 (.t 0)),
 qo 6 (.mv (qk 0))])
 (.seq (.seq (.af [qm 15 1,
 qo 16 (.bin .lss (.t 15) (qk 1)),
 qm 17 16,
 qg 18 (.mv (.t 1)) 17 false,
 qg 19 (.aj 1 (.t 3)) 17 false,
 qg 20 (.ld1 (.t 19)) 17 false,
 qg 21 (.len (.t 20)) 17 false,
 qg 22 (.bin .gtr (.t 18) (.t 21)) 17 false,
 qo 23 (.pick (.t 17) qt (.t 22)),
 qm 24 23,
 qg 25 (.aj 1 (.t 3)) 24 false,
 qg 26 (.ld1 (.t 25)) 24 false,
 qg 27 (.mv (.t 1)) 24 false,
 qg 28 (.bin .sub (.t 27) (qk 1)) 24 false,
 qg 29 (.eG 12 (.t 26) (.t 28)) 24 false,
 qg 30 (.aj 11 (.t 29)) 24 false,
 qg 31 (.ld1 (.t 30)) 24 false,
 qg 32 (.bin .eql (.t 31) (qk 0)) 24 false,
 qo 33 (.pick (.t 24) qt (.t 32))])
 (.cond (.t 33) (.seq (.af [qo 6 (.mv (qk 0))])
 .ret)
 .skip))
 (.seq (.af [qm 35 2,
 qm 36 1,
 qo 37 (.aj 1 (.t 3)),
 qo 38 (.ld1 (.t 37)),
 qm 39 1,
 qo 40 (.bin .sub (.t 39) (qk 1)),
 qo 41 (.eG 12 (.t 38) (.t 40)),
 qo 42 (.aj 11 (.t 41)),
 qo 43 (.ld1 (.t 42)),
 qo 44 (.call (.f 290) [(.t 35),(.t 36),(.t 43)]),
 qm 34 44,
 qo 45 (.ext (.t 34) 0),
 qo 46 (.ext (.t 34) 1),
 qm 7 45,
 qm 8 46])
 (.seq (.af [qm 48 7,
 qo 49 (.call (.f 291) [(.t 48),(qk 0)]),
 qm 47 49,
 qo 50 (.ext (.t 47) 0),
 qo 51 (.ext (.t 47) 1),
 qo 52 (.ext (.t 47) 2),
 qm 9 50,
 qm 10 51,
 qm 11 52])
 (.seq (.seq (.af [qm 53 11,
 qo 54 (.not (.t 53)),
 qm 55 54,
 qg 56 (.mv (.t 10)) 55 false,
 qg 57 (.mv (.t 7)) 55 false,
 qg 58 (.len (.t 57)) 55 false,
 qg 59 (.bin .neq (.t 56) (.t 58)) 55 false,
 qo 60 (.pick (.t 55) qt (.t 59))])
 (.cond (.t 60) (.seq (.af [qo 6 (.mv (qk 0))])
 .ret)
 .skip))
 (.seq (.af [qm 62 9,
 qo 63 ((.more .stk)),
 qo 64 (.call (.f 172) [(.t 63),(qk 0)]),
 qm 61 64,
 qo 65 (.ext (.t 61) 0),
 qo 66 (.ext (.t 61) 1),
 qo 67 (.ext (.t 61) 2),
 qm 12 65,
 qm 13 66,
 qm 14 67])
 (.seq (.seq (.af [qm 68 14,
 qo 69 (.not (.t 68)),
 qm 70 69,
 qg 71 (.mv (.t 13)) 70 false,
 qg 72 (.mv (.t 9)) 70 false,
 qg 73 (.lens (.t 72)) 70 false,
 qg 74 (.bin .neq (.t 71) (.t 73)) 70 false,
 qo 75 (.pick (.t 70) qt (.t 74))])
 (.cond (.t 75) (.seq (.af [qo 6 (.mv (qk 0))])
 .ret)
 .skip))
 (.seq (.af [qm 76 12,
 qo 77 (.min (qk 1000) (.t 76)),
 qm 6 77])
 .ret)))))))),
[(.t 6)])
theorem Nb:aq Tryz.prog Tryz.f248=some QF:=by kernel_rfl
def BY (L:List LV) (ep:Int) (i:Nat):St:=⟨[(2,.int ep),(6,.d (.val (.slice none 0 0))),(7,.bool false),(28,.agg [.int 0,.d (.val (.slice none 0 0)),.int 0,.d (.val (.slice none 0 0))]),(29,.int i)],[some (.box 190 L)]⟩
theorem KO (room term:Int) (sh:List ni) (wr:Int) (k:Nat) (hk:1≤k∧k≤24) (hs:sh.length=25) (hz:sh.getD k kY=kY) (ep:Int) (he:1≤ep):bw Tryz.prog G 290 [.ptr 0 0,.int k,.int ep] (jA room term sh wr) (.dP [.d (.val (.slice none 0 0)),.bool false]) (jA room term sh wr):=by
 have hj:=lY (G:=G) room term sh wr k hk
 obtain ⟨A,B,hA,hB,hC⟩:=x_ room term sh wr k (by omega)
 have hC:=hC _ hz
 have OU:=fo 1 room term sh wr
 simp only [jA,List.cons_append,List.nil_append] at hj
 refine aR Tryz.func290 (by decide) MP rfl rfl OU rfl ?_
 simp only [jA,Qi,go_sem,simprocAttr]
 refine gy [0] (hj) rfl ?_ (by decide) ?_ ?_ ?_ <;> simp only [ah,ai,go_sem,simprocAttr,bA,bN,aP,bh]
 have hI2:ej 1 (LV.int room::LV.int term::(sh.flatMap pP++[LV.int wr]))=true:=by simp [aP,bh,ej,dZ,LV.int]
 simp only [LV.int,kY,jd] at hC hI2
 rw [hC] at hI2 ⊢
 generalize hm:2+4*k=m at *
 have g0:=U0 A B (LV.d (.val (.int .i64 0))) (LV.d (.val (.slice none 0 0))) (LV.d (.val (.int .i64 0))) (LV.d (.val (.slice none 0 0))) m hA
 have g2:((A++LV.d (.val (.int .i64 0))::LV.d (.val (.slice none 0 0))::LV.d (.val (.int .i64 0))::LV.d (.val (.slice none 0 0))::B).drop m).take 2=[LV.d (.val (.int .i64 0)),LV.d (.val (.slice none 0 0))]:=by subst hA; simp
 have gl:∀ a b c d:LV,(A++a::b::c::d::B).length=m+4+B.length:=by intros; rw [List.length_append,hA]; simp; omega
 have c1:m+2≤m+4+B.length:=by omega
 have c2:m+4≤m+4+B.length:=by omega
 clear hB hC OU
 have hl:=gl (LV.d (.val (.int .i64 0))) (LV.d (.val (.slice none 0 0))) (LV.d (.val (.int .i64 0))) (LV.d (.val (.slice none 0 0)))
 generalize A++LV.d (.val (.int .i64 0))::LV.d (.val (.slice none 0 0))::LV.d (.val (.int .i64 0))::LV.d (.val (.slice none 0 0))::B=L at *
 simp only [decide_eq_false (show ¬ ep<1 by omega),g0,g2,go_sem,simprocAttr]
 have ZH:((0:Int)==ep)=false:=beq_eq_false_iff_ne.2 (by omega)
 refine aY [2,6,7,28,29] [] (fun i:Nat=>i≤2) (fun i=>2-i) (BY L ep) 0 ?_ (Nat.zero_le _) (fun i hi=>?_)
 ·simp only [BY,Int.natCast_zero,go_sem,simprocAttr]
 simp only [BY,go_sem,simprocAttr]
 rcases (show i=0∨i=1∨i=2 by omega) with rfl | rfl | rfl
 ·simp only [Int.natCast_zero,ZH,go_sem,simprocAttr]
  refine bz 1 ?_ ?_ (by decide) (by decide)
  ·simp only [hI2,go_sem,simprocAttr]
  ·simp only [BY,show IntKind.i64.wrap 1=1 from by decide,Int.natCast_one,go_sem,simprocAttr]
 ·simp only [Int.natCast_one,ZH,go_sem,simprocAttr]
  refine bz 2 ?_ ?_ (by decide) (by decide)
  ·simp only [hI2,go_sem,simprocAttr]
  ·simp only [BY,show IntKind.i64.wrap 2=2 from by decide,show ((2:Nat):Int)=2 from rfl,go_sem,simprocAttr]
 ·simp only [show ((2:Nat):Int)=2 from rfl,go_sem,simprocAttr]
theorem An:bw Tryz.prog G 291 [.d (.val (.slice none 0 0)),.int 0] [] (.dP [.d (.val (.string ⟨#[]⟩)),.int 0,.bool false]) []:=by
 have hn:=qa (G:=G) [] (fun _ h=>by cases h) (by simp) 0 (by omega) _ rfl
 simp only [au,aA,List.map_nil,iB,oV,mQ,List.drop_nil,Option.map_none] at hn
 simp only [show Gr none=0 from rfl,show Gs none=0 from rfl,Option.isSome_none,Int.natCast_zero] at hn
 refine bn Tryz.func291 (by decide) MO rfl rfl ?_
 simp only [Qh,go_sem,simprocAttr]
 refine AF [] (hn) rfl (by simp [ah,ai,go_sem,simprocAttr]) (by simp [aB]) rfl rfl ?_; simp only [go_sem,simprocAttr]
theorem KN (s:aa) (hl:s.jobs.length≤24) (room term:Int) (sh:List ni) (wr:Int) (hs:sh.length=25) (hz:∀ k,k<25→sh.getD k kY=kY) (he:∀ k,k<s.jobs.length→0≤(cZ s k).epoch) (j:Int) (hj:1≤j∧j≤s.jobs.length):bw Tryz.prog G 248 [bp s,.int j,.ptr 0 0] (jA room term sh wr) (.int 0) (jA room term sh wr):=by
 obtain ⟨k,hk⟩:∃ k:Nat,j=k+1:=⟨(j-1).toNat,by omega⟩
 have hkl:k<s.jobs.length:=by omega
 have Io:=aL (f:=dh) ax hkl
 have hep:=he k hkl
 unfold cZ at hep
 generalize s.jobs.getD k ax=jb at *
 simp only [dh] at Io
 have hw:IntKind.i64.wrap (j-1)=k:=by rw [aO (by omega) (by omega)]; omega
 have hgt:=An (G:=G)
 refine aR Tryz.func248 (by decide) Nb rfl rfl (fo _ _ _ _ _) rfl ?_
 simp only [jA,QF,go_sem,simprocAttr]
 simp only [decide_eq_false (show ¬ j<1 by omega),decide_eq_false (show ¬ j>(s.jobs.length:Nat) by omega),hw,Io,go_sem,simprocAttr]
 by_cases h0:jb.epoch=0
 ·simp only [show (jb.epoch==0)=true from beq_iff_eq.2 h0,go_sem,simprocAttr]
 simp only [show (jb.epoch==0)=false from beq_eq_false_iff_ne.2 h0,hw,Io,go_sem,simprocAttr]
 have jU:=KO (G:=G) room term sh wr (k+1) (by omega) hs (hz (k+1) (by omega)) jb.epoch (by omega)
 rw [show ((k+1:Nat):Int)=j by omega] at jU
 simp only [jA,List.cons_append,List.nil_append] at jU
 refine gy [0] (jU) rfl ?_ (by decide) ?_ ?_ ?_ <;> simp only [ah,ai,go_sem,simprocAttr,bA,bN,aP,bh]
 refine aC (hgt) rfl rfl rfl rfl ?_; simp only [go_sem,simprocAttr]
end Dv
namespace Dv
open Go Go.Proofs
variable {G:Nat→Option (List DV)}
def RT:Nat×C×List RV:=(84,
(.seq (.af [qo 4 (.new 37 [q0,q0,q0,q0,q0,q0,q0]),
 qo 5 (.mv qf)])
 (.seq (.af [qo 6 (.mv (.c (.val (.slice none 0 0))))])
 (.seq (.af [qo 7 (.mv (.c (.val (.slice none 0 0))))])
 (.seq (.af [qo 8 (.mv (.c (.val (.slice none 0 0))))])
 (.seq (.seq (.af [qm 14 0,
 qo 15 (.aV (.t 14)),
 qo 16 (.aj 18 (.t 15)),
 qo 17 (.ld1 (.t 16)),
 qo 18 (.len (.t 17)),
 qo 19 (.mv (qk 0))])
 (.block 0 (.loop (.seq (.af [qo 20 (.bin .lss (.t 19) (.t 18))])
 (.seq (.cond (.t 20) .skip
 (.exit 0))
 (.seq (.block 1 (.seq (.af [qm 21 19,
 qo 22 (.eG 26 (.t 17) (.t 19)),
 qo 23 (.bP 26 (.t 22)),
 qo 10 (.new 197 [q0,(.val (.bool false)),q0,q0,q0,q0,q0,q0,q0,q0,q0,q0,q0,q0,q0,q0,q0,q0,q0,q0,q0,q0,q0,q0,q0,q0]),
 qm 9 21,
 qn (.st 26 (.t 10) (.t 23))])
 (.bQ [qm 24 6,
 qm 25 0,
 qd 26 (.aV (.t 25)) [1],
 qd 27 (.aj 12 (.t 26)) [2,1],
 qd 28 (.aj 0 (.t 27)) [3,2,1],
 qd 29 (.ld1 (.t 28)) [4,3,2,1],
 qm 30 9,
 qd 31 (.eG 5 (.t 29) (.t 30)) [5,4,3,2,1,6],
 qd 32 (.aj 0 (.t 31)) [7,5,4,3,2,1,6],
 qd 33 (.ld1 (.t 32)) [8,7,5,4,3,2,1,6],
 qd 34 (.nh 4 1 [(.t 33)]) [9,8,7,5,4,3,2,1,6],
 qd 35 (.app 4 1 1 (.t 24) (.t 34)) [0,10,9,8,7,5,4,3,2,1,6],
 qm 36 7,
 qo 37 (.aj 14 (.t 10)),
 qd 38 (.ld1 (.t 37)) [13],
 qd 39 (.nh 3 1 [(.t 38)]) [14,13],
 qd 40 (.app 3 1 8 (.t 36) (.t 39)) [12,15,14,13,11,0,10,9,8,7,5,4,3,2,1,6],
 qm 41 8,
 qo 42 (.aj 15 (.t 10)),
 qd 43 (.bP 11 (.t 42)) [18],
 qd 44 (.nh 87 11 [(.t 43)]) [19,18],
 qd 45 (.app 87 11 88 (.t 41) (.t 44)) [17,20,19,18,16,12,15,14,13,11,0,10,9,8,7,5,4,3,2,1,6],
 qd 6 (.mv (.t 35)) [11,0,10,9,8,7,5,4,3,2,1,6,21,17,20,19,18,16,12,15,14,13],
 qd 7 (.mv (.t 40)) [16,12,15,14,13,11,0,10,9,8,7,5,4,3,2,1,6,22,21,17,20,19,18],
 qd 8 (.mv (.t 45)) [21,17,20,19,18,16,12,15,14,13,11,0,10,9,8,7,5,4,3,2,1,6,23,22]])))
 (.af [qo 46 (.bin .add (.t 19) (qk 1)),
 qm 19 46])))))))
 (.seq (.seq (.af [qm 47 6,
 qm 48 7,
 qm 49 0,
 qo 50 (.aV (.t 49)),
 qo 51 (.aj 0 (.t 50)),
 qo 52 (.aj 4 (.t 51)),
 qo 53 (.ld1 (.t 52)),
 qm 54 1,
 qo 55 (.call (.f 198) [(.t 47),(.t 48),(.t 53),(.t 54)]),
 qm 11 55])
 (.seq (.af [qm 56 11,
 qo 57 (.bin .geq (.t 56) (qk 0))])
 (.cond (.t 57) (.seq (.af [qm 58 11,
 qo 59 (.build [q0,q0,q0,q0,q0,q0,q0] [(0,1,(qk 7)),(1,1,(.t 58))]),
 qn (.st 7 (.t 4) (.t 59)),
 qo 5 (.mv qt)])
 .ret)
 .skip)))
 (.seq (.seq (.af [qm 61 0,
 qo 62 (.aV (.t 61)),
 qo 63 (.aj 12 (.t 62)),
 qo 64 (.bP 6 (.t 63)),
 qm 65 8,
 qm 66 1,
 qo 67 (.call (.f 199) [(.t 64),(.t 65),(.t 66)]),
 qm 60 67,
 qo 68 (.ext (.t 60) 0),
 qo 69 (.ext (.t 60) 1),
 qo 12 (.new 37 [q0,q0,q0,q0,q0,q0,q0]),
 qn (.st 7 (.t 12) (.t 68)),
 qm 13 69])
 (.seq (.af [qm 70 13])
 (.cond (.t 70) (.seq (.af [qo 71 (.bP 7 (.t 12)),
 qn (.st 7 (.t 4) (.t 71)),
 qo 5 (.mv qt)])
 .ret)
 .skip)))
 (.seq (.bQ [qm 72 0,
 qd 73 (.aV (.t 72)) [0],
 qd 74 (.aj 0 (.t 73)) [1,0],
 qd 75 (.bP 9 (.t 74)) [2,1,0],
 qm 76 0,
 qd 77 (.aV (.t 76)) [4],
 qd 78 (.aj 12 (.t 77)) [5,4],
 qd 79 (.bP 6 (.t 78)) [6,5,4],
 qm 80 1,
 qd 81 (.call (.f 200) [(.t 75),(.t 79),(.t 80)]) [3,2,1,0,7,6,5,4,8],
 qd 82 (.ext (.t 81) 0) [9,3,2,1,0,7,6,5,4,8],
 qd 83 (.ext (.t 81) 1) [9,3,2,1,0,7,6,5,4,8],
 ql (.st 7 (.t 4) (.t 82)) [10,9,3,2,1,0,7,6,5,4,8,11],
 qd 5 (.mv (.t 83)) [11,9,3,2,1,0,7,6,5,4,8,12,10]])
 .ret)))))))),
[(.cn 4 7),(.t 5)])
theorem Oy:aq Tryz.prog Tryz.f117=some RT:=by kernel_rfl
def aQ.EI (x:aQ) (k:Nat):List Bool:=(List.range k).map fun i=>(dm x.s i).up
def aQ.yR (x:aQ) (k:Nat):List Int:=(x.lines.take k).map fun l=>l.heard
def aQ.oS (x:aQ) (k:Nat):List dc:=(x.lines.take k).map fun l=>l.report
def aQ.LP (x:aQ) (now:Int):Int:=kn x.c.b_ now (x.EI x.lines.length) (x.yR x.lines.length) 0
def aQ.iS (x:aQ) (now:Int) (q p:Option cH):Option cH:=if 0≤x.LP now then some ⟨7,x.LP now,0,0,0,0,0⟩ else match q with
 | some o=>some o
 | none=>p
def Cm (l:List Bool):List (List DV):=l.map fun b=>[bl b]
def BM (l:List Int):List (List DV):=l.map fun h=>[i64 h]
def Mg (x:aQ) (now:Int) (k:Nat):St:=⟨[(0,.ptr 0 0),(1,.int now),(4,.ptr 8 0),(5,.bool false),(6,.sl 9 k 1 0 k),(7,.sl 10 k 1 0 k),(8,.sl 11 k 11 0 k),(17,.sl 7 x.lines.length 26 0 x.lines.length),(18,.int x.lines.length),(19,.int k)],(bH x).map some++[some (.box 37 [.int 0,.int 0,.int 0,.int 0,.int 0,.int 0,.int 0]),some (.dat 4 1 (Cm (x.EI k))),some (.dat 3 1 (BM (x.yR k))),some (.dat 87 11 ((x.oS k).map kV))]⟩
theorem Iu (x:aQ) (k:Nat):x.EI (k+1)=x.EI k++[(dm x.s k).up]:=by unfold aQ.EI; rw [List.range_succ,List.map_append]; rfl
theorem nC {α:Type} {l:List α} {i:Nat} (z:α) (h:i<l.length):l.take (i+1)=l.take i++[l.getD i z]:=by
 rw [List.take_add_one]; simp [List.getD,h]
theorem Kn (x:aQ) {k:Nat} (h:k<x.lines.length):x.yR (k+1)=x.yR k++[(x.lines.getD k eF).heard]:=by unfold aQ.yR; rw [nC eF h,List.map_append]; rfl
theorem Gm (x:aQ) {k:Nat} (h:k<x.lines.length):x.oS (k+1)=x.oS k++[(x.lines.getD k eF).report]:=by unfold aQ.oS; rw [nC eF h,List.map_append]; rfl
theorem EH (x:aQ) (k:Nat):(x.EI k).length=k:=by simp [aQ.EI]
theorem Fu (x:aQ) {k:Nat} (h:k≤x.lines.length):(x.yR k).length=k:=by simp [aQ.yR]; omega
theorem Bg (x:aQ) {k:Nat} (h:k≤x.lines.length):(x.oS k).length=k:=by simp [aQ.oS]; omega
set_option maxHeartbeats 2000000 in
theorem zO (x:aQ) (h:Ig x) (now:Int) (DT:0≤now∧now≤1000000) (hT:∀ l∈x.lines,0≤l.heard∧l.heard≤1000000) (q p:Option cH) (hfn:bw Tryz.prog G 199 [bp x.s,iu (x.oS x.lines.length),.int now] [] (lD q) []) (hp:bw Tryz.prog G 200 [gK x.c,bp x.s,.int now] [] (lD p) []) :
  bw Tryz.prog G 117 [.ptr 0 0,.int now] (bH x) (lD (x.iS now q p)) (bH x):=by
 have uQ:=h.lines
 have XF:=h.right.len
 refine aR Tryz.func117 (by decide) Oy rfl rfl (bS _ (Nat.le_refl 8) _) rfl ?_
 simp only [bH,dz,aX,RT,go_sem,simprocAttr]
 refine aY [0,1,4,5,6,7,8,17,18,19] [.t 6 4 1,.t 7 3 1,.t 8 87 11] (fun k:Nat=>k≤x.lines.length) (fun k=>x.lines.length-k) (Mg x now) 0 ?_ (Nat.zero_le _) (fun k hk=>?_)
 ·simp only [Mg,bH,dz,aX,aQ.EI,aQ.yR,aQ.oS,Cm,BM,List.range_zero,Int.natCast_zero,go_sem,simprocAttr]
 simp only [Mg,bH,dz,aX,go_sem,simprocAttr]
 by_cases hlt:k<x.lines.length
 ·have hg:=aL (f:=lW) eF hlt
  have Ag:=aL (f:=ck) ag (show k<x.s.nodes.length by omega)
  simp only [decide_eq_true (show ((k:Nat):Int)<((x.lines.length:Nat):Int) by omega),go_sem,simprocAttr]
  have hu:=Iu x k
  have hh:=Kn x hlt
  have hr:=Gm x hlt
  have lu:=EH x k
  have lh:=Fu x hk
  have lr:=Bg x hk
  have hN:dm x.s k=x.s.nodes.getD k ag:=rfl
  rw [hN] at hu
  have hkn:k<x.s.nodes.length:=by omega
  generalize x.s.nodes.getD k ag=n at *
  generalize x.lines.getD k eF=l at *
  obtain ⟨up,co,mo,ve,jo⟩:=n
  obtain ⟨lg,lhs,⟨q0,q1,q2,q3,q4,q5,q6,q7,q8,q9,U3⟩,ls,le,⟨r0,r1,r2,r3,r4,r5,r6,r7,r8,r9,X2⟩⟩:=l
  simp only [lW,kV,List.cons_append,List.nil_append] at hg
  simp only [ck] at Ag
  dsimp only at hu hh hr
  generalize TB:x.EI k=ub at *
  generalize hhb:x.yR k=hb at *
  generalize hrb:x.oS k=rb at *
  have c1:(k+1)*88≤70368744177664:=by omega
  have c2:(k+1)*8≤70368744177664:=by omega
  have c3:(k+1)*1≤70368744177664:=by omega
  simp only [hlt,hg,Cm,BM,List.length_append,lu,lh,lr,c1,c2,c3,Ag,go_sem,simprocAttr]
  refine av rfl ?_
  simp only [go_sem,simprocAttr]
  refine bz (k+1) ?_ ?_ (show k+1≤x.lines.length by omega) (show x.lines.length-(k+1)<x.lines.length-k by omega)
  ·simp only [aP,bh,go_sem,simprocAttr]
  ·simp only [aG (show k<9223372036854775807 by omega),Mg,bH,dz,aX,hu,hh,hr,Cm,BM,List.map_append,go_sem,simprocAttr]
 obtain rfl:k=x.lines.length:=by omega
 simp only [decide_eq_false (show ¬ ((x.lines.length:Nat):Int)<((x.lines.length:Nat):Int) by omega),go_sem,simprocAttr]
 have hup:(x.EI x.lines.length).length=x.lines.length:=EH x _
 have hhp:=Fu x (Nat.le_refl x.lines.length)
 have hrp:=Bg x (Nat.le_refl x.lines.length)
 have TL:0≤x.c.b_∧x.c.b_≤1000000:=by
  have hm:=h.right.tn
  unfold gL at hm
  simp only [Bool.and_eq_true] at hm
  have:=aS hm.1.1.1.1.2
  omega
 have VS:=C8 (G:=G) (x.EI x.lines.length) (x.yR x.lines.length) x.c.b_ now (by omega) (by omega) TL (fun v hv=>by
  unfold aQ.yR at hv
  rw [List.mem_map] at hv
  obtain ⟨l,hl,rfl⟩:=hv
  exact hT l (List.mem_of_mem_take hl))
 unfold aQ.iS
 have hsi:x.LP now=kn x.c.b_ now (x.EI x.lines.length) (x.yR x.lines.length) 0:=rfl
 rw [← hsi] at VS
 generalize x.LP now=si at *
 have htu:List.take x.lines.length (List.map (fun b=>[DV.val (Value.bool b)]) (x.EI x.lines.length))=List.map (fun b=>[DV.val (Value.bool b)]) (x.EI x.lines.length):=List.take_of_length_le (by rw [List.length_map]; omega)
 have Il:List.take x.lines.length (List.map (fun h=>[DV.val (Value.int IntKind.i64 h)]) (x.yR x.lines.length))=List.map (fun h=>[DV.val (Value.int IntKind.i64 h)]) (x.yR x.lines.length):=List.take_of_length_le (by rw [List.length_map]; omega)
 have htr:List.take x.lines.length (List.map kV (x.oS x.lines.length))=List.map kV (x.oS x.lines.length):=List.take_of_length_le (by rw [List.length_map]; omega)
 refine AF [9,10] (VS) rfl (by simp [ah,ai,bE,aB,Cm,BM,htu,Il,hup,hhp,and_self,go_sem,simprocAttr]) (by simp [aB]) rfl rfl ?_; simp only [go_sem,simprocAttr]
 by_cases hs0:0≤si
 ·simp only [hs0,lD,Option.getD_some,Option.isSome_some,go_sem,simprocAttr]
 simp only [hs0,go_sem,simprocAttr]
 simp only [iu] at hfn
 refine AF [11] (hfn) rfl (by simp [ah,ai,bE,aB,htr,hrp,and_self,go_sem,simprocAttr]) (by simp [aB]) rfl rfl ?_; simp only [go_sem,simprocAttr]
 cases q with
 | some o=>simp only [lD,Option.getD_some,Option.isSome_some,go_sem,simprocAttr]
 | none=>
   simp only [lD,Option.getD_none,Option.isSome_none,go_sem,simprocAttr]
   refine bf (hp) rfl rfl rfl rfl ?_; simp only [go_sem,simprocAttr]
   cases p with
   | none=>
     simp only [lD,Option.getD_none,Option.isSome_none,go_sem,simprocAttr]
     refine av rfl ?_
     simp only [go_sem,simprocAttr]
   | some o=>
     simp only [lD,Option.getD_some,Option.isSome_some,go_sem,simprocAttr]
     refine av rfl ?_
     simp only [go_sem,simprocAttr]
end Dv
namespace Dv
open Go Go.Proofs
def yM:Nat×C×List RV:=(112,
(.seq (.af [qo 6 (.new 87 [q0,q0,q0,q0,q0,q0,q0,q0,q0,q0,q0]),
 qo 7 (.mv qf)])
 (.seq (.af [qm 11 0,
 qo 12 (.aV (.t 11)),
 qo 13 (.aj 18 (.t 12)),
 qo 14 (.ld1 (.t 13)),
 qm 15 1,
 qo 16 (.eG 26 (.t 14) (.t 15)),
 qm 8 16])
 (.seq (.bQ [qm 18 0,
 qd 19 (.aV (.t 18)) [0],
 qd 20 (.aj 12 (.t 19)) [1,0],
 qd 21 (.bP 6 (.t 20)) [2,1,0],
 qm 22 1,
 qm 23 0,
 qd 24 (.aV (.t 23)) [5],
 qd 25 (.aj 11 (.t 24)) [6,5],
 qd 26 (.ld1 (.t 25)) [7,6,5],
 qd 27 (.call (.f 201) [(.t 21),(.t 22),(.t 26)]) [3,2,1,0,4,8,7,6,5],
 qd 17 (.mv (.t 27)) [9,3,2,1,0,4,8,7,6,5],
 qd 28 (.ext (.t 17) 0) [10,9,3,2,1,0,4,8,7,6,5],
 qd 29 (.ext (.t 17) 1) [10,9,3,2,1,0,4,8,7,6,5],
 qo 9 (.new 87 [q0,q0,q0,q0,q0,q0,q0,q0,q0,q0,q0]),
 ql (.st 11 (.t 9) (.t 28)) [13,11,10,9,3,2,1,0,4,8,7,6,5],
 qd 10 (.mv (.t 29)) [12,10,9,3,2,1,0,4,8,7,6,5,14,13,11]])
 (.seq (.block 0 (.seq (.af [qm 31 10,
 qo 32 (.not (.t 31)),
 qm 30 32])
 (.cond (.t 30) (.seq (.af [qm 33 8,
 qo 34 (.aV (.t 33)),
 qo 35 (.aj 1 (.t 34)),
 qn (.st 1 (.t 35) qf)])
 (.seq (.af [qo 36 (.build [q0,q0,q0,q0,q0,q0,q0,q0,q0,q0,q0] []),
 qn (.st 11 (.t 6) (.t 36)),
 qo 7 (.mv qf)])
 .ret))
 (.seq (.bQ [qm 38 8,
 qd 39 (.aV (.t 38)) [0],
 qd 40 (.aj 1 (.t 39)) [1,0],
 qd 41 (.ld1 (.t 40)) [2,1,0],
 qd 42 (.not (.t 41)) [3,2,1,0],
 qd 43 (.mv (.t 42)) [4,3,2,1,0],
 qe 44 (.bP 11 (.t 9)) 43 false [5,4,3,2,1,0],
 qe 45 (.mv (.t 8)) 43 false [5,4,3,2,1,0],
 qe 46 (.aV (.t 45)) 43 false [7,5,4,3,2,1,0],
 qe 47 (.aj 2 (.t 46)) 43 false [8,7,5,4,3,2,1,0],
 qe 48 (.bP 11 (.t 47)) 43 false [9,8,7,5,4,3,2,1,0],
 qe 49 (.call (.f 202) [(.t 44),(.t 48)]) 43 false [6,5,4,3,2,1,0,10,9,8,7],
 qe 50 (.not (.t 49)) 43 false [11,6,5,4,3,2,1,0,10,9,8,7],
 qd 51 (.pick (.t 43) qt (.t 50)) [5,4,3,2,1,0,12,11,6,10,9,8,7],
 qd 37 (.mv (.t 51)) [13,5,4,3,2,1,0,12,11,6,10,9,8,7]])
 (.cond (.t 37) (.seq (.bQ [qm 52 8,
 qm 53 8,
 qm 54 8,
 qo 55 (.bP 11 (.t 9)),
 qo 56 (.build [q0,q0,q0,q0,q0,q0,q0,q0,q0,q0,q0] []),
 qd 57 (.aV (.t 52)) [0],
 qd 58 (.aj 1 (.t 57)) [5,0],
 ql (.st 1 (.t 58) qt) [6,5,0],
 qd 59 (.aV (.t 53)) [1,0,3,5,6,7],
 qd 60 (.aj 2 (.t 59)) [8,1,0,3,5,6,7],
 ql (.st 11 (.t 60) (.t 55)) [9,8,1,0,3,5,6,7],
 qd 61 (.aV (.t 54)) [2,0,1,3,4,5,6,7,8,9,10],
 qd 62 (.aj 15 (.t 61)) [11,2,0,1,3,4,5,6,7,8,9,10],
 ql (.st 11 (.t 62) (.t 56)) [12,11,2,0,1,3,4,5,6,7,8,9,10]])
 (.af [qm 63 8,
 qo 64 (.aV (.t 63)),
 qo 65 (.aj 0 (.t 64)),
 qo 66 (.ld1 (.t 65)),
 qo 67 (.bin .add (.t 66) (qk 1)),
 qo 68 (.aV (.t 63)),
 qo 69 (.aj 0 (.t 68)),
 qn (.st 1 (.t 69) (.t 67))]))
 (.seq (.bQ [qm 71 2,
 qm 72 8,
 qd 73 (.aV (.t 72)) [1],
 qd 74 (.aj 13 (.t 73)) [2,1],
 qd 75 (.ld1 (.t 74)) [3,2,1],
 qm 76 0,
 qd 77 (.aV (.t 76)) [5],
 qd 78 (.aj 0 (.t 77)) [6,5],
 qd 79 (.aj 5 (.t 78)) [7,6,5],
 qd 80 (.ld1 (.t 79)) [8,7,6,5],
 qd 81 (.bin .add (.t 75) (.t 80)) [4,3,2,1,9,8,7,6,5],
 qd 82 (.bin .lss (.t 71) (.t 81)) [0,10,4,3,2,1,9,8,7,6,5],
 qd 70 (.mv (.t 82)) [11,0,10,4,3,2,1,9,8,7,6,5]])
 (.cond (.t 70) (.seq (.af [qo 83 (.build [q0,q0,q0,q0,q0,q0,q0,q0,q0,q0,q0] []),
 qn (.st 11 (.t 6) (.t 83)),
 qo 7 (.mv qf)])
 .ret)
 .skip)))))))
 (.seq (.af [qm 84 8,
 qm 85 2,
 qo 86 (.aV (.t 84)),
 qo 87 (.aj 13 (.t 86)),
 qn (.st 1 (.t 87) (.t 85))])
 (.seq (.bQ [qm 88 0,
 qd 89 (.aV (.t 88)) [0],
 qd 90 (.aj 12 (.t 89)) [1,0],
 qd 91 (.aj 5 (.t 90)) [2,1,0],
 qd 92 (.ld1 (.t 91)) [3,2,1,0],
 qm 93 8,
 qd 94 (.aV (.t 93)) [5],
 qd 95 (.aj 0 (.t 94)) [6,5],
 qd 96 (.ld1 (.t 95)) [7,6,5],
 qm 97 8,
 qd 98 (.aV (.t 97)) [9],
 qd 99 (.aj 14 (.t 98)) [10,9],
 qd 100 (.ld1 (.t 99)) [11,10,9],
 qm 101 0,
 qd 102 (.aV (.t 101)) [13],
 qd 103 (.aj 0 (.t 102)) [14,13],
 qd 104 (.aj 4 (.t 103)) [15,14,13],
 qd 105 (.ld1 (.t 104)) [16,15,14,13],
 qd 106 (.bin .add (.t 100) (.t 105)) [12,11,10,9,17,16,15,14,13],
 qd 107 (.min (qk 1000000) (.t 106)) [18,12,11,10,9,17,16,15,14,13],
 qd 108 (.aj 2 (.t 9)) [0,1,2,3,4],
 ql (.st 1 (.t 108) (.t 92)) [20,0,1,2,3,4],
 qd 109 (.aj 3 (.t 9)) [0,1,2,3,4,5,6,7,8,20,21],
 ql (.st 1 (.t 109) (.t 96)) [22,0,1,2,3,4,5,6,7,8,20,21],
 qd 110 (.aj 8 (.t 9)) [0,1,2,3,4,5,6,7,8,9,10,11,12,13,14,15,16,17,18,19,20,21,22,23],
 ql (.st 1 (.t 110) (.t 107)) [24,0,1,2,3,4,5,6,7,8,9,10,11,12,13,14,15,16,17,18,19,20,21,22,23]])
 (.seq (.af [qo 111 (.bP 11 (.t 9)),
 qn (.st 11 (.t 6) (.t 111)),
 qo 7 (.mv qt)])
 .ret))))))),
[(.cn 6 11),(.t 7)])
theorem rG:aq Tryz.prog Tryz.f118=some yM:=by kernel_rfl
def lq (x:aQ) (q:Option dc) (now:Int) (l:lS):lS×Option dc:=match q with
 | none=>({ l with has:=false },none)
 | some m=>
   if l.has=false∨AD m l.order=false then ({ l with has:=true,order:=m,report:=mc,gen:=IntKind.i64.wrap (l.gen+1),sent:=now },some { m with term:=x.s.term,gen:=IntKind.i64.wrap (l.gen+1),til:=if IntKind.i64.wrap (l.heard+x.c.b_)<1000000 then IntKind.i64.wrap (l.heard+x.c.b_) else 1000000 })
   else if now<IntKind.i64.wrap (l.sent+x.c.eE) then (l,none)
   else ({ l with sent:=now },some { m with term:=x.s.term,gen:=l.gen,til:=if IntKind.i64.wrap (l.heard+x.c.b_)<1000000 then IntKind.i64.wrap (l.heard+x.c.b_) else 1000000 })
theorem IK {α:Type} {l:List α} {i:Nat} {v:α} (h:l[i]? = some v):l.set i v=l:=by
 obtain ⟨h1,h2⟩:=List.getElem?_eq_some_iff.1 h
 subst h2
 exact List.set_getElem_self h1
set_option maxHeartbeats 4000000 in
theorem zh (x:aQ) (now:Int) (i:Nat) (hi:i<x.lines.length) (q:Option dc) (s6:bw Tryz.prog dI 201 [bp x.s,.int i,.ptr 0 0] (jA x.room x.term x.sh x.wr) (gi q) (jA x.room x.term x.sh x.wr)) :
  bw Tryz.prog dI 118 [.ptr 0 0,.int i,.int now] (bH x) (gi (lq x q now (x.lines.getD i eF)).2) (bH { x with lines:=x.lines.set i (lq x q now (x.lines.getD i eF)).1 }):=by
 have hg:=aL (f:=lW) eF hi
 have s7:∀ v,((x.lines.map lW).set i v)[i]? = some v:=fun v=>List.getElem?_set_self (by simpa using hi)
 simp only [jA,List.cons_append,List.nil_append] at s6
 generalize x.lines.getD i eF=l at *
 obtain ⟨lg,lhs,⟨q0,q1,q2,q3,q4,q5,q6,q7,q8,q9,U3⟩,ls,le,⟨r0,r1,r2,r3,r4,r5,r6,r7,r8,r9,X2⟩⟩:=l
 simp only [lW,kV,List.cons_append,List.nil_append] at hg
 cases q with
 | none=>
   simp only [lq]
   refine aR Tryz.func118 (by decide) rG rfl rfl (bS _ (Nat.le_refl 8) _) rfl ?_
   simp only [gi,Option.getD_none,Option.isSome_none] at s6 ⊢
   simp only [bH,dz,aX,List.length_set,yM,go_sem,simprocAttr]
   simp only [hi,go_sem,simprocAttr]
   refine er [6] (s6) rfl ?_ (by decide) ?_ ?_ ?_ <;> simp only [ah,ai,go_sem,simprocAttr,bA,bN,aP,bh]
   refine av rfl ?_
   simp only [hg,lW,List.map_set,go_sem,simprocAttr]
 | some m=>
   obtain ⟨m0,m1,m2,m3,m4,m5,m6,m7,m8,m9,m10⟩:=m
   have hal:=H7 (G:=dI) ⟨m0,m1,m2,m3,m4,m5,m6,m7,m8,m9,m10⟩ ⟨q0,q1,q2,q3,q4,q5,q6,q7,q8,q9,U3⟩
   simp only [lq]
   generalize AD ⟨m0,m1,m2,m3,m4,m5,m6,m7,m8,m9,m10⟩ ⟨q0,q1,q2,q3,q4,q5,q6,q7,q8,q9,U3⟩=al at *
   cases lhs with
   | false=>
     simp only [true_or,if_true]
     refine aR Tryz.func118 (by decide) rG rfl rfl (bS _ (Nat.le_refl 8) _) rfl ?_
     simp only [gi,Option.getD_some,Option.isSome_some] at s6
     simp only [gi,Option.getD_some,Option.isSome_some]
     simp only [bH,dz,aX,List.length_set,yM,go_sem,simprocAttr]
     simp only [hi,go_sem,simprocAttr]
     refine er [6] (s6) rfl ?_ (by decide) ?_ ?_ ?_ <;> simp only [ah,ai,go_sem,simprocAttr,bA,bN,aP,bh]
     refine av rfl ?_
     simp only [hg,s7,mc,lW,List.map_set,List.length_set,List.set_set,go_sem,simprocAttr]
     (repeat (refine av rfl ?_; (try simp only [s7,List.length_set,List.set_set,go_sem,simprocAttr])))
   | true=>
   cases al with
   | false=>
     simp only [Bool.true_eq_false,or_true,if_true]
     refine aR Tryz.func118 (by decide) rG rfl rfl (bS _ (Nat.le_refl 8) _) rfl ?_
     simp only [gi,Option.getD_some,Option.isSome_some] at s6
     simp only [gi,Option.getD_some,Option.isSome_some]
     simp only [bH,dz,aX,List.length_set,yM,go_sem,simprocAttr]
     simp only [hi,go_sem,simprocAttr]
     refine er [6] (s6) rfl ?_ (by decide) ?_ ?_ ?_ <;> simp only [ah,ai,go_sem,simprocAttr,bA,bN,aP,bh]
     refine av rfl ?_
     simp only [hg,mc,lW,List.map_set,go_sem,simprocAttr]
     refine bf (hal) rfl rfl rfl rfl ?_; simp only [go_sem,simprocAttr]
     simp only [hg,s7,List.length_set,List.set_set,go_sem,simprocAttr]
     (repeat (refine av rfl ?_; (try simp only [s7,List.length_set,List.set_set,go_sem,simprocAttr])))
   | true=>
     simp only [Bool.true_eq_false,or_false,if_false]
     by_cases hl:now<IntKind.i64.wrap (ls+x.c.eE)
     ·simp only [hl,if_true]
      refine aR Tryz.func118 (by decide) rG rfl rfl (bS _ (Nat.le_refl 8) _) rfl ?_
      simp only [gi,Option.getD_some,Option.isSome_some] at s6
      simp only [gi,Option.getD_none,Option.isSome_none]
      simp only [bH,dz,aX,List.length_set,yM,go_sem,simprocAttr]
      simp only [hi,go_sem,simprocAttr]
      refine er [6] (s6) rfl ?_ (by decide) ?_ ?_ ?_ <;> simp only [ah,ai,go_sem,simprocAttr,bA,bN,aP,bh]
      refine av rfl ?_
      simp only [hg,lW,List.map_set,go_sem,simprocAttr]
      refine bf (hal) rfl rfl rfl rfl ?_; simp only [go_sem,simprocAttr]
      simp only [decide_eq_true hl,hg,go_sem,simprocAttr]
      (repeat (refine av rfl ?_; (try simp only [decide_eq_true hl,hi,hg,s7,mc,lW,List.map_set,List.length_set,List.set_set,go_sem,simprocAttr])))
      rw [IK hg]
     ·simp only [hl,if_false]
      refine aR Tryz.func118 (by decide) rG rfl rfl (bS _ (Nat.le_refl 8) _) rfl ?_
      simp only [gi,Option.getD_some,Option.isSome_some] at s6
      simp only [gi,Option.getD_some,Option.isSome_some]
      simp only [bH,dz,aX,List.length_set,yM,go_sem,simprocAttr]
      simp only [hi,go_sem,simprocAttr]
      refine er [6] (s6) rfl ?_ (by decide) ?_ ?_ ?_ <;> simp only [ah,ai,go_sem,simprocAttr,bA,bN,aP,bh]
      refine av rfl ?_
      simp only [hg,lW,List.map_set,go_sem,simprocAttr]
      refine bf (hal) rfl rfl rfl rfl ?_; simp only [go_sem,simprocAttr]
      simp only [decide_eq_false hl,hg,s7,List.length_set,go_sem,simprocAttr]
      (repeat (refine av rfl ?_; (try simp only [go_sem,simprocAttr])))
end Dv
namespace Dv
open Go Go.Proofs
def Vw:Nat×C×List RV:=(60,
(.seq (.af [qo 4 (.new 37 [q0,q0,q0,q0,q0,q0,q0]),
 qo 5 (.mv (.c (.val (.slice none 0 0))))])
 (.seq (.seq (.af [qm 12 0,
 qo 13 (.call (.f 109) [(.t 12)]),
 qo 14 (.not (.t 13)),
 qm 15 14,
 qg 16 (.mv (.t 1)) 15 false,
 qg 17 (.call (.f 98) [(.t 16)]) 15 false,
 qg 18 (.not (.t 17)) 15 false,
 qo 19 (.pick (.t 15) qt (.t 18))])
 (.cond (.t 19) (.seq (.af [qo 20 (.build [q0,q0,q0,q0,q0,q0,q0] []),
 qn (.st 7 (.t 4) (.t 20)),
 qo 5 (.mv (.c (.val (.slice none 0 0))))])
 .ret)
 .skip))
 (.seq (.af [qm 22 0,
 qm 23 1,
 qo 24 (.call (.f 117) [(.t 22),(.t 23)]),
 qm 21 24,
 qo 25 (.ext (.t 21) 0),
 qo 26 (.ext (.t 21) 1),
 qo 6 (.new 37 [q0,q0,q0,q0,q0,q0,q0]),
 qn (.st 7 (.t 6) (.t 25)),
 qm 7 26])
 (.seq (.seq (.af [qm 27 7,
 qo 28 (.not (.t 27)),
 qm 29 28,
 qg 30 (.mv (.t 0)) 29 false,
 qg 31 (.bP 7 (.t 6)) 29 false,
 qg 32 (.mv (.t 1)) 29 false,
 qg 33 (.call (.f 100) [(.t 30),(.t 31),(.t 32)]) 29 false,
 qg 34 (.bin .neq (.t 33) (qk 0)) 29 false,
 qo 35 (.pick (.t 29) qt (.t 34))])
 (.cond (.t 35) (.af [qo 36 (.build [q0,q0,q0,q0,q0,q0,q0] []),
 qn (.st 7 (.t 6) (.t 36))])
 .skip))
 (.seq (.af [qo 8 (.mv (.c (.val (.slice none 0 0))))])
 (.seq (.seq (.af [qm 37 0,
 qo 38 (.aV (.t 37)),
 qo 39 (.aj 18 (.t 38)),
 qo 40 (.ld1 (.t 39)),
 qo 41 (.len (.t 40)),
 qo 42 (.mv (qk 0))])
 (.block 0 (.loop (.seq (.af [qo 43 (.bin .lss (.t 42) (.t 41))])
 (.seq (.cond (.t 43) .skip
 (.exit 0))
 (.seq (.block 1 (.seq (.af [qm 44 42,
 qm 9 44])
 (.seq (.af [qm 46 0,
 qm 47 9,
 qm 48 1,
 qo 49 (.call (.f 118) [(.t 46),(.t 47),(.t 48)]),
 qm 45 49,
 qo 50 (.ext (.t 45) 0),
 qo 51 (.ext (.t 45) 1),
 qo 10 (.new 87 [q0,q0,q0,q0,q0,q0,q0,q0,q0,q0,q0]),
 qn (.st 11 (.t 10) (.t 50)),
 qm 11 51])
 (.seq (.af [qm 52 11])
 (.cond (.t 52) (.af [qm 53 8,
 qo 54 (.bP 11 (.t 10)),
 qo 55 (.nh 87 11 [(.t 54)]),
 qo 56 (.app 87 11 88 (.t 53) (.t 55)),
 qm 8 56])
 .skip)))))
 (.af [qo 57 (.bin .add (.t 42) (qk 1)),
 qm 42 57])))))))
 (.seq (.af [qo 58 (.bP 7 (.t 6)),
 qm 59 8,
 qn (.st 7 (.t 4) (.t 58)),
 qm 5 59])
 .ret))))))),
[(.cn 4 7),(.t 5)])
theorem Tg:aq Tryz.prog Tryz.f44=some Vw:=by kernel_rfl
def cI (y:aQ) (had:Int→Int) (now:Int):Nat→aQ×List dc
 | 0=>(y,[])
 | k+1=>({ (cI y had now k).1 with lines:=(cI y had now k).1.lines.set k (lq (cI y had now k).1 (jP y.s had k) now ((cI y had now k).1.lines.getD k eF)).1 },(cI y had now k).2++(lq (cI y had now k).1 (jP y.s had k) now ((cI y had now k).1.lines.getD k eF)).2.toList)
structure Px (y z:aQ):Prop where
 c:z.c=y.c
 s:z.s=y.s
 j:z.j=y.j
 room:z.room=y.room
 term:z.term=y.term
 sh:z.sh=y.sh
 wr:z.wr=y.wr
 len:z.lines.length=y.lines.length
 down:z.down=y.down
 cr:z.cr=y.cr
theorem u_ (y:aQ) (had:Int→Int) (now:Int):∀ k,Px y (cI y had now k).1
 | 0=>⟨rfl,rfl,rfl,rfl,rfl,rfl,rfl,rfl,rfl,rfl⟩
 | k+1=>by
   have h:=u_ y had now k
   exact ⟨h.c,h.s,h.j,h.room,h.term,h.sh,h.wr,by show (List.set _ _ _).length=_; rw [List.length_set,h.len],h.down,h.cr⟩
theorem x6 (y:aQ) (had:Int→Int) (now:Int):∀ k,(cI y had now k).2.length≤k
 | 0=>Nat.le_refl _
 | k+1=>by
   have h:=x6 y had now k
   show ((cI y had now k).2++(lq (cI y had now k).1 (jP y.s had k) now ((cI y had now k).1.lines.getD k eF)).2.toList).length≤k+1
   rw [List.length_append]
   have:∀ q:Option dc,q.toList.length≤1:=fun q=>by cases q <;> simp
   have:=this (lq (cI y had now k).1 (jP y.s had k) now ((cI y had now k).1.lines.getD k eF)).2
   omega
def aQ.iJ (x:aQ) (now:Int) (q p:Option cH):aQ:=match x.iS now q p with
 | some o=>x.eu o now
 | none=>x
def aQ.EF (x:aQ) (now:Int) (q p:Option cH):cH:=match x.iS now q p with
 | some o=>if x.e_ o=0 then o else gh
 | none=>gh
def w_ (o:cH):aD:=.box 37 [.int o.kind,.int o.a,.int o.b,.int o.c,.int o.d,.int o.e,.int o.f]
def Ic (z:aQ) (now:Int) (o:cH) (ms:List dc) (k:Nat):St:=⟨[(0,.ptr 0 0),(1,.int now),(4,.ptr 8 0),(5,.d (.val (.slice none 0 0))),(6,.ptr 9 0),(8,.sl 10 ms.length 11 0 ms.length),(41,.int z.lines.length),(42,.int k)],(bH z).map some++[some (w_ gh),some (w_ o),some (.dat 87 11 (ms.map kV))]⟩
set_option maxHeartbeats 4000000 in
theorem Pq (x:aQ) (h:Ig x) (hd:x.down=false) (now:Int) (DT:0≤now∧now≤1000000) (hT:∀ l∈x.lines,0≤l.heard∧l.heard≤1000000) (u p:Option cH) (hf:bw Tryz.prog dI 199 [bp x.s,iu (x.oS x.lines.length),.int now] [] (lD u) []) (hp:bw Tryz.prog dI 200 [gK x.c,bp x.s,.int now] [] (lD p) []) (had:Int→Int)
  (s6:∀ i,i<(x.iJ now u p).lines.length→bw Tryz.prog dI 201 [bp (x.iJ now u p).s,.int i,.ptr 0 0] (jA (x.iJ now u p).room (x.iJ now u p).term (x.iJ now u p).sh (x.iJ now u p).wr) (gi (jP (x.iJ now u p).s had i)) (jA (x.iJ now u p).room (x.iJ now u p).term (x.iJ now u p).sh (x.iJ now u p).wr)) :
  bw Tryz.prog dI 44 [.ptr 0 0,.int now] (bH x) (.dP [uN (x.EF now u p),iu (cI (x.iJ now u p) had now x.lines.length).2]) (bH (cI (x.iJ now u p) had now x.lines.length).1):=by
 have ha:=mI (G:=dI) x
 have Sa:=AW (G:=dI) now
 have hnx:=zO x h now DT hT u p hf hp
 rw [hd] at ha
 rw [decide_eq_true DT] at Sa
 have hnt:=fun o=>bw.up (vN x h o now) lz
 have XF:x.lines.length≤6:=by have:=h.lines; have:=h.right.len; omega
 have VN:(x.iJ now u p).lines.length=x.lines.length:=by
  unfold aQ.iJ
  split
  ·rename_i o _
   have h1:=(h.note o now).lines
   have h2:=h.lines
   have h3:=(h.note o now).right.nodes
   have h4:=h.right.nodes
   rw [E8] at h3
   omega
  ·rfl
 have hyc:Ig (x.iJ now u p):=by
  unfold aQ.iJ
  split
  ·exact h.note _ now
  ·exact h
 have hY:x.iJ now u p=match x.iS now u p with | some o=>x.eu o now | none=>x:=rfl
 have hQ:x.EF now u p=match x.iS now u p with | some o=>if x.e_ o=0 then o else gh | none=>gh:=rfl
 generalize x.iJ now u p=y at *
 generalize x.EF now u p=q at *
 have uQ:x.lines.length=y.lines.length:=VN.symm
 rw [uQ] at XF ⊢
 obtain ⟨F,hF⟩:∃ F,F=cI y had now y.lines.length:=⟨_,rfl⟩
 rw [← hF]
 simp only [bH,dz,aX,List.cons_append,List.nil_append] at ha hnx
 refine cG Tryz.func44 (by decide) Tg rfl ?_
 simp only [bH,dz,aX,Vw,go_sem,simprocAttr]
 refine gy [0,1,2,3,4,5,6,7] (ha) rfl ?_ (by decide) ?_ ?_ ?_ <;> simp only [ah,ai,go_sem,simprocAttr,bA,bN,aP,bh]
 refine aC (Sa) rfl rfl rfl rfl ?_; simp only [go_sem,simprocAttr]
 refine gy [0,1,2,3,4,5,6,7] (hnx) rfl ?_ (by decide) ?_ ?_ ?_ <;> simp only [ah,ai,go_sem,simprocAttr,bA,bN,aP,bh]
 have XG:=u_ y had now
 have hl2:=x6 y had now
 cases hno:x.iS now u p
 case' none=>
  rw [hno] at hY hQ
  have YY:y=x:=hY
  have hq:q=gh:=hQ
  subst YY
  simp only [lD,Option.getD_none,Option.isSome_none,go_sem,simprocAttr]
 case' some o=>
  rw [hno] at hY hQ
  have YY:x.eu o now=y:=hY.symm
  have hnt:=hnt o
  rw [YY] at hnt
  simp only [bH,dz,aX,List.cons_append,List.nil_append] at hnt
  simp only [lD,Option.getD_some,Option.isSome_some,go_sem,simprocAttr]
  refine aK [0,1,2,3,4,5,6,7] (hnt) rfl ?_ (by decide) ?_ ?_ (by simp) ?_ <;> simp only [ah,ai,go_sem,simprocAttr,bA,bN,aP,bh]
  by_cases he:x.e_ o=0
  case' pos=>
   have hq:q=o:=by rw [hQ]; exact if_pos he
   simp only [he,bne_self_eq_false,go_sem,simprocAttr]
  case' neg=>
   have hq:q=gh:=by rw [hQ]; exact if_neg he
   simp only [show (x.e_ o !=0)=true from bne_iff_ne.2 he,go_sem,simprocAttr]
 all_goals
  refine aY [0,1,4,5,6,8,41,42] [.t 8 87 11] (fun k:Nat=>k≤y.lines.length) (fun k=>y.lines.length-k) (fun k=>Ic (cI y had now k).1 now q (cI y had now k).2 k) 0 ?_ (Nat.zero_le _) (fun k hk=>?_)
  ·simp only [Ic,cI,hq,w_,bH,dz,aX,Int.natCast_zero,go_sem,simprocAttr]
  have hz:=XG k
  have hzl:=hl2 k
  have yQ:cI y had now (k+1)=({ (cI y had now k).1 with lines:=(cI y had now k).1.lines.set k (lq (cI y had now k).1 (jP y.s had k) now ((cI y had now k).1.lines.getD k eF)).1 },(cI y had now k).2++(lq (cI y had now k).1 (jP y.s had k) now ((cI y had now k).1.lines.getD k eF)).2.toList):=rfl
  by_cases hlt:k<y.lines.length
  ·have hT:=zh (cI y had now k).1 now k (by rw [hz.len]; exact hlt) (jP y.s had k) (by rw [hz.s,hz.room,hz.term,hz.sh,hz.wr]; exact s6 k hlt)
   generalize (cI y had now k).1=z at *
   generalize (cI y had now k).2=ms at *
   generalize lq z (jP y.s had k) now (z.lines.getD k eF)=tl at *
   have Ft:=hz.len
   simp only [bH,dz,aX,List.length_set,List.cons_append,List.nil_append] at hT
   simp only [Ic,w_,bH,dz,aX,Ft,go_sem,simprocAttr]
   simp only [decide_eq_true (show ((k:Nat):Int)<((y.lines.length:Nat):Int) by omega),go_sem,simprocAttr]
   rw [Ft] at hT
   refine aK [0,1,2,3,4,5,6,7] (hT) rfl ?_ (by decide) ?_ ?_ (by simp) ?_ <;> simp only [ah,ai,go_sem,simprocAttr,bA,bN,aP,bh]
   obtain ⟨l2,r2⟩:=tl
   have c1:(ms.length+1)*88≤70368744177664:=by omega
   cases r2 with
   | none=>
     simp only [gi,Option.getD_none,Option.isSome_none,go_sem,simprocAttr]
     refine bz (k+1) ?_ ?_ (show k+1≤y.lines.length by omega) (show y.lines.length-(k+1)<y.lines.length-k by omega)
     ·simp only [aP,bh,go_sem,simprocAttr]
     ·simp only [aG (show k<9223372036854775807 by omega),yQ,Option.toList,Ft,List.length_set,go_sem,simprocAttr]
   | some m=>
     simp only [gi,Option.getD_some,Option.isSome_some,List.length_append,c1,go_sem,simprocAttr]
     refine bz (k+1) ?_ ?_ (show k+1≤y.lines.length by omega) (show y.lines.length-(k+1)<y.lines.length-k by omega)
     ·simp only [aP,bh,go_sem,simprocAttr]
     ·simp only [aG (show k<9223372036854775807 by omega),yQ,Option.toList,Ft,List.length_set,List.map_append,List.length_append,go_sem,simprocAttr]
  ·obtain rfl:k=y.lines.length:=by omega
   rw [← hF] at *
   simp only [Ic,w_,bH,dz,aX,go_sem,simprocAttr]
   simp only [hz.len,decide_eq_false (show ¬ ((y.lines.length:Nat):Int)<((y.lines.length:Nat):Int) by omega),go_sem,simprocAttr]
   have hid:=bS 8 (Nat.le_refl 8) F.1
   simp only [bH,dz,aX,hz.len,bZ,dg,LV.int,LV.bool,List.cons_append,List.nil_append] at hid
   have htk:List.take F.2.length (List.map kV F.2)=List.map kV F.2:=List.take_of_length_le (by rw [List.length_map]; exact Nat.le_refl _)
   refine dF [] [0,1,2,3,4,5,6,7] [10] (vs:=[.agg [.int q.kind,.int q.a,.int q.b,.int q.c,.int q.d,.int q.e,.int q.f],.sl 10 F.2.length 11 0 F.2.length]) rfl rfl (by decide) (by decide) (by simp [St.obj,aB,de]) ?_ hid ?_
   ·simp only [List.map_cons,List.map_nil,fc,lU,bA,bN]
    rfl
   simp [aW,ai,ah,bE,LV.int,htk,St.obj,aB,de]
end Dv
