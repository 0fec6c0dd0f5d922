/- The logical machine and its plain laws: parts D9, D10, D11, D12, D13, D14, proved sound. -/
import Derived.Test.YtkalnfkokkjliaaGreatDoorD7
import Derived.Test.YtkalnfkokkjliaaGreatDoorPA
set_option linter.unusedVariables false
set_option linter.unusedSimpArgs false
namespace Dv
open Go Go.Proofs
variable {G:Nat→Option (List DV)}
def Q0:Nat×C×List RV:=(58,
(.seq (.af [qm 8 0,
 qo 9 (.aV (.t 8)),
 qo 10 (.aj 9 (.t 9)),
 qo 11 (.aj 1 (.t 10)),
 qo 12 (.ld1 (.t 11)),
 qm 13 1,
 qo 14 (.bin .sub (.t 13) (qk 1)),
 qo 15 (.eG 12 (.t 12) (.t 14)),
 qm 6 15])
 (.seq (.seq (.af [qm 16 0,
 qo 17 (.aV (.t 16)),
 qo 18 (.aj 9 (.t 17)),
 qo 19 (.aj 0 (.t 18)),
 qo 20 (.ld1 (.t 19)),
 qo 21 (.len (.t 20)),
 qo 22 (.mv (qk 0))])
 (.block 0 (.loop (.seq (.af [qo 23 (.bin .lss (.t 22) (.t 21))])
 (.seq (.cond (.t 23) .skip
 (.exit 0))
 (.seq (.block 1 (.seq (.af [qm 24 22,
 qm 7 24])
 (.seq (.af [qm 25 0,
 qo 26 (.aV (.t 25)),
 qo 27 (.aj 9 (.t 26)),
 qo 28 (.aj 0 (.t 27)),
 qo 29 (.ld1 (.t 28)),
 qm 30 7,
 qo 31 (.eG 5 (.t 29) (.t 30)),
 qo 32 (.aj 4 (.t 31)),
 qo 33 (.ld1 (.t 32)),
 qm 34 1,
 qo 35 (.bin .eql (.t 33) (.t 34))])
 (.cond (.t 35) (.af [qm 36 0,
 qo 37 (.aV (.t 36)),
 qo 38 (.aj 9 (.t 37)),
 qo 39 (.aj 0 (.t 38)),
 qo 40 (.ld1 (.t 39)),
 qm 41 7,
 qo 42 (.eG 5 (.t 40) (.t 41)),
 qo 43 (.aj 4 (.t 42)),
 qn (.st 1 (.t 43) (qk 0))])
 .skip))))
 (.af [qo 44 (.bin .add (.t 22) (qk 1)),
 qm 22 44])))))))
 (.af [qm 45 6,
 qm 46 6,
 qm 47 6,
 qm 48 6,
 qm 49 2,
 qo 50 (.aV (.t 45)),
 qo 51 (.aj 6 (.t 50)),
 qn (.st 1 (.t 51) (.t 49)),
 qo 52 (.aV (.t 46)),
 qo 53 (.aj 8 (.t 52)),
 qn (.st 1 (.t 53) (qk 0)),
 qo 54 (.aV (.t 47)),
 qo 55 (.aj 9 (.t 54)),
 qn (.st 1 (.t 55) (qk 0)),
 qo 56 (.aV (.t 48)),
 qo 57 (.aj 10 (.t 56)),
 qn (.st 1 (.t 57) (qk 0))]))),
[])
theorem Nv:aq Tryz.prog Tryz.f219=some Q0:=by kernel_rfl
def Qz:Nat×C×List RV:=(7,
(.seq (.af [qo 4 (.mv (qk 0))])
 (.seq (.seq (.af [qm 5 0])
 (.cond (.t 5) (.seq (.af [qo 4 (.mv (qk 0))])
 .ret)
 .skip))
 (.seq (.af [qm 6 1,
 qm 4 6])
 .ret))),
[(.t 4)])
theorem M7:aq Tryz.prog Tryz.f264=some Qz:=by kernel_rfl
def QY:Nat×C×List RV:=(15,
(.seq (.af [qo 6 (.mv (qk 0))])
 (.seq (.seq (.af [qm 7 1])
 (.cond (.t 7) (.af [qm 8 0,
 qm 9 2,
 qo 10 (.aV (.t 8)),
 qo 11 (.aj 9 (.t 10)),
 qo 12 (.aj 4 (.t 11)),
 qn (.st 1 (.t 12) (.t 9))])
 .skip))
 (.seq (.af [qm 13 1,
 qo 14 (.call (.f 264) [(.t 13),(qk 5)]),
 qm 6 14])
 .ret))),
[(.t 6)])
theorem Nt:aq Tryz.prog Tryz.f221=some QY:=by kernel_rfl
def RI:Nat×C×List RV:=(11,
(.seq (.af [qo 2 (.mv (qk 0))])
 (.seq (.af [qm 3 0,
 qm 4 0,
 qo 5 (.aV (.t 4)),
 qo 6 (.aj 9 (.t 5)),
 qo 7 (.aj 4 (.t 6)),
 qo 8 (.ld1 (.t 7)),
 qo 9 (.bin .eql (.t 8) (qk 0)),
 qo 10 (.call (.f 221) [(.t 3),(.t 9),(qk 1)]),
 qm 2 10])
 .ret)),
[(.t 2)])
theorem Oj:aq Tryz.prog Tryz.f148=some RI:=by kernel_rfl
def RH:Nat×C×List RV:=(11,
(.seq (.af [qo 2 (.mv (qk 0))])
 (.seq (.af [qm 3 0,
 qm 4 0,
 qo 5 (.aV (.t 4)),
 qo 6 (.aj 9 (.t 5)),
 qo 7 (.aj 4 (.t 6)),
 qo 8 (.ld1 (.t 7)),
 qo 9 (.bin .eql (.t 8) (qk 1)),
 qo 10 (.call (.f 221) [(.t 3),(.t 9),(qk 0)]),
 qm 2 10])
 .ret)),
[(.t 2)])
theorem Oi:aq Tryz.prog Tryz.f149=some RH:=by kernel_rfl
def RG:Nat×C×List RV:=(11,
(.seq (.af [qo 2 (.mv (qk 0))])
 (.seq (.af [qm 3 0,
 qm 4 0,
 qo 5 (.aV (.t 4)),
 qo 6 (.aj 9 (.t 5)),
 qo 7 (.aj 4 (.t 6)),
 qo 8 (.ld1 (.t 7)),
 qo 9 (.bin .neq (.t 8) (qk 2)),
 qo 10 (.call (.f 221) [(.t 3),(.t 9),(qk 2)]),
 qm 2 10])
 .ret)),
[(.t 2)])
theorem Oh:aq Tryz.prog Tryz.f150=some RG:=by kernel_rfl
def RJ:Nat×C×List RV:=(32,
(.seq (.af [qo 2 (.mv (qk 0))])
 (.seq (.seq (.af [qm 3 0,
 qo 4 (.aV (.t 3)),
 qo 5 (.aj 15 (.t 4)),
 qo 6 (.aj 1 (.t 5)),
 qo 7 (.ld1 (.t 6)),
 qo 8 (.call (.f 112) [(.t 7),(qk 1),(qk 9)]),
 qo 9 (.not (.t 8))])
 (.cond (.t 9) (.seq (.af [qo 2 (.mv (qk 1))])
 .ret)
 .skip))
 (.seq (.bQ [qm 10 0,
 qm 11 0,
 qm 12 0,
 qm 13 0,
 qd 14 (.aV (.t 13)) [3],
 qd 15 (.aj 9 (.t 14)) [4,3],
 qd 16 (.bP 6 (.t 15)) [5,4,3],
 qd 17 (.call (.f 220) [(.t 16)]) [6,5,4,3],
 qm 18 0,
 qd 19 (.aV (.t 18)) [8],
 qd 20 (.aj 15 (.t 19)) [9,8],
 qd 21 (.aj 1 (.t 20)) [10,9,8],
 qd 22 (.ld1 (.t 21)) [11,10,9,8],
 qd 23 (.aV (.t 10)) [0,3,4,5,6,7,12,11,10,9,8],
 qd 24 (.aj 9 (.t 23)) [13,0,3,4,5,6,7,12,11,10,9,8],
 qd 25 (.aj 3 (.t 24)) [14,13,0,3,4,5,6,7,12,11,10,9,8],
 ql (.st 1 (.t 25) (.t 17)) [15,14,13,0,3,4,5,6,7,12,11,10,9,8],
 qd 26 (.aV (.t 11)) [1,0,3,4,5,6,7,8,9,10,11,12,13,14,15,16],
 qd 27 (.aj 9 (.t 26)) [17,1,0,3,4,5,6,7,8,9,10,11,12,13,14,15,16],
 qd 28 (.aj 2 (.t 27)) [18,17,1,0,3,4,5,6,7,8,9,10,11,12,13,14,15,16],
 ql (.st 1 (.t 28) (.t 22)) [19,18,17,1,0,3,4,5,6,7,8,9,10,11,12,13,14,15,16],
 qd 29 (.aV (.t 12)) [2,0,1,3,4,5,6,7,8,9,10,11,12,13,14,15,16,17,18,19,20],
 qd 30 (.aj 9 (.t 29)) [21,2,0,1,3,4,5,6,7,8,9,10,11,12,13,14,15,16,17,18,19,20],
 qd 31 (.aj 4 (.t 30)) [22,21,2,0,1,3,4,5,6,7,8,9,10,11,12,13,14,15,16,17,18,19,20],
 ql (.st 1 (.t 31) (qk 0)) [23,22,21,2,0,1,3,4,5,6,7,8,9,10,11,12,13,14,15,16,17,18,19,20]])
 (.seq (.af [qo 2 (.mv (qk 0))])
 .ret)))),
[(.t 2)])
theorem Ol:aq Tryz.prog Tryz.f147=some RJ:=by kernel_rfl
def Rr:Nat×C×List RV:=(18,
(.seq (.af [qo 2 (.mv (qk 0))])
 (.seq (.seq (.af [qm 3 0,
 qo 4 (.aV (.t 3)),
 qo 5 (.aj 9 (.t 4)),
 qo 6 (.aj 5 (.t 5)),
 qo 7 (.ld1 (.t 6)),
 qo 8 (.bin .geq (.t 7) (qk 1000000))])
 (.cond (.t 8) (.seq (.af [qo 2 (.mv (qk 3))])
 .ret)
 .skip))
 (.seq (.af [qm 9 0,
 qo 10 (.aV (.t 9)),
 qo 11 (.aj 9 (.t 10)),
 qo 12 (.aj 5 (.t 11)),
 qo 13 (.ld1 (.t 12)),
 qo 14 (.bin .add (.t 13) (qk 1)),
 qo 15 (.aV (.t 9)),
 qo 16 (.aj 9 (.t 15)),
 qo 17 (.aj 5 (.t 16)),
 qn (.st 1 (.t 17) (.t 14))])
 (.seq (.af [qo 2 (.mv (qk 0))])
 .ret)))),
[(.t 2)])
theorem NU:aq Tryz.prog Tryz.f165=some Rr:=by kernel_rfl
def RL:Nat×C×List RV:=(50,
(.seq (.af [qo 2 (.mv (qk 0))])
 (.seq (.af [qm 5 0,
 qo 6 (.aV (.t 5)),
 qo 7 (.aj 15 (.t 6)),
 qo 8 (.bP 7 (.t 7)),
 qo 3 (.new 37 [q0,q0,q0,q0,q0,q0,q0]),
 qn (.st 7 (.t 3) (.t 8))])
 (.seq (.af [qo 9 (.aj 1 (.t 3)),
 qo 10 (.ld1 (.t 9)),
 qo 11 (.aj 2 (.t 3)),
 qo 12 (.ld1 (.t 11)),
 qo 13 (.aj 3 (.t 3)),
 qo 14 (.ld1 (.t 13)),
 qo 15 (.aj 4 (.t 3)),
 qo 16 (.ld1 (.t 15)),
 qo 17 (.aj 5 (.t 3)),
 qo 18 (.ld1 (.t 17)),
 qo 19 (.aj 6 (.t 3)),
 qo 20 (.ld1 (.t 19)),
 qo 21 (.build [q0,q0,q0,q0,q0,q0,q0,q0,q0,q0,q0,q0] [(0,1,(.t 10)),(1,1,(.t 12)),(2,1,(.t 14)),(3,1,(.t 16)),(4,1,(.t 18)),(5,1,(.t 20))]),
 qo 4 (.new 119 [q0,q0,q0,q0,q0,q0,q0,q0,q0,q0,q0,q0]),
 qn (.st 12 (.t 4) (.t 21))])
 (.seq (.block 0 (.seq (.bQ [qm 23 0,
 qd 24 (.aV (.t 23)) [0],
 qd 25 (.aj 0 (.t 24)) [1,0],
 qd 26 (.bP 9 (.t 25)) [2,1,0],
 qo 27 (.bP 12 (.t 4)),
 qd 28 (.call (.f 194) [(.t 26),(.t 27)]) [3,2,1,0,4],
 qd 29 (.not (.t 28)) [5,3,2,1,0,4],
 qd 22 (.mv (.t 29)) [6,5,3,2,1,0,4]])
 (.cond (.t 22) (.seq (.af [qo 2 (.mv (qk 1))])
 .ret)
 (.seq (.af [qm 31 0,
 qo 32 (.aV (.t 31)),
 qo 33 (.aj 9 (.t 32)),
 qo 34 (.aj 1 (.t 33)),
 qo 35 (.ld1 (.t 34)),
 qo 36 (.len (.t 35)),
 qo 37 (.bin .geq (.t 36) (qk 24)),
 qm 30 37])
 (.cond (.t 30) (.seq (.af [qo 2 (.mv (qk 3))])
 .ret)
 .skip)))))
 (.seq (.bQ [qm 38 0,
 qm 39 0,
 qd 40 (.aV (.t 39)) [1],
 qd 41 (.aj 9 (.t 40)) [2,1],
 qd 42 (.aj 1 (.t 41)) [3,2,1],
 qd 43 (.ld1 (.t 42)) [4,3,2,1],
 qo 44 (.bP 12 (.t 4)),
 qd 45 (.nh 119 12 [(.t 44)]) [6],
 qd 46 (.app 119 12 96 (.t 43) (.t 45)) [5,4,3,2,1,7,6],
 qd 47 (.aV (.t 38)) [0,1,2,3,4,5,6,7,8],
 qd 48 (.aj 9 (.t 47)) [9,0,1,2,3,4,5,6,7,8],
 qd 49 (.aj 1 (.t 48)) [10,9,0,1,2,3,4,5,6,7,8],
 ql (.st 1 (.t 49) (.t 46)) [11,10,9,0,1,2,3,4,5,6,7,8]])
 (.seq (.af [qo 2 (.mv (qk 0))])
 .ret)))))),
[(.t 2)])
theorem On:aq Tryz.prog Tryz.f145=some RL:=by kernel_rfl
@[reducible] def bL (c:aH) (s:aa) (o:cH) (jp np:LV):List aD:=
 [.box 133 [.int c.nodes,.int c.bG,.int c.cD,.int c.wave,.int c.b_,.int c.eE,.int c.deadline,.int c.room,.int c.fG,
  .sl 1 s.nodes.length 5 0 s.nodes.length,.sl 2 s.jobs.length 12 0 s.jobs.length,.int s.goal,.int s.prior,.int s.mode,.int s.term,
  .int o.kind,.int o.a,.int o.b,.int o.c,.int o.d,.int o.e,.int o.f,jp,np],
  .dat 102 5 (s.nodes.map ck),.dat 119 12 (s.jobs.map dh)]
@[reducible] def fu:LV:=.d (.val (.pointer none))
theorem AV (ok:Bool) (e:Int):bw Tryz.prog G 264 [.bool ok,.int e] [] (.int (if ok=true then 0 else e)) []:=by
 refine bn Tryz.func264 (by decide) M7 rfl rfl ?_
 simp only [Qz,go_sem,simprocAttr]
 cases ok <;> simp only [go_sem,simprocAttr,Bool.false_eq_true]
theorem uZ (c:aH) (s:aa) (o:cH) (ok:Bool) (to:Int):bw Tryz.prog G 221 [.ptr 0 0,.bool ok,.int to] (bL c s o fu fu) (.int (gF s ok to).2) (bL c (gF s ok to).1 o fu fu):=by
 refine aR Tryz.func221 (by decide) Nt rfl rfl rfl rfl ?_
 simp only [QY,go_sem,simprocAttr]
 cases ok with
 | true=>
   simp only [go_sem,simprocAttr]
   refine aC (AV true 5) rfl rfl rfl rfl ?_; simp only [go_sem,simprocAttr]
   simp only [gF,go_sem,simprocAttr]
 | false=>
   simp only [go_sem,simprocAttr]
   refine aC (AV false 5) rfl rfl rfl rfl ?_; simp only [go_sem,simprocAttr]
   simp only [gF,go_sem,simprocAttr,Bool.false_eq_true]
theorem Gw (c:aH) (s:aa) (o:cH):bw Tryz.prog G 148 [.ptr 0 0] (bL c s o fu fu) (.int (gF s (s.mode==0) 1).2) (bL c (gF s (s.mode==0) 1).1 o fu fu):=by
 refine aR Tryz.func148 (by decide) Oj rfl rfl rfl rfl ?_
 simp only [RI,go_sem,simprocAttr]
 refine aK [0,1,2] (uZ c s o (s.mode==0) 1) rfl ?_ (by decide) ?_ ?_ (by simp) ?_ <;> simp only [ah,ai,go_sem,simprocAttr,bL]
theorem Dg (c:aH) (s:aa) (o:cH):bw Tryz.prog G 149 [.ptr 0 0] (bL c s o fu fu) (.int (gF s (s.mode==1) 0).2) (bL c (gF s (s.mode==1) 0).1 o fu fu):=by
 refine aR Tryz.func149 (by decide) Oi rfl rfl rfl rfl ?_
 simp only [RH,go_sem,simprocAttr]
 refine aK [0,1,2] (uZ c s o (s.mode==1) 0) rfl ?_ (by decide) ?_ ?_ (by simp) ?_ <;> simp only [ah,ai,go_sem,simprocAttr,bL]
theorem Ie (c:aH) (s:aa) (o:cH):bw Tryz.prog G 150 [.ptr 0 0] (bL c s o fu fu) (.int (gF s (s.mode !=2) 2).2) (bL c (gF s (s.mode !=2) 2).1 o fu fu):=by
 refine aR Tryz.func150 (by decide) Oh rfl rfl rfl rfl ?_
 simp only [RG,go_sem,simprocAttr]
 refine aK [0,1,2] (uZ c s o (s.mode !=2) 2) rfl ?_ (by decide) ?_ ?_ (by simp) ?_ <;> simp only [ah,ai,go_sem,simprocAttr,bL]
theorem Bv (c:aH) (s:aa) (o:cH) (ht:s.term≤1000000) (h0:0≤s.term):bw Tryz.prog G 165 [.ptr 0 0] (bL c s o fu fu) (.int (gq s).2) (bL c (gq s).1 o fu fu):=by
 refine aR Tryz.func165 (by decide) NU rfl rfl rfl rfl ?_
 simp only [Rr,go_sem,simprocAttr]
 have hw:IntKind.i64.wrap (s.term+1)=s.term+1:=aO (by omega) (by omega)
 refine bg (fun h=>?_) (fun h=>?_) <;> simp only [h,go_sem,simprocAttr] <;> (try simp only [decide_eq_true_eq,decide_eq_false_iff_not] at h)
 ·simp only [gq,h,go_sem,simprocAttr]
 ·simp only [gq,h,hw,go_sem,simprocAttr]
theorem CU (c:aH) (s:aa) (o:cH) (hn:s.nodes.length≤1000) (hj:s.jobs.length≤1000):bw Tryz.prog G 147 [.ptr 0 0] (bL c s o fu fu) (.int (kg s o).2) (bL c (kg s o).1 o fu fu):=by
 refine aR Tryz.func147 (by decide) Ol rfl rfl rfl rfl ?_
 simp only [RJ,go_sem,simprocAttr]
 refine aC (ez _ _ _) rfl rfl rfl rfl ?_; simp only [go_sem,simprocAttr]
 cases h:bF o.a 1 9 with
 | false=>simp only [kg,h,go_sem,simprocAttr]
 | true=>
   simp only [go_sem,simprocAttr]
   refine xu [1,2] (iE s) rfl (by simp [ah,ai,bE,aB,List.take_of_length_le,go_sem,simprocAttr]) (by simp [aB]) rfl rfl ?_; simp only [go_sem,simprocAttr]
   refine av rfl ?_
   simp only [kg,h,go_sem,simprocAttr,Bool.true_eq_false]
theorem CW (c:aH) (s:aa) (o:cH) (h0:1≤c.bG∧c.bG≤1000) (hj:s.jobs.length≤1000):bw Tryz.prog G 145 [.ptr 0 0] (bL c s o fu fu) (.int (ji c s o).2) (bL c (ji c s o).1 o fu fu):=by
 refine aR Tryz.func145 (by decide) On rfl rfl rfl rfl ?_
 simp only [RL,go_sem,simprocAttr]
 refine bf (y_ c (kU o) h0) rfl rfl rfl rfl ?_; simp only [go_sem,simprocAttr]
 cases ha:jX c (kU o) with
 | false=>simp only [ji,ha,go_sem,simprocAttr]
 | true=>
   simp only [go_sem,simprocAttr]
   have hl:(s.jobs.length+1)*96≤70368744177664:=by omega
   refine bg (fun h=>?_) (fun h=>?_) <;> simp only [h,go_sem,simprocAttr] <;> (try simp only [decide_eq_true_eq,decide_eq_false_iff_not] at h)
   ·simp only [ji,ha,go_sem,simprocAttr,Bool.true_eq_false,show 24≤s.jobs.length by omega]
   ·have hh:¬ 24≤s.jobs.length:=by omega
    simp only [List.length_append,hl,go_sem,simprocAttr]
    refine av rfl ?_
    simp only [ji,ha,hh,List.map_append,List.length_append,go_sem,simprocAttr,Bool.true_eq_false]
    simp only [kU,go_sem,simprocAttr]
def nM (c:aH) (s:aa) (o:cH) (jp np:LV) (number phase:Int) (k:Nat):St:=⟨[(0,.ptr 0 0),(1,.int number),(2,.int phase),(6,.rp 2 s.jobs.length 12 (number-1).toNat 0),(21,.int s.nodes.length),(22,.int k)],
 [some (.box 133 [.int c.nodes,.int c.bG,.int c.cD,.int c.wave,.int c.b_,.int c.eE,.int c.deadline,.int c.room,.int c.fG,
  .sl 1 s.nodes.length 5 0 s.nodes.length,.sl 2 s.jobs.length 12 0 s.jobs.length,.int s.goal,.int s.prior,.int s.mode,.int s.term,
  .int o.kind,.int o.a,.int o.b,.int o.c,.int o.d,.int o.e,.int o.f,jp,np]),
  some (.dat 102 5 ((f_ (lets number) s.nodes k).map ck)),some (.dat 119 12 (s.jobs.map dh))]⟩
theorem iR (c:aH) (s:aa) (o:cH) (jp np:LV) (number phase:Int) (hjp:dZ 3 jp=true) (hnp:dZ 3 np=true) (h1:1≤number) (h2:number≤s.jobs.length) (hn:s.nodes.length≤1000) (hj:s.jobs.length≤1000) :
  bw Tryz.prog G 219 [.ptr 0 0,.int number,.int phase] (bL c s o jp np) (.dP []) (bL c (dS s number phase) o jp np):=by
 refine aR Tryz.func219 (by decide) Nv rfl rfl (by simp [ei,dZ,ej,hjp,hnp,LV.int]) rfl ?_
 have hw:IntKind.i64.wrap (number-1)=number-1:=aO (by omega) (by omega)
 have h3:0≤number-1:=by omega
 have h4:(number-1).toNat<s.jobs.length:=by omega
 simp only [Q0,hw,h3,h4,go_sem,simprocAttr]
 refine aY [0,1,2,6,21,22] [] (fun k:Nat=>k≤s.nodes.length) (fun k=>s.nodes.length-k) (nM c s o jp np number phase) 0 ?_ (Nat.zero_le _) (fun k hk=>?_)
 ·simp only [nM,go_sem,simprocAttr,uU,Int.natCast_zero]
 simp only [nM,go_sem,simprocAttr]
 refine bg (fun h=>?_) (fun h=>?_)
 ·have h:=dX h
  have hg:((f_ (lets number) s.nodes k).map ck)[k]? = some (ck s.nodes[k]):=by rw [List.getElem?_map,AT _ _ h]; rfl
  simp only [h,hg,lX,go_sem,simprocAttr]
  refine bg (fun hq=>?_) (fun hq=>?_) <;> simp only [hq,go_sem,simprocAttr] <;> (try simp only [beq_iff_eq,beq_eq_false_iff_ne,ne_eq] at hq)
  ·have hs:((f_ (lets number) s.nodes k).map ck).set k (ck { s.nodes[k] with aN:=0 })=(f_ (lets number) s.nodes (k+1)).map ck:=by
    rw [← List.map_set,sB _ _ h (by simp only [lets,hq,if_true])]
   simp only [ck] at hs
   simp only [h,hg,lX,go_sem,simprocAttr]
   refine bz (k+1) ?_ ?_ (by omega) (by omega)
   ·simp only [go_sem,simprocAttr,hjp,hnp]
   ·simp only [nM,go_sem,simprocAttr,aG (show k<9223372036854775807 by omega),hs]
  ·have hs:=uV (lets number) s.nodes h (by simp only [lets,hq,if_false])
   refine bz (k+1) ?_ ?_ (by omega) (by omega)
   ·simp only [go_sem,simprocAttr,hjp,hnp]
   ·simp only [nM,go_sem,simprocAttr,aG (show k<9223372036854775807 by omega),hs]
 ·obtain rfl:=d_ h hk
  have hg2:=aL (f:=dh) ax h4
  simp only [hg2,uW,go_sem,simprocAttr]
  simp only [List.getElem?_set_self,h4,List.set_set,List.length_set,go_sem,simprocAttr]
  simp only [dS,dM,List.map_set,List.length_set,List.length_mapIdx,go_sem,simprocAttr]
end Dv
namespace Dv
open Go Go.Proofs
variable {G:Nat→Option (List DV)}
def QX:Nat×C×List RV:=(20,
(.seq (.af [qo 1 (.box 102 (.t 0)),
 qo 2 (.mv qf)])
 (.seq (.af [qo 3 (.aj 0 (.t 1)),
 qo 4 (.ld1 (.t 3)),
 qm 5 4,
 qg 6 (.aj 1 (.t 1)) 5 true,
 qg 7 (.ld1 (.t 6)) 5 true,
 qg 8 (.not (.t 7)) 5 true,
 qo 9 (.pick (.t 5) (.t 8) qf),
 qm 10 9,
 qg 11 (.aj 2 (.t 1)) 10 true,
 qg 12 (.ld1 (.t 11)) 10 true,
 qg 13 (.not (.t 12)) 10 true,
 qo 14 (.pick (.t 10) (.t 13) qf),
 qm 15 14,
 qg 16 (.aj 4 (.t 1)) 15 true,
 qg 17 (.ld1 (.t 16)) 15 true,
 qg 18 (.bin .eql (.t 17) (qk 0)) 15 true,
 qo 19 (.pick (.t 15) (.t 18) qf),
 qm 2 19])
 .ret)),
[(.t 2)])
theorem Ns:aq Tryz.prog Tryz.f222=some QX:=by kernel_rfl
def Rw:Nat×C×List RV:=(26,
(.seq (.af [qo 2 (.mv (qk 0))])
 (.seq (.seq (.af [qm 3 0,
 qo 4 (.aV (.t 3)),
 qo 5 (.aj 23 (.t 4)),
 qo 6 (.ld1 (.t 5)),
 qo 7 (.aV (.t 6)),
 qo 8 (.aj 0 (.t 7)),
 qo 9 (.ld1 (.t 8)),
 qo 10 (.not (.t 9)),
 qm 11 10,
 qg 12 (.mv (.t 0)) 11 false,
 qg 13 (.aV (.t 12)) 11 false,
 qg 14 (.aj 23 (.t 13)) 11 false,
 qg 15 (.ld1 (.t 14)) 11 false,
 qg 16 (.aV (.t 15)) 11 false,
 qg 17 (.aj 1 (.t 16)) 11 false,
 qg 18 (.ld1 (.t 17)) 11 false,
 qo 19 (.pick (.t 11) qt (.t 18))])
 (.cond (.t 19) (.seq (.af [qo 2 (.mv (qk 5))])
 .ret)
 .skip))
 (.seq (.af [qm 20 0,
 qo 21 (.aV (.t 20)),
 qo 22 (.aj 23 (.t 21)),
 qo 23 (.ld1 (.t 22)),
 qo 24 (.aV (.t 23)),
 qo 25 (.aj 1 (.t 24)),
 qn (.st 1 (.t 25) qt)])
 (.seq (.af [qo 2 (.mv (qk 0))])
 .ret)))),
[(.t 2)])
theorem NZ:aq Tryz.prog Tryz.f160=some Rw:=by kernel_rfl
def Rv:Nat×C×List RV:=(26,
(.seq (.af [qo 2 (.mv (qk 0))])
 (.seq (.seq (.af [qm 3 0,
 qo 4 (.aV (.t 3)),
 qo 5 (.aj 23 (.t 4)),
 qo 6 (.ld1 (.t 5)),
 qo 7 (.aV (.t 6)),
 qo 8 (.aj 1 (.t 7)),
 qo 9 (.ld1 (.t 8)),
 qo 10 (.not (.t 9)),
 qm 11 10,
 qg 12 (.mv (.t 0)) 11 false,
 qg 13 (.aV (.t 12)) 11 false,
 qg 14 (.aj 23 (.t 13)) 11 false,
 qg 15 (.ld1 (.t 14)) 11 false,
 qg 16 (.aV (.t 15)) 11 false,
 qg 17 (.aj 2 (.t 16)) 11 false,
 qg 18 (.ld1 (.t 17)) 11 false,
 qo 19 (.pick (.t 11) qt (.t 18))])
 (.cond (.t 19) (.seq (.af [qo 2 (.mv (qk 5))])
 .ret)
 .skip))
 (.seq (.af [qm 20 0,
 qo 21 (.aV (.t 20)),
 qo 22 (.aj 23 (.t 21)),
 qo 23 (.ld1 (.t 22)),
 qo 24 (.aV (.t 23)),
 qo 25 (.aj 1 (.t 24)),
 qn (.st 1 (.t 25) qf)])
 (.seq (.af [qo 2 (.mv (qk 0))])
 .ret)))),
[(.t 2)])
theorem NY:aq Tryz.prog Tryz.f161=some Rv:=by kernel_rfl
def Ru:Nat×C×List RV:=(46,
(.seq (.af [qo 2 (.mv (qk 0))])
 (.seq (.seq (.af [qm 3 0,
 qo 4 (.aV (.t 3)),
 qo 5 (.aj 23 (.t 4)),
 qo 6 (.ld1 (.t 5)),
 qo 7 (.aV (.t 6)),
 qo 8 (.aj 0 (.t 7)),
 qo 9 (.ld1 (.t 8)),
 qo 10 (.not (.t 9)),
 qm 11 10,
 qg 12 (.mv (.t 0)) 11 false,
 qg 13 (.aV (.t 12)) 11 false,
 qg 14 (.aj 23 (.t 13)) 11 false,
 qg 15 (.ld1 (.t 14)) 11 false,
 qg 16 (.aV (.t 15)) 11 false,
 qg 17 (.aj 1 (.t 16)) 11 false,
 qg 18 (.ld1 (.t 17)) 11 false,
 qg 19 (.not (.t 18)) 11 false,
 qo 20 (.pick (.t 11) qt (.t 19)),
 qm 21 20,
 qg 22 (.mv (.t 0)) 21 false,
 qg 23 (.aV (.t 22)) 21 false,
 qg 24 (.aj 23 (.t 23)) 21 false,
 qg 25 (.ld1 (.t 24)) 21 false,
 qg 26 (.aV (.t 25)) 21 false,
 qg 27 (.aj 2 (.t 26)) 21 false,
 qg 28 (.ld1 (.t 27)) 21 false,
 qo 29 (.pick (.t 21) qt (.t 28)),
 qm 30 29,
 qg 31 (.mv (.t 0)) 30 false,
 qg 32 (.aV (.t 31)) 30 false,
 qg 33 (.aj 23 (.t 32)) 30 false,
 qg 34 (.ld1 (.t 33)) 30 false,
 qg 35 (.aV (.t 34)) 30 false,
 qg 36 (.aj 4 (.t 35)) 30 false,
 qg 37 (.ld1 (.t 36)) 30 false,
 qg 38 (.bin .neq (.t 37) (qk 0)) 30 false,
 qo 39 (.pick (.t 30) qt (.t 38))])
 (.cond (.t 39) (.seq (.af [qo 2 (.mv (qk 5))])
 .ret)
 .skip))
 (.seq (.af [qm 40 0,
 qo 41 (.aV (.t 40)),
 qo 42 (.aj 23 (.t 41)),
 qo 43 (.ld1 (.t 42)),
 qo 44 (.aV (.t 43)),
 qo 45 (.aj 2 (.t 44)),
 qn (.st 1 (.t 45) qt)])
 (.seq (.af [qo 2 (.mv (qk 0))])
 .ret)))),
[(.t 2)])
theorem NX:aq Tryz.prog Tryz.f162=some Ru:=by kernel_rfl
def Rt:Nat×C×List RV:=(43,
(.seq (.af [qo 2 (.mv (qk 0))])
 (.seq (.block 0 (.seq (.af [qm 4 0,
 qo 5 (.aV (.t 4)),
 qo 6 (.aj 15 (.t 5)),
 qo 7 (.aj 2 (.t 6)),
 qo 8 (.ld1 (.t 7)),
 qo 9 (.call (.f 112) [(.t 8),(qk 1),(qk 9)]),
 qo 10 (.not (.t 9)),
 qm 3 10])
 (.cond (.t 3) (.seq (.af [qo 2 (.mv (qk 1))])
 .ret)
 (.seq (.af [qm 12 0,
 qo 13 (.aV (.t 12)),
 qo 14 (.aj 23 (.t 13)),
 qo 15 (.ld1 (.t 14)),
 qo 16 (.aV (.t 15)),
 qo 17 (.aj 2 (.t 16)),
 qo 18 (.ld1 (.t 17)),
 qo 19 (.not (.t 18)),
 qm 11 19])
 (.cond (.t 11) (.seq (.af [qo 2 (.mv (qk 5))])
 .ret)
 .skip)))))
 (.seq (.bQ [qm 20 0,
 qd 21 (.aV (.t 20)) [0],
 qd 22 (.aj 23 (.t 21)) [1,0],
 qd 23 (.ld1 (.t 22)) [2,1,0],
 qm 24 0,
 qd 25 (.aV (.t 24)) [4],
 qd 26 (.aj 23 (.t 25)) [5,4],
 qd 27 (.ld1 (.t 26)) [6,5,4],
 qm 28 0,
 qd 29 (.aV (.t 28)) [8],
 qd 30 (.aj 23 (.t 29)) [9,8],
 qd 31 (.ld1 (.t 30)) [10,9,8],
 qm 32 0,
 qd 33 (.aV (.t 32)) [12],
 qd 34 (.aj 15 (.t 33)) [13,12],
 qd 35 (.aj 2 (.t 34)) [14,13,12],
 qd 36 (.ld1 (.t 35)) [15,14,13,12],
 qd 37 (.aV (.t 23)) [3,2,1,0,7,6,5,4,11,10,9,8,12,13,14,15,16],
 qd 38 (.aj 3 (.t 37)) [17,3,2,1,0,7,6,5,4,11,10,9,8,12,13,14,15,16],
 ql (.st 1 (.t 38) (.t 36)) [18,17,3,2,1,0,7,6,5,4,11,10,9,8,12,13,14,15,16],
 qd 39 (.aV (.t 27)) [7,6,5,4,0,1,2,3,11,10,9,8,12,13,14,15,16,17,18,19],
 qd 40 (.aj 2 (.t 39)) [20,7,6,5,4,0,1,2,3,11,10,9,8,12,13,14,15,16,17,18,19],
 ql (.st 1 (.t 40) qf) [21,20,7,6,5,4,0,1,2,3,11,10,9,8,12,13,14,15,16,17,18,19],
 qd 41 (.aV (.t 31)) [11,10,9,8,0,1,2,3,4,5,6,7,12,13,14,15,16,17,18,19,20,21,22],
 qd 42 (.aj 1 (.t 41)) [23,11,10,9,8,0,1,2,3,4,5,6,7,12,13,14,15,16,17,18,19,20,21,22],
 ql (.st 1 (.t 42) qf) [24,23,11,10,9,8,0,1,2,3,4,5,6,7,12,13,14,15,16,17,18,19,20,21,22]])
 (.seq (.af [qo 2 (.mv (qk 0))])
 .ret)))),
[(.t 2)])
theorem NW:aq Tryz.prog Tryz.f163=some Rt:=by kernel_rfl
def RE:Nat×C×List RV:=(36,
(.seq (.af [qo 2 (.mv (qk 0))])
 (.seq (.block 0 (.seq (.af [qm 4 0,
 qo 5 (.aV (.t 4)),
 qo 6 (.aj 15 (.t 5)),
 qo 7 (.aj 2 (.t 6)),
 qo 8 (.ld1 (.t 7)),
 qo 9 (.call (.f 112) [(.t 8),(qk 1),(qk 9)]),
 qo 10 (.not (.t 9)),
 qm 3 10])
 (.cond (.t 3) (.seq (.af [qo 2 (.mv (qk 1))])
 .ret)
 (.seq (.af [qm 12 0,
 qo 13 (.aV (.t 12)),
 qo 14 (.aj 23 (.t 13)),
 qo 15 (.ld1 (.t 14)),
 qo 16 (.aV (.t 15)),
 qo 17 (.aj 0 (.t 16)),
 qo 18 (.ld1 (.t 17)),
 qm 11 18])
 (.cond (.t 11) (.seq (.af [qo 2 (.mv (qk 5))])
 .ret)
 .skip)))))
 (.seq (.bQ [qm 19 0,
 qd 20 (.aV (.t 19)) [0],
 qd 21 (.aj 23 (.t 20)) [1,0],
 qd 22 (.ld1 (.t 21)) [2,1,0],
 qm 23 0,
 qd 24 (.aV (.t 23)) [4],
 qd 25 (.aj 23 (.t 24)) [5,4],
 qd 26 (.ld1 (.t 25)) [6,5,4],
 qm 27 0,
 qd 28 (.aV (.t 27)) [8],
 qd 29 (.aj 15 (.t 28)) [9,8],
 qd 30 (.aj 2 (.t 29)) [10,9,8],
 qd 31 (.ld1 (.t 30)) [11,10,9,8],
 qd 32 (.aV (.t 22)) [3,2,1,0,7,6,5,4,12,11,10,9,8],
 qd 33 (.aj 0 (.t 32)) [13,3,2,1,0,7,6,5,4,12,11,10,9,8],
 ql (.st 1 (.t 33) qt) [14,13,3,2,1,0,7,6,5,4,12,11,10,9,8],
 qd 34 (.aV (.t 26)) [7,6,5,4,0,1,2,3,8,9,10,11,12,13,14,15],
 qd 35 (.aj 3 (.t 34)) [16,7,6,5,4,0,1,2,3,8,9,10,11,12,13,14,15],
 ql (.st 1 (.t 35) (.t 31)) [17,16,7,6,5,4,0,1,2,3,8,9,10,11,12,13,14,15]])
 (.seq (.af [qo 2 (.mv (qk 0))])
 .ret)))),
[(.t 2)])
theorem Of:aq Tryz.prog Tryz.f152=some RE:=by kernel_rfl
def RF:Nat×C×List RV:=(40,
(.seq (.af [qo 2 (.mv (qk 0))])
 (.seq (.seq (.af [qm 3 0,
 qo 4 (.aV (.t 3)),
 qo 5 (.aj 23 (.t 4)),
 qo 6 (.ld1 (.t 5)),
 qo 7 (.aV (.t 6)),
 qo 8 (.aj 0 (.t 7)),
 qo 9 (.ld1 (.t 8)),
 qo 10 (.not (.t 9))])
 (.cond (.t 10) (.seq (.af [qo 2 (.mv (qk 5))])
 .ret)
 .skip))
 (.seq (.seq (.af [qm 11 0,
 qo 12 (.aV (.t 11)),
 qo 13 (.aj 23 (.t 12)),
 qo 14 (.ld1 (.t 13)),
 qo 15 (.aV (.t 14)),
 qo 16 (.aj 4 (.t 15)),
 qo 17 (.ld1 (.t 16)),
 qo 18 (.bin .neq (.t 17) (qk 0))])
 (.cond (.t 18) (.af [qm 19 0,
 qm 20 0,
 qo 21 (.aV (.t 20)),
 qo 22 (.aj 23 (.t 21)),
 qo 23 (.ld1 (.t 22)),
 qo 24 (.aV (.t 23)),
 qo 25 (.aj 4 (.t 24)),
 qo 26 (.ld1 (.t 25)),
 qo 27 (.call (.f 219) [(.t 19),(.t 26),(qk 0)])])
 .skip))
 (.seq (.bQ [qm 28 0,
 qd 29 (.aV (.t 28)) [0],
 qd 30 (.aj 23 (.t 29)) [1,0],
 qd 31 (.ld1 (.t 30)) [2,1,0],
 qm 32 0,
 qd 33 (.aV (.t 32)) [4],
 qd 34 (.aj 23 (.t 33)) [5,4],
 qd 35 (.ld1 (.t 34)) [6,5,4],
 qd 36 (.aV (.t 31)) [3,2,1,0,7,6,5,4],
 qd 37 (.aj 0 (.t 36)) [8,3,2,1,0,7,6,5,4],
 ql (.st 1 (.t 37) qf) [9,8,3,2,1,0,7,6,5,4],
 qd 38 (.aV (.t 35)) [7,6,5,4,0,1,2,3,8,9,10],
 qd 39 (.aj 2 (.t 38)) [11,7,6,5,4,0,1,2,3,8,9,10],
 ql (.st 1 (.t 39) qf) [12,11,7,6,5,4,0,1,2,3,8,9,10]])
 (.seq (.af [qo 2 (.mv (qk 0))])
 .ret))))),
[(.t 2)])
theorem Og:aq Tryz.prog Tryz.f151=some RF:=by kernel_rfl
def QW:Nat×C×List RV:=(21,
(.seq (.af [qo 2 (.mv qf)])
 (.seq (.af [qm 3 0,
 qo 4 (.aV (.t 3)),
 qo 5 (.aj 22 (.t 4)),
 qo 6 (.ld1 (.t 5)),
 qo 7 (.aV (.t 6)),
 qo 8 (.aj 6 (.t 7)),
 qo 9 (.ld1 (.t 8)),
 qo 10 (.bin .eql (.t 9) (qk 2)),
 qm 11 10,
 qg 12 (.mv (.t 0)) 11 false,
 qg 13 (.aV (.t 12)) 11 false,
 qg 14 (.aj 22 (.t 13)) 11 false,
 qg 15 (.ld1 (.t 14)) 11 false,
 qg 16 (.aV (.t 15)) 11 false,
 qg 17 (.aj 6 (.t 16)) 11 false,
 qg 18 (.ld1 (.t 17)) 11 false,
 qg 19 (.bin .eql (.t 18) (qk 3)) 11 false,
 qo 20 (.pick (.t 11) qt (.t 19)),
 qm 2 20])
 .ret)),
[(.t 2)])
theorem Nr:aq Tryz.prog Tryz.f223=some QW:=by kernel_rfl
def RK:Nat×C×List RV:=(18,
(.seq (.af [qo 2 (.mv (qk 0))])
 (.seq (.seq (.af [qm 3 0,
 qo 4 (.aV (.t 3)),
 qo 5 (.aj 22 (.t 4)),
 qo 6 (.ld1 (.t 5)),
 qo 7 (.aV (.t 6)),
 qo 8 (.aj 6 (.t 7)),
 qo 9 (.ld1 (.t 8)),
 qo 10 (.bin .eql (.t 9) (qk 4))])
 (.cond (.t 10) (.seq (.af [qo 2 (.mv (qk 5))])
 .ret)
 .skip))
 (.seq (.af [qm 11 0,
 qm 12 0,
 qo 13 (.aV (.t 12)),
 qo 14 (.aj 15 (.t 13)),
 qo 15 (.aj 1 (.t 14)),
 qo 16 (.ld1 (.t 15)),
 qo 17 (.call (.f 219) [(.t 11),(.t 16),(qk 4)])])
 (.seq (.af [qo 2 (.mv (qk 0))])
 .ret)))),
[(.t 2)])
theorem Om:aq Tryz.prog Tryz.f146=some RK:=by kernel_rfl
def RC:Nat×C×List RV:=(28,
(.seq (.af [qo 2 (.mv (qk 0))])
 (.seq (.seq (.af [qm 3 0,
 qo 4 (.aV (.t 3)),
 qo 5 (.aj 22 (.t 4)),
 qo 6 (.ld1 (.t 5)),
 qo 7 (.aV (.t 6)),
 qo 8 (.aj 6 (.t 7)),
 qo 9 (.ld1 (.t 8)),
 qo 10 (.bin .neq (.t 9) (qk 1))])
 (.cond (.t 10) (.seq (.af [qo 2 (.mv (qk 5))])
 .ret)
 .skip))
 (.seq (.bQ [qm 11 0,
 qd 12 (.aV (.t 11)) [0],
 qd 13 (.aj 22 (.t 12)) [1,0],
 qd 14 (.ld1 (.t 13)) [2,1,0],
 qm 15 0,
 qd 16 (.aV (.t 15)) [4],
 qd 17 (.aj 22 (.t 16)) [5,4],
 qd 18 (.ld1 (.t 17)) [6,5,4],
 qm 19 0,
 qd 20 (.aV (.t 19)) [8],
 qd 21 (.aj 15 (.t 20)) [9,8],
 qd 22 (.aj 2 (.t 21)) [10,9,8],
 qd 23 (.ld1 (.t 22)) [11,10,9,8],
 qd 24 (.aV (.t 14)) [3,2,1,0,7,6,5,4,12,11,10,9,8],
 qd 25 (.aj 6 (.t 24)) [13,3,2,1,0,7,6,5,4,12,11,10,9,8],
 ql (.st 1 (.t 25) (qk 2)) [14,13,3,2,1,0,7,6,5,4,12,11,10,9,8],
 qd 26 (.aV (.t 18)) [7,6,5,4,0,1,2,3,8,9,10,11,12,13,14,15],
 qd 27 (.aj 9 (.t 26)) [16,7,6,5,4,0,1,2,3,8,9,10,11,12,13,14,15],
 ql (.st 1 (.t 27) (.t 23)) [17,16,7,6,5,4,0,1,2,3,8,9,10,11,12,13,14,15]])
 (.seq (.af [qo 2 (.mv (qk 0))])
 .ret)))),
[(.t 2)])
theorem Od:aq Tryz.prog Tryz.f154=some RC:=by kernel_rfl
def RB:Nat×C×List RV:=(18,
(.seq (.af [qo 2 (.mv (qk 0))])
 (.seq (.seq (.af [qm 3 0,
 qo 4 (.aV (.t 3)),
 qo 5 (.aj 22 (.t 4)),
 qo 6 (.ld1 (.t 5)),
 qo 7 (.aV (.t 6)),
 qo 8 (.aj 6 (.t 7)),
 qo 9 (.ld1 (.t 8)),
 qo 10 (.bin .neq (.t 9) (qk 1))])
 (.cond (.t 10) (.seq (.af [qo 2 (.mv (qk 5))])
 .ret)
 .skip))
 (.seq (.af [qm 11 0,
 qm 12 0,
 qo 13 (.aV (.t 12)),
 qo 14 (.aj 15 (.t 13)),
 qo 15 (.aj 1 (.t 14)),
 qo 16 (.ld1 (.t 15)),
 qo 17 (.call (.f 219) [(.t 11),(.t 16),(qk 0)])])
 (.seq (.af [qo 2 (.mv (qk 0))])
 .ret)))),
[(.t 2)])
theorem Oc:aq Tryz.prog Tryz.f155=some RB:=by kernel_rfl
def RA:Nat×C×List RV:=(48,
(.seq (.af [qo 2 (.mv (qk 0))])
 (.seq (.block 0 (.seq (.af [qm 4 0,
 qo 5 (.aV (.t 4)),
 qo 6 (.aj 22 (.t 5)),
 qo 7 (.ld1 (.t 6)),
 qo 8 (.aV (.t 7)),
 qo 9 (.aj 6 (.t 8)),
 qo 10 (.ld1 (.t 9)),
 qo 11 (.bin .neq (.t 10) (qk 2)),
 qm 3 11])
 (.cond (.t 3) (.seq (.af [qo 2 (.mv (qk 5))])
 .ret)
 (.seq (.bQ [qm 13 0,
 qd 14 (.aV (.t 13)) [0],
 qd 15 (.aj 9 (.t 14)) [1,0],
 qd 16 (.bP 6 (.t 15)) [2,1,0],
 qm 17 0,
 qd 18 (.aV (.t 17)) [4],
 qd 19 (.aj 22 (.t 18)) [5,4],
 qd 20 (.ld1 (.t 19)) [6,5,4],
 qd 21 (.aV (.t 20)) [7,6,5,4],
 qd 22 (.aj 0 (.t 21)) [8,7,6,5,4],
 qd 23 (.ld1 (.t 22)) [9,8,7,6,5,4],
 qd 24 (.call (.f 115) [(.t 16),(.t 23)]) [3,2,1,0,10,9,8,7,6,5,4],
 qm 25 0,
 qd 26 (.aV (.t 25)) [12],
 qd 27 (.aj 0 (.t 26)) [13,12],
 qd 28 (.aj 2 (.t 27)) [14,13,12],
 qd 29 (.ld1 (.t 28)) [15,14,13,12],
 qd 30 (.bin .geq (.t 24) (.t 29)) [11,3,2,1,0,10,9,8,7,6,5,4,16,15,14,13,12],
 qd 12 (.mv (.t 30)) [17,11,3,2,1,0,10,9,8,7,6,5,4,16,15,14,13,12]])
 (.cond (.t 12) (.seq (.af [qo 2 (.mv (qk 7))])
 .ret)
 .skip)))))
 (.seq (.bQ [qm 31 0,
 qd 32 (.aV (.t 31)) [0],
 qd 33 (.aj 22 (.t 32)) [1,0],
 qd 34 (.ld1 (.t 33)) [2,1,0],
 qm 35 0,
 qd 36 (.aV (.t 35)) [4],
 qd 37 (.aj 22 (.t 36)) [5,4],
 qd 38 (.ld1 (.t 37)) [6,5,4],
 qm 39 0,
 qd 40 (.aV (.t 39)) [8],
 qd 41 (.aj 15 (.t 40)) [9,8],
 qd 42 (.aj 2 (.t 41)) [10,9,8],
 qd 43 (.ld1 (.t 42)) [11,10,9,8],
 qd 44 (.aV (.t 34)) [3,2,1,0,7,6,5,4,12,11,10,9,8],
 qd 45 (.aj 6 (.t 44)) [13,3,2,1,0,7,6,5,4,12,11,10,9,8],
 ql (.st 1 (.t 45) (qk 3)) [14,13,3,2,1,0,7,6,5,4,12,11,10,9,8],
 qd 46 (.aV (.t 38)) [7,6,5,4,0,1,2,3,8,9,10,11,12,13,14,15],
 qd 47 (.aj 10 (.t 46)) [16,7,6,5,4,0,1,2,3,8,9,10,11,12,13,14,15],
 ql (.st 1 (.t 47) (.t 43)) [17,16,7,6,5,4,0,1,2,3,8,9,10,11,12,13,14,15]])
 (.seq (.af [qo 2 (.mv (qk 0))])
 .ret)))),
[(.t 2)])
theorem Ob:aq Tryz.prog Tryz.f156=some RA:=by kernel_rfl
def Rz:Nat×C×List RV:=(47,
(.seq (.af [qo 2 (.mv (qk 0))])
 (.seq (.block 0 (.seq (.af [qm 4 0,
 qo 5 (.call (.f 223) [(.t 4)]),
 qo 6 (.not (.t 5)),
 qm 3 6])
 (.cond (.t 3) (.seq (.af [qo 2 (.mv (qk 5))])
 .ret)
 (.seq (.bQ [qm 8 0,
 qd 9 (.aV (.t 8)) [0],
 qd 10 (.aj 15 (.t 9)) [1,0],
 qd 11 (.aj 2 (.t 10)) [2,1,0],
 qd 12 (.ld1 (.t 11)) [3,2,1,0],
 qm 13 0,
 qd 14 (.aV (.t 13)) [5],
 qd 15 (.aj 22 (.t 14)) [6,5],
 qd 16 (.ld1 (.t 15)) [7,6,5],
 qd 17 (.aV (.t 16)) [8,7,6,5],
 qd 18 (.aj 7 (.t 17)) [9,8,7,6,5],
 qd 19 (.ld1 (.t 18)) [10,9,8,7,6,5],
 qd 20 (.bin .neq (.t 12) (.t 19)) [4,3,2,1,0,11,10,9,8,7,6,5],
 qd 21 (.mv (.t 20)) [12,4,3,2,1,0,11,10,9,8,7,6,5],
 qe 22 (.mv (.t 0)) 21 false [13,12,4,3,2,1,0,11,10,9,8,7,6,5],
 qe 23 (.aV (.t 22)) 21 false [14,13,12,4,3,2,1,0,11,10,9,8,7,6,5],
 qe 24 (.aj 15 (.t 23)) 21 false [15,14,13,12,4,3,2,1,0,11,10,9,8,7,6,5],
 qe 25 (.aj 2 (.t 24)) 21 false [16,15,14,13,12,4,3,2,1,0,11,10,9,8,7,6,5],
 qe 26 (.ld1 (.t 25)) 21 false [17,16,15,14,13,12,4,3,2,1,0,11,10,9,8,7,6,5],
 qe 27 (.mv (.t 0)) 21 false [13,12,4,3,2,1,0,11,10,9,8,7,6,5],
 qe 28 (.aV (.t 27)) 21 false [19,13,12,4,3,2,1,0,11,10,9,8,7,6,5],
 qe 29 (.aj 22 (.t 28)) 21 false [20,19,13,12,4,3,2,1,0,11,10,9,8,7,6,5],
 qe 30 (.ld1 (.t 29)) 21 false [21,20,19,13,12,4,3,2,1,0,11,10,9,8,7,6,5],
 qe 31 (.aV (.t 30)) 21 false [22,21,20,19,13,12,4,3,2,1,0,11,10,9,8,7,6,5],
 qe 32 (.aj 11 (.t 31)) 21 false [23,22,21,20,19,13,12,4,3,2,1,0,11,10,9,8,7,6,5],
 qe 33 (.ld1 (.t 32)) 21 false [24,23,22,21,20,19,13,12,4,3,2,1,0,11,10,9,8,7,6,5],
 qe 34 (.bin .leq (.t 26) (.t 33)) 21 false [18,17,16,15,14,13,12,4,3,2,1,0,11,10,9,8,7,6,5,25,24,23,22,21,20,19],
 qd 35 (.pick (.t 21) qt (.t 34)) [13,12,4,3,2,1,0,11,10,9,8,7,6,5,26,18,17,16,15,14,25,24,23,22,21,20,19],
 qd 7 (.mv (.t 35)) [27,13,12,4,3,2,1,0,11,10,9,8,7,6,5,26,18,17,16,15,14,25,24,23,22,21,20,19]])
 (.cond (.t 7) (.seq (.af [qo 2 (.mv (qk 6))])
 .ret)
 .skip)))))
 (.seq (.bQ [qm 36 0,
 qd 37 (.aV (.t 36)) [0],
 qd 38 (.aj 22 (.t 37)) [1,0],
 qd 39 (.ld1 (.t 38)) [2,1,0],
 qm 40 0,
 qd 41 (.aV (.t 40)) [4],
 qd 42 (.aj 15 (.t 41)) [5,4],
 qd 43 (.aj 2 (.t 42)) [6,5,4],
 qd 44 (.ld1 (.t 43)) [7,6,5,4],
 qd 45 (.aV (.t 39)) [3,2,1,0,4,5,6,7,8],
 qd 46 (.aj 11 (.t 45)) [9,3,2,1,0,4,5,6,7,8],
 ql (.st 1 (.t 46) (.t 44)) [10,9,3,2,1,0,4,5,6,7,8]])
 (.seq (.af [qo 2 (.mv (qk 0))])
 .ret)))),
[(.t 2)])
theorem Oa:aq Tryz.prog Tryz.f157=some Rz:=by kernel_rfl
def Ry:Nat×C×List RV:=(18,
(.seq (.af [qo 2 (.mv (qk 0))])
 (.seq (.seq (.af [qm 3 0,
 qo 4 (.aV (.t 3)),
 qo 5 (.aj 22 (.t 4)),
 qo 6 (.ld1 (.t 5)),
 qo 7 (.aV (.t 6)),
 qo 8 (.aj 6 (.t 7)),
 qo 9 (.ld1 (.t 8)),
 qo 10 (.bin .neq (.t 9) (qk 3))])
 (.cond (.t 10) (.seq (.af [qo 2 (.mv (qk 5))])
 .ret)
 .skip))
 (.seq (.af [qm 11 0,
 qm 12 0,
 qo 13 (.aV (.t 12)),
 qo 14 (.aj 15 (.t 13)),
 qo 15 (.aj 1 (.t 14)),
 qo 16 (.ld1 (.t 15)),
 qo 17 (.call (.f 219) [(.t 11),(.t 16),(qk 0)])])
 (.seq (.af [qo 2 (.mv (qk 0))])
 .ret)))),
[(.t 2)])
theorem N_:aq Tryz.prog Tryz.f158=some Ry:=by kernel_rfl
def Rx:Nat×C×List RV:=(13,
(.seq (.af [qo 2 (.mv (qk 0))])
 (.seq (.seq (.af [qm 3 0,
 qo 4 (.call (.f 223) [(.t 3)]),
 qo 5 (.not (.t 4))])
 (.cond (.t 5) (.seq (.af [qo 2 (.mv (qk 5))])
 .ret)
 .skip))
 (.seq (.af [qm 6 0,
 qm 7 0,
 qo 8 (.aV (.t 7)),
 qo 9 (.aj 15 (.t 8)),
 qo 10 (.aj 1 (.t 9)),
 qo 11 (.ld1 (.t 10)),
 qo 12 (.call (.f 219) [(.t 6),(.t 11),(qk 4)])])
 (.seq (.af [qo 2 (.mv (qk 0))])
 .ret)))),
[(.t 2)])
theorem N0:aq Tryz.prog Tryz.f159=some Rx:=by kernel_rfl
def ta (s:aa) (j:bU) (nodes:Int) (f:Nat) (kv:Nat×Int):St:=⟨[(2,.int nodes),(3,.fn (.func f) [] []),(9,.int kv.2),(36,bZ s.nodes),(37,.int s.nodes.length),(38,.int kv.1)],[some (.box 30 [bZ s.nodes,dg s.jobs,.int s.goal,.int s.prior,.int s.mode,.int s.term]),some (.box 119 [.int j.queue,.int j.prio,.int j.min,.int j.max,.int j.work,.int j.pin,.int j.phase,.int j.inc,.int j.nodes,.int j.since,.int j.til,.int j.epoch])]⟩
theorem Ho (s:aa) (j:bU) (nodes:Int) (f:Nat) (takes:bK→Bool) (hn:s.nodes.length≤6) (hT:∀ n,bw Tryz.prog G f [vP n] [] (.bool (takes n)) []) :
  bw Tryz.prog G 196 [bp s,zW j,.int nodes,.fn (.func f) [] []] [] (.bool (kC s.nodes j nodes takes)) []:=by
 refine bn Tryz.func196 (by decide) Fk rfl rfl ?_
 have hp:(2:Int) ^ s.nodes.length≤64∧1≤(2:Int) ^ s.nodes.length:=by
  have:s.nodes.length=0∨s.nodes.length=1∨s.nodes.length=2∨s.nodes.length=3∨s.nodes.length=4∨s.nodes.length=5∨s.nodes.length=6:=by omega
  rcases this with h | h | h | h | h | h | h <;> rw [h] <;> decide
 have hw:=qN s.nodes.length hn
 simp only [J_,go_sem,simprocAttr]
 unfold kC
 have none:∀ {x y:Prop} [Decidable x] [Decidable y] {b:Bool},x∨y→(if x∨y then false else b)=false:=fun h=>by rw [if_pos h]
 refine fW (fun h1=>?_) (fun h1=>?_) <;> simp only [h1,go_sem,simprocAttr] <;> (try simp only [decide_eq_true_eq,decide_eq_false_iff_not,Bool.not_false] at h1)
 ·simp only [hw]
  refine fW (fun h2=>?_) (fun h2=>?_) <;> simp only [h2,go_sem,simprocAttr] <;> (try simp only [decide_eq_true_eq,decide_eq_false_iff_not,Bool.not_false] at h2)
  ·obtain ⟨m,rfl⟩:=Int.eq_ofNat_of_zero_le (show 0≤nodes by omega)
   have hm:m<64:=by omega
   have Yg:IntKind.u64.wrap (m:Int)=m:=by simp [IntKind.wrap,IntKind.bits,IntKind.signed]; omega
   rw [if_neg (by omega)]
   simp only [Yg]
   refine bf (rq m hm) rfl rfl rfl rfl ?_; simp only [go_sem,simprocAttr]
   refine bf (ez _ _ _) rfl rfl rfl rfl ?_; simp only [go_sem,simprocAttr]
   cases hb:bF (many m) j.min j.max with
   | false=>simp only [go_sem,simprocAttr]
   | true=>
     simp only [go_sem,simprocAttr]
     generalize OZ:dK m takes s.nodes 0 j.pin=r
     refine aY [2,3,9,36,37,38] [] (fun kv:Nat×Int=>kv.1≤s.nodes.length∧dK m takes (s.nodes.drop kv.1) kv.1 kv.2=r) (fun kv=>s.nodes.length-kv.1) (ta s j m f) (0,j.pin) ?_ ⟨Nat.zero_le _,OZ⟩ ?_
     ·simp only [ta,go_sem,simprocAttr,Int.natCast_zero]
     rintro ⟨k,v⟩ ⟨hk,hF⟩
     dsimp only at hk hF
     simp only [ta,go_sem,simprocAttr]
     refine bg (fun h=>?_) (fun h=>?_)
     ·have h:=dX h
      rw [List.drop_eq_getElem_cons h] at hF
      unfold dK at hF
      simp only [get_map h,go_sem,simprocAttr,FQ (m:Int) k (by omega)]
      have go:∀ v',dK m takes (s.nodes.drop (k+1)) (k+1) v'=r→(k+1,v').1≤s.nodes.length∧dK m takes (s.nodes.drop (k+1,v').1) (k+1,v').1 (k+1,v').2=r:=fun v' h'=>⟨h,h'⟩
      cases hb1:hasB (m:Int) k with
      | false=>
        rw [if_pos hb1] at hF
        simp only [go_sem,simprocAttr]
        refine bz (k+1,v) ?_ ?_ (go _ hF) (by dsimp only; omega)
        ·simp only [go_sem,simprocAttr]
        ·simp only [ta,go_sem,simprocAttr,aG (show k<9223372036854775807 by omega)]
      | true=>
        rw [if_neg (by simp [hb1])] at hF
        simp only [go_sem,simprocAttr]
        refine bg (fun hv=>?_) (fun hv=>?_) <;> simp only [hv,go_sem,simprocAttr] <;> (try simp only [beq_iff_eq,beq_eq_false_iff_ne,ne_eq] at hv)
        ·rw [if_pos hv] at hF
         refine aC (hT s.nodes[k]) rfl rfl rfl rfl ?_; simp only [go_sem,simprocAttr]
         cases ht:takes s.nodes[k] with
         | false=>
           rw [if_neg (by simp [ht])] at hF
           simp only [go_sem,simprocAttr,← hF]
         | true=>
           by_cases hq:s.nodes[k].version=s.nodes[k].version
           ·rw [if_pos ⟨ht,hq⟩] at hF
            have hq1:(s.nodes[k].version !=s.nodes[k].version)=false:=by simp
            simp only [go_sem,simprocAttr,hq1]
            refine bz (k+1,s.nodes[k].version) ?_ ?_ (go _ hF) (by dsimp only; omega)
            ·simp only [go_sem,simprocAttr]
            ·simp only [ta,go_sem,simprocAttr,aG (show k<9223372036854775807 by omega)]
           ·rw [if_neg (fun h'=>hq h'.2)] at hF
            have hq1:(s.nodes[k].version !=s.nodes[k].version)=true:=bne_iff_ne.2 hq
            simp only [go_sem,simprocAttr,hq1,← hF]
        ·rw [if_neg hv] at hF
         refine aC (hT s.nodes[k]) rfl rfl rfl rfl ?_; simp only [go_sem,simprocAttr]
         cases ht:takes s.nodes[k] with
         | false=>
           rw [if_neg (by simp [ht])] at hF
           simp only [go_sem,simprocAttr,← hF]
         | true=>
           by_cases hq:s.nodes[k].version=v
           ·rw [if_pos ⟨ht,hq⟩] at hF
            have hq1:(s.nodes[k].version !=v)=false:=by simp [← hq]
            simp only [go_sem,simprocAttr,hq1]
            refine bz (k+1,v) ?_ ?_ (go _ hF) (by dsimp only; omega)
            ·simp only [go_sem,simprocAttr]
            ·simp only [ta,go_sem,simprocAttr,aG (show k<9223372036854775807 by omega)]
           ·rw [if_neg (fun h'=>hq h'.2)] at hF
            have hq1:(s.nodes[k].version !=v)=true:=bne_iff_ne.2 hq
            simp only [go_sem,simprocAttr,hq1,← hF]
     ·obtain rfl:=d_ h hk
      rw [List.drop_length] at hF
      simp only [go_sem,simprocAttr,← hF,dK]
  ·rw [if_pos (.inr h2)]
 ·rw [if_pos (.inl h1)]
theorem B0 (n:bK):bw Tryz.prog G 222 [vP n] [] (.bool (jW n)) []:=by
 refine bn Tryz.func222 (by decide) Ns rfl rfl ?_
 simp only [QX,go_sem,simprocAttr]
 unfold jW
 cases h1:n.up <;> cases h2:n.ct <;> cases h3:n.bu <;> simp only [go_sem,simprocAttr] <;> rfl
section
variable (c:aH) (s:aa) (o:cH) (i:Nat) (hi:i<s.nodes.length) (ha:o.a=i)
include hi ha
theorem Ei:bw Tryz.prog G 160 [.ptr 0 0] (bL c s o fu (.rp 1 s.nodes.length 5 i 0)) (.int (mE s o).2) (bL c (mE s o).1 o fu (.rp 1 s.nodes.length 5 i 0)):=by
 refine aR Tryz.func160 (by decide) NZ rfl rfl rfl rfl ?_
 simp only [Rw,go_sem,simprocAttr]
 have hg:=aL (f:=ck) ag hi
 have ha2:o.a.toNat=i:=by omega
 have hN:cE s o.a=s.nodes.getD i ag:=by unfold cE; rw [ha2]
 generalize s.nodes.getD i ag=n at *
 cases hu:n.up <;> cases hc:n.ct <;> simp only [hg,hu,hc,go_sem,simprocAttr] <;> simp only [mE,hu,hc,iW,hN,ha2,List.map_set,List.length_set,go_sem,simprocAttr,Bool.true_eq_false,Bool.false_eq_true,or_self]
theorem zg:bw Tryz.prog G 161 [.ptr 0 0] (bL c s o fu (.rp 1 s.nodes.length 5 i 0)) (.int (iy s o).2) (bL c (iy s o).1 o fu (.rp 1 s.nodes.length 5 i 0)):=by
 refine aR Tryz.func161 (by decide) NY rfl rfl rfl rfl ?_
 simp only [Rv,go_sem,simprocAttr]
 have hg:=aL (f:=ck) ag hi
 have ha2:o.a.toNat=i:=by omega
 have hN:cE s o.a=s.nodes.getD i ag:=by unfold cE; rw [ha2]
 generalize s.nodes.getD i ag=n at *
 cases hu:n.bu <;> cases hc:n.ct <;> simp only [hg,hu,hc,go_sem,simprocAttr] <;> simp only [iy,hu,hc,iW,hN,ha2,List.map_set,List.length_set,go_sem,simprocAttr,Bool.true_eq_false,Bool.false_eq_true,or_self]
theorem JF:bw Tryz.prog G 162 [.ptr 0 0] (bL c s o fu (.rp 1 s.nodes.length 5 i 0)) (.int (vV s o).2) (bL c (vV s o).1 o fu (.rp 1 s.nodes.length 5 i 0)):=by
 refine aR Tryz.func162 (by decide) NX rfl rfl rfl rfl ?_
 simp only [Ru,go_sem,simprocAttr]
 have hg:=aL (f:=ck) ag hi
 have ha2:o.a.toNat=i:=by omega
 have hN:cE s o.a=s.nodes.getD i ag:=by unfold cE; rw [ha2]
 generalize s.nodes.getD i ag=n at *
 cases hu:n.up <;> cases hc:n.ct <;> cases hm:n.bu <;> cases hj:(n.aN !=0) <;> simp only [hg,hu,hc,hm,hj,go_sem,simprocAttr] <;> (simp only [bne_iff_ne,ne_eq,bne_eq_false_iff_eq] at hj) <;> simp only [vV,hu,hc,hm,hj,iW,hN,ha2,List.map_set,List.length_set,go_sem,simprocAttr,Bool.true_eq_false,Bool.false_eq_true,ne_eq,not_true,not_false_eq_true,or_self]
theorem GG:bw Tryz.prog G 163 [.ptr 0 0] (bL c s o fu (.rp 1 s.nodes.length 5 i 0)) (.int (me s o).2) (bL c (me s o).1 o fu (.rp 1 s.nodes.length 5 i 0)):=by
 refine aR Tryz.func163 (by decide) NW rfl rfl rfl rfl ?_
 simp only [Rt,go_sem,simprocAttr]
 have hg:=aL (f:=ck) ag hi
 have ha2:o.a.toNat=i:=by omega
 have hN:cE s o.a=s.nodes.getD i ag:=by unfold cE; rw [ha2]
 generalize s.nodes.getD i ag=n at *
 refine aC (ez _ _ _) rfl rfl rfl rfl ?_; simp only [go_sem,simprocAttr]
 cases hw:bF o.b 1 9 with
 | false=>simp only [go_sem,simprocAttr]; simp only [me,hw,go_sem,simprocAttr]
 | true=>
   cases hm:n.bu with
   | false=>simp only [hg,hm,go_sem,simprocAttr]; simp only [me,hw,hm,hN,go_sem,simprocAttr,Bool.true_eq_false]
   | true=>
     simp only [hg,hm,hi,List.getElem?_set_self,List.length_set,go_sem,simprocAttr]
     refine av rfl ?_
     simp only [me,hw,hm,iW,hN,ha2,List.map_set,List.length_set,List.set_set,go_sem,simprocAttr,Bool.true_eq_false]
theorem Sz:bw Tryz.prog G 152 [.ptr 0 0] (bL c s o fu (.rp 1 s.nodes.length 5 i 0)) (.int (LK s o).2) (bL c (LK s o).1 o fu (.rp 1 s.nodes.length 5 i 0)):=by
 refine aR Tryz.func152 (by decide) Of rfl rfl rfl rfl ?_
 simp only [RE,go_sem,simprocAttr]
 have hg:=aL (f:=ck) ag hi
 have ha2:o.a.toNat=i:=by omega
 have hN:cE s o.a=s.nodes.getD i ag:=by unfold cE; rw [ha2]
 generalize s.nodes.getD i ag=n at *
 refine aC (ez _ _ _) rfl rfl rfl rfl ?_; simp only [go_sem,simprocAttr]
 cases hw:bF o.b 1 9 with
 | false=>simp only [go_sem,simprocAttr]; simp only [LK,hw,go_sem,simprocAttr]
 | true=>
   cases hm:n.up with
   | true=>simp only [hg,hm,go_sem,simprocAttr]; simp only [LK,hw,hm,hN,go_sem,simprocAttr,Bool.true_eq_false]
   | false=>
     simp only [hg,hm,hi,List.getElem?_set_self,List.length_set,go_sem,simprocAttr]
     refine av rfl ?_
     simp only [LK,hw,hm,iW,hN,ha2,List.map_set,List.length_set,List.set_set,go_sem,simprocAttr,Bool.true_eq_false,Bool.false_eq_true]
end
end Dv
namespace Dv
open Go Go.Proofs
variable {G:Nat→Option (List DV)}
theorem A8 (c:aH) (s:aa) (o:cH) (k:Nat) (hk:k<s.jobs.length) (ha:o.a=k+1):bw Tryz.prog G 223 [.ptr 0 0] (bL c s o (.rp 2 s.jobs.length 12 k 0) fu) (.bool (qQ (dM s o.a))) (bL c s o (.rp 2 s.jobs.length 12 k 0) fu):=by
 refine aR Tryz.func223 (by decide) Nr rfl rfl rfl rfl ?_
 simp only [QW,go_sem,simprocAttr]
 have hg:=aL (f:=dh) ax hk
 have ha2:(o.a-1).toNat=k:=by omega
 have hJ:dM s o.a=s.jobs.getD k ax:=by unfold dM; rw [ha2]
 generalize s.jobs.getD k ax=j at *
 simp only [hg,go_sem,simprocAttr]
 refine cN (fun h=>?_) (fun h=>?_) <;> simp only [h,go_sem,simprocAttr] <;> (try simp only [beq_iff_eq,beq_eq_false_iff_ne,ne_eq,Bool.not_false] at h)
 ·have e1:(j.phase==2)=false:=by simpa using h
  simp only [hg,hJ,qQ,h,go_sem,simprocAttr]
  rfl
 ·have e1:(j.phase==2)=true:=by simpa using h
  simp only [hJ,qQ,h,go_sem,simprocAttr]
theorem Es (c:aH) (s:aa) (o:cH) (k:Nat) (hk:k<s.jobs.length) (ha:o.a=k+1) (hn:s.nodes.length≤1000) (hj:s.jobs.length≤1000):bw Tryz.prog G 146 [.ptr 0 0] (bL c s o (.rp 2 s.jobs.length 12 k 0) fu) (.int (kI s o).2) (bL c (kI s o).1 o (.rp 2 s.jobs.length 12 k 0) fu):=by
 refine aR Tryz.func146 (by decide) Om rfl rfl rfl rfl ?_
 simp only [RK,go_sem,simprocAttr]
 have hg:=aL (f:=dh) ax hk
 have ha2:(o.a-1).toNat=k:=by omega
 have hJ:dM s o.a=s.jobs.getD k ax:=by unfold dM; rw [ha2]
 generalize s.jobs.getD k ax=j at *
 simp only [hg,go_sem,simprocAttr]
 refine bg (fun h=>?_) (fun h=>?_) <;> simp only [h,go_sem,simprocAttr] <;> (try simp only [beq_iff_eq,beq_eq_false_iff_ne,ne_eq] at h)
 ·simp only [kI,h,hJ,go_sem,simprocAttr]
 ·refine aK [0,1,2] (iR c s o (.rp 2 s.jobs.length 12 k 0) fu o.a 4 rfl rfl (by omega) (by omega) hn hj) rfl ?_ (by decide) ?_ ?_ (by simp) ?_ <;> simp only [ah,ai,go_sem,simprocAttr,bL]
  simp only [kI,h,hJ,go_sem,simprocAttr]
theorem CQ (c:aH) (s:aa) (o:cH) (k:Nat) (hk:k<s.jobs.length) (ha:o.a=k+1) (hn:s.nodes.length≤1000) (hj:s.jobs.length≤1000):bw Tryz.prog G 155 [.ptr 0 0] (bL c s o (.rp 2 s.jobs.length 12 k 0) fu) (.int (kf s o).2) (bL c (kf s o).1 o (.rp 2 s.jobs.length 12 k 0) fu):=by
 refine aR Tryz.func155 (by decide) Oc rfl rfl rfl rfl ?_
 simp only [RB,go_sem,simprocAttr]
 have hg:=aL (f:=dh) ax hk
 have ha2:(o.a-1).toNat=k:=by omega
 have hJ:dM s o.a=s.jobs.getD k ax:=by unfold dM; rw [ha2]
 generalize s.jobs.getD k ax=j at *
 simp only [hg,go_sem,simprocAttr]
 refine bg (fun h=>?_) (fun h=>?_) <;> simp only [h,go_sem,simprocAttr] <;> (try simp only [bne_iff_ne,ne_eq,bne_eq_false_iff_eq] at h)
 ·simp only [kf,h,hJ,go_sem,simprocAttr,ne_eq,not_false_eq_true]
 ·refine aK [0,1,2] (iR c s o (.rp 2 s.jobs.length 12 k 0) fu o.a 0 rfl rfl (by omega) (by omega) hn hj) rfl ?_ (by decide) ?_ ?_ (by simp) ?_ <;> simp only [ah,ai,go_sem,simprocAttr,bL]
  simp only [kf,h,hJ,go_sem,simprocAttr,ne_eq,not_true]
theorem Hv (c:aH) (s:aa) (o:cH) (k:Nat) (hk:k<s.jobs.length) (ha:o.a=k+1) (hn:s.nodes.length≤1000) (hj:s.jobs.length≤1000):bw Tryz.prog G 158 [.ptr 0 0] (bL c s o (.rp 2 s.jobs.length 12 k 0) fu) (.int (oc s o).2) (bL c (oc s o).1 o (.rp 2 s.jobs.length 12 k 0) fu):=by
 refine aR Tryz.func158 (by decide) N_ rfl rfl rfl rfl ?_
 simp only [Ry,go_sem,simprocAttr]
 have hg:=aL (f:=dh) ax hk
 have ha2:(o.a-1).toNat=k:=by omega
 have hJ:dM s o.a=s.jobs.getD k ax:=by unfold dM; rw [ha2]
 generalize s.jobs.getD k ax=j at *
 simp only [hg,go_sem,simprocAttr]
 refine bg (fun h=>?_) (fun h=>?_) <;> simp only [h,go_sem,simprocAttr] <;> (try simp only [bne_iff_ne,ne_eq,bne_eq_false_iff_eq] at h)
 ·simp only [oc,h,hJ,go_sem,simprocAttr,ne_eq,not_false_eq_true]
 ·refine aK [0,1,2] (iR c s o (.rp 2 s.jobs.length 12 k 0) fu o.a 0 rfl rfl (by omega) (by omega) hn hj) rfl ?_ (by decide) ?_ ?_ (by simp) ?_ <;> simp only [ah,ai,go_sem,simprocAttr,bL]
  simp only [oc,h,hJ,go_sem,simprocAttr,ne_eq,not_true]
theorem HC (c:aH) (s:aa) (o:cH) (k:Nat) (hk:k<s.jobs.length) (ha:o.a=k+1) (hn:s.nodes.length≤1000) (hj:s.jobs.length≤1000):bw Tryz.prog G 159 [.ptr 0 0] (bL c s o (.rp 2 s.jobs.length 12 k 0) fu) (.int (ug s o).2) (bL c (ug s o).1 o (.rp 2 s.jobs.length 12 k 0) fu):=by
 refine aR Tryz.func159 (by decide) N0 rfl rfl rfl rfl ?_
 simp only [Rx,go_sem,simprocAttr]
 have hg:=aL (f:=dh) ax hk
 have ha2:(o.a-1).toNat=k:=by omega
 have hJ:dM s o.a=s.jobs.getD k ax:=by unfold dM; rw [ha2]
 generalize s.jobs.getD k ax=j at *
 refine aK [0,1,2] (A8 c s o k hk ha) rfl ?_ (by decide) ?_ ?_ (by simp) ?_ <;> simp only [ah,ai,go_sem,simprocAttr,bL]
 simp only [hJ]
 cases h:qQ j with
 | false=>simp only [go_sem,simprocAttr]; simp only [ug,h,hJ,go_sem,simprocAttr]
 | true=>
   simp only [go_sem,simprocAttr]
   refine aK [0,1,2] (iR c s o (.rp 2 s.jobs.length 12 k 0) fu o.a 4 rfl rfl (by omega) (by omega) hn hj) rfl ?_ (by decide) ?_ ?_ (by simp) ?_ <;> simp only [ah,ai,go_sem,simprocAttr,bL]
   simp only [ug,h,hJ,go_sem,simprocAttr,Bool.true_eq_false]
theorem F9 (c:aH) (s:aa) (o:cH) (k:Nat) (hk:k<s.jobs.length) (ha:o.a=k+1):bw Tryz.prog G 154 [.ptr 0 0] (bL c s o (.rp 2 s.jobs.length 12 k 0) fu) (.int (nG s o).2) (bL c (nG s o).1 o (.rp 2 s.jobs.length 12 k 0) fu):=by
 refine aR Tryz.func154 (by decide) Od rfl rfl rfl rfl ?_
 simp only [RC,go_sem,simprocAttr]
 have hg:=aL (f:=dh) ax hk
 have ha2:(o.a-1).toNat=k:=by omega
 have hJ:dM s o.a=s.jobs.getD k ax:=by unfold dM; rw [ha2]
 generalize s.jobs.getD k ax=j at *
 simp only [hg,go_sem,simprocAttr]
 refine bg (fun h=>?_) (fun h=>?_) <;> simp only [h,go_sem,simprocAttr] <;> (try simp only [bne_iff_ne,ne_eq,bne_eq_false_iff_eq] at h)
 ·simp only [nG,h,hJ,go_sem,simprocAttr,ne_eq,not_false_eq_true]
 ·simp only [hg,hk,List.getElem?_set_self,List.length_set,go_sem,simprocAttr]
  refine av rfl ?_
  simp only [nG,h,fm,hJ,ha2,List.map_set,List.length_set,List.set_set,go_sem,simprocAttr,ne_eq,not_true]
theorem Gg (c:aH) (s:aa) (o:cH) (k:Nat) (hk:k<s.jobs.length) (ha:o.a=k+1):bw Tryz.prog G 157 [.ptr 0 0] (bL c s o (.rp 2 s.jobs.length 12 k 0) fu) (.int (jH s o).2) (bL c (jH s o).1 o (.rp 2 s.jobs.length 12 k 0) fu):=by
 refine aR Tryz.func157 (by decide) Oa rfl rfl rfl rfl ?_
 simp only [Rz,go_sem,simprocAttr]
 have hg:=aL (f:=dh) ax hk
 have ha2:(o.a-1).toNat=k:=by omega
 have hJ:dM s o.a=s.jobs.getD k ax:=by unfold dM; rw [ha2]
 generalize s.jobs.getD k ax=j at *
 refine aK [0,1,2] (A8 c s o k hk ha) rfl ?_ (by decide) ?_ ?_ (by simp) ?_ <;> simp only [ah,ai,go_sem,simprocAttr,bL]
 simp only [hJ]
 cases h:qQ j with
 | false=>simp only [go_sem,simprocAttr]; simp only [jH,h,hJ,go_sem,simprocAttr]
 | true=>
   simp only [hg,go_sem,simprocAttr]
   refine fW (fun h1=>?_) (fun h1=>?_) <;> simp only [h1,go_sem,simprocAttr] <;> (try simp only [bne_iff_ne,ne_eq,Bool.not_false,bne_eq_false_iff_eq] at h1)
   ·simp only [hg,go_sem,simprocAttr]
    rw [h1]
    refine bg (fun h2=>?_) (fun h2=>?_) <;> simp only [h2,go_sem,simprocAttr] <;> (try simp only [decide_eq_true_eq,decide_eq_false_iff_not] at h2)
    ·simp only [jH,h,h1,h2,hJ,go_sem,simprocAttr,Bool.true_eq_false,ne_eq,not_true]
    ·simp only [hg,go_sem,simprocAttr]
     refine av rfl ?_
     simp only [jH,h,h1,h2,fm,hJ,ha2,List.map_set,List.length_set,go_sem,simprocAttr,Bool.true_eq_false,ne_eq,not_true,or_self]
   ·simp only [jH,h,h1,hJ,go_sem,simprocAttr,Bool.true_eq_false,ne_eq,not_false_eq_true]
theorem Eg (c:aH) (s:aa) (o:cH) (k:Nat) (hk:k<s.jobs.length) (ha:o.a=k+1) (hj:s.jobs.length≤1000):bw Tryz.prog G 156 [.ptr 0 0] (bL c s o (.rp 2 s.jobs.length 12 k 0) fu) (.int (mD c s o).2) (bL c (mD c s o).1 o (.rp 2 s.jobs.length 12 k 0) fu):=by
 refine aR Tryz.func156 (by decide) Ob rfl rfl rfl rfl ?_
 simp only [RA,go_sem,simprocAttr]
 have hg:=aL (f:=dh) ax hk
 have ha2:(o.a-1).toNat=k:=by omega
 have hJ:dM s o.a=s.jobs.getD k ax:=by unfold dM; rw [ha2]
 generalize s.jobs.getD k ax=j at *
 simp only [hg,go_sem,simprocAttr]
 refine bg (fun h=>?_) (fun h=>?_) <;> simp only [h,go_sem,simprocAttr] <;> (try simp only [bne_iff_ne,ne_eq,bne_eq_false_iff_eq] at h)
 ·simp only [mD,h,hJ,go_sem,simprocAttr,ne_eq,not_false_eq_true]
 ·simp only [hg,go_sem,simprocAttr]
  refine xu [1,2] (qp s j.queue (by omega)) rfl (by simp [ah,ai,bE,aB,List.take_of_length_le,go_sem,simprocAttr]) (by simp [aB]) rfl rfl ?_; simp only [go_sem,simprocAttr]
  refine bg (fun h2=>?_) (fun h2=>?_) <;> simp only [h2,go_sem,simprocAttr] <;> (try simp only [decide_eq_true_eq,decide_eq_false_iff_not] at h2)
  ·simp only [mD,h,h2,hJ,go_sem,simprocAttr,ne_eq,not_true]
  ·simp only [hg,hk,List.getElem?_set_self,List.length_set,go_sem,simprocAttr]
   refine av rfl ?_
   simp only [mD,h,h2,fm,hJ,ha2,List.map_set,List.length_set,List.set_set,go_sem,simprocAttr,ne_eq,not_true]
theorem Ld (c:aH) (s:aa) (o:cH) (i:Nat) (hi:i<s.nodes.length) (ha:o.a=i) (hn:s.nodes.length≤1000) (hj:s.jobs.length≤1000) (hb:0≤(cE s o.a).aN∧(cE s o.a).aN≤s.jobs.length) :
  bw Tryz.prog G 151 [.ptr 0 0] (bL c s o fu (.rp 1 s.nodes.length 5 i 0)) (.int (rS s o).2) (bL c (rS s o).1 o fu (.rp 1 s.nodes.length 5 i 0)):=by
 refine aR Tryz.func151 (by decide) Og rfl rfl rfl rfl ?_
 simp only [RF,go_sem,simprocAttr]
 have hg:=aL (f:=ck) ag hi
 have ha2:o.a.toNat=i:=by omega
 have hN:cE s o.a=s.nodes.getD i ag:=by unfold cE; rw [ha2]
 generalize s.nodes.getD i ag=n at *
 rw [hN] at hb
 cases hu:n.up with
 | false=>simp only [hg,hu,go_sem,simprocAttr]; simp only [rS,hu,hN,go_sem,simprocAttr]
 | true=>
   simp only [hg,hu,go_sem,simprocAttr]
   refine bg (fun h=>?_) (fun h=>?_) <;> simp only [h,go_sem,simprocAttr] <;> (try simp only [bne_iff_ne,ne_eq,bne_eq_false_iff_eq] at h)
   ·simp only [hg,go_sem,simprocAttr]
    refine aK [0,1,2] (iR c s o fu (.rp 1 s.nodes.length 5 i 0) n.aN 0 rfl rfl (by omega) (by omega) hn hj) rfl ?_ (by decide) ?_ ?_ (by simp) ?_ <;> simp only [ah,ai,go_sem,simprocAttr,bL]
    have hg2:((dS s n.aN 0).nodes.map ck)[i]? = some (ck (cE (dS s n.aN 0) o.a)):=by
     unfold cE; rw [ha2]; exact aL ag (by simp [dS]; exact hi)
    have hl:(dS s n.aN 0).nodes.length=s.nodes.length:=by simp [dS]
    have hi2:i<(dS s n.aN 0).nodes.length:=by omega
    generalize hm:cE (dS s n.aN 0) o.a=m at *
    simp only [hg2,hl,hi,List.getElem?_set_self,List.length_set,go_sem,simprocAttr]
    refine av rfl ?_
    simp only [rS,hu,h,hm,hl,iW,hN,ha2,List.map_set,List.length_set,List.set_set,go_sem,simprocAttr,Bool.true_eq_false,ne_eq,not_false_eq_true]
   ·simp only [hg,hi,List.getElem?_set_self,List.length_set,go_sem,simprocAttr]
    refine av rfl ?_
    simp only [rS,hu,h,iW,hN,ha2,List.map_set,List.length_set,List.set_set,go_sem,simprocAttr,Bool.true_eq_false,ne_eq,not_true]
end Dv
namespace Dv
open Go Go.Proofs
variable {G:Nat→Option (List DV)}
def RD:Nat×C×List RV:=(100,
(.seq (.af [qo 2 (.mv (qk 0))])
 (.seq (.block 0 (.seq (.af [qm 5 0,
 qo 6 (.aV (.t 5)),
 qo 7 (.aj 22 (.t 6)),
 qo 8 (.ld1 (.t 7)),
 qo 9 (.aV (.t 8)),
 qo 10 (.aj 6 (.t 9)),
 qo 11 (.ld1 (.t 10)),
 qo 12 (.bin .neq (.t 11) (qk 0)),
 qm 4 12])
 (.cond (.t 4) (.seq (.af [qo 2 (.mv (qk 5))])
 .ret)
 (.seq (.bQ [qm 14 0,
 qd 15 (.aV (.t 14)) [0],
 qd 16 (.aj 9 (.t 15)) [1,0],
 qd 17 (.bP 6 (.t 16)) [2,1,0],
 qm 18 0,
 qd 19 (.aV (.t 18)) [4],
 qd 20 (.aj 22 (.t 19)) [5,4],
 qd 21 (.ld1 (.t 20)) [6,5,4],
 qd 22 (.aV (.t 21)) [7,6,5,4],
 qd 23 (.bP 12 (.t 22)) [8,7,6,5,4],
 qm 24 0,
 qd 25 (.aV (.t 24)) [10],
 qd 26 (.aj 15 (.t 25)) [11,10],
 qd 27 (.aj 2 (.t 26)) [12,11,10],
 qd 28 (.ld1 (.t 27)) [13,12,11,10],
 qd 29 (.call (.f 196) [(.t 17),(.t 23),(.t 28),(.f 222)]) [3,2,1,0,9,8,7,6,5,4,14,13,12,11,10],
 qd 30 (.not (.t 29)) [15,3,2,1,0,9,8,7,6,5,4,14,13,12,11,10],
 qd 31 (.mv (.t 30)) [16,15,3,2,1,0,9,8,7,6,5,4,14,13,12,11,10],
 qe 32 (.mv (.t 0)) 31 false [17,16,15,3,2,1,0,9,8,7,6,5,4,14,13,12,11,10],
 qe 33 (.aV (.t 32)) 31 false [18,17,16,15,3,2,1,0,9,8,7,6,5,4,14,13,12,11,10],
 qe 34 (.aj 22 (.t 33)) 31 false [19,18,17,16,15,3,2,1,0,9,8,7,6,5,4,14,13,12,11,10],
 qe 35 (.ld1 (.t 34)) 31 false [20,19,18,17,16,15,3,2,1,0,9,8,7,6,5,4,14,13,12,11,10],
 qe 36 (.aV (.t 35)) 31 false [21,20,19,18,17,16,15,3,2,1,0,9,8,7,6,5,4,14,13,12,11,10],
 qe 37 (.aj 7 (.t 36)) 31 false [22,21,20,19,18,17,16,15,3,2,1,0,9,8,7,6,5,4,14,13,12,11,10],
 qe 38 (.ld1 (.t 37)) 31 false [23,22,21,20,19,18,17,16,15,3,2,1,0,9,8,7,6,5,4,14,13,12,11,10],
 qe 39 (.bin .geq (.t 38) (qk 1000000)) 31 false [24,23,22,21,20,19,18,17,16,15,3,2,1,0,9,8,7,6,5,4,14,13,12,11,10],
 qd 40 (.pick (.t 31) qt (.t 39)) [17,16,15,3,2,1,0,9,8,7,6,5,4,14,13,12,11,10,25,24,23,22,21,20,19,18],
 qd 13 (.mv (.t 40)) [26,17,16,15,3,2,1,0,9,8,7,6,5,4,14,13,12,11,10,25,24,23,22,21,20,19,18]])
 (.cond (.t 13) (.seq (.af [qo 2 (.mv (qk 8))])
 .ret)
 .skip)))))
 (.seq (.bQ [qm 41 0,
 qd 42 (.aV (.t 41)) [0],
 qd 43 (.aj 22 (.t 42)) [1,0],
 qd 44 (.ld1 (.t 43)) [2,1,0],
 qm 45 0,
 qd 46 (.aV (.t 45)) [4],
 qd 47 (.aj 22 (.t 46)) [5,4],
 qd 48 (.ld1 (.t 47)) [6,5,4],
 qm 49 0,
 qd 50 (.aV (.t 49)) [8],
 qd 51 (.aj 15 (.t 50)) [9,8],
 qd 52 (.aj 2 (.t 51)) [10,9,8],
 qd 53 (.ld1 (.t 52)) [11,10,9,8],
 qd 54 (.aV (.t 44)) [3,2,1,0,7,6,5,4,12,11,10,9,8],
 qd 55 (.aj 6 (.t 54)) [13,3,2,1,0,7,6,5,4,12,11,10,9,8],
 ql (.st 1 (.t 55) (qk 1)) [14,13,3,2,1,0,7,6,5,4,12,11,10,9,8],
 qd 56 (.aV (.t 48)) [7,6,5,4,0,1,2,3,8,9,10,11,12,13,14,15],
 qd 57 (.aj 8 (.t 56)) [16,7,6,5,4,0,1,2,3,8,9,10,11,12,13,14,15],
 ql (.st 1 (.t 57) (.t 53)) [17,16,7,6,5,4,0,1,2,3,8,9,10,11,12,13,14,15]])
 (.seq (.af [qm 58 0,
 qo 59 (.aV (.t 58)),
 qo 60 (.aj 22 (.t 59)),
 qo 61 (.ld1 (.t 60)),
 qo 62 (.aV (.t 61)),
 qo 63 (.aj 7 (.t 62)),
 qo 64 (.ld1 (.t 63)),
 qo 65 (.bin .add (.t 64) (qk 1)),
 qo 66 (.aV (.t 61)),
 qo 67 (.aj 7 (.t 66)),
 qn (.st 1 (.t 67) (.t 65))])
 (.seq (.seq (.af [qm 68 0,
 qo 69 (.aV (.t 68)),
 qo 70 (.aj 9 (.t 69)),
 qo 71 (.aj 0 (.t 70)),
 qo 72 (.ld1 (.t 71)),
 qo 73 (.len (.t 72)),
 qo 74 (.mv (qk 0))])
 (.block 1 (.loop (.seq (.af [qo 75 (.bin .lss (.t 74) (.t 73))])
 (.seq (.cond (.t 75) .skip
 (.exit 1))
 (.seq (.block 2 (.seq (.af [qm 76 74,
 qm 3 76])
 (.seq (.af [qm 77 0,
 qo 78 (.aV (.t 77)),
 qo 79 (.aj 15 (.t 78)),
 qo 80 (.aj 2 (.t 79)),
 qo 81 (.ld1 (.t 80)),
 qm 82 3,
 qo 83 (.bin .shr (.t 81) (.t 82)),
 qo 84 (.bin .and (.t 83) (qk 1)),
 qo 85 (.bin .eql (.t 84) (qk 1))])
 (.cond (.t 85) (.bQ [qm 86 0,
 qd 87 (.aV (.t 86)) [0],
 qd 88 (.aj 9 (.t 87)) [1,0],
 qd 89 (.aj 0 (.t 88)) [2,1,0],
 qd 90 (.ld1 (.t 89)) [3,2,1,0],
 qm 91 3,
 qm 92 0,
 qd 93 (.aV (.t 92)) [6],
 qd 94 (.aj 15 (.t 93)) [7,6],
 qd 95 (.aj 1 (.t 94)) [8,7,6],
 qd 96 (.ld1 (.t 95)) [9,8,7,6],
 qd 97 (.eG 5 (.t 90) (.t 91)) [4,3,2,1,0,5,6,7,8,9,10],
 qd 98 (.aj 4 (.t 97)) [11,4,3,2,1,0,5,6,7,8,9,10],
 ql (.st 1 (.t 98) (.t 96)) [12,11,4,3,2,1,0,5,6,7,8,9,10]])
 .skip))))
 (.af [qo 99 (.bin .add (.t 74) (qk 1)),
 qm 74 99])))))))
 (.seq (.af [qo 2 (.mv (qk 0))])
 .ret)))))),
[(.t 2)])
theorem Oe:aq Tryz.prog Tryz.f153=some RD:=by kernel_rfl
def Rs:Nat×C×List RV:=(92,
(.seq (.af [qo 2 (.mv (qk 0))])
 (.seq (.block 0 (.seq (.bQ [qm 4 0,
 qd 5 (.aV (.t 4)) [0],
 qd 6 (.aj 15 (.t 5)) [1,0],
 qd 7 (.aj 2 (.t 6)) [2,1,0],
 qd 8 (.ld1 (.t 7)) [3,2,1,0],
 qm 9 0,
 qd 10 (.aV (.t 9)) [5],
 qd 11 (.aj 9 (.t 10)) [6,5],
 qd 12 (.aj 0 (.t 11)) [7,6,5],
 qd 13 (.ld1 (.t 12)) [8,7,6,5],
 qd 14 (.len (.t 13)) [9,8,7,6,5],
 qd 15 (.bin .geq (.t 8) (.t 14)) [4,3,2,1,0,10,9,8,7,6,5],
 qd 3 (.mv (.t 15)) [11,4,3,2,1,0,10,9,8,7,6,5]])
 (.cond (.t 3) (.seq (.af [qo 2 (.mv (qk 4))])
 .ret)
 (.seq (.af [qm 17 0,
 qo 18 (.aV (.t 17)),
 qo 19 (.aj 22 (.t 18)),
 qo 20 (.ld1 (.t 19)),
 qo 21 (.aV (.t 20)),
 qo 22 (.aj 6 (.t 21)),
 qo 23 (.ld1 (.t 22)),
 qo 24 (.bin .neq (.t 23) (qk 2)),
 qm 16 24])
 (.cond (.t 16) (.seq (.af [qo 2 (.mv (qk 5))])
 .ret)
 (.seq (.bQ [qm 26 0,
 qd 27 (.aV (.t 26)) [0],
 qd 28 (.aj 9 (.t 27)) [1,0],
 qd 29 (.aj 0 (.t 28)) [2,1,0],
 qd 30 (.ld1 (.t 29)) [3,2,1,0],
 qm 31 0,
 qd 32 (.aV (.t 31)) [5],
 qd 33 (.aj 15 (.t 32)) [6,5],
 qd 34 (.aj 2 (.t 33)) [7,6,5],
 qd 35 (.ld1 (.t 34)) [8,7,6,5],
 qd 36 (.eG 5 (.t 30) (.t 35)) [4,3,2,1,0,9,8,7,6,5],
 qd 37 (.aj 4 (.t 36)) [10,4,3,2,1,0,9,8,7,6,5],
 qd 38 (.ld1 (.t 37)) [11,10,4,3,2,1,0,9,8,7,6,5],
 qm 39 0,
 qd 40 (.aV (.t 39)) [13],
 qd 41 (.aj 15 (.t 40)) [14,13],
 qd 42 (.aj 1 (.t 41)) [15,14,13],
 qd 43 (.ld1 (.t 42)) [16,15,14,13],
 qd 44 (.bin .neq (.t 38) (.t 43)) [12,11,10,4,3,2,1,0,9,8,7,6,5,17,16,15,14,13],
 qd 45 (.mv (.t 44)) [18,12,11,10,4,3,2,1,0,9,8,7,6,5,17,16,15,14,13],
 qe 46 (.mv (.t 0)) 45 false [19,18,12,11,10,4,3,2,1,0,9,8,7,6,5,17,16,15,14,13],
 qe 47 (.aV (.t 46)) 45 false [20,19,18,12,11,10,4,3,2,1,0,9,8,7,6,5,17,16,15,14,13],
 qe 48 (.aj 22 (.t 47)) 45 false [21,20,19,18,12,11,10,4,3,2,1,0,9,8,7,6,5,17,16,15,14,13],
 qe 49 (.ld1 (.t 48)) 45 false [22,21,20,19,18,12,11,10,4,3,2,1,0,9,8,7,6,5,17,16,15,14,13],
 qe 50 (.aV (.t 49)) 45 false [23,22,21,20,19,18,12,11,10,4,3,2,1,0,9,8,7,6,5,17,16,15,14,13],
 qe 51 (.aj 8 (.t 50)) 45 false [24,23,22,21,20,19,18,12,11,10,4,3,2,1,0,9,8,7,6,5,17,16,15,14,13],
 qe 52 (.ld1 (.t 51)) 45 false [25,24,23,22,21,20,19,18,12,11,10,4,3,2,1,0,9,8,7,6,5,17,16,15,14,13],
 qe 53 (.y2 .u64 (.t 52)) 45 false [26,25,24,23,22,21,20,19,18,12,11,10,4,3,2,1,0,9,8,7,6,5,17,16,15,14,13],
 qe 54 (.call (.f 224) [(.t 53)]) 45 false [27,26,25,24,23,22,21,20,19,18,12,11,10,4,3,2,1,0,9,8,7,6,5,17,16,15,14,13],
 qe 55 (.mv (.t 0)) 45 false [19,18,12,11,10,4,3,2,1,0,9,8,7,6,5,17,16,15,14,13],
 qe 56 (.aV (.t 55)) 45 false [29,19,18,12,11,10,4,3,2,1,0,9,8,7,6,5,17,16,15,14,13],
 qe 57 (.aj 22 (.t 56)) 45 false [30,29,19,18,12,11,10,4,3,2,1,0,9,8,7,6,5,17,16,15,14,13],
 qe 58 (.ld1 (.t 57)) 45 false [31,30,29,19,18,12,11,10,4,3,2,1,0,9,8,7,6,5,17,16,15,14,13],
 qe 59 (.aV (.t 58)) 45 false [32,31,30,29,19,18,12,11,10,4,3,2,1,0,9,8,7,6,5,17,16,15,14,13],
 qe 60 (.aj 2 (.t 59)) 45 false [33,32,31,30,29,19,18,12,11,10,4,3,2,1,0,9,8,7,6,5,17,16,15,14,13],
 qe 61 (.ld1 (.t 60)) 45 false [34,33,32,31,30,29,19,18,12,11,10,4,3,2,1,0,9,8,7,6,5,17,16,15,14,13],
 qe 62 (.bin .leq (.t 54) (.t 61)) 45 false [28,27,26,25,24,23,22,21,20,19,18,12,11,10,4,3,2,1,0,9,8,7,6,5,17,16,15,14,13,35,34,33,32,31,30,29],
 qd 63 (.pick (.t 45) qt (.t 62)) [19,18,12,11,10,4,3,2,1,0,9,8,7,6,5,17,16,15,14,13,36,28,27,26,25,24,23,22,21,20,35,34,33,32,31,30,29],
 qd 25 (.mv (.t 63)) [37,19,18,12,11,10,4,3,2,1,0,9,8,7,6,5,17,16,15,14,13,36,28,27,26,25,24,23,22,21,20,35,34,33,32,31,30,29]])
 (.cond (.t 25) (.seq (.af [qo 2 (.mv (qk 8))])
 .ret)
 .skip)))))))
 (.seq (.bQ [qm 64 0,
 qd 65 (.aV (.t 64)) [0],
 qd 66 (.aj 22 (.t 65)) [1,0],
 qd 67 (.ld1 (.t 66)) [2,1,0],
 qd 68 (.aV (.t 67)) [3,2,1,0],
 qd 69 (.aj 8 (.t 68)) [4,3,2,1,0],
 qd 70 (.ld1 (.t 69)) [5,4,3,2,1,0],
 qm 71 0,
 qd 72 (.aV (.t 71)) [7],
 qd 73 (.aj 15 (.t 72)) [8,7],
 qd 74 (.aj 2 (.t 73)) [9,8,7],
 qd 75 (.ld1 (.t 74)) [10,9,8,7],
 qd 76 (.bin .shl (qk 1) (.t 75)) [11,10,9,8,7],
 qd 77 (.bin .andNot (.t 70) (.t 76)) [6,5,4,3,2,1,0,12,11,10,9,8,7],
 qd 78 (.aV (.t 67)) [3,2,1,0,4,5,6,7,8,9,10,11,12,13],
 qd 79 (.aj 8 (.t 78)) [14,3,2,1,0,4,5,6,7,8,9,10,11,12,13],
 ql (.st 1 (.t 79) (.t 77)) [15,14,3,2,1,0,4,5,6,7,8,9,10,11,12,13]])
 (.seq (.bQ [qm 80 0,
 qd 81 (.aV (.t 80)) [0],
 qd 82 (.aj 9 (.t 81)) [1,0],
 qd 83 (.aj 0 (.t 82)) [2,1,0],
 qd 84 (.ld1 (.t 83)) [3,2,1,0],
 qm 85 0,
 qd 86 (.aV (.t 85)) [5],
 qd 87 (.aj 15 (.t 86)) [6,5],
 qd 88 (.aj 2 (.t 87)) [7,6,5],
 qd 89 (.ld1 (.t 88)) [8,7,6,5],
 qd 90 (.eG 5 (.t 84) (.t 89)) [4,3,2,1,0,9,8,7,6,5],
 qd 91 (.aj 4 (.t 90)) [10,4,3,2,1,0,9,8,7,6,5],
 ql (.st 1 (.t 91) (qk 0)) [11,10,4,3,2,1,0,9,8,7,6,5]])
 (.seq (.af [qo 2 (.mv (qk 0))])
 .ret))))),
[(.t 2)])
theorem NV:aq Tryz.prog Tryz.f164=some Rs:=by kernel_rfl
def BS (c:aH) (s:aa) (o:cH) (k0:Nat) (j':bU) (k:Nat):St:=⟨[(0,.ptr 0 0),(73,.int s.nodes.length),(74,.int k)],
 [some (.box 133 [.int c.nodes,.int c.bG,.int c.cD,.int c.wave,.int c.b_,.int c.eE,.int c.deadline,.int c.room,.int c.fG,
  .sl 1 s.nodes.length 5 0 s.nodes.length,.sl 2 s.jobs.length 12 0 s.jobs.length,.int s.goal,.int s.prior,.int s.mode,.int s.term,
  .int o.kind,.int o.a,.int o.b,.int o.c,.int o.d,.int o.e,.int o.f,.rp 2 s.jobs.length 12 k0 0,fu]),
  some (.dat 102 5 ((f_ (fH o.b o.a) s.nodes k).map ck)),some (.dat 119 12 ((s.jobs.set k0 j').map dh))]⟩
theorem Ku (c:aH) (s:aa) (o:cH) (k:Nat) (hk:k<s.jobs.length) (ha:o.a=k+1) (hn:s.nodes.length≤6) (hj:s.jobs.length≤1000) (YI:0≤(dM s o.a).inc) :
  bw Tryz.prog G 153 [.ptr 0 0] (bL c s o (.rp 2 s.jobs.length 12 k 0) fu) (.int (nX s o).2) (bL c (nX s o).1 o (.rp 2 s.jobs.length 12 k 0) fu):=by
 refine aR Tryz.func153 (by decide) Oe rfl rfl rfl rfl ?_
 simp only [RD,go_sem,simprocAttr]
 have hg:=aL (f:=dh) ax hk
 have ha2:(o.a-1).toNat=k:=by omega
 have hJ:dM s o.a=s.jobs.getD k ax:=by unfold dM; rw [ha2]
 generalize s.jobs.getD k ax=j at *
 rw [hJ] at YI
 simp only [hg,go_sem,simprocAttr]
 refine bg (fun h=>?_) (fun h=>?_) <;> simp only [h,go_sem,simprocAttr] <;> (try simp only [bne_iff_ne,ne_eq,bne_eq_false_iff_eq] at h)
 ·simp only [nX,h,hJ,go_sem,simprocAttr,ne_eq,not_false_eq_true]
 ·simp only [hg,go_sem,simprocAttr]
  refine xu [1,2] (Ho s j o.b 222 jW hn B0) rfl (by simp [ah,ai,bE,aB,List.take_of_length_le,go_sem,simprocAttr]) (by simp [aB]) rfl rfl ?_; simp only [go_sem,simprocAttr]
  have fin:(kC s.nodes j o.b jW=false∨1000000≤j.inc)→nX s o=(s,8):=fun h'=>by
   simp only [nX,hJ,h,h',ne_eq,not_true,if_false,if_true]
  cases hf:kC s.nodes j o.b jW with
  | false=>
    simp only [go_sem,simprocAttr,fin (.inl hf)]
  | true=>
    simp only [hg,go_sem,simprocAttr]
    refine bg (fun hi=>?_) (fun hi=>?_) <;> simp only [hi,go_sem,simprocAttr] <;> (try simp only [decide_eq_true_eq,decide_eq_false_iff_not] at hi)
    ·simp only [go_sem,simprocAttr,fin (.inr hi)]
    ·have hw:IntKind.i64.wrap (j.inc+1)=j.inc+1:=aO (by omega) (by omega)
     have TZ:nX s o=({ fm s o.a { j with phase:=1,inc:=j.inc+1,nodes:=o.b } with nodes:=s.nodes.mapIdx (fH o.b o.a) },0):=by
      unfold nX
      rw [hJ,if_neg (by simpa using h),if_neg (by simp [hf]; omega)]
     simp only [hg,hk,List.getElem?_set_self,List.length_set,List.set_set,go_sem,simprocAttr]
     refine av rfl ?_
     simp only [hk,hw,List.getElem?_set_self,List.length_set,List.set_set,go_sem,simprocAttr]
     refine aY [0,73,74] [] (fun q:Nat=>q≤s.nodes.length) (fun q=>s.nodes.length-q) (BS c s o k { j with phase:=1,inc:=j.inc+1,nodes:=o.b }) 0 ?_ (Nat.zero_le _) (fun q hq=>?_)
     ·simp only [BS,uU,Int.natCast_zero,List.map_set,go_sem,simprocAttr]
     simp only [BS,go_sem,simprocAttr]
     refine bg (fun h=>?_) (fun h=>?_)
     ·have h:=dX h
      have hg2:((f_ (fH o.b o.a) s.nodes q).map ck)[q]? = some (ck s.nodes[q]):=by rw [List.getElem?_map,AT _ _ h]; rfl
      simp only [Ex o.b q (by omega),go_sem,simprocAttr]
      cases hb:hasB o.b q with
      | true=>
        have hs:((f_ (fH o.b o.a) s.nodes q).map ck).set q (ck { s.nodes[q] with aN:=o.a })=(f_ (fH o.b o.a) s.nodes (q+1)).map ck:=by
         rw [← List.map_set,sB _ _ h (by simp only [fH,hb,if_true])]
        simp only [ck] at hs
        simp only [h,hg2,lX,go_sem,simprocAttr]
        refine av rfl ?_
        simp only [go_sem,simprocAttr]
        refine bz (q+1) ?_ ?_ (by omega) (by omega)
        ·simp only [go_sem,simprocAttr]
        ·simp only [BS,go_sem,simprocAttr,aG (show q<9223372036854775807 by omega),hs]
      | false=>
        have hs:=uV (fH o.b o.a) s.nodes h (by simp only [fH,hb,Bool.false_eq_true,if_false])
        simp only [go_sem,simprocAttr]
        refine bz (q+1) ?_ ?_ (by omega) (by omega)
        ·simp only [go_sem,simprocAttr]
        ·simp only [BS,go_sem,simprocAttr,aG (show q<9223372036854775807 by omega),hs]
     ·obtain rfl:=d_ h hq
      simp only [uW,TZ,fm,ha2,List.length_mapIdx,List.length_set,go_sem,simprocAttr]
theorem Mr (m b:Nat) (hm:m<64) (hb:b<6):fC .i64 (m:Int) (2 ^ b)=ku m b:=by
 have:∀ m:Nat,m<64→∀ b:Nat,b<6→fC .i64 (m:Int) (2 ^ b)=ku m b:=by decide +kernel
 exact this m hm b hb
theorem C9 (c:aH) (s:aa) (o:cH) (k:Nat) (hk:k<s.jobs.length) (ha:o.a=k+1) (hn:s.nodes.length≤6) (hj:s.jobs.length≤1000) (hb0:0≤o.b) (hm:0≤(dM s o.a).nodes∧(dM s o.a).nodes<64) :
  bw Tryz.prog G 164 [.ptr 0 0] (bL c s o (.rp 2 s.jobs.length 12 k 0) fu) (.int (gv s o).2) (bL c (gv s o).1 o (.rp 2 s.jobs.length 12 k 0) fu):=by
 refine aR Tryz.func164 (by decide) NV rfl rfl rfl rfl ?_
 simp only [Rs,go_sem,simprocAttr]
 have hg:=aL (f:=dh) ax hk
 have ha2:(o.a-1).toNat=k:=by omega
 have hJ:dM s o.a=s.jobs.getD k ax:=by unfold dM; rw [ha2]
 generalize s.jobs.getD k ax=j at *
 rw [hJ] at hm
 obtain ⟨m,Wm⟩:=Int.eq_ofNat_of_zero_le hm.1
 have hmu:IntKind.u64.wrap (m:Int)=m:=by simp [IntKind.wrap,IntKind.bits,IntKind.signed]; omega
 obtain ⟨b,hb⟩:=Int.eq_ofNat_of_zero_le hb0
 rw [hb]
 refine bg (fun h1=>?_) (fun h1=>?_) <;> simp only [h1,go_sem,simprocAttr] <;> (try simp only [decide_eq_true_eq,decide_eq_false_iff_not] at h1)
 ·simp only [gv,hb,h1,go_sem,simprocAttr]
 ·have Aj:b<s.nodes.length:=by omega
  simp only [hg,go_sem,simprocAttr]
  refine bg (fun h2=>?_) (fun h2=>?_) <;> simp only [h2,go_sem,simprocAttr] <;> (try simp only [bne_iff_ne,ne_eq,bne_eq_false_iff_eq] at h2)
  ·simp only [gv,hb,h1,h2,hJ,go_sem,simprocAttr,ne_eq,not_false_eq_true]
  ·have Ag:=aL (f:=ck) ag Aj
   have hN:cE s o.b=s.nodes.getD b ag:=by unfold cE; rw [hb]; rfl
   have ZN:cE s (b:Int)=s.nodes.getD b ag:=rfl
   generalize s.nodes.getD b ag=n at *
   have xz:¬ ((s.nodes.length:Int)≤b):=by omega
   have fin:(n.aN≠o.a∨many j.nodes≤j.min)→gv s o=(s,8):=fun h'=>by
    unfold gv
    rw [hb,if_neg xz,hJ,if_neg (by simpa using h2),ZN,if_pos h']
   simp only [Ag,Aj,go_sem,simprocAttr]
   refine fW (fun h3=>?_) (fun h3=>?_) <;> simp only [h3,go_sem,simprocAttr] <;> (try simp only [bne_iff_ne,ne_eq,Bool.not_false,bne_eq_false_iff_eq] at h3)
   ·have D6:n.aN=o.a:=h3
    simp only [hg,Wm,hmu,go_sem,simprocAttr]
    refine bf (rq m (by omega)) rfl rfl rfl rfl ?_; simp only [go_sem,simprocAttr]
    simp only [hg,go_sem,simprocAttr]
    refine bg (fun h4=>?_) (fun h4=>?_) <;> simp only [h4,go_sem,simprocAttr] <;> (try simp only [decide_eq_true_eq,decide_eq_false_iff_not] at h4)
    ·simp only [go_sem,simprocAttr,fin (.inr (by rw [Wm]; exact h4)),hb]
    ·have TZ:gv s o=(iW (fm s o.a { j with nodes:=ku j.nodes o.b }) o.b { n with aN:=0 },0):=by
      unfold gv
      rw [hb,if_neg xz,hJ,if_neg (by simpa using h2),ZN,if_neg (by rw [Wm]; simp [D6]; omega)]
     have hle:fC .i64 (m:Int) (zo .i64 1 b)=ku m b:=by rw [qN b (by omega),Mr m b (by omega) (by omega)]
     simp only [hg,Wm,hle,go_sem,simprocAttr]
     refine av rfl ?_
     simp only [Ag,Aj,go_sem,simprocAttr]
     refine av rfl ?_
     simp only [TZ,iW,fm,Wm,hb,ha2,List.map_set,List.length_set,go_sem,simprocAttr]
   ·simp only [go_sem,simprocAttr,fin (.inl h3),hb]
end Dv
namespace Dv
open Go Go.Proofs
variable {G:Nat→Option (List DV)}
def RP:Nat×C×List RV:=(12,
(.seq (.af [qo 2 (.mv (.c (.val (.string ⟨#[]⟩))))])
 (.seq (.seq (.af [qm 3 0,
 qo 4 (.bin .lss (.t 3) (qk 0)),
 qm 5 4,
 qg 6 (.mv (.t 0)) 5 false,
 qg 7 (.bin .geq (.t 6) (qk 22)) 5 false,
 qo 8 (.pick (.t 5) qt (.t 7))])
 (.cond (.t 8) (.seq (.af [qo 2 (.mv (.c (.val (.string ⟨#[]⟩))))])
 .ret)
 .skip))
 (.seq (.af [qm 9 0,
 qo 10 (.Mv 22 1 (.g 1) (.t 9)),
 qo 11 (.ld1 (.t 10)),
 qm 2 11])
 .ret))),
[(.t 2)])
theorem Ou:aq Tryz.prog Tryz.f141=some RP:=by kernel_rfl
def RO:Nat×C×List RV:=(16,
(.seq (.af [qo 1 (.box 37 (.t 0)),
 qo 2 (.new 236 [q0,q0,q0,q0,q0,q0])])
 (.seq (.af [qo 3 (.aj 1 (.t 1)),
 qo 4 (.ld1 (.t 3)),
 qo 5 (.aj 2 (.t 1)),
 qo 6 (.ld1 (.t 5)),
 qo 7 (.aj 3 (.t 1)),
 qo 8 (.ld1 (.t 7)),
 qo 9 (.aj 4 (.t 1)),
 qo 10 (.ld1 (.t 9)),
 qo 11 (.aj 5 (.t 1)),
 qo 12 (.ld1 (.t 11)),
 qo 13 (.aj 6 (.t 1)),
 qo 14 (.ld1 (.t 13)),
 qo 15 (.build [q0,q0,q0,q0,q0,q0] [(0,1,(.t 4)),(1,1,(.t 6)),(2,1,(.t 8)),(3,1,(.t 10)),(4,1,(.t 12)),(5,1,(.t 14))]),
 qn (.st 6 (.t 2) (.t 15))])
 .ret)),
[(.cn 2 6)])
theorem Ot:aq Tryz.prog Tryz.f142=some RO:=by kernel_rfl
def Vt:Nat×C×List RV:=(34,
(.seq (.af [qo 1 (.box 37 (.t 0)),
 qo 2 (.mv qf)])
 (.seq (.seq (.af [qo 5 (.aj 0 (.t 1)),
 qo 6 (.ld1 (.t 5)),
 qo 7 (.call (.f 141) [(.t 6)]),
 qo 8 (.bin .eql (.t 7) (.c (.val (.string ⟨#[]⟩))))])
 (.cond (.t 8) (.seq (.af [qo 2 (.mv qf)])
 .ret)
 .skip))
 (.seq (.seq (.af [qo 9 (.bP 7 (.t 1)),
 qo 10 (.call (.f 142) [(.t 9)]),
 qo 11 (.mv (qk 0))])
 (.block 0 (.loop (.seq (.af [qo 12 (.bin .lss (.t 11) (qk 6))])
 (.seq (.cond (.t 12) .skip
 (.exit 0))
 (.seq (.block 1 (.seq (.af [qm 13 11,
 qo 14 (.UB 6 (.t 10) (.t 11)),
 qm 3 13,
 qm 4 14])
 (.seq (.af [qm 15 4,
 qo 16 (.bin .lss (.t 15) (qk 0)),
 qm 17 16,
 qg 18 (.mv (.t 4)) 17 false,
 qg 19 (.bin .gtr (.t 18) (qk 1000000)) 17 false,
 qo 20 (.pick (.t 17) qt (.t 19)),
 qm 21 20,
 qg 22 (.mv (.t 3)) 21 false,
 qg 23 (.aj 0 (.t 1)) 21 false,
 qg 24 (.ld1 (.t 23)) 21 false,
 qg 25 (.Mv 22 1 (.g 0) (.t 24)) 21 false,
 qg 26 (.ld1 (.t 25)) 21 false,
 qg 27 (.bin .geq (.t 22) (.t 26)) 21 false,
 qg 28 (.mv (.t 27)) 21 false,
 qg 29 (.mv (.t 4)) 28 true,
 qg 30 (.bin .neq (.t 29) (qk 0)) 28 true,
 qg 31 (.pick (.t 28) (.t 30) qf) 21 false,
 qo 32 (.pick (.t 21) qt (.t 31))])
 (.cond (.t 32) (.seq (.af [qo 2 (.mv qf)])
 .ret)
 .skip))))
 (.af [qo 33 (.bin .add (.t 11) (qk 1)),
 qm 11 33])))))))
 (.seq (.af [qo 2 (.mv qt)])
 .ret)))),
[(.t 2)])
theorem Td:aq Tryz.prog Tryz.f72=some Vt:=by kernel_rfl
def Vs:Nat×C×List RV:=(23,
(.seq (.af [qo 0 (.new 137 [(.val .nilFunc),(.val (.bool false)),(.val (.bool false)),(.val .nilFunc),(.val (.bool false)),(.val (.bool false)),(.val .nilFunc),(.val (.bool false)),(.val (.bool false)),(.val .nilFunc),(.val (.bool false)),(.val (.bool false)),(.val .nilFunc),(.val (.bool false)),(.val (.bool false)),(.val .nilFunc),(.val (.bool false)),(.val (.bool false)),(.val .nilFunc),(.val (.bool false)),(.val (.bool false)),(.val .nilFunc),(.val (.bool false)),(.val (.bool false)),(.val .nilFunc),(.val (.bool false)),(.val (.bool false)),(.val .nilFunc),(.val (.bool false)),(.val (.bool false)),(.val .nilFunc),(.val (.bool false)),(.val (.bool false)),(.val .nilFunc),(.val (.bool false)),(.val (.bool false)),(.val .nilFunc),(.val (.bool false)),(.val (.bool false)),(.val .nilFunc),(.val (.bool false)),(.val (.bool false)),(.val .nilFunc),(.val (.bool false)),(.val (.bool false)),(.val .nilFunc),(.val (.bool false)),(.val (.bool false)),(.val .nilFunc),(.val (.bool false)),(.val (.bool false)),(.val .nilFunc),(.val (.bool false)),(.val (.bool false)),(.val .nilFunc),(.val (.bool false)),(.val (.bool false)),(.val .nilFunc),(.val (.bool false)),(.val (.bool false)),(.val .nilFunc),(.val (.bool false)),(.val (.bool false)),(.val .nilFunc),(.val (.bool false)),(.val (.bool false))])])
 (.seq (.af [qo 1 (.build [(.val .nilFunc),(.val (.bool false)),(.val (.bool false))] [(0,1,(.f 145))]),
 qo 2 (.build [(.val .nilFunc),(.val (.bool false)),(.val (.bool false))] [(0,1,(.f 146)),(1,1,qt),(2,1,qf)]),
 qo 3 (.build [(.val .nilFunc),(.val (.bool false)),(.val (.bool false))] [(0,1,(.f 147))]),
 qo 4 (.build [(.val .nilFunc),(.val (.bool false)),(.val (.bool false))] [(0,1,(.f 148))]),
 qo 5 (.build [(.val .nilFunc),(.val (.bool false)),(.val (.bool false))] [(0,1,(.f 149))]),
 qo 6 (.build [(.val .nilFunc),(.val (.bool false)),(.val (.bool false))] [(0,1,(.f 150))]),
 qo 7 (.build [(.val .nilFunc),(.val (.bool false)),(.val (.bool false))] [(0,1,(.f 151)),(1,1,qf),(2,1,qt)]),
 qo 8 (.build [(.val .nilFunc),(.val (.bool false)),(.val (.bool false))] [(0,1,(.f 152)),(1,1,qf),(2,1,qt)]),
 qo 9 (.build [(.val .nilFunc),(.val (.bool false)),(.val (.bool false))] [(0,1,(.f 153)),(1,1,qt),(2,1,qf)]),
 qo 10 (.build [(.val .nilFunc),(.val (.bool false)),(.val (.bool false))] [(0,1,(.f 154)),(1,1,qt),(2,1,qf)]),
 qo 11 (.build [(.val .nilFunc),(.val (.bool false)),(.val (.bool false))] [(0,1,(.f 155)),(1,1,qt),(2,1,qf)]),
 qo 12 (.build [(.val .nilFunc),(.val (.bool false)),(.val (.bool false))] [(0,1,(.f 156)),(1,1,qt),(2,1,qf)]),
 qo 13 (.build [(.val .nilFunc),(.val (.bool false)),(.val (.bool false))] [(0,1,(.f 157)),(1,1,qt),(2,1,qf)]),
 qo 14 (.build [(.val .nilFunc),(.val (.bool false)),(.val (.bool false))] [(0,1,(.f 158)),(1,1,qt),(2,1,qf)]),
 qo 15 (.build [(.val .nilFunc),(.val (.bool false)),(.val (.bool false))] [(0,1,(.f 159)),(1,1,qt),(2,1,qf)]),
 qo 16 (.build [(.val .nilFunc),(.val (.bool false)),(.val (.bool false))] [(0,1,(.f 160)),(1,1,qf),(2,1,qt)]),
 qo 17 (.build [(.val .nilFunc),(.val (.bool false)),(.val (.bool false))] [(0,1,(.f 161)),(1,1,qf),(2,1,qt)]),
 qo 18 (.build [(.val .nilFunc),(.val (.bool false)),(.val (.bool false))] [(0,1,(.f 162)),(1,1,qf),(2,1,qt)]),
 qo 19 (.build [(.val .nilFunc),(.val (.bool false)),(.val (.bool false))] [(0,1,(.f 163)),(1,1,qf),(2,1,qt)]),
 qo 20 (.build [(.val .nilFunc),(.val (.bool false)),(.val (.bool false))] [(0,1,(.f 164)),(1,1,qt),(2,1,qf)]),
 qo 21 (.build [(.val .nilFunc),(.val (.bool false)),(.val (.bool false))] [(0,1,(.f 165))]),
 qo 22 (.build [(.val .nilFunc),(.val (.bool false)),(.val (.bool false)),(.val .nilFunc),(.val (.bool false)),(.val (.bool false)),(.val .nilFunc),(.val (.bool false)),(.val (.bool false)),(.val .nilFunc),(.val (.bool false)),(.val (.bool false)),(.val .nilFunc),(.val (.bool false)),(.val (.bool false)),(.val .nilFunc),(.val (.bool false)),(.val (.bool false)),(.val .nilFunc),(.val (.bool false)),(.val (.bool false)),(.val .nilFunc),(.val (.bool false)),(.val (.bool false)),(.val .nilFunc),(.val (.bool false)),(.val (.bool false)),(.val .nilFunc),(.val (.bool false)),(.val (.bool false)),(.val .nilFunc),(.val (.bool false)),(.val (.bool false)),(.val .nilFunc),(.val (.bool false)),(.val (.bool false)),(.val .nilFunc),(.val (.bool false)),(.val (.bool false)),(.val .nilFunc),(.val (.bool false)),(.val (.bool false)),(.val .nilFunc),(.val (.bool false)),(.val (.bool false)),(.val .nilFunc),(.val (.bool false)),(.val (.bool false)),(.val .nilFunc),(.val (.bool false)),(.val (.bool false)),(.val .nilFunc),(.val (.bool false)),(.val (.bool false)),(.val .nilFunc),(.val (.bool false)),(.val (.bool false)),(.val .nilFunc),(.val (.bool false)),(.val (.bool false)),(.val .nilFunc),(.val (.bool false)),(.val (.bool false)),(.val .nilFunc),(.val (.bool false)),(.val (.bool false))] [(3,3,(.t 1)),(6,3,(.t 2)),(9,3,(.t 3)),(12,3,(.t 4)),(15,3,(.t 5)),(18,3,(.t 6)),(21,3,(.t 7)),(24,3,(.t 8)),(27,3,(.t 9)),(30,3,(.t 10)),(33,3,(.t 11)),(36,3,(.t 12)),(39,3,(.t 13)),(42,3,(.t 14)),(45,3,(.t 15)),(48,3,(.t 16)),(51,3,(.t 17)),(54,3,(.t 18)),(57,3,(.t 19)),(60,3,(.t 20)),(63,3,(.t 21))]),
 qn (.st 66 (.t 0) (.t 22))])
 .ret)),
[(.cn 0 66)])
theorem Tc:aq Tryz.prog Tryz.f74=some Vs:=by kernel_rfl
def cV (o:cH):List Int:=[o.a,o.b,o.c,o.d,o.e,o.f]
def vI (m:Nat):List Int→Nat→Bool
 | [],_=>true
 | n::l,i=>pg n (decide (i<m))&&vI m l (i+1)
theorem Bl (o:cH):gH o=(decide (1≤o.kind∧o.kind≤21)&&vI (gX o.kind) (cV o) 0):=by
 unfold gH cV
 simp only [vI,Bool.and_true,Bool.and_assoc]
def PN:List Int:=[0,6,1,1,0,0,0,1,2,2,2,1,2,2,1,1,1,1,1,2,2,0]
def zQ:List ByteArray:=[⟨#[]⟩,⟨#[115,117,98,109,105,116]⟩,⟨#[99,97,110,99,101,108]⟩,⟨#[116,97,114,103,101,116]⟩,⟨#[112,97,117,115,101]⟩,⟨#[114,101,115,117,109,101]⟩,⟨#[97,98,111,114,116]⟩,⟨#[100,111,119,110]⟩,⟨#[117,112]⟩,⟨#[104,111,108,100]⟩,⟨#[115,116,97,114,116]⟩,⟨#[117,110,104,111,108,100]⟩,⟨#[100,114,97,105,110]⟩,⟨#[115,97,118,101,100]⟩,⟨#[101,118,105,99,116]⟩,⟨#[100,111,110,101]⟩,⟨#[99,111,114,100,111,110]⟩,⟨#[117,110,99,111,114,100,111,110]⟩,⟨#[109,111,118,101]⟩,⟨#[109,111,118,101,100]⟩,⟨#[115,104,114,105,110,107]⟩,⟨#[110,101,119,116,101,114,109]⟩]
def JO:List DV:=PN.map i64
def vT:List DV:=zQ.map fun s=>.val (.string s)
def dQ:Nat→Option (List DV):=fun n=>if n=0 then some JO else if n=1 then some vT else none
theorem xe:dQ 0=some JO:=rfl
theorem Cn:dQ 1=some vT:=rfl
theorem Fe (k:Int) (h:1≤k∧k≤21):JO[k.toNat]? = some (i64 (gX k:Nat)):=by
 have h:k=1∨k=2∨k=3∨k=4∨k=5∨k=6∨k=7∨k=8∨k=9∨k=10∨k=11∨k=12∨k=13∨k=14∨k=15∨k=16∨k=17∨k=18∨k=19∨k=20∨k=21:=by omega
 rcases h with h | h | h | h | h | h | h | h | h | h | h | h | h | h | h | h | h | h | h | h | h <;> subst h <;> rfl
def nameOf (k:Int):ByteArray:=if 1≤k∧k≤21 then zQ.getD k.toNat ⟨#[]⟩ else ⟨#[]⟩
theorem Mo (k:Int) (h:0≤k∧k≤21):vT[k.toNat]? = some (.val (.string (nameOf k))):=by
 have h:k=0∨k=1∨k=2∨k=3∨k=4∨k=5∨k=6∨k=7∨k=8∨k=9∨k=10∨k=11∨k=12∨k=13∨k=14∨k=15∨k=16∨k=17∨k=18∨k=19∨k=20∨k=21:=by omega
 rcases h with h | h | h | h | h | h | h | h | h | h | h | h | h | h | h | h | h | h | h | h | h | h <;> subst h <;> rfl
theorem sS (k:Int) (h:¬ (1≤k∧k≤21)):nameOf k=⟨#[]⟩:=by unfold nameOf; rw [if_neg h]
theorem GC (k:Int) (h:1≤k∧k≤21):((nameOf k).toList==(⟨#[]⟩:ByteArray).toList)=false:=by
 have h:k=1∨k=2∨k=3∨k=4∨k=5∨k=6∨k=7∨k=8∨k=9∨k=10∨k=11∨k=12∨k=13∨k=14∨k=15∨k=16∨k=17∨k=18∨k=19∨k=20∨k=21:=by omega
 rcases h with h | h | h | h | h | h | h | h | h | h | h | h | h | h | h | h | h | h | h | h | h <;> subst h <;> decide +kernel
theorem JD (k:Int):bw Tryz.prog dQ 141 [.int k] [] (.d (.val (.string (nameOf k)))) []:=by
 refine bn Tryz.func141 (by decide) Ou rfl rfl ?_
 simp only [RP,go_sem,simprocAttr]
 refine cN (fun h1=>?_) (fun h1=>?_) <;> simp only [h1,go_sem,simprocAttr] <;> (try simp only [decide_eq_true_eq,decide_eq_false_iff_not,Bool.not_false] at h1)
 ·refine bg (fun h2=>?_) (fun h2=>?_) <;> simp only [h2,go_sem,simprocAttr] <;> (try simp only [decide_eq_true_eq,decide_eq_false_iff_not] at h2)
  ·rw [sS k (by omega)]
  ·have h3:0≤k:=by omega
   have h4:k.toNat<22:=by omega
   simp only [Cn,h3,h4,Nat.mul_one,Mo k (by omega),go_sem,simprocAttr]
 ·rw [sS k (by omega)]
theorem ES (o:cH):bw Tryz.prog G 142 [uN o] [] (.agg ((cV o).map LV.int)) []:=by
 refine bn Tryz.func142 (by decide) Ot rfl rfl ?_
 simp only [RO,go_sem,simprocAttr]
 simp only [cV,go_sem,simprocAttr]
def Jh (o:cH) (k:Nat):St:=⟨[(1,.ptr 0 0),(10,.agg ((cV o).map LV.int)),(11,.int k)],[some (.box 37 [.int o.kind,.int o.a,.int o.b,.int o.c,.int o.d,.int o.e,.int o.f])]⟩
theorem Ju (n:Int) (k m:Nat):pg n (decide (k<m)) = !(decide (n<0)||decide (n>1000000)||(decide ((k:Int)≥(m:Int))&&(n !=0))):=by
 unfold pg
 rw [Bool.eq_iff_iff]
 by_cases h4:n=0
 ·subst h4; simp
 ·have e:(n !=0)=true:=by simpa using h4
  simp only [e,h4,Bool.and_eq_true,decide_eq_true_eq,Bool.not_eq_true',Bool.or_eq_false_iff,decide_eq_false_iff_not,decide_false,Bool.or_false,Bool.and_true]
  omega
theorem rj (o:cH):bw Tryz.prog dQ 72 [uN o] [] (.bool (gH o)) []:=by
 refine bn Tryz.func72 (by decide) Td rfl rfl ?_
 simp only [Vt,go_sem,simprocAttr]
 rw [Bl]
 refine aC (JD o.kind) rfl rfl rfl rfl ?_; simp only [go_sem,simprocAttr]
 by_cases hk:1≤o.kind∧o.kind≤21
 ·simp only [GC _ hk,go_sem,simprocAttr]
  refine aC (ES o) rfl rfl rfl rfl ?_
  simp only [go_sem,simprocAttr,hk]
  generalize hq:vI (gX o.kind) (cV o) 0=r
  have hl:(cV o).length=6:=rfl
  have hk0:0≤o.kind:=by omega
  have LD:o.kind.toNat<22:=by omega
  refine aY [1,10,11] [] (fun k:Nat=>k≤6∧vI (gX o.kind) ((cV o).drop k) k=r) (fun k=>6-k) (Jh o) 0 ?_ ⟨by omega,hq⟩ ?_
  ·simp only [Jh,go_sem,simprocAttr,Int.natCast_zero]
  rintro k ⟨hk6,hF⟩
  simp only [Jh,go_sem,simprocAttr]
  refine bg (fun h=>?_) (fun h=>?_) <;> simp only [h,go_sem,simprocAttr] <;> (try simp only [decide_eq_true_eq,decide_eq_false_iff_not] at h)
  ·have hkl:k<(cV o).length:=by omega
   have YE:k<6:=by omega
   rw [List.drop_eq_getElem_cons hkl,vI,Ju] at hF
   have hg:((cV o).map LV.int)[k]? = some (LV.int (cV o)[k]):=get_map hkl
   simp only [hg,YE,go_sem,simprocAttr]
   generalize (cV o)[k]=n at *
   refine cN (fun h1=>?_) (fun h1=>?_) <;> simp only [h1,go_sem,simprocAttr] <;> (try simp only [decide_eq_true_eq,decide_eq_false_iff_not,Bool.not_false] at h1)
   ·have xz:decide (n<0)=false:=by simp; omega
    refine cN (fun h2=>?_) (fun h2=>?_) <;> simp only [h2,go_sem,simprocAttr] <;> (try simp only [decide_eq_true_eq,decide_eq_false_iff_not,Bool.not_false] at h2)
    ·have CH:decide (n>1000000)=false:=by simp; omega
     simp only [xe,hk0,LD,Fe _ hk,Nat.mul_one,go_sem,simprocAttr]
     refine cN (fun h3=>?_) (fun h3=>?_) <;> simp only [h3,go_sem,simprocAttr] <;> (try simp only [decide_eq_true_eq,decide_eq_false_iff_not,Bool.not_true] at h3)
     ·have D6:decide ((k:Int)≥(gX o.kind:Int))=true:=by simpa using h3
      cases h4:(n !=0) with
      | true=>
        rw [xz,CH,D6,h4] at hF
        simp only [go_sem,simprocAttr] at hF
        simp only [go_sem,simprocAttr,← hF]
      | false=>
        rw [xz,CH,D6,h4] at hF
        simp only [go_sem,simprocAttr] at hF
        simp only [go_sem,simprocAttr]
        refine bz (k+1) ?_ ?_ ⟨by omega,hF⟩ (by omega)
        ·simp only [go_sem,simprocAttr]; rfl
        ·simp only [Jh,go_sem,simprocAttr,aG (show k<9223372036854775807 by omega)]
     ·have D6:decide ((k:Int)≥(gX o.kind:Int))=false:=by simpa using h3
      rw [xz,CH,D6] at hF
      simp only [go_sem,simprocAttr] at hF
      refine bz (k+1) ?_ ?_ ⟨by omega,hF⟩ (by omega)
      ·simp only [go_sem,simprocAttr]; rfl
      ·simp only [Jh,go_sem,simprocAttr,aG (show k<9223372036854775807 by omega)]
    ·have CH:decide (n>1000000)=true:=by simpa using h2
     rw [xz,CH] at hF
     simp only [go_sem,simprocAttr] at hF
     simp only [go_sem,simprocAttr,← hF]
   ·have xz:decide (n<0)=true:=by simpa using h1
    rw [xz] at hF
    simp only [go_sem,simprocAttr] at hF
    simp only [go_sem,simprocAttr,← hF]
  ·obtain rfl:k=6:=by omega
   simp only [cV,List.drop_succ_cons,List.drop_zero,vI] at hF
   simp only [go_sem,simprocAttr,← hF]
 ·simp only [sS _ hk,hk,go_sem,simprocAttr]
def gd (f:Option Nat) (j n:Bool):List LV:=[match f with | some k=>.d (.fn (.func k) [] []) | none=>.d (.val .nilFunc),.bool j,.bool n]
def th:List LV:=gd none false false++gd (some 145) false false++gd (some 146) true false++gd (some 147) false false++gd (some 148) false false++gd (some 149) false false++gd (some 150) false false
 ++gd (some 151) false true++gd (some 152) false true++gd (some 153) true false++gd (some 154) true false++gd (some 155) true false++gd (some 156) true false++gd (some 157) true false
 ++gd (some 158) true false++gd (some 159) true false++gd (some 160) false true++gd (some 161) false true++gd (some 162) false true++gd (some 163) false true++gd (some 164) true false++gd (some 165) false false
theorem HD:bw Tryz.prog G 74 [] [] (.agg th) []:=by
 refine bn Tryz.func74 (by decide) Tc rfl rfl ?_
 simp only [Vs,go_sem,simprocAttr]
 rfl
end Dv
namespace Dv
open Go Go.Proofs
variable {G:Nat→Option (List DV)}
def VG:Nat×C×List RV:=(96,
(.seq (.af [qo 3 (.box 23 (.t 0)),
 qo 4 (.box 30 (.t 1)),
 qo 5 (.box 37 (.t 2)),
 qo 6 (.new 30 [(.val (.slice none 0 0)),(.val (.slice none 0 0)),q0,q0,q0,q0]),
 qo 7 (.mv (qk 0))])
 (.seq (.seq (.af [qo 11 (.bP 9 (.t 3)),
 qo 12 (.bP 6 (.t 4)),
 qo 13 (.call (.f 42) [(.t 11),(.t 12)]),
 qo 14 (.not (.t 13))])
 (.cond (.t 14) (.seq (.af [qo 15 (.build [(.val (.slice none 0 0)),(.val (.slice none 0 0)),q0,q0,q0,q0] []),
 qn (.st 6 (.t 6) (.t 15)),
 qo 7 (.mv (qk 1))])
 .ret)
 .skip))
 (.seq (.seq (.af [qo 16 (.bP 7 (.t 5)),
 qo 17 (.call (.f 72) [(.t 16)]),
 qo 18 (.not (.t 17))])
 (.cond (.t 18) (.seq (.af [qo 19 (.bP 6 (.t 4)),
 qo 20 (.call (.f 73) [(.t 19)]),
 qn (.st 6 (.t 6) (.t 20)),
 qo 7 (.mv (qk 1))])
 .ret)
 .skip))
 (.seq (.bQ [qo 21 (.bP 9 (.t 3)),
 qo 22 (.bP 6 (.t 4)),
 qd 23 (.call (.f 73) [(.t 22)]) [1],
 qo 24 (.bP 7 (.t 5)),
 qd 25 (.build [q0,q0,q0,q0,q0,q0,q0,q0,q0,(.val (.slice none 0 0)),(.val (.slice none 0 0)),q0,q0,q0,q0,q0,q0,q0,q0,q0,q0,q0,(.val (.pointer none)),(.val (.pointer none))] [(0,9,(.t 21)),(9,6,(.t 23)),(15,7,(.t 24))]) [0,2,1,3],
 qd 26 (.box 133 (.t 25)) [4,0,2,1,3],
 qd 8 (.mv (.t 26)) [5,4,0,2,1,3]])
 (.seq (.bQ [qo 27 (.call (.f 74) []),
 qo 28 (.aj 0 (.t 5)),
 qd 29 (.ld1 (.t 28)) [1],
 qd 30 (.PS 22 3 (.t 27) (.t 29)) [0,2,1],
 qo 9 (.new 136 [(.val .nilFunc),(.val (.bool false)),(.val (.bool false))]),
 ql (.st 3 (.t 9) (.t 30)) [4,3,0,2,1]])
 (.seq (.seq (.af [qo 31 (.aj 1 (.t 9)),
 qo 32 (.ld1 (.t 31))])
 (.cond (.t 32) (.seq (.seq (.af [qo 33 (.aj 1 (.t 5)),
 qo 34 (.ld1 (.t 33)),
 qo 35 (.bin .lss (.t 34) (qk 1)),
 qm 36 35,
 qg 37 (.aj 1 (.t 5)) 36 false,
 qg 38 (.ld1 (.t 37)) 36 false,
 qg 39 (.aj 1 (.t 4)) 36 false,
 qg 40 (.ld1 (.t 39)) 36 false,
 qg 41 (.len (.t 40)) 36 false,
 qg 42 (.bin .gtr (.t 38) (.t 41)) 36 false,
 qo 43 (.pick (.t 36) qt (.t 42))])
 (.cond (.t 43) (.seq (.af [qm 44 8,
 qo 45 (.aV (.t 44)),
 qo 46 (.aj 9 (.t 45)),
 qo 47 (.bP 6 (.t 46)),
 qn (.st 6 (.t 6) (.t 47)),
 qo 7 (.mv (qk 4))])
 .ret)
 .skip))
 (.bQ [qm 48 8,
 qm 49 8,
 qd 50 (.aV (.t 49)) [1],
 qd 51 (.aj 9 (.t 50)) [2,1],
 qd 52 (.aj 1 (.t 51)) [3,2,1],
 qd 53 (.ld1 (.t 52)) [4,3,2,1],
 qo 54 (.aj 1 (.t 5)),
 qd 55 (.ld1 (.t 54)) [6],
 qd 56 (.bin .sub (.t 55) (qk 1)) [7,6],
 qd 57 (.eG 12 (.t 53) (.t 56)) [5,4,3,2,1,8,7,6],
 qd 58 (.aV (.t 48)) [0,1,2,3,4,5,6,7,8,9],
 qd 59 (.aj 22 (.t 58)) [10,0,1,2,3,4,5,6,7,8,9],
 ql (.st 1 (.t 59) (.t 57)) [11,10,0,1,2,3,4,5,6,7,8,9]]))
 .skip))
 (.seq (.seq (.af [qo 60 (.aj 2 (.t 9)),
 qo 61 (.ld1 (.t 60))])
 (.cond (.t 61) (.seq (.seq (.af [qo 62 (.aj 1 (.t 5)),
 qo 63 (.ld1 (.t 62)),
 qo 64 (.aj 0 (.t 4)),
 qo 65 (.ld1 (.t 64)),
 qo 66 (.len (.t 65)),
 qo 67 (.bin .geq (.t 63) (.t 66))])
 (.cond (.t 67) (.seq (.af [qm 68 8,
 qo 69 (.aV (.t 68)),
 qo 70 (.aj 9 (.t 69)),
 qo 71 (.bP 6 (.t 70)),
 qn (.st 6 (.t 6) (.t 71)),
 qo 7 (.mv (qk 4))])
 .ret)
 .skip))
 (.bQ [qm 72 8,
 qm 73 8,
 qd 74 (.aV (.t 73)) [1],
 qd 75 (.aj 9 (.t 74)) [2,1],
 qd 76 (.aj 0 (.t 75)) [3,2,1],
 qd 77 (.ld1 (.t 76)) [4,3,2,1],
 qo 78 (.aj 1 (.t 5)),
 qd 79 (.ld1 (.t 78)) [6],
 qd 80 (.eG 5 (.t 77) (.t 79)) [5,4,3,2,1,7,6],
 qd 81 (.aV (.t 72)) [0,1,2,3,4,5,6,7,8],
 qd 82 (.aj 23 (.t 81)) [9,0,1,2,3,4,5,6,7,8],
 ql (.st 1 (.t 82) (.t 80)) [10,9,0,1,2,3,4,5,6,7,8]]))
 .skip))
 (.seq (.seq (.af [qo 83 (.aj 0 (.t 9)),
 qo 84 (.ld1 (.t 83)),
 qm 85 8,
 qo 86 (.call (.t 84) [(.t 85)]),
 qm 10 86])
 (.seq (.af [qm 87 10,
 qo 88 (.bin .neq (.t 87) (qk 0))])
 (.cond (.t 88) (.seq (.af [qo 89 (.bP 6 (.t 4)),
 qo 90 (.call (.f 73) [(.t 89)]),
 qm 91 10,
 qn (.st 6 (.t 6) (.t 90)),
 qm 7 91])
 .ret)
 .skip)))
 (.seq (.af [qm 92 8,
 qo 93 (.aV (.t 92)),
 qo 94 (.aj 9 (.t 93)),
 qo 95 (.bP 6 (.t 94)),
 qn (.st 6 (.t 6) (.t 95)),
 qo 7 (.mv (qk 0))])
 .ret))))))))),
[(.cn 6 6),(.t 7)])
theorem Tq:aq Tryz.prog Tryz.f24=some VG:=by kernel_rfl
theorem Cs {c:aH} {s:aa} {o:cH} (hr:jJ c s=true) (h:gH o=true) (h1:DH o.kind=false) (h2:vR o.kind=false):bO c s o=bM c s o:=by
 unfold bO xV
 rw [if_neg (by simp [hr]),if_neg (by simp [h]),if_neg (by simp [h1]),if_neg (by simp [h2])]
theorem FT {c:aH} {s:aa} {o:cH} (hr:jJ c s=true) (h:gH o=true) (h1:DH o.kind=true) (h2:vR o.kind=false):bO c s o=if o.a<1∨(s.jobs.length:Int)<o.a then (s,4) else bM c s o:=by
 unfold bO xV
 rw [if_neg (by simp [hr]),if_neg (by simp [h])]
 by_cases hq:o.a<1∨(s.jobs.length:Int)<o.a
 ·rw [if_pos ⟨h1,hq⟩,if_pos hq]
 ·rw [if_neg (fun h=>hq h.2),if_neg (by simp [h2]),if_neg hq]
theorem Lo {c:aH} {s:aa} {o:cH} (hr:jJ c s=true) (h:gH o=true) (h1:DH o.kind=false) (h2:vR o.kind=true):bO c s o=if (s.nodes.length:Int)≤o.a then (s,4) else bM c s o:=by
 unfold bO xV
 rw [if_neg (by simp [hr]),if_neg (by simp [h]),if_neg (by simp [h1])]
 by_cases hq:(s.nodes.length:Int)≤o.a
 ·rw [if_pos ⟨h2,hq⟩,if_pos hq]
 ·rw [if_neg (fun h=>hq h.2),if_neg hq]
def oN (s:aa) (p:aa×Int):Prop:=p.2≠0→p.1=s
theorem O8 {s:aa} {P:Prop} [Decidable P] {a b:aa×Int} (h1:oN s a) (h2:oN s b):oN s (if P then a else b):=by
 split
 ·exact h1
 ·exact h2
theorem K6 (s:aa) (e:Int):oN s (s,e):=fun _=>rfl
theorem T1 (s t:aa):oN s (t,0):=fun h=>absurd rfl h
theorem Ca (c:aH) (s:aa) (o:cH):oN s (bM c s o):=by
 unfold bM ji kI kg gF rS LK nX nG kf mD jH oc ug mE iy vV me gv gq
 repeat' (first | exact K6 _ _ | exact T1 _ _ | apply O8)
theorem sO {o:cH} (h:gH o=true):(1≤o.kind∧o.kind≤21)∧(0≤o.a∧o.a≤1000000)∧(0≤o.b∧o.b≤1000000):=by
 unfold gH pg at h
 simp only [Bool.and_eq_true,decide_eq_true_eq] at h
 exact ⟨h.1.1.1.1.1.1,h.1.1.1.1.1.2.1,h.1.1.1.1.2.1⟩
theorem HF {c:aH} {s:aa} {o:cH} (hp:bT c s) (ZL:1≤c.bG∧c.bG≤1000) (hk:o.kind=1∨o.kind=3∨o.kind=4∨o.kind=5∨o.kind=6∨o.kind=21):∃ f,List.take 3 (List.drop (o.kind.toNat*3) th)=[.d (.fn (.func f) [] []),.bool false,.bool false]∧bw Tryz.prog dQ f [.ptr 0 0] (bL c s o fu fu) (.int (bM c s o).2) (bL c (bM c s o).1 o fu fu):=by
 have Ae:=hp.len
 have hlj:=hp.jobs
 have ht:=hp.term
 rcases hk with hk | hk | hk | hk | hk | hk <;> refine ⟨_,by rw [hk]; rfl,?_⟩ <;> simp only [bM,hk,Int.reduceEq,if_true,if_false]
 ·exact CW c s o ZL (by omega)
 ·exact CU c s o (by omega) (by omega)
 ·exact Gw c s o
 ·exact Dg c s o
 ·exact Ie c s o
 ·exact Bv c s o (by omega) ht.1
theorem Le {c:aH} {s:aa} {o:cH} (hp:bT c s) (hb:0≤o.b) (hk:o.kind=2∨o.kind=9∨o.kind=10∨o.kind=11∨o.kind=12∨o.kind=13∨o.kind=14∨o.kind=15∨o.kind=20) {k:Nat} (hkl:k<s.jobs.length) (ha:o.a=k+1) (hJ:dM s o.a=cZ s k) (hm:0≤(cZ s k).nodes∧(cZ s k).nodes<64):∃ f,List.take 3 (List.drop (o.kind.toNat*3) th)=[.d (.fn (.func f) [] []),.bool true,.bool false]∧bw Tryz.prog dQ f [.ptr 0 0] (bL c s o (.rp 2 s.jobs.length 12 k 0) fu) (.int (bM c s o).2) (bL c (bM c s o).1 o (.rp 2 s.jobs.length 12 k 0) fu):=by
 have Ae:=hp.len
 have hlj:=hp.jobs
 rcases hk with hk | hk | hk | hk | hk | hk | hk | hk | hk <;> refine ⟨_,by rw [hk]; rfl,?_⟩ <;> simp only [bM,hk,Int.reduceEq,if_true,if_false]
 ·exact Es c s o k hkl ha (by omega) (by omega)
 ·exact Ku c s o k hkl ha (by omega) (by omega) (by rw [hJ]; exact (hp.num k hkl).inc.1)
 ·exact F9 c s o k hkl ha
 ·exact CQ c s o k hkl ha (by omega) (by omega)
 ·exact Eg c s o k hkl ha (by omega)
 ·exact Gg c s o k hkl ha
 ·exact Hv c s o k hkl ha (by omega) (by omega)
 ·exact HC c s o k hkl ha (by omega) (by omega)
 ·exact C9 c s o k hkl ha (by omega) (by omega) hb (by rw [hJ]; exact hm)
theorem HG {c:aH} {s:aa} {o:cH} (hp:bT c s) (hk:o.kind=7∨o.kind=8∨o.kind=16∨o.kind=17∨o.kind=18∨o.kind=19) {i:Nat} (hil:i<s.nodes.length) (ha:o.a=i) (hN:cE s o.a=dm s i):∃ f,List.take 3 (List.drop (o.kind.toNat*3) th)=[.d (.fn (.func f) [] []),.bool false,.bool true]∧bw Tryz.prog dQ f [.ptr 0 0] (bL c s o fu (.rp 1 s.nodes.length 5 i 0)) (.int (bM c s o).2) (bL c (bM c s o).1 o fu (.rp 1 s.nodes.length 5 i 0)):=by
 have Ae:=hp.len
 have hlj:=hp.jobs
 rcases hk with hk | hk | hk | hk | hk | hk <;> refine ⟨_,by rw [hk]; rfl,?_⟩ <;> simp only [bM,hk,Int.reduceEq,if_true,if_false]
 ·exact Ld c s o i hil ha (by omega) (by omega) (by rw [hN]; exact hp.aN i hil)
 ·exact Sz c s o i hil ha
 ·exact Ei c s o i hil ha
 ·exact zg c s o i hil ha
 ·exact JF c s o i hil ha
 ·exact GG c s o i hil ha
set_option maxHeartbeats 1600000 in
theorem tu (c:aH) (s:aa) (o:cH):bw Tryz.prog dQ 24 [gK c,bp s,uN o] [] (.dP [bp (bO c s o).1,.int (bO c s o).2]) []:=by
 refine cG Tryz.func24 (by decide) Tq rfl ?_
 simp only [VG,go_sem,simprocAttr]
 refine aC (Gk c s) rfl rfl rfl rfl ?_; simp only [go_sem,simprocAttr]
 cases hr:jJ c s with
 | false=>
   have hA:bO c s o=(kZ,1):=by unfold bO; rw [if_pos hr]
   rw [hA]
   simp only [go_sem,simprocAttr]
   exact dL [] rfl (by simp) (by simp [aW,St.get,bx,ai,ah,kZ])
 | true=>
 have hp:=(gG c s).1 hr
 have Ae:=hp.len
 have hlj:=hp.jobs
 have ZL:=(vv hr).tn
 simp only [go_sem,simprocAttr]
 refine aC (rj o) rfl rfl rfl rfl ?_; simp only [go_sem,simprocAttr]
 cases ho:gH o with
 | false=>
   have hA:bO c s o=(s,1):=by unfold bO xV; rw [if_neg (by simp [hr]),if_pos ho]
   rw [hA]
   simp only [go_sem,simprocAttr]
   refine kL (oe s (by omega) (by omega)) rfl rfl rfl ?_
   simp only [go_sem,simprocAttr]
   exact dL [4,5] rfl (by simp [St.obj,aB]) (by simp [St.obj,aB,aW,St.get,bx,ai,ah,bE,List.take_of_length_le])
 | true=>
 have hkn:=sO ho
 obtain ⟨hkk,hka,hkb⟩:=hkn
 simp only [go_sem,simprocAttr]
 refine iU (oe s (by omega) (by omega)) rfl rfl rfl ?_
 simp only [go_sem,simprocAttr]
 refine av rfl ?_
 simp only [go_sem,simprocAttr]
 refine bf HD rfl rfl rfl rfl ?_
 simp only [go_sem,simprocAttr]
 have hE:=Ca c s o
 have hK:0≤o.kind∧o.kind.toNat<22:=by omega
 have hkg:(o.kind=1∨o.kind=3∨o.kind=4∨o.kind=5∨o.kind=6∨o.kind=21)∨(o.kind=2∨o.kind=9∨o.kind=10∨o.kind=11∨o.kind=12∨o.kind=13∨o.kind=14∨o.kind=15∨o.kind=20)∨(o.kind=7∨o.kind=8∨o.kind=16∨o.kind=17∨o.kind=18∨o.kind=19):=by omega
 rcases hkg with hk | hk | hk
 ·obtain ⟨f,hx,hT⟩:=HF hp (by omega) hk
  have hA:bO c s o=bM c s o:=by
   rcases hk with hk | hk | hk | hk | hk | hk <;> exact Cs hr ho (by rw [hk]; rfl) (by rw [hk]; rfl)
  rw [hA]
  simp only [hK,hx,go_sem,simprocAttr]
  refine av rfl ?_
  simp only [go_sem,simprocAttr]
  refine aK [6,4,5] (hT) rfl ?_ (by decide) ?_ ?_ (by simp) ?_ <;> simp only [ah,ai,go_sem,simprocAttr,bL]
  generalize bM c s o=p at *
  cases he:(p.2 !=0) with
  | true=>
    simp only [go_sem,simprocAttr]
    refine kL (oe s (by omega) (by omega)) rfl rfl rfl ?_
    simp only [go_sem,simprocAttr]
    have hs:p.1=s:=hE (by simpa using he)
    rw [hs]
    exact dL [8,9] rfl (by simp [St.obj,aB]) (by simp [St.obj,aB,aW,St.get,bx,ai,ah,bE,List.take_of_length_le])
  | false=>
    have TP:p.2=0:=by simpa using he
    simp only [go_sem,simprocAttr]
    exact dL [4,5] rfl (by simp [St.obj,aB]) (by simp [St.obj,aB,aW,St.get,bx,ai,ah,bE,List.take_of_length_le,TP])
 ·have hA:bO c s o=if o.a<1∨(s.jobs.length:Int)<o.a then (s,4) else bM c s o:=by
   rcases hk with hk | hk | hk | hk | hk | hk | hk | hk | hk <;> exact FT hr ho (by rw [hk]; rfl) (by rw [hk]; rfl)
  have hx:∃ f,List.take 3 (List.drop (o.kind.toNat*3) th)=[.d (.fn (.func f) [] []),.bool true,.bool false]:=by
   rcases hk with hk | hk | hk | hk | hk | hk | hk | hk | hk <;> exact ⟨_,by rw [hk]; rfl⟩
  obtain ⟨f,hx⟩:=hx
  rw [hA]
  simp only [hK,hx,go_sem,simprocAttr]
  refine av rfl ?_
  simp only [go_sem,simprocAttr]
  by_cases hq:o.a<1∨(s.jobs.length:Int)<o.a
  ·rw [if_pos hq]
   refine cN (fun h1=>?_) (fun h1=>?_) <;> simp only [h1,go_sem,simprocAttr] <;> (try simp only [decide_eq_true_eq,decide_eq_false_iff_not,Bool.not_false] at h1)
   ·refine bg (fun h2=>?_) (fun h2=>?_) <;> simp only [h2,go_sem,simprocAttr] <;> (try simp only [decide_eq_true_eq,decide_eq_false_iff_not] at h2)
    ·exact dL [4,5] rfl (by simp [St.obj,aB]) (by simp [St.obj,aB,aW,St.get,bx,ai,ah,bE,List.take_of_length_le])
    ·omega
   ·exact dL [4,5] rfl (by simp [St.obj,aB]) (by simp [St.obj,aB,aW,St.get,bx,ai,ah,bE,List.take_of_length_le])
  rw [if_neg hq]
  have q1:decide (o.a<1)=false:=by simp; omega
  have q2:decide (o.a>(s.jobs.length:Int))=false:=by simp; omega
  have hw:IntKind.i64.wrap (o.a-1)=o.a-1:=aO (by omega) (by omega)
  have q3:0≤o.a-1:=by omega
  obtain ⟨k,Zz⟩:∃ k:Nat,(o.a-1).toNat=k:=⟨_,rfl⟩
  have hkl:k<s.jobs.length:=by omega
  have YD:o.a=k+1:=by omega
  have hJ:dM s o.a=cZ s k:=by unfold dM cZ; rw [Zz]
  obtain ⟨f2,hx2,hT⟩:=Le hp hkb.1 hk hkl YD hJ ((vv hr).bits hkl)
  rw [hx2] at hx
  simp only [List.cons.injEq,LV.d.injEq,DV.fn.injEq,Fn.func.injEq,and_true] at hx
  obtain rfl:=hx
  simp only [q1,q2,q3,hw,Zz,hkl,go_sem,simprocAttr]
  refine av rfl ?_
  simp only [go_sem,simprocAttr]
  refine aK [6,4,5] (hT) rfl ?_ (by decide) ?_ ?_ (by simp) ?_ <;> simp only [ah,ai,go_sem,simprocAttr,bL]
  generalize bM c s o=p at *
  cases he:(p.2 !=0) with
  | true=>
    simp only [go_sem,simprocAttr]
    refine kL (oe s (by omega) (by omega)) rfl rfl rfl ?_
    simp only [go_sem,simprocAttr]
    have hs:p.1=s:=hE (by simpa using he)
    rw [hs]
    exact dL [8,9] rfl (by simp [St.obj,aB]) (by simp [St.obj,aB,aW,St.get,bx,ai,ah,bE,List.take_of_length_le])
  | false=>
    have TP:p.2=0:=by simpa using he
    simp only [go_sem,simprocAttr]
    exact dL [4,5] rfl (by simp [St.obj,aB]) (by simp [St.obj,aB,aW,St.get,bx,ai,ah,bE,List.take_of_length_le,TP])
 ·have hA:bO c s o=if (s.nodes.length:Int)≤o.a then (s,4) else bM c s o:=by
   rcases hk with hk | hk | hk | hk | hk | hk <;> exact Lo hr ho (by rw [hk]; rfl) (by rw [hk]; rfl)
  have hx:∃ f,List.take 3 (List.drop (o.kind.toNat*3) th)=[.d (.fn (.func f) [] []),.bool false,.bool true]:=by
   rcases hk with hk | hk | hk | hk | hk | hk <;> exact ⟨_,by rw [hk]; rfl⟩
  obtain ⟨f,hx⟩:=hx
  rw [hA]
  simp only [hK,hx,go_sem,simprocAttr]
  refine av rfl ?_
  simp only [go_sem,simprocAttr]
  by_cases hq:(s.nodes.length:Int)≤o.a
  ·rw [if_pos hq]
   have q1:decide (o.a≥(s.nodes.length:Int))=true:=by simpa using hq
   simp only [q1,go_sem,simprocAttr]
   exact dL [4,5] rfl (by simp [St.obj,aB]) (by simp [St.obj,aB,aW,St.get,bx,ai,ah,bE,List.take_of_length_le])
  rw [if_neg hq]
  have q1:decide (o.a≥(s.nodes.length:Int))=false:=by simp; omega
  have q3:0≤o.a:=hka.1
  obtain ⟨i,ZB⟩:∃ i:Nat,o.a.toNat=i:=⟨_,rfl⟩
  have hil:i<s.nodes.length:=by omega
  have hia:o.a=i:=by omega
  have hN:cE s o.a=dm s i:=by unfold cE dm; rw [ZB]
  obtain ⟨f2,hx2,hT⟩:=HG hp hk hil hia hN
  rw [hx2] at hx
  simp only [List.cons.injEq,LV.d.injEq,DV.fn.injEq,Fn.func.injEq,and_true] at hx
  obtain rfl:=hx
  simp only [q1,q3,ZB,hil,go_sem,simprocAttr]
  refine av rfl ?_
  simp only [go_sem,simprocAttr]
  refine aK [6,4,5] (hT) rfl ?_ (by decide) ?_ ?_ (by simp) ?_ <;> simp only [ah,ai,go_sem,simprocAttr,bL]
  generalize bM c s o=p at *
  cases he:(p.2 !=0) with
  | true=>
    simp only [go_sem,simprocAttr]
    refine kL (oe s (by omega) (by omega)) rfl rfl rfl ?_
    simp only [go_sem,simprocAttr]
    have hs:p.1=s:=hE (by simpa using he)
    rw [hs]
    exact dL [8,9] rfl (by simp [St.obj,aB]) (by simp [St.obj,aB,aW,St.get,bx,ai,ah,bE,List.take_of_length_le])
  | false=>
    have TP:p.2=0:=by simpa using he
    simp only [go_sem,simprocAttr]
    exact dL [4,5] rfl (by simp [St.obj,aB]) (by simp [St.obj,aB,aW,St.get,bx,ai,ah,bE,List.take_of_length_le,TP])
end Dv
