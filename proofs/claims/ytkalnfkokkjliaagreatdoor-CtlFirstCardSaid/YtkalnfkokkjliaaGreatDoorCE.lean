/- CtlFirst: it returns true. -/
import Derived.Test.YtkalnfkokkjliaaGreatDoorCD
import Derived.Test.YtkalnfkokkjliaaGreatDoorCA
import Derived.Test.YtkalnfkokkjliaaGreatDoorAB
set_option linter.unusedVariables false
set_option linter.unusedSimpArgs false
namespace Dv
open Go Go.Proofs
def Zs:Nat×C×List RV:=(116,
(.seq (.af [qo 2 (.box 23 (.t 0)),
 qo 4 (.mv qf)])
 (.seq (.seq (.af [qo 14 (.call (.f 26) []),
 qo 15 (.not (.t 14))])
 (.cond (.t 15) (.seq (.af [qo 4 (.mv qf)])
 .ret)
 .skip))
 (.seq (.seq (.af [qo 16 (.bP 9 (.t 2)),
 qm 17 1,
 qo 18 (.call (.f 41) [(.t 16),(.t 17)]),
 qo 19 (.not (.t 18))])
 (.cond (.t 19) (.seq (.af [qo 4 (.mv qt)])
 .ret)
 .skip))
 (.seq (.bQ [qo 21 (.bP 9 (.t 2)),
 qo 22 (.aj 8 (.t 2)),
 qd 23 (.ld1 (.t 22)) [1],
 qd 24 (.call (.f 27) [(.t 23)]) [2,1],
 qo 25 (.aj 7 (.t 2)),
 qd 26 (.ld1 (.t 25)) [4],
 qd 27 (.call (.f 35) [(.t 26)]) [5,4,3,2,1],
 qd 28 (.call (.f 37) [(.t 21),(.t 24),(.t 27),(qk 0)]) [0,3,2,1,6,5,4],
 qd 20 (.mv (.t 28)) [7,0,3,2,1,6,5,4],
 qd 29 (.ext (.t 20) 0) [8,7,0,3,2,1,6,5,4],
 qd 30 (.ext (.t 20) 1) [8,7,0,3,2,1,6,5,4],
 qd 5 (.mv (.t 29)) [9,8,7,0,3,2,1,6,5,4],
 qd 6 (.mv (.t 30)) [10,8,7,0,3,2,1,6,5,4,11,9]])
 (.seq (.seq (.af [qo 7 (.mv (qk 0))])
 (.block 0 (.loop (.seq (.seq (.af [qm 31 7,
 qm 32 1,
 qo 33 (.len (.t 32)),
 qo 34 (.bin .lss (.t 31) (.t 33)),
 qm 35 34,
 qg 36 (.mv (.t 6)) 35 true,
 qg 37 (.bin .eql (.t 36) (qk 0)) 35 true,
 qo 38 (.pick (.t 35) (.t 37) qf)])
 (.cond (.t 38) .skip
 (.exit 0)))
 (.seq (.block 1 (.seq (.af [qm 41 1,
 qm 42 7,
 qo 43 (.eG 26 (.t 41) (.t 42)),
 qo 44 (.bP 26 (.t 43)),
 qo 8 (.new 91 [q0,q0,q0,q0,q0,q0,q0,q0,q0,q0,q0,q0,q0,q0,q0,q0,q0,q0,q0,q0,q0,q0,q0,q0,q0,(.val (.slice none 0 0))]),
 qn (.st 26 (.t 8) (.t 44))])
 (.seq (.af [qm 45 5,
 qo 46 (.call (.f 39) [(.t 45)]),
 qo 9 (.new 30 [(.val (.slice none 0 0)),(.val (.slice none 0 0)),q0,q0,q0,q0]),
 qn (.st 6 (.t 9) (.t 46))])
 (.seq (.af [qm 47 5,
 qo 48 (.call (.f 40) [(.t 47)]),
 qm 10 48])
 (.seq (.af [qo 11 (.new 37 [q0,q0,q0,q0,q0,q0,q0])])
 (.seq (.seq (.af [qo 49 (.aj 0 (.t 8)),
 qo 50 (.ld1 (.t 49))])
 (.block 2 (.seq (.af [qo 52 (.bin .eql (.t 50) (qk 0)),
 qm 51 52])
 (.cond (.t 51) (.seq (.af [qm 53 5,
 qo 54 (.aj 3 (.t 8)),
 qo 55 (.bP 7 (.t 54)),
 qo 56 (.aj 1 (.t 8)),
 qo 57 (.ld1 (.t 56)),
 qo 58 (.call (.f 43) [(.t 53),(.t 55),(.t 57)]),
 qo 59 (.bin .eql (.t 58) (qk 0))])
 (.cond (.t 59) (.af [qo 60 (.aj 3 (.t 8)),
 qo 61 (.bP 7 (.t 60)),
 qn (.st 7 (.t 11) (.t 61))])
 .skip))
 (.seq (.af [qo 63 (.bin .eql (.t 50) (qk 1)),
 qm 62 63])
 (.cond (.t 62) (.af [qm 65 5,
 qo 66 (.aj 1 (.t 8)),
 qo 67 (.ld1 (.t 66)),
 qo 68 (.call (.f 44) [(.t 65),(.t 67)]),
 qm 64 68,
 qo 69 (.ext (.t 64) 0),
 qo 70 (.ext (.t 64) 1),
 qn (.st 7 (.t 11) (.t 69))])
 (.seq (.af [qo 72 (.bin .eql (.t 50) (qk 2)),
 qm 71 72])
 (.cond (.t 71) (.af [qm 73 5,
 qo 74 (.aj 10 (.t 8)),
 qo 75 (.bP 11 (.t 74)),
 qo 76 (.aj 1 (.t 8)),
 qo 77 (.ld1 (.t 76)),
 qo 78 (.call (.f 45) [(.t 73),(.t 75),(.t 77)])])
 .skip))))))))
 (.seq (.seq (.af [qo 79 (.aj 0 (.t 11)),
 qo 80 (.ld1 (.t 79)),
 qo 81 (.bin .eql (.t 80) (qk 0))])
 (.cond (.t 81) (.seq (.seq (.bQ [qo 82 (.bP 6 (.t 9)),
 qm 83 5,
 qd 84 (.call (.f 39) [(.t 83)]) [1],
 qd 85 (.call (.f 20) [(.t 82),(.t 84)]) [0,2,1],
 qd 86 (.not (.t 85)) [3,0,2,1],
 qd 87 (.mv (.t 86)) [4,3,0,2,1],
 qe 88 (.mv (.t 5)) 87 false [5,4,3,0,2,1],
 qe 89 (.call (.f 40) [(.t 88)]) 87 false [6,5,4,3,0,2,1],
 qe 90 (.mv (.t 10)) 87 false [5,4,3,0,2,1],
 qe 91 (.bin .neq (.t 89) (.t 90)) 87 false [7,6,5,4,3,0,2,1,8],
 qd 92 (.pick (.t 87) qt (.t 91)) [5,4,3,0,2,1,9,7,6,8]])
 (.cond (.t 92) (.seq (.af [qo 4 (.mv qf)])
 .ret)
 .skip))
 (.exit 1))
 .skip))
 (.seq (.af [qo 94 (.bP 9 (.t 2)),
 qo 95 (.bP 6 (.t 9)),
 qo 96 (.bP 7 (.t 11)),
 qo 97 (.call (.f 24) [(.t 94),(.t 95),(.t 96)]),
 qm 93 97,
 qo 98 (.ext (.t 93) 0),
 qo 99 (.ext (.t 93) 1),
 qo 12 (.new 30 [(.val (.slice none 0 0)),(.val (.slice none 0 0)),q0,q0,q0,q0]),
 qn (.st 6 (.t 12) (.t 98)),
 qm 13 99])
 (.seq (.bQ [qm 100 13,
 qd 101 (.bin .neq (.t 100) (qk 0)) [0],
 qd 102 (.mv (.t 101)) [1,0],
 qe 103 (.bP 6 (.t 12)) 102 false [2,1,0],
 qe 104 (.mv (.t 5)) 102 false [2,1,0],
 qe 105 (.call (.f 39) [(.t 104)]) 102 false [4,2,1,0],
 qe 106 (.call (.f 20) [(.t 103),(.t 105)]) 102 false [3,2,1,0,5,4],
 qe 107 (.not (.t 106)) 102 false [6,3,2,1,0,5,4],
 qd 108 (.pick (.t 102) qt (.t 107)) [2,1,0,7,6,3,5,4],
 qd 109 (.mv (.t 108)) [8,2,1,0,7,6,3,5,4],
 qe 110 (.mv (.t 5)) 109 false [9,8,2,1,0,7,6,3,5,4],
 qe 111 (.call (.f 40) [(.t 110)]) 109 false [10,9,8,2,1,0,7,6,3,5,4],
 qe 112 (.mv (.t 10)) 109 false [9,8,2,1,0,7,6,3,5,4],
 qe 113 (.bin .add (.t 112) (qk 1)) 109 false [12,9,8,2,1,0,7,6,3,5,4],
 qe 114 (.bin .neq (.t 111) (.t 113)) 109 false [11,10,9,8,2,1,0,7,6,3,5,4,13,12],
 qd 115 (.pick (.t 109) qt (.t 114)) [9,8,2,1,0,7,6,3,5,4,14,11,10,13,12]])
 (.cond (.t 115) (.seq (.af [qo 4 (.mv qf)])
 .ret)
 .skip))))))))))
 (.af [qm 39 7,
 qo 40 (.bin .add (.t 39) (qk 1)),
 qm 7 40]))))))
 (.seq (.af [qo 4 (.mv qt)])
 .ret)))))),
[(.t 4)])
theorem Vg:aq Tryz.prog Tryz.f7=some Zs:=by kernel_rfl
def FN (c:aH):aD:=.box 23 [.int c.nodes,.int c.bG,.int c.cD,.int c.wave,.int c.b_,.int c.eE,.int c.deadline,.int c.room,.int c.fG]
def FJ (x:aQ):aD:=.box 195 [.int x.c.nodes,.int x.c.bG,.int x.c.cD,.int x.c.wave,.int x.c.b_,.int x.c.eE,.int x.c.deadline,.int x.c.room,.int x.c.fG,.ptr 1 0,.ptr 6 0,.ptr 3 0,bZ x.s.nodes,dg x.s.jobs,.int x.s.goal,.int x.s.prior,.int x.s.mode,.int x.s.term,.sl 5 x.lines.length 26 0 x.lines.length,.bool x.down,.int x.cr]
def Ff (c:aH) (x:aQ):List aD:=[FN c,.box 150 [.sl 2 x.j.n 1 0 x.j.n,.d (.val (.slice none 0 0)),.int x.j.s],.dat 5 1 (aA x.j.l),.box 190 (.int x.room::.int x.term::(x.sh.flatMap pP++[.int x.wr])),FJ x,aX x.lines,.box 160 [.ptr 1 0,.ptr 7 0,.ptr 8 0,.int x.j.cnt,.int x.j.cT],.box 243 [.ptr 1 0,.int 0,.int ((x.j.n / 4:Nat):Int)],.box 245 [.ptr 1 0,.int ((2*(x.j.n / 4):Nat):Int),.int ((x.j.n-2*(x.j.n / 4):Nat):Int),.int x.j.us]]
def XS (c:aH) (l:List tE) (q:Nat×aQ):St:=⟨[(1,kK l),(2,.ptr 0 0),(4,.bool false),(5,.ptr 4 0),(6,.int 0),(7,.int q.1)],(Ff c q.2).map some⟩
theorem PG (s t:aa) (h:s=t) (hn:s.nodes.length≤1000) (hj:s.jobs.length≤1000):bw Tryz.prog dI 20 [bp s,bp t] [] (.bool true) []:=by
 subst h
 have:=Gi (G:=dI) s s (by omega) (by omega)
 rw [decide_eq_true rfl] at this
 exact this
theorem mm {c:aH} {k:Nat} {x y:aQ} (hI:dO c k y) (hs:y.s=x.s) (hn:y.cr=x.cr):bw Tryz.prog dI 39 [.ptr 0 0] (bH y) (bp y.s) (bH y)∧bw Tryz.prog dI 40 [.ptr 0 0] (bH y) (.int x.cr) (bH y)∧bw Tryz.prog dI 20 [bp x.s,bp y.s] [] (.bool true) []∧dO c k y:=by
 have h1:=hI.ok.right.len
 have h2:=hI.ok.right.jobs
 have h3:=qx (G:=dI) y
 rw [hn] at h3
 exact ⟨qs y hI.dn (by omega) (by omega),h3,PG _ _ hs.symm (by rw [← hs]; omega) (by rw [← hs]; omega),hI⟩
theorem Bk {c:aH} {k:Nat} {x y:aQ} (hI:dO c k y) (hn:y.cr=IntKind.i64.wrap (x.cr+1)):bw Tryz.prog dI 39 [.ptr 0 0] (bH y) (bp y.s) (bH y)∧bw Tryz.prog dI 40 [.ptr 0 0] (bH y) (.int (IntKind.i64.wrap (x.cr+1))) (bH y)∧bw Tryz.prog dI 20 [bp y.s,bp y.s] [] (.bool true) []∧dO c k y:=by
 have h1:=hI.ok.right.len
 have h2:=hI.ok.right.jobs
 have h3:=qx (G:=dI) y
 rw [hn] at h3
 exact ⟨qs y hI.dn (by omega) (by omega),h3,PG _ _ rfl (by omega) (by omega),hI⟩
theorem D_ {c:aH} (h:gL c=true) {n:Nat} (hn:64≤n∧n≤65536) (room:Int):dO c 1 (Pe c n 0 room 0 (List.replicate 25 kY) 0 0):=by
 have h0:dO c 0 (tj c n 0 room 0 (List.replicate 25 kY) 0 0):=by
  refine ⟨FK h hn 0 room 0 _ (by rw [List.length_replicate]) 0 0,rfl,rfl,?_,?_,⟨Int.le_refl _,Int.le_refl _⟩⟩
  ·intro l hl
   change l∈List.replicate _ (SR 0) at hl
   rw [List.eq_of_mem_replicate hl]
   exact ⟨Int.le_refl _,by show (0:Int)≤_; omega⟩
  ·intro i hi
   show (List.replicate 25 kY).getD i kY=kY
   rw [List.getD,List.getElem?_replicate,if_pos hi]
   rfl
 have h1:=h0.note (by omega) je (now:=0) (by omega)
 exact ⟨⟨h1.ok.right,h1.ok.jn,h1.ok.sh,h1.ok.lines⟩,h1.cf,h1.dn,h1.hr,h1.sz,h1.nt⟩
set_option maxHeartbeats 8000000 in
theorem xT (TU:bw Tryz.prog dI 26 [] [] (.bool true) []) (c:aH) (l:List tE):bw Tryz.prog dI 7 [gK c,kK l] [] (.bool true) []:=by
 have YK:=O5 (G:=dI) c l
 refine bn Tryz.func7 (by decide) Vg rfl rfl ?_
 simp only [Zs,go_sem,simprocAttr]
 refine aC (TU) rfl rfl rfl rfl ?_; simp only [go_sem,simprocAttr]
 refine aC (YK) rfl rfl rfl rfl ?_; simp only [go_sem,simprocAttr]
 cases hF:K3 c l with
 | false=>simp only [go_sem,simprocAttr]
 | true=>
 obtain ⟨hlen,hm,hd4,DT⟩:=O6 hF
 simp only [kK,go_sem,simprocAttr]
 have hdk:2000≤c.fG:=by
  unfold gL at hm
  simp only [Bool.and_eq_true] at hm
  exact (aS hm.2).1
 obtain ⟨n,hn⟩:∃ n:Nat,c.fG=n:=⟨c.fG.toNat,by omega⟩
 have hdn:=B9 (G:=dI) n (by omega) (by omega)
 have XA:=zi (G:=dI) c.room
 have hb:=bw.up (HQ c hm n (by omega) 0 (if c.room>0 then c.room else 0) 0 (List.replicate 25 kY) (by rw [List.length_replicate]) 0 0 (by decide)) lz
 have hok:=D_ hm (n:=n) (by omega) (if c.room>0 then c.room else 0)
 generalize Pe c n 0 (if c.room>0 then c.room else 0) 0 (List.replicate 25 kY) 0 0=x0 at *
 generalize hsh:List.replicate 25 kY=sh at *
 generalize (if c.room>0 then c.room else 0)=room at *
 simp only [eV,List.length_replicate] at hdn hb
 simp only [jA,Cl,FI,List.cons_append,List.nil_append] at XA hb
 rw [← hn] at hdn
 refine iU hdn rfl rfl rfl ?_
 simp only [go_sem,simprocAttr]
 refine iU XA rfl rfl rfl ?_
 simp only [bA,bN,go_sem,simprocAttr]
 refine eS [1,2,3] (hb) rfl ?_ (by decide) ?_ ?_ (by simp) ?_ <;> simp only [ah,ai,go_sem,simprocAttr,bA,bN,aP,bh]
 refine av rfl ?_
 simp only [go_sem,simprocAttr]
 refine aY [1,2,4,5,6,7] [] (fun q:Nat×aQ=>q.1≤l.length∧dO c (q.1+1) q.2) (fun q=>l.length-q.1) (XS c l) (0,x0) ?_ ⟨Nat.zero_le _,hok⟩ ?_
 ·simp only [XS,Ff,FN,FJ,aX,kK,Int.natCast_zero,go_sem,simprocAttr]
 rintro ⟨i,x⟩ ⟨hi,hx⟩
 dsimp only at hi hx
 simp only [XS,Ff,FN,FJ,aX,kK,go_sem,simprocAttr]
 by_cases hlt:i<l.length
 case neg=>
  simp only [decide_eq_false (show ¬ ((i:Nat):Int)<((l.length:Nat):Int) by omega),go_sem,simprocAttr]
 have hg:=aL (f:=EE) Cx hlt
 have hna:=DT (l.getD i Cx) (by rw [List.getD,List.getElem?_eq_getElem hlt]; exact List.getElem_mem hlt)
 generalize l.getD i Cx=a at *
 obtain ⟨ak,an,ZX,⟨o1,o2,o3,o4,o5,o6,o7⟩,am,a1,a2,a3,a4,ad⟩:=a
 simp only [EE,U6,kV,List.cons_append,List.nil_append] at hg
 dsimp only at hna
 have Ae:x.s.nodes.length≤1000:=by have:=hx.ok.right.len; omega
 have hlj:x.s.jobs.length≤1000:=by have:=hx.ok.right.jobs; omega
 have hst:=qs (G:=dI) x hx.dn Ae hlj
 have hno:=qx (G:=dI) x
 simp only [bH,dz,aX,List.cons_append,List.nil_append] at hst hno
 simp only [decide_eq_true (show ((i:Nat):Int)<((l.length:Nat):Int) by omega),hg,go_sem,simprocAttr]
 refine gy [4,6,1,7,8,2,3,5] (hst) rfl ?_ (by decide) ?_ ?_ ?_ <;> simp only [ah,ai,go_sem,simprocAttr,bA,bN,aP,bh]
 refine gy [4,6,1,7,8,2,3,5] (hno) rfl ?_ (by decide) ?_ ?_ ?_ <;> simp only [ah,ai,go_sem,simprocAttr,bA,bN,aP,bh]
 have hap:=bw.up (tu c x.s ⟨o1,o2,o3,o4,o5,o6,o7⟩) lz
 by_cases k0:ak=0
 case' pos=>
  subst k0
  obtain ⟨e,y,ZI,TA,hc⟩:=KX hx (by omega) ⟨o1,o2,o3,o4,o5,o6,o7⟩ hna
  simp only [bH,dz,aX,List.cons_append,List.nil_append] at ZI
  simp only [go_sem,simprocAttr]
  refine aK [4,6,1,7,8,2,3,5] (ZI) rfl ?_ (by decide) ?_ ?_ (by simp) ?_ <;> simp only [ah,ai,go_sem,simprocAttr,bA,bN,aP,bh]
  rcases hc with ⟨he,hA,XE,hk0⟩ | ⟨he,hys,Tz⟩
  case' inl=>
   subst he
   rw [hA] at hap
   have hF:=Bk TA XE
   dsimp only at hk0
   simp only [go_sem,simprocAttr]
  case' inr=>
   have hF:=mm TA hys Tz
   have hk0:True:=trivial
   simp only [beq_eq_false_iff_ne.2 he,go_sem,simprocAttr]
 case' neg=>
  by_cases k1:ak=1
  case' pos=>
   subst k1
   clear hap
   obtain ⟨⟨p1,p2,p3,p4,p5,p6,p7⟩,y,ms,hact,TA,hc⟩:=Hp hx (by omega) hna
   have hap:=bw.up (tu c x.s ⟨p1,p2,p3,p4,p5,p6,p7⟩) lz
   simp only [bH,dz,aX,List.cons_append,List.nil_append] at hact
   simp only [show ((1:Int)==0)=false from rfl,go_sem,simprocAttr]
   refine aK [4,6,1,7,8,2,3,5] (hact) rfl ?_ (by decide) ?_ ?_ (by simp) ?_ <;> simp only [ah,ai,go_sem,simprocAttr,bA,bN,aP,bh]
   rcases hc with ⟨hA,XE,hk0⟩ | ⟨hz,hys,Tz⟩
   case' inl=>
    rw [hA] at hap
    have hF:=Bk TA XE
    dsimp only at hk0
   case' inr=>
    cases hz
    have hF:=mm TA hys Tz
    have hk0:True:=trivial
    simp only [go_sem,simprocAttr]
  case' neg=>
   by_cases k2:ak=2
   case' pos=>
    subst k2
    have ZC:=KI (G:=dI) x hx.dn hx.ok.lines am an
    obtain ⟨TA,hys,Tz⟩:=hx.YP am hna
    have hF:=mm (TA.more (Nat.le_succ _)) hys Tz
    have hk0:True:=trivial
    generalize x.wo am an=y at *
    generalize x.Fz am=hb2 at *
    simp only [bH,dz,aX,List.cons_append,List.nil_append] at ZC
    simp only [show ((2:Int)==0)=false from rfl,show ((2:Int)==1)=false from rfl,go_sem,simprocAttr]
    refine aK [4,6,1,7,8,2,3,5] (ZC) rfl ?_ (by decide) ?_ ?_ (by simp) ?_ <;> simp only [ah,ai,go_sem,simprocAttr,bA,bN,aP,bh]
   case' neg=>
    have hF:=mm (x:=x) (hx.more (Nat.le_succ _)) rfl rfl
    have hk0:True:=trivial
    simp only [beq_eq_false_iff_ne.2 k0,beq_eq_false_iff_ne.2 k1,beq_eq_false_iff_ne.2 k2,go_sem,simprocAttr]
 all_goals
  obtain ⟨hst2,Wk,hS,hI2⟩:=hF
  simp only [bH,dz,aX,List.cons_append,List.nil_append] at hst2 Wk
  try (simp only [beq_eq_false_iff_ne.2 hk0,go_sem,simprocAttr]; (refine aC (hap) rfl rfl rfl rfl ?_; simp only [go_sem,simprocAttr]))
  refine er [4,6,1,7,8,2,3,5] (hst2) rfl ?_ (by decide) ?_ ?_ ?_ <;> simp only [ah,ai,go_sem,simprocAttr,bA,bN,aP,bh]
  refine bf (hS) rfl rfl rfl rfl ?_; simp only [go_sem,simprocAttr]
  refine er [4,6,1,7,8,2,3,5] (Wk) rfl ?_ (by decide) ?_ ?_ ?_ <;> simp only [ah,ai,go_sem,simprocAttr,bA,bN,aP,bh]
  simp only [bne_self_eq_false,go_sem,simprocAttr]
  refine bz (i+1,_) ?_ ?_ ⟨show i+1≤l.length by omega,hI2⟩ (show l.length-(i+1)<l.length-i by omega)
  ·simp only [aP,bh,go_sem,simprocAttr]
  ·simp only [aG (show i<9223372036854775807 by omega),XS,Ff,FN,FJ,aX,kK,go_sem,simprocAttr]
end Dv
namespace Dv
open Go Go.Proofs
theorem Av (c:aH) (l:List tE):bw Tryz.prog dI 7 [gK c,kK l] [] (.bool true) []:=xT Cu c l
end Dv
