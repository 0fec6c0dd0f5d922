/- The logical machine and its plain laws: parts D1, D2, proved sound. -/
import Derived.Test.YtkalnfkokkjliaaGreatDoorVD
import Derived.Test.YtkalnfkokkjliaaGreatDoorPA
import Derived.Test.YtkalnfkokkjliaaGreatDoorProg
import Derived.KernelRfl
set_option linter.unusedVariables false
set_option linter.unusedSimpArgs false
namespace Dv
open Go
def ck (n:bK):List DV:=[bl n.up,bl n.ct,bl n.bu,i64 n.version,i64 n.aN]
def dh (j:bU):List DV:=[i64 j.queue,i64 j.prio,i64 j.min,i64 j.max,i64 j.work,i64 j.pin,i64 j.phase,i64 j.inc,i64 j.nodes,i64 j.since,i64 j.til,i64 j.epoch]
def U6 (o:cH):List DV:=[i64 o.kind,i64 o.a,i64 o.b,i64 o.c,i64 o.d,i64 o.e,i64 o.f]
def kV (m:dc):List DV:=[i64 m.node,i64 m.kind,i64 m.term,i64 m.gen,i64 m.aN,i64 m.inc,i64 m.version,i64 m.epoch,i64 m.til,i64 m.mode,i64 m.work]
def bZ (l:List bK):LV:=.d (.dY 5 (l.map ck))
def dg (l:List bU):LV:=.d (.dY 12 (l.map dh))
def iu (l:List dc):LV:=.d (.dY 11 (l.map kV))
def bp (s:aa):LV:=.agg [bZ s.nodes,dg s.jobs,.int s.goal,.int s.prior,.int s.mode,.int s.term]
def vP (n:bK):LV:=.agg [.bool n.up,.bool n.ct,.bool n.bu,.int n.version,.int n.aN]
def zW (j:bU):LV:=.agg [.int j.queue,.int j.prio,.int j.min,.int j.max,.int j.work,.int j.pin,.int j.phase,.int j.inc,.int j.nodes,.int j.since,.int j.til,.int j.epoch]
def uN (o:cH):LV:=.agg [.int o.kind,.int o.a,.int o.b,.int o.c,.int o.d,.int o.e,.int o.f]
def vU (m:dc):LV:=.agg [.int m.node,.int m.kind,.int m.term,.int m.gen,.int m.aN,.int m.inc,.int m.version,.int m.epoch,.int m.til,.int m.mode,.int m.work]
def gK (c:aH):LV:=.agg [.int c.nodes,.int c.bG,.int c.cD,.int c.wave,.int c.b_,.int c.eE,.int c.deadline,.int c.room,.int c.fG]
theorem qE (n:Nat) (h:n<9223372036854775808):IntKind.i64.wrap (n:Int)=n:=aO (by omega) (by omega)
theorem Ct (x:Int) (j:Nat) (hj:j<63):rY .i64 x ((2 ^ j-1:Nat):Int)=x % (2 ^ j:Nat):=by
 have hp:2 ^ j<2 ^ 63:=Nat.pow_lt_pow_right (by omega) hj
 have h0:0<2 ^ j:=Nat.two_pow_pos j
 have e:rY .i64 x ((2 ^ j-1:Nat):Int)=IntKind.i64.wrap ((BitVec.ofInt 64 x&&& BitVec.ofInt 64 ((2 ^ j-1:Nat):Int)).toNat:Int):=rfl
 rw [e,BitVec.toNat_and]
 have e2:(BitVec.ofInt 64 ((2 ^ j-1:Nat):Int)).toNat=2 ^ j-1:=by
  rw [BitVec.ofInt_natCast,BitVec.toNat_ofNat]; apply Nat.mod_eq_of_lt; omega
 rw [e2,Nat.and_two_pow_sub_one_eq_mod]
 have e3:(BitVec.ofInt 64 x).toNat % 2 ^ j<2 ^ j:=Nat.mod_lt _ h0
 rw [qE _ (by omega)]
 rw [BitVec.toNat_ofInt]
 have e4:((x % (2 ^ 64:Nat)).toNat:Int)=x % (2 ^ 64:Nat):=Int.toNat_of_nonneg (Int.emod_nonneg _ (by decide))
 have e5:(((x % (2 ^ 64:Nat)).toNat % 2 ^ j:Nat):Int)=x % (2 ^ 64:Nat) % (2 ^ j:Nat):=by
  rw [Int.natCast_emod,e4]
 rw [e5]
 apply Int.emod_emod_of_dvd
 exact Int.natCast_dvd_natCast.2 (Nat.pow_dvd_pow 2 (by omega))
theorem AB (x:Int):rY .i64 x 1=x % 2:=Ct x 1 (by omega)
theorem Ug (x:Int):rY .i64 x 63=x % 64:=Ct x 6 (by omega)
theorem fdiv_pow (n:Int) (k:Nat):n.fdiv (2 ^ k)=n / 2 ^ k:=Int.fdiv_eq_ediv_of_nonneg _ (Int.le_of_lt (by exact Int.pow_pos (by decide)))
theorem zn (n:Int) (i:Nat) (hi:i<64):sG .i64 n i=n / 2 ^ i:=by
 unfold sG
 rw [Int.toNat_natCast,show Nat.min i IntKind.i64.bits=i from Nat.min_eq_left (by show i≤64; omega),fdiv_pow]
theorem qN (k:Nat) (hk:k≤6):zo .i64 1 k=2 ^ k:=by
 have hp:(2:Int) ^ k≤64∧1≤(2:Int) ^ k:=by
  have:k=0∨k=1∨k=2∨k=3∨k=4∨k=5∨k=6:=by omega
  rcases this with h | h | h | h | h | h | h <;> rw [h] <;> decide
 unfold zo
 rw [Int.toNat_natCast,show Nat.min k IntKind.i64.bits=k from Nat.min_eq_left (by show k≤64; omega),Int.one_mul,aO (by omega) (by omega)]
theorem Ex (n:Int) (i:Nat) (hi:i<64):(rY .i64 (sG .i64 n i) 1==1)=hasB n i:=by
 rw [AB,zn n i hi]; unfold hasB; rw [Bool.eq_iff_iff]; simp
theorem FQ (n:Int) (i:Nat) (hi:i<64):(rY .i64 (sG .i64 n i) 1==0) = !hasB n i:=by
 rw [AB,zn n i hi]; unfold hasB; rw [Bool.eq_iff_iff]; simp; omega
attribute [go_sem] fM Xc W9 Um Xa Up Pr Pu Xe Xb Un Us Xh Xi Ut Zd Uk W8 Ul Ih Lr Pt Ls Sr Sv Ss Su Zh Lt Lw Lu Lv Xf Pv Lx Zf W7 Ze W6 Wy YS rX Uq Pw cB eU getM xG bytesOf bR.ev bx dU Pm LV.int LV.bool SA LV.cells LV.Pz LV.pM splice pF rowsOf rW aU fN aB eN.owned CE St.get St.obj St.put Value.oneCell' Ends de Ad.ap isNil St.keep St.zH PM dZ ej ei xA.of RV.of aW CD Ij fF rn lU fc bB dH CI fK Option.map_some Option.map_none List.append_nil List.nil_append List.cons_append List.map_nil List.map_cons List.length_nil List.length_cons List.set_cons_zero List.set_cons_succ List.take_succ_cons List.take_zero List.take_nil List.drop_succ_cons List.drop_zero List.drop_nil List.getElem?_cons_zero List.getElem?_cons_succ List.getElem?_nil List.isEmpty_nil List.isEmpty_cons List.all_cons List.all_nil List.isEmpty_nil cond_true cond_false Bool.true_and Bool.false_and Bool.and_true Bool.and_false Bool.not_true Bool.not_false Bool.or_true Bool.true_or Bool.or_false Bool.false_or true_and and_true true_or or_true Option.some.injEq LV.d.injEq DV.val.injEq Value.bool.injEq Value.int.injEq decide_true decide_false and_self Nat.zero_add Nat.add_zero if_true if_false Int.toNat_zero beq_self_eq_true Nat.zero_lt_succ Int.toNat_natCast Int.natCast_nonneg List.length_map i64 bl List.zip_cons_cons List.zip_nil_left List.zip_nil_right CE gK bp vP zW bZ dg uN vU ck dh U6 kV gh gO iu qo qm qg qd qe qn ql qf qt qk q0
end Dv
namespace Dv
open Go Go.Proofs
variable {G:Nat→Option (List DV)}
def RZ:Nat×C×List RV:=(15,
(.seq (.af [qo 6 (.mv qf)])
 (.seq (.af [qm 7 0,
 qm 8 1,
 qo 9 (.bin .geq (.t 7) (.t 8)),
 qm 10 9,
 qg 11 (.mv (.t 0)) 10 true,
 qg 12 (.mv (.t 2)) 10 true,
 qg 13 (.bin .leq (.t 11) (.t 12)) 10 true,
 qo 14 (.pick (.t 10) (.t 13) qf),
 qm 6 14])
 .ret)),
[(.t 6)])
theorem OD:aq Tryz.prog Tryz.f112=some RZ:=by kernel_rfl
def Vu:Nat×C×List RV:=(46,
(.seq (.af [qo 1 (.box 23 (.t 0)),
 qo 2 (.mv qf)])
 (.seq (.af [qo 3 (.aj 0 (.t 1)),
 qo 4 (.ld1 (.t 3)),
 qo 5 (.call (.f 112) [(.t 4),(qk 1),(qk 6)]),
 qm 6 5,
 qg 7 (.aj 1 (.t 1)) 6 true,
 qg 8 (.ld1 (.t 7)) 6 true,
 qg 9 (.call (.f 112) [(.t 8),(qk 1),(qk 3)]) 6 true,
 qo 10 (.pick (.t 6) (.t 9) qf),
 qm 11 10,
 qg 12 (.aj 2 (.t 1)) 11 true,
 qg 13 (.ld1 (.t 12)) 11 true,
 qg 14 (.call (.f 112) [(.t 13),(qk 0),(qk 4)]) 11 true,
 qo 15 (.pick (.t 11) (.t 14) qf),
 qm 16 15,
 qg 17 (.aj 3 (.t 1)) 16 true,
 qg 18 (.ld1 (.t 17)) 16 true,
 qg 19 (.call (.f 112) [(.t 18),(qk 1),(qk 6)]) 16 true,
 qo 20 (.pick (.t 16) (.t 19) qf),
 qm 21 20,
 qg 22 (.aj 4 (.t 1)) 21 true,
 qg 23 (.ld1 (.t 22)) 21 true,
 qg 24 (.call (.f 112) [(.t 23),(qk 2),(qk 30)]) 21 true,
 qo 25 (.pick (.t 21) (.t 24) qf),
 qm 26 25,
 qg 27 (.aj 5 (.t 1)) 26 true,
 qg 28 (.ld1 (.t 27)) 26 true,
 qg 29 (.call (.f 112) [(.t 28),(qk 1),(qk 20)]) 26 true,
 qo 30 (.pick (.t 26) (.t 29) qf),
 qm 31 30,
 qg 32 (.aj 6 (.t 1)) 31 true,
 qg 33 (.ld1 (.t 32)) 31 true,
 qg 34 (.call (.f 112) [(.t 33),(qk 1),(qk 60)]) 31 true,
 qo 35 (.pick (.t 31) (.t 34) qf),
 qm 36 35,
 qg 37 (.aj 7 (.t 1)) 36 true,
 qg 38 (.ld1 (.t 37)) 36 true,
 qg 39 (.call (.f 112) [(.t 38),(qk 0),(qk 5000)]) 36 true,
 qo 40 (.pick (.t 36) (.t 39) qf),
 qm 41 40,
 qg 42 (.aj 8 (.t 1)) 41 true,
 qg 43 (.ld1 (.t 42)) 41 true,
 qg 44 (.call (.f 112) [(.t 43),(qk 2000),(qk 40000)]) 41 true,
 qo 45 (.pick (.t 41) (.t 44) qf),
 qm 2 45])
 .ret)),
[(.t 2)])
theorem Te:aq Tryz.prog Tryz.f64=some Vu:=by kernel_rfl
def QZ:Nat×C×List RV:=(10,
(.seq (.af [qo 1 (.box 30 (.t 0)),
 qo 2 (.mv (qk 0))])
 (.seq (.seq (.af [qo 3 (.aj 4 (.t 1)),
 qo 4 (.ld1 (.t 3)),
 qo 5 (.bin .eql (.t 4) (qk 2))])
 (.cond (.t 5) (.seq (.af [qo 6 (.aj 3 (.t 1)),
 qo 7 (.ld1 (.t 6)),
 qm 2 7])
 .ret)
 .skip))
 (.seq (.af [qo 8 (.aj 2 (.t 1)),
 qo 9 (.ld1 (.t 8)),
 qm 2 9])
 .ret))),
[(.t 2)])
theorem Nu:aq Tryz.prog Tryz.f220=some QZ:=by kernel_rfl
def Re:Nat×C×List RV:=(40,
(.seq (.af [qo 2 (.box 23 (.t 0)),
 qo 3 (.box 119 (.t 1)),
 qo 4 (.mv qf)])
 (.seq (.af [qo 5 (.aj 0 (.t 3)),
 qo 6 (.ld1 (.t 5)),
 qo 7 (.aj 1 (.t 2)),
 qo 8 (.ld1 (.t 7)),
 qo 9 (.bin .sub (.t 8) (qk 1)),
 qo 10 (.call (.f 112) [(.t 6),(qk 0),(.t 9)]),
 qm 11 10,
 qg 12 (.aj 1 (.t 3)) 11 true,
 qg 13 (.ld1 (.t 12)) 11 true,
 qg 14 (.call (.f 112) [(.t 13),(qk 0),(qk 9)]) 11 true,
 qo 15 (.pick (.t 11) (.t 14) qf),
 qm 16 15,
 qg 17 (.aj 2 (.t 3)) 16 true,
 qg 18 (.ld1 (.t 17)) 16 true,
 qg 19 (.aj 3 (.t 3)) 16 true,
 qg 20 (.ld1 (.t 19)) 16 true,
 qg 21 (.call (.f 112) [(.t 18),(qk 1),(.t 20)]) 16 true,
 qo 22 (.pick (.t 16) (.t 21) qf),
 qm 23 22,
 qg 24 (.aj 3 (.t 3)) 23 true,
 qg 25 (.ld1 (.t 24)) 23 true,
 qg 26 (.aj 0 (.t 2)) 23 true,
 qg 27 (.ld1 (.t 26)) 23 true,
 qg 28 (.call (.f 112) [(.t 25),(qk 1),(.t 27)]) 23 true,
 qo 29 (.pick (.t 23) (.t 28) qf),
 qm 30 29,
 qg 31 (.aj 4 (.t 3)) 30 true,
 qg 32 (.ld1 (.t 31)) 30 true,
 qg 33 (.call (.f 112) [(.t 32),(qk 1),(qk 1000)]) 30 true,
 qo 34 (.pick (.t 30) (.t 33) qf),
 qm 35 34,
 qg 36 (.aj 5 (.t 3)) 35 true,
 qg 37 (.ld1 (.t 36)) 35 true,
 qg 38 (.call (.f 112) [(.t 37),(qk 0),(qk 9)]) 35 true,
 qo 39 (.pick (.t 35) (.t 38) qf),
 qm 4 39])
 .ret)),
[(.t 4)])
theorem NG:aq Tryz.prog Tryz.f194=some Re:=by kernel_rfl
def Rc:Nat×C×List RV:=(13,
(.seq (.af [qo 2 (.mv qf)])
 (.seq (.af [qm 3 0,
 qo 4 (.bin .eql (.t 3) (qk 1)),
 qm 5 4,
 qg 6 (.mv (.t 0)) 5 false,
 qg 7 (.bin .eql (.t 6) (qk 2)) 5 false,
 qo 8 (.pick (.t 5) qt (.t 7)),
 qm 9 8,
 qg 10 (.mv (.t 0)) 9 false,
 qg 11 (.bin .eql (.t 10) (qk 3)) 9 false,
 qo 12 (.pick (.t 9) qt (.t 11)),
 qm 2 12])
 .ret)),
[(.t 2)])
theorem NF:aq Tryz.prog Tryz.f195=some Rc:=by kernel_rfl
def Rb:Nat×C×List RV:=(17,
(.seq (.af [qo 2 (.box 102 (.t 0)),
 qo 3 (.mv qf)])
 (.seq (.af [qo 4 (.aj 0 (.t 2)),
 qo 5 (.ld1 (.t 4)),
 qm 6 5,
 qg 7 (.aj 2 (.t 2)) 6 true,
 qg 8 (.ld1 (.t 7)) 6 true,
 qg 9 (.not (.t 8)) 6 true,
 qo 10 (.pick (.t 6) (.t 9) qf),
 qm 11 10,
 qg 12 (.aj 4 (.t 2)) 11 true,
 qg 13 (.ld1 (.t 12)) 11 true,
 qg 14 (.ld1 (.t 1)) 11 true,
 qg 15 (.bin .eql (.t 13) (.t 14)) 11 true,
 qo 16 (.pick (.t 11) (.t 15) qf),
 qm 3 16])
 .ret)),
[(.t 3)])
theorem ND:aq Tryz.prog Tryz.f197=some Rb:=by kernel_rfl
def Qy:Nat×C×List RV:=(35,
(.seq (.af [qo 2 (.mv (qk 0))])
 (.seq (.af [qm 3 0,
 qo 4 (.bin .shr (.t 3) (.c (.val (.int .u64 1)))),
 qo 5 (.bin .and (.t 4) (.c (.val (.int .u64 6148914691236517205)))),
 qm 6 0,
 qo 7 (.bin .and (.t 6) (.c (.val (.int .u64 6148914691236517205)))),
 qo 8 (.bin .add (.t 5) (.t 7)),
 qm 0 8])
 (.seq (.af [qm 9 0,
 qo 10 (.bin .shr (.t 9) (.c (.val (.int .u64 2)))),
 qo 11 (.bin .and (.t 10) (.c (.val (.int .u64 3689348814741910323)))),
 qm 12 0,
 qo 13 (.bin .and (.t 12) (.c (.val (.int .u64 3689348814741910323)))),
 qo 14 (.bin .add (.t 11) (.t 13)),
 qm 0 14])
 (.seq (.af [qm 15 0,
 qo 16 (.bin .shr (.t 15) (.c (.val (.int .u64 4)))),
 qm 17 0,
 qo 18 (.bin .add (.t 16) (.t 17)),
 qo 19 (.bin .and (.t 18) (.c (.val (.int .u64 1085102592571150095)))),
 qm 0 19])
 (.seq (.af [qm 20 0,
 qm 21 0,
 qo 22 (.bin .shr (.t 21) (.c (.val (.int .u64 8)))),
 qo 23 (.bin .add (.t 20) (.t 22)),
 qm 0 23])
 (.seq (.af [qm 24 0,
 qm 25 0,
 qo 26 (.bin .shr (.t 25) (.c (.val (.int .u64 16)))),
 qo 27 (.bin .add (.t 24) (.t 26)),
 qm 0 27])
 (.seq (.af [qm 28 0,
 qm 29 0,
 qo 30 (.bin .shr (.t 29) (.c (.val (.int .u64 32)))),
 qo 31 (.bin .add (.t 28) (.t 30)),
 qm 0 31])
 (.seq (.af [qm 32 0,
 qo 33 (.y2 .i64 (.t 32)),
 qo 34 (.bin .and (.t 33) (qk 127)),
 qm 2 34])
 .ret)))))))),
[(.t 2)])
theorem M6:aq Tryz.prog Tryz.f266=some Qy:=by kernel_rfl
def QV:Nat×C×List RV:=(8,
(.seq (.af [qo 2 (.mv (qk 0))])
 (.seq (.cond qf (.seq (.af [qm 3 0,
 qo 4 (.y2 .u32 (.t 3)),
 qo 5 (.call (.f 265) [(.t 4)]),
 qm 2 5])
 .ret)
 .skip)
 (.seq (.af [qm 6 0,
 qo 7 (.call (.f 266) [(.t 6)]),
 qm 2 7])
 .ret))),
[(.t 2)])
theorem Nq:aq Tryz.prog Tryz.f224=some QV:=by kernel_rfl
def Qc:Nat×C×List RV:=(7,
(.seq (.af [qo 2 (.mv (qk 0))])
 (.seq (.af [qm 3 0,
 qo 4 (.bin .and (.t 3) (qk 63)),
 qo 5 (.y2 .u64 (.t 4)),
 qo 6 (.call (.f 224) [(.t 5)]),
 qm 2 6])
 .ret)),
[(.t 2)])
theorem MJ:aq Tryz.prog Tryz.f310=some Qc:=by kernel_rfl
theorem ez (n lo hi:Int):bw Tryz.prog G 112 [.int n,.int lo,.int hi] [] (.bool (bF n lo hi)) []:=by
 refine bn Tryz.func112 (by decide) OD rfl rfl ?_
 simp only [RZ,go_sem,simprocAttr]
 have e:bF n lo hi=(decide (n≥lo)&&decide (n≤hi)):=by unfold bF; rw [Bool.decide_and]
 rw [e]
 (first | with_reducible refine dN (fun h=>?_) (fun h=>?_) | refine cN (fun h=>?_) (fun h=>?_)) <;> simp only [h,go_sem,simprocAttr]
theorem iE (s:aa):bw Tryz.prog G 220 [bp s] [] (.int (fk s)) []:=by
 refine bn Tryz.func220 (by decide) Nu rfl rfl ?_
 simp only [QZ,go_sem,simprocAttr]
 unfold fk
 refine bg (fun h=>?_) (fun h=>?_) <;> simp only [h,go_sem,simprocAttr] <;> (try simp only [beq_iff_eq,beq_eq_false_iff_ne,ne_eq] at h) <;> simp only [h,go_sem,simprocAttr]
theorem zT (c:aH):bw Tryz.prog G 64 [gK c] [] (.bool (gL c)) []:=by
 refine bn Tryz.func64 (by decide) Te rfl rfl ?_
 simp only [Vu,go_sem,simprocAttr]
 unfold gL
 repeat' (first
  | (refine aC (ez _ _ _) rfl rfl rfl rfl ?_; simp only [go_sem,simprocAttr])
  | ((first | with_reducible refine dN (fun h=>?_) (fun h=>?_) | refine cN (fun h=>?_) (fun h=>?_)) <;> simp only [h,go_sem,simprocAttr]))
theorem y_ (c:aH) (j:bU) (h0:1≤c.bG∧c.bG≤1000):bw Tryz.prog G 194 [gK c,zW j] [] (.bool (jX c j)) []:=by
 refine bn Tryz.func194 (by decide) NG rfl rfl ?_
 simp only [Re,go_sem,simprocAttr]
 have hw:IntKind.i64.wrap (c.bG-1)=c.bG-1:=aO (by omega) (by omega)
 simp only [hw]
 unfold jX
 repeat' (first
  | (refine aC (ez _ _ _) rfl rfl rfl rfl ?_; simp only [go_sem,simprocAttr])
  | ((first | with_reducible refine dN (fun h=>?_) (fun h=>?_) | refine cN (fun h=>?_) (fun h=>?_)) <;> simp only [h,go_sem,simprocAttr]))
theorem Di (p:Int):bw Tryz.prog G 195 [.int p] [] (.bool (dW p)) []:=by
 refine bn Tryz.func195 (by decide) NF rfl rfl ?_
 simp only [Rc,go_sem,simprocAttr]
 have e:dW p=((p==1)||((p==2)||(p==3))):=by unfold dW; rw [Bool.eq_iff_iff]; simp
 rw [e]
 repeat' ((first | with_reducible refine dN (fun h=>?_) (fun h=>?_) | refine cN (fun h=>?_) (fun h=>?_)) <;> simp only [h,go_sem,simprocAttr])
theorem CV (n:bK) (number:Int):bw Tryz.prog G 197 [vP n,.ptr 0 0] [.box 3 [.int number]] (.bool (iV number n)) [.box 3 [.int number]]:=by
 refine CS Tryz.func197 (by decide) ND rfl rfl rfl rfl ?_
 simp only [Rb,go_sem,simprocAttr]
 have e:iV number n=(n.up&&(!n.bu&&(n.aN==number))):=by unfold iV; rw [Bool.eq_iff_iff]; simp [and_assoc]
 rw [e]
 repeat' ((first | with_reducible refine dN (fun h=>?_) (fun h=>?_) | refine cN (fun h=>?_) (fun h=>?_)) <;> simp only [h,go_sem,simprocAttr])
theorem Dq (n:Nat) (hn:n<64):bw Tryz.prog G 266 [.d (.val (.int .u64 n))] [] (.int (many n)) []:=by
 refine bn Tryz.func266 (by decide) M6 rfl rfl ?_
 simp only [Qy,go_sem,simprocAttr]
 revert n
 decide +kernel
theorem rq (n:Nat) (hn:n<64):bw Tryz.prog G 224 [.d (.val (.int .u64 n))] [] (.int (many n)) []:=by
 refine bn Tryz.func224 (by decide) Nq rfl rfl ?_
 simp only [QV,go_sem,simprocAttr]
 refine aC (Dq n hn) rfl rfl rfl rfl ?_; simp only [go_sem,simprocAttr]
theorem oJ (n:Int):bw Tryz.prog G 310 [.int n] [] (.int (many (n % 64))) []:=by
 refine bn Tryz.func310 (by decide) MJ rfl rfl ?_
 simp only [Qc,go_sem,simprocAttr]
 obtain ⟨m,hm⟩:=Int.eq_ofNat_of_zero_le (Int.emod_nonneg n (show (64:Int)≠0 by decide))
 have hl:m<64:=by omega
 have hw:IntKind.u64.wrap (m:Int)=m:=by simp [IntKind.wrap,IntKind.bits,IntKind.signed]; omega
 simp only [Ug,hm,hw]
 refine aC (rq m hl) rfl rfl rfl rfl ?_; simp only [go_sem,simprocAttr]
end Dv
