/- part -/
import Derived.Test.YtkalnfkokkjliaaGreatDoorVD
import Derived.Test.YtkalnfkokkjliaaGreatDoorPA
import Derived.Test.YtkalnfkokkjliaaGreatDoorProg
import Derived.KernelRfl
set_option linter.all false
set_option maxRecDepth 100000
namespace Dv
open Go
def bX (n:a_):List DV:=[bl n.up,bl n.cF,bl n.bw,i64 n.version,i64 n.aM]
def dF (j:bP):List DV:=[i64 j.queue,i64 j.prio,i64 j.min,i64 j.max,i64 j.work,i64 j.pin,i64 j.phase,i64 j.inc,i64 j.nodes,i64 j.since,i64 j.til,i64 j.epoch]
def NY (o:bT):List DV:=[i64 o.kind,i64 o.a,i64 o.b,i64 o.c,i64 o.d,i64 o.e,i64 o.f]
def rK (m:eH):List DV:=[i64 m.node,i64 m.kind,i64 m.term,i64 m.gen,i64 m.aM,i64 m.inc,i64 m.version,i64 m.epoch,i64 m.til,i64 m.mode,i64 m.work]
def bS (l:List a_):LV:=.d (.dK 5 (l.map bX))
def de (l:List bP):LV:=.d (.dK 12 (l.map dF))
def jr (l:List eH):LV:=.d (.dK 11 (l.map rK))
def aY (s:aa):LV:=.agg [bS s.nodes,de s.jobs,.int s.goal,.int s.prior,.int s.mode,.int s.term]
def zq (n:a_):LV:=.agg [.bool n.up,.bool n.cF,.bool n.bw,.int n.version,.int n.aM]
def Dg (j:bP):LV:=.agg [.int j.queue,.int j.prio,.int j.min,.int j.max,.int j.work,.int j.pin,.int j.phase,.int j.inc,.int j.nodes,.int j.since,.int j.til,.int j.epoch]
def tA (o:bT):LV:=.agg [.int o.kind,.int o.a,.int o.b,.int o.c,.int o.d,.int o.e,.int o.f]
def EY (m:eH):LV:=.agg [.int m.node,.int m.kind,.int m.term,.int m.gen,.int m.aM,.int m.inc,.int m.version,.int m.epoch,.int m.til,.int m.mode,.int m.work]
def fN (c:aB):LV:=.agg [.int c.nodes,.int c.bI,.int c.cH,.int c.iN,.int c.cr,.int c.eZ,.int c.deadline,.int c.room,.int c.gX]
theorem tC (n:Nat) (h:n<9223372036854775808):IntKind.i64.wrap (n:Int)=n:=aL (by omega) (by omega)
theorem F8 (x:Int) (j:Nat) (hj:j<63):qL .i64 x ((2 ^ j-1:Nat):Int)=x % (2 ^ j:Nat):=by
 have hp:2 ^ j<2 ^ 63:=Nat.pow_lt_pow_right (by omega) hj
 have h0:0<2 ^ j:=Nat.two_pow_pos j
 have e:qL .i64 x ((2 ^ j-1:Nat):Int)=IntKind.i64.wrap ((BitVec.ofInt 64 x&&& BitVec.ofInt 64 ((2 ^ j-1:Nat):Int)).toNat:Int):=rfl
 rw [e,BitVec.toNat_and]
 have e2:(BitVec.ofInt 64 ((2 ^ j-1:Nat):Int)).toNat=2 ^ j-1:=by
  rw [BitVec.ofInt_natCast,BitVec.toNat_ofNat]; apply Nat.mod_eq_of_lt; omega
 rw [e2,Nat.and_two_pow_sub_one_eq_mod]
 have e3:(BitVec.ofInt 64 x).toNat % 2 ^ j<2 ^ j:=Nat.mod_lt _ h0
 rw [tC _ (by omega)]
 rw [BitVec.toNat_ofInt]
 have e4:((x % (2 ^ 64:Nat)).toNat:Int)=x % (2 ^ 64:Nat):=Int.toNat_of_nonneg (Int.emod_nonneg _ (by decide))
 have e5:(((x % (2 ^ 64:Nat)).toNat % 2 ^ j:Nat):Int)=x % (2 ^ 64:Nat) % (2 ^ j:Nat):=by
  rw [Int.natCast_emod,e4]
 rw [e5]
 apply Int.emod_emod_of_dvd
 exact Int.natCast_dvd_natCast.2 (Nat.pow_dvd_pow 2 (by omega))
theorem DL (x:Int):qL .i64 x 1=x % 2:=F8 x 1 (by omega)
theorem Z6 (x:Int):qL .i64 x 63=x % 64:=F8 x 6 (by omega)
theorem fdiv_pow (n:Int) (k:Nat):n.fdiv (2 ^ k)=n / 2 ^ k:=Int.fdiv_eq_ediv_of_nonneg _ (Int.le_of_lt (by exact Int.pow_pos (by decide)))
theorem CG (n:Int) (i:Nat) (hi:i<64):vC .i64 n i=n / 2 ^ i:=by
 unfold vC
 rw [Int.toNat_natCast,show Nat.min i IntKind.i64.bits=i from Nat.min_eq_left (by show i≤64; omega),fdiv_pow]
theorem tM (k:Nat) (hk:k≤6):CH .i64 1 k=2 ^ k:=by
 have hp:(2:Int) ^ k≤64∧1≤(2:Int) ^ k:=by
  have:k=0∨k=1∨k=2∨k=3∨k=4∨k=5∨k=6:=by omega
  rcases this with h | h | h | h | h | h | h <;> rw [h] <;> decide
 unfold CH
 rw [Int.toNat_natCast,show Nat.min k IntKind.i64.bits=k from Nat.min_eq_left (by show k≤64; omega),Int.one_mul,aL (by omega) (by omega)]
theorem II (n:Int) (i:Nat) (hi:i<64):(qL .i64 (vC .i64 n i) 1==1)=hasB n i:=by
 rw [DL,CG n i hi]; unfold hasB; rw [Bool.eq_iff_iff]; simp
theorem Kg (n:Int) (i:Nat) (hi:i<64):(qL .i64 (vC .i64 n i) 1==0) = !hasB n i:=by
 rw [DL,CG n i hi]; unfold hasB; rw [Bool.eq_iff_iff]; simp; omega
attribute [go_sem] fm ab8 ab5 aaf ab6 aai Vc Ve ab_ adi ab4 ab7 aag aal ace acf aam ade aad ab3 aae MQ Qy Vd Qz Yj Ym Yk Yl adj QA QE QB QC acd Vf QF adg ab2 adf ab1 Wy YS su aaj Vg cE fA getM AW bytesOf bM.ev aW dU U6 LV.int LV.bool Ys LV.cells LV.Vl LV.pL splice sn rowsOf uZ zh qC aV fH au eV.owned EK St.get St.obj St.put Value.oneCell' Ends c_ Ad.ap isNil St.keep St.CZ Vt eB eu dV yf.of RV.of aP Gg MS gh rn mw ff bu d_ Gk gB Option.map_some Option.map_none List.append_nil List.nil_append List.cons_append List.map_nil List.map_cons List.length_nil List.length_cons List.set_cons_zero List.set_cons_succ List.take_succ_cons List.take_zero List.take_nil List.drop_succ_cons List.drop_zero List.drop_nil List.getElem?_cons_zero List.getElem?_cons_succ List.getElem?_nil List.isEmpty_nil List.isEmpty_cons List.all_cons List.all_nil List.isEmpty_nil cond_true cond_false Bool.true_and Bool.false_and Bool.and_true Bool.and_false Bool.not_true Bool.not_false Bool.or_true Bool.true_or Bool.or_false Bool.false_or true_and and_true true_or or_true Option.some.injEq LV.d.injEq DV.val.injEq Value.bool.injEq Value.int.injEq decide_true decide_false and_self Nat.zero_add Nat.add_zero if_true if_false Int.toNat_zero beq_self_eq_true Nat.zero_lt_succ Int.toNat_natCast Int.natCast_nonneg List.length_map i64 bl List.zip_cons_cons List.zip_nil_left List.zip_nil_right EK fN aY zq Dg bS de tA EY bX dF NY rK cU jQ jr qo qm qg qd qe qn ql qf qt qk q0
namespace Qq
def d :TypeInfo:=default
def i (d:TypeDesc)(s b:Nat)(z:Value):TypeInfo:={(default:TypeInfo)with desc:=d,size:=s,bytes:=b,zero:=some z}
def g (t o:Nat):Field:=.mk "" t o false "" "" 0
def z :Value:=.int .i64 0
def f :Value:=.bool false
def s :Value:=.string ⟨#[]⟩
def p :Value:=.pointer none
def l :Value:=.slice none 0 0
def P:=i (.pointer 0) 1 8 p
def L (e:Nat):=i (.slice e) 1 24 l
def N (k:IntKind)(b:Nat):=i (.int k) 1 b (.int k 0)
def F:=i (.func #[] #[] false) 1 8 .nilFunc
def R (a:Array Field)(b:Nat)(v:List Value):=i (.struct a) v.length b (.agg v.toArray)
def Y (n e b:Nat)(v:List Value):=i (.array n e) v.length b (.agg v.toArray)
def Q :Program:={(default:Program)with follow:=[.mixedOrders],types:=#[d,d,d,N .i64 8,i (.bool) 1 1 f,N .u8 1,d,d,d,i (.string) 1 16 s,d,d,d,d,d,d,d,d,d,d,d,d,d,R #[g 3 0,g 3 1,g 3 2,g 3 3,g 3 4,g 3 5,g 3 6,g 3 7,g 3 8] 72 [z,z,z,z,z,z,z,z,z],L 37,d,d,L 102,L 119,d,R #[g 27 0,g 28 1,g 3 2,g 3 3,g 3 4,g 3 5] 80 [l,l,z,z,z,z],d,d,R #[g 3 0,g 30 1,g 24 7] 112 [z,l,l,z,z,z,z,l],d,d,d,R #[g 3 0,g 3 1,g 3 2,g 3 3,g 3 4,g 3 5,g 3 6] 56 [z,z,z,z,z,z,z],d,d,d,d,L 3,d,d,N .i64 8,d,d,d,d,d,L 65,P,d,P,d,P,L 5,L 57,d,d,P,d,d,d,R #[g 3 0,g 3 1,g 57 2] 40 [z,z,l],d,d,P,d,P,d,P,d,d,d,d,d,d,L 200,d,R #[g 23 0,g 54 9,g 61 10,g 70 11,g 30 12,g 79 18,g 3 19] 208 [z,z,z,z,z,z,z,z,z,p,p,p,l,l,z,z,z,z,l,z],d,d,L 91,d,d,R #[g 3 0,g 3 1,g 3 2,g 3 3,g 3 4,g 3 5,g 3 6,g 3 7,g 3 8,g 3 9,g 3 10] 88 [z,z,z,z,z,z,z,z,z,z,z],d,R #[g 3 0,g 3 1,g 3 2,g 3 3,g 57 4] 56 [z,z,z,z,l],d,R #[g 3 0,g 3 1,g 3 2,g 37 3,g 87 10,g 89 21] 224 [z,z,z,z,z,z,z,z,z,z,z,z,z,z,z,z,z,z,z,z,z,z,z,z,z,l],d,d,L 87,d,d,d,d,d,d,d,R #[g 4 0,g 4 1,g 4 2,g 3 3,g 3 4] 24 [f,f,f,z,z],d,d,d,d,d,d,d,L 225,d,R #[g 3 0,g 3 1,g 110 2,g 3 3] 48 [z,z,l,z],d,d,d,d,d,d,R #[g 3 0,g 3 1,g 3 2,g 3 3,g 3 4,g 3 5,g 3 6,g 3 7,g 3 8,g 3 9,g 3 10,g 3 11] 96 [z,z,z,z,z,z,z,z,z,z,z,z],d,d,d,N .u64 8,d,d,d,d,d,d,P,P,d,R #[g 23 0,g 30 9,g 37 15,g 130 22,g 131 23] 224 [z,z,z,z,z,z,z,z,z,l,l,z,z,z,z,z,z,z,z,z,z,z,p,p],F,d,R #[g 134 0,g 4 1,g 4 2] 16 [.nilFunc,f,f],Y 22 136 352 [.nilFunc,f,f,.nilFunc,f,f,.nilFunc,f,f,.nilFunc,f,f,.nilFunc,f,f,.nilFunc,f,f,.nilFunc,f,f,.nilFunc,f,f,.nilFunc,f,f,.nilFunc,f,f,.nilFunc,f,f,.nilFunc,f,f,.nilFunc,f,f,.nilFunc,f,f,.nilFunc,f,f,.nilFunc,f,f,.nilFunc,f,f,.nilFunc,f,f,.nilFunc,f,f,.nilFunc,f,f,.nilFunc,f,f,.nilFunc,f,f],d,d,d,d,d,L 227,d,d,d,d,R #[g 145 0,g 146 0,g 2 0] 8 [z],d,R #[g 57 0,g 143 1,g 148 2] 56 [l,l,z],d,R #[g 57 0,g 42 1,g 57 2,g 3 3] 80 [l,l,l,z],P,d,d,P,d,d,d,R #[g 52 0,g 153 1,g 156 2,g 3 3,g 3 4] 40 [p,p,p,z,z],d,d,d,d,d,d,d,P,d,d,P,d,d,d,d,d,R #[g 168 0,g 171 1,g 3 2,g 3 3] 32 [p,p,z,z],d,R #[g 54 0,g 3 1,g 3 2,g 58 3] 48 [p,z,z,l],d,d,d,d,d,R #[g 3 0,g 57 1] 32 [z,l],d,R #[g 185 0,g 185 2] 64 [z,l,z,l],Y 25 187 1600 [z,l,z,l,z,l,z,l,z,l,z,l,z,l,z,l,z,l,z,l,z,l,z,l,z,l,z,l,z,l,z,l,z,l,z,l,z,l,z,l,z,l,z,l,z,l,z,l,z,l,z,l,z,l,z,l,z,l,z,l,z,l,z,l,z,l,z,l,z,l,z,l,z,l,z,l,z,l,z,l,z,l,z,l,z,l,z,l,z,l,z,l,z,l,z,l,z,l,z,l],d,R #[g 3 0,g 3 1,g 188 2,g 148 102] 1624 [z,z,z,l,z,l,z,l,z,l,z,l,z,l,z,l,z,l,z,l,z,l,z,l,z,l,z,l,z,l,z,l,z,l,z,l,z,l,z,l,z,l,z,l,z,l,z,l,z,l,z,l,z,l,z,l,z,l,z,l,z,l,z,l,z,l,z,l,z,l,z,l,z,l,z,l,z,l,z,l,z,l,z,l,z,l,z,l,z,l,z,l,z,l,z,l,z,l,z,l,z,l,z],d,d,L 197,d,R #[g 23 0,g 52 9,g 56 10,g 68 11,g 30 12,g 193 18,g 4 19,g 148 20] 216 [z,z,z,z,z,z,z,z,z,p,p,p,l,l,z,z,z,z,l,f,z],d,R #[g 3 0,g 4 1,g 87 2,g 3 13,g 3 14,g 87 15] 208 [z,f,z,z,z,z,z,z,z,z,z,z,z,z,z,z,z,z,z,z,z,z,z,z,z,z],d,d,R #[g 3 0,g 3 1,g 3 2,g 4 3,g 87 4,g 87 15] 208 [z,z,z,f,z,z,z,z,z,z,z,z,z,z,z,z,z,z,z,z,z,z,z,z,z,z],d,d,d,d,d,d,d,d,F,d,d,d,d,d,d,d,d,d,P,d,d,d,d,d,R #[g 3 0,g 3 1,g 4 2,g 57 3] 48 [z,z,f,l],d,R #[g 3 0,g 57 1] 32 [z,l],d,d,d,d,d,d,d,d,Y 6 3 48 [z,z,z,z,z,z],d,Y 22 3 176 [z,z,z,z,z,z,z,z,z,z,z,z,z,z,z,z,z,z,z,z,z,z],d,d,d,d,R #[g 52 0,g 3 1,g 3 2] 24 [p,z,z],d,R #[g 52 0,g 3 1,g 3 2,g 3 3] 32 [p,z,z,z],d,d,d,d,d,d,R #[g 54 0,g 3 1,g 3 2] 24 [p,z,z],d,d,d,F,d,i (.map 3 256) 1 8 (.map none),d,d,d,d,d,d,L 4,d,d,F,d,d,d,d,d,d,R #[] 0 [],d,d,d,d,d,d,R #[g 42 0] 24 [l],d,Y 22 9 352 [s,s,s,s,s,s,s,s,s,s,s,s,s,s,s,s,s,s,s,s,s,s],d,d,d,d,d,d,d,d,Y 2 4 2 [f,f],d,d,R #[g 268 0] 8 [.nilFunc],Y 3 296 24 [.nilFunc,.nilFunc,.nilFunc],d,d,d,d,d,d,d,d,d,d,d,d,d,d,d,N .u32 4,d,N .u64 8,d,d,d,d,d,d,d,F,d,d,R #[g 23 0,g 30 9,g 3 15] 160 [z,z,z,z,z,z,z,z,z,l,l,z,z,z,z,z],d,R #[g 209 0] 8 [.nilFunc],Y 3 328 24 [.nilFunc,.nilFunc,.nilFunc],d,d,d,d,d,d,d,d,d,d,d,d,Y 2 185 64 [z,l,z,l]]}
end Qq
def qx (f:Func){r:Nat×C×List RV}(h:aj Qq.Q f=some r:=by conv=>lhs;cbv):Nat×C×List RV:=r
theorem qxE (f:Func){r:Nat×C×List RV}(h:aj Qq.Q f=some r):qx f h=r:=rfl
attribute [go_sem ↓] qxE
end Dv
namespace Dv
open Go Go.Proofs
variable {G:Nat→Option (List DV)}
def XQ:=qx Tryz.f112
theorem Uf:aj Tryz.prog Tryz.f112=some XQ:=by kernel_rfl
def aaW:=qx Tryz.f64
theorem Y1:aj Tryz.prog Tryz.f64=some aaW:=by kernel_rfl
def WM:=qx Tryz.f220
theorem Tb:aj Tryz.prog Tryz.f220=some WM:=by kernel_rfl
def W4:=qx Tryz.f194
theorem To:aj Tryz.prog Tryz.f194=some W4:=by kernel_rfl
def WZ:=qx Tryz.f195
theorem Tn:aj Tryz.prog Tryz.f195=some WZ:=by kernel_rfl
def WY:=qx Tryz.f197
theorem Tm:aj Tryz.prog Tryz.f197=some WY:=by kernel_rfl
def Wh:=qx Tryz.f266
theorem SE:aj Tryz.prog Tryz.f266=some Wh:=by kernel_rfl
def WI:=qx Tryz.f224
theorem S8:aj Tryz.prog Tryz.f224=some WI:=by kernel_rfl
def VM:=qx Tryz.f310
theorem Sf:aj Tryz.prog Tryz.f310=some VM:=by kernel_rfl
theorem eW (n lo hi:Int):bh Tryz.prog G 112 [.int n,.int lo,.int hi] [] (.bool (bJ n lo hi)) []:=by
 refine bn Tryz.func112 (by decide) Uf rfl rfl ?_
 simp only [XQ,go_sem]
 have e:bJ n lo hi=(decide (n≥lo)&&decide (n≤hi)):=by unfold bJ; rw [Bool.decide_and]
 rw [e]
 (first | with_reducible refine ek (fun h=>?_) (fun h=>?_) | refine di (fun h=>?_) (fun h=>?_)) <;> simp only [h,go_sem]
theorem jH (s:aa):bh Tryz.prog G 220 [aY s] [] (.int (fM s)) []:=by
 refine bn Tryz.func220 (by decide) Tb rfl rfl ?_
 simp only [WM,go_sem]
 unfold fM
 refine bp (fun h=>?_) (fun h=>?_) <;> simp only [h,go_sem] <;> (try simp only [qqS] at h) <;> simp only [h,go_sem]
theorem x_ (c:aB):bh Tryz.prog G 64 [fN c] [] (.bool (iq c)) []:=by
 refine bn Tryz.func64 (by decide) Y1 rfl rfl ?_
 simp only [aaW,go_sem]
 unfold iq
 repeat' (first
  | (refine ax (eW _ _ _) rfl rfl rfl rfl ?_; simp only [go_sem])
  | ((first | with_reducible refine ek (fun h=>?_) (fun h=>?_) | refine di (fun h=>?_) (fun h=>?_)) <;> simp only [h,go_sem]))
theorem Co (c:aB) (j:bP) (h0:1≤c.bI∧c.bI≤1000):bh Tryz.prog G 194 [fN c,Dg j] [] (.bool (lQ c j)) []:=by
 refine bn Tryz.func194 (by decide) To rfl rfl ?_
 simp only [W4,go_sem]
 have hw:IntKind.i64.wrap (c.bI-1)=c.bI-1:=aL (by omega) (by omega)
 simp only [hw]
 unfold lQ
 repeat' (first
  | (refine ax (eW _ _ _) rfl rfl rfl rfl ?_; simp only [go_sem])
  | ((first | with_reducible refine ek (fun h=>?_) (fun h=>?_) | refine di (fun h=>?_) (fun h=>?_)) <;> simp only [h,go_sem]))
theorem GS (p:Int):bh Tryz.prog G 195 [.int p] [] (.bool (ez p)) []:=by
 refine bn Tryz.func195 (by decide) Tn rfl rfl ?_
 simp only [WZ,go_sem]
 have e:ez p=((p==1)||((p==2)||(p==3))):=by unfold ez; rw [Bool.eq_iff_iff]; simp
 rw [e]
 repeat' ((first | with_reducible refine ek (fun h=>?_) (fun h=>?_) | refine di (fun h=>?_) (fun h=>?_)) <;> simp only [h,go_sem])
theorem Gy (n:a_) (number:Int):bh Tryz.prog G 197 [zq n,.ptr 0 0] [.box 3 [.int number]] (.bool (kg number n)) [.box 3 [.int number]]:=by
 refine Cz Tryz.func197 (by decide) Tm rfl rfl rfl rfl ?_
 simp only [WY,go_sem]
 have e:kg number n=(n.up&&(!n.bw&&(n.aM==number))):=by unfold kg; rw [Bool.eq_iff_iff]; simp [and_assoc]
 rw [e]
 repeat' ((first | with_reducible refine ek (fun h=>?_) (fun h=>?_) | refine di (fun h=>?_) (fun h=>?_)) <;> simp only [h,go_sem])
theorem G5 (n:Nat) (hn:n<64):bh Tryz.prog G 266 [.d (.val (.int .u64 n))] [] (.int (many n)) []:=by
 refine bn Tryz.func266 (by decide) SE rfl rfl ?_
 simp only [Wh,go_sem]
 revert n
 decide +kernel
theorem ug (n:Nat) (hn:n<64):bh Tryz.prog G 224 [.d (.val (.int .u64 n))] [] (.int (many n)) []:=by
 refine bn Tryz.func224 (by decide) S8 rfl rfl ?_
 simp only [WI,go_sem]
 refine ax (G5 n hn) rfl rfl rfl rfl ?_; simp only [go_sem]
theorem rz (n:Int):bh Tryz.prog G 310 [.int n] [] (.int (many (n % 64))) []:=by
 refine bn Tryz.func310 (by decide) Sf rfl rfl ?_
 simp only [VM,go_sem]
 obtain ⟨m,hm⟩:=Int.eq_ofNat_of_zero_le (Int.emod_nonneg n (show (64:Int)≠0 by decide))
 have hl:m<64:=by omega
 have hw:IntKind.u64.wrap (m:Int)=m:=by simp [IntKind.wrap,IntKind.bits,IntKind.signed]; omega
 simp only [Z6,hm,hw]
 refine ax (ug m hl) rfl rfl rfl rfl ?_; simp only [go_sem]
end Dv
