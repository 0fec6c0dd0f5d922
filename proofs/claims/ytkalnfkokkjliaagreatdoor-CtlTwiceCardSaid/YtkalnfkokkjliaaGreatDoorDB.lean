/- part -/
import Derived.Test.YtkalnfkokkjliaaGreatDoorVD
import Derived.Test.YtkalnfkokkjliaaGreatDoorPA
import Derived.Test.YtkalnfkokkjliaaGreatDoorProg
import Derived.KernelRfl
set_option linter.all false
set_option maxRecDepth 100000
namespace Dv
open Go
def bY (n:bp):List DV:=[bl n.up,bl n.cL,bl n.bC,i64 n.version,i64 n.aQ]
def dD (j:bP):List DV:=[i64 j.queue,i64 j.prio,i64 j.min,i64 j.max,i64 j.work,i64 j.pin,i64 j.phase,i64 j.inc,i64 j.nodes,i64 j.since,i64 j.til,i64 j.epoch]
def opR (o:cA):List DV:=[i64 o.kind,i64 o.a,i64 o.b,i64 o.c,i64 o.d,i64 o.e,i64 o.f]
def lX (m:dA):List DV:=[i64 m.node,i64 m.kind,i64 m.term,i64 m.gen,i64 m.aQ,i64 m.inc,i64 m.version,i64 m.epoch,i64 m.til,i64 m.mode,i64 m.work]
def bO (l:List bp):LV:=.d (.dH 5 (l.map bY))
def cO (l:List bP):LV:=.d (.dH 12 (l.map dD))
def iT (l:List dA):LV:=.d (.dH 11 (l.map lX))
def aY (s:aa):LV:=.agg [bO s.nodes,cO s.jobs,.int s.goal,.int s.prior,.int s.mode,.int s.term]
def zK (n:bp):LV:=.agg [.bool n.up,.bool n.cL,.bool n.bC,.int n.version,.int n.aQ]
def DQ (j:bP):LV:=.agg [.int j.queue,.int j.prio,.int j.min,.int j.max,.int j.work,.int j.pin,.int j.phase,.int j.inc,.int j.nodes,.int j.since,.int j.til,.int j.epoch]
def tO (o:cA):LV:=.agg [.int o.kind,.int o.a,.int o.b,.int o.c,.int o.d,.int o.e,.int o.f]
def xS (m:dA):LV:=.agg [.int m.node,.int m.kind,.int m.term,.int m.gen,.int m.aQ,.int m.inc,.int m.version,.int m.epoch,.int m.til,.int m.mode,.int m.work]
def fV (c:aC):LV:=.agg [.int c.nodes,.int c.bH,.int c.cB,.int c.gF,.int c.bZ,.int c.eC,.int c.deadline,.int c.room,.int c.fP]
theorem tR (n:Nat) (h:n<9223372036854775808):IntKind.i64.wrap (n:Int)=n:=aN (by omega) (by omega)
theorem GJ (x:Int) (j:Nat) (hj:j<63):ry .i64 x ((2 ^ j-1:Nat):Int)=x % (2 ^ j:Nat):=by
 have hp:2 ^ j<2 ^ 63:=Nat.pow_lt_pow_right (by omega) hj
 have h0:0<2 ^ j:=Nat.two_pow_pos j
 have e:ry .i64 x ((2 ^ j-1:Nat):Int)=IntKind.i64.wrap ((BitVec.ofInt 64 x&&& BitVec.ofInt 64 ((2 ^ j-1:Nat):Int)).toNat:Int):=rfl
 rw [e,BitVec.toNat_and]
 have e2:(BitVec.ofInt 64 ((2 ^ j-1:Nat):Int)).toNat=2 ^ j-1:=by
  rw [BitVec.ofInt_natCast,BitVec.toNat_ofNat]; apply Nat.mod_eq_of_lt; omega
 rw [e2,Nat.and_two_pow_sub_one_eq_mod]
 have e3:(BitVec.ofInt 64 x).toNat % 2 ^ j<2 ^ j:=Nat.mod_lt _ h0
 rw [tR _ (by omega)]
 rw [BitVec.toNat_ofInt]
 have e4:((x % (2 ^ 64:Nat)).toNat:Int)=x % (2 ^ 64:Nat):=Int.toNat_of_nonneg (Int.emod_nonneg _ (by decide))
 have e5:(((x % (2 ^ 64:Nat)).toNat % 2 ^ j:Nat):Int)=x % (2 ^ 64:Nat) % (2 ^ j:Nat):=by
  rw [Int.natCast_emod,e4]
 rw [e5]
 apply Int.emod_emod_of_dvd
 exact Int.natCast_dvd_natCast.2 (Nat.pow_dvd_pow 2 (by omega))
theorem Eu (x:Int):ry .i64 x 1=x % 2:=GJ x 1 (by omega)
theorem aaw (x:Int):ry .i64 x 63=x % 64:=GJ x 6 (by omega)
theorem fdiv_pow (n:Int) (k:Nat):n.fdiv (2 ^ k)=n / 2 ^ k:=Int.fdiv_eq_ediv_of_nonneg _ (Int.le_of_lt (by exact Int.pow_pos (by decide)))
theorem Dh (n:Int) (i:Nat) (hi:i<64):vK .i64 n i=n / 2 ^ i:=by
 unfold vK
 rw [Int.toNat_natCast,show Nat.min i IntKind.i64.bits=i from Nat.min_eq_left (by show i≤64; omega),fdiv_pow]
theorem tZ (k:Nat) (hk:k≤6):Di .i64 1 k=2 ^ k:=by
 have hp:(2:Int) ^ k≤64∧1≤(2:Int) ^ k:=by
  have:k=0∨k=1∨k=2∨k=3∨k=4∨k=5∨k=6:=by omega
  rcases this with h | h | h | h | h | h | h <;> rw [h] <;> decide
 unfold Di
 rw [Int.toNat_natCast,show Nat.min k IntKind.i64.bits=k from Nat.min_eq_left (by show k≤64; omega),Int.one_mul,aN (by omega) (by omega)]
theorem Jq (n:Int) (i:Nat) (hi:i<64):(ry .i64 (vK .i64 n i) 1==1)=hasB n i:=by
 rw [Eu,Dh n i hi]; unfold hasB; rw [Bool.eq_iff_iff]; simp
theorem KO (n:Int) (i:Nat) (hi:i<64):(ry .i64 (vK .i64 n i) 1==0) = !hasB n i:=by
 rw [Eu,Dh n i hi]; unfold hasB; rw [Bool.eq_iff_iff]; simp; omega
attribute [go_sem] fF acw acs aaD acu aaG VO VQ acz adI acr acv aaE aaJ acB acC aaK adE aaB acq aaC Nr Ri VP Rj YU YX YV YW adJ Rk Rn Rl Rm acA VR Ro adG acp adF aco Wy YS sL aaH VS cI fO getM Be bytesOf bU.ev aZ dY VJ LV.int LV.bool Y3 LV.cells LV.VW LV.sS splice sI rowsOf vh zD qV bn fQ aD fu.owned Ft St.get St.obj St.put Value.oneCell' Ends dg Ad.ap isNil St.keep St.DC Wc eH eD dZ yE.of RV.of aU GV Nt gE rn ni fB bB en GY gK Option.map_some Option.map_none List.append_nil List.nil_append List.cons_append List.map_nil List.map_cons List.length_nil List.length_cons List.set_cons_zero List.set_cons_succ List.take_succ_cons List.take_zero List.take_nil List.drop_succ_cons List.drop_zero List.drop_nil List.getElem?_cons_zero List.getElem?_cons_succ List.getElem?_nil List.isEmpty_nil List.isEmpty_cons List.all_cons List.all_nil List.isEmpty_nil cond_true cond_false Bool.true_and Bool.false_and Bool.and_true Bool.and_false Bool.not_true Bool.not_false Bool.or_true Bool.true_or Bool.or_false Bool.false_or true_and and_true true_or or_true Option.some.injEq LV.d.injEq DV.val.injEq Value.bool.injEq Value.int.injEq decide_true decide_false and_self Nat.zero_add Nat.add_zero if_true if_false Int.toNat_zero beq_self_eq_true Nat.zero_lt_succ Int.toNat_natCast Int.natCast_nonneg List.length_map i64 bl List.zip_cons_cons List.zip_nil_left List.zip_nil_right Ft fV aY zK DQ bO cO tO xS bY dD opR lX ia iX iT qo qm qg qd qe qn ql qf qt qk q0
namespace Qq
def d :TypeInfo:=default
def i (d:TypeDesc)(s b:Nat)(z:Value):TypeInfo:={(default:TypeInfo)with desc:=d,size:=s,bytes:=b,zero:=some z}
def g (t o:Nat):Field:=.mk "" t o false "" "" 0
def z :Value:=.int .i64 0
def f :Value:=.bool false
def s :Value:=.string ⟨#[]⟩
def p :Value:=.pointer none
def l :Value:=.slice none 0 0
def P:=i (.pointer 0) 1 8 p
def L (e:Nat):=i (.slice e) 1 24 l
def N (k:IntKind)(b:Nat):=i (.int k) 1 b (.int k 0)
def F:=i (.func #[] #[] false) 1 8 .nilFunc
def R (a:Array Field)(b:Nat)(v:List Value):=i (.struct a) v.length b (.agg v.toArray)
def Y (n e b:Nat)(v:List Value):=i (.array n e) v.length b (.agg v.toArray)
def Q :Program:={(default:Program)with follow:=[.mixedOrders],types:=#[d,d,d,N .i64 8,i (.bool) 1 1 f,N .u8 1,d,d,d,i (.string) 1 16 s,d,d,d,d,d,d,d,d,d,d,d,d,d,R #[g 3 0,g 3 1,g 3 2,g 3 3,g 3 4,g 3 5,g 3 6,g 3 7,g 3 8] 72 [z,z,z,z,z,z,z,z,z],L 37,d,d,L 102,L 119,d,R #[g 27 0,g 28 1,g 3 2,g 3 3,g 3 4,g 3 5] 80 [l,l,z,z,z,z],d,d,R #[g 3 0,g 30 1,g 24 7] 112 [z,l,l,z,z,z,z,l],d,d,d,R #[g 3 0,g 3 1,g 3 2,g 3 3,g 3 4,g 3 5,g 3 6] 56 [z,z,z,z,z,z,z],d,d,d,d,L 3,d,d,N .i64 8,d,d,d,d,d,L 65,P,d,P,d,P,L 5,L 57,d,d,P,d,d,d,R #[g 3 0,g 3 1,g 57 2] 40 [z,z,l],d,d,P,d,P,d,P,d,d,d,d,d,d,L 200,d,R #[g 23 0,g 54 9,g 61 10,g 70 11,g 30 12,g 79 18,g 3 19] 208 [z,z,z,z,z,z,z,z,z,p,p,p,l,l,z,z,z,z,l,z],d,d,L 91,d,d,R #[g 3 0,g 3 1,g 3 2,g 3 3,g 3 4,g 3 5,g 3 6,g 3 7,g 3 8,g 3 9,g 3 10] 88 [z,z,z,z,z,z,z,z,z,z,z],d,R #[g 3 0,g 3 1,g 3 2,g 3 3,g 57 4] 56 [z,z,z,z,l],d,R #[g 3 0,g 3 1,g 3 2,g 37 3,g 87 10,g 89 21] 224 [z,z,z,z,z,z,z,z,z,z,z,z,z,z,z,z,z,z,z,z,z,z,z,z,z,l],d,d,L 87,d,d,d,d,d,d,d,R #[g 4 0,g 4 1,g 4 2,g 3 3,g 3 4] 24 [f,f,f,z,z],d,d,d,d,d,d,d,L 225,d,R #[g 3 0,g 3 1,g 110 2,g 3 3] 48 [z,z,l,z],d,d,d,d,d,d,R #[g 3 0,g 3 1,g 3 2,g 3 3,g 3 4,g 3 5,g 3 6,g 3 7,g 3 8,g 3 9,g 3 10,g 3 11] 96 [z,z,z,z,z,z,z,z,z,z,z,z],d,d,d,N .u64 8,d,d,d,d,d,d,P,P,d,R #[g 23 0,g 30 9,g 37 15,g 130 22,g 131 23] 224 [z,z,z,z,z,z,z,z,z,l,l,z,z,z,z,z,z,z,z,z,z,z,p,p],F,d,R #[g 134 0,g 4 1,g 4 2] 16 [.nilFunc,f,f],Y 22 136 352 [.nilFunc,f,f,.nilFunc,f,f,.nilFunc,f,f,.nilFunc,f,f,.nilFunc,f,f,.nilFunc,f,f,.nilFunc,f,f,.nilFunc,f,f,.nilFunc,f,f,.nilFunc,f,f,.nilFunc,f,f,.nilFunc,f,f,.nilFunc,f,f,.nilFunc,f,f,.nilFunc,f,f,.nilFunc,f,f,.nilFunc,f,f,.nilFunc,f,f,.nilFunc,f,f,.nilFunc,f,f,.nilFunc,f,f,.nilFunc,f,f],d,d,d,d,d,L 227,d,d,d,d,R #[g 145 0,g 146 0,g 2 0] 8 [z],d,R #[g 57 0,g 143 1,g 148 2] 56 [l,l,z],d,R #[g 57 0,g 42 1,g 57 2,g 3 3] 80 [l,l,l,z],P,d,d,P,d,d,d,R #[g 52 0,g 153 1,g 156 2,g 3 3,g 3 4] 40 [p,p,p,z,z],d,d,d,d,d,d,d,P,d,d,P,d,d,d,d,d,R #[g 168 0,g 171 1,g 3 2,g 3 3] 32 [p,p,z,z],d,R #[g 54 0,g 3 1,g 3 2,g 58 3] 48 [p,z,z,l],d,d,d,d,d,R #[g 3 0,g 57 1] 32 [z,l],d,R #[g 185 0,g 185 2] 64 [z,l,z,l],Y 25 187 1600 [z,l,z,l,z,l,z,l,z,l,z,l,z,l,z,l,z,l,z,l,z,l,z,l,z,l,z,l,z,l,z,l,z,l,z,l,z,l,z,l,z,l,z,l,z,l,z,l,z,l,z,l,z,l,z,l,z,l,z,l,z,l,z,l,z,l,z,l,z,l,z,l,z,l,z,l,z,l,z,l,z,l,z,l,z,l,z,l,z,l,z,l,z,l,z,l,z,l,z,l],d,R #[g 3 0,g 3 1,g 188 2,g 148 102] 1624 [z,z,z,l,z,l,z,l,z,l,z,l,z,l,z,l,z,l,z,l,z,l,z,l,z,l,z,l,z,l,z,l,z,l,z,l,z,l,z,l,z,l,z,l,z,l,z,l,z,l,z,l,z,l,z,l,z,l,z,l,z,l,z,l,z,l,z,l,z,l,z,l,z,l,z,l,z,l,z,l,z,l,z,l,z,l,z,l,z,l,z,l,z,l,z,l,z,l,z,l,z,l,z],d,d,L 197,d,R #[g 23 0,g 52 9,g 56 10,g 68 11,g 30 12,g 193 18,g 4 19,g 148 20] 216 [z,z,z,z,z,z,z,z,z,p,p,p,l,l,z,z,z,z,l,f,z],d,R #[g 3 0,g 4 1,g 87 2,g 3 13,g 3 14,g 87 15] 208 [z,f,z,z,z,z,z,z,z,z,z,z,z,z,z,z,z,z,z,z,z,z,z,z,z,z],d,d,R #[g 3 0,g 3 1,g 3 2,g 4 3,g 87 4,g 87 15] 208 [z,z,z,f,z,z,z,z,z,z,z,z,z,z,z,z,z,z,z,z,z,z,z,z,z,z],d,d,d,d,d,d,d,d,F,d,d,d,d,d,d,d,d,d,P,d,d,d,d,d,R #[g 3 0,g 3 1,g 4 2,g 57 3] 48 [z,z,f,l],d,R #[g 3 0,g 57 1] 32 [z,l],d,d,d,d,d,d,d,d,Y 6 3 48 [z,z,z,z,z,z],d,Y 22 3 176 [z,z,z,z,z,z,z,z,z,z,z,z,z,z,z,z,z,z,z,z,z,z],d,d,d,d,R #[g 52 0,g 3 1,g 3 2] 24 [p,z,z],d,R #[g 52 0,g 3 1,g 3 2,g 3 3] 32 [p,z,z,z],d,d,d,d,d,d,R #[g 54 0,g 3 1,g 3 2] 24 [p,z,z],d,d,d,F,d,i (.map 3 256) 1 8 (.map none),d,d,d,d,d,d,L 4,d,d,F,d,d,d,d,d,d,R #[] 0 [],d,d,d,d,d,d,R #[g 42 0] 24 [l],d,Y 22 9 352 [s,s,s,s,s,s,s,s,s,s,s,s,s,s,s,s,s,s,s,s,s,s],d,d,d,d,d,d,d,d,Y 2 4 2 [f,f],d,d,R #[g 268 0] 8 [.nilFunc],Y 3 296 24 [.nilFunc,.nilFunc,.nilFunc],d,d,d,d,d,d,d,d,d,d,d,d,d,d,d,N .u32 4,d,N .u64 8,d,d,d,d,d,d,d,F,d,d,R #[g 23 0,g 30 9,g 3 15] 160 [z,z,z,z,z,z,z,z,z,l,l,z,z,z,z,z],d,R #[g 209 0] 8 [.nilFunc],Y 3 328 24 [.nilFunc,.nilFunc,.nilFunc],d,d,d,d,d,d,d,d,d,d,d,d,Y 2 185 64 [z,l,z,l]]}
end Qq
def qx (f:Func){r:Nat×C×List RV}(h:aj Qq.Q f=some r:=by conv=>lhs;cbv):Nat×C×List RV:=r
theorem qxE (f:Func){r:Nat×C×List RV}(h:aj Qq.Q f=some r):qx f h=r:=rfl
attribute [go_sem ↓] qxE
end Dv
namespace Dv
open Go Go.Proofs
variable {G:Nat→Option (List DV)}
def Yn:=qx Tryz.f112
theorem UO:aj Tryz.prog Tryz.f112=some Yn:=by kernel_rfl
def abf:=qx Tryz.f64
theorem Zz:aj Tryz.prog Tryz.f64=some abf:=by kernel_rfl
def Xp:=qx Tryz.f220
theorem TL:aj Tryz.prog Tryz.f220=some Xp:=by kernel_rfl
def XD:=qx Tryz.f194
theorem TY:aj Tryz.prog Tryz.f194=some XD:=by kernel_rfl
def XC:=qx Tryz.f195
theorem TX:aj Tryz.prog Tryz.f195=some XC:=by kernel_rfl
def XB:=qx Tryz.f197
theorem TW:aj Tryz.prog Tryz.f197=some XB:=by kernel_rfl
def WX:=qx Tryz.f266
theorem Tm:aj Tryz.prog Tryz.f266=some WX:=by kernel_rfl
def Xl:=qx Tryz.f224
theorem TH:aj Tryz.prog Tryz.f224=some Xl:=by kernel_rfl
def Wu:=qx Tryz.f310
theorem SU:aj Tryz.prog Tryz.f310=some Wu:=by kernel_rfl
theorem fe (n lo hi:Int):bw Tryz.prog G 112 [.int n,.int lo,.int hi] [] (.bool (bK n lo hi)) []:=by
 refine br Tryz.func112 (by decide) UO rfl rfl ?_
 simp only [Yn,go_sem]
 have e:bK n lo hi=(decide (n≥lo)&&decide (n≤hi)):=by unfold bK; rw [Bool.decide_and]
 rw [e]
 (first | with_reducible refine eB (fun h=>?_) (fun h=>?_) | refine dz (fun h=>?_) (fun h=>?_)) <;> simp only [h,go_sem]
theorem jN (s:aa):bw Tryz.prog G 220 [aY s] [] (.int (fZ s)) []:=by
 refine br Tryz.func220 (by decide) TL rfl rfl ?_
 simp only [Xp,go_sem]
 unfold fZ
 refine bx (fun h=>?_) (fun h=>?_) <;> simp only [h,go_sem] <;> (try simp only [qqS] at h) <;> simp only [h,go_sem]
theorem yx (c:aC):bw Tryz.prog G 64 [fV c] [] (.bool (gJ c)) []:=by
 refine br Tryz.func64 (by decide) Zz rfl rfl ?_
 simp only [abf,go_sem]
 unfold gJ
 repeat' (first
  | (refine ay (fe _ _ _) rfl rfl rfl rfl ?_; simp only [go_sem])
  | ((first | with_reducible refine eB (fun h=>?_) (fun h=>?_) | refine dz (fun h=>?_) (fun h=>?_)) <;> simp only [h,go_sem]))
theorem CT (c:aC) (j:bP) (h0:1≤c.bH∧c.bH≤1000):bw Tryz.prog G 194 [fV c,DQ j] [] (.bool (mj c j)) []:=by
 refine br Tryz.func194 (by decide) TY rfl rfl ?_
 simp only [XD,go_sem]
 have hw:IntKind.i64.wrap (c.bH-1)=c.bH-1:=aN (by omega) (by omega)
 simp only [hw]
 unfold mj
 repeat' (first
  | (refine ay (fe _ _ _) rfl rfl rfl rfl ?_; simp only [go_sem])
  | ((first | with_reducible refine eB (fun h=>?_) (fun h=>?_) | refine dz (fun h=>?_) (fun h=>?_)) <;> simp only [h,go_sem]))
theorem HE (p:Int):bw Tryz.prog G 195 [.int p] [] (.bool (eM p)) []:=by
 refine br Tryz.func195 (by decide) TX rfl rfl ?_
 simp only [XC,go_sem]
 have e:eM p=((p==1)||((p==2)||(p==3))):=by unfold eM; rw [Bool.eq_iff_iff]; simp
 rw [e]
 repeat' ((first | with_reducible refine eB (fun h=>?_) (fun h=>?_) | refine dz (fun h=>?_) (fun h=>?_)) <;> simp only [h,go_sem])
theorem Hg (n:bp) (number:Int):bw Tryz.prog G 197 [zK n,.ptr 0 0] [.box 3 [.int number]] (.bool (kr number n)) [.box 3 [.int number]]:=by
 refine Dc Tryz.func197 (by decide) TW rfl rfl rfl rfl ?_
 simp only [XB,go_sem]
 have e:kr number n=(n.up&&(!n.bC&&(n.aQ==number))):=by unfold kr; rw [Bool.eq_iff_iff]; simp [and_assoc]
 rw [e]
 repeat' ((first | with_reducible refine eB (fun h=>?_) (fun h=>?_) | refine dz (fun h=>?_) (fun h=>?_)) <;> simp only [h,go_sem])
theorem HO (n:Nat) (hn:n<64):bw Tryz.prog G 266 [.d (.val (.int .u64 n))] [] (.int (many n)) []:=by
 refine br Tryz.func266 (by decide) Tm rfl rfl ?_
 simp only [WX,go_sem]
 revert n
 decide +kernel
theorem ux (n:Nat) (hn:n<64):bw Tryz.prog G 224 [.d (.val (.int .u64 n))] [] (.int (many n)) []:=by
 refine br Tryz.func224 (by decide) TH rfl rfl ?_
 simp only [Xl,go_sem]
 refine ay (HO n hn) rfl rfl rfl rfl ?_; simp only [go_sem]
theorem rT (n:Int):bw Tryz.prog G 310 [.int n] [] (.int (many (n % 64))) []:=by
 refine br Tryz.func310 (by decide) SU rfl rfl ?_
 simp only [Wu,go_sem]
 obtain ⟨m,hm⟩:=Int.eq_ofNat_of_zero_le (Int.emod_nonneg n (show (64:Int)≠0 by decide))
 have hl:m<64:=by omega
 have hw:IntKind.u64.wrap (m:Int)=m:=by simp [IntKind.wrap,IntKind.bits,IntKind.signed]; omega
 simp only [aaw,hm,hw]
 refine ay (ux m hl) rfl rfl rfl rfl ?_; simp only [go_sem]
end Dv
