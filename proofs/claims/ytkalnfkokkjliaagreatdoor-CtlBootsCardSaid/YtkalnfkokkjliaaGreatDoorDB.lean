/- The logical machine and its plain laws: parts D1, D2, proved sound. -/
import Derived.Test.YtkalnfkokkjliaaGreatDoorVD
import Derived.Test.YtkalnfkokkjliaaGreatDoorPA
import Derived.Test.YtkalnfkokkjliaaGreatDoorProg
import Derived.KernelRfl
set_option linter.unusedVariables false
set_option linter.unusedSimpArgs false
namespace Dv
open Go
def a_ (n:bu):List DV:=[bl n.up,bl n.bV,bl n.aU,i64 n.version,i64 n.bW]
def cQ (j:ct):List DV:=[i64 j.queue,i64 j.prio,i64 j.min,i64 j.max,i64 j.work,i64 j.ia,i64 j.phase,i64 j.inc,i64 j.nodes,i64 j.since,i64 j.mI,i64 j.cK]
def opR (o:dH):List DV:=[i64 o.kind,i64 o.a,i64 o.b,i64 o.c,i64 o.d,i64 o.e,i64 o.f]
def Ge (m:Fp):List DV:=[i64 m.node,i64 m.kind,i64 m.term,i64 m.gen,i64 m.bW,i64 m.inc,i64 m.version,i64 m.cK,i64 m.mI,i64 m.mode,i64 m.work]
def bK (l:List bu):LV:=.d (.dN 5 (l.map a_))
def cA (l:List ct):LV:=.d (.dN 12 (l.map cQ))
def Y8 (l:List Fp):LV:=.d (.dN 11 (l.map Ge))
def bz (s:ai):LV:=.agg [bK s.nodes,cA s.jobs,.int s.goal,.int s.bH,.int s.mode,.int s.term]
def yD (n:bu):LV:=.agg [.bool n.up,.bool n.bV,.bool n.aU,.int n.version,.int n.bW]
def Gm (j:ct):LV:=.agg [.int j.queue,.int j.prio,.int j.min,.int j.max,.int j.work,.int j.ia,.int j.phase,.int j.inc,.int j.nodes,.int j.since,.int j.mI,.int j.cK]
def rS (o:dH):LV:=.agg [.int o.kind,.int o.a,.int o.b,.int o.c,.int o.d,.int o.e,.int o.f]
def abo (m:Fp):LV:=.agg [.int m.node,.int m.kind,.int m.term,.int m.gen,.int m.bW,.int m.inc,.int m.version,.int m.cK,.int m.mI,.int m.mode,.int m.work]
def f_ (c:aI):LV:=.agg [.int c.nodes,.int c.bn,.int c.cv,.int c.gJ,.int c.eF,.int c.eE,.int c.deadline,.int c.room,.int c.gq]
theorem xA (n:Nat) (h:n<9223372036854775808):IntKind.i64.wrap (n:Int)=n:=aD (by omega) (by omega)
theorem OG (x:Int) (j:Nat) (hj:j<63):uF .i64 x ((2 ^ j-1:Nat):Int)=x % (2 ^ j:Nat):=by
 have hp:2 ^ j<2 ^ 63:=Nat.pow_lt_pow_right (by omega) hj
 have h0:0<2 ^ j:=Nat.two_pow_pos j
 have e:uF .i64 x ((2 ^ j-1:Nat):Int)=IntKind.i64.wrap ((BitVec.ofInt 64 x&&& BitVec.ofInt 64 ((2 ^ j-1:Nat):Int)).toNat:Int):=rfl
 rw [e,BitVec.toNat_and]
 have e2:(BitVec.ofInt 64 ((2 ^ j-1:Nat):Int)).toNat=2 ^ j-1:=by
  rw [BitVec.ofInt_natCast,BitVec.toNat_ofNat]; apply Nat.mod_eq_of_lt; omega
 rw [e2,Nat.and_two_pow_sub_one_eq_mod]
 have e3:(BitVec.ofInt 64 x).toNat % 2 ^ j<2 ^ j:=Nat.mod_lt _ h0
 rw [xA _ (by omega)]
 rw [BitVec.toNat_ofInt]
 have e4:((x % (2 ^ 64:Nat)).toNat:Int)=x % (2 ^ 64:Nat):=Int.toNat_of_nonneg (Int.emod_nonneg _ (by decide))
 have e5:(((x % (2 ^ 64:Nat)).toNat % 2 ^ j:Nat):Int)=x % (2 ^ 64:Nat) % (2 ^ j:Nat):=by
  rw [Int.natCast_emod,e4]
 rw [e5]
 apply Int.emod_emod_of_dvd
 exact Int.natCast_dvd_natCast.2 (Nat.pow_dvd_pow 2 (by omega))
theorem IQ (x:Int):uF .i64 x 1=x % 2:=OG x 1 (by omega)
theorem fdiv_pow (n:Int) (k:Nat):n.fdiv (2 ^ k)=n / 2 ^ k:=Int.fdiv_eq_ediv_of_nonneg _ (Int.le_of_lt (by exact Int.pow_pos (by decide)))
theorem qH (n:Int) (i:Nat) (hi:i<64):oU .i64 n i=n / 2 ^ i:=by
 unfold oU
 rw [Int.toNat_natCast,show Nat.min i IntKind.i64.bits=i from Nat.min_eq_left (by show i≤64; omega),fdiv_pow]
theorem wQ (k:Nat) (hk:k≤6):zT .i64 1 k=2 ^ k:=by
 have hp:(2:Int) ^ k≤64∧1≤(2:Int) ^ k:=by
  have:k=0∨k=1∨k=2∨k=3∨k=4∨k=5∨k=6:=by omega
  rcases this with h | h | h | h | h | h | h <;> rw [h] <;> decide
 unfold zT
 rw [Int.toNat_natCast,show Nat.min k IntKind.i64.bits=k from Nat.min_eq_left (by show k≤64; omega),Int.one_mul,aD (by omega) (by omega)]
theorem Hf (n:Int) (i:Nat) (hi:i<64):(uF .i64 (oU .i64 n i) 1==1)=hasB n i:=by
 rw [IQ,qH n i hi]; unfold hasB; rw [Bool.eq_iff_iff]; simp
theorem IN (n:Int) (i:Nat) (hi:i<64):(uF .i64 (oU .i64 n i) 1==0) = !hasB n i:=by
 rw [IQ,qH n i hi]; unfold hasB; rw [Bool.eq_iff_iff]; simp; omega
attribute [go_sem] fc aa2 aaY Yk aa0 Yn Tm To aa7 aci aaX aa1 Yl Yq aa9 aa_ Yr acf Yi aaW Yj Lr OJ Tn OK Wi Wl Wj Wk acj OL OO OM ON aa8 Tp OP ach aaV acg aaU Wy YS rZ Yo Tq cR gh getM zU bytesOf bY.ev aO ej Tg LV.int LV.bool Wp LV.cells LV.TA LV.sq splice rV rowsOf uB yx qb bq ga ay fA.owned DY St.get St.obj St.put Value.oneCell' Ends bX Ad.ap isNil St.keep St.Ce TF eU eX dQ uH.of RV.of aF Fu Lt gE rn m_ fC bE ey Fy gU Option.map_some Option.map_none List.append_nil List.nil_append List.cons_append List.map_nil List.map_cons List.length_nil List.length_cons List.set_cons_zero List.set_cons_succ List.take_succ_cons List.take_zero List.take_nil List.drop_succ_cons List.drop_zero List.drop_nil List.getElem?_cons_zero List.getElem?_cons_succ List.getElem?_nil List.isEmpty_nil List.isEmpty_cons List.all_cons List.all_nil List.isEmpty_nil cond_true cond_false Bool.true_and Bool.false_and Bool.and_true Bool.and_false Bool.not_true Bool.not_false Bool.or_true Bool.true_or Bool.or_false Bool.false_or true_and and_true true_or or_true Option.some.injEq LV.d.injEq DV.val.injEq Value.bool.injEq Value.int.injEq decide_true decide_false and_self Nat.zero_add Nat.add_zero if_true if_false Int.toNat_zero beq_self_eq_true Nat.zero_lt_succ Int.toNat_natCast Int.natCast_nonneg List.length_map i64 bl List.zip_cons_cons List.zip_nil_left List.zip_nil_right DY f_ bz yD Gm bK cA rS abo a_ cQ opR Ge BJ Hx Y8 qo qm qg qd qe qn ql qf qt qk q0
namespace Qq
def d :TypeInfo:=default
def i (d:TypeDesc)(s b:Nat)(z:Value):TypeInfo:={(default:TypeInfo)with desc:=d,size:=s,bytes:=b,zero:=some z}
def g (t o:Nat):Field:=.mk "" t o false "" "" 0
def z :Value:=.int .i64 0
def f :Value:=.bool false
def s :Value:=.string ⟨#[]⟩
def p :Value:=.pointer none
def l :Value:=.slice none 0 0
def P:=i (.pointer 0) 1 8 p
def L (e:Nat):=i (.slice e) 1 24 l
def N (k:IntKind)(b:Nat):=i (.int k) 1 b (.int k 0)
def F:=i (.func #[] #[] false) 1 8 .nilFunc
def R (a:Array Field)(b:Nat)(v:List Value):=i (.struct a) v.length b (.agg v.toArray)
def Y (n e b:Nat)(v:List Value):=i (.array n e) v.length b (.agg v.toArray)
def Q :Program:={(default:Program)with follow:=[.mixedOrders],types:=#[d,d,d,N .i64 8,i (.bool) 1 1 f,N .u8 1,d,d,d,i (.string) 1 16 s,d,d,d,d,d,d,d,d,d,d,d,d,d,R #[g 3 0,g 3 1,g 3 2,g 3 3,g 3 4,g 3 5,g 3 6,g 3 7,g 3 8] 72 [z,z,z,z,z,z,z,z,z],d,d,d,L 102,L 119,d,R #[g 27 0,g 28 1,g 3 2,g 3 3,g 3 4,g 3 5] 80 [l,l,z,z,z,z],d,d,d,d,d,d,R #[g 3 0,g 3 1,g 3 2,g 3 3,g 3 4,g 3 5,g 3 6] 56 [z,z,z,z,z,z,z],d,d,d,d,L 3,d,d,N .i64 8,d,d,d,d,d,L 65,P,d,P,d,P,L 5,L 57,d,d,P,d,d,d,R #[g 3 0,g 3 1,g 57 2] 40 [z,z,l],d,d,P,d,P,d,P,d,d,d,d,d,d,L 200,d,R #[g 23 0,g 54 9,g 61 10,g 70 11,g 30 12,g 79 18,g 3 19] 208 [z,z,z,z,z,z,z,z,z,p,p,p,l,l,z,z,z,z,l,z],d,d,d,d,d,R #[g 3 0,g 3 1,g 3 2,g 3 3,g 3 4,g 3 5,g 3 6,g 3 7,g 3 8,g 3 9,g 3 10] 88 [z,z,z,z,z,z,z,z,z,z,z],d,d,d,d,d,d,d,d,d,d,d,d,d,d,R #[g 4 0,g 4 1,g 4 2,g 3 3,g 3 4] 24 [f,f,f,z,z],d,d,d,d,d,d,d,L 225,d,R #[g 3 0,g 3 1,g 110 2,g 3 3] 48 [z,z,l,z],d,d,d,d,d,d,R #[g 3 0,g 3 1,g 3 2,g 3 3,g 3 4,g 3 5,g 3 6,g 3 7,g 3 8,g 3 9,g 3 10,g 3 11] 96 [z,z,z,z,z,z,z,z,z,z,z,z],d,d,d,N .u64 8,d,d,d,d,d,d,P,P,d,R #[g 23 0,g 30 9,g 37 15,g 130 22,g 131 23] 224 [z,z,z,z,z,z,z,z,z,l,l,z,z,z,z,z,z,z,z,z,z,z,p,p],F,d,R #[g 134 0,g 4 1,g 4 2] 16 [.nilFunc,f,f],Y 22 136 352 [.nilFunc,f,f,.nilFunc,f,f,.nilFunc,f,f,.nilFunc,f,f,.nilFunc,f,f,.nilFunc,f,f,.nilFunc,f,f,.nilFunc,f,f,.nilFunc,f,f,.nilFunc,f,f,.nilFunc,f,f,.nilFunc,f,f,.nilFunc,f,f,.nilFunc,f,f,.nilFunc,f,f,.nilFunc,f,f,.nilFunc,f,f,.nilFunc,f,f,.nilFunc,f,f,.nilFunc,f,f,.nilFunc,f,f,.nilFunc,f,f],d,d,d,d,d,L 227,d,d,d,d,R #[g 145 0,g 146 0,g 2 0] 8 [z],d,R #[g 57 0,g 143 1,g 148 2] 56 [l,l,z],d,R #[g 57 0,g 42 1,g 57 2,g 3 3] 80 [l,l,l,z],P,d,d,P,d,d,d,R #[g 52 0,g 153 1,g 156 2,g 3 3,g 3 4] 40 [p,p,p,z,z],d,d,d,d,d,d,d,P,d,d,P,d,d,d,d,d,R #[g 168 0,g 171 1,g 3 2,g 3 3] 32 [p,p,z,z],d,R #[g 54 0,g 3 1,g 3 2,g 58 3] 48 [p,z,z,l],d,d,d,d,d,R #[g 3 0,g 57 1] 32 [z,l],d,R #[g 185 0,g 185 2] 64 [z,l,z,l],Y 25 187 1600 [z,l,z,l,z,l,z,l,z,l,z,l,z,l,z,l,z,l,z,l,z,l,z,l,z,l,z,l,z,l,z,l,z,l,z,l,z,l,z,l,z,l,z,l,z,l,z,l,z,l,z,l,z,l,z,l,z,l,z,l,z,l,z,l,z,l,z,l,z,l,z,l,z,l,z,l,z,l,z,l,z,l,z,l,z,l,z,l,z,l,z,l,z,l,z,l,z,l,z,l],d,R #[g 3 0,g 3 1,g 188 2,g 148 102] 1624 [z,z,z,l,z,l,z,l,z,l,z,l,z,l,z,l,z,l,z,l,z,l,z,l,z,l,z,l,z,l,z,l,z,l,z,l,z,l,z,l,z,l,z,l,z,l,z,l,z,l,z,l,z,l,z,l,z,l,z,l,z,l,z,l,z,l,z,l,z,l,z,l,z,l,z,l,z,l,z,l,z,l,z,l,z,l,z,l,z,l,z,l,z,l,z,l,z,l,z,l,z,l,z],d,d,L 197,d,R #[g 23 0,g 52 9,g 56 10,g 68 11,g 30 12,g 193 18,g 4 19,g 148 20] 216 [z,z,z,z,z,z,z,z,z,p,p,p,l,l,z,z,z,z,l,f,z],d,R #[g 3 0,g 4 1,g 87 2,g 3 13,g 3 14,g 87 15] 208 [z,f,z,z,z,z,z,z,z,z,z,z,z,z,z,z,z,z,z,z,z,z,z,z,z,z],d,d,R #[g 3 0,g 3 1,g 3 2,g 4 3,g 87 4,g 87 15] 208 [z,z,z,f,z,z,z,z,z,z,z,z,z,z,z,z,z,z,z,z,z,z,z,z,z,z],d,d,d,d,d,d,d,d,d,d,d,d,d,d,d,d,d,d,P,d,d,d,d,d,R #[g 3 0,g 3 1,g 4 2,g 57 3] 48 [z,z,f,l],d,R #[g 3 0,g 57 1] 32 [z,l],d,d,d,d,d,d,d,d,Y 6 3 48 [z,z,z,z,z,z],d,Y 22 3 176 [z,z,z,z,z,z,z,z,z,z,z,z,z,z,z,z,z,z,z,z,z,z],d,d,d,d,R #[g 52 0,g 3 1,g 3 2] 24 [p,z,z],d,R #[g 52 0,g 3 1,g 3 2,g 3 3] 32 [p,z,z,z],d,d,d,d,d,d,R #[g 54 0,g 3 1,g 3 2] 24 [p,z,z],d,d,d,F,d,i (.map 3 256) 1 8 (.map none),d,d,d,d,d,d,d,d,d,d,d,d,d,d,d,d,R #[] 0 [],d,d,d,d,d,d,R #[g 42 0] 24 [l],d,Y 22 9 352 [s,s,s,s,s,s,s,s,s,s,s,s,s,s,s,s,s,s,s,s,s,s],d,d,d,d,d,d,d,d,d,d,d,d,d,d,d,d,d,d,d,d,d,d,d,d,d,d,d,d,N .u32 4,d,N .u64 8]}
end Qq
def qx (f:Func){r:Nat×C×List RV}(h:aq Qq.Q f=some r:=by conv=>lhs;cbv):Nat×C×List RV:=r
theorem TD (f:Func){r:Nat×C×List RV}(h:aq Qq.Q f=some r):qx f h=r:=rfl
attribute [go_sem ↓] TD
end Dv
set_option maxRecDepth 100000
namespace Dv
open Go Go.Proofs
variable {G:Nat→Option (List DV)}
def Vu:=qx Tryz.f112
theorem R6:aq Tryz.prog Tryz.f112=some Vu:=by kernel_rfl
def ZE:=qx Tryz.f64
theorem Xb:aq Tryz.prog Tryz.f64=some ZE:=by kernel_rfl
def Ug:=qx Tryz.f220
theorem QL:aq Tryz.prog Tryz.f220=some Ug:=by kernel_rfl
def Uu:=qx Tryz.f194
theorem Q2:aq Tryz.prog Tryz.f194=some Uu:=by kernel_rfl
def Ut:=qx Tryz.f195
theorem Q1:aq Tryz.prog Tryz.f195=some Ut:=by kernel_rfl
def Us:=qx Tryz.f197
theorem Q0:aq Tryz.prog Tryz.f197=some Us:=by kernel_rfl
def TR:=qx Tryz.f266
theorem Ql:aq Tryz.prog Tryz.f266=some TR:=by kernel_rfl
def Uc:=qx Tryz.f224
theorem QH:aq Tryz.prog Tryz.f224=some Uc:=by kernel_rfl
theorem fk (n lo hi:Int):br Tryz.prog G 112 [.int n,.int lo,.int hi] [] (.bool (aT n lo hi)) []:=by
 refine b_ Tryz.func112 (by decide) R6 rfl rfl ?_
 simp only [Vu,go_sem,simprocAttr]
 have e:aT n lo hi=(decide (n≥lo)&&decide (n≤hi)):=by unfold aT; rw [Bool.decide_and]
 rw [e]
 (first | with_reducible refine cc (fun h=>?_) (fun h=>?_) | refine bI (fun h=>?_) (fun h=>?_)) <;> simp only [h,go_sem,simprocAttr]
theorem JN (s:ai):br Tryz.prog G 220 [bz s] [] (.int (nt s)) []:=by
 refine b_ Tryz.func220 (by decide) QL rfl rfl ?_
 simp only [Ug,go_sem,simprocAttr]
 unfold nt
 refine aJ (fun h=>?_) (fun h=>?_) <;> simp only [h,go_sem,simprocAttr] <;> (try simp only [beq_iff_eq,beq_eq_false_iff_ne,bne_iff_ne,ne_eq,decide_eq_true_eq,decide_eq_false_iff_not,Bool.not_true,Bool.not_false,Bool.not_eq_true,Bool.not_eq_false,bne_eq_false_iff_eq,Decidable.not_not] at h) <;> simp only [h,go_sem,simprocAttr]
theorem qU (c:aI):br Tryz.prog G 64 [f_ c] [] (.bool (iH c)) []:=by
 refine b_ Tryz.func64 (by decide) Xb rfl rfl ?_
 simp only [ZE,go_sem,simprocAttr]
 unfold iH
 repeat' (first
  | (refine av (fk _ _ _) rfl rfl rfl rfl ?_; simp only [go_sem,simprocAttr])
  | ((first | with_reducible refine cc (fun h=>?_) (fun h=>?_) | refine bI (fun h=>?_) (fun h=>?_)) <;> simp only [h,go_sem,simprocAttr]))
theorem BB (c:aI) (j:ct) (h0:1≤c.bn∧c.bn≤1000):br Tryz.prog G 194 [f_ c,Gm j] [] (.bool (gV c j)) []:=by
 refine b_ Tryz.func194 (by decide) Q2 rfl rfl ?_
 simp only [Uu,go_sem,simprocAttr]
 have hw:IntKind.i64.wrap (c.bn-1)=c.bn-1:=aD (by omega) (by omega)
 simp only [hw]
 unfold gV
 repeat' (first
  | (refine av (fk _ _ _) rfl rfl rfl rfl ?_; simp only [go_sem,simprocAttr])
  | ((first | with_reducible refine cc (fun h=>?_) (fun h=>?_) | refine bI (fun h=>?_) (fun h=>?_)) <;> simp only [h,go_sem,simprocAttr]))
theorem F4 (p:Int):br Tryz.prog G 195 [.int p] [] (.bool (d_ p)) []:=by
 refine b_ Tryz.func195 (by decide) Q1 rfl rfl ?_
 simp only [Ut,go_sem,simprocAttr]
 have e:d_ p=((p==1)||((p==2)||(p==3))):=by unfold d_; rw [Bool.eq_iff_iff]; simp
 rw [e]
 repeat' ((first | with_reducible refine cc (fun h=>?_) (fun h=>?_) | refine bI (fun h=>?_) (fun h=>?_)) <;> simp only [h,go_sem,simprocAttr])
theorem FI (n:bu) (number:Int):br Tryz.prog G 197 [yD n,.ptr 0 0] [.box 3 [.int number]] (.bool (kA number n)) [.box 3 [.int number]]:=by
 refine nX Tryz.func197 (by decide) Q0 rfl rfl rfl rfl ?_
 simp only [Us,go_sem,simprocAttr]
 have e:kA number n=(n.up&&(!n.aU&&(n.bW==number))):=by unfold kA; rw [Bool.eq_iff_iff]; simp [and_assoc]
 rw [e]
 repeat' ((first | with_reducible refine cc (fun h=>?_) (fun h=>?_) | refine bI (fun h=>?_) (fun h=>?_)) <;> simp only [h,go_sem,simprocAttr])
theorem F9 (n:Nat) (hn:n<64):br Tryz.prog G 266 [.d (.val (.int .u64 n))] [] (.int (many n)) []:=by
 refine b_ Tryz.func266 (by decide) Ql rfl rfl ?_
 simp only [TR,go_sem,simprocAttr]
 revert n
 decide +kernel
theorem yw (n:Nat) (hn:n<64):br Tryz.prog G 224 [.d (.val (.int .u64 n))] [] (.int (many n)) []:=by
 refine b_ Tryz.func224 (by decide) QH rfl rfl ?_
 simp only [Uc,go_sem,simprocAttr]
 refine av (F9 n hn) rfl rfl rfl rfl ?_; simp only [go_sem,simprocAttr]
end Dv
