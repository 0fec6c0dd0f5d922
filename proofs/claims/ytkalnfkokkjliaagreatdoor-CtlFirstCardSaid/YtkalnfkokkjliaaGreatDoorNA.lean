/- The logical machine and its plain laws: parts N1, N2, N4, N5, N3, N6, N8, N9, N7, N10, N11, N12, proved sound. -/
import Derived.Test.YtkalnfkokkjliaaGreatDoorI0
import Derived.Test.YtkalnfkokkjliaaGreatDoorVD
import Derived.Test.YtkalnfkokkjliaaGreatDoorI8
import Derived.Test.YtkalnfkokkjliaaGreatDoorG1
set_option linter.unusedVariables false
set_option linter.unusedSimpArgs false
namespace Dv
open Go Go.Proofs
variable {G:Nat→Option (List DV)}
def Ub (r:Int):Int:=if (rY .u32 r 1==0)=true then sG .u32 r 1 else uo .u32 (sG .u32 r 1) 3988292384
def uk (r:Int):Nat→Int
 | 0=>r
 | k+1=>Ub (uk r k)
def qJ (r:Int) (b:List Int):Nat→Int
 | 0=>r
 | k+1=>uk (uo .u32 (qJ r b k) (IntKind.u32.wrap (b.getD k 0))) 8
def kq (s:Int) (b:List Int):Int:=if s<0∨s>4294967295 then 0 else IntKind.i64.wrap (uo .u32 4294967295 (qJ (uo .u32 4294967295 (IntKind.u32.wrap s)) b b.length))
def vm (n:Int):List Int:=[IntKind.u8.wrap (sG .i64 n 24),IntKind.u8.wrap (sG .i64 n 16),IntKind.u8.wrap (sG .i64 n 8),IntKind.u8.wrap n]
def v_ (b:List Int):Bool:=decide (4≤b.length)&&decide (vm (kq 0 (b.take (b.length-4)))=b.drop (b.length-4))
def P8:Nat×C×List RV:=(30,
(.seq (.af [qo 4 (.mv (.c (.val (.int .u32 0))))])
 (.seq (.seq (.af [qm 7 1,
 qo 8 (.len (.t 7)),
 qo 9 (.mv (qk 0))])
 (.block 0 (.loop (.seq (.af [qo 10 (.bin .lss (.t 9) (.t 8))])
 (.seq (.cond (.t 10) .skip
 (.exit 0))
 (.seq (.block 1 (.seq (.af [qo 11 (.eG 1 (.t 7) (.t 9)),
 qo 12 (.ld1 (.t 11)),
 qm 6 12])
 (.scope (.seq (.af [qm 13 0,
 qm 14 6,
 qo 15 (.y2 .u32 (.t 14)),
 qo 16 (.bin .xor (.t 13) (.t 15)),
 qm 0 16])
 (.seq .skip
 (.seq (.af [qo 17 (.mv (qk 0))])
 (.block 2 (.loop (.seq (.af [qo 18 (.bin .lss (.t 17) (qk 8))])
 (.seq (.cond (.t 18) .skip
 (.exit 2))
 (.seq (.block 3 (.seq (.seq (.af [qm 19 0,
 qo 20 (.bin .and (.t 19) (.c (.val (.int .u32 1)))),
 qo 21 (.bin .eql (.t 20) (.c (.val (.int .u32 0))))])
 (.cond (.t 21) (.seq (.af [qm 22 0,
 qo 23 (.bin .shr (.t 22) (.c (.val (.int .u64 1)))),
 qm 0 23])
 (.exit 3))
 .skip))
 (.af [qm 24 0,
 qo 25 (.bin .shr (.t 24) (.c (.val (.int .u64 1)))),
 qo 26 (.bin .xor (.t 25) (.c (.val (.int .u32 3988292384)))),
 qm 0 26])))
 (.af [qo 27 (.bin .add (.t 17) (qk 1)),
 qm 17 27]))))))))))))
 (.af [qo 28 (.bin .add (.t 9) (qk 1)),
 qm 9 28])))))))
 (.seq (.af [qm 29 0,
 qm 4 29])
 .ret))),
[(.t 4)])
theorem ME:aq Tryz.prog Tryz.f321=some P8:=by kernel_rfl
def Qf:Nat×C×List RV:=(18,
(.seq (.af [qo 4 (.mv (qk 0))])
 (.seq (.seq (.af [qm 5 0,
 qo 6 (.bin .lss (.t 5) (qk 0)),
 qm 7 6,
 qg 8 (.mv (.t 0)) 7 false,
 qg 9 (.bin .gtr (.t 8) (qk 4294967295)) 7 false,
 qo 10 (.pick (.t 7) qt (.t 9))])
 (.cond (.t 10) (.seq (.af [qo 4 (.mv (qk 0))])
 .ret)
 .skip))
 (.seq (.af [qm 11 0,
 qo 12 (.y2 .u32 (.t 11)),
 qo 13 ((.more (.UJ (.t 12)))),
 qm 14 1,
 qo 15 (.call (.f 321) [(.t 13),(.t 14)]),
 qo 16 ((.more (.UJ (.t 15)))),
 qo 17 (.y2 .i64 (.t 16)),
 qm 4 17])
 .ret))),
[(.t 4)])
theorem MM:aq Tryz.prog Tryz.f306=some Qf:=by kernel_rfl
def Qv:Nat×C×List RV:=(5,
(.seq (.af [qo 2 (.mv (qk 0))])
 (.seq (.af [qm 3 0,
 qo 4 (.call (.f 306) [(qk 0),(.t 3)]),
 qm 2 4])
 .ret)),
[(.t 2)])
theorem M3:aq Tryz.prog Tryz.f273=some Qv:=by kernel_rfl
def Qw:Nat×C×List RV:=(15,
(.seq (.af [qo 2 (.mv (.c (.val (.slice none 0 0))))])
 (.seq (.af [qm 3 0,
 qo 4 (.bin .shr (.t 3) (.c (.val (.int .u64 24)))),
 qo 5 (.y2 .u8 (.t 4)),
 qm 6 0,
 qo 7 (.bin .shr (.t 6) (.c (.val (.int .u64 16)))),
 qo 8 (.y2 .u8 (.t 7)),
 qm 9 0,
 qo 10 (.bin .shr (.t 9) (.c (.val (.int .u64 8)))),
 qo 11 (.y2 .u8 (.t 10)),
 qm 12 0,
 qo 13 (.y2 .u8 (.t 12)),
 qo 14 (.nh 5 1 [(.t 5),(.t 8),(.t 11),(.t 13)]),
 qm 2 14])
 .ret)),
[(.t 2)])
theorem M4:aq Tryz.prog Tryz.f272=some Qw:=by kernel_rfl
def Qx:Nat×C×List RV:=(20,
(.seq (.af [qo 2 (.mv qf)])
 (.seq (.af [qm 4 0,
 qo 5 (.len (.t 4)),
 qo 6 (.bin .sub (.t 5) (qk 4)),
 qm 3 6])
 (.seq (.bQ [qm 7 3,
 qd 8 (.bin .geq (.t 7) (qk 0)) [0],
 qd 9 (.mv (.t 8)) [1,0],
 qe 10 (.mv (.t 0)) 9 true [2,1,0],
 qe 11 (.mv (.t 3)) 9 true [2,1,0],
 qe 12 (.zm 1 (.t 10) none (some (.t 11)) none) 9 true [3,2,1,0,4],
 qe 13 (.call (.f 273) [(.t 12)]) 9 true [5,3,2,1,0,4],
 qe 14 (.call (.f 272) [(.t 13)]) 9 true [6,5,3,2,1,0,4],
 qe 15 (.mv (.t 0)) 9 true [2,1,0],
 qe 16 (.mv (.t 3)) 9 true [2,1,0],
 qe 17 (.zm 1 (.t 15) (some (.t 16)) none none) 9 true [8,2,1,0,9],
 qe 18 (.call (.f 305) [(.t 14),(.t 17)]) 9 true [7,6,5,3,2,1,0,4,10,8,9],
 qd 19 (.pick (.t 9) (.t 18) qf) [2,1,0,11,7,6,5,3,4,10,8,9],
 qd 2 (.mv (.t 19)) [12,2,1,0,11,7,6,5,3,4,10,8,9]])
 .ret))),
[(.t 2)])
theorem M5:aq Tryz.prog Tryz.f271=some Qx:=by kernel_rfl
def Qg:Nat×C×List RV:=(26,
(.seq (.af [qo 4 (.mv qf)])
 (.seq (.seq (.af [qm 6 0,
 qo 7 (.len (.t 6)),
 qm 8 1,
 qo 9 (.len (.t 8)),
 qo 10 (.bin .neq (.t 7) (.t 9))])
 (.cond (.t 10) (.seq (.af [qo 4 (.mv qf)])
 .ret)
 .skip))
 (.seq (.seq (.af [qm 11 0,
 qo 12 (.len (.t 11)),
 qo 13 (.mv (qk 0))])
 (.block 0 (.loop (.seq (.af [qo 14 (.bin .lss (.t 13) (.t 12))])
 (.seq (.cond (.t 14) .skip
 (.exit 0))
 (.seq (.block 1 (.seq (.af [qm 15 13,
 qm 5 15])
 (.seq (.bQ [qm 16 0,
 qm 17 5,
 qd 18 (.eG 1 (.t 16) (.t 17)) [0,1],
 qd 19 (.ld1 (.t 18)) [2,0,1],
 qm 20 1,
 qm 21 5,
 qd 22 (.eG 1 (.t 20) (.t 21)) [4,5],
 qd 23 (.ld1 (.t 22)) [6,4,5],
 qd 24 (.bin .neq (.t 19) (.t 23)) [3,2,0,1,7,6,4,5]])
 (.cond (.t 24) (.seq (.af [qo 4 (.mv qf)])
 .ret)
 .skip))))
 (.af [qo 25 (.bin .add (.t 13) (qk 1)),
 qm 13 25])))))))
 (.seq (.af [qo 4 (.mv qt)])
 .ret)))),
[(.t 4)])
theorem MN:aq Tryz.prog Tryz.f305=some Qg:=by kernel_rfl
def LL (r:Int) (b:List Int) (k:Nat):St:=⟨[(0,.d (.val (.int .u32 (qJ r b k)))),(7,au b),(8,.int b.length),(9,.int k)],[]⟩
def Iv (x:Int) (b:List Int) (k:Nat) (j:Nat):St:=⟨[(0,.d (.val (.int .u32 (uk x j)))),(7,au b),(8,.int b.length),(9,.int k),(17,.int j)],[]⟩
theorem CR (r:Int) (b:List Int) (hl:b.length≤1000000):bw Tryz.prog G 321 [.d (.val (.int .u32 r)),au b] [] (.d (.val (.int .u32 (qJ r b b.length)))) []:=by
 have hlb:(aA b).length=b.length:=by simp [aA]
 refine bn Tryz.func321 (by decide) ME rfl rfl ?_
 simp only [au,P8,go_sem,simprocAttr]
 refine aY [0,7,8,9] [] (fun k:Nat=>k≤b.length) (fun k=>b.length-k) (LL r b) 0 ?_ (Nat.zero_le _) (fun k hk=>?_)
 ·simp only [LL,au,hlb,qJ,Int.natCast_zero,go_sem,simprocAttr]
 simp only [LL,au,go_sem,simprocAttr]
 by_cases hlt:k<b.length
 ·have hg:=aL (f:=fun n:Int=>[u8 n]) 0 hlt
  rw [show b.map (fun n:Int=>[u8 n])=aA b from rfl] at hg
  have hnx:qJ r b (k+1)=uk (uo .u32 (qJ r b k) (IntKind.u32.wrap (b.getD k 0))) 8:=rfl
  generalize b.getD k 0=c at *
  simp only [decide_eq_true (show ((k:Nat):Int)<((b.length:Nat):Int) by omega),hg,u8,go_sem,simprocAttr]
  generalize uo .u32 (qJ r b k) (IntKind.u32.wrap c)=x at *
  refine aY [0,7,8,9,17] [] (fun j:Nat=>j≤8) (fun j=>8-j) (Iv x b k) 0 ?_ (Nat.zero_le _) (fun j hj=>?_)
  ·simp only [Iv,au,uk,Int.natCast_zero,go_sem,simprocAttr]
  simp only [Iv,au,go_sem,simprocAttr]
  by_cases hj8:j<8
  ·have hnb:uk x (j+1)=Ub (uk x j):=rfl
   unfold Ub at hnb
   generalize uk x j=y at *
   simp only [decide_eq_true (show ((j:Nat):Int)<8 by omega),go_sem,simprocAttr]
   cases hb:(rY .u32 y 1==0) with
   | true=>
     rw [hb,if_pos rfl] at hnb
     simp only [go_sem,simprocAttr]
     refine bz (j+1) ?_ ?_ (by omega) (by omega)
     ·simp only [go_sem,simprocAttr]
     ·simp only [Iv,au,hnb,aG (show j<9223372036854775807 by omega),go_sem,simprocAttr]
   | false=>
     rw [hb,if_neg Bool.false_ne_true] at hnb
     simp only [go_sem,simprocAttr]
     refine bz (j+1) ?_ ?_ (by omega) (by omega)
     ·simp only [go_sem,simprocAttr]
     ·simp only [Iv,au,hnb,aG (show j<9223372036854775807 by omega),go_sem,simprocAttr]
  ·obtain rfl:j=8:=by omega
   simp only [go_sem,simprocAttr]
   refine bz (k+1) ?_ ?_ (by omega) (by omega)
   ·simp only [go_sem,simprocAttr]
   ·simp only [LL,au,hnx,aG (show k<9223372036854775807 by omega),go_sem,simprocAttr]
 ·obtain rfl:k=b.length:=by omega
  simp only [decide_eq_false (show ¬ ((b.length:Nat):Int)<((b.length:Nat):Int) by omega),go_sem,simprocAttr]
theorem JG (s:Int) (b:List Int) (hl:b.length≤1000000):bw Tryz.prog G 306 [.int s,au b] [] (.int (kq s b)) []:=by
 refine bn Tryz.func306 (by decide) MM rfl rfl ?_
 simp only [Qf,go_sem,simprocAttr]
 by_cases h1:s<0
 ·simp only [kq,h1,go_sem,simprocAttr]
 by_cases h2:s>4294967295
 ·simp only [decide_eq_false h1,kq,h2,go_sem,simprocAttr]
 have hm:kq s b=IntKind.i64.wrap (uo .u32 4294967295 (qJ (uo .u32 4294967295 (IntKind.u32.wrap s)) b b.length)):=if_neg (by omega)
 simp only [decide_eq_false h1,decide_eq_false h2,hm,go_sem,simprocAttr]
 refine aC (CR (uo .u32 4294967295 (IntKind.u32.wrap s)) b hl) rfl rfl rfl rfl ?_; simp only [go_sem,simprocAttr]
 rfl
theorem x9 (b:List Int) (hl:b.length≤1000000):bw Tryz.prog G 273 [au b] [] (.int (kq 0 b)) []:=by
 refine bn Tryz.func273 (by decide) M3 rfl rfl ?_
 simp only [Qv,go_sem,simprocAttr]
 refine aC (JG 0 b hl) rfl rfl rfl rfl ?_; simp only [go_sem,simprocAttr]
theorem vh (n:Int):bw Tryz.prog G 272 [.int n] [] (au (vm n)) []:=by
 refine cG Tryz.func272 (by decide) M4 rfl ?_
 simp only [Qw,go_sem,simprocAttr]
 exact dL [0] rfl (by simp [St.obj,aB]) (by simp [St.obj,aB,aW,St.get,bx,ai,bE,au,aA,vm,u8])
theorem vi (n:Int):(vm n).length=4:=rfl
theorem x8 (l:List Int) {k:Nat} (h:k<l.length):l.take (k+1)=l.take k++[l.getD k 0]:=by
 rw [List.take_add_one]
 simp [h,List.getD]
def XN (a b:List Int) (k:Nat):St:=⟨[(0,au a),(1,au b),(4,.bool false),(11,au a),(12,.int a.length),(13,.int k)],[]⟩
theorem Hy (a b:List Int) (ha:a.length≤1000000) (hb:b.length≤1000000):bw Tryz.prog G 305 [au a,au b] [] (.bool (decide (a=b))) []:=by
 have hla:(aA a).length=a.length:=by simp [aA]
 have hlb:(aA b).length=b.length:=by simp [aA]
 refine bn Tryz.func305 (by decide) MN rfl rfl ?_
 simp only [au,Qg,go_sem,simprocAttr]
 simp only [hla,hlb,go_sem,simprocAttr]
 by_cases hl:a.length=b.length
 case neg=>
  simp only [show (((a.length:Nat):Int) !=((b.length:Nat):Int))=true from bne_iff_ne.2 (by omega),go_sem,simprocAttr]
  simp only [decide_eq_false (show ¬ a=b from fun h=>hl (by rw [h]))]
 simp only [show (((a.length:Nat):Int) !=((b.length:Nat):Int))=false from by simp [hl],go_sem,simprocAttr]
 refine aY [0,1,4,11,12,13] [] (fun k:Nat=>k≤a.length∧a.take k=b.take k) (fun k=>a.length-k) (XN a b) 0 ?_ ⟨Nat.zero_le _,rfl⟩ ?_
 ·simp only [XN,au,hla,Int.natCast_zero,go_sem,simprocAttr]
 rintro k ⟨hk,hp⟩
 simp only [XN,au,go_sem,simprocAttr]
 by_cases hlt:k<a.length
 ·have ZF:=aL (f:=fun n:Int=>[u8 n]) 0 hlt
  have hgb:=aL (f:=fun n:Int=>[u8 n]) 0 (show k<b.length by omega)
  rw [show a.map (fun n:Int=>[u8 n])=aA a from rfl] at ZF
  rw [show b.map (fun n:Int=>[u8 n])=aA b from rfl] at hgb
  simp only [decide_eq_true (show ((k:Nat):Int)<((a.length:Nat):Int) by omega),ZF,hgb,u8,go_sem,simprocAttr]
  by_cases he:a.getD k 0=b.getD k 0
  ·simp only [he,bne_self_eq_false,go_sem,simprocAttr]
   refine bz (k+1) ?_ ?_ ⟨by omega,by rw [x8 a hlt,x8 b (by omega),hp,he]⟩ (by omega)
   ·simp only [go_sem,simprocAttr]
   ·simp only [XN,au,aG (show k<9223372036854775807 by omega),go_sem,simprocAttr]
  ·simp only [show (a.getD k 0 !=b.getD k 0)=true from bne_iff_ne.2 he,go_sem,simprocAttr]
   exact (decide_eq_false fun h=>he (by rw [h])).symm
 ·obtain rfl:k=a.length:=by omega
  simp only [decide_eq_false (show ¬ ((a.length:Nat):Int)<((a.length:Nat):Int) by omega),go_sem,simprocAttr]
  refine (decide_eq_true ?_).symm
  rw [List.take_length,hl,List.take_length] at hp
  exact hp
theorem gB (b:List Int) (n:Nat):(aA b).take n=aA (b.take n):=by simp [aA,List.map_take]
theorem fJ (b:List Int) (n:Nat):(aA b).drop n=aA (b.drop n):=by simp [aA,List.map_drop]
theorem az (b:List Int):(aA b).length=b.length:=by simp [aA]
theorem F8 (b:List Int) (hl:b.length≤1000000):bw Tryz.prog G 271 [au b] [] (.bool (v_ b)) []:=by
 have hlb:(aA b).length=b.length:=by simp [aA]
 refine bn Tryz.func271 (by decide) M5 rfl rfl ?_
 simp only [au,Qx,go_sem,simprocAttr]
 simp only [hlb,aO (show -9223372036854775808≤((b.length:Nat):Int)-4 by omega) (show ((b.length:Nat):Int)-4≤9223372036854775807 by omega),go_sem,simprocAttr]
 by_cases h4:4≤b.length
 ·simp only [decide_eq_true (show ((b.length:Nat):Int)-4≥0 by omega),hlb,go_sem,simprocAttr]
  have c1:(0:Int)≤((b.length:Nat):Int)-4:=by omega
  have e0:(((b.length:Nat):Int)-4).toNat=b.length-4:=by omega
  have c2:0≤b.length-4∧b.length-4≤b.length∧b.length≤b.length:=by omega
  have c3:b.length-4≤b.length∧b.length≤b.length∧b.length≤b.length:=by omega
  have hi:v_ b=decide (vm (kq 0 (b.take (b.length-4)))=b.drop (b.length-4)):=by unfold v_; rw [decide_eq_true h4,Bool.true_and]
  have ho:=x9 (G:=G) (b.take (b.length-4)) (by rw [List.length_take]; omega)
  have he:=Hy (G:=G) (vm (kq 0 (b.take (b.length-4)))) (b.drop (b.length-4)) (by rw [vi]; decide) (by rw [List.length_drop]; omega)
  simp only [au] at ho he
  simp only [c1,e0,c2,Nat.sub_zero,gB,go_sem,simprocAttr]
  refine bf (ho) rfl rfl rfl rfl ?_; simp only [go_sem,simprocAttr]
  refine bf (vh (kq 0 (b.take (b.length-4)))) rfl rfl rfl rfl ?_; simp only [go_sem,simprocAttr]
  have c4:(aA (b.drop (b.length-4))).take (b.length-(b.length-4))=aA (b.drop (b.length-4)):=List.take_of_length_le (by rw [az,List.length_drop]; exact Nat.le_refl _)
  simp only [c1,e0,c3,hlb,fJ,c4,au,go_sem,simprocAttr]
  refine bf (he) rfl rfl rfl rfl ?_; simp only [go_sem,simprocAttr]
  rw [hi]
 ·simp only [decide_eq_false (show ¬ ((b.length:Nat):Int)-4≥0 by omega),v_,decide_eq_false h4,go_sem,simprocAttr]
end Dv
namespace Dv
open Go Go.Proofs
variable {G:Nat→Option (List DV)}
def OK:Nat×C×List RV:=(8,
(.seq (.af [qo 2 (.mv (.c (.val (.slice none 0 0))))])
 (.seq (.seq (.af [qm 3 0,
 qo 4 (.zX false (.t 3))])
 (.cond (.t 4) (.seq (.af [qo 2 (.mv (.c (.val (.slice none 0 0))))])
 .ret)
 .skip))
 (.seq (.af [qo 5 (.nh 5 1 []),
 qm 6 0,
 qo 7 (.app 5 1 1 (.t 5) (.t 6)),
 qm 2 7])
 .ret))),
[(.t 2)])
theorem DI:aq Tryz.prog Tryz.f84=some OK:=by kernel_rfl
def J9:Nat×C×List RV:=(36,
(.seq (.af [qo 2 (.mv (.c (.val (.slice none 0 0))))])
 (.seq (.af [qo 3 (.mv (qk 0))])
 (.seq (.seq (.af [qm 9 0,
 qo 10 (.len (.t 9)),
 qo 11 (.mv (qk 0))])
 (.block 0 (.loop (.seq (.af [qo 12 (.bin .lss (.t 11) (.t 10))])
 (.seq (.cond (.t 12) .skip
 (.exit 0))
 (.seq (.block 1 (.seq (.af [qo 13 (.eG 1 (.t 9) (.t 11)),
 qo 14 (.ld1 (.t 13)),
 qm 5 14])
 (.seq (.af [qm 15 3,
 qm 16 5,
 qo 17 (.len (.t 16)),
 qo 18 (.bin .add (.t 15) (.t 17)),
 qm 3 18])
 (.seq (.af [qm 19 3,
 qo 20 (.bin .lss (.t 19) (qk 0))])
 (.cond (.t 20) (.af [qo 21 ((.more .stk)),
 qn ((.more .stk))])
 .skip)))))
 (.af [qo 22 (.bin .add (.t 11) (qk 1)),
 qm 11 22])))))))
 (.seq (.af [qm 23 3,
 qo 24 (.call (.f 274) [(.c (.val (.slice none 0 0))),(.t 23)]),
 qm 6 24])
 (.seq (.seq (.af [qm 25 0,
 qo 26 (.len (.t 25)),
 qo 27 (.mv (qk 0))])
 (.block 2 (.loop (.seq (.af [qo 28 (.bin .lss (.t 27) (.t 26))])
 (.seq (.cond (.t 28) .skip
 (.exit 2))
 (.seq (.block 3 (.seq (.af [qo 29 (.eG 1 (.t 25) (.t 27)),
 qo 30 (.ld1 (.t 29)),
 qm 8 30])
 (.af [qm 31 6,
 qm 32 8,
 qo 33 (.app 5 1 1 (.t 31) (.t 32)),
 qm 6 33])))
 (.af [qo 34 (.bin .add (.t 27) (qk 1)),
 qm 27 34])))))))
 (.seq (.af [qm 35 6,
 qm 2 35])
 .ret)))))),
[(.t 2)])
theorem Fi:aq Tryz.prog Tryz.f232=some J9:=by kernel_rfl
def QS:Nat×C×List RV:=(21,
(.seq (.af [qo 2 (.mv (.c (.val (.slice none 0 0))))])
 (.seq (.seq (.af [qm 3 0,
 qo 4 (.len (.t 3)),
 qo 5 (.bin .eql (.t 4) (qk 0)),
 qm 6 5,
 qg 7 (.mv (.t 0)) 6 false,
 qg 8 (.len (.t 7)) 6 false,
 qg 9 (.bin .gtr (.t 8) (qk 4000)) 6 false,
 qo 10 (.pick (.t 6) qt (.t 9))])
 (.cond (.t 10) (.seq (.af [qo 2 (.mv (.c (.val (.slice none 0 0))))])
 .ret)
 .skip))
 (.seq (.af [qm 11 0,
 qo 12 (.len (.t 11)),
 qo 13 (.call (.f 230) [(.t 12)]),
 qm 14 0,
 qm 15 0,
 qo 16 (.call (.f 273) [(.t 15)]),
 qo 17 (.call (.f 272) [(.t 16)]),
 qo 18 (.nh 5 1 [(.c (.val (.int .u8 1)))]),
 qo 19 (.nh 57 1 [(.t 13),(.t 14),(.t 17),(.t 18)]),
 qo 20 (.call (.f 232) [(.t 19)]),
 qm 2 20])
 .ret))),
[(.t 2)])
theorem Nn:aq Tryz.prog Tryz.f231=some QS:=by kernel_rfl
theorem Ce (l:List Int) (hl:l.length≤1000000):bw Tryz.prog G 84 [au l] [] (.sl 0 l.length 1 0 l.length) [.dat 5 1 (aA l)]:=by
 refine cG Tryz.func84 (by decide) DI rfl ?_
 simp only [au,OK,go_sem,simprocAttr]
 cases l with
 | nil=>
   simp only [aA,go_sem,simprocAttr]
   refine ⟨?_,?_⟩
   ·exact pI [.t 2 5 1] rfl rfl
   ·exact pI [] rfl rfl
 | cons n l=>
   have hr:(aA (n::l)).length=(n::l).length:=az _
   have h0:¬ (n::l).length=0:=by simp
   have hb:(l.length+1)*1≤70368744177664:=by simp at hl; omega
   simp only [hr,go_sem,simprocAttr]
   simp only [hb,go_sem,simprocAttr]
   exact pI [] rfl rfl
theorem wV (l:List Int) (hl:l.length≤1000000):bw Tryz.prog G 84 [au l] [] (au l) []:=by
 refine cG Tryz.func84 (by decide) DI rfl ?_
 simp only [au,OK,go_sem,simprocAttr]
 cases l with
 | nil=>
   simp only [aA,go_sem,simprocAttr]
   refine ⟨?_,?_⟩
   ·exact dL [] rfl (by simp) (by simp [aW,St.get,bx,ai])
   ·exact dL [0] rfl (by simp [St.obj,aB]) (by simp [St.obj,aB,aW,St.get,bx,ai,bE])
 | cons n l=>
   have hr:(aA (n::l)).length=(n::l).length:=az _
   have h0:¬ (n::l).length=0:=by simp
   have hb:(l.length+1)*1≤70368744177664:=by simp at hl; omega
   simp only [hr,go_sem,simprocAttr]
   simp only [hb,go_sem,simprocAttr]
   exact dL [0] rfl (by simp [St.obj,aB]) (by simp [St.obj,aB,aW,St.get,bx,ai,bE,List.take_of_length_le,hr])
theorem jE (a b:List Int):aA (a++b)=aA a++aA b:=by simp [aA]
def ec (ls:List (List Int)):List (List DV):=ls.map fun b=>[.dY 1 (aA b)]
def cat (ls:List (List Int)) (k:Nat):List Int:=(ls.take k).flatten
theorem Ch (ls:List (List Int)) {k:Nat} (h:k<ls.length):cat ls (k+1)=cat ls k++ls.getD k []:=by
 unfold cat
 rw [List.take_add_one,List.flatten_append]
 simp [h,List.getD]
theorem Lg (ls:List (List Int)) (k:Nat):(cat ls k).length≤ls.flatten.length:=by
 have:ls.flatten=(ls.take k).flatten++(ls.drop k).flatten:=by rw [← List.flatten_append,List.take_append_drop]
 rw [this,List.length_append]
 exact Nat.le_add_right _ _
def Pj (ls:List (List Int)) (k:Nat):St:=⟨[(0,.d (.dY 1 (ec ls))),(2,.d (.val (.slice none 0 0))),(3,.int (cat ls k).length),(9,.d (.dY 1 (ec ls))),(10,.int ls.length),(11,.int k)],[]⟩
def Ph (ls:List (List Int)) (k:Nat):St:=⟨[(6,.sl 0 (cat ls k).length 1 0 (cat ls k).length),(25,.d (.dY 1 (ec ls))),(26,.int ls.length),(27,.int k)],[some (.dat 5 1 (aA (cat ls k)))]⟩
set_option maxHeartbeats 1000000 in
theorem qw (ls:List (List Int)) (hl:ls.length≤100) (ht:ls.flatten.length≤100000):bw Tryz.prog G 232 [.d (.dY 1 (ec ls))] [] (au ls.flatten) []:=by
 have hlc:(ec ls).length=ls.length:=by simp [ec]
 refine cG Tryz.func232 (by decide) Fi rfl ?_
 simp only [au,J9,go_sem,simprocAttr]
 refine aY [0,2,3,9,10,11] [] (fun k:Nat=>k≤ls.length) (fun k=>ls.length-k) (Pj ls) 0 ?_ (Nat.zero_le _) (fun k hk=>?_)
 ·simp only [Pj,hlc,Int.natCast_zero,cat,List.flatten_nil,go_sem,simprocAttr]
 simp only [Pj,go_sem,simprocAttr]
 by_cases hlt:k<ls.length
 ·have hg:=aL (f:=fun b:List Int=>[DV.dY 1 (aA b)]) [] hlt
  rw [show ls.map (fun b:List Int=>[DV.dY 1 (aA b)])=ec ls from rfl] at hg
  have hc:=congrArg List.length (Ch ls hlt)
  rw [List.length_append] at hc
  have h1:=Lg ls (k+1)
  generalize ls.getD k []=b at *
  have hw:IntKind.i64.wrap (((cat ls k).length:Int)+(b.length:Int))=((cat ls (k+1)).length:Int):=by rw [aO (by omega) (by omega),hc]; omega
  simp only [decide_eq_true (show ((k:Nat):Int)<((ls.length:Nat):Int) by omega),hg,az,hw,decide_eq_false (show ¬ (((cat ls (k+1)).length:Nat):Int)<0 by omega),go_sem,simprocAttr]
  refine bz (k+1) ?_ ?_ (by omega) (by omega)
  ·simp only [go_sem,simprocAttr]
  ·simp only [Pj,aG (show k<9223372036854775807 by omega),go_sem,simprocAttr]
 obtain rfl:k=ls.length:=by omega
 have hcl:cat ls ls.length=ls.flatten:=by unfold cat; rw [List.take_length]
 simp only [decide_eq_false (show ¬ ((ls.length:Nat):Int)<((ls.length:Nat):Int) by omega),hcl,go_sem,simprocAttr]
 refine kL (wz ls.flatten.length ht) rfl rfl rfl ?_
 simp only [go_sem,simprocAttr]
 refine aY [6,25,26,27] [] (fun k:Nat=>k≤ls.length) (fun k=>ls.length-k) (Ph ls) 0 ?_ (Nat.zero_le _) (fun k hk=>?_)
 ·simp only [Ph,hlc,Int.natCast_zero,cat,List.flatten_nil,aA,go_sem,simprocAttr]
 simp only [Ph,go_sem,simprocAttr]
 by_cases hlt:k<ls.length
 ·have hg:=aL (f:=fun b:List Int=>[DV.dY 1 (aA b)]) [] hlt
  rw [show ls.map (fun b:List Int=>[DV.dY 1 (aA b)])=ec ls from rfl] at hg
  have hs:=Ch ls hlt
  have hc:=congrArg List.length hs
  rw [List.length_append] at hc
  have h1:=Lg ls (k+1)
  generalize ls.getD k []=b at *
  have hb:(cat ls k).length+b.length≤100000:=by omega
  simp only [decide_eq_true (show ((k:Nat):Int)<((ls.length:Nat):Int) by omega),hg,az,← jE,← hs,show (cat ls (k+1)).length*1≤70368744177664 by omega,← hc,go_sem,simprocAttr]
  refine bz (k+1) ?_ ?_ (by omega) (by omega)
  ·simp only [go_sem,simprocAttr]
  ·simp only [Ph,aG (show k<9223372036854775807 by omega),go_sem,simprocAttr]
 obtain rfl:k=ls.length:=by omega
 simp only [decide_eq_false (show ¬ ((ls.length:Nat):Int)<((ls.length:Nat):Int) by omega),hcl,go_sem,simprocAttr]
 exact dL [0] rfl (by simp [St.obj,aB]) (by simp [St.obj,aB,aW,St.get,bx,ai,bE,List.take_of_length_le,az])
def s4 (a b c:List Int):Nat→List Int
 | 0=>[]
 | 1=>a
 | 2=>a++b
 | 3=>a++b++c
 | _=>a++b++c++[1]
def f4 (a b c:List Int):List aD:=[.box 57 [.d (.dY 1 (aA a)),.d (.dY 1 (aA b)),.d (.dY 1 (aA c)),.sl 1 1 1 0 1],.dat 5 1 [[.val (.int .u8 1)]]]
def Eo (a b c:List Int) (k:Nat):St:=⟨[(0,.sl 0 0 1 0 4),(2,.d (.val (.slice none 0 0))),(3,.int (s4 a b c k).length),(9,.sl 0 0 1 0 4),(10,.int 4),(11,.int k)],(f4 a b c).map some⟩
def En (a b c:List Int) (k:Nat):St:=⟨[(6,.sl 2 (s4 a b c k).length 1 0 (s4 a b c k).length),(25,.sl 0 0 1 0 4),(26,.int 4),(27,.int k)],(f4 a b c).map some++[some (.dat 5 1 (aA (s4 a b c k)))]⟩
set_option maxHeartbeats 1000000 in
theorem Cb (a b c:List Int) (ht:(a++b++c).length≤10000):bw Tryz.prog G 232 [.sl 0 0 1 0 4] (f4 a b c) (au (a++b++c++[1])) (f4 a b c):=by
 rw [List.length_append,List.length_append] at ht
 have l0:(s4 a b c 0).length=0:=rfl
 have l1:(s4 a b c 1).length=a.length:=rfl
 have l2:(s4 a b c 2).length=a.length+b.length:=List.length_append
 have l3:(s4 a b c 3).length=a.length+b.length+c.length:=by simp [s4]; omega
 have l4:(s4 a b c 4).length=a.length+b.length+c.length+1:=by simp [s4]; omega
 have w0:IntKind.i64.wrap (((s4 a b c 0).length:Int)+((aA a).length:Int))=((s4 a b c 1).length:Int):=by rw [aO (by rw [az]; omega) (by rw [az]; omega),az]; omega
 have w1:IntKind.i64.wrap (((s4 a b c 1).length:Int)+((aA b).length:Int))=((s4 a b c 2).length:Int):=by rw [aO (by rw [az]; omega) (by rw [az]; omega),az]; omega
 have w2:IntKind.i64.wrap (((s4 a b c 2).length:Int)+((aA c).length:Int))=((s4 a b c 3).length:Int):=by rw [aO (by rw [az]; omega) (by rw [az]; omega),az]; omega
 have w3:IntKind.i64.wrap (((s4 a b c 3).length:Int)+1)=((s4 a b c 4).length:Int):=by rw [aO (by omega) (by omega)]; omega
 have r0:aA (s4 a b c 0)++aA a=aA (s4 a b c 1):=by rfl
 have r1:aA (s4 a b c 1)++aA b=aA (s4 a b c 2):=by rw [← jE]; rfl
 have r2:aA (s4 a b c 2)++aA c=aA (s4 a b c 3):=by rw [← jE]; rfl
 have r3:aA (s4 a b c 3)++[[DV.val (.int .u8 1)]]=aA (s4 a b c 4):=by rw [show s4 a b c 4=s4 a b c 3++[1] from rfl,jE]; rfl
 have c0:((s4 a b c 0).length=(aA (s4 a b c 0)).length∧(aA (s4 a b c 1)).length*1≤70368744177664):=⟨(az _).symm,by rw [az]; omega⟩
 have e0:(aA (s4 a b c 0)).length+(aA a).length=(s4 a b c 1).length:=by rw [az,az]; omega
 have c1:((s4 a b c 1).length=(aA (s4 a b c 1)).length∧(aA (s4 a b c 2)).length*1≤70368744177664):=⟨(az _).symm,by rw [az]; omega⟩
 have e1:(aA (s4 a b c 1)).length+(aA b).length=(s4 a b c 2).length:=by rw [az,az]; omega
 have c2:((s4 a b c 2).length=(aA (s4 a b c 2)).length∧(aA (s4 a b c 3)).length*1≤70368744177664):=⟨(az _).symm,by rw [az]; omega⟩
 have e2:(aA (s4 a b c 2)).length+(aA c).length=(s4 a b c 3).length:=by rw [az,az]; omega
 have c3:((s4 a b c 3).length=(aA (s4 a b c 3)).length∧(aA (s4 a b c 4)).length*1≤70368744177664):=⟨(az _).symm,by rw [az]; omega⟩
 have e3:(aA (s4 a b c 3)).length+1=(s4 a b c 4).length:=by rw [az]; omega
 refine cG Tryz.func232 (by decide) Fi rfl ?_
 simp only [f4,J9,go_sem,simprocAttr]
 refine aY [0,2,3,9,10,11] [] (fun k:Nat=>k≤4) (fun k=>4-k) (Eo a b c) 0 ?_ (Nat.zero_le _) (fun k hk=>?_)
 ·simp only [Eo,f4,s4,Int.natCast_zero,go_sem,simprocAttr]
 simp only [Eo,f4,go_sem,simprocAttr]
 match k,hk with
 | 0,_=>
   simp only [w0,decide_eq_false (show ¬ (((s4 a b c 1).length:Nat):Int)<0 by omega),go_sem,simprocAttr]
   refine bz 1 ?_ ?_ (by decide) (by decide)
   ·simp only [go_sem,simprocAttr]
   ·simp only [Eo,f4,show IntKind.i64.wrap 1=1 from rfl,go_sem,simprocAttr]
 | 1,_=>
   simp only [w1,decide_eq_false (show ¬ (((s4 a b c 2).length:Nat):Int)<0 by omega),go_sem,simprocAttr]
   refine bz 2 ?_ ?_ (by decide) (by decide)
   ·simp only [go_sem,simprocAttr]
   ·simp only [Eo,f4,show IntKind.i64.wrap 2=2 from rfl,go_sem,simprocAttr]
 | 2,_=>
   simp only [w2,decide_eq_false (show ¬ (((s4 a b c 3).length:Nat):Int)<0 by omega),go_sem,simprocAttr]
   refine bz 3 ?_ ?_ (by decide) (by decide)
   ·simp only [go_sem,simprocAttr]
   ·simp only [Eo,f4,show IntKind.i64.wrap 3=3 from rfl,go_sem,simprocAttr]
 | 3,_=>
   simp only [w3,decide_eq_false (show ¬ (((s4 a b c 4).length:Nat):Int)<0 by omega),go_sem,simprocAttr]
   refine bz 4 ?_ ?_ (by decide) (by decide)
   ·simp only [go_sem,simprocAttr]
   ·simp only [Eo,f4,show IntKind.i64.wrap 4=4 from rfl,go_sem,simprocAttr]
 | 4,_=>
   simp only [go_sem,simprocAttr]
   have ht4:(s4 a b c 4).length≤100000:=by omega
   refine kL (wz (s4 a b c 4).length ht4) rfl rfl rfl ?_
   simp only [go_sem,simprocAttr]
   refine aY [6,25,26,27] [] (fun k:Nat=>k≤4) (fun k=>4-k) (En a b c) 0 ?_ (Nat.zero_le _) (fun k hk=>?_)
   ·simp only [En,f4,l0,Int.natCast_zero,go_sem,simprocAttr]
    rfl
   simp only [En,f4,go_sem,simprocAttr]
   match k,hk with
   | 0,_=>
     simp only [r0,c0,e0,go_sem,simprocAttr]
     refine bz 1 ?_ ?_ (by decide) (by decide)
     ·simp only [go_sem,simprocAttr]
     ·simp only [En,f4,show IntKind.i64.wrap 1=1 from rfl,go_sem,simprocAttr]
   | 1,_=>
     simp only [r1,c1,e1,go_sem,simprocAttr]
     refine bz 2 ?_ ?_ (by decide) (by decide)
     ·simp only [go_sem,simprocAttr]
     ·simp only [En,f4,show IntKind.i64.wrap 2=2 from rfl,go_sem,simprocAttr]
   | 2,_=>
     simp only [r2,c2,e2,go_sem,simprocAttr]
     refine bz 3 ?_ ?_ (by decide) (by decide)
     ·simp only [go_sem,simprocAttr]
     ·simp only [En,f4,show IntKind.i64.wrap 3=3 from rfl,go_sem,simprocAttr]
   | 3,_=>
     simp only [r3,c3,e3,go_sem,simprocAttr]
     refine bz 4 ?_ ?_ (by decide) (by decide)
     ·simp only [go_sem,simprocAttr]
     ·simp only [En,f4,show IntKind.i64.wrap 4=4 from rfl,go_sem,simprocAttr]
   | 4,_=>
     simp only [go_sem,simprocAttr]
     refine dF [] [0,1] [2] (vs:=[.sl 2 (s4 a b c 4).length 1 0 (s4 a b c 4).length]) rfl rfl (by decide) (by simp) (by simp [St.obj,aB,de]) rfl rfl ?_
     simp [St.obj,aB,aW,ai,bE,au,List.take_of_length_le,az,s4,de]
def mZ (p:List Int):List Int:=if p.length=0∨p.length>4000 then [] else cc p.length++p++vm (kq 0 p)++[1]
theorem mw (p:List Int) (hl:p.length≤1000000):bw Tryz.prog G 231 [au p] [] (au (mZ p)) []:=by
 refine cG Tryz.func231 (by decide) Nn rfl ?_
 simp only [au,QS,az,go_sem,simprocAttr]
 by_cases h0:p.length=0
 ·have hp:mZ p=[]:=if_pos (.inl h0)
  simp only [show (((p.length:Nat):Int)==0)=true by rw [beq_iff_eq]; omega,go_sem,simprocAttr]
  exact dL [] rfl (by simp) (by simp [aW,St.get,bx,ai,hp,aA])
 have e0:(((p.length:Nat):Int)==0)=false:=beq_eq_false_iff_ne.2 (by omega)
 by_cases h1:p.length>4000
 ·have hp:mZ p=[]:=if_pos (.inr h1)
  simp only [e0,az,decide_eq_true (show ((p.length:Nat):Int)>4000 by omega),go_sem,simprocAttr]
  exact dL [] rfl (by simp) (by simp [aW,St.get,bx,ai,hp,aA])
 have hp:mZ p=cc p.length++p++vm (kq 0 p)++[1]:=if_neg (by omega)
 simp only [e0,az,decide_eq_false (show ¬ ((p.length:Nat):Int)>4000 by omega),go_sem,simprocAttr]
 have hn:=l9 (G:=G) (p.length:Int)
 have ho:=x9 (G:=G) p hl
 have hs:=vh (G:=G) (kq 0 p)
 simp only [au] at hn ho hs
 refine aC (hn) rfl rfl rfl rfl ?_; simp only [go_sem,simprocAttr]
 refine aC (ho) rfl rfl rfl rfl ?_; simp only [go_sem,simprocAttr]
 refine aC (hs) rfl rfl rfl rfl ?_; simp only [go_sem,simprocAttr]
 have hn9:=gw (p.length:Int)
 have hs4:=vi (kq 0 p)
 refine aK [1,0] (Cb (cc p.length) p (vm (kq 0 p)) (by rw [List.length_append,List.length_append]; omega)) rfl (by simp only [ah,ai,go_sem,simprocAttr]) (by decide) (by simp only [f4,go_sem,simprocAttr]) (by simp only [f4,go_sem,simprocAttr]) (Nat.le_refl _) ?_
 simp only [f4,au,go_sem,simprocAttr]
 rw [← hp]
 exact dL [] rfl (by simp) (by simp [aW,St.get,bx,ai])
end Dv
namespace Dv
open Go Go.Proofs
variable {G:Nat→Option (List DV)}
def eV (l:List Int) (s:Int):List aD:=[.box 150 [.sl 1 l.length 1 0 l.length,.d (.val (.slice none 0 0)),.int s],.dat 5 1 (aA l)]
def tF (UP:Nat) (b:List Int):List (List DV):=[[i64 UP,.dY 1 (aA b)]]
def i_ (l:List Int) (s:Int) (UP:Nat) (b:List Int):List aD:=[.box 150 [.sl 1 l.length 1 0 l.length,.sl 2 1 2 0 1,.int s],.dat 5 1 (aA l),.dat 227 2 (tF UP b)]
def en (l:List Int) (a:Nat) (b:List Int):List Int:=l.take a++b++l.drop (a+b.length)
theorem eZ {l b:List Int} {a:Nat} (h:a+b.length≤l.length):(en l a b).length=l.length:=by
 unfold en
 rw [List.length_append,List.length_append,List.length_take,List.length_drop]
 omega
def VF:Nat×C×List RV:=(13,
(.seq (.af [qo 2 (.mv (.c (.val (.pointer none))))])
 (.seq (.seq (.af [qm 3 0,
 qo 4 (.bin .lss (.t 3) (qk 1)),
 qm 5 4,
 qg 6 (.mv (.t 0)) 5 false,
 qg 7 (.bin .gtr (.t 6) (qk 65536)) 5 false,
 qo 8 (.pick (.t 5) qt (.t 7))])
 (.cond (.t 8) (.seq (.af [qo 2 (.mv (.c (.val (.pointer none))))])
 .ret)
 .skip))
 (.seq (.af [qm 9 0,
 qo 10 (.more (.sU 5 1 1 [(.val (.int .u8 0))] (.t 9))),
 qo 11 (.build [(.val (.slice none 0 0)),(.val (.slice none 0 0)),q0] [(0,1,(.t 10))]),
 qo 12 (.box 150 (.t 11)),
 qm 2 12])
 .ret))),
[(.t 2)])
theorem Tp:aq Tryz.prog Tryz.f27=some VF:=by kernel_rfl
def Vr:Nat×C×List RV:=(10,
(.seq (.af [qo 2 (.mv (qk 0))])
 (.seq (.seq (.af [qm 3 0,
 qo 4 (.ic false (.t 3))])
 (.cond (.t 4) (.seq (.af [qo 2 (.mv (qk 0))])
 .ret)
 .skip))
 (.seq (.af [qm 5 0,
 qo 6 (.aV (.t 5)),
 qo 7 (.aj 0 (.t 6)),
 qo 8 (.ld1 (.t 7)),
 qo 9 (.len (.t 8)),
 qm 2 9])
 .ret))),
[(.t 2)])
theorem Tb:aq Tryz.prog Tryz.f79=some Vr:=by kernel_rfl
def RQ:Nat×C×List RV:=(48,
(.seq (.af [qo 6 (.mv (qk 0))])
 (.seq (.block 0 (.seq (.af [qm 8 0,
 qo 9 (.ic false (.t 8)),
 qm 10 9,
 qg 11 (.mv (.t 1)) 10 false,
 qg 12 (.bin .lss (.t 11) (qk 0)) 10 false,
 qo 13 (.pick (.t 10) qt (.t 12)),
 qm 7 13])
 (.cond (.t 7) (.seq (.af [qo 6 (.mv (qk 1))])
 .ret)
 (.seq (.af [qm 15 2,
 qo 16 (.len (.t 15)),
 qm 17 0,
 qo 18 (.aV (.t 17)),
 qo 19 (.aj 0 (.t 18)),
 qo 20 (.ld1 (.t 19)),
 qo 21 (.len (.t 20)),
 qo 22 (.bin .gtr (.t 16) (.t 21)),
 qm 23 22,
 qg 24 (.mv (.t 1)) 23 false,
 qg 25 (.mv (.t 0)) 23 false,
 qg 26 (.aV (.t 25)) 23 false,
 qg 27 (.aj 0 (.t 26)) 23 false,
 qg 28 (.ld1 (.t 27)) 23 false,
 qg 29 (.len (.t 28)) 23 false,
 qg 30 (.mv (.t 2)) 23 false,
 qg 31 (.len (.t 30)) 23 false,
 qg 32 (.bin .sub (.t 29) (.t 31)) 23 false,
 qg 33 (.bin .gtr (.t 24) (.t 32)) 23 false,
 qo 34 (.pick (.t 23) qt (.t 33)),
 qm 14 34])
 (.cond (.t 14) (.seq (.af [qo 6 (.mv (qk 3))])
 .ret)
 .skip)))))
 (.seq (.bQ [qm 35 0,
 qm 36 0,
 qd 37 (.aV (.t 36)) [1],
 qd 38 (.aj 1 (.t 37)) [2,1],
 qd 39 (.ld1 (.t 38)) [3,2,1],
 qm 40 1,
 qm 41 2,
 qd 42 (.call (.f 84) [(.t 41)]) [6],
 qd 43 (.build [q0,(.val (.slice none 0 0))] [(0,1,(.t 40)),(1,1,(.t 42))]) [5,7,6],
 qd 44 (.nh 227 2 [(.t 43)]) [8,5,7,6],
 qd 45 (.app 227 2 32 (.t 39) (.t 44)) [4,3,2,1,9,8,5,7,6],
 qd 46 (.aV (.t 35)) [0,1,2,3,4,5,6,7,8,9,10],
 qd 47 (.aj 1 (.t 46)) [11,0,1,2,3,4,5,6,7,8,9,10],
 ql (.st 1 (.t 47) (.t 45)) [12,11,0,1,2,3,4,5,6,7,8,9,10]])
 (.seq (.af [qo 6 (.mv (qk 0))])
 .ret)))),
[(.t 6)])
theorem Ov:aq Tryz.prog Tryz.f130=some RQ:=by kernel_rfl
def Rh:Nat×C×List RV:=(24,
(.seq (.af [qo 2 (.mv (qk 0))])
 (.seq (.af [qo 3 (.mv (qk 0))])
 (.seq (.seq (.af [qm 6 0,
 qo 7 (.ic true (.t 6))])
 (.cond (.t 7) (.seq (.af [qm 8 0,
 qo 9 (.aV (.t 8)),
 qo 10 (.aj 1 (.t 9)),
 qo 11 (.ld1 (.t 10)),
 qo 12 (.len (.t 11)),
 qo 13 (.mv (qk 0))])
 (.block 0 (.loop (.seq (.af [qo 14 (.bin .lss (.t 13) (.t 12))])
 (.seq (.cond (.t 14) .skip
 (.exit 0))
 (.seq (.block 1 (.seq (.af [qo 15 (.eG 2 (.t 11) (.t 13)),
 qo 16 (.bP 2 (.t 15)),
 qo 5 (.new 227 [q0,(.val (.slice none 0 0))]),
 qn (.st 2 (.t 5) (.t 16))])
 (.af [qm 17 3,
 qo 18 (.aj 1 (.t 5)),
 qo 19 (.ld1 (.t 18)),
 qo 20 (.len (.t 19)),
 qo 21 (.bin .add (.t 17) (.t 20)),
 qm 3 21])))
 (.af [qo 22 (.bin .add (.t 13) (qk 1)),
 qm 13 22])))))))
 .skip))
 (.seq (.af [qm 23 3,
 qm 2 23])
 .ret)))),
[(.t 2)])
theorem NK:aq Tryz.prog Tryz.f186=some Rh:=by kernel_rfl
def Kb:Nat×C×List RV:=(10,
(.seq (.af [qo 4 (.mv (qk 0))])
 (.seq (.af [qm 5 0,
 qo 6 (.aV (.t 5)),
 qo 7 (.aj 0 (.t 6)),
 qm 8 1,
 qo 9 ((.more (.UO (.t 7) (.t 8)))),
 qm 4 9])
 .ret)),
[(.t 4)])
theorem Fm:aq Tryz.prog Tryz.f127=some Kb:=by kernel_rfl
theorem B9 (n:Nat) (h1:1≤n) (h2:n≤65536):bw Tryz.prog G 27 [.int n] [] (.ptr 0 0) (eV (List.replicate n 0) 0):=by
 refine cG Tryz.func27 (by decide) Tp rfl ?_
 simp only [VF,go_sem,simprocAttr]
 simp only [decide_eq_false (show ¬ ((n:Nat):Int)<1 by omega),decide_eq_false (show ¬ ((n:Nat):Int)>65536 by omega),go_sem,simprocAttr]
 have c1:n*1≤70368744177664∧((n:Nat):Int)≤9223372036854775807:=by omega
 simp only [c1,go_sem,simprocAttr]
 refine dF [] [1,0] [] (vs:=[.ptr 1 0]) rfl rfl (by decide) (by simp) (by simp) ?_ ?_ ?_
 ·simp only [eV,List.length_replicate,aA,List.map_replicate,u8]
  rfl
 ·simp only [eV,List.length_replicate,aA,List.map_replicate,u8,go_sem,simprocAttr]
 ·simp [aW,ai]
theorem jv (l:List Int) (s:Int):bw Tryz.prog G 79 [.ptr 0 0] (eV l s) (.int l.length) (eV l s):=by
 refine aR Tryz.func79 (by decide) Tb rfl rfl rfl rfl ?_
 simp only [Vr,go_sem,simprocAttr]
 simp only [eV,go_sem,simprocAttr]
theorem HW (l:List Int) (s:Int):bw Tryz.prog G 127 [.ptr 0 2,.int 1] (eV l s) (.int (IntKind.i64.wrap (s+1))) (eV l (IntKind.i64.wrap (s+1))):=by
 refine aR Tryz.func127 (by decide) Fm rfl rfl rfl rfl ?_
 simp only [Kb,go_sem,simprocAttr]
 simp only [eV,go_sem,simprocAttr]
theorem iN (l:List Int) (s:Int) (a:Nat) (b:List Int) (h:a+b.length≤l.length) (hl:l.length≤65536):bw Tryz.prog G 130 [.ptr 0 0,.int a,au b] (eV l s) (.int 0) (i_ l s a b):=by
 refine cG Tryz.func130 (by decide) Ov rfl ?_
 simp only [eV,au,RQ,go_sem,simprocAttr]
 have w1:IntKind.i64.wrap ((l.length:Int)-(b.length:Int))=(l.length:Int)-b.length:=aO (by omega) (by omega)
 simp only [az,decide_eq_false (show ¬ ((a:Nat):Int)<0 by omega),decide_eq_false (show ¬ ((b.length:Nat):Int)>((l.length:Nat):Int) by omega),w1,decide_eq_false (show ¬ ((a:Nat):Int)>(l.length:Int)-(b.length:Int) by omega),go_sem,simprocAttr]
 have hc:=wV (G:=G) b (by omega)
 simp only [au] at hc
 refine bf (hc) rfl rfl rfl rfl ?_; simp only [go_sem,simprocAttr]
 refine av rfl ?_
 simp only [go_sem,simprocAttr]
 refine dF [] [0,1,3] [] (vs:=[.int 0]) rfl rfl (by decide) (by simp) (by simp) ?_ ?_ ?_
 ·simp only [i_,tF]
  rfl
 ·simp only [i_,tF,go_sem,simprocAttr]
 ·simp [aW,ai,LV.int]
def XO (l:List Int) (s:Int) (a:Nat) (b:List Int) (k:Nat):St:=⟨[(3,.int (if k=0 then 0 else (b.length:Int))),(11,.sl 2 1 2 0 1),(12,.int 1),(13,.int k)],(i_ l s a b).map some⟩
theorem xS (l:List Int) (s:Int) (a:Nat) (b:List Int) (hb:b.length≤1000000):bw Tryz.prog G 186 [.ptr 0 0] (i_ l s a b) (.int b.length) (i_ l s a b):=by
 refine aR Tryz.func186 (by decide) NK rfl rfl rfl rfl ?_
 simp only [Rh,go_sem,simprocAttr]
 simp only [i_,tF,go_sem,simprocAttr]
 refine aY [3,11,12,13] [] (fun k:Nat=>k≤1) (fun k=>1-k) (XO l s a b) 0 ?_ (Nat.zero_le _) (fun k hk=>?_)
 ·simp only [XO,i_,tF,go_sem,simprocAttr]
 simp only [XO,i_,tF,go_sem,simprocAttr]
 match k,hk with
 | 0,_=>
   have w1:IntKind.i64.wrap (0+(b.length:Int))=b.length:=by rw [aO (by omega) (by omega)]; omega
   simp only [az,w1,go_sem,simprocAttr]
   refine bz 1 ?_ ?_ (by decide) (by decide)
   ·simp only [go_sem,simprocAttr]
   ·simp only [XO,i_,tF,show IntKind.i64.wrap 1=1 from rfl,show ¬ (1:Nat)=0 by decide,go_sem,simprocAttr]
 | 1,_=>
   simp only [show ¬ (1:Nat)=0 by decide,go_sem,simprocAttr]
end Dv
namespace Dv
open Go Go.Proofs
variable {G:Nat→Option (List DV)}
def RS:Nat×C×List RV:=(41,
(.seq (.seq (.af [qm 7 0,
 qo 8 (.aV (.t 7)),
 qo 9 (.aj 1 (.t 8)),
 qo 10 (.ld1 (.t 9)),
 qo 11 (.len (.t 10)),
 qo 12 (.mv (qk 0))])
 (.block 0 (.loop (.seq (.af [qo 13 (.bin .lss (.t 12) (.t 11))])
 (.seq (.cond (.t 13) .skip
 (.exit 0))
 (.seq (.block 1 (.seq (.af [qo 14 (.eG 2 (.t 10) (.t 12)),
 qo 15 (.bP 2 (.t 14)),
 qo 5 (.new 227 [q0,(.val (.slice none 0 0))]),
 qn (.st 2 (.t 5) (.t 15))])
 (.seq (.af [qm 16 1,
 qo 17 (.aj 1 (.t 5)),
 qo 18 (.ld1 (.t 17)),
 qo 19 (.len (.t 18)),
 qo 20 (.min (.t 16) (.t 19)),
 qo 21 (.max (qk 0) (.t 20)),
 qm 6 21])
 (.seq (.bQ [qm 22 0,
 qd 23 (.aV (.t 22)) [0],
 qd 24 (.aj 0 (.t 23)) [1,0],
 qd 25 (.ld1 (.t 24)) [2,1,0],
 qo 26 (.aj 0 (.t 5)),
 qd 27 (.ld1 (.t 26)) [4],
 qd 28 (.zm 1 (.t 25) (some (.t 27)) none none) [3,2,1,0,5,4],
 qo 29 (.aj 1 (.t 5)),
 qd 30 (.ld1 (.t 29)) [7],
 qm 31 6,
 qd 32 (.zm 1 (.t 30) none (some (.t 31)) none) [8,7,9],
 qd 33 (.more (.T_ (.t 28) (.t 32))) [6,3,2,1,0,5,4,10,8,7,9]])
 (.af [qm 34 1,
 qm 35 6,
 qo 36 (.bin .sub (.t 34) (.t 35)),
 qm 1 36])))))
 (.af [qo 37 (.bin .add (.t 12) (qk 1)),
 qm 12 37])))))))
 (.af [qm 38 0,
 qo 39 (.aV (.t 38)),
 qo 40 (.aj 1 (.t 39)),
 qn (.st 1 (.t 40) (.c (.val (.slice none 0 0))))])),
[])
theorem Ox:aq Tryz.prog Tryz.f120=some RS:=by kernel_rfl
def Vj:Nat×C×List RV:=(12,
(.seq (.seq (.af [qm 2 0,
 qo 3 (.ic false (.t 2))])
 (.cond (.t 3) .ret
 .skip))
 (.seq (.af [qm 4 0,
 qm 5 0,
 qo 6 (.call (.f 186) [(.t 5)]),
 qo 7 (.call (.f 120) [(.t 4),(.t 6)])])
 (.af [qm 8 0,
 qo 9 (.aV (.t 8)),
 qo 10 (.aj 2 (.t 9)),
 qo 11 (.call (.f 127) [(.t 10),(qk 1)])]))),
[])
theorem SY:aq Tryz.prog Tryz.f96=some Vj:=by kernel_rfl
def Vv:Nat×C×List RV:=(31,
(.seq (.af [qo 2 (.mv (.c (.val (.slice none 0 0))))])
 (.seq (.seq (.af [qm 6 0,
 qo 7 (.ic false (.t 6))])
 (.cond (.t 7) (.seq (.af [qo 2 (.mv (.c (.val (.slice none 0 0))))])
 .ret)
 .skip))
 (.seq (.af [qm 8 0,
 qo 9 (.aV (.t 8)),
 qo 10 (.aj 0 (.t 9)),
 qo 11 (.ld1 (.t 10)),
 qo 12 (.call (.f 84) [(.t 11)]),
 qm 3 12])
 (.seq (.seq (.af [qm 13 0,
 qo 14 (.aV (.t 13)),
 qo 15 (.aj 1 (.t 14)),
 qo 16 (.ld1 (.t 15)),
 qo 17 (.len (.t 16)),
 qo 18 (.mv (qk 0))])
 (.block 0 (.loop (.seq (.af [qo 19 (.bin .lss (.t 18) (.t 17))])
 (.seq (.cond (.t 19) .skip
 (.exit 0))
 (.seq (.block 1 (.seq (.af [qo 20 (.eG 2 (.t 16) (.t 18)),
 qo 21 (.bP 2 (.t 20)),
 qo 5 (.new 227 [q0,(.val (.slice none 0 0))]),
 qn (.st 2 (.t 5) (.t 21))])
 (.bQ [qm 22 3,
 qo 23 (.aj 0 (.t 5)),
 qd 24 (.ld1 (.t 23)) [1],
 qd 25 (.zm 1 (.t 22) (some (.t 24)) none none) [0,2,1],
 qo 26 (.aj 1 (.t 5)),
 qd 27 (.ld1 (.t 26)) [4],
 qd 28 (.more (.T_ (.t 25) (.t 27))) [3,0,2,1,5,4]])))
 (.af [qo 29 (.bin .add (.t 18) (qk 1)),
 qm 18 29])))))))
 (.seq (.af [qm 30 3,
 qm 2 30])
 .ret))))),
[(.t 2)])
theorem Tf:aq Tryz.prog Tryz.f58=some Vv:=by kernel_rfl
def gI (keep:Int) (b:List Int):Nat:=(max 0 (min keep b.length)).toNat
def XR (l:List Int) (s:Int) (a:Nat) (b:List Int) (keep:Int) (k:Nat):St:=⟨[(0,.ptr 0 0),(1,.int (if k=0 then keep else keep-gI keep b)),(10,.sl 2 1 2 0 1),(11,.int 1),(12,.int k)],if k=0 then (i_ l s a b).map some else (i_ (en l a (b.take (gI keep b))) s a b).map some⟩
set_option maxHeartbeats 1000000 in
theorem Au (l:List Int) (s:Int) (a:Nat) (b:List Int) (h:a+b.length≤l.length) (hl:1≤l.length∧l.length≤65536) (keep:Int) (hk:-1000000000≤keep∧keep≤1000000000):bw Tryz.prog G 120 [.ptr 0 0,.int keep] (i_ l s a b) (.dP []) (eV (en l a (b.take (gI keep b))) s++[.dat 227 2 (tF a b)]):=by
 obtain ⟨m,hm⟩:∃ m,l.length=m+1:=⟨l.length-1,by omega⟩
 refine cG Tryz.func120 (by decide) Ox rfl ?_
 simp only [i_,tF,RS,go_sem,simprocAttr]
 refine aY [0,1,10,11,12] [] (fun k:Nat=>k≤1) (fun k=>1-k) (XR l s a b keep) 0 ?_ (Nat.zero_le _) (fun k hk=>?_)
 ·simp only [XR,i_,tF,go_sem,simprocAttr]
 simp only [XR,i_,tF,go_sem,simprocAttr]
 match k,hk with
 | 0,_=>
   have hkn:(if (if (b.length:Int)<keep then (b.length:Int) else keep)>0 then (if (b.length:Int)<keep then (b.length:Int) else keep) else 0)=((gI keep b:Nat):Int):=by unfold gI; split <;> split <;> omega
   have hkl:gI keep b≤b.length:=by unfold gI; omega
   have c1:a≤m+1∧m+1≤m+1:=by omega
   have c2:0≤gI keep b∧gI keep b≤b.length∧b.length≤b.length:=by omega
   have c3:(0:Int)≤((gI keep b:Nat):Int):=by omega
   simp only [az,hm,hkn,c1,c2,c3,gB,Nat.sub_zero,go_sem,simprocAttr]
   have hbt:(b.take (gI keep b)).length≤b.length:=by rw [List.length_take]; omega
   have c4:a+(m+1-a)≤m+1∧(b.take (gI keep b)).length≤m+1-a∧aA l≠[]:=⟨by omega,by omega,fun e=>by have:=congrArg List.length e; rw [az,hm] at this; exact absurd this (by simp)⟩
   have Ys:aA (l.take a)++aA (b.take (gI keep b))++aA (l.drop (a+(b.take (gI keep b)).length))=aA (en l a (b.take (gI keep b))):=by rw [← jE,← jE]; rfl
   have hol:(en l a (b.take (gI keep b))).length=m+1:=by rw [eZ (by omega),hm]
   have w1:IntKind.i64.wrap (keep-((gI keep b:Nat):Int))=keep-((gI keep b:Nat):Int):=aO (by omega) (by omega)
   rw [if_pos c4,fJ,Ys]
   simp only [go_sem,simprocAttr]
   refine av rfl ?_
   simp only [w1,go_sem,simprocAttr]
   refine bz 1 ?_ ?_ (by decide) (by decide)
   ·simp only [go_sem,simprocAttr]
   ·simp only [XR,i_,tF,hol,show IntKind.i64.wrap 1=1 from rfl,show ¬ (1:Nat)=0 by decide,go_sem,simprocAttr]
 | 1,_=>
   simp only [show ¬ (1:Nat)=0 by decide,go_sem,simprocAttr]
   refine dF [] [0,1,2] [] (vs:=[]) rfl rfl (by decide) (by simp) (by simp) ?_ ?_ ?_
   ·simp only [eV]
    rfl
   ·simp only [eV,go_sem,simprocAttr]
   ·simp [aW,ai,ah]
theorem GR (b:List Int):gI b.length b=b.length:=by unfold gI; omega
theorem jt (l:List Int) (s:Int) (a:Nat) (b:List Int) (h:a+b.length≤l.length) (hl:1≤l.length∧l.length≤65536):bw Tryz.prog G 96 [.ptr 0 0] (i_ l s a b) (.dP []) (eV (en l a b) (IntKind.i64.wrap (s+1))++[.dat 227 2 (tF a b)]):=by
 have hd:=Au (G:=G) l s a b h hl b.length (by omega)
 rw [GR,List.take_length] at hd
 have hw:=xS (G:=G) l s a b (by omega)
 have ha:=HW (G:=G) (en l a b) s
 simp only [i_,eV,tF,List.cons_append,List.nil_append] at hd hw ha
 refine aR Tryz.func96 (by decide) SY rfl rfl rfl rfl ?_
 simp only [Vj,go_sem,simprocAttr]
 simp only [i_,eV,tF,go_sem,simprocAttr]
 refine aK [0,1,2] (hw) rfl ?_ (by decide) ?_ ?_ (by simp) ?_ <;> simp only [ah,ai,go_sem,simprocAttr]
 refine aK [0,1,2] (hd) rfl ?_ (by decide) ?_ ?_ (by simp) ?_ <;> simp only [ah,ai,go_sem,simprocAttr]
 refine aK [0,1] (ha) rfl ?_ (by decide) ?_ ?_ (by simp) ?_ <;> simp only [ah,ai,go_sem,simprocAttr]
theorem Ek (l:List Int) (hl:1≤l.length∧l.length≤1000000):bw Tryz.prog G 84 [.sl 0 l.length 1 0 l.length] [.dat 5 1 (aA l)] (.sl 1 l.length 1 0 l.length) [.dat 5 1 (aA l),.dat 5 1 (aA l)]:=by
 obtain ⟨m,hm⟩:∃ m,l.length=m+1:=⟨l.length-1,by omega⟩
 have hr:(aA l).length=m+1:=by rw [az,hm]
 have ht:(aA l).take (m+1)=aA l:=List.take_of_length_le (by omega)
 rw [hm]
 refine cG Tryz.func84 (by decide) DI rfl ?_
 simp only [OK,go_sem,simprocAttr]
 have hb:(m+1)*1≤70368744177664:=by omega
 simp only [hr,ht,Nat.le_refl,go_sem,simprocAttr]
 simp only [hb,go_sem,simprocAttr]
 refine dF [] [0,1] [] (vs:=[.sl 1 (m+1) 1 0 (m+1)]) rfl rfl (by decide) (by simp) (by simp) rfl rfl ?_
 simp [aW,ai]
theorem kX (l:List Int) (s:Int) (hl:1≤l.length∧l.length≤65536):bw Tryz.prog G 58 [.ptr 0 0] (eV l s) (au l) (eV l s):=by
 obtain ⟨m,hm⟩:∃ m,l.length=m+1:=⟨l.length-1,by omega⟩
 refine cG Tryz.func58 (by decide) Tf rfl ?_
 simp only [eV,Vv,go_sem,simprocAttr]
 have hc:=Ek (G:=G) l (by omega)
 refine aK [1] (hc) rfl ?_ (by decide) ?_ ?_ (by simp) ?_ <;> simp only [ah,ai,go_sem,simprocAttr]
 refine aY [3,16,17,18] [] (fun k:Nat=>k=0) (fun k=>1-k) (fun _=>⟨[(3,.sl 2 l.length 1 0 l.length),(16,.d (.val (.slice none 0 0))),(17,.int 0),(18,.int 0)],(eV l s++[aD.dat 5 1 (aA l)]).map some⟩) 0 ?_ rfl (fun k hk=>?_)
 ·simp only [eV,go_sem,simprocAttr]
 simp only [eV,go_sem,simprocAttr]
 refine dF [] [0,1] [2] (vs:=[.sl 2 l.length 1 0 l.length]) rfl rfl (by decide) (by simp) (by simp [St.obj,aB,de]) rfl rfl ?_
 simp [St.obj,aB,aW,ai,bE,au,List.take_of_length_le,az,de]
end Dv
namespace Dv
open Go Go.Proofs
variable {G:Nat→Option (List DV)}
def ey (b:List Int) (a:Nat):List Int×Nat×Int:=
 if a>b.length then ([],a,2) else if a=b.length∨b.getD a 0=0 then ([],a,0) else
 match oV b a with
 | none=>([],a,2)
 | some (n,fr)=>
   if n>4000∨n+4≥(b.length:Int)-fr then ([],a,2)
   else if v_ ((b.drop fr).take (n.toNat+4))=false∨b.getD (fr+n.toNat+4) 0≠1 then ([],a,2)
   else ((b.drop fr).take n.toNat,fr+n.toNat+5,1)
def mW (q:List Int×Nat×Int):LV:=.dP [au q.1,.int q.2.1,.int q.2.2]
def QU:Nat×C×List RV:=(83,
(.seq (.af [qo 4 (.mv (.c (.val (.slice none 0 0)))),
 qo 5 (.mv (qk 0)),
 qo 6 (.mv (qk 0))])
 (.seq (.seq (.af [qm 11 1,
 qo 12 (.bin .lss (.t 11) (qk 0)),
 qm 13 12,
 qg 14 (.mv (.t 1)) 13 false,
 qg 15 (.mv (.t 0)) 13 false,
 qg 16 (.len (.t 15)) 13 false,
 qg 17 (.bin .gtr (.t 14) (.t 16)) 13 false,
 qo 18 (.pick (.t 13) qt (.t 17))])
 (.cond (.t 18) (.seq (.af [qm 19 1,
 qo 4 (.mv (.c (.val (.slice none 0 0)))),
 qm 5 19,
 qo 6 (.mv (qk 2))])
 .ret)
 .skip))
 (.seq (.seq (.af [qm 20 1,
 qm 21 0,
 qo 22 (.len (.t 21)),
 qo 23 (.bin .eql (.t 20) (.t 22)),
 qm 24 23,
 qg 25 (.mv (.t 0)) 24 false,
 qg 26 (.mv (.t 1)) 24 false,
 qg 27 (.eG 1 (.t 25) (.t 26)) 24 false,
 qg 28 (.ld1 (.t 27)) 24 false,
 qg 29 (.bin .eql (.t 28) (.c (.val (.int .u8 0)))) 24 false,
 qo 30 (.pick (.t 24) qt (.t 29))])
 (.cond (.t 30) (.seq (.af [qm 31 1,
 qo 4 (.mv (.c (.val (.slice none 0 0)))),
 qm 5 31,
 qo 6 (.mv (qk 0))])
 .ret)
 .skip))
 (.seq (.af [qm 33 0,
 qm 34 1,
 qo 35 (.call (.f 172) [(.t 33),(.t 34)]),
 qm 32 35,
 qo 36 (.ext (.t 32) 0),
 qo 37 (.ext (.t 32) 1),
 qo 38 (.ext (.t 32) 2),
 qm 7 36,
 qm 8 37,
 qm 9 38])
 (.seq (.seq (.af [qm 39 9,
 qo 40 (.not (.t 39)),
 qm 41 40,
 qg 42 (.mv (.t 7)) 41 false,
 qg 43 (.bin .gtr (.t 42) (qk 4000)) 41 false,
 qo 44 (.pick (.t 41) qt (.t 43)),
 qm 45 44,
 qg 46 (.mv (.t 7)) 45 false,
 qg 47 (.bin .add (.t 46) (qk 4)) 45 false,
 qg 48 (.mv (.t 0)) 45 false,
 qg 49 (.len (.t 48)) 45 false,
 qg 50 (.mv (.t 8)) 45 false,
 qg 51 (.bin .sub (.t 49) (.t 50)) 45 false,
 qg 52 (.bin .geq (.t 47) (.t 51)) 45 false,
 qo 53 (.pick (.t 45) qt (.t 52))])
 (.cond (.t 53) (.seq (.af [qm 54 1,
 qo 4 (.mv (.c (.val (.slice none 0 0)))),
 qm 5 54,
 qo 6 (.mv (qk 2))])
 .ret)
 .skip))
 (.seq (.af [qm 55 8,
 qm 56 7,
 qo 57 (.bin .add (.t 55) (.t 56)),
 qm 10 57])
 (.seq (.seq (.af [qm 58 0,
 qm 59 8,
 qm 60 10,
 qo 61 (.bin .add (.t 60) (qk 4)),
 qo 62 (.zm 1 (.t 58) (some (.t 59)) (some (.t 61)) none),
 qo 63 (.call (.f 271) [(.t 62)]),
 qo 64 (.not (.t 63)),
 qm 65 64,
 qg 66 (.mv (.t 0)) 65 false,
 qg 67 (.mv (.t 10)) 65 false,
 qg 68 (.bin .add (.t 67) (qk 4)) 65 false,
 qg 69 (.eG 1 (.t 66) (.t 68)) 65 false,
 qg 70 (.ld1 (.t 69)) 65 false,
 qg 71 (.bin .neq (.t 70) (.c (.val (.int .u8 1)))) 65 false,
 qo 72 (.pick (.t 65) qt (.t 71))])
 (.cond (.t 72) (.seq (.af [qm 73 1,
 qo 4 (.mv (.c (.val (.slice none 0 0)))),
 qm 5 73,
 qo 6 (.mv (qk 2))])
 .ret)
 .skip))
 (.seq (.af [qm 74 0,
 qm 75 8,
 qm 76 10,
 qm 77 10,
 qo 78 (.zm 1 (.t 74) (some (.t 75)) (some (.t 76)) (some (.t 77))),
 qo 79 (.call (.f 84) [(.t 78)]),
 qm 80 10,
 qo 81 (.bin .add (.t 80) (qk 4)),
 qo 82 (.bin .add (.t 81) (qk 1)),
 qm 4 79,
 qm 5 82,
 qo 6 (.mv (qk 1))])
 .ret)))))))),
[(.t 4),(.t 5),(.t 6)])
theorem Np:aq Tryz.prog Tryz.f226=some QU:=by kernel_rfl
def Rq:Nat×C×List RV:=(26,
(.seq (.af [qo 4 (.mv (.c (.val (.slice none 0 0)))),
 qo 5 (.mv (qk 0))])
 (.seq (.af [qo 6 (.mv (.c (.val (.slice none 0 0))))])
 (.block 0 (.loop (.block 1 (.seq (.af [qm 11 0,
 qm 12 1,
 qo 13 (.call (.f 226) [(.t 11),(.t 12)]),
 qm 10 13,
 qo 14 (.ext (.t 10) 0),
 qo 15 (.ext (.t 10) 1),
 qo 16 (.ext (.t 10) 2),
 qm 7 14,
 qm 8 15,
 qm 9 16])
 (.seq (.seq (.af [qm 17 9,
 qo 18 (.bin .neq (.t 17) (qk 1))])
 (.cond (.t 18) (.seq (.af [qm 19 6,
 qm 20 1,
 qm 4 19,
 qm 5 20])
 .ret)
 .skip))
 (.seq (.af [qm 21 6,
 qm 22 7,
 qo 23 (.nh 57 1 [(.t 22)]),
 qo 24 (.app 57 1 24 (.t 21) (.t 23)),
 qm 6 24])
 (.af [qm 25 8,
 qm 1 25]))))))))),
[(.t 4),(.t 5)])
theorem NT:aq Tryz.prog Tryz.f167=some Rq:=by kernel_rfl
set_option maxHeartbeats 1000000 in
theorem rM (b:List Int) (hb:∀ c∈b,0≤c∧c≤255) (hl:b.length≤1000000) (a:Nat) (ha:a≤1000000):bw Tryz.prog G 226 [au b,.int a] [] (mW (ey b a)) []:=by
 have hlb:(aA b).length=b.length:=az b
 refine cG Tryz.func226 (by decide) Np rfl ?_
 simp only [au,QU,go_sem,simprocAttr]
 simp only [decide_eq_false (show ¬ ((a:Nat):Int)<0 by omega),hlb,go_sem,simprocAttr]
 by_cases h1:a>b.length
 ·have hf:ey b a=([],a,2):=if_pos h1
  simp only [decide_eq_true (show ((a:Nat):Int)>((b.length:Nat):Int) by omega),go_sem,simprocAttr]
  exact dL [] rfl (by simp) (by simp [aW,St.get,bx,ai,ah,hf,mW,au,aA,LV.int])
 simp only [decide_eq_false (show ¬ ((a:Nat):Int)>((b.length:Nat):Int) by omega),go_sem,simprocAttr]
 by_cases h2:a=b.length
 ·have hf:ey b a=([],a,0):=by unfold ey; rw [if_neg h1,if_pos (.inl h2)]
  simp only [show (((a:Nat):Int)==((b.length:Nat):Int))=true by rw [beq_iff_eq]; omega,hlb,go_sem,simprocAttr]
  exact dL [] rfl (by simp) (by simp [aW,St.get,bx,ai,ah,hf,mW,au,aA,LV.int])
 have hlt:a<b.length:=by omega
 have hg:=aL (f:=fun n:Int=>[u8 n]) 0 hlt
 rw [show b.map (fun n:Int=>[u8 n])=aA b from rfl] at hg
 simp only [show (((a:Nat):Int)==((b.length:Nat):Int))=false from beq_eq_false_iff_ne.2 (by omega),hlb,hg,u8,go_sem,simprocAttr]
 by_cases h3:b.getD a 0=0
 ·have hf:ey b a=([],a,0):=by unfold ey; rw [if_neg h1,if_pos (.inr h3)]
  simp only [h3,go_sem,simprocAttr]
  exact dL [] rfl (by simp) (by simp [aW,St.get,bx,ai,ah,hf,mW,au,aA,LV.int])
 simp only [beq_eq_false_iff_ne.2 h3,go_sem,simprocAttr]
 have Ah:ey b a=match oV b a with
  | none=>([],a,2)
  | some (n,fr)=>if n>4000∨n+4≥(b.length:Int)-fr then ([],a,2)
    else if v_ ((b.drop fr).take (n.toNat+4))=false∨b.getD (fr+n.toNat+4) 0≠1 then ([],a,2)
    else ((b.drop fr).take n.toNat,fr+n.toNat+5,1):=by
  show (if a>b.length then _ else _)=_
  rw [if_neg h1,if_neg (by omega)]
 have hn:=qa (G:=G) b hb hl a ha (oV b a) rfl
 simp only [au] at hn
 cases hq:oV b a with
 | none=>
   rw [hq] at hn Ah
   simp only [iB,Gr,Gs,Option.isSome] at hn
   refine aC (hn) rfl rfl rfl rfl ?_; simp only [go_sem,simprocAttr]
   exact dL [] rfl (by simp) (by simp [aW,St.get,bx,ai,ah,Ah,mW,au,aA,LV.int])
 | some q=>
 obtain ⟨n,fr⟩:=q
 have hr:=wB (fun c hc=>(hb c hc).1) hq
 rw [hq] at hn Ah
 simp only [iB,Gr,Gs,Option.isSome] at hn
 simp only at Ah
 refine aC (hn) rfl rfl rfl rfl ?_; simp only [go_sem,simprocAttr]
 by_cases h4:n>4000
 ·rw [if_pos (.inl h4)] at Ah
  simp only [decide_eq_true h4,go_sem,simprocAttr]
  exact dL [] rfl (by simp) (by simp [aW,St.get,bx,ai,ah,Ah,mW,au,aA,LV.int])
 have w1:IntKind.i64.wrap (n+4)=n+4:=aO (by omega) (by omega)
 have w2:IntKind.i64.wrap ((b.length:Int)-(fr:Int))=(b.length:Int)-fr:=aO (by omega) (by omega)
 simp only [decide_eq_false h4,hlb,w1,w2,go_sem,simprocAttr]
 by_cases h5:n+4≥(b.length:Int)-fr
 ·rw [if_pos (.inr h5)] at Ah
  simp only [decide_eq_true h5,go_sem,simprocAttr]
  exact dL [] rfl (by simp) (by simp [aW,St.get,bx,ai,ah,Ah,mW,au,aA,LV.int])
 rw [if_neg (by omega)] at Ah
 obtain ⟨m,rfl⟩:=Int.eq_ofNat_of_zero_le hr.1
 rw [Int.toNat_natCast] at Ah
 have w3:IntKind.i64.wrap ((fr:Int)+((m:Nat):Int))=((fr+m:Nat):Int):=by rw [aO (by omega) (by omega)]; omega
 have w4:IntKind.i64.wrap (((fr+m:Nat):Int)+4)=((fr+m+4:Nat):Int):=by rw [aO (by omega) (by omega)]; omega
 have w5:IntKind.i64.wrap (((fr+m+4:Nat):Int)+1)=((fr+m+5:Nat):Int):=by rw [aO (by omega) (by omega)]; omega
 have c1:(0:Int)≤((fr+m+4:Nat):Int):=by omega
 have c2:fr≤fr+m+4∧fr+m+4≤b.length∧b.length≤b.length:=by omega
 have e1:fr+m+4-fr=m+4:=by omega
 have hs:=F8 (G:=G) ((b.drop fr).take (m+4)) (by rw [List.length_take,List.length_drop]; omega)
 simp only [au] at hs
 simp only [decide_eq_false h5,w3,w4,c1,hlb,c2,e1,fJ,gB,go_sem,simprocAttr]
 refine aC (hs) rfl rfl rfl rfl ?_; simp only [go_sem,simprocAttr]
 cases h6:v_ ((b.drop fr).take (m+4)) with
 | false=>
   rw [if_pos (.inl h6)] at Ah
   simp only [go_sem,simprocAttr]
   exact dL [] rfl (by simp) (by simp [aW,St.get,bx,ai,ah,Ah,mW,au,aA,LV.int])
 | true=>
 have hg2:=aL (f:=fun n:Int=>[u8 n]) 0 (show fr+m+4<b.length by omega)
 rw [show b.map (fun n:Int=>[u8 n])=aA b from rfl] at hg2
 simp only [w4,c1,hg2,u8,go_sem,simprocAttr]
 by_cases h7:b.getD (fr+m+4) 0=1
 ·rw [if_neg (by rw [h6,h7]; simp)] at Ah
  have c3:fr≤fr+m∧fr+m≤fr+m∧fr+m≤b.length:=by omega
  have e2:fr+m-fr=m:=by omega
  have hc:=wV (G:=G) ((b.drop fr).take m) (by rw [List.length_take,List.length_drop]; omega)
  simp only [au] at hc
  simp only [h7,bne_self_eq_false,hlb,c3,e2,fJ,gB,go_sem,simprocAttr]
  refine aC (hc) rfl rfl rfl rfl ?_; simp only [go_sem,simprocAttr]
  simp only [w4,w5,go_sem,simprocAttr]
  exact dL [] rfl (by simp) (by simp [aW,St.get,bx,ai,ah,Ah,mW,au,LV.int])
 ·rw [if_pos (.inr h7)] at Ah
  simp only [show (b.getD (fr+m+4) 0 !=1)=true from bne_iff_ne.2 h7,go_sem,simprocAttr]
  exact dL [] rfl (by simp) (by simp [aW,St.get,bx,ai,ah,Ah,mW,au,aA,LV.int])
theorem KR {b:List Int} (hb:∀ c∈b,0≤c) {a:Nat} (h:(ey b a).2.2=1):a<(ey b a).2.1∧(ey b a).2.1≤b.length∧(ey b a).1.length≤4000:=by
 unfold ey at h ⊢
 split at h
 ·exact absurd h (by simp)
 rename_i h1
 rw [if_neg h1]
 split at h
 ·exact absurd h (by simp)
 rename_i h2
 rw [if_neg h2]
 cases hq:oV b a with
 | none=>rw [hq] at h; exact absurd h (by simp)
 | some q=>
 obtain ⟨n,fr⟩:=q
 have hr:=wB hb hq
 rw [hq] at h
 simp only at h ⊢
 split at h
 ·exact absurd h (by simp)
 rename_i h3
 rw [if_neg h3]
 split at h
 ·exact absurd h (by simp)
 rename_i h4
 rw [if_neg h4]
 refine ⟨by dsimp only; omega,by dsimp only; omega,?_⟩
 rw [List.length_take,List.length_drop]
 omega
def H6 (b:List Int):Nat→List (List Int)→Nat→List (List Int)×Nat
 | 0,l,a=>(l,a)
 | f+1,l,a=>if (ey b a).2.2=1 then H6 b f (l++[(ey b a).1]) (ey b a).2.1 else (l,a)
def Pp (b:List Int) (q:List (List Int)×Nat):St:=⟨[(0,au b),(1,.int q.2),(6,.sl 0 q.1.length 1 0 q.1.length)],[some (.dat 57 1 (ec q.1))]⟩
set_option maxHeartbeats 1000000 in
theorem Ap (b:List Int) (hb:∀ c∈b,0≤c∧c≤255) (hl:b.length≤1000000) (a:Nat) (ha:a≤b.length) (R:List (List Int)×Nat) (hR:H6 b (b.length+1) [] a=R):bw Tryz.prog G 167 [au b,.int a] [] (.dP [.d (.dY 1 (ec R.1)),.int R.2]) []:=by
 refine cG Tryz.func167 (by decide) NT rfl ?_
 simp only [au,Rq,go_sem,simprocAttr]
 refine aY [0,1,6] [.t 6 57 1] (fun q:List (List Int)×Nat=>q.2≤b.length∧q.1.length≤q.2∧∃ f,b.length-q.2<f∧H6 b f q.1 q.2=R) (fun q=>b.length-q.2) (Pp b) ([],a) ?_ ⟨ha,Nat.zero_le _,_,by dsimp only; omega,hR⟩ ?_
 ·simp only [Pp,au,ec,go_sem,simprocAttr]
 rintro ⟨l,x⟩ ⟨hx,Ky,f,hf,hA⟩
 dsimp only at hx Ky hf hA
 simp only [Pp,au,go_sem,simprocAttr]
 have hg:=rM (G:=G) b hb hl x (by omega)
 simp only [au,mW] at hg
 refine aC (hg) rfl rfl rfl rfl ?_; simp only [go_sem,simprocAttr]
 obtain ⟨f,rfl⟩:∃ g,f=g+1:=⟨f-1,by omega⟩
 unfold H6 at hA
 by_cases h1:(ey b x).2.2=1
 ·rw [if_pos h1] at hA
  have he:=KR (fun c hc=>(hb c hc).1) h1
  have hcl:(ec l).length=l.length:=by simp [ec]
  have XA:ec l++[[DV.dY 1 (aA (ey b x).1)]]=ec (l++[(ey b x).1]):=by simp [ec]
  have OW:(ec (l++[(ey b x).1])).length*24≤70368744177664:=by
   have:(ec (l++[(ey b x).1])).length=l.length+1:=by simp [ec]
   omega
  simp only [h1,bne_self_eq_false,go_sem,simprocAttr]
  rw [hcl,XA,if_pos ⟨rfl,OW⟩]
  simp only [go_sem,simprocAttr]
  refine bz (l++[(ey b x).1],(ey b x).2.1) ?_ ?_ ⟨he.2.1,by simp; omega,f,by dsimp only; omega,hA⟩ (by dsimp only; omega)
  ·simp only [go_sem,simprocAttr]
  ·simp only [Pp,au,List.length_append,go_sem,simprocAttr]
 ·rw [if_neg h1] at hA
  simp only [show ((ey b x).2.2 !=1)=true from bne_iff_ne.2 h1,go_sem,simprocAttr]
  subst hA
  exact dL [0] rfl (by simp [St.obj,aB]) (by simp [St.obj,aB,aW,St.get,bx,ai,ah,bE,ec,List.take_of_length_le])
end Dv
namespace Dv
open Go Go.Proofs
variable {G:Nat→Option (List DV)}
def BF (l:List Int) (s:Int) (fr sz us:Nat):List aD:=[.box 245 [.ptr 1 0,.int fr,.int sz,.int us],.box 150 [.sl 2 l.length 1 0 l.length,.d (.val (.slice none 0 0)),.int s],.dat 5 1 (aA l)]
def Rp:Nat×C×List RV:=(45,
(.seq (.bQ [qm 5 0,
 qd 6 (.aV (.t 5)) [0],
 qd 7 (.aj 0 (.t 6)) [1,0],
 qd 8 (.ld1 (.t 7)) [2,1,0],
 qd 9 (.call (.f 58) [(.t 8)]) [3,2,1,0],
 qm 10 0,
 qd 11 (.aV (.t 10)) [5],
 qd 12 (.aj 1 (.t 11)) [6,5],
 qd 13 (.ld1 (.t 12)) [7,6,5],
 qm 14 1,
 qd 15 (.bin .add (.t 13) (.t 14)) [8,7,6,5,9],
 qm 16 0,
 qd 17 (.aV (.t 16)) [11],
 qd 18 (.aj 1 (.t 17)) [12,11],
 qd 19 (.ld1 (.t 18)) [13,12,11],
 qm 20 0,
 qd 21 (.aV (.t 20)) [15],
 qd 22 (.aj 2 (.t 21)) [16,15],
 qd 23 (.ld1 (.t 22)) [17,16,15],
 qd 24 (.bin .add (.t 19) (.t 23)) [14,13,12,11,18,17,16,15],
 qd 25 (.zm 1 (.t 9) (some (.t 15)) (some (.t 24)) none) [4,3,2,1,0,10,8,7,6,5,9,19,14,13,12,11,18,17,16,15],
 qd 26 (.call (.f 84) [(.t 25)]) [20,4,3,2,1,0,10,8,7,6,5,9,19,14,13,12,11,18,17,16,15],
 qd 4 (.mv (.t 26)) [21,20,4,3,2,1,0,10,8,7,6,5,9,19,14,13,12,11,18,17,16,15]])
 (.seq (.af [qm 27 4,
 qn ((.more (.UK 1 [(.val (.int .u8 0))] (.t 27))))])
 (.seq (.bQ [qm 28 0,
 qd 29 (.aV (.t 28)) [0],
 qd 30 (.aj 0 (.t 29)) [1,0],
 qd 31 (.ld1 (.t 30)) [2,1,0],
 qm 32 0,
 qd 33 (.aV (.t 32)) [4],
 qd 34 (.aj 1 (.t 33)) [5,4],
 qd 35 (.ld1 (.t 34)) [6,5,4],
 qm 36 1,
 qd 37 (.bin .add (.t 35) (.t 36)) [7,6,5,4,8],
 qm 38 4,
 qd 39 (.call (.f 130) [(.t 31),(.t 37),(.t 38)]) [3,2,1,0,9,7,6,5,4,8,10]])
 (.af [qm 40 0,
 qo 41 (.aV (.t 40)),
 qo 42 (.aj 0 (.t 41)),
 qo 43 (.ld1 (.t 42)),
 qo 44 (.call (.f 96) [(.t 43)])])))),
[])
theorem NS:aq Tryz.prog Tryz.f168=some Rp:=by kernel_rfl
def QO:Nat×C×List RV:=(33,
(.seq (.af [qo 4 (.mv qf)])
 (.seq (.bQ [qm 5 0,
 qd 6 (.ic true (.t 5)) [0],
 qd 7 (.mv (.t 6)) [1,0],
 qe 8 (.mv (.t 1)) 7 true [2,1,0],
 qe 9 (.bin .geq (.t 8) (qk 1)) 7 true [3,2,1,0],
 qd 10 (.pick (.t 7) (.t 9) qf) [2,1,0,4,3],
 qd 11 (.mv (.t 10)) [5,2,1,0,4,3],
 qe 12 (.mv (.t 1)) 11 true [6,5,2,1,0,4,3],
 qe 13 (.bin .leq (.t 12) (qk 4000)) 11 true [7,6,5,2,1,0,4,3],
 qd 14 (.pick (.t 11) (.t 13) qf) [6,5,2,1,0,4,3,8,7],
 qd 15 (.mv (.t 14)) [9,6,5,2,1,0,4,3,8,7],
 qe 16 (.mv (.t 1)) 15 true [10,9,6,5,2,1,0,4,3,8,7],
 qe 17 (.call (.f 230) [(.t 16)]) 15 true [11,10,9,6,5,2,1,0,4,3,8,7],
 qe 18 (.len (.t 17)) 15 true [12,11,10,9,6,5,2,1,0,4,3,8,7],
 qe 19 (.mv (.t 1)) 15 true [10,9,6,5,2,1,0,4,3,8,7],
 qe 20 (.bin .add (.t 18) (.t 19)) 15 true [13,12,11,10,9,6,5,2,1,0,4,3,8,7,14],
 qe 21 (.bin .add (.t 20) (qk 5)) 15 true [15,13,12,11,10,9,6,5,2,1,0,4,3,8,7,14],
 qe 22 (.mv (.t 0)) 15 true [10,9,6,5,2,1,0,4,3,8,7],
 qe 23 (.aV (.t 22)) 15 true [17,10,9,6,5,2,1,0,4,3,8,7],
 qe 24 (.aj 2 (.t 23)) 15 true [18,17,10,9,6,5,2,1,0,4,3,8,7],
 qe 25 (.ld1 (.t 24)) 15 true [19,18,17,10,9,6,5,2,1,0,4,3,8,7],
 qe 26 (.mv (.t 0)) 15 true [10,9,6,5,2,1,0,4,3,8,7],
 qe 27 (.aV (.t 26)) 15 true [21,10,9,6,5,2,1,0,4,3,8,7],
 qe 28 (.aj 3 (.t 27)) 15 true [22,21,10,9,6,5,2,1,0,4,3,8,7],
 qe 29 (.ld1 (.t 28)) 15 true [23,22,21,10,9,6,5,2,1,0,4,3,8,7],
 qe 30 (.bin .sub (.t 25) (.t 29)) 15 true [20,19,18,17,10,9,6,5,2,1,0,4,3,8,7,24,23,22,21],
 qe 31 (.bin .leq (.t 21) (.t 30)) 15 true [16,15,13,12,11,10,9,6,5,2,1,0,4,3,8,7,14,25,20,19,18,17,24,23,22,21],
 qd 32 (.pick (.t 15) (.t 31) qf) [10,9,6,5,2,1,0,4,3,8,7,26,16,15,13,12,11,14,25,20,19,18,17,24,23,22,21],
 qd 4 (.mv (.t 32)) [27,10,9,6,5,2,1,0,4,3,8,7,26,16,15,13,12,11,14,25,20,19,18,17,24,23,22,21]])
 .ret)),
[(.t 4)])
theorem Nl:aq Tryz.prog Tryz.f235=some QO:=by kernel_rfl
def Rj:Nat×C×List RV:=(51,
(.seq (.af [qo 4 (.mv (qk 0))])
 (.seq (.block 0 (.seq (.af [qm 7 0,
 qo 8 (.ic false (.t 7)),
 qm 9 8,
 qg 10 (.mv (.t 1)) 9 false,
 qg 11 (.len (.t 10)) 9 false,
 qg 12 (.bin .eql (.t 11) (qk 0)) 9 false,
 qo 13 (.pick (.t 9) qt (.t 12)),
 qm 14 13,
 qg 15 (.mv (.t 1)) 14 false,
 qg 16 (.len (.t 15)) 14 false,
 qg 17 (.bin .gtr (.t 16) (qk 4000)) 14 false,
 qo 18 (.pick (.t 14) qt (.t 17)),
 qm 6 18])
 (.cond (.t 6) (.seq (.af [qo 4 (.mv (qk 1))])
 .ret)
 (.seq (.af [qm 20 0,
 qm 21 1,
 qo 22 (.len (.t 21)),
 qo 23 (.call (.f 235) [(.t 20),(.t 22)]),
 qo 24 (.not (.t 23)),
 qm 19 24])
 (.cond (.t 19) (.seq (.af [qo 4 (.mv (qk 3))])
 .ret)
 .skip)))))
 (.seq (.af [qm 25 1,
 qo 26 (.call (.f 231) [(.t 25)]),
 qm 5 26])
 (.seq (.bQ [qm 27 0,
 qd 28 (.aV (.t 27)) [0],
 qd 29 (.aj 0 (.t 28)) [1,0],
 qd 30 (.ld1 (.t 29)) [2,1,0],
 qm 31 0,
 qd 32 (.aV (.t 31)) [4],
 qd 33 (.aj 1 (.t 32)) [5,4],
 qd 34 (.ld1 (.t 33)) [6,5,4],
 qm 35 0,
 qd 36 (.aV (.t 35)) [8],
 qd 37 (.aj 3 (.t 36)) [9,8],
 qd 38 (.ld1 (.t 37)) [10,9,8],
 qd 39 (.bin .add (.t 34) (.t 38)) [7,6,5,4,11,10,9,8],
 qm 40 5,
 qd 41 (.call (.f 130) [(.t 30),(.t 39),(.t 40)]) [3,2,1,0,12,7,6,5,4,11,10,9,8,13]])
 (.seq (.af [qm 42 0,
 qo 43 (.aV (.t 42)),
 qo 44 (.aj 3 (.t 43)),
 qo 45 (.ld1 (.t 44)),
 qm 46 5,
 qo 47 (.len (.t 46)),
 qo 48 (.bin .add (.t 45) (.t 47)),
 qo 49 (.aV (.t 42)),
 qo 50 (.aj 3 (.t 49)),
 qn (.st 1 (.t 50) (.t 48))])
 (.seq (.af [qo 4 (.mv (qk 0))])
 .ret)))))),
[(.t 4)])
theorem NM:aq Tryz.prog Tryz.f184=some Rj:=by kernel_rfl
def Vl:Nat×C×List RV:=(9,
(.seq (.seq (.af [qm 2 0,
 qo 3 (.ic false (.t 2))])
 (.cond (.t 3) .ret
 .skip))
 (.seq (.af [qm 4 0,
 qo 5 (.call (.f 168) [(.t 4),(qk 0)])])
 (.af [qm 6 0,
 qo 7 (.aV (.t 6)),
 qo 8 (.aj 3 (.t 7)),
 qn (.st 1 (.t 8) (qk 0))]))),
[])
theorem S6:aq Tryz.prog Tryz.f86=some Vl:=by kernel_rfl
theorem w9 (n:Nat):aA (List.replicate n 0)=List.replicate n [u8 0]:=by simp [aA]
set_option maxHeartbeats 1000000 in
theorem tU (l:List Int) (s:Int) (fr sz us a:Nat) (hf:fr+sz≤l.length) (ha:a<sz) (hl:1≤l.length∧l.length≤65536):bw Tryz.prog G 168 [.ptr 0 0,.int a] (BF l s fr sz us) (.dP []) (BF (en l (fr+a) (List.replicate (sz-a) 0)) (IntKind.i64.wrap (s+1)) fr sz us):=by
 have hb:=kX (G:=G) l s hl
 have hk:=iN (G:=G) l s (fr+a) (List.replicate (sz-a) 0) (by rw [List.length_replicate]; omega) hl.2
 have hs:=jt (G:=G) l s (fr+a) (List.replicate (sz-a) 0) (by rw [List.length_replicate]; omega) hl
 simp only [eV,i_,tF,au,w9,List.cons_append,List.nil_append] at hb hk hs
 have w1:IntKind.i64.wrap ((fr:Int)+(a:Int))=((fr+a:Nat):Int):=by rw [aO (by omega) (by omega)]; omega
 have w2:IntKind.i64.wrap ((fr:Int)+(sz:Int))=((fr+sz:Nat):Int):=by rw [aO (by omega) (by omega)]; omega
 have c1:fr+a≤fr+sz∧fr+sz≤l.length∧l.length≤l.length:=by omega
 have c2:(0:Int)≤((fr+sz:Nat):Int):=by omega
 have c3:(0:Int)≤((fr+a:Nat):Int):=by omega
 have e1:fr+sz-(fr+a)=sz-a:=by omega
 have hc:=Ce (G:=G) ((l.drop (fr+a)).take (sz-a)) (by rw [List.length_take,List.length_drop]; omega)
 have hcl:((l.drop (fr+a)).take (sz-a)).length=sz-a:=by rw [List.length_take,List.length_drop]; omega
 rw [hcl] at hc
 simp only [au] at hc
 refine cG Tryz.func168 (by decide) NS rfl ?_
 simp only [BF,Rp,go_sem,simprocAttr]
 refine eS [1,2] (hb) rfl ?_ (by decide) ?_ ?_ (by simp) ?_ <;> simp only [ah,ai,go_sem,simprocAttr]
 simp only [w1,w2,c1,c2,c3,e1,az,fJ,gB,go_sem,simprocAttr]
 refine iU hc rfl rfl rfl ?_
 simp only [go_sem,simprocAttr]
 refine av rfl ?_
 simp only [go_sem,simprocAttr]
 have c4:sz-a=(aA ((l.drop (fr+a)).take (sz-a))).length∧sz-a≤(aA ((l.drop (fr+a)).take (sz-a))).length∧0<sz-a:=by rw [az,hcl]; omega
 have YQ:(aA ((l.drop (fr+a)).take (sz-a))).drop (sz-a)=[]:=List.drop_eq_nil_of_le (by rw [az,hcl]; exact Nat.le_refl _)
 have hob:(en l (fr+a) (List.replicate (sz-a) 0)).length=l.length:=eZ (by rw [List.length_replicate]; omega)
 rw [if_pos c4]
 simp only [w1,go_sem,simprocAttr]
 refine xw [1,2] [3] (hk) rfl (by simp [ah,ai,bE,aB,u8,az,hcl,go_sem,simprocAttr]) (by decide) (by decide) (by simp [aB]) (by simp only [go_sem,simprocAttr]) (by simp only [go_sem,simprocAttr]) (by simp) ?_; simp only [go_sem,simprocAttr,u8]
 refine av rfl ?_
 simp only [go_sem,simprocAttr]
 refine aK [1,2,4] (hs) rfl ?_ (by decide) ?_ ?_ (by simp) ?_ <;> simp only [ah,ai,go_sem,simprocAttr,u8]
 refine dF [] [0,1,2] [] (vs:=[]) rfl rfl (by decide) (by simp) (by simp) rfl rfl ?_
 simp [aW,ai,ah]
def qT (sz us n:Nat):Bool:=decide (1≤n∧n≤4000∧(cc n).length+n+5+us≤sz)
theorem tW (l:List Int) (s:Int) (fr sz us n:Nat) (hu:us≤sz) (hs:sz≤65536) (hn:n≤1000000):bw Tryz.prog G 235 [.ptr 0 0,.int n] (BF l s fr sz us) (.bool (qT sz us n)) (BF l s fr sz us):=by
 have hm:=l9 (G:=G) (n:Int)
 have h9:=gw (n:Int)
 simp only [au] at hm
 refine aR Tryz.func235 (by decide) Nl rfl rfl rfl rfl ?_
 simp only [QO,go_sem,simprocAttr]
 simp only [BF,go_sem,simprocAttr]
 by_cases h1:1≤n
 case neg=>
  simp only [decide_eq_false (show ¬ ((n:Nat):Int)≥1 by omega),go_sem,simprocAttr]
  simp only [qT,decide_eq_false (show ¬ (1≤n∧n≤4000∧(cc n).length+n+5+us≤sz) by omega)]
 by_cases h2:n≤4000
 case neg=>
  simp only [decide_eq_true (show ((n:Nat):Int)≥1 by omega),decide_eq_false (show ¬ ((n:Nat):Int)≤4000 by omega),go_sem,simprocAttr]
  simp only [qT,decide_eq_false (show ¬ (1≤n∧n≤4000∧(cc n).length+n+5+us≤sz) by omega)]
 simp only [decide_eq_true (show ((n:Nat):Int)≥1 by omega),decide_eq_true (show ((n:Nat):Int)≤4000 by omega),go_sem,simprocAttr]
 refine bf (hm) rfl rfl rfl rfl ?_; simp only [go_sem,simprocAttr]
 have w1:IntKind.i64.wrap (((cc n).length:Int)+(n:Int))=(((cc n).length+n:Nat):Int):=by rw [aO (by omega) (by omega)]; omega
 have w2:IntKind.i64.wrap ((((cc n).length+n:Nat):Int)+5)=(((cc n).length+n+5:Nat):Int):=by rw [aO (by omega) (by omega)]; omega
 have w3:IntKind.i64.wrap ((sz:Int)-(us:Int))=((sz-us:Nat):Int):=by rw [aO (by omega) (by omega)]; omega
 simp only [az,w1,w2,w3,go_sem,simprocAttr]
 exact decide_eq_decide.2 (by omega)
def Zp (l:List Int) (s:Int) (fr sz us a:Nat) (b:List Int):List aD:=[.box 245 [.ptr 1 0,.int fr,.int sz,.int us],.box 150 [.sl 2 l.length 1 0 l.length,.sl 3 1 2 0 1,.int s],.dat 5 1 (aA l),.dat 227 2 (tF a b)]
theorem vD {p:List Int} (h:1≤p.length∧p.length≤4000):(mZ p).length=(cc p.length).length+p.length+5:=by
 unfold mZ
 rw [if_neg (by omega)]
 simp only [List.length_append,vi,List.length_cons,List.length_nil]
set_option maxHeartbeats 1000000 in
theorem DA (l:List Int) (s:Int) (fr sz us:Nat) (p:List Int) (hf:fr+sz≤l.length) (hu:us≤sz) (hl:1≤l.length∧l.length≤65536) (hr:qT sz us p.length=true):bw Tryz.prog G 184 [.ptr 0 0,au p] (BF l s fr sz us) (.int 0) (Zp l s fr sz (us+(mZ p).length) (fr+us) (mZ p)):=by
 have Fx:1≤p.length∧p.length≤4000∧(cc p.length).length+p.length+5+us≤sz:=of_decide_eq_true hr
 have mq:=vD ⟨Fx.1,Fx.2.1⟩
 have hq:=tW (G:=G) l s fr sz us p.length hu (by omega) (by omega)
 have hp:=mw (G:=G) p (by omega)
 have hw:=iN (G:=G) l s (fr+us) (mZ p) (by omega) hl.2
 rw [hr] at hq
 simp only [BF,eV,i_,tF,au] at hq hp hw
 refine cG Tryz.func184 (by decide) NM rfl ?_
 simp only [BF,au,Rj,go_sem,simprocAttr]
 simp only [az,show (((p.length:Nat):Int)==0)=false from beq_eq_false_iff_ne.2 (by omega),go_sem,simprocAttr]
 simp only [az,decide_eq_false (show ¬ ((p.length:Nat):Int)>4000 by omega),go_sem,simprocAttr]
 refine aK [0,1,2] (hq) rfl ?_ (by decide) ?_ ?_ (by simp) ?_ <;> simp only [ah,ai,go_sem,simprocAttr]
 refine aC (hp) rfl rfl rfl rfl ?_; simp only [go_sem,simprocAttr]
 have w1:IntKind.i64.wrap ((fr:Int)+(us:Int))=((fr+us:Nat):Int):=by rw [aO (by omega) (by omega)]; omega
 have w2:IntKind.i64.wrap ((us:Int)+((mZ p).length:Int))=((us+(mZ p).length:Nat):Int):=by rw [aO (by omega) (by omega)]; omega
 simp only [w1,go_sem,simprocAttr]
 refine eS [1,2] (hw) rfl ?_ (by decide) ?_ ?_ (by simp) ?_ <;> simp only [ah,ai,go_sem,simprocAttr]
 refine av rfl ?_
 simp only [az,w2,go_sem,simprocAttr]
 refine dF [] [0,1,2,3] [] (vs:=[.int 0]) rfl rfl (by decide) (by simp) (by simp) rfl rfl ?_
 simp [aW,ai,LV.int]
theorem zV (l:List Int) (s:Int) (fr sz us:Nat) (hf:fr+sz≤l.length) (hz:1≤sz) (hl:1≤l.length∧l.length≤65536):bw Tryz.prog G 86 [.ptr 0 0] (BF l s fr sz us) (.dP []) (BF (en l fr (List.replicate sz 0)) (IntKind.i64.wrap (s+1)) fr sz 0):=by
 have hn:=tU (G:=G) l s fr sz us 0 hf (by omega) hl
 simp only [BF,Nat.add_zero,Nat.sub_zero] at hn
 refine aR Tryz.func86 (by decide) S6 rfl rfl rfl rfl ?_
 simp only [Vl,go_sem,simprocAttr]
 simp only [BF,go_sem,simprocAttr]
 refine aK [0,1,2] (hn) rfl ?_ (by decide) ?_ ?_ (by simp) ?_ <;> simp only [ah,ai,go_sem,simprocAttr]
end Dv
namespace Dv
open Go Go.Proofs
variable {G:Nat→Option (List DV)}
theorem KP (b:List Int) (a:Nat):(∀ c∈(ey b a).1,c∈b)∧(ey b a).1.length≤b.length:=by
 unfold ey
 split
 ·simp
 split
 ·simp
 cases oV b a with
 | none=>simp
 | some q=>
 obtain ⟨n,fr⟩:=q
 simp only
 split
 ·simp
 split
 ·simp
 refine ⟨fun c hc=>List.mem_of_mem_drop (List.mem_of_mem_take hc),?_⟩
 dsimp only
 rw [List.length_take,List.length_drop]
 omega
def kj (l:List Int) (s:Int) (fr sz:Nat):List aD:=[.box 243 [.ptr 1 0,.int fr,.int sz],.box 150 [.sl 2 l.length 1 0 l.length,.d (.val (.slice none 0 0)),.int s],.dat 5 1 (aA l)]
def ki (l:List Int) (fr sz k:Nat):List Int:=(l.drop (fr+k*sz)).take sz
def sM (l:List Int) (fr sz k:Nat):Option (List Int×Int):=
 if (ey (ki l fr sz k) 0).2.2=1 then (oV (ey (ki l fr sz k) 0).1 0).map fun q=>((ey (ki l fr sz k) 0).1.drop q.2,q.1) else none
def m_:Option (List Int×Int)→LV
 | none=>.dP [au [],.int 0,.bool false]
 | some q=>.dP [au q.1,.int q.2,.bool true]
def QT:Nat×C×List RV:=(16,
(.seq (.af [qo 4 (.mv (qk 0))])
 (.seq (.bQ [qm 5 0,
 qd 6 (.aV (.t 5)) [0],
 qd 7 (.aj 1 (.t 6)) [1,0],
 qd 8 (.ld1 (.t 7)) [2,1,0],
 qm 9 1,
 qm 10 0,
 qd 11 (.aV (.t 10)) [5],
 qd 12 (.aj 2 (.t 11)) [6,5],
 qd 13 (.ld1 (.t 12)) [7,6,5],
 qd 14 (.bin .mul (.t 9) (.t 13)) [4,8,7,6,5],
 qd 15 (.bin .add (.t 8) (.t 14)) [3,2,1,0,9,4,8,7,6,5],
 qd 4 (.mv (.t 15)) [10,3,2,1,0,9,4,8,7,6,5]])
 .ret)),
[(.t 4)])
theorem No:aq Tryz.prog Tryz.f227=some QT:=by kernel_rfl
def Rn:Nat×C×List RV:=(51,
(.seq (.af [qo 4 (.mv (.c (.val (.slice none 0 0)))),
 qo 5 (.mv (qk 0)),
 qo 6 (.mv qf)])
 (.seq (.af [qm 14 0,
 qm 15 1,
 qo 16 (.call (.f 227) [(.t 14),(.t 15)]),
 qm 7 16])
 (.seq (.bQ [qm 18 0,
 qd 19 (.aV (.t 18)) [0],
 qd 20 (.aj 0 (.t 19)) [1,0],
 qd 21 (.ld1 (.t 20)) [2,1,0],
 qd 22 (.call (.f 58) [(.t 21)]) [3,2,1,0],
 qm 23 7,
 qm 24 7,
 qm 25 0,
 qd 26 (.aV (.t 25)) [7],
 qd 27 (.aj 2 (.t 26)) [8,7],
 qd 28 (.ld1 (.t 27)) [9,8,7],
 qd 29 (.bin .add (.t 24) (.t 28)) [6,10,9,8,7],
 qd 30 (.zm 1 (.t 22) (some (.t 23)) (some (.t 29)) none) [4,3,2,1,0,5,11,6,10,9,8,7],
 qd 31 (.call (.f 226) [(.t 30),(qk 0)]) [12,4,3,2,1,0,5,11,6,10,9,8,7],
 qd 17 (.mv (.t 31)) [13,12,4,3,2,1,0,5,11,6,10,9,8,7],
 qd 32 (.ext (.t 17) 0) [14,13,12,4,3,2,1,0,5,11,6,10,9,8,7],
 qd 33 (.ext (.t 17) 1) [14,13,12,4,3,2,1,0,5,11,6,10,9,8,7],
 qd 34 (.ext (.t 17) 2) [14,13,12,4,3,2,1,0,5,11,6,10,9,8,7],
 qd 8 (.mv (.t 32)) [15,14,13,12,4,3,2,1,0,5,11,6,10,9,8,7],
 qd 9 (.mv (.t 33)) [16,14,13,12,4,3,2,1,0,5,11,6,10,9,8,7,18,15],
 qd 10 (.mv (.t 34)) [17,14,13,12,4,3,2,1,0,5,11,6,10,9,8,7,19,16,18,15]])
 (.seq (.af [qm 36 8,
 qo 37 (.call (.f 172) [(.t 36),(qk 0)]),
 qm 35 37,
 qo 38 (.ext (.t 35) 0),
 qo 39 (.ext (.t 35) 1),
 qo 40 (.ext (.t 35) 2),
 qm 11 38,
 qm 12 39,
 qm 13 40])
 (.seq (.seq (.af [qm 41 10,
 qo 42 (.bin .neq (.t 41) (qk 1)),
 qm 43 42,
 qg 44 (.mv (.t 13)) 43 false,
 qg 45 (.not (.t 44)) 43 false,
 qo 46 (.pick (.t 43) qt (.t 45))])
 (.cond (.t 46) (.seq (.af [qo 4 (.mv (.c (.val (.slice none 0 0)))),
 qo 5 (.mv (qk 0)),
 qo 6 (.mv qf)])
 .ret)
 .skip))
 (.seq (.af [qm 47 8,
 qm 48 12,
 qo 49 (.zm 1 (.t 47) (some (.t 48)) none none),
 qm 50 11,
 qm 4 49,
 qm 5 50,
 qo 6 (.mv qt)])
 .ret)))))),
[(.t 4),(.t 5),(.t 6)])
theorem NQ:aq Tryz.prog Tryz.f170=some Rn:=by kernel_rfl
def Ro:Nat×C×List RV:=(29,
(.seq (.af [qo 2 (.mv (qk 0))])
 (.seq (.af [qo 3 (.mv (.c (.val (.int .i64 (-1))))),
 qo 4 (.mv (.c (.val (.int .i64 (-1)))))])
 (.seq (.seq (.af [qo 9 (.mv (qk 0))])
 (.block 0 (.loop (.seq (.af [qo 10 (.bin .lss (.t 9) (qk 2))])
 (.seq (.cond (.t 10) .skip
 (.exit 0))
 (.seq (.block 1 (.seq (.af [qm 11 9,
 qm 5 11])
 (.seq (.af [qm 13 0,
 qm 14 5,
 qo 15 (.call (.f 170) [(.t 13),(.t 14)]),
 qm 12 15,
 qo 16 (.ext (.t 12) 0),
 qo 17 (.ext (.t 12) 1),
 qo 18 (.ext (.t 12) 2),
 qm 6 16,
 qm 7 17,
 qm 8 18])
 (.seq (.af [qm 19 8,
 qm 20 19,
 qg 21 (.mv (.t 7)) 20 true,
 qg 22 (.mv (.t 4)) 20 true,
 qg 23 (.bin .gtr (.t 21) (.t 22)) 20 true,
 qo 24 (.pick (.t 20) (.t 23) qf)])
 (.cond (.t 24) (.af [qm 25 5,
 qm 26 7,
 qm 3 25,
 qm 4 26])
 .skip)))))
 (.af [qo 27 (.bin .add (.t 9) (qk 1)),
 qm 9 27])))))))
 (.seq (.af [qm 28 3,
 qm 2 28])
 .ret)))),
[(.t 2)])
theorem NR:aq Tryz.prog Tryz.f169=some Ro:=by kernel_rfl
def Vo:Nat×C×List RV:=(19,
(.seq (.af [qo 2 (.mv (.c (.val (.slice none 0 0)))),
 qo 3 (.mv (qk 0)),
 qo 4 (.mv qf)])
 (.seq (.seq (.af [qm 5 0,
 qo 6 (.ic false (.t 5)),
 qm 7 6,
 qg 8 (.mv (.t 0)) 7 false,
 qg 9 (.call (.f 169) [(.t 8)]) 7 false,
 qg 10 (.bin .lss (.t 9) (qk 0)) 7 false,
 qo 11 (.pick (.t 7) qt (.t 10))])
 (.cond (.t 11) (.seq (.af [qo 2 (.mv (.c (.val (.slice none 0 0)))),
 qo 3 (.mv (qk 0)),
 qo 4 (.mv qf)])
 .ret)
 .skip))
 (.seq (.af [qm 12 0,
 qm 13 0,
 qo 14 (.call (.f 169) [(.t 13)]),
 qo 15 (.call (.f 170) [(.t 12),(.t 14)]),
 qo 16 (.ext (.t 15) 0),
 qo 17 (.ext (.t 15) 1),
 qo 18 (.ext (.t 15) 2),
 qm 2 16,
 qm 3 17,
 qm 4 18])
 .ret))),
[(.t 2),(.t 3),(.t 4)])
theorem S9:aq Tryz.prog Tryz.f82=some Vo:=by kernel_rfl
theorem yu (l:List Int) (s:Int) (fr sz k:Nat) (h:fr+k*sz≤1000000):bw Tryz.prog G 227 [.ptr 0 0,.int k] (kj l s fr sz) (.int ((fr+k*sz:Nat):Int)) (kj l s fr sz):=by
 have w0:IntKind.i64.wrap ((k:Int)*(sz:Int))=((k*sz:Nat):Int):=by rw [show (k:Int)*(sz:Int)=((k*sz:Nat):Int) by simp,aO (by omega) (by omega)]
 have w1:IntKind.i64.wrap ((fr:Int)+((k*sz:Nat):Int))=((fr+k*sz:Nat):Int):=by rw [aO (by omega) (by omega)]; omega
 refine aR Tryz.func227 (by decide) No rfl rfl rfl rfl ?_
 simp only [QT,go_sem,simprocAttr]
 simp only [kj,w0,w1,go_sem,simprocAttr]
set_option maxHeartbeats 1000000 in
theorem nP (l:List Int) (s:Int) (fr sz k:Nat) (hb:∀ c∈l,0≤c∧c≤255) (h:fr+k*sz+sz≤l.length) (hl:1≤l.length∧l.length≤65536):bw Tryz.prog G 170 [.ptr 0 0,.int k] (kj l s fr sz) (m_ (sM l fr sz k)) (kj l s fr sz):=by
 have hp:=yu (G:=G) l s fr sz k (by omega)
 have hy:=kX (G:=G) l s hl
 have CG:(ki l fr sz k).length=sz:=by unfold ki; rw [List.length_take,List.length_drop]; omega
 have hsb:∀ c∈ki l fr sz k,0≤c∧c≤255:=fun c hc=>hb c (List.mem_of_mem_drop (List.mem_of_mem_take hc))
 have hg:=rM (G:=G) (ki l fr sz k) hsb (by omega) 0 (by omega)
 have Wb:=KP (ki l fr sz k) 0
 have hP:sM l fr sz k=if (ey (ki l fr sz k) 0).2.2=1 then (oV (ey (ki l fr sz k) 0).1 0).map fun q=>((ey (ki l fr sz k) 0).1.drop q.2,q.1) else none:=rfl
 have YR:(l.drop (fr+k*sz)).take sz=ki l fr sz k:=rfl
 generalize sM l fr sz k=PD at *
 generalize fr+k*sz=pl at *
 generalize ki l fr sz k=sb at *
 simp only [eV,kj,au,mW] at hp hy hg
 have w2:IntKind.i64.wrap ((pl:Int)+(sz:Int))=((pl+sz:Nat):Int):=by rw [aO (by omega) (by omega)]; omega
 have c1:pl≤pl+sz∧pl+sz≤l.length∧l.length≤l.length:=by omega
 have c2:(0:Int)≤((pl+sz:Nat):Int):=by omega
 have e1:pl+sz-pl=sz:=by omega
 refine cG Tryz.func170 (by decide) NQ rfl ?_
 simp only [kj,Rn,go_sem,simprocAttr]
 refine aK [0,1,2] (hp) rfl ?_ (by decide) ?_ ?_ (by simp) ?_ <;> simp only [ah,ai,go_sem,simprocAttr]
 refine eS [1,2] (hy) rfl ?_ (by decide) ?_ ?_ (by simp) ?_ <;> simp only [ah,ai,go_sem,simprocAttr]
 simp only [w2,c1,c2,e1,az,fJ,gB,YR,go_sem,simprocAttr]
 refine bf (hg) rfl rfl rfl rfl ?_; simp only [go_sem,simprocAttr]
 refine av rfl ?_
 simp only [go_sem,simprocAttr]
 have hn:=qa (G:=G) (ey sb 0).1 (fun c hc=>hsb c (Wb.1 c hc)) (by omega) 0 (by omega) (oV (ey sb 0).1 0) rfl
 simp only [au] at hn
 cases hq:oV (ey sb 0).1 0 with
 | none=>
   rw [hq] at hn hP
   simp only [iB,Gr,Gs,Option.isSome] at hn
   refine aC (hn) rfl rfl rfl rfl ?_; simp only [go_sem,simprocAttr]
   have ZM:PD=none:=by rw [hP]; split <;> rfl
   by_cases h1:(ey sb 0).2.2=1
   ·simp only [h1,bne_self_eq_false,go_sem,simprocAttr]
    refine dF [] [0,1,2] [] (vs:=[.d (.val (.slice none 0 0)),.int 0,.bool false]) rfl rfl (by decide) (by simp) (by simp) rfl rfl ?_
    simp [aW,ai,ah,ZM,m_,au,aA,LV.int,LV.bool]
   ·simp only [show ((ey sb 0).2.2 !=1)=true from bne_iff_ne.2 h1,go_sem,simprocAttr]
    refine dF [] [0,1,2] [] (vs:=[.d (.val (.slice none 0 0)),.int 0,.bool false]) rfl rfl (by decide) (by simp) (by simp) rfl rfl ?_
    simp [aW,ai,ah,ZM,m_,au,aA,LV.int,LV.bool]
 | some q=>
 obtain ⟨n,nx⟩:=q
 have hr:=wB (fun c hc=>(hsb c (Wb.1 c hc)).1) hq
 rw [hq] at hn hP
 simp only [iB,Gr,Gs,Option.isSome] at hn
 refine aC (hn) rfl rfl rfl rfl ?_; simp only [go_sem,simprocAttr]
 by_cases h1:(ey sb 0).2.2=1
 ·rw [if_pos h1] at hP
  have c3:nx≤(ey sb 0).1.length∧(ey sb 0).1.length≤(ey sb 0).1.length:=by omega
  have hdl:(aA ((ey sb 0).1.drop nx)).take ((ey sb 0).1.length-nx)=aA ((ey sb 0).1.drop nx):=List.take_of_length_le (by rw [az,List.length_drop]; exact Nat.le_refl _)
  simp only [h1,bne_self_eq_false,az,c3,fJ,hdl,go_sem,simprocAttr]
  refine dF [] [0,1,2] [] (vs:=[.d (.dY 1 (aA ((ey sb 0).1.drop nx))),.int n,.bool true]) rfl rfl (by decide) (by simp) (by simp) rfl rfl ?_
  simp [aW,ai,ah,hP,m_,au,LV.int,LV.bool]
 ·rw [if_neg h1] at hP
  simp only [show ((ey sb 0).2.2 !=1)=true from bne_iff_ne.2 h1,go_sem,simprocAttr]
  refine dF [] [0,1,2] [] (vs:=[.d (.val (.slice none 0 0)),.int 0,.bool false]) rfl rfl (by decide) (by simp) (by simp) rfl rfl ?_
  simp [aW,ai,ah,hP,m_,au,aA,LV.int,LV.bool]
def ng (l:List Int) (fr sz:Nat):Nat→Int×Int
 | 0=>(-1,-1)
 | k+1=>match sM l fr sz k with
   | none=>ng l fr sz k
   | some q=>if q.2>(ng l fr sz k).2 then ((k:Int),q.2) else ng l fr sz k
def Mh (l:List Int) (s:Int) (fr sz:Nat) (k:Nat):St:=⟨[(0,.ptr 0 0),(3,.int (ng l fr sz k).1),(4,.int (ng l fr sz k).2),(9,.int k)],(kj l s fr sz).map some⟩
set_option maxHeartbeats 1000000 in
theorem vS (l:List Int) (s:Int) (fr sz:Nat) (hb:∀ c∈l,0≤c∧c≤255) (h:fr+2*sz≤l.length) (hl:1≤l.length∧l.length≤65536):bw Tryz.prog G 169 [.ptr 0 0] (kj l s fr sz) (.int (ng l fr sz 2).1) (kj l s fr sz):=by
 have hp0:=nP (G:=G) l s fr sz 0 hb (by omega) hl
 have hp1:=nP (G:=G) l s fr sz 1 hb (by omega) hl
 simp only [kj] at hp0 hp1
 refine aR Tryz.func169 (by decide) NR rfl rfl rfl rfl ?_
 simp only [Ro,go_sem,simprocAttr]
 simp only [kj,go_sem,simprocAttr]
 refine aY [0,3,4,9] [] (fun k:Nat=>k≤2) (fun k=>2-k) (Mh l s fr sz) 0 ?_ (Nat.zero_le _) (fun k hk=>?_)
 ·simp only [Mh,kj,ng,Int.natCast_zero,go_sem,simprocAttr]
 simp only [Mh,kj,go_sem,simprocAttr]
 match k,hk with
 | 0,_=>
   have hq:ng l fr sz (0+1)=match sM l fr sz 0 with
    | none=>ng l fr sz 0
    | some q=>if q.2>(ng l fr sz 0).2 then (((0:Nat):Int),q.2) else ng l fr sz 0:=rfl
   simp only [go_sem,simprocAttr]
   refine aK [0,1,2] (hp0) rfl ?_ (by decide) ?_ ?_ (by simp) ?_ <;> simp only [ah,ai,go_sem,simprocAttr]
   cases hP:sM l fr sz 0 with
   | none=>
     rw [hP] at hq
     simp only [m_,go_sem,simprocAttr]
     refine bz 1 ?_ ?_ (by decide) (by decide)
     ·simp only [go_sem,simprocAttr]
     ·simp only [Mh,kj,hq,show IntKind.i64.wrap 1=1 from rfl,go_sem,simprocAttr]
   | some q=>
     rw [hP] at hq
     simp only at hq
     simp only [m_,go_sem,simprocAttr]
     by_cases hg:q.2>(ng l fr sz 0).2
     ·rw [if_pos hg] at hq
      simp only [decide_eq_true hg,go_sem,simprocAttr]
      refine bz 1 ?_ ?_ (by decide) (by decide)
      ·simp only [go_sem,simprocAttr]
      ·simp only [Mh,kj,hq,show IntKind.i64.wrap 1=1 from rfl,go_sem,simprocAttr]
     ·rw [if_neg hg] at hq
      simp only [decide_eq_false hg,go_sem,simprocAttr]
      refine bz 1 ?_ ?_ (by decide) (by decide)
      ·simp only [go_sem,simprocAttr]
      ·simp only [Mh,kj,hq,show IntKind.i64.wrap 1=1 from rfl,go_sem,simprocAttr]
 | 1,_=>
   have hq:ng l fr sz (1+1)=match sM l fr sz 1 with
    | none=>ng l fr sz 1
    | some q=>if q.2>(ng l fr sz 1).2 then (((1:Nat):Int),q.2) else ng l fr sz 1:=rfl
   simp only [go_sem,simprocAttr]
   refine aK [0,1,2] (hp1) rfl ?_ (by decide) ?_ ?_ (by simp) ?_ <;> simp only [ah,ai,go_sem,simprocAttr]
   cases hP:sM l fr sz 1 with
   | none=>
     rw [hP] at hq
     simp only [m_,go_sem,simprocAttr]
     refine bz 2 ?_ ?_ (by decide) (by decide)
     ·simp only [go_sem,simprocAttr]
     ·simp only [Mh,kj,hq,show IntKind.i64.wrap 2=2 from rfl,go_sem,simprocAttr]
   | some q=>
     rw [hP] at hq
     simp only at hq
     simp only [m_,go_sem,simprocAttr]
     by_cases hg:q.2>(ng l fr sz 1).2
     ·rw [if_pos hg] at hq
      simp only [decide_eq_true hg,go_sem,simprocAttr]
      refine bz 2 ?_ ?_ (by decide) (by decide)
      ·simp only [go_sem,simprocAttr]
      ·simp only [Mh,kj,hq,show IntKind.i64.wrap 2=2 from rfl,go_sem,simprocAttr]
     ·rw [if_neg hg] at hq
      simp only [decide_eq_false hg,go_sem,simprocAttr]
      refine bz 2 ?_ ?_ (by decide) (by decide)
      ·simp only [go_sem,simprocAttr]
      ·simp only [Mh,kj,hq,show IntKind.i64.wrap 2=2 from rfl,go_sem,simprocAttr]
 | 2,_=>
   simp only [go_sem,simprocAttr]
theorem zM (l:List Int) (fr sz:Nat):∀ k,-1≤(ng l fr sz k).1∧(ng l fr sz k).1<(k:Int)
 | 0=>by simp [ng]
 | k+1=>by
   have:=zM l fr sz k
   unfold ng
   cases sM l fr sz k with
   | none=>simp only; omega
   | some q=>
     simp only
     split
     ·dsimp only; omega
     ·omega
def pq (l:List Int) (fr sz:Nat):Option (List Int×Int):=if (ng l fr sz 2).1<0 then none else sM l fr sz (ng l fr sz 2).1.toNat
theorem vX (l:List Int) (s:Int) (fr sz:Nat) (hb:∀ c∈l,0≤c∧c≤255) (h:fr+2*sz≤l.length) (hl:1≤l.length∧l.length≤65536):bw Tryz.prog G 82 [.ptr 0 0] (kj l s fr sz) (m_ (pq l fr sz)) (kj l s fr sz):=by
 have hn:=vS (G:=G) l s fr sz hb h hl
 have hr:=zM l fr sz 2
 have hL:pq l fr sz=if (ng l fr sz 2).1<0 then none else sM l fr sz (ng l fr sz 2).1.toNat:=rfl
 generalize (ng l fr sz 2).1=m at *
 simp only [kj] at hn
 refine cG Tryz.func82 (by decide) S9 rfl ?_
 simp only [kj,Vo,go_sem,simprocAttr]
 refine aK [0,1,2] (hn) rfl ?_ (by decide) ?_ ?_ (by simp) ?_ <;> simp only [ah,ai,go_sem,simprocAttr]
 by_cases hm:m<0
 ·rw [if_pos hm] at hL
  simp only [decide_eq_true hm,go_sem,simprocAttr]
  refine dF [] [0,1,2] [] (vs:=[.d (.val (.slice none 0 0)),.int 0,.bool false]) rfl rfl (by decide) (by simp) (by simp) rfl rfl ?_
  simp [aW,ai,ah,hL,m_,au,aA,LV.int,LV.bool]
 rw [if_neg hm] at hL
 obtain ⟨k,rfl⟩:=Int.eq_ofNat_of_zero_le (show 0≤m by omega)
 rw [Int.toNat_natCast] at hL
 have hk:k*sz+sz≤2*sz:=by
  have:k≤1:=by omega
  have:=Nat.mul_le_mul_right sz this
  omega
 have hp:=nP (G:=G) l s fr sz k hb (by omega) hl
 rw [← hL] at hp
 simp only [kj] at hp
 simp only [decide_eq_false hm,go_sem,simprocAttr]
 refine aK [0,1,2] (hn) rfl ?_ (by decide) ?_ ?_ (by simp) ?_ <;> simp only [ah,ai,go_sem,simprocAttr]
 refine aK [0,1,2] (hp) rfl ?_ (by decide) ?_ ?_ (by simp) ?_ <;> simp only [ah,ai,go_sem,simprocAttr]
 cases hq:pq l fr sz with
 | none=>
   simp only [m_,au,go_sem,simprocAttr]
   refine dF [] [0,1,2] [] (vs:=[.d (.dY 1 (aA [])),.int 0,.bool false]) rfl rfl (by decide) (by simp) (by simp) rfl rfl ?_
   simp [aW,ai,ah,LV.int,LV.bool]
 | some q=>
   simp only [m_,au,go_sem,simprocAttr]
   refine dF [] [0,1,2] [] (vs:=[.d (.dY 1 (aA q.1)),.int q.2,.bool true]) rfl rfl (by decide) (by simp) (by simp) rfl rfl ?_
   simp [aW,ai,ah,LV.int,LV.bool]
end Dv
namespace Dv
open Go Go.Proofs
variable {G:Nat→Option (List DV)}
def Ka:Nat×C×List RV:=(83,
(.seq (.af [qo 6 (.mv (qk 0))])
 (.seq (.seq (.af [qm 13 0,
 qo 14 (.ic false (.t 13)),
 qm 15 14,
 qg 16 (.mv (.t 2)) 15 false,
 qg 17 (.call (.f 230) [(.t 16)]) 15 false,
 qg 18 (.len (.t 17)) 15 false,
 qg 19 (.bin .eql (.t 18) (qk 0)) 15 false,
 qo 20 (.pick (.t 15) qt (.t 19))])
 (.cond (.t 20) (.seq (.af [qo 6 (.mv (qk 1))])
 .ret)
 .skip))
 (.seq (.seq (.af [qm 22 0,
 qo 23 (.call (.f 82) [(.t 22)]),
 qm 21 23,
 qo 24 (.ext (.t 21) 0),
 qo 25 (.ext (.t 21) 1),
 qo 26 (.ext (.t 21) 2),
 qm 7 24,
 qm 8 25,
 qm 9 26])
 (.seq (.af [qm 27 9,
 qm 28 27,
 qg 29 (.mv (.t 2)) 28 true,
 qg 30 (.mv (.t 8)) 28 true,
 qg 31 (.bin .leq (.t 29) (.t 30)) 28 true,
 qo 32 (.pick (.t 28) (.t 31) qf)])
 (.cond (.t 32) (.seq (.af [qo 6 (.mv (qk 6))])
 .ret)
 .skip)))
 (.seq (.af [qm 33 2,
 qo 34 (.call (.f 230) [(.t 33)]),
 qm 35 1,
 qo 36 (.nh 57 1 [(.t 34),(.t 35)]),
 qo 37 (.call (.f 232) [(.t 36)]),
 qo 38 (.call (.f 231) [(.t 37)]),
 qm 10 38])
 (.seq (.seq (.af [qm 39 10,
 qo 40 (.len (.t 39)),
 qo 41 (.bin .eql (.t 40) (qk 0)),
 qm 42 41,
 qg 43 (.mv (.t 10)) 42 false,
 qg 44 (.len (.t 43)) 42 false,
 qg 45 (.mv (.t 0)) 42 false,
 qg 46 (.aV (.t 45)) 42 false,
 qg 47 (.aj 2 (.t 46)) 42 false,
 qg 48 (.ld1 (.t 47)) 42 false,
 qg 49 (.bin .gtr (.t 44) (.t 48)) 42 false,
 qo 50 (.pick (.t 42) qt (.t 49))])
 (.cond (.t 50) (.seq (.af [qo 6 (.mv (qk 3))])
 .ret)
 .skip))
 (.seq (.af [qm 51 0,
 qo 52 (.zS (.func 227) [(.t 51)] []),
 qm 11 52])
 (.seq (.af [qm 53 11,
 qm 54 0,
 qo 55 (.call (.f 169) [(.t 54)]),
 qo 56 (.bin .sub (qk 1) (.t 55)),
 qo 57 (.max (qk 0) (.t 56)),
 qo 58 (.bin .rem (.t 57) (qk 2)),
 qo 59 (.call (.t 53) [(.t 58)]),
 qm 12 59])
 (.seq (.bQ [qm 60 0,
 qd 61 (.aV (.t 60)) [0],
 qd 62 (.aj 0 (.t 61)) [1,0],
 qd 63 (.ld1 (.t 62)) [2,1,0],
 qm 64 12,
 qm 65 0,
 qd 66 (.aV (.t 65)) [5],
 qd 67 (.aj 2 (.t 66)) [6,5],
 qd 68 (.ld1 (.t 67)) [7,6,5],
 qd 69 (.more (.sU 5 1 1 [(.val (.int .u8 0))] (.t 68))) [8,7,6,5],
 qd 70 (.call (.f 130) [(.t 63),(.t 64),(.t 69)]) [3,2,1,0,4,9,8,7,6,5]])
 (.seq (.af [qm 71 0,
 qo 72 (.aV (.t 71)),
 qo 73 (.aj 0 (.t 72)),
 qo 74 (.ld1 (.t 73)),
 qo 75 (.call (.f 96) [(.t 74)])])
 (.seq (.af [qm 76 0,
 qo 77 (.aV (.t 76)),
 qo 78 (.aj 0 (.t 77)),
 qo 79 (.ld1 (.t 78)),
 qm 80 12,
 qm 81 10,
 qo 82 (.call (.f 130) [(.t 79),(.t 80),(.t 81)]),
 qm 6 82])
 .ret)))))))))),
[(.t 6)])
theorem Fl:aq Tryz.prog Tryz.f179=some Ka:=by kernel_rfl
def Tu:Nat×C×List RV:=(20,
(.seq (.af [qo 6 (.mv (qk 0))])
 (.seq (.seq (.af [qm 8 0,
 qm 9 1,
 qm 10 2,
 qo 11 (.call (.f 179) [(.t 8),(.t 9),(.t 10)]),
 qm 7 11])
 (.seq (.af [qm 12 7,
 qo 13 (.bin .neq (.t 12) (qk 0))])
 (.cond (.t 13) (.seq (.af [qm 14 7,
 qm 6 14])
 .ret)
 .skip)))
 (.seq (.af [qm 15 0,
 qo 16 (.aV (.t 15)),
 qo 17 (.aj 0 (.t 16)),
 qo 18 (.ld1 (.t 17)),
 qo 19 (.call (.f 96) [(.t 18)])])
 (.seq (.af [qo 6 (.mv (qk 0))])
 .ret)))),
[(.t 6)])
theorem J6:aq Tryz.prog Tryz.f92=some Tu:=by kernel_rfl
def Vq:Nat×C×List RV:=(35,
(.seq (.af [qo 6 (.mv (.c (.val (.pointer none)))),
 qo 7 (.mv (qk 0))])
 (.seq (.seq (.af [qm 8 1,
 qo 9 (.bin .lss (.t 8) (qk 0)),
 qm 10 9,
 qg 11 (.mv (.t 2)) 10 false,
 qg 12 (.bin .lss (.t 11) (qk 1)) 10 false,
 qo 13 (.pick (.t 10) qt (.t 12)),
 qm 14 13,
 qg 15 (.mv (.t 2)) 14 false,
 qg 16 (.mv (.t 0)) 14 false,
 qg 17 (.call (.f 79) [(.t 16)]) 14 false,
 qg 18 (.bin .quo (.t 17) (qk 2)) 14 false,
 qg 19 (.bin .gtr (.t 15) (.t 18)) 14 false,
 qo 20 (.pick (.t 14) qt (.t 19)),
 qm 21 20,
 qg 22 (.mv (.t 1)) 21 false,
 qg 23 (.mv (.t 0)) 21 false,
 qg 24 (.call (.f 79) [(.t 23)]) 21 false,
 qg 25 (.mv (.t 2)) 21 false,
 qg 26 (.bin .mul (qk 2) (.t 25)) 21 false,
 qg 27 (.bin .sub (.t 24) (.t 26)) 21 false,
 qg 28 (.bin .gtr (.t 22) (.t 27)) 21 false,
 qo 29 (.pick (.t 21) qt (.t 28))])
 (.cond (.t 29) (.seq (.af [qo 6 (.mv (.c (.val (.pointer none)))),
 qo 7 (.mv (qk 1))])
 .ret)
 .skip))
 (.seq (.af [qm 30 0,
 qm 31 1,
 qm 32 2,
 qo 33 (.build [(.val (.pointer none)),q0,q0] [(0,1,(.t 30)),(1,1,(.t 31)),(2,1,(.t 32))]),
 qo 34 (.box 243 (.t 33)),
 qm 6 34,
 qo 7 (.mv (qk 0))])
 .ret))),
[(.t 6),(.t 7)])
theorem Ta:aq Tryz.prog Tryz.f80=some Vq:=by kernel_rfl
def ga (l:List Int) (fr sz:Nat):Nat:=if (ng l fr sz 2).1=0 then 1 else 0
def ia (b:List Int) (cT:Int):List Int:=mZ (cc cT++b)
def Zk (l:List Int) (s:Int) (fr sz a:Nat) (b:List Int):List aD:=[.box 243 [.ptr 1 0,.int fr,.int sz],.box 150 [.sl 2 l.length 1 0 l.length,.sl 3 1 2 0 1,.int s],.dat 5 1 (aA l),.dat 227 2 (tF a b)]
def Mc (cT:Int):Option (List Int×Int)→Bool
 | none=>false
 | some q=>decide (cT≤q.2)
def eX (l:List Int) (fr sz:Nat) (b:List Int) (cT:Int):Int:=
 if (cc cT).length=0 then 1 else if Mc cT (pq l fr sz)=true then 6
 else if (ia b cT).length=0∨(ia b cT).length>sz then 3 else 0
set_option maxHeartbeats 1000000 in
theorem A0 (l:List Int) (s:Int) (fr sz:Nat) (b:List Int) (cT:Int) (hb:∀ c∈l,0≤c∧c≤255) (h:fr+2*sz≤l.length) (hz:1≤sz) (hl:1≤l.length∧l.length≤65536) (Aj:b.length≤90000) (hE:eX l fr sz b cT=0):bw Tryz.prog G 179 [.ptr 0 0,au b,.int cT] (kj l s fr sz) (.int 0) (Zk (en l (fr+ga l fr sz*sz) (List.replicate sz 0)) (IntKind.i64.wrap (s+1)) fr sz (fr+ga l fr sz*sz) (ia b cT)):=by
 have hk:ga l fr sz*sz+sz≤2*sz:=by
  have:ga l fr sz≤1:=by unfold ga; split <;> omega
  have:=Nat.mul_le_mul_right sz this
  omega
 have hL:=vX (G:=G) l s fr sz hb h hl
 have hn:=vS (G:=G) l s fr sz hb h hl
 have hm:=l9 (G:=G) cT
 have hr:=zM l fr sz 2
 simp only [kj,au] at hL hn hm
 unfold eX at hE
 split at hE
 ·exact absurd hE (by decide)
 rename_i g1
 split at hE
 ·exact absurd hE (by decide)
 rename_i g2
 split at hE
 ·exact absurd hE (by decide)
 rename_i g3
 have e1:(((cc cT).length:Int)==0)=false:=beq_eq_false_iff_ne.2 (by omega)
 have hx:IntKind.i64.wrap (1-(ng l fr sz 2).1)=1-(ng l fr sz 2).1:=aO (by omega) (by omega)
 have hp:=yu (G:=G) l s fr sz (ga l fr sz) (by omega)
 have hkv:(if 1-(ng l fr sz 2).1>0 then 1-(ng l fr sz 2).1 else 0).tmod 2=((ga l fr sz:Nat):Int):=by
  unfold ga
  have:(ng l fr sz 2).1 = -1∨(ng l fr sz 2).1=0∨(ng l fr sz 2).1=1:=by omega
  rcases this with e | e | e <;> rw [e] <;> decide
 have c5:sz*1≤70368744177664∧((sz:Nat):Int)≤9223372036854775807:=by omega
 have hfl:(ia b cT).length≤sz:=by omega
 generalize hN:ga l fr sz=K at *
 generalize hA:fr+K*sz=A at *
 have hw1:=iN (G:=G) l s A (List.replicate sz 0) (by rw [List.length_replicate]; omega) hl.2
 have hs1:=jt (G:=G) l s A (List.replicate sz 0) (by rw [List.length_replicate]; omega) hl
 have hol:(en l A (List.replicate sz 0)).length=l.length:=eZ (by rw [List.length_replicate]; omega)
 have hw2:=iN (G:=G) (en l A (List.replicate sz 0)) (IntKind.i64.wrap (s+1)) A (ia b cT) (by rw [hol]; omega) (by rw [hol]; exact hl.2)
 simp only [kj,eV,i_,tF,au,w9,List.cons_append,List.nil_append] at hp hw1 hs1 hw2
 refine cG Tryz.func179 (by decide) Fl rfl ?_
 simp only [kj,au,Ka,go_sem,simprocAttr]
 refine aC (hm) rfl rfl rfl rfl ?_; simp only [go_sem,simprocAttr]
 simp only [az,e1,go_sem,simprocAttr]
 refine aK [0,1,2] (hL) rfl ?_ (by decide) ?_ ?_ (by simp) ?_ <;> simp only [ah,ai,go_sem,simprocAttr]
 have xM:=qw (G:=G) [cc cT,b] (by simp) (by simp; have:=gw cT; omega)
 have hpf:=mw (G:=G) (cc cT++b) (by rw [List.length_append]; have:=gw cT; omega)
 rw [show mZ (cc cT++b)=ia b cT from rfl] at hpf
 simp only [List.flatten_cons,List.flatten_nil,List.append_nil,ec,List.map_cons,List.map_nil,au] at xM hpf
 have e2:(((ia b cT).length:Int)==0)=false:=beq_eq_false_iff_ne.2 (by omega)
 have e3:decide (((ia b cT).length:Int)>(sz:Int))=false:=decide_eq_false (by omega)
 cases hq:pq l fr sz with
 | none=>
   simp only [m_,au,go_sem,simprocAttr]
   refine aC (hm) rfl rfl rfl rfl ?_; simp only [go_sem,simprocAttr]
   refine oM [3] (xM) rfl (by simp [ah,ai,bE,aB,go_sem,simprocAttr]) (by simp [aB]) rfl ?_; simp only [go_sem,simprocAttr]
   refine aC (hpf) rfl rfl rfl rfl ?_; simp only [go_sem,simprocAttr]
   simp only [az,e2,e3,go_sem,simprocAttr]
   refine aK [0,1,2] (hn) rfl ?_ (by decide) ?_ ?_ (by simp) ?_ <;> simp only [ah,ai,go_sem,simprocAttr]
   simp only [hx,hkv,go_sem,simprocAttr]
   refine aK [0,1,2] (hp) rfl ?_ (by decide) ?_ ?_ (by simp) ?_ <;> simp only [ah,ai,go_sem,simprocAttr]
   simp only [c5,go_sem,simprocAttr]
   refine xw [1,2] [4] (hw1) rfl (by simp [ah,ai,bE,aB,u8,go_sem,simprocAttr]) (by decide) (by decide) (by simp [aB]) (by simp only [go_sem,simprocAttr]) (by simp only [go_sem,simprocAttr]) (by simp) ?_; simp only [go_sem,simprocAttr,u8]
   refine av rfl ?_
   simp only [go_sem,simprocAttr]
   refine aK [1,2,5] (hs1) rfl ?_ (by decide) ?_ ?_ (by simp) ?_ <;> simp only [ah,ai,go_sem,simprocAttr,u8]
   refine aK [1,2] (hw2) rfl ?_ (by decide) ?_ ?_ (by simp) ?_ <;> simp only [ah,ai,go_sem,simprocAttr]
   refine dF [] [0,1,2,6] [] (vs:=[.int 0]) rfl rfl (by decide) (by simp) (by simp) rfl rfl ?_
   simp [aW,ai,LV.int]
 | some q=>
   rw [hq] at g2
   have g4:¬ cT≤q.2:=fun e=>g2 (decide_eq_true e)
   simp only [m_,au,decide_eq_false g4,go_sem,simprocAttr]
   refine aC (hm) rfl rfl rfl rfl ?_; simp only [go_sem,simprocAttr]
   refine oM [3] (xM) rfl (by simp [ah,ai,bE,aB,go_sem,simprocAttr]) (by simp [aB]) rfl ?_; simp only [go_sem,simprocAttr]
   refine aC (hpf) rfl rfl rfl rfl ?_; simp only [go_sem,simprocAttr]
   simp only [az,e2,e3,go_sem,simprocAttr]
   refine aK [0,1,2] (hn) rfl ?_ (by decide) ?_ ?_ (by simp) ?_ <;> simp only [ah,ai,go_sem,simprocAttr]
   simp only [hx,hkv,go_sem,simprocAttr]
   refine aK [0,1,2] (hp) rfl ?_ (by decide) ?_ ?_ (by simp) ?_ <;> simp only [ah,ai,go_sem,simprocAttr]
   simp only [c5,go_sem,simprocAttr]
   refine xw [1,2] [4] (hw1) rfl (by simp [ah,ai,bE,aB,u8,go_sem,simprocAttr]) (by decide) (by decide) (by simp [aB]) (by simp only [go_sem,simprocAttr]) (by simp only [go_sem,simprocAttr]) (by simp) ?_; simp only [go_sem,simprocAttr,u8]
   refine av rfl ?_
   simp only [go_sem,simprocAttr]
   refine aK [1,2,5] (hs1) rfl ?_ (by decide) ?_ ?_ (by simp) ?_ <;> simp only [ah,ai,go_sem,simprocAttr,u8]
   refine aK [1,2] (hw2) rfl ?_ (by decide) ?_ ?_ (by simp) ?_ <;> simp only [ah,ai,go_sem,simprocAttr]
   refine dF [] [0,1,2,6] [] (vs:=[.int 0]) rfl rfl (by decide) (by simp) (by simp) rfl rfl ?_
   simp [aW,ai,LV.int]
set_option maxHeartbeats 1000000 in
theorem zk (l:List Int) (s:Int) (fr sz:Nat) (b:List Int) (cT:Int) (hb:∀ c∈l,0≤c∧c≤255) (h:fr+2*sz≤l.length) (hz:1≤sz) (hl:1≤l.length∧l.length≤65536) (Aj:b.length≤90000) (hE:eX l fr sz b cT≠0):bw Tryz.prog G 179 [.ptr 0 0,au b,.int cT] (kj l s fr sz) (.int (eX l fr sz b cT)) (kj l s fr sz):=by
 have hL:=vX (G:=G) l s fr sz hb h hl
 have hm:=l9 (G:=G) cT
 simp only [kj,au] at hL hm
 have xM:=qw (G:=G) [cc cT,b] (by simp) (by simp; have:=gw cT; omega)
 have hpf:=mw (G:=G) (cc cT++b) (by rw [List.length_append]; have:=gw cT; omega)
 rw [show mZ (cc cT++b)=ia b cT from rfl] at hpf
 simp only [List.flatten_cons,List.flatten_nil,List.append_nil,ec,List.map_cons,List.map_nil,au] at xM hpf
 refine cG Tryz.func179 (by decide) Fl rfl ?_
 simp only [kj,au,Ka,go_sem,simprocAttr]
 refine aC (hm) rfl rfl rfl rfl ?_; simp only [go_sem,simprocAttr]
 simp only [az,go_sem,simprocAttr]
 by_cases g1:(cc cT).length=0
 ·have hs:eX l fr sz b cT=1:=if_pos g1
  simp only [show (((cc cT).length:Int)==0)=true by rw [beq_iff_eq]; omega,hs,go_sem,simprocAttr]
  refine dF [] [0,1,2] [] (vs:=[.int 1]) rfl rfl (by decide) (by simp) (by simp) rfl rfl ?_
  simp [aW,ai,LV.int]
 have hs1:eX l fr sz b cT=if Mc cT (pq l fr sz)=true then 6 else if (ia b cT).length=0∨(ia b cT).length>sz then 3 else 0:=if_neg g1
 simp only [show (((cc cT).length:Int)==0)=false from beq_eq_false_iff_ne.2 (by omega),go_sem,simprocAttr]
 refine aK [0,1,2] (hL) rfl ?_ (by decide) ?_ ?_ (by simp) ?_ <;> simp only [ah,ai,go_sem,simprocAttr]
 have D3:Mc cT (pq l fr sz)=false→eX l fr sz b cT=3∧((ia b cT).length=0∨(ia b cT).length>sz):=by
  intro e
  rw [e,if_neg Bool.false_ne_true] at hs1
  by_cases g:(ia b cT).length=0∨(ia b cT).length>sz
  ·rw [if_pos g] at hs1; exact ⟨hs1,g⟩
  ·rw [if_neg g] at hs1; exact absurd hs1 hE
 cases hq:pq l fr sz with
 | none=>
   rw [hq] at D3
   obtain ⟨Ym,g3⟩:=D3 rfl
   simp only [m_,au,Ym,go_sem,simprocAttr]
   refine aC (hm) rfl rfl rfl rfl ?_; simp only [go_sem,simprocAttr]
   refine oM [3] (xM) rfl (by simp [ah,ai,bE,aB,go_sem,simprocAttr]) (by simp [aB]) rfl ?_; simp only [go_sem,simprocAttr]
   refine aC (hpf) rfl rfl rfl rfl ?_; simp only [go_sem,simprocAttr]
   simp only [az,go_sem,simprocAttr]
   by_cases g5:(ia b cT).length=0
   ·simp only [show (((ia b cT).length:Int)==0)=true by rw [beq_iff_eq]; omega,go_sem,simprocAttr]
    refine dF [] [0,1,2] [] (vs:=[.int 3]) rfl rfl (by decide) (by simp) (by simp) rfl rfl ?_
    simp [aW,ai,LV.int]
   ·simp only [show (((ia b cT).length:Int)==0)=false from beq_eq_false_iff_ne.2 (by omega),az,decide_eq_true (show ((ia b cT).length:Int)>(sz:Int) by omega),go_sem,simprocAttr]
    refine dF [] [0,1,2] [] (vs:=[.int 3]) rfl rfl (by decide) (by simp) (by simp) rfl rfl ?_
    simp [aW,ai,LV.int]
 | some q=>
   simp only [m_,au,go_sem,simprocAttr]
   by_cases g4:cT≤q.2
   ·have ho:Mc cT (some q)=true:=decide_eq_true g4
    rw [hq,ho,if_pos rfl] at hs1
    simp only [decide_eq_true g4,hs1,go_sem,simprocAttr]
    refine dF [] [0,1,2] [] (vs:=[.int 6]) rfl rfl (by decide) (by simp) (by simp) rfl rfl ?_
    simp [aW,ai,LV.int]
   rw [hq] at D3
   obtain ⟨Ym,g3⟩:=D3 (decide_eq_false g4)
   simp only [decide_eq_false g4,Ym,go_sem,simprocAttr]
   refine aC (hm) rfl rfl rfl rfl ?_; simp only [go_sem,simprocAttr]
   refine oM [3] (xM) rfl (by simp [ah,ai,bE,aB,go_sem,simprocAttr]) (by simp [aB]) rfl ?_; simp only [go_sem,simprocAttr]
   refine aC (hpf) rfl rfl rfl rfl ?_; simp only [go_sem,simprocAttr]
   simp only [az,go_sem,simprocAttr]
   by_cases g5:(ia b cT).length=0
   ·simp only [show (((ia b cT).length:Int)==0)=true by rw [beq_iff_eq]; omega,go_sem,simprocAttr]
    refine dF [] [0,1,2] [] (vs:=[.int 3]) rfl rfl (by decide) (by simp) (by simp) rfl rfl ?_
    simp [aW,ai,LV.int]
   ·simp only [show (((ia b cT).length:Int)==0)=false from beq_eq_false_iff_ne.2 (by omega),az,decide_eq_true (show ((ia b cT).length:Int)>(sz:Int) by omega),go_sem,simprocAttr]
    refine dF [] [0,1,2] [] (vs:=[.int 3]) rfl rfl (by decide) (by simp) (by simp) rfl rfl ?_
    simp [aW,ai,LV.int]
def qO (l:List Int) (fr sz:Nat) (b:List Int) (cT:Int):List Int:=en (en l (fr+ga l fr sz*sz) (List.replicate sz 0)) (fr+ga l fr sz*sz) (ia b cT)
theorem IQ (l:List Int) (s:Int) (fr sz:Nat) (b:List Int) (cT:Int) (hb:∀ c∈l,0≤c∧c≤255) (h:fr+2*sz≤l.length) (hz:1≤sz) (hl:1≤l.length∧l.length≤65536) (Aj:b.length≤90000) (hE:eX l fr sz b cT=0):bw Tryz.prog G 92 [.ptr 0 0,au b,.int cT] (kj l s fr sz) (.int 0) (kj (qO l fr sz b cT) (IntKind.i64.wrap (IntKind.i64.wrap (s+1)+1)) fr sz):=by
 have hst:=A0 (G:=G) l s fr sz b cT hb h hz hl Aj hE
 have hk:ga l fr sz*sz+sz≤2*sz:=by
  have:ga l fr sz≤1:=by unfold ga; split <;> omega
  have:=Nat.mul_le_mul_right sz this
  omega
 have hfl:(ia b cT).length≤sz:=by
  unfold eX at hE
  split at hE
  ·exact absurd hE (by decide)
  split at hE
  ·exact absurd hE (by decide)
  split at hE
  ·exact absurd hE (by decide)
  omega
 have XK:fr+ga l fr sz*sz+sz≤l.length:=by omega
 have hS:qO l fr sz b cT=en (en l (fr+ga l fr sz*sz) (List.replicate sz 0)) (fr+ga l fr sz*sz) (ia b cT):=rfl
 generalize fr+ga l fr sz*sz=A at *
 have hol:(en l A (List.replicate sz 0)).length=l.length:=eZ (by rw [List.length_replicate]; omega)
 have hs:=jt (G:=G) (en l A (List.replicate sz 0)) (IntKind.i64.wrap (s+1)) A (ia b cT) (by rw [hol]; omega) (by rw [hol]; exact hl)
 rw [← hS] at hs
 simp only [kj,Zk,eV,i_,tF,au,List.cons_append,List.nil_append] at hst hs
 refine cG Tryz.func92 (by decide) J6 rfl ?_
 simp only [kj,au,Tu,go_sem,simprocAttr]
 refine aK [0,1,2] (hst) rfl ?_ (by decide) ?_ ?_ (by simp) ?_ <;> simp only [ah,ai,go_sem,simprocAttr]
 refine aK [1,2,3] (hs) rfl ?_ (by decide) ?_ ?_ (by simp) ?_ <;> simp only [ah,ai,go_sem,simprocAttr]
 refine dF [] [0,1,2] [] (vs:=[.int 0]) rfl rfl (by decide) (by simp) (by simp) rfl rfl ?_
 simp [aW,ai,LV.int]
theorem A3 (l:List Int) (s:Int) (fr sz:Nat) (b:List Int) (cT:Int) (hb:∀ c∈l,0≤c∧c≤255) (h:fr+2*sz≤l.length) (hz:1≤sz) (hl:1≤l.length∧l.length≤65536) (Aj:b.length≤90000) (hE:eX l fr sz b cT≠0):bw Tryz.prog G 92 [.ptr 0 0,au b,.int cT] (kj l s fr sz) (.int (eX l fr sz b cT)) (kj l s fr sz):=by
 have hst:=zk (G:=G) l s fr sz b cT hb h hz hl Aj hE
 generalize eX l fr sz b cT=e at *
 simp only [kj,au] at hst
 refine aR Tryz.func92 (by decide) J6 rfl rfl rfl rfl ?_
 simp only [Tu,go_sem,simprocAttr]
 simp only [kj,au,go_sem,simprocAttr]
 refine aK [0,1,2] (hst) rfl ?_ (by decide) ?_ ?_ (by simp) ?_ <;> simp only [ah,ai,go_sem,simprocAttr]
 simp only [show (e !=0)=true from bne_iff_ne.2 hE,go_sem,simprocAttr]
def ZV (l:List Int) (s:Int) (fr sz:Nat):List aD:=[.box 150 [.sl 1 l.length 1 0 l.length,.d (.val (.slice none 0 0)),.int s],.dat 5 1 (aA l),.box 243 [.ptr 0 0,.int fr,.int sz]]
theorem xE (l:List Int) (s:Int) (fr sz:Nat) (h:fr+2*sz≤l.length) (hz:1≤sz) (hl:1≤l.length∧l.length≤65536):bw Tryz.prog G 80 [.ptr 0 0,.int fr,.int sz] (eV l s) (.dP [.ptr 2 0,.int 0]) (ZV l s fr sz):=by
 have hs:=jv (G:=G) l s
 simp only [eV] at hs
 have w1:IntKind.i64.wrap (2*(sz:Int))=((2*sz:Nat):Int):=by rw [aO (by omega) (by omega)]; omega
 have w2:IntKind.i64.wrap ((l.length:Int)-((2*sz:Nat):Int))=((l.length-2*sz:Nat):Int):=by rw [aO (by omega) (by omega)]; omega
 have q1:IntKind.i64.wrap (((l.length:Nat):Int).tdiv 2)=((l.length / 2:Nat):Int):=by rw [Int.tdiv_eq_ediv_of_nonneg (by omega),aO (by omega) (by omega)]; omega
 refine cG Tryz.func80 (by decide) Ta rfl ?_
 simp only [eV,Vq,go_sem,simprocAttr]
 simp only [decide_eq_false (show ¬ ((fr:Nat):Int)<0 by omega),decide_eq_false (show ¬ ((sz:Nat):Int)<1 by omega),go_sem,simprocAttr]
 refine aK [0,1] (hs) rfl ?_ (by decide) ?_ ?_ (by simp) ?_ <;> simp only [ah,ai,go_sem,simprocAttr]
 simp only [q1,decide_eq_false (show ¬ ((sz:Nat):Int)>((l.length / 2:Nat):Int) by omega),go_sem,simprocAttr]
 refine aK [0,1] (hs) rfl ?_ (by decide) ?_ ?_ (by simp) ?_ <;> simp only [ah,ai,go_sem,simprocAttr]
 simp only [w1,w2,decide_eq_false (show ¬ ((fr:Nat):Int)>((l.length-2*sz:Nat):Int) by omega),go_sem,simprocAttr]
 refine dF [] [0,1,2] [] (vs:=[.ptr 2 0,.int 0]) rfl rfl (by decide) (by simp) (by simp) rfl rfl ?_
 simp [aW,ai,ah,LV.int]
end Dv
namespace Dv
open Go Go.Proofs
variable {G:Nat→Option (List DV)}
def Vp:Nat×C×List RV:=(57,
(.seq (.af [qo 6 (.mv (.c (.val (.pointer none)))),
 qo 7 (.mv (.c (.val (.slice none 0 0)))),
 qo 8 (.mv (qk 0))])
 (.seq (.seq (.af [qm 12 1,
 qo 13 (.bin .lss (.t 12) (qk 0)),
 qm 14 13,
 qg 15 (.mv (.t 2)) 14 false,
 qg 16 (.bin .lss (.t 15) (qk 1)) 14 false,
 qo 17 (.pick (.t 14) qt (.t 16)),
 qm 18 17,
 qg 19 (.mv (.t 2)) 18 false,
 qg 20 (.mv (.t 0)) 18 false,
 qg 21 (.call (.f 79) [(.t 20)]) 18 false,
 qg 22 (.bin .gtr (.t 19) (.t 21)) 18 false,
 qo 23 (.pick (.t 18) qt (.t 22)),
 qm 24 23,
 qg 25 (.mv (.t 1)) 24 false,
 qg 26 (.mv (.t 0)) 24 false,
 qg 27 (.call (.f 79) [(.t 26)]) 24 false,
 qg 28 (.mv (.t 2)) 24 false,
 qg 29 (.bin .sub (.t 27) (.t 28)) 24 false,
 qg 30 (.bin .gtr (.t 25) (.t 29)) 24 false,
 qo 31 (.pick (.t 24) qt (.t 30))])
 (.cond (.t 31) (.seq (.af [qo 6 (.mv (.c (.val (.pointer none)))),
 qo 7 (.mv (.c (.val (.slice none 0 0)))),
 qo 8 (.mv (qk 1))])
 .ret)
 .skip))
 (.seq (.af [qm 32 0,
 qm 33 1,
 qm 34 2,
 qo 35 (.build [(.val (.pointer none)),q0,q0,q0] [(0,1,(.t 32)),(1,1,(.t 33)),(2,1,(.t 34))]),
 qo 36 (.box 245 (.t 35)),
 qm 9 36])
 (.seq (.af [qm 38 0,
 qo 39 (.call (.f 58) [(.t 38)]),
 qm 40 1,
 qm 41 1,
 qm 42 2,
 qo 43 (.bin .add (.t 41) (.t 42)),
 qo 44 (.zm 1 (.t 39) (some (.t 40)) (some (.t 43)) none),
 qo 45 (.call (.f 167) [(.t 44),(qk 0)]),
 qm 37 45,
 qo 46 (.ext (.t 37) 0),
 qo 47 (.ext (.t 37) 1),
 qm 10 46,
 qm 11 47])
 (.seq (.af [qm 48 9,
 qm 49 11,
 qo 50 (.aV (.t 48)),
 qo 51 (.aj 3 (.t 50)),
 qn (.st 1 (.t 51) (.t 49))])
 (.seq (.af [qm 52 9,
 qm 53 11,
 qo 54 (.call (.f 168) [(.t 52),(.t 53)])])
 (.seq (.af [qm 55 9,
 qm 56 10,
 qm 6 55,
 qm 7 56,
 qo 8 (.mv (qk 0))])
 .ret))))))),
[(.t 6),(.t 7),(.t 8)])
theorem S_:aq Tryz.prog Tryz.f81=some Vp:=by kernel_rfl
def Gf (l:List Int) (fr sz:Nat):List Int:=(l.drop fr).take sz
theorem IN {l:List Int} {fr sz:Nat} (h:fr+sz≤l.length):(Gf l fr sz).length=sz:=by
 unfold Gf
 rw [List.length_take,List.length_drop]
 omega
theorem IM {l:List Int} {fr sz:Nat} (hb:∀ c∈l,0≤c∧c≤255):∀ c∈Gf l fr sz,0≤c∧c≤255:=fun c hc=>hb c (List.mem_of_mem_drop (List.mem_of_mem_take hc))
def vB (l:List Int) (fr sz:Nat):List (List Int)×Nat:=H6 (Gf l fr sz) (sz+1) [] 0
def ZW (l:List Int) (s:Int) (fr sz us:Nat):List aD:=[.box 150 [.sl 1 l.length 1 0 l.length,.d (.val (.slice none 0 0)),.int s],.dat 5 1 (aA l),.box 245 [.ptr 0 0,.int fr,.int sz,.int us]]
set_option maxHeartbeats 1000000 in
theorem BB (l:List Int) (s:Int) (fr sz:Nat) (hb:∀ c∈l,0≤c∧c≤255) (hf:fr+sz≤l.length) (hz:1≤sz) (hl:1≤l.length∧l.length≤65536) (he:(vB l fr sz).2<sz):bw Tryz.prog G 81 [.ptr 0 0,.int fr,.int sz] (eV l s) (.dP [.ptr 2 0,.d (.dY 1 (ec (vB l fr sz).1)),.int 0]) (ZW (en l (fr+(vB l fr sz).2) (List.replicate (sz-(vB l fr sz).2) 0)) (IntKind.i64.wrap (s+1)) fr sz (vB l fr sz).2):=by
 have hs:=jv (G:=G) l s
 have hy:=kX (G:=G) l s hl
 have CG:=IN hf
 have ha:=Ap (G:=G) (Gf l fr sz) (IM hb) (by omega) 0 (Nat.zero_le _) (vB l fr sz) (by rw [CG]; rfl)
 have hn:=tU (G:=G) l s fr sz (vB l fr sz).2 (vB l fr sz).2 hf he hl
 generalize vB l fr sz=R at *
 simp only [eV,BF,au] at hs hy ha hn
 have w1:IntKind.i64.wrap ((l.length:Int)-(sz:Int))=((l.length-sz:Nat):Int):=by rw [aO (by omega) (by omega)]; omega
 have w2:IntKind.i64.wrap ((fr:Int)+(sz:Int))=((fr+sz:Nat):Int):=by rw [aO (by omega) (by omega)]; omega
 have c1:fr≤fr+sz∧fr+sz≤l.length∧l.length≤l.length:=by omega
 have c2:(0:Int)≤((fr+sz:Nat):Int):=by omega
 have e1:fr+sz-fr=sz:=by omega
 refine cG Tryz.func81 (by decide) S_ rfl ?_
 simp only [eV,Vp,go_sem,simprocAttr]
 simp only [decide_eq_false (show ¬ ((fr:Nat):Int)<0 by omega),decide_eq_false (show ¬ ((sz:Nat):Int)<1 by omega),go_sem,simprocAttr]
 refine aK [0,1] (hs) rfl ?_ (by decide) ?_ ?_ (by simp) ?_ <;> simp only [ah,ai,go_sem,simprocAttr]
 simp only [decide_eq_false (show ¬ ((sz:Nat):Int)>((l.length:Nat):Int) by omega),go_sem,simprocAttr]
 refine aK [0,1] (hs) rfl ?_ (by decide) ?_ ?_ (by simp) ?_ <;> simp only [ah,ai,go_sem,simprocAttr]
 simp only [w1,decide_eq_false (show ¬ ((fr:Nat):Int)>((l.length-sz:Nat):Int) by omega),go_sem,simprocAttr]
 refine aK [0,1] (hy) rfl ?_ (by decide) ?_ ?_ (by simp) ?_ <;> simp only [ah,ai,go_sem,simprocAttr]
 simp only [w2,c1,c2,e1,az,fJ,gB,go_sem,simprocAttr]
 refine aC (ha) rfl rfl rfl rfl ?_; simp only [go_sem,simprocAttr]
 refine aK [2,0,1] (hn) rfl ?_ (by decide) ?_ ?_ (by simp) ?_ <;> simp only [ah,ai,go_sem,simprocAttr]
 have hol:(en l (fr+R.2) (List.replicate (sz-R.2) 0)).length=l.length:=eZ (by rw [List.length_replicate]; omega)
 refine dF [] [0,1,2] [] (vs:=[.ptr 2 0,.d (.dY 1 (ec R.1)),.int 0]) rfl rfl (by decide) (by simp) (by simp) rfl rfl ?_
 simp [aW,ai,ah,LV.int]
end Dv
namespace Dv
open Go Go.Proofs
variable {G:Nat→Option (List DV)}
def uy (n:Nat) (l:List Int) (s cnt cT:Int) (us:Nat):List aD:=[.box 160 [.ptr 1 0,.ptr 2 0,.ptr 3 0,.int cnt,.int cT],.box 150 [.sl 4 n 1 0 n,.d (.val (.slice none 0 0)),.int s],.box 243 [.ptr 1 0,.int 0,.int ((n / 4:Nat):Int)],.box 245 [.ptr 1 0,.int ((2*(n / 4):Nat):Int),.int ((n-2*(n / 4):Nat):Int),.int us],.dat 5 1 (aA l)]
def Ri:Nat×C×List RV:=(13,
(.seq (.af [qo 4 (.mv (.c (.val (.slice none 0 0))))])
 (.seq (.af [qm 5 0,
 qo 6 (.aV (.t 5)),
 qo 7 (.aj 3 (.t 6)),
 qo 8 (.ld1 (.t 7)),
 qo 9 (.call (.f 230) [(.t 8)]),
 qm 10 1,
 qo 11 (.nh 57 1 [(.t 9),(.t 10)]),
 qo 12 (.call (.f 232) [(.t 11)]),
 qm 4 12])
 .ret)),
[(.t 4)])
theorem NL:aq Tryz.prog Tryz.f185=some Ri:=by kernel_rfl
def Rk:Nat×C×List RV:=(30,
(.seq (.af [qo 4 (.mv qf)])
 (.seq (.bQ [qm 5 0,
 qd 6 (.ic true (.t 5)) [0],
 qd 7 (.mv (.t 6)) [1,0],
 qe 8 (.mv (.t 1)) 7 true [2,1,0],
 qe 9 (.bin .geq (.t 8) (qk 1)) 7 true [3,2,1,0],
 qd 10 (.pick (.t 7) (.t 9) qf) [2,1,0,4,3],
 qd 11 (.mv (.t 10)) [5,2,1,0,4,3],
 qe 12 (.mv (.t 1)) 11 true [6,5,2,1,0,4,3],
 qe 13 (.bin .leq (.t 12) (qk 3900)) 11 true [7,6,5,2,1,0,4,3],
 qd 14 (.pick (.t 11) (.t 13) qf) [6,5,2,1,0,4,3,8,7],
 qd 15 (.mv (.t 14)) [9,6,5,2,1,0,4,3,8,7],
 qe 16 (.mv (.t 0)) 15 true [10,9,6,5,2,1,0,4,3,8,7],
 qe 17 (.aV (.t 16)) 15 true [11,10,9,6,5,2,1,0,4,3,8,7],
 qe 18 (.aj 2 (.t 17)) 15 true [12,11,10,9,6,5,2,1,0,4,3,8,7],
 qe 19 (.ld1 (.t 18)) 15 true [13,12,11,10,9,6,5,2,1,0,4,3,8,7],
 qe 20 (.mv (.t 1)) 15 true [10,9,6,5,2,1,0,4,3,8,7],
 qe 21 (.mv (.t 0)) 15 true [10,9,6,5,2,1,0,4,3,8,7],
 qe 22 (.aV (.t 21)) 15 true [16,10,9,6,5,2,1,0,4,3,8,7],
 qe 23 (.aj 3 (.t 22)) 15 true [17,16,10,9,6,5,2,1,0,4,3,8,7],
 qe 24 (.ld1 (.t 23)) 15 true [18,17,16,10,9,6,5,2,1,0,4,3,8,7],
 qe 25 (.call (.f 230) [(.t 24)]) 15 true [19,18,17,16,10,9,6,5,2,1,0,4,3,8,7],
 qe 26 (.len (.t 25)) 15 true [20,19,18,17,16,10,9,6,5,2,1,0,4,3,8,7],
 qe 27 (.bin .add (.t 20) (.t 26)) 15 true [15,10,9,6,5,2,1,0,4,3,8,7,21,20,19,18,17,16],
 qe 28 (.call (.f 235) [(.t 19),(.t 27)]) 15 true [14,13,12,11,10,9,6,5,2,1,0,4,3,8,7,22,15,21,20,19,18,17,16],
 qd 29 (.pick (.t 15) (.t 28) qf) [10,9,6,5,2,1,0,4,3,8,7,23,14,13,12,11,22,15,21,20,19,18,17,16],
 qd 4 (.mv (.t 29)) [24,10,9,6,5,2,1,0,4,3,8,7,23,14,13,12,11,22,15,21,20,19,18,17,16]])
 .ret)),
[(.t 4)])
theorem NN:aq Tryz.prog Tryz.f183=some Rk:=by kernel_rfl
def Vk:Nat×C×List RV:=(41,
(.seq (.af [qo 4 (.mv (qk 0))])
 (.seq (.block 0 (.seq (.af [qm 7 0,
 qo 8 (.ic false (.t 7)),
 qm 9 8,
 qg 10 (.mv (.t 1)) 9 false,
 qg 11 (.len (.t 10)) 9 false,
 qg 12 (.bin .eql (.t 11) (qk 0)) 9 false,
 qo 13 (.pick (.t 9) qt (.t 12)),
 qm 14 13,
 qg 15 (.mv (.t 1)) 14 false,
 qg 16 (.len (.t 15)) 14 false,
 qg 17 (.bin .gtr (.t 16) (qk 3900)) 14 false,
 qo 18 (.pick (.t 14) qt (.t 17)),
 qm 6 18])
 (.cond (.t 6) (.seq (.af [qo 4 (.mv (qk 1))])
 .ret)
 (.seq (.af [qm 20 0,
 qm 21 1,
 qo 22 (.len (.t 21)),
 qo 23 (.call (.f 183) [(.t 20),(.t 22)]),
 qo 24 (.not (.t 23)),
 qm 19 24])
 (.cond (.t 19) (.seq (.af [qo 4 (.mv (qk 3))])
 .ret)
 .skip)))))
 (.seq (.bQ [qm 25 0,
 qd 26 (.aV (.t 25)) [0],
 qd 27 (.aj 2 (.t 26)) [1,0],
 qd 28 (.ld1 (.t 27)) [2,1,0],
 qm 29 0,
 qm 30 1,
 qd 31 (.call (.f 185) [(.t 29),(.t 30)]) [4,5],
 qd 32 (.call (.f 184) [(.t 28),(.t 31)]) [3,2,1,0,6,4,5],
 qd 5 (.mv (.t 32)) [7,3,2,1,0,6,4,5]])
 (.seq (.af [qm 33 0,
 qo 34 (.aV (.t 33)),
 qo 35 (.aj 3 (.t 34)),
 qo 36 (.ld1 (.t 35)),
 qo 37 (.bin .add (.t 36) (qk 1)),
 qo 38 (.aV (.t 33)),
 qo 39 (.aj 3 (.t 38)),
 qn (.st 1 (.t 39) (.t 37))])
 (.seq (.af [qm 40 5,
 qm 4 40])
 .ret))))),
[(.t 4)])
theorem SZ:aq Tryz.prog Tryz.f95=some Vk:=by kernel_rfl
def VD:Nat×C×List RV:=(17,
(.seq (.af [qo 4 (.mv (qk 0))])
 (.seq (.seq (.af [qm 6 0,
 qm 7 1,
 qo 8 (.call (.f 95) [(.t 6),(.t 7)]),
 qm 5 8])
 (.seq (.af [qm 9 5,
 qo 10 (.bin .neq (.t 9) (qk 0))])
 (.cond (.t 10) (.seq (.af [qm 11 5,
 qm 4 11])
 .ret)
 .skip)))
 (.seq (.af [qm 12 0,
 qo 13 (.aV (.t 12)),
 qo 14 (.aj 0 (.t 13)),
 qo 15 (.ld1 (.t 14)),
 qo 16 (.call (.f 96) [(.t 15)])])
 (.seq (.af [qo 4 (.mv (qk 0))])
 .ret)))),
[(.t 4)])
theorem Tn:aq Tryz.prog Tryz.f33=some VD:=by kernel_rfl
def OL:Nat×C×List RV:=(41,
(.seq (.af [qo 4 (.mv (qk 0))])
 (.seq (.seq (.af [qm 5 0,
 qo 6 (.ic false (.t 5))])
 (.cond (.t 6) (.seq (.af [qo 4 (.mv (qk 1))])
 .ret)
 .skip))
 (.seq (.seq (.bQ [qm 7 0,
 qd 8 (.aV (.t 7)) [0],
 qd 9 (.aj 4 (.t 8)) [1,0],
 qd 10 (.ld1 (.t 9)) [2,1,0],
 qm 11 0,
 qd 12 (.aV (.t 11)) [4],
 qd 13 (.aj 3 (.t 12)) [5,4],
 qd 14 (.ld1 (.t 13)) [6,5,4],
 qd 15 (.bin .eql (.t 10) (.t 14)) [3,2,1,0,7,6,5,4],
 qd 16 (.mv (.t 15)) [8,3,2,1,0,7,6,5,4],
 qe 17 (.mv (.t 0)) 16 false [9,8,3,2,1,0,7,6,5,4],
 qe 18 (.aV (.t 17)) 16 false [10,9,8,3,2,1,0,7,6,5,4],
 qe 19 (.aj 1 (.t 18)) 16 false [11,10,9,8,3,2,1,0,7,6,5,4],
 qe 20 (.ld1 (.t 19)) 16 false [12,11,10,9,8,3,2,1,0,7,6,5,4],
 qe 21 (.mv (.t 1)) 16 false [9,8,3,2,1,0,7,6,5,4],
 qe 22 (.mv (.t 0)) 16 false [9,8,3,2,1,0,7,6,5,4],
 qe 23 (.aV (.t 22)) 16 false [15,9,8,3,2,1,0,7,6,5,4],
 qe 24 (.aj 3 (.t 23)) 16 false [16,15,9,8,3,2,1,0,7,6,5,4],
 qe 25 (.ld1 (.t 24)) 16 false [17,16,15,9,8,3,2,1,0,7,6,5,4],
 qe 26 (.call (.f 92) [(.t 20),(.t 21),(.t 25)]) 16 false [13,12,11,10,9,8,3,2,1,0,7,6,5,4,14,18,17,16,15],
 qe 27 (.bin .neq (.t 26) (qk 0)) 16 false [19,13,12,11,10,9,8,3,2,1,0,7,6,5,4,14,18,17,16,15],
 qd 28 (.pick (.t 16) qt (.t 27)) [9,8,3,2,1,0,7,6,5,4,20,19,13,12,11,10,14,18,17,16,15]])
 (.cond (.t 28) (.seq (.af [qo 4 (.mv (qk 3))])
 .ret)
 .skip))
 (.seq (.af [qm 29 0,
 qm 30 0,
 qo 31 (.aV (.t 30)),
 qo 32 (.aj 3 (.t 31)),
 qo 33 (.ld1 (.t 32)),
 qo 34 (.aV (.t 29)),
 qo 35 (.aj 4 (.t 34)),
 qn (.st 1 (.t 35) (.t 33))])
 (.seq (.af [qm 36 0,
 qo 37 (.aV (.t 36)),
 qo 38 (.aj 2 (.t 37)),
 qo 39 (.ld1 (.t 38)),
 qo 40 (.call (.f 86) [(.t 39)])])
 (.seq (.af [qo 4 (.mv (qk 0))])
 .ret)))))),
[(.t 4)])
theorem DJ:aq Tryz.prog Tryz.f31=some OL:=by kernel_rfl
theorem Dh (n:Nat) (l:List Int) (s cnt cT:Int) (us:Nat) (p:List Int) (hp:p.length≤90000):bw Tryz.prog G 185 [.ptr 0 0,au p] (uy n l s cnt cT us) (au (cc cnt++p)) (uy n l s cnt cT us):=by
 have hm:=l9 (G:=G) cnt
 have xM:=qw (G:=G) [cc cnt,p] (by simp) (by simp; have:=gw cnt; omega)
 simp only [List.flatten_cons,List.flatten_nil,List.append_nil,ec,List.map_cons,List.map_nil,au] at xM hm
 refine cG Tryz.func185 (by decide) NL rfl ?_
 simp only [uy,au,Ri,go_sem,simprocAttr]
 refine aC (hm) rfl rfl rfl rfl ?_; simp only [go_sem,simprocAttr]
 refine oM [5] (xM) rfl (by simp [ah,ai,bE,aB,go_sem,simprocAttr]) (by simp [aB]) rfl ?_; simp only [go_sem,simprocAttr]
 refine dF [] [0,1,2,3,4] [] (vs:=[.d (.dY 1 (aA (cc cnt++p)))]) rfl rfl (by decide) (by simp) (by simp) rfl rfl ?_
 simp [aW,ai]
def mR (n us:Nat) (cnt:Int) (k:Nat):Bool:=decide (1≤k∧k≤3900)&&qT (n-2*(n / 4)) us (k+(cc cnt).length)
theorem yq (n:Nat) (l:List Int) (s cnt cT:Int) (us k:Nat) (hl:l.length=n) (hn:n≤65536) (hu:us≤n-2*(n / 4)) (hk:k≤900000):bw Tryz.prog G 183 [.ptr 0 0,.int k] (uy n l s cnt cT us) (.bool (mR n us cnt k)) (uy n l s cnt cT us):=by
 have hm:=l9 (G:=G) cnt
 have h9:=gw cnt
 have hr:=tW (G:=G) l s (2*(n / 4)) (n-2*(n / 4)) us (k+(cc cnt).length) hu (by omega) (by omega)
 have w1:IntKind.i64.wrap ((k:Int)+((cc cnt).length:Int))=((k+(cc cnt).length:Nat):Int):=by rw [aO (by omega) (by omega)]; omega
 simp only [au,BF,hl] at hm hr
 refine aR Tryz.func183 (by decide) NN rfl rfl rfl rfl ?_
 simp only [Rk,go_sem,simprocAttr]
 simp only [uy,go_sem,simprocAttr]
 by_cases h1:1≤k
 case neg=>
  simp only [decide_eq_false (show ¬ ((k:Nat):Int)≥1 by omega),mR,decide_eq_false (show ¬ (1≤k∧k≤3900) by omega),go_sem,simprocAttr]
 by_cases h2:k≤3900
 case neg=>
  simp only [decide_eq_true (show ((k:Nat):Int)≥1 by omega),decide_eq_false (show ¬ ((k:Nat):Int)≤3900 by omega),mR,decide_eq_false (show ¬ (1≤k∧k≤3900) by omega),go_sem,simprocAttr]
 simp only [decide_eq_true (show ((k:Nat):Int)≥1 by omega),decide_eq_true (show ((k:Nat):Int)≤3900 by omega),mR,decide_eq_true (show (1≤k∧k≤3900) by omega),go_sem,simprocAttr]
 refine bf (hm) rfl rfl rfl rfl ?_; simp only [go_sem,simprocAttr]
 simp only [az,w1,go_sem,simprocAttr]
 refine eS [3,1,4] (hr) rfl ?_ (by decide) ?_ ?_ (by simp) ?_ <;> simp only [ah,ai,go_sem,simprocAttr]
 refine av rfl ?_
 simp only [go_sem,simprocAttr]
def Zq (n:Nat) (l:List Int) (s cnt cT:Int) (us a:Nat) (b:List Int):List aD:=[.box 160 [.ptr 1 0,.ptr 2 0,.ptr 3 0,.int cnt,.int cT],.box 150 [.sl 4 n 1 0 n,.sl 5 1 2 0 1,.int s],.box 243 [.ptr 1 0,.int 0,.int ((n / 4:Nat):Int)],.box 245 [.ptr 1 0,.int ((2*(n / 4):Nat):Int),.int ((n-2*(n / 4):Nat):Int),.int us],.dat 5 1 (aA l),.dat 227 2 (tF a b)]
def qV (cnt:Int) (p:List Int):List Int:=mZ (cc cnt++p)
set_option maxHeartbeats 1000000 in
theorem DE (n:Nat) (l:List Int) (s cnt cT:Int) (us:Nat) (p:List Int) (hl:l.length=n) (hn:1≤n∧n≤65536) (hu:us≤n-2*(n / 4)) (hr:mR n us cnt p.length=true):bw Tryz.prog G 95 [.ptr 0 0,au p] (uy n l s cnt cT us) (.int 0) (Zq n l s (IntKind.i64.wrap (cnt+1)) cT (us+(qV cnt p).length) (2*(n / 4)+us) (qV cnt p)):=by
 have Fx:=hr
 unfold mR at Fx
 rw [Bool.and_eq_true,decide_eq_true_eq] at Fx
 obtain ⟨⟨k1,k2⟩,k3⟩:=Fx
 have hrl:(cc cnt++p).length=p.length+(cc cnt).length:=by rw [List.length_append,Nat.add_comm]
 have hq:=yq (G:=G) n l s cnt cT us p.length hl hn.2 hu (by omega)
 have uz:=Dh (G:=G) n l s cnt cT us p (by omega)
 have hput:=DA (G:=G) l s (2*(n / 4)) (n-2*(n / 4)) us (cc cnt++p) (by omega) hu (by omega) (by rw [hrl]; exact k3)
 rw [hr] at hq
 rw [show mZ (cc cnt++p)=qV cnt p from rfl] at hput
 simp only [uy,BF,Zp,tF,au,hl] at hq uz hput
 refine cG Tryz.func95 (by decide) SZ rfl ?_
 simp only [uy,au,Vk,go_sem,simprocAttr]
 simp only [az,show (((p.length:Nat):Int)==0)=false from beq_eq_false_iff_ne.2 (by omega),go_sem,simprocAttr]
 simp only [az,decide_eq_false (show ¬ ((p.length:Nat):Int)>3900 by omega),go_sem,simprocAttr]
 refine aK [0,1,2,3,4] (hq) rfl ?_ (by decide) ?_ ?_ (by simp) ?_ <;> simp only [ah,ai,go_sem,simprocAttr]
 refine er [0,1,2,3,4] (uz) rfl ?_ (by decide) ?_ ?_ ?_ <;> simp only [ah,ai,go_sem,simprocAttr]
 refine eS [3,1,4] (hput) rfl ?_ (by decide) ?_ ?_ (by simp) ?_ <;> simp only [ah,ai,go_sem,simprocAttr]
 refine av rfl ?_
 simp only [go_sem,simprocAttr]
 refine dF [] [0,1,2,3,4,5] [] (vs:=[.int 0]) rfl rfl (by decide) (by simp) (by simp) rfl rfl ?_
 simp [aW,ai,LV.int]
set_option maxHeartbeats 1000000 in
theorem BJ (n:Nat) (l:List Int) (s cnt cT:Int) (us:Nat) (p:List Int) (hl:l.length=n) (hn:1≤n∧n≤65536) (hu:us≤n-2*(n / 4)) (hr:mR n us cnt p.length=true):bw Tryz.prog G 33 [.ptr 0 0,au p] (uy n l s cnt cT us) (.int 0) (uy n (en l (2*(n / 4)+us) (qV cnt p)) (IntKind.i64.wrap (s+1)) (IntKind.i64.wrap (cnt+1)) cT (us+(qV cnt p).length)):=by
 have hst:=DE (G:=G) n l s cnt cT us p hl hn hu hr
 have hfit:2*(n / 4)+us+(qV cnt p).length≤n:=by
  have Fx:=hr
  unfold mR qT at Fx
  rw [Bool.and_eq_true,decide_eq_true_eq,decide_eq_true_eq] at Fx
  have hrl:(cc cnt++p).length=p.length+(cc cnt).length:=by rw [List.length_append,Nat.add_comm]
  unfold qV
  rw [vD (by omega),hrl]
  omega
 have Zw:=jt (G:=G) l s (2*(n / 4)+us) (qV cnt p) (by omega) (by omega)
 have Ys:(en l (2*(n / 4)+us) (qV cnt p)).length=n:=by rw [eZ (by omega),hl]
 simp only [uy,Zq,eV,i_,tF,au,Ys,hl,List.cons_append,List.nil_append] at hst Zw
 refine cG Tryz.func33 (by decide) Tn rfl ?_
 simp only [uy,au,VD,go_sem,simprocAttr]
 refine aK [0,1,2,3,4] (hst) rfl ?_ (by decide) ?_ ?_ (by simp) ?_ <;> simp only [ah,ai,go_sem,simprocAttr]
 refine aK [1,4,5] (Zw) rfl ?_ (by decide) ?_ ?_ (by simp) ?_ <;> simp only [ah,ai,go_sem,simprocAttr]
 refine dF [] [0,1,2,3,4] [] (vs:=[.int 0]) rfl rfl (by decide) (by simp) (by simp) rfl rfl ?_
 simp [aW,ai,LV.int]
theorem yj {l:List Int} {sz:Nat} {b:List Int} {cT:Int} (h:2*sz≤l.length) (hE:eX l 0 sz b cT=0):(qO l 0 sz b cT).length=l.length:=by
 have hk:ga l 0 sz*sz+sz≤2*sz:=by
  have:ga l 0 sz≤1:=by unfold ga; split <;> omega
  have:=Nat.mul_le_mul_right sz this
  omega
 have hfl:(ia b cT).length≤sz:=by
  unfold eX at hE
  split at hE
  ·exact absurd hE (by decide)
  split at hE
  ·exact absurd hE (by decide)
  split at hE
  ·exact absurd hE (by decide)
  omega
 unfold qO
 have h1:(en l (0+ga l 0 sz*sz) (List.replicate sz 0)).length=l.length:=eZ (by rw [List.length_replicate]; omega)
 rw [eZ (by rw [h1]; omega),h1]
def FL (n:Nat) (l:List Int) (lV:List Int) (cnt:Int):List Int:=en (qO l 0 (n / 4) lV cnt) (2*(n / 4)) (List.replicate (n-2*(n / 4)) 0)
set_option maxHeartbeats 1000000 in
theorem Cd (n:Nat) (l:List Int) (s cnt cT:Int) (us:Nat) (lV:List Int) (hl:l.length=n) (hn:64≤n∧n≤65536) (hb:∀ c∈l,0≤c∧c≤255) (mq:lV.length≤90000) (ha:cT≠cnt) (hE:eX l 0 (n / 4) lV cnt=0):bw Tryz.prog G 31 [.ptr 0 0,au lV] (uy n l s cnt cT us) (.int 0) (uy n (FL n l lV cnt) (IntKind.i64.wrap (IntKind.i64.wrap (IntKind.i64.wrap (s+1)+1)+1)) cnt cnt 0):=by
 have VR:=IQ (G:=G) l s 0 (n / 4) lV cnt hb (by omega) (by omega) (by omega) mq hE
 have CG:=yj (l:=l) (sz:=n / 4) (b:=lV) (cT:=cnt) (by omega) hE
 have hcl:=zV (G:=G) (qO l 0 (n / 4) lV cnt) (IntKind.i64.wrap (IntKind.i64.wrap (s+1)+1)) (2*(n / 4)) (n-2*(n / 4)) us (by omega) (by omega) (by omega)
 have hcb:(en (qO l 0 (n / 4) lV cnt) (2*(n / 4)) (List.replicate (n-2*(n / 4)) 0)).length=n:=by rw [eZ (by rw [List.length_replicate]; omega),CG,hl]
 simp only [kj,BF,au,CG,hl,hcb] at VR hcl
 refine cG Tryz.func31 (by decide) DJ rfl ?_
 simp only [uy,FL,au,OL,go_sem,simprocAttr]
 simp only [show (cT==cnt)=false from beq_eq_false_iff_ne.2 ha,go_sem,simprocAttr]
 refine eS [2,1,4] (VR) rfl ?_ (by decide) ?_ ?_ (by simp) ?_ <;> simp only [ah,ai,go_sem,simprocAttr]
 refine av rfl ?_
 simp only [go_sem,simprocAttr]
 refine aK [3,1,4] (hcl) rfl ?_ (by decide) ?_ ?_ (by simp) ?_ <;> simp only [ah,ai,go_sem,simprocAttr]
 refine dF [] [0,1,2,3,4] [] (vs:=[.int 0]) rfl rfl (by decide) (by simp) (by simp) rfl rfl ?_
 simp [aW,ai,LV.int]
theorem uB (n:Nat) (l:List Int) (s cnt:Int) (us:Nat) (lV:List Int):bw Tryz.prog G 31 [.ptr 0 0,au lV] (uy n l s cnt cnt us) (.int 3) (uy n l s cnt cnt us):=by
 refine aR Tryz.func31 (by decide) DJ rfl rfl rfl rfl ?_
 simp only [OL,go_sem,simprocAttr]
 simp only [uy,au,go_sem,simprocAttr]
theorem wS (n:Nat) (l:List Int) (s cnt cT:Int) (us:Nat) (lV:List Int) (hl:l.length=n) (hn:64≤n∧n≤65536) (hb:∀ c∈l,0≤c∧c≤255) (mq:lV.length≤90000) (he:cT≠cnt) (hE:eX l 0 (n / 4) lV cnt≠0):bw Tryz.prog G 31 [.ptr 0 0,au lV] (uy n l s cnt cT us) (.int 3) (uy n l s cnt cT us):=by
 have VR:=A3 (G:=G) l s 0 (n / 4) lV cnt hb (by omega) (by omega) (by omega) mq hE
 generalize eX l 0 (n / 4) lV cnt=e at *
 simp only [kj,au,hl] at VR
 refine aR Tryz.func31 (by decide) DJ rfl rfl rfl rfl ?_
 simp only [OL,go_sem,simprocAttr]
 simp only [uy,au,show (cT==cnt)=false from beq_eq_false_iff_ne.2 he,go_sem,simprocAttr]
 refine er [2,1,4] (VR) rfl ?_ (by decide) ?_ ?_ ?_ <;> simp only [ah,ai,go_sem,simprocAttr]
 simp only [show (e !=0)=true from bne_iff_ne.2 hE,go_sem,simprocAttr]
end Dv
namespace Dv
open Go Go.Proofs
variable {G:Nat→Option (List DV)}
def VE:Nat×C×List RV:=(87,
(.seq (.af [qo 2 (.mv (.c (.val (.pointer none)))),
 qo 3 (.mv (.c (.val (.slice none 0 0)))),
 qo 4 (.mv (.c (.val (.slice none 0 0)))),
 qo 5 (.mv (qk 0))])
 (.seq (.seq (.af [qm 18 0,
 qo 19 (.call (.f 79) [(.t 18)]),
 qo 20 (.bin .lss (.t 19) (qk 64))])
 (.cond (.t 20) (.seq (.af [qo 2 (.mv (.c (.val (.pointer none)))),
 qo 3 (.mv (.c (.val (.slice none 0 0)))),
 qo 4 (.mv (.c (.val (.slice none 0 0)))),
 qo 5 (.mv (qk 1))])
 .ret)
 .skip))
 (.seq (.af [qm 21 0,
 qo 22 (.call (.f 79) [(.t 21)]),
 qo 23 (.bin .quo (.t 22) (qk 4)),
 qm 6 23])
 (.seq (.af [qm 25 0,
 qm 26 6,
 qo 27 (.call (.f 80) [(.t 25),(qk 0),(.t 26)]),
 qm 24 27,
 qo 28 (.ext (.t 24) 0),
 qo 29 (.ext (.t 24) 1),
 qm 7 28,
 qm 8 29])
 (.seq (.af [qm 31 0,
 qm 32 6,
 qo 33 (.bin .mul (qk 2) (.t 32)),
 qm 34 0,
 qo 35 (.call (.f 79) [(.t 34)]),
 qm 36 6,
 qo 37 (.bin .mul (qk 2) (.t 36)),
 qo 38 (.bin .sub (.t 35) (.t 37)),
 qo 39 (.call (.f 81) [(.t 31),(.t 33),(.t 38)]),
 qm 30 39,
 qo 40 (.ext (.t 30) 0),
 qo 41 (.ext (.t 30) 1),
 qo 42 (.ext (.t 30) 2),
 qm 9 40,
 qm 10 41,
 qm 11 42])
 (.seq (.af [qm 43 0,
 qm 44 7,
 qm 45 9,
 qo 46 (.build [(.val (.pointer none)),(.val (.pointer none)),(.val (.pointer none)),q0,q0] [(0,1,(.t 43)),(1,1,(.t 44)),(2,1,(.t 45)),(4,1,(.c (.val (.int .i64 (-1)))))]),
 qo 47 (.box 160 (.t 46)),
 qo 12 (.new 56 [(.val (.pointer none))]),
 qn (.st 1 (.t 12) (.t 47))])
 (.seq (.af [qm 49 7,
 qo 50 (.call (.f 82) [(.t 49)]),
 qm 48 50,
 qo 51 (.ext (.t 48) 0),
 qo 52 (.ext (.t 48) 1),
 qo 53 (.ext (.t 48) 2),
 qm 13 51,
 qm 14 52,
 qm 15 53])
 (.seq (.seq (.af [qm 54 15])
 (.cond (.t 54) (.af [qo 55 (.ld1 (.t 12)),
 qm 56 14,
 qo 57 (.aV (.t 55)),
 qo 58 (.aj 4 (.t 57)),
 qn (.st 1 (.t 58) (.t 56))])
 .skip))
 (.seq (.af [qo 59 (.ld1 (.t 12)),
 qm 60 14,
 qo 61 (.aV (.t 59)),
 qo 62 (.aj 3 (.t 61)),
 qn (.st 1 (.t 62) (.t 60))])
 (.seq (.af [qo 16 (.new 58 [(.val (.slice none 0 0))])])
 (.seq (.seq (.af [qm 63 10,
 qm 64 14,
 qo 65 (.call (.f 83) [(.t 63),(.t 64)])])
 (.block 0 (.PJ (.t 65) [66] (.af [qm 17 66])
 (.block 1 (.seq (.bQ [qo 67 (.ld1 (.t 16)),
 qm 68 17,
 qd 69 (.call (.f 84) [(.t 68)]) [1],
 qd 70 (.nh 57 1 [(.t 69)]) [2,1],
 qd 71 (.app 57 1 24 (.t 67) (.t 70)) [0,3,2,1],
 ql (.st 1 (.t 16) (.t 71)) [4,0,3,2,1]])
 (.af [qo 72 (.ld1 (.t 12)),
 qo 73 (.aV (.t 72)),
 qo 74 (.aj 3 (.t 73)),
 qo 75 (.ld1 (.t 74)),
 qo 76 (.bin .add (.t 75) (qk 1)),
 qo 77 (.aV (.t 72)),
 qo 78 (.aj 3 (.t 77)),
 qn (.st 1 (.t 78) (.t 76))]))))))
 (.seq (.seq (.af [qm 79 10,
 qm 80 14,
 qo 81 (.call (.f 85) [(.t 79),(.t 80)])])
 (.cond (.t 81) (.af [qm 82 9,
 qo 83 (.call (.f 86) [(.t 82)])])
 .skip))
 (.seq (.bQ [qo 84 (.ld1 (.t 12)),
 qm 85 13,
 qo 86 (.ld1 (.t 16)),
 qd 2 (.mv (.t 84)) [0],
 qd 3 (.mv (.t 85)) [1,3,0],
 qd 4 (.mv (.t 86)) [2,4,1,3,0],
 qd 5 (.mv (qk 0)) [5,2,4,1,3,0]])
 .ret))))))))))))),
[(.t 2),(.t 3),(.t 4),(.t 5)])
theorem To:aq Tryz.prog Tryz.f29=some VE:=by kernel_rfl
def Vn:Nat×C×List RV:=(6,
(.seq (.af [qo 2 (.box 58 (.t 0)),
 qo 3 (.box 3 (.t 1)),
 qo 4 (.mv (.c (.val .nilFunc)))])
 (.seq (.af [qo 5 (.zS (.func 171) [] [(.t 2),(.t 3)]),
 qm 4 5])
 .ret)),
[(.t 4)])
theorem S8:aq Tryz.prog Tryz.f83=some Vn:=by kernel_rfl
def Rm:Nat×C×List RV:=(57,
(.seq (.af [qo 9 (.ld1 (.t 1)),
 qo 10 (.len (.t 9)),
 qo 11 (.mv (qk 0))])
 (.block 0 (.loop (.seq (.af [qo 12 (.bin .lss (.t 11) (.t 10))])
 (.seq (.cond (.t 12) .skip
 (.exit 0))
 (.seq (.block 1 (.seq (.af [qo 13 (.eG 1 (.t 9) (.t 11)),
 qo 14 (.ld1 (.t 13)),
 qm 5 14])
 (.seq (.af [qm 16 5,
 qo 17 (.call (.f 172) [(.t 16),(qk 0)]),
 qm 15 17,
 qo 18 (.ext (.t 15) 0),
 qo 19 (.ext (.t 15) 1),
 qo 20 (.ext (.t 15) 2),
 qm 6 18,
 qm 7 19,
 qm 8 20])
 (.seq (.seq (.af [qm 21 8,
 qm 22 21,
 qg 23 (.mv (.t 6)) 22 true,
 qg 24 (.ld1 (.t 2)) 22 true,
 qg 25 (.bin .lss (.t 23) (.t 24)) 22 true,
 qo 26 (.pick (.t 22) (.t 25) qf),
 qm 27 26,
 qg 28 (.mv (.t 5)) 27 true,
 qg 29 (.len (.t 28)) 27 true,
 qg 30 (.mv (.t 7)) 27 true,
 qg 31 (.bin .gtr (.t 29) (.t 30)) 27 true,
 qo 32 (.pick (.t 27) (.t 31) qf)])
 (.cond (.t 32) (.exit 1)
 .skip))
 (.seq (.seq (.af [qm 33 8,
 qo 34 (.not (.t 33)),
 qm 35 34,
 qg 36 (.mv (.t 6)) 35 false,
 qg 37 (.ld1 (.t 2)) 35 false,
 qg 38 (.bin .neq (.t 36) (.t 37)) 35 false,
 qo 39 (.pick (.t 35) qt (.t 38)),
 qm 40 39,
 qg 41 (.mv (.t 5)) 40 false,
 qg 42 (.len (.t 41)) 40 false,
 qg 43 (.mv (.t 7)) 40 false,
 qg 44 (.bin .eql (.t 42) (.t 43)) 40 false,
 qo 45 (.pick (.t 40) qt (.t 44)),
 qm 46 45,
 qg 47 (.mv (.t 0)) 46 false,
 qg 48 (.mv (.t 5)) 46 false,
 qg 49 (.mv (.t 7)) 46 false,
 qg 50 (.zm 1 (.t 48) (some (.t 49)) none none) 46 false,
 qg 51 (.call (.t 47) [(.t 50)]) 46 false,
 qg 52 (.not (.t 51)) 46 false,
 qo 53 (.pick (.t 46) qt (.t 52))])
 (.cond (.t 53) .ret
 .skip))
 (.af [qo 54 (.ld1 (.t 2)),
 qo 55 (.bin .add (.t 54) (qk 1)),
 qn (.st 1 (.t 2) (.t 55))]))))))
 (.af [qo 56 (.bin .add (.t 11) (qk 1)),
 qm 11 56]))))))),
[])
theorem NP:aq Tryz.prog Tryz.f171=some Rm:=by kernel_rfl
def Vm:Nat×C×List RV:=(14,
(.seq (.af [qo 3 (.box 3 (.t 1)),
 qo 4 (.mv qf)])
 (.seq (.af [qm 5 0,
 qo 6 (.len (.t 5)),
 qo 7 (.bin .gtr (.t 6) (qk 0)),
 qm 8 7,
 qg 9 (.mv (.t 0)) 8 true,
 qg 10 (.zS (.func 174) [] [(.t 3)]) 8 true,
 qg 11 (.call (.f 173) [(.t 9),(.t 10)]) 8 true,
 qg 12 (.not (.t 11)) 8 true,
 qo 13 (.pick (.t 8) (.t 12) qf),
 qm 4 13])
 .ret)),
[(.t 4)])
theorem S7:aq Tryz.prog Tryz.f85=some Vm:=by kernel_rfl
theorem yU (m:Nat):ey (List.replicate m 0) 0=([],0,0):=by
 unfold ey
 rw [if_neg (by omega),if_pos]
 cases m with
 | zero=>exact .inl rfl
 | succ m=>exact .inr rfl
theorem take_zero (n a b:Nat) (h:a+b≤n):((List.replicate n (0:Int)).drop a).take b=List.replicate b 0:=by
 rw [List.drop_replicate,List.take_replicate,Nat.min_eq_left (by omega)]
theorem Gn (n fr sz:Nat) (h:fr+sz≤n):vB (List.replicate n 0) fr sz=([],0):=by
 unfold vB Gf
 rw [take_zero n fr sz h]
 unfold H6
 rw [yU]
 rfl
theorem yz (n fr sz k:Nat) (h:fr+k*sz+sz≤n):sM (List.replicate n 0) fr sz k=none:=by
 unfold sM ki
 rw [take_zero n (fr+k*sz) sz h,yU]
 rfl
theorem DB (n fr sz:Nat) (h:fr+2*sz≤n):pq (List.replicate n 0) fr sz=none:=by
 have h0:=yz n fr sz 0 (by omega)
 have h1:=yz n fr sz 1 (by omega)
 unfold pq
 have:ng (List.replicate n 0) fr sz 2=(-1,-1):=by
  simp only [ng,h0,h1]
 rw [this]
 rfl
theorem Dn (n a m:Nat) (h:a+m≤n):en (List.replicate n 0) a (List.replicate m 0)=List.replicate n 0:=by
 unfold en
 rw [List.take_replicate,List.drop_replicate,List.length_replicate,List.replicate_append_replicate,List.replicate_append_replicate,Nat.min_eq_left (by omega)]
 congr 1
 omega
def TY (p q:Nat):LV:=.fn (.func 171) [] [.ptr p 0,.ptr q 0]
theorem xQ (rs:List (List Int)) (fr:Int):bw Tryz.prog G 83 [.d (.dY 1 (ec rs)),.int fr] [] (TY 0 1) [.box 58 [.d (.dY 1 (ec rs))],.box 3 [.int fr]]:=by
 refine cG Tryz.func83 (by decide) S8 rfl ?_
 simp only [Vn,go_sem,simprocAttr]
 exact dF [] [0,1] [] rfl rfl (by simp) (fun _ h=>by cases h) (fun _ h=>by cases h) rfl rfl (by simp [TY,de,aW,St.get,bx,ai,ah])
def Zr (n:Nat) (l:List Int) (s cnt cT:Int) (us:Nat):List aD:=[.box 150 [.sl 1 n 1 0 n,.d (.val (.slice none 0 0)),.int s],.dat 5 1 (aA l),.box 160 [.ptr 0 0,.ptr 3 0,.ptr 4 0,.int cnt,.int cT],.box 243 [.ptr 0 0,.int 0,.int ((n / 4:Nat):Int)],.box 245 [.ptr 0 0,.int ((2*(n / 4):Nat):Int),.int ((n-2*(n / 4):Nat):Int),.int us]]
theorem Eb:bw Tryz.prog G 85 [.d (.dY 1 []),.int 0] [] (.bool false) []:=by
 refine bn Tryz.func85 (by decide) S7 rfl rfl ?_
 simp only [Vm,go_sem,simprocAttr]
def W4 (n:Nat) (s:Int):List (Option aD):=[some (.box 150 [.sl 1 n 1 0 n,.d (.val (.slice none 0 0)),.int s]),some (.dat 5 1 (aA (List.replicate n 0))),some (.box 243 [.ptr 0 0,.int 0,.int ((n / 4:Nat):Int)]),some (.box 245 [.ptr 0 0,.int ((2*(n / 4):Nat):Int),.int ((n-2*(n / 4):Nat):Int),.int 0]),some (.box 160 [.ptr 0 0,.ptr 2 0,.ptr 3 0,.int 0,.int (-1)]),some (.box 56 [.ptr 4 0]),some (.box 58 [.d (.val (.slice none 0 0))]),some (.box 58 [.d (.dY 1 [])]),some (.box 3 [.int 0])]
set_option maxHeartbeats 2000000 in
theorem DF (n:Nat) (s:Int) (hn:64≤n∧n≤65536):bw Tryz.prog G 29 [.ptr 0 0] (eV (List.replicate n 0) s) (.dP [.ptr 2 0,au [],.d (.dY 1 []),.int 0]) (Zr n (List.replicate n 0) (IntKind.i64.wrap (s+1)) 0 (-1) 0):=by
 have hlen:(List.replicate n (0:Int)).length=n:=List.length_replicate
 have hsz:=jv (G:=G) (List.replicate n 0) s
 have Kl:=xE (G:=G) (List.replicate n 0) s 0 (n / 4) (by rw [hlen]; omega) (by omega) (by rw [hlen]; omega)
 have hz:∀ c∈List.replicate n (0:Int),0≤c∧c≤255:=fun c hc=>by rw [List.eq_of_mem_replicate hc]; decide
 have hR:=Gn n (2*(n / 4)) (n-2*(n / 4)) (by omega)
 have hlo:=BB (G:=G) (List.replicate n 0) s (2*(n / 4)) (n-2*(n / 4)) hz (by rw [hlen]; omega) (by omega) (by rw [hlen]; omega) (by rw [hR]; dsimp only; omega)
 have Wp:=vX (G:=G) (List.replicate n 0) (IntKind.i64.wrap (s+1)) 0 (n / 4) hz (by rw [hlen]; omega) (by rw [hlen]; omega)
 rw [DB n 0 (n / 4) (by omega)] at Wp
 rw [hR] at hlo
 simp only [Nat.add_zero,Nat.sub_zero,Dn n (2*(n / 4)) (n-2*(n / 4)) (by omega)] at hlo
 simp only [eV,ZV,ZW,kj,m_,au,hlen,ec,List.map_nil] at hsz Kl hlo Wp
 have w1:IntKind.i64.wrap (((n:Nat):Int).tdiv 4)=((n / 4:Nat):Int):=by rw [Int.tdiv_eq_ediv_of_nonneg (by omega),aO (by omega) (by omega)]; omega
 have w2:IntKind.i64.wrap (2*((n / 4:Nat):Int))=((2*(n / 4):Nat):Int):=by rw [aO (by omega) (by omega)]; omega
 have w3:IntKind.i64.wrap (((n:Nat):Int)-((2*(n / 4):Nat):Int))=((n-2*(n / 4):Nat):Int):=by rw [aO (by omega) (by omega)]; omega
 refine cG Tryz.func29 (by decide) To rfl ?_
 simp only [eV,hlen,VE,go_sem,simprocAttr]
 refine aK [0,1] (hsz) rfl ?_ (by decide) ?_ ?_ (by simp) ?_ <;> simp only [ah,ai,go_sem,simprocAttr]
 simp only [decide_eq_false (show ¬ ((n:Nat):Int)<64 by omega),go_sem,simprocAttr]
 refine aK [0,1] (hsz) rfl ?_ (by decide) ?_ ?_ (by simp) ?_ <;> simp only [ah,ai,go_sem,simprocAttr]
 simp only [w1,go_sem,simprocAttr]
 refine aK [0,1] (Kl) rfl ?_ (by decide) ?_ ?_ (by simp) ?_ <;> simp only [ah,ai,go_sem,simprocAttr]
 simp only [w2,go_sem,simprocAttr]
 refine aK [0,1] (hsz) rfl ?_ (by decide) ?_ ?_ (by simp) ?_ <;> simp only [ah,ai,go_sem,simprocAttr]
 simp only [w2,w3,go_sem,simprocAttr]
 refine aK [0,1] (hlo) rfl ?_ (by decide) ?_ ?_ (by simp) ?_ <;> simp only [ah,ai,go_sem,simprocAttr]
 refine aK [2,0,1] (Wp) rfl ?_ (by decide) ?_ ?_ (by simp) ?_ <;> simp only [ah,ai,go_sem,simprocAttr]
 have hfo:=xQ (G:=G) [] 0
 simp only [ec,List.map_nil,TY] at hfo
 refine kL hfo rfl rfl rfl ?_
 simp only [go_sem,simprocAttr]
 refine W_ rfl (fun yv o=>yv=jK∧o=W4 n (IntKind.i64.wrap (s+1))++[none]) ?_ ?_
 case refine_2=>
  rintro yv objs ⟨rfl,rfl⟩
  refine .inl ⟨rfl,?_⟩
  simp only [W4,go_sem,simprocAttr]
  have hel:=Eb (G:=G)
  refine aC (hel) rfl rfl rfl rfl ?_; simp only [go_sem,simprocAttr]
  refine dF [] [0,1,4,2,3] [] (vs:=[.ptr 4 0,.d (.dY 1 (aA [])),.d (.val (.slice none 0 0)),.int 0]) rfl rfl (by decide) (by simp) (by simp) rfl rfl ?_
  simp [aW,ai,ah,au,LV.int]
 simp only [go_sem,simprocAttr]
 refine SU Tryz.func171 (by decide) NP rfl rfl rfl ?_
 simp only [Rm,go_sem,simprocAttr]
 refine aY [10,11,4294967294] [] (fun k:Nat=>k=0) (fun k=>1-k) (fun _=>⟨[(10,.int 0),(11,.int 0),(4294967294,jK)],W4 n (IntKind.i64.wrap (s+1))++[none]⟩) 0 ?_ rfl (fun k hk=>?_)
 ·simp only [W4,go_sem,simprocAttr]
 simp only [W4,go_sem,simprocAttr]
end Dv
namespace Dv
open Go Go.Proofs
variable {G:Nat→Option (List DV)}
structure ni where
 ce:Int
 cd:List Int
 se:Int
 sd:List Int
def kY:ni:=⟨0,[],0,[]⟩
def jd:List Int→LV
 | []=>.d (.val (.slice none 0 0))
 | x::l=>au (x::l)
def pP (x:ni):List LV:=[.int x.ce,jd x.cd,.int x.se,jd x.sd]
def jA (room term:Int) (sh:List ni) (wr:Int):List aD:=[.box 190 ([.int room,.int term]++(sh.flatMap pP++[.int wr]))]
theorem Lf (k:Nat) (d:List Int):dZ k (jd d)=true:=by cases d <;> rfl
theorem Pd (π:Nat→Nat) (d:List Int):rn π (jd d)=jd d:=by cases d <;> rfl
theorem aP (k:Nat):∀ a b:List LV,ej k (a++b)=(ej k a&&ej k b)
 | [],b=>by simp [ej]
 | x::a,b=>by simp only [List.cons_append,ej,aP k a b,Bool.and_assoc]
theorem bA (π:Nat→Nat):∀ a b:List LV,lU π (a++b)=lU π a++lU π b
 | [],b=>rfl
 | x::a,b=>by simp only [List.cons_append,lU,bA π a b]
theorem bh (k:Nat) (sh:List ni):ej k (sh.flatMap pP)=true:=by
 induction sh with
 | nil=>rfl
 | cons x sh ih=>simp only [List.flatMap_cons,aP,ih,pP,ej,Lf,LV.int,dZ,Bool.and_true]
theorem bN (π:Nat→Nat) (sh:List ni):lU π (sh.flatMap pP)=sh.flatMap pP:=by
 induction sh with
 | nil=>rfl
 | cons x sh ih=>simp only [List.flatMap_cons,bA,ih,pP,lU,Pd,LV.int,rn]
theorem fo (k:Nat) (room term:Int) (sh:List ni) (wr:Int):(jA room term sh wr).all (ei k)=true:=by
 simp only [jA,List.all_cons,List.all_nil,ei,Bool.and_true,aP,bh]
 rfl
def VC:Nat×C×List RV:=(7,
(.seq (.af [qo 2 (.mv (.c (.val (.pointer none))))])
 (.seq (.af [qm 3 0,
 qo 4 (.max (qk 0) (.t 3)),
 qo 5 (.build [q0,q0,q0,(.val (.slice none 0 0)),q0,(.val (.slice none 0 0)),q0,(.val (.slice none 0 0)),q0,(.val (.slice none 0 0)),q0,(.val (.slice none 0 0)),q0,(.val (.slice none 0 0)),q0,(.val (.slice none 0 0)),q0,(.val (.slice none 0 0)),q0,(.val (.slice none 0 0)),q0,(.val (.slice none 0 0)),q0,(.val (.slice none 0 0)),q0,(.val (.slice none 0 0)),q0,(.val (.slice none 0 0)),q0,(.val (.slice none 0 0)),q0,(.val (.slice none 0 0)),q0,(.val (.slice none 0 0)),q0,(.val (.slice none 0 0)),q0,(.val (.slice none 0 0)),q0,(.val (.slice none 0 0)),q0,(.val (.slice none 0 0)),q0,(.val (.slice none 0 0)),q0,(.val (.slice none 0 0)),q0,(.val (.slice none 0 0)),q0,(.val (.slice none 0 0)),q0,(.val (.slice none 0 0)),q0,(.val (.slice none 0 0)),q0,(.val (.slice none 0 0)),q0,(.val (.slice none 0 0)),q0,(.val (.slice none 0 0)),q0,(.val (.slice none 0 0)),q0,(.val (.slice none 0 0)),q0,(.val (.slice none 0 0)),q0,(.val (.slice none 0 0)),q0,(.val (.slice none 0 0)),q0,(.val (.slice none 0 0)),q0,(.val (.slice none 0 0)),q0,(.val (.slice none 0 0)),q0,(.val (.slice none 0 0)),q0,(.val (.slice none 0 0)),q0,(.val (.slice none 0 0)),q0,(.val (.slice none 0 0)),q0,(.val (.slice none 0 0)),q0,(.val (.slice none 0 0)),q0,(.val (.slice none 0 0)),q0,(.val (.slice none 0 0)),q0,(.val (.slice none 0 0)),q0,(.val (.slice none 0 0)),q0,(.val (.slice none 0 0)),q0,(.val (.slice none 0 0)),q0,(.val (.slice none 0 0)),q0] [(0,1,(.t 4))]),
 qo 6 (.box 190 (.t 5)),
 qm 2 6])
 .ret)),
[(.t 2)])
theorem Tm:aq Tryz.prog Tryz.f35=some VC:=by kernel_rfl
def R7:Nat×C×List RV:=(15,
(.seq (.af [qm 4 0,
 qo 5 (.ic true (.t 4))])
 (.cond (.t 5) (.af [qm 6 0,
 qm 7 0,
 qo 8 (.aV (.t 7)),
 qo 9 (.aj 1 (.t 8)),
 qo 10 (.ld1 (.t 9)),
 qm 11 1,
 qo 12 (.max (.t 10) (.t 11)),
 qo 13 (.aV (.t 6)),
 qo 14 (.aj 1 (.t 13)),
 qn (.st 1 (.t 14) (.t 12))])
 .skip)),
[])
theorem OJ:aq Tryz.prog Tryz.f101=some R7:=by kernel_rfl
def RR:Nat×C×List RV:=(20,
(.seq (.af [qo 4 (.mv (.c (.val (.pointer none))))])
 (.seq (.seq (.af [qm 5 0,
 qo 6 (.ic false (.t 5)),
 qm 7 6,
 qg 8 (.mv (.t 1)) 7 false,
 qg 9 (.bin .lss (.t 8) (qk 1)) 7 false,
 qo 10 (.pick (.t 7) qt (.t 9)),
 qm 11 10,
 qg 12 (.mv (.t 1)) 11 false,
 qg 13 (.bin .gtr (.t 12) (qk 24)) 11 false,
 qo 14 (.pick (.t 11) qt (.t 13))])
 (.cond (.t 14) (.seq (.af [qo 4 (.mv (.c (.val (.pointer none))))])
 .ret)
 .skip))
 (.seq (.af [qm 15 0,
 qm 16 1,
 qo 17 (.aV (.t 15)),
 qo 18 (.aj 2 (.t 17)),
 qo 19 (.Mv 25 4 (.t 18) (.t 16)),
 qm 4 19])
 .ret))),
[(.t 4)])
theorem Ow:aq Tryz.prog Tryz.f126=some RR:=by kernel_rfl
def R6:Nat×C×List RV:=(13,
(.seq (.af [qm 5 0,
 qm 6 1,
 qo 7 (.call (.f 126) [(.t 5),(.t 6)]),
 qm 4 7])
 (.seq (.af [qm 8 4,
 qo 9 (.ic true (.t 8))])
 (.cond (.t 9) (.af [qm 10 4,
 qo 11 (.build [q0,(.val (.slice none 0 0)),q0,(.val (.slice none 0 0))] []),
 qo 12 (.aV (.t 10)),
 qn (.st 4 (.t 12) (.t 11))])
 .skip))),
[])
theorem OI:aq Tryz.prog Tryz.f102=some R6:=by kernel_rfl
theorem zi (room:Int):bw Tryz.prog G 35 [.int room] [] (.ptr 0 0) (jA (if room>0 then room else 0) 0 (List.replicate 25 kY) 0):=by
 refine cG Tryz.func35 (by decide) Tm rfl ?_
 simp only [VC,go_sem,simprocAttr]
 refine dF [] [0] [] (vs:=[.ptr 0 0]) rfl rfl (by decide) (by simp) (by simp) rfl rfl ?_
 simp [aW,ai]
theorem vn (room term:Int) (sh:List ni) (wr t:Int):bw Tryz.prog G 101 [.ptr 0 0,.int t] (jA room term sh wr) (.dP []) (jA room (if t>term then t else term) sh wr):=by
 refine aR Tryz.func101 (by decide) OJ rfl rfl (fo _ _ _ _ _) rfl ?_
 simp only [jA,R7,go_sem,simprocAttr]
theorem lY (room term:Int) (sh:List ni) (wr:Int) (k:Nat) (hk:1≤k∧k≤24):bw Tryz.prog G 126 [.ptr 0 0,.int k] (jA room term sh wr) (.ptr 0 (2+4*k)) (jA room term sh wr):=by
 refine aR Tryz.func126 (by decide) Ow rfl rfl (fo _ _ _ _ _) rfl ?_
 simp only [jA,RR,go_sem,simprocAttr]
 simp only [decide_eq_false (show ¬ ((k:Nat):Int)<1 by omega),decide_eq_false (show ¬ ((k:Nat):Int)>24 by omega),go_sem,simprocAttr]
 simp only [show k<25 by omega,show 2+k*4=2+4*k by omega,go_sem,simprocAttr]
theorem zw (sh:List ni):(sh.flatMap pP).length=4*sh.length:=by
 induction sh with
 | nil=>rfl
 | cons x sh ih=>rw [List.flatMap_cons,List.length_append,ih]; show 4+_=_; rw [List.length_cons]; omega
theorem EO (x:ni):∀ (sh:List ni) (k:Nat),k<sh.length→(sh.flatMap pP).take (4*k)++pP x++(sh.flatMap pP).drop (4*k+4)=(sh.set k x).flatMap pP
 | [],k,h=>absurd h (Nat.not_lt_zero _)
 | y::sh,0,_=>by simp [List.flatMap_cons,pP]
 | y::sh,k+1,h=>by
   have ih:=EO x sh k (by simpa using h)
   rw [List.set_cons_succ,List.flatMap_cons,List.flatMap_cons,← ih,show 4*(k+1)=4*k+4 by omega,show 4*k+4+4=(4*k+4)+4 by omega]
   simp [pP]
theorem A2 (a b w:LV) (x:ni) (sh:List ni) (k:Nat) (h:k<sh.length):(a::b::(sh.flatMap pP++[w])).take (2+4*k)++pP x++(sh.flatMap pP++[w]).drop (2+4*k+2)=a::b::((sh.set k x).flatMap pP++[w]):=by
 have hl:=zw sh
 rw [← EO x sh k h,show 2+4*k=(4*k+1)+1 by omega,List.take_succ_cons,List.take_succ_cons,show 4*k+1+1+2=4*k+4 by omega,List.take_append_of_le_length (by omega),List.drop_append_of_le_length (by omega)]
 simp
theorem zj (room term:Int) (sh:List ni) (wr:Int) (k:Nat) (hk:1≤k∧k≤24) (hs:sh.length=25):bw Tryz.prog G 102 [.ptr 0 0,.int k] (jA room term sh wr) (.dP []) (jA room term (sh.set k kY) wr):=by
 have hj:=lY (G:=G) room term sh wr k hk
 simp only [jA,List.cons_append,List.nil_append] at hj
 refine aR Tryz.func102 (by decide) OI rfl rfl (fo _ _ _ _ _) rfl ?_
 simp only [jA,R6,go_sem,simprocAttr]
 refine gy [0] (hj) rfl ?_ (by decide) ?_ ?_ ?_ <;> simp only [ah,ai,go_sem,simprocAttr,bA,bN,aP,bh]
 have hl:=zw sh
 have hset:=A2 (.int room) (.int term) (.int wr) kY sh k (by omega)
 have c1:2+4*k+2≤(sh.flatMap pP++[LV.int wr]).length:=by rw [List.length_append,hl]; simp; omega
 simp only [LV.int,pP,kY,jd] at hset c1
 rw [if_pos c1,hset]
 simp only [go_sem,simprocAttr]
 rfl
end Dv
