/- part -/
import Derived.Test.YtkalnfkokkjliaaGreatDoorI0
import Derived.Test.YtkalnfkokkjliaaGreatDoorVD
import Derived.Test.YtkalnfkokkjliaaGreatDoorI8
import Derived.Test.YtkalnfkokkjliaaGreatDoorG1
set_option linter.all false
set_option maxHeartbeats 2000000
set_option maxRecDepth 100000
namespace Dv
open Go Go.Proofs
variable {G:Nat→Option (List DV)}
def aaK (r:Int):Int:=if (rH .u32 r 1==0)=true then v8 .u32 r 1 else yh .u32 (v8 .u32 r 1) 3988292384
def yc (r:Int):Nat→Int
 | 0=>r
 | k+1=>aaK (yc r k)
def uk (r:Int) (b:List Int):Nat→Int
 | 0=>r
 | k+1=>yc (yh .u32 (uk r b k) (IntKind.u32.wrap (b.getD k 0))) 8
def gB (s:Int) (b:List Int):Int:=if s<0∨s>4294967295 then 0 else IntKind.i64.wrap (yh .u32 4294967295 (uk (yh .u32 4294967295 (IntKind.u32.wrap s)) b b.length))
def nB (n:Int):List Int:=[IntKind.u8.wrap (v8 .i64 n 24),IntKind.u8.wrap (v8 .i64 n 16),IntKind.u8.wrap (v8 .i64 n 8),IntKind.u8.wrap n]
def sO (b:List Int):Bool:=decide (4≤b.length)&&decide (nB (gB 0 (b.take (b.length-4)))=b.drop (b.length-4))
def WU:=qx Tryz.f321
theorem S_:aj Tryz.prog Tryz.f321=some WU:=by kernel_rfl
def W6:=qx Tryz.f306
theorem Th:aj Tryz.prog Tryz.f306=some W6:=by kernel_rfl
def Xl:=qx Tryz.f273
theorem Tx:aj Tryz.prog Tryz.f273=some Xl:=by kernel_rfl
def Xm:=qx Tryz.f272
theorem Ty:aj Tryz.prog Tryz.f272=some Xm:=by kernel_rfl
def Xn:=qx Tryz.f271
theorem Tz:aj Tryz.prog Tryz.f271=some Xn:=by kernel_rfl
def W7:=qx Tryz.f305
theorem Ti:aj Tryz.prog Tryz.f305=some W7:=by kernel_rfl
def RX (r:Int) (b:List Int) (k:Nat):St:=⟨[(0,.d (.val (.int .u32 (uk r b k)))),(7,aq b),(8,.int b.length),(9,.int k)],[]⟩
def NZ (x:Int) (b:List Int) (k:Nat) (j:Nat):St:=⟨[(0,.d (.val (.int .u32 (yc x j)))),(7,aq b),(8,.int b.length),(9,.int k),(17,.int j)],[]⟩
theorem Hx (r:Int) (b:List Int) (hl:b.length≤1000000):bu Tryz.prog G 321 [.d (.val (.int .u32 r)),aq b] [] (.d (.val (.int .u32 (uk r b b.length)))) []:=by
 have hlb:(aB b).length=b.length:=by simp [aB]
 refine bz Tryz.func321 (by decide) S_ rfl rfl ?_
 simp only [aq,WU,go_sem]
 refine aW [0,7,8,9] [] (fun k:Nat=>k≤b.length) (fun k=>b.length-k) (RX r b) 0 ?_ (Nat.zero_le _) (fun k hk=>?_)
 ·simp only [RX,aq,hlb,uk,Int.natCast_zero,go_sem]
 simp only [RX,aq,go_sem]
 by_cases hlt:k<b.length
 ·have hg:=aM (f:=fun n:Int=>[u8 n]) 0 hlt
  rw [show b.map (fun n:Int=>[u8 n])=aB b from rfl] at hg
  have hnx:uk r b (k+1)=yc (yh .u32 (uk r b k) (IntKind.u32.wrap (b.getD k 0))) 8:=rfl
  generalize b.getD k 0=c at *
  simp only [decide_eq_true (show ((k:Nat):Int)<((b.length:Nat):Int) by omega),hg,u8,go_sem]
  generalize yh .u32 (uk r b k) (IntKind.u32.wrap c)=x at *
  refine aW [0,7,8,9,17] [] (fun j:Nat=>j≤8) (fun j=>8-j) (NZ x b k) 0 ?_ (Nat.zero_le _) (fun j hj=>?_)
  ·simp only [NZ,aq,yc,Int.natCast_zero,go_sem]
  simp only [NZ,aq,go_sem]
  by_cases hj8:j<8
  ·have hnb:yc x (j+1)=aaK (yc x j):=rfl
   unfold aaK at hnb
   generalize yc x j=y at *
   simp only [decide_eq_true (show ((j:Nat):Int)<8 by omega),go_sem]
   cases hb:(rH .u32 y 1==0) with
   | true=>
     rw [hb,if_pos rfl] at hnb
     simp only [go_sem]
     refine bh (j+1) ?_ ?_ (by omega) (by omega)
     ·simp only [go_sem]
     ·simp only [NZ,aq,hnb,aH (show j<9223372036854775807 by omega),go_sem]
   | false=>
     rw [hb,if_neg Bool.false_ne_true] at hnb
     simp only [go_sem]
     refine bh (j+1) ?_ ?_ (by omega) (by omega)
     ·simp only [go_sem]
     ·simp only [NZ,aq,hnb,aH (show j<9223372036854775807 by omega),go_sem]
  ·obtain rfl:j=8:=by omega
   simp only [show decide (((8:Nat):Int)<8)=false from rfl,go_sem]
   refine bh (k+1) ?_ ?_ (by omega) (by omega)
   ·simp only [go_sem]
   ·simp only [RX,aq,hnx,aH (show k<9223372036854775807 by omega),go_sem]
 ·obtain rfl:k=b.length:=by omega
  simp only [decide_eq_false (show ¬ ((b.length:Nat):Int)<((b.length:Nat):Int) by omega),go_sem]
theorem Pm (s:Int) (b:List Int) (hl:b.length≤1000000):bu Tryz.prog G 306 [.int s,aq b] [] (.int (gB s b)) []:=by
 refine bz Tryz.func306 (by decide) Th rfl rfl ?_
 simp only [W6,go_sem]
 by_cases h1:s<0
 ·simp only [decide_eq_true h1,gB,h1,go_sem]
 by_cases h2:s>4294967295
 ·simp only [decide_eq_false h1,decide_eq_true h2,gB,h2,go_sem]
 have hm:gB s b=IntKind.i64.wrap (yh .u32 4294967295 (uk (yh .u32 4294967295 (IntKind.u32.wrap s)) b b.length)):=if_neg (by omega)
 simp only [decide_eq_false h1,decide_eq_false h2,hm,go_sem]
 refine av (Hx (yh .u32 4294967295 (IntKind.u32.wrap s)) b hl) rfl rfl rfl rfl ?_; simp only [go_sem]
 rfl
theorem B6 (b:List Int) (hl:b.length≤1000000):bu Tryz.prog G 273 [aq b] [] (.int (gB 0 b)) []:=by
 refine bz Tryz.func273 (by decide) Tx rfl rfl ?_
 simp only [Xl,go_sem]
 refine av (Pm 0 b hl) rfl rfl rfl rfl ?_; simp only [go_sem]
theorem zu (n:Int):bu Tryz.prog G 272 [.int n] [] (aq (nB n)) []:=by
 refine cI Tryz.func272 (by decide) Ty rfl ?_
 simp only [Xm,go_sem]
 exact dQ [0] rfl (by simp [St.obj,aC]) (by simp [St.obj,aC,aV,St.get,aY,ah,bK,aq,aB,nB,u8])
theorem qs (n:Int):(nB n).length=4:=rfl
theorem B5 (l:List Int) {k:Nat} (h:k<l.length):l.take (k+1)=l.take k++[l.getD k 0]:=by
 rw [List.take_add_one]
 simp [h,List.getD]
def eqS (a b:List Int) (k:Nat):St:=⟨[(0,aq a),(1,aq b),(4,.bool false),(11,aq a),(12,.int a.length),(13,.int k)],[]⟩
theorem M4 (a b:List Int) (ha:a.length≤1000000) (hb:b.length≤1000000):bu Tryz.prog G 305 [aq a,aq b] [] (.bool (decide (a=b))) []:=by
 have hla:(aB a).length=a.length:=by simp [aB]
 have hlb:(aB b).length=b.length:=by simp [aB]
 refine bz Tryz.func305 (by decide) Ti rfl rfl ?_
 simp only [aq,W7,go_sem]
 simp only [hla,hlb,go_sem]
 by_cases hl:a.length=b.length
 case neg=>
  simp only [show (((a.length:Nat):Int) !=((b.length:Nat):Int))=true from bne_iff_ne.2 (by omega),go_sem]
  simp only [decide_eq_false (show ¬ a=b from fun h=>hl (by rw [h]))]
 simp only [show (((a.length:Nat):Int) !=((b.length:Nat):Int))=false from by simp [hl],go_sem]
 refine aW [0,1,4,11,12,13] [] (fun k:Nat=>k≤a.length∧a.take k=b.take k) (fun k=>a.length-k) (eqS a b) 0 ?_ ⟨Nat.zero_le _,rfl⟩ ?_
 ·simp only [eqS,aq,hla,Int.natCast_zero,go_sem]
 rintro k ⟨hk,hp⟩
 simp only [eqS,aq,go_sem]
 by_cases hlt:k<a.length
 ·have hga:=aM (f:=fun n:Int=>[u8 n]) 0 hlt
  have hgb:=aM (f:=fun n:Int=>[u8 n]) 0 (show k<b.length by omega)
  rw [show a.map (fun n:Int=>[u8 n])=aB a from rfl] at hga
  rw [show b.map (fun n:Int=>[u8 n])=aB b from rfl] at hgb
  simp only [decide_eq_true (show ((k:Nat):Int)<((a.length:Nat):Int) by omega),hga,hgb,u8,go_sem]
  by_cases he:a.getD k 0=b.getD k 0
  ·simp only [he,bne_self_eq_false,go_sem]
   refine bh (k+1) ?_ ?_ ⟨by omega,by rw [B5 a hlt,B5 b (by omega),hp,he]⟩ (by omega)
   ·simp only [go_sem]
   ·simp only [eqS,aq,aH (show k<9223372036854775807 by omega),go_sem]
  ·simp only [show (a.getD k 0 !=b.getD k 0)=true from bne_iff_ne.2 he,go_sem]
   exact (decide_eq_false fun h=>he (by rw [h])).symm
 ·obtain rfl:k=a.length:=by omega
  simp only [decide_eq_false (show ¬ ((a.length:Nat):Int)<((a.length:Nat):Int) by omega),go_sem]
  refine (decide_eq_true ?_).symm
  rw [List.take_length,hl,List.take_length] at hp
  exact hp
theorem iU (b:List Int) (n:Nat):(aB b).take n=aB (b.take n):=by simp [aB,List.map_take]
theorem gp (b:List Int) (n:Nat):(aB b).drop n=aB (b.drop n):=by simp [aB,List.map_drop]
theorem aD (b:List Int):(aB b).length=b.length:=by simp [aB]
theorem Lz (b:List Int) (hl:b.length≤1000000):bu Tryz.prog G 271 [aq b] [] (.bool (sO b)) []:=by
 have hlb:(aB b).length=b.length:=by simp [aB]
 refine bz Tryz.func271 (by decide) Tz rfl rfl ?_
 simp only [aq,Xn,go_sem]
 simp only [hlb,aO (show -9223372036854775808≤((b.length:Nat):Int)-4 by omega) (show ((b.length:Nat):Int)-4≤9223372036854775807 by omega),go_sem]
 by_cases h4:4≤b.length
 ·simp only [decide_eq_true (show ((b.length:Nat):Int)-4≥0 by omega),hlb,go_sem]
  have c1:(0:Int)≤((b.length:Nat):Int)-4:=by omega
  have e0:(((b.length:Nat):Int)-4).toNat=b.length-4:=by omega
  have c2:0≤b.length-4∧b.length-4≤b.length∧b.length≤b.length:=by omega
  have c3:b.length-4≤b.length∧b.length≤b.length∧b.length≤b.length:=by omega
  have hi:sO b=decide (nB (gB 0 (b.take (b.length-4)))=b.drop (b.length-4)):=by unfold sO; rw [decide_eq_true h4,Bool.true_and]
  have ho:=B6 (G:=G) (b.take (b.length-4)) (by rw [List.length_take]; omega)
  have he:=M4 (G:=G) (nB (gB 0 (b.take (b.length-4)))) (b.drop (b.length-4)) (by rw [qs]; decide) (by rw [List.length_drop]; omega)
  simp only [aq] at ho he
  simp only [c1,e0,c2,Nat.sub_zero,iU,go_sem]
  refine bf (ho) rfl rfl rfl rfl ?_; simp only [go_sem]
  refine bf (zu (gB 0 (b.take (b.length-4)))) rfl rfl rfl rfl ?_; simp only [go_sem]
  have c4:(aB (b.drop (b.length-4))).take (b.length-(b.length-4))=aB (b.drop (b.length-4)):=List.take_of_length_le (by rw [aD,List.length_drop]; exact Nat.le_refl _)
  simp only [c1,e0,c3,hlb,gp,c4,aq,go_sem]
  refine bf (he) rfl rfl rfl rfl ?_; simp only [go_sem]
  rw [hi]
 ·simp only [decide_eq_false (show ¬ ((b.length:Nat):Int)-4≥0 by omega),sO,decide_eq_false h4,go_sem]
end Dv
namespace Dv
open Go Go.Proofs
variable {G:Nat→Option (List DV)}
def U8:=qx Tryz.f84
theorem Iz:aj Tryz.prog Tryz.f84=some U8:=by kernel_rfl
def PV:=qx Tryz.f232
theorem Ku:aj Tryz.prog Tryz.f232=some PV:=by kernel_rfl
def XG:=qx Tryz.f231
theorem TR:aj Tryz.prog Tryz.f231=some XG:=by kernel_rfl
theorem GK (l:List Int) (hl:l.length≤1000000):bu Tryz.prog G 84 [aq l] [] (.sl 0 l.length 1 0 l.length) [.dat 5 1 (aB l)]:=by
 refine cI Tryz.func84 (by decide) Iz rfl ?_
 simp only [aq,U8,go_sem]
 cases l with
 | nil=>
   simp only [aB,go_sem]
   refine ⟨?_,?_⟩
   ·exact s7 [.t 2 5 1] rfl rfl
   ·exact s7 [] rfl rfl
 | cons n l=>
   have hr:(aB (n::l)).length=(n::l).length:=aD _
   have h0:¬ (n::l).length=0:=by simp
   have hb:(l.length+1)*1≤70368744177664:=by simp at hl; omega
   simp only [hr,h0,List.take_of_length_le (show (aB (n::l)).length≤(n::l).length by rw [hr]; exact Nat.le_refl _),Nat.le_refl,go_sem]
   simp only [hb,go_sem]
   exact s7 [] rfl rfl
theorem pI (l:List Int) (hl:l.length≤1000000):bu Tryz.prog G 84 [aq l] [] (aq l) []:=by
 refine cI Tryz.func84 (by decide) Iz rfl ?_
 simp only [aq,U8,go_sem]
 cases l with
 | nil=>
   simp only [aB,go_sem]
   refine ⟨?_,?_⟩
   ·exact dQ [] rfl (by simp) (by simp [aV,St.get,aY,ah])
   ·exact dQ [0] rfl (by simp [St.obj,aC]) (by simp [St.obj,aC,aV,St.get,aY,ah,bK])
 | cons n l=>
   have hr:(aB (n::l)).length=(n::l).length:=aD _
   have h0:¬ (n::l).length=0:=by simp
   have hb:(l.length+1)*1≤70368744177664:=by simp at hl; omega
   simp only [hr,h0,List.take_of_length_le (show (aB (n::l)).length≤(n::l).length by rw [hr]; exact Nat.le_refl _),Nat.le_refl,go_sem]
   simp only [hb,go_sem]
   exact dQ [0] rfl (by simp [St.obj,aC]) (by simp [St.obj,aC,aV,St.get,aY,ah,bK,List.take_of_length_le,hr])
theorem lI (a b:List Int):aB (a++b)=aB a++aB b:=by simp [aB]
def bW (ls:List (List Int)):List (List DV):=ls.map fun b=>[.dO 1 (aB b)]
def cat (ls:List (List Int)) (k:Nat):List Int:=(ls.take k).flatten
theorem GN (ls:List (List Int)) {k:Nat} (h:k<ls.length):cat ls (k+1)=cat ls k++ls.getD k []:=by
 unfold cat
 rw [List.take_add_one,List.flatten_append]
 simp [h,List.getD]
theorem Rq (ls:List (List Int)) (k:Nat):(cat ls k).length≤ls.flatten.length:=by
 have:ls.flatten=(ls.take k).flatten++(ls.drop k).flatten:=by rw [← List.flatten_append,List.take_append_drop]
 rw [this,List.length_append]
 exact Nat.le_add_right _ _
def V0 (ls:List (List Int)) (k:Nat):St:=⟨[(0,.d (.dO 1 (bW ls))),(2,.d (.val (.slice none 0 0))),(3,.int (cat ls k).length),(9,.d (.dO 1 (bW ls))),(10,.int ls.length),(11,.int k)],[]⟩
def VZ (ls:List (List Int)) (k:Nat):St:=⟨[(6,.sl 0 (cat ls k).length 1 0 (cat ls k).length),(25,.d (.dO 1 (bW ls))),(26,.int ls.length),(27,.int k)],[some (.dat 5 1 (aB (cat ls k)))]⟩
theorem tU (ls:List (List Int)) (hl:ls.length≤100) (ht:ls.flatten.length≤100000):bu Tryz.prog G 232 [.d (.dO 1 (bW ls))] [] (aq ls.flatten) []:=by
 have hlc:(bW ls).length=ls.length:=by simp [bW]
 refine cI Tryz.func232 (by decide) Ku rfl ?_
 simp only [aq,PV,go_sem]
 refine aW [0,2,3,9,10,11] [] (fun k:Nat=>k≤ls.length) (fun k=>ls.length-k) (V0 ls) 0 ?_ (Nat.zero_le _) (fun k hk=>?_)
 ·simp only [V0,hlc,Int.natCast_zero,cat,List.flatten_nil,go_sem]
 simp only [V0,go_sem]
 by_cases hlt:k<ls.length
 ·have hg:=aM (f:=fun b:List Int=>[DV.dO 1 (aB b)]) [] hlt
  rw [show ls.map (fun b:List Int=>[DV.dO 1 (aB b)])=bW ls from rfl] at hg
  have hc:=congrArg List.length (GN ls hlt)
  rw [List.length_append] at hc
  have h1:=Rq ls (k+1)
  generalize ls.getD k []=b at *
  have hw:IntKind.i64.wrap (((cat ls k).length:Int)+(b.length:Int))=((cat ls (k+1)).length:Int):=by rw [aO (by omega) (by omega),hc]; omega
  simp only [decide_eq_true (show ((k:Nat):Int)<((ls.length:Nat):Int) by omega),hg,aD,hw,decide_eq_false (show ¬ (((cat ls (k+1)).length:Nat):Int)<0 by omega),go_sem]
  refine bh (k+1) ?_ ?_ (by omega) (by omega)
  ·simp only [go_sem]
  ·simp only [V0,aH (show k<9223372036854775807 by omega),go_sem]
 obtain rfl:k=ls.length:=by omega
 have hcl:cat ls ls.length=ls.flatten:=by unfold cat; rw [List.take_length]
 simp only [decide_eq_false (show ¬ ((ls.length:Nat):Int)<((ls.length:Nat):Int) by omega),hcl,go_sem]
 refine jD (AJ ls.flatten.length ht) rfl rfl rfl ?_
 simp only [go_sem]
 refine aW [6,25,26,27] [] (fun k:Nat=>k≤ls.length) (fun k=>ls.length-k) (VZ ls) 0 ?_ (Nat.zero_le _) (fun k hk=>?_)
 ·simp only [VZ,hlc,Int.natCast_zero,cat,List.flatten_nil,aB,go_sem]
 simp only [VZ,go_sem]
 by_cases hlt:k<ls.length
 ·have hg:=aM (f:=fun b:List Int=>[DV.dO 1 (aB b)]) [] hlt
  rw [show ls.map (fun b:List Int=>[DV.dO 1 (aB b)])=bW ls from rfl] at hg
  have hs:=GN ls hlt
  have hc:=congrArg List.length hs
  rw [List.length_append] at hc
  have h1:=Rq ls (k+1)
  generalize ls.getD k []=b at *
  have hb:(cat ls k).length+b.length≤100000:=by omega
  simp only [decide_eq_true (show ((k:Nat):Int)<((ls.length:Nat):Int) by omega),hg,aD,← lI,← hs,show (cat ls (k+1)).length*1≤70368744177664 by omega,← hc,go_sem]
  refine bh (k+1) ?_ ?_ (by omega) (by omega)
  ·simp only [go_sem]
  ·simp only [VZ,aH (show k<9223372036854775807 by omega),go_sem]
 obtain rfl:k=ls.length:=by omega
 simp only [decide_eq_false (show ¬ ((ls.length:Nat):Int)<((ls.length:Nat):Int) by omega),hcl,go_sem]
 exact dQ [0] rfl (by simp [St.obj,aC]) (by simp [St.obj,aC,aV,St.get,aY,ah,bK,List.take_of_length_le,aD])
def s4 (a b c:List Int):Nat→List Int
 | 0=>[]
 | 1=>a
 | 2=>a++b
 | 3=>a++b++c
 | _=>a++b++c++[1]
def f4 (a b c:List Int):List aG:=[.box 57 [.d (.dO 1 (aB a)),.d (.dO 1 (aB b)),.d (.dO 1 (aB c)),.sl 1 1 1 0 1],.dat 5 1 [[.val (.int .u8 1)]]]
def JB (a b c:List Int) (k:Nat):St:=⟨[(0,.sl 0 0 1 0 4),(2,.d (.val (.slice none 0 0))),(3,.int (s4 a b c k).length),(9,.sl 0 0 1 0 4),(10,.int 4),(11,.int k)],(f4 a b c).map some⟩
def JA (a b c:List Int) (k:Nat):St:=⟨[(6,.sl 2 (s4 a b c k).length 1 0 (s4 a b c k).length),(25,.sl 0 0 1 0 4),(26,.int 4),(27,.int k)],(f4 a b c).map some++[some (.dat 5 1 (aB (s4 a b c k)))]⟩
theorem GI (a b c:List Int) (ht:(a++b++c).length≤10000):bu Tryz.prog G 232 [.sl 0 0 1 0 4] (f4 a b c) (aq (a++b++c++[1])) (f4 a b c):=by
 rw [List.length_append,List.length_append] at ht
 have l0:(s4 a b c 0).length=0:=rfl
 have l1:(s4 a b c 1).length=a.length:=rfl
 have l2:(s4 a b c 2).length=a.length+b.length:=List.length_append
 have l3:(s4 a b c 3).length=a.length+b.length+c.length:=by simp [s4]; omega
 have l4:(s4 a b c 4).length=a.length+b.length+c.length+1:=by simp [s4]; omega
 have w0:IntKind.i64.wrap (((s4 a b c 0).length:Int)+((aB a).length:Int))=((s4 a b c 1).length:Int):=by rw [aO (by rw [aD]; omega) (by rw [aD]; omega),aD]; omega
 have w1:IntKind.i64.wrap (((s4 a b c 1).length:Int)+((aB b).length:Int))=((s4 a b c 2).length:Int):=by rw [aO (by rw [aD]; omega) (by rw [aD]; omega),aD]; omega
 have w2:IntKind.i64.wrap (((s4 a b c 2).length:Int)+((aB c).length:Int))=((s4 a b c 3).length:Int):=by rw [aO (by rw [aD]; omega) (by rw [aD]; omega),aD]; omega
 have w3:IntKind.i64.wrap (((s4 a b c 3).length:Int)+1)=((s4 a b c 4).length:Int):=by rw [aO (by omega) (by omega)]; omega
 have r0:aB (s4 a b c 0)++aB a=aB (s4 a b c 1):=by rfl
 have r1:aB (s4 a b c 1)++aB b=aB (s4 a b c 2):=by rw [← lI]; rfl
 have r2:aB (s4 a b c 2)++aB c=aB (s4 a b c 3):=by rw [← lI]; rfl
 have r3:aB (s4 a b c 3)++[[DV.val (.int .u8 1)]]=aB (s4 a b c 4):=by rw [show s4 a b c 4=s4 a b c 3++[1] from rfl,lI]; rfl
 have c0:((s4 a b c 0).length=(aB (s4 a b c 0)).length∧(aB (s4 a b c 1)).length*1≤70368744177664):=⟨(aD _).symm,by rw [aD]; omega⟩
 have e0:(aB (s4 a b c 0)).length+(aB a).length=(s4 a b c 1).length:=by rw [aD,aD]; omega
 have c1:((s4 a b c 1).length=(aB (s4 a b c 1)).length∧(aB (s4 a b c 2)).length*1≤70368744177664):=⟨(aD _).symm,by rw [aD]; omega⟩
 have e1:(aB (s4 a b c 1)).length+(aB b).length=(s4 a b c 2).length:=by rw [aD,aD]; omega
 have c2:((s4 a b c 2).length=(aB (s4 a b c 2)).length∧(aB (s4 a b c 3)).length*1≤70368744177664):=⟨(aD _).symm,by rw [aD]; omega⟩
 have e2:(aB (s4 a b c 2)).length+(aB c).length=(s4 a b c 3).length:=by rw [aD,aD]; omega
 have c3:((s4 a b c 3).length=(aB (s4 a b c 3)).length∧(aB (s4 a b c 4)).length*1≤70368744177664):=⟨(aD _).symm,by rw [aD]; omega⟩
 have e3:(aB (s4 a b c 3)).length+1=(s4 a b c 4).length:=by rw [aD]; omega
 refine cI Tryz.func232 (by decide) Ku rfl ?_
 simp only [f4,PV,go_sem]
 refine aW [0,2,3,9,10,11] [] (fun k:Nat=>k≤4) (fun k=>4-k) (JB a b c) 0 ?_ (Nat.zero_le _) (fun k hk=>?_)
 ·simp only [JB,f4,s4,Int.natCast_zero,go_sem]
 simp only [JB,f4,go_sem]
 match k,hk with
 | 0,_=>
   simp only [show decide (((0:Nat):Int)<4)=true from rfl,w0,decide_eq_false (show ¬ (((s4 a b c 1).length:Nat):Int)<0 by omega),go_sem]
   refine bh 1 ?_ ?_ (by decide) (by decide)
   ·simp only [go_sem]
   ·simp only [JB,f4,show IntKind.i64.wrap 1=1 from rfl,go_sem]
 | 1,_=>
   simp only [show decide (((1:Nat):Int)<4)=true from rfl,w1,decide_eq_false (show ¬ (((s4 a b c 2).length:Nat):Int)<0 by omega),go_sem]
   refine bh 2 ?_ ?_ (by decide) (by decide)
   ·simp only [go_sem]
   ·simp only [JB,f4,show IntKind.i64.wrap 2=2 from rfl,go_sem]
 | 2,_=>
   simp only [show decide (((2:Nat):Int)<4)=true from rfl,w2,decide_eq_false (show ¬ (((s4 a b c 3).length:Nat):Int)<0 by omega),go_sem]
   refine bh 3 ?_ ?_ (by decide) (by decide)
   ·simp only [go_sem]
   ·simp only [JB,f4,show IntKind.i64.wrap 3=3 from rfl,go_sem]
 | 3,_=>
   simp only [show decide (((3:Nat):Int)<4)=true from rfl,w3,decide_eq_false (show ¬ (((s4 a b c 4).length:Nat):Int)<0 by omega),go_sem]
   refine bh 4 ?_ ?_ (by decide) (by decide)
   ·simp only [go_sem]
   ·simp only [JB,f4,show IntKind.i64.wrap 4=4 from rfl,go_sem]
 | 4,_=>
   simp only [show decide (((4:Nat):Int)<4)=false from rfl,go_sem]
   have ht4:(s4 a b c 4).length≤100000:=by omega
   refine jD (AJ (s4 a b c 4).length ht4) rfl rfl rfl ?_
   simp only [go_sem]
   refine aW [6,25,26,27] [] (fun k:Nat=>k≤4) (fun k=>4-k) (JA a b c) 0 ?_ (Nat.zero_le _) (fun k hk=>?_)
   ·simp only [JA,f4,l0,Int.natCast_zero,go_sem]
    rfl
   simp only [JA,f4,go_sem]
   match k,hk with
   | 0,_=>
     simp only [show decide (((0:Nat):Int)<4)=true from rfl,r0,c0,e0,go_sem]
     refine bh 1 ?_ ?_ (by decide) (by decide)
     ·simp only [go_sem]
     ·simp only [JA,f4,show IntKind.i64.wrap 1=1 from rfl,go_sem]
   | 1,_=>
     simp only [show decide (((1:Nat):Int)<4)=true from rfl,r1,c1,e1,go_sem]
     refine bh 2 ?_ ?_ (by decide) (by decide)
     ·simp only [go_sem]
     ·simp only [JA,f4,show IntKind.i64.wrap 2=2 from rfl,go_sem]
   | 2,_=>
     simp only [show decide (((2:Nat):Int)<4)=true from rfl,r2,c2,e2,go_sem]
     refine bh 3 ?_ ?_ (by decide) (by decide)
     ·simp only [go_sem]
     ·simp only [JA,f4,show IntKind.i64.wrap 3=3 from rfl,go_sem]
   | 3,_=>
     simp only [show decide (((3:Nat):Int)<4)=true from rfl,r3,c3,e3,go_sem]
     refine bh 4 ?_ ?_ (by decide) (by decide)
     ·simp only [go_sem]
     ·simp only [JA,f4,show IntKind.i64.wrap 4=4 from rfl,go_sem]
   | 4,_=>
     simp only [show decide (((4:Nat):Int)<4)=false from rfl,go_sem]
     refine dA [] [0,1] [2] (vs:=[.sl 2 (s4 a b c 4).length 1 0 (s4 a b c 4).length]) rfl rfl (by decide) (by simp) (by simp [St.obj,aC,b_]) rfl rfl ?_
     simp [St.obj,aC,aV,ah,bK,aq,List.take_of_length_le,aD,s4,b_]
def cH (p:List Int):List Int:=if p.length=0∨p.length>4000 then [] else bw p.length++p++nB (gB 0 p)++[1]
theorem pz (p:List Int) (hl:p.length≤1000000):bu Tryz.prog G 231 [aq p] [] (aq (cH p)) []:=by
 refine cI Tryz.func231 (by decide) TR rfl ?_
 simp only [aq,XG,aD,go_sem]
 by_cases h0:p.length=0
 ·have hp:cH p=[]:=if_pos (.inl h0)
  simp only [show (((p.length:Nat):Int)==0)=true by rw [beq_iff_eq]; omega,go_sem]
  exact dQ [] rfl (by simp) (by simp [aV,St.get,aY,ah,hp,aB])
 have e0:(((p.length:Nat):Int)==0)=false:=beq_eq_false_iff_ne.2 (by omega)
 by_cases h1:p.length>4000
 ·have hp:cH p=[]:=if_pos (.inr h1)
  simp only [e0,aD,decide_eq_true (show ((p.length:Nat):Int)>4000 by omega),go_sem]
  exact dQ [] rfl (by simp) (by simp [aV,St.get,aY,ah,hp,aB])
 have hp:cH p=bw p.length++p++nB (gB 0 p)++[1]:=if_neg (by omega)
 simp only [e0,aD,decide_eq_false (show ¬ ((p.length:Nat):Int)>4000 by omega),go_sem]
 have hn:=oS (G:=G) (p.length:Int)
 have ho:=B6 (G:=G) p hl
 have hs:=zu (G:=G) (gB 0 p)
 simp only [aq] at hn ho hs
 refine av (hn) rfl rfl rfl rfl ?_; simp only [go_sem]
 refine av (ho) rfl rfl rfl rfl ?_; simp only [go_sem]
 refine av (hs) rfl rfl rfl rfl ?_; simp only [go_sem]
 have hn9:=iQ (p.length:Int)
 have hs4:=qs (gB 0 p)
 refine au [1,0] (GI (bw p.length) p (nB (gB 0 p)) (by rw [List.length_append,List.length_append]; omega)) rfl (by simp only [ag,ah,go_sem]) (by decide) (by simp only [f4,go_sem]) (by simp only [f4,go_sem]) (Nat.le_refl _) ?_
 simp only [f4,aq,go_sem]
 rw [← hp]
 exact dQ [] rfl (by simp) (by simp [aV,St.get,aY,ah])
end Dv
namespace Dv
open Go Go.Proofs
variable {G:Nat→Option (List DV)}
def cU (l:List Int) (s:Int):List aG:=[.box 150 [.sl 1 l.length 1 0 l.length,.d (.val (.slice none 0 0)),.int s],.dat 5 1 (aB l)]
def uf (at0:Nat) (b:List Int):List (List DV):=[[i64 at0,.dO 1 (aB b)]]
def i_ (l:List Int) (s:Int) (at0:Nat) (b:List Int):List aG:=[.box 150 [.sl 1 l.length 1 0 l.length,.sl 2 1 2 0 1,.int s],.dat 5 1 (aB l),.dat 227 2 (uf at0 b)]
def bF (l:List Int) (a:Nat) (b:List Int):List Int:=l.take a++b++l.drop (a+b.length)
theorem dB {l b:List Int} {a:Nat} (h:a+b.length≤l.length):(bF l a b).length=l.length:=by
 unfold bF
 rw [List.length_append,List.length_append,List.length_take,List.length_drop]
 omega
def abG:=qx Tryz.f27
theorem Z4:aj Tryz.prog Tryz.f27=some abG:=by kernel_rfl
def abv:=qx Tryz.f79
theorem ZT:aj Tryz.prog Tryz.f79=some abv:=by kernel_rfl
def YD:=qx Tryz.f130
theorem UU:aj Tryz.prog Tryz.f130=some YD:=by kernel_rfl
def X4:=qx Tryz.f186
theorem Uk:aj Tryz.prog Tryz.f186=some X4:=by kernel_rfl
def P9:Nat×C×List RV:=(10,
(.seq (.pZ [qo 4 (.mv (qk 0))])
 (.seq (.pZ [qm 5 0,
 qo 6 (.kX (.t 5)),
 qo 7 (.fS 0 (.t 6)),
 qm 8 1,
 qo 9 ((.more (.ata (.t 7) (.t 8)))),
 qm 4 9])
 .ret)),
[(.t 4)])
theorem KB:aj Tryz.prog Tryz.f127=some P9:=by kernel_rfl
theorem GD (n:Nat) (h1:1≤n) (h2:n≤65536):bu Tryz.prog G 27 [.int n] [] (.ptr 0 0) (cU (List.replicate n 0) 0):=by
 refine cI Tryz.func27 (by decide) Z4 rfl ?_
 simp only [abG,go_sem]
 simp only [decide_eq_false (show ¬ ((n:Nat):Int)<1 by omega),decide_eq_false (show ¬ ((n:Nat):Int)>65536 by omega),go_sem]
 have c1:n*1≤70368744177664∧((n:Nat):Int)≤9223372036854775807:=by omega
 simp only [c1,go_sem]
 refine dA [] [1,0] [] (vs:=[.ptr 1 0]) rfl rfl (by decide) (by simp) (by simp) ?_ ?_ ?_
 ·simp only [cU,List.length_replicate,aB,List.map_replicate,u8]
  rfl
 ·simp only [cU,List.length_replicate,aB,List.map_replicate,u8,go_sem]
 ·simp [aV,ah]
theorem ia (l:List Int) (s:Int):bu Tryz.prog G 79 [.ptr 0 0] (cU l s) (.int l.length) (cU l s):=by
 refine aT Tryz.func79 (by decide) ZT rfl rfl rfl rfl ?_
 simp only [abv,go_sem]
 simp only [cU,go_sem]
theorem Nw (l:List Int) (s:Int):bu Tryz.prog G 127 [.ptr 0 2,.int 1] (cU l s) (.int (IntKind.i64.wrap (s+1))) (cU l (IntKind.i64.wrap (s+1))):=by
 refine aT Tryz.func127 (by decide) KB rfl rfl rfl rfl ?_
 simp only [P9,go_sem]
 simp only [cU,go_sem]
theorem iL (l:List Int) (s:Int) (a:Nat) (b:List Int) (h:a+b.length≤l.length) (hl:l.length≤65536):bu Tryz.prog G 130 [.ptr 0 0,.int a,aq b] (cU l s) (.int 0) (i_ l s a b):=by
 refine cI Tryz.func130 (by decide) UU rfl ?_
 simp only [cU,aq,YD,go_sem]
 have w1:IntKind.i64.wrap ((l.length:Int)-(b.length:Int))=(l.length:Int)-b.length:=aO (by omega) (by omega)
 simp only [aD,decide_eq_false (show ¬ ((a:Nat):Int)<0 by omega),decide_eq_false (show ¬ ((b.length:Nat):Int)>((l.length:Nat):Int) by omega),w1,decide_eq_false (show ¬ ((a:Nat):Int)>(l.length:Int)-(b.length:Int) by omega),go_sem]
 have hc:=pI (G:=G) b (by omega)
 simp only [aq] at hc
 refine bf (hc) rfl rfl rfl rfl ?_; simp only [go_sem]
 refine ay rfl ?_
 simp only [go_sem]
 refine dA [] [0,1,3] [] (vs:=[.int 0]) rfl rfl (by decide) (by simp) (by simp) ?_ ?_ ?_
 ·simp only [i_,uf]
  rfl
 ·simp only [i_,uf,go_sem]
 ·simp [aV,ah,LV.int]
def dwS (l:List Int) (s:Int) (a:Nat) (b:List Int) (k:Nat):St:=⟨[(3,.int (if k=0 then 0 else (b.length:Int))),(11,.sl 2 1 2 0 1),(12,.int 1),(13,.int k)],(i_ l s a b).map some⟩
theorem BP (l:List Int) (s:Int) (a:Nat) (b:List Int) (hb:b.length≤1000000):bu Tryz.prog G 186 [.ptr 0 0] (i_ l s a b) (.int b.length) (i_ l s a b):=by
 refine aT Tryz.func186 (by decide) Uk rfl rfl rfl rfl ?_
 simp only [X4,go_sem]
 simp only [i_,uf,go_sem]
 refine aW [3,11,12,13] [] (fun k:Nat=>k≤1) (fun k=>1-k) (dwS l s a b) 0 ?_ (Nat.zero_le _) (fun k hk=>?_)
 ·simp only [dwS,i_,uf,go_sem]
 simp only [dwS,i_,uf,go_sem]
 match k,hk with
 | 0,_=>
   have w1:IntKind.i64.wrap (0+(b.length:Int))=b.length:=by rw [aO (by omega) (by omega)]; omega
   simp only [show decide (((0:Nat):Int)<1)=true from rfl,aD,w1,show (0:Nat)=0 from rfl,go_sem]
   refine bh 1 ?_ ?_ (by decide) (by decide)
   ·simp only [go_sem]
   ·simp only [dwS,i_,uf,show IntKind.i64.wrap 1=1 from rfl,show ¬ (1:Nat)=0 by decide,go_sem]
 | 1,_=>
   simp only [show decide (((1:Nat):Int)<1)=false from rfl,show ¬ (1:Nat)=0 by decide,go_sem]
end Dv
namespace Dv
open Go Go.Proofs
variable {G:Nat→Option (List DV)}
def P_:=qx Tryz.f120
theorem KC:aj Tryz.prog Tryz.f120=some P_:=by kernel_rfl
def abn:=qx Tryz.f96
theorem ZM:aj Tryz.prog Tryz.f96=some abn:=by kernel_rfl
def aac:=qx Tryz.f47
theorem PO:aj Tryz.prog Tryz.f47=some aac:=by kernel_rfl
def abz:=qx Tryz.f58
theorem ZX:aj Tryz.prog Tryz.f58=some abz:=by kernel_rfl
def gC (keep:Int) (b:List Int):Nat:=(max 0 (min keep b.length)).toNat
def ddS (l:List Int) (s:Int) (a:Nat) (b:List Int) (keep:Int) (k:Nat):St:=⟨[(0,.ptr 0 0),(1,.int (if k=0 then keep else IntKind.i64.wrap (keep-((gC keep b:Nat):Int)))),(10,.sl 2 1 2 0 1),(11,.int 1),(12,.int k)],if k=0 then (i_ l s a b).map some else (i_ (bF l a (b.take (gC keep b))) s a b).map some⟩
theorem vA (l:List Int) (s:Int) (a:Nat) (b:List Int) (h:a+b.length≤l.length) (hl:1≤l.length∧l.length≤65536) (keep:Int):bu Tryz.prog G 120 [.ptr 0 0,.int keep] (i_ l s a b) (.dM []) (cU (bF l a (b.take (gC keep b))) s++[.dat 227 2 (uf a b)]):=by
 obtain ⟨m,hm⟩:∃ m,l.length=m+1:=⟨l.length-1,by omega⟩
 refine cI Tryz.func120 (by decide) KC rfl ?_
 simp only [i_,uf,P_,go_sem]
 refine aW [0,1,10,11,12] [] (fun k:Nat=>k≤1) (fun k=>1-k) (ddS l s a b keep) 0 ?_ (Nat.zero_le _) (fun k hk=>?_)
 ·simp only [ddS,i_,uf,go_sem]
 simp only [ddS,i_,uf,go_sem]
 match k,hk with
 | 0,_=>
   have hkn:(if (if (b.length:Int)<keep then (b.length:Int) else keep)>0 then (if (b.length:Int)<keep then (b.length:Int) else keep) else 0)=((gC keep b:Nat):Int):=by unfold gC; split <;> split <;> omega
   have hkl:gC keep b≤b.length:=by unfold gC; omega
   have c1:a≤m+1∧m+1≤m+1:=by omega
   have c2:0≤gC keep b∧gC keep b≤b.length∧b.length≤b.length:=by omega
   have c3:(0:Int)≤((gC keep b:Nat):Int):=by omega
   simp only [show decide (((0:Nat):Int)<1)=true from rfl,aD,hm,hkn,show (0:Nat)=0 from rfl,c1,c2,c3,iU,Nat.sub_zero,go_sem]
   have hbt:(b.take (gC keep b)).length≤b.length:=by rw [List.length_take]; omega
   have c4:a+(m+1-a)≤m+1∧(b.take (gC keep b)).length≤m+1-a∧aB l≠[]:=⟨by omega,by omega,fun e=>by have:=congrArg List.length e; rw [aD,hm] at this; exact absurd this (by simp)⟩
   have hov:aB (l.take a)++aB (b.take (gC keep b))++aB (l.drop (a+(b.take (gC keep b)).length))=aB (bF l a (b.take (gC keep b))):=by rw [← lI,← lI]; rfl
   have hol:(bF l a (b.take (gC keep b))).length=m+1:=by rw [dB (by omega),hm]
   rw [if_pos c4,gp,hov]
   simp only [go_sem]
   refine ay rfl ?_
   simp only [go_sem]
   refine bh 1 ?_ ?_ (by decide) (by decide)
   ·simp only [go_sem]
   ·simp only [ddS,i_,uf,hol,show IntKind.i64.wrap 1=1 from rfl,show ¬ (1:Nat)=0 by decide,go_sem]
 | 1,_=>
   simp only [show decide (((1:Nat):Int)<1)=false from rfl,show ¬ (1:Nat)=0 by decide,go_sem]
   refine dA [] [0,1,2] [] (vs:=[]) rfl rfl (by decide) (by simp) (by simp) ?_ ?_ ?_
   ·simp only [cU,uf]
    rfl
   ·simp only [cU,uf,go_sem]
   ·simp [aV,ah,ag]
theorem Mq (b:List Int):gC b.length b=b.length:=by unfold gC; omega
theorem jA (l:List Int) (s:Int) (a:Nat) (b:List Int) (h:a+b.length≤l.length) (hl:1≤l.length∧l.length≤65536):bu Tryz.prog G 96 [.ptr 0 0] (i_ l s a b) (.dM []) (cU (bF l a b) (IntKind.i64.wrap (s+1))++[.dat 227 2 (uf a b)]):=by
 have hd:=vA (G:=G) l s a b h hl b.length
 rw [Mq,List.take_length] at hd
 have hw:=BP (G:=G) l s a b (by omega)
 have ha:=Nw (G:=G) (bF l a b) s
 simp only [i_,cU,uf,List.cons_append,List.nil_append] at hd hw ha
 refine aT Tryz.func96 (by decide) ZM rfl rfl rfl rfl ?_
 simp only [abn,go_sem]
 simp only [i_,cU,uf,go_sem]
 refine au [0,1,2] (hw) rfl ?_ (by decide) ?_ ?_ (by simp) ?_ <;> simp only [ag,ah,go_sem]
 refine au [0,1,2] (hd) rfl ?_ (by decide) ?_ ?_ (by simp) ?_ <;> simp only [ag,ah,go_sem]
 refine au [0,1] (ha) rfl ?_ (by decide) ?_ ?_ (by simp) ?_ <;> simp only [ag,ah,go_sem]
theorem Jw (l:List Int) (hl:1≤l.length∧l.length≤1000000):bu Tryz.prog G 84 [.sl 0 l.length 1 0 l.length] [.dat 5 1 (aB l)] (.sl 1 l.length 1 0 l.length) [.dat 5 1 (aB l),.dat 5 1 (aB l)]:=by
 obtain ⟨m,hm⟩:∃ m,l.length=m+1:=⟨l.length-1,by omega⟩
 have hr:(aB l).length=m+1:=by rw [aD,hm]
 have ht:(aB l).take (m+1)=aB l:=List.take_of_length_le (by omega)
 rw [hm]
 refine cI Tryz.func84 (by decide) Iz rfl ?_
 simp only [U8,go_sem]
 have hb:(m+1)*1≤70368744177664:=by omega
 simp only [hr,ht,Nat.le_refl,go_sem]
 simp only [hr,hb,go_sem]
 refine dA [] [0,1] [] (vs:=[.sl 1 (m+1) 1 0 (m+1)]) rfl rfl (by decide) (by simp) (by simp) rfl rfl ?_
 simp [aV,ah]
theorem j8 (l:List Int) (s:Int) (hl:1≤l.length∧l.length≤65536):bu Tryz.prog G 58 [.ptr 0 0] (cU l s) (aq l) (cU l s):=by
 obtain ⟨m,hm⟩:∃ m,l.length=m+1:=⟨l.length-1,by omega⟩
 refine cI Tryz.func58 (by decide) ZX rfl ?_
 simp only [cU,abz,go_sem]
 have hc:=Jw (G:=G) l (by omega)
 refine au [1] (hc) rfl ?_ (by decide) ?_ ?_ (by simp) ?_ <;> simp only [ag,ah,go_sem]
 refine aW [3,16,17,18] [] (fun k:Nat=>k=0) (fun k=>1-k) (fun _=>⟨[(3,.sl 2 l.length 1 0 l.length),(16,.d (.val (.slice none 0 0))),(17,.int 0),(18,.int 0)],(cU l s++[aG.dat 5 1 (aB l)]).map some⟩) 0 ?_ rfl (fun k hk=>?_)
 ·simp only [cU,go_sem]
 simp only [cU,go_sem]
 refine dA [] [0,1] [2] (vs:=[.sl 2 l.length 1 0 l.length]) rfl rfl (by decide) (by simp) (by simp [St.obj,aC,b_]) rfl rfl ?_
 simp [St.obj,aC,aV,ah,bK,aq,List.take_of_length_le,aD,b_]
theorem BQ (l:List Int) (s:Int) (keep:Int):bu Tryz.prog G 120 [.ptr 0 0,.int keep] (cU l s) (.dM []) (cU l s):=by
 refine aT Tryz.func120 (by decide) KC rfl rfl rfl rfl ?_
 simp only [P_,go_sem]
 simp only [cU,go_sem]
 refine aW [0,11,12] [] (fun k:Nat=>k=0) (fun k=>1-k) (fun _=>⟨[(0,.ptr 0 0),(11,.int 0),(12,.int 0)],(cU l s).map some⟩) 0 ?_ rfl (fun k hk=>?_)
 ·simp only [cU,go_sem]
 simp only [cU,go_sem]
theorem BR (l:List Int) (s:Int) (a:Nat) (b:List Int) (h:a+b.length≤l.length) (hl:1≤l.length∧l.length≤65536) (keep:Int):bu Tryz.prog G 47 [.ptr 0 0,.int keep] (i_ l s a b) (.dM []) (cU (bF l a (b.take (gC keep b))) s++[.dat 227 2 (uf a b)]):=by
 have hd:=vA (G:=G) l s a b h hl keep
 simp only [i_,cU,uf,List.cons_append,List.nil_append] at hd
 refine aT Tryz.func47 (by decide) PO rfl rfl rfl rfl ?_
 simp only [aac,go_sem]
 simp only [i_,cU,uf,go_sem]
 refine au [0,1,2] (hd) rfl ?_ (by decide) ?_ ?_ (by simp) ?_ <;> simp only [ag,ah,go_sem]
theorem mw (l:List Int) (s:Int) (keep:Int):bu Tryz.prog G 47 [.ptr 0 0,.int keep] (cU l s) (.dM []) (cU l s):=by
 have hd:=BQ (G:=G) l s keep
 simp only [cU] at hd
 refine aT Tryz.func47 (by decide) PO rfl rfl rfl rfl ?_
 simp only [aac,go_sem]
 simp only [cU,go_sem]
 refine au [0,1] (hd) rfl ?_ (by decide) ?_ ?_ (by simp) ?_ <;> simp only [ag,ah,go_sem]
end Dv
namespace Dv
open Go Go.Proofs
variable {G:Nat→Option (List DV)}
def dw (b:List Int) (a:Nat):List Int×Nat×Int:=
 if a>b.length then ([],a,2) else if a=b.length∨b.getD a 0=0 then ([],a,0) else
 match f_ b a with
 | none=>([],a,2)
 | some (n,fr)=>
   if n>4000∨n+4≥(b.length:Int)-fr then ([],a,2)
   else if sO ((b.drop fr).take (n.toNat+4))=false∨b.getD (fr+n.toNat+4) 0≠1 then ([],a,2)
   else ((b.drop fr).take n.toNat,fr+n.toNat+5,1)
def pW (q:List Int×Nat×Int):LV:=.dM [aq q.1,.int q.2.1,.int q.2.2]
def XJ:=qx Tryz.f226
theorem TU:aj Tryz.prog Tryz.f226=some XJ:=by kernel_rfl
def Yc:=qx Tryz.f167
theorem Ut:aj Tryz.prog Tryz.f167=some Yc:=by kernel_rfl
theorem vn (b:List Int) (hb:∀ c∈b,0≤c∧c≤255) (hl:b.length≤1000000) (a:Nat) (ha:a≤1000000):bu Tryz.prog G 226 [aq b,.int a] [] (pW (dw b a)) []:=by
 have hlb:(aB b).length=b.length:=aD b
 refine cI Tryz.func226 (by decide) TU rfl ?_
 simp only [aq,XJ,go_sem]
 simp only [decide_eq_false (show ¬ ((a:Nat):Int)<0 by omega),hlb,go_sem]
 by_cases h1:a>b.length
 ·have hf:dw b a=([],a,2):=if_pos h1
  simp only [decide_eq_true (show ((a:Nat):Int)>((b.length:Nat):Int) by omega),go_sem]
  exact dQ [] rfl (by simp) (by simp [aV,St.get,aY,ah,ag,hf,pW,aq,aB,LV.int])
 simp only [decide_eq_false (show ¬ ((a:Nat):Int)>((b.length:Nat):Int) by omega),go_sem]
 by_cases h2:a=b.length
 ·have hf:dw b a=([],a,0):=by unfold dw; rw [if_neg h1,if_pos (.inl h2)]
  simp only [show (((a:Nat):Int)==((b.length:Nat):Int))=true by rw [beq_iff_eq]; omega,hlb,go_sem]
  exact dQ [] rfl (by simp) (by simp [aV,St.get,aY,ah,ag,hf,pW,aq,aB,LV.int])
 have hlt:a<b.length:=by omega
 have hg:=aM (f:=fun n:Int=>[u8 n]) 0 hlt
 rw [show b.map (fun n:Int=>[u8 n])=aB b from rfl] at hg
 simp only [show (((a:Nat):Int)==((b.length:Nat):Int))=false from beq_eq_false_iff_ne.2 (by omega),hlb,hg,u8,go_sem]
 by_cases h3:b.getD a 0=0
 ·have hf:dw b a=([],a,0):=by unfold dw; rw [if_neg h1,if_pos (.inr h3)]
  simp only [h3,go_sem]
  exact dQ [] rfl (by simp) (by simp [aV,St.get,aY,ah,ag,hf,pW,aq,aB,LV.int])
 simp only [beq_eq_false_iff_ne.2 h3,go_sem]
 have CR:dw b a=match f_ b a with
  | none=>([],a,2)
  | some (n,fr)=>if n>4000∨n+4≥(b.length:Int)-fr then ([],a,2)
    else if sO ((b.drop fr).take (n.toNat+4))=false∨b.getD (fr+n.toNat+4) 0≠1 then ([],a,2)
    else ((b.drop fr).take n.toNat,fr+n.toNat+5,1):=by
  show (if a>b.length then _ else _)=_
  rw [if_neg h1,if_neg (by omega)]
 have hn:=jY (G:=G) b hb hl a ha (f_ b a) rfl
 simp only [aq] at hn
 cases hq:f_ b a with
 | none=>
   rw [hq] at hn CR
   simp only [gj,zM,zN,Option.isSome] at hn
   refine av (hn) rfl rfl rfl rfl ?_; simp only [go_sem]
   exact dQ [] rfl (by simp) (by simp [aV,St.get,aY,ah,ag,CR,pW,aq,aB,LV.int])
 | some q=>
 obtain ⟨n,fr⟩:=q
 have hr:=gv (fun c hc=>(hb c hc).1) hq
 rw [hq] at hn CR
 simp only [gj,zM,zN,Option.isSome] at hn
 simp only at CR
 refine av (hn) rfl rfl rfl rfl ?_; simp only [go_sem]
 by_cases h4:n>4000
 ·rw [if_pos (.inl h4)] at CR
  simp only [decide_eq_true h4,go_sem]
  exact dQ [] rfl (by simp) (by simp [aV,St.get,aY,ah,ag,CR,pW,aq,aB,LV.int])
 have w1:IntKind.i64.wrap (n+4)=n+4:=aO (by omega) (by omega)
 have w2:IntKind.i64.wrap ((b.length:Int)-(fr:Int))=(b.length:Int)-fr:=aO (by omega) (by omega)
 simp only [decide_eq_false h4,hlb,w1,w2,go_sem]
 by_cases h5:n+4≥(b.length:Int)-fr
 ·rw [if_pos (.inr h5)] at CR
  simp only [decide_eq_true h5,go_sem]
  exact dQ [] rfl (by simp) (by simp [aV,St.get,aY,ah,ag,CR,pW,aq,aB,LV.int])
 rw [if_neg (by omega)] at CR
 obtain ⟨m,rfl⟩:=Int.eq_ofNat_of_zero_le hr.1
 rw [Int.toNat_natCast] at CR
 have w3:IntKind.i64.wrap ((fr:Int)+((m:Nat):Int))=((fr+m:Nat):Int):=by rw [aO (by omega) (by omega)]; omega
 have w4:IntKind.i64.wrap (((fr+m:Nat):Int)+4)=((fr+m+4:Nat):Int):=by rw [aO (by omega) (by omega)]; omega
 have w5:IntKind.i64.wrap (((fr+m+4:Nat):Int)+1)=((fr+m+5:Nat):Int):=by rw [aO (by omega) (by omega)]; omega
 have c1:(0:Int)≤((fr+m+4:Nat):Int):=by omega
 have c2:fr≤fr+m+4∧fr+m+4≤b.length∧b.length≤b.length:=by omega
 have e1:fr+m+4-fr=m+4:=by omega
 have hs:=Lz (G:=G) ((b.drop fr).take (m+4)) (by rw [List.length_take,List.length_drop]; omega)
 simp only [aq] at hs
 simp only [decide_eq_false h5,w3,w4,c1,hlb,c2,e1,gp,iU,go_sem]
 refine av (hs) rfl rfl rfl rfl ?_; simp only [go_sem]
 cases h6:sO ((b.drop fr).take (m+4)) with
 | false=>
   rw [if_pos (.inl h6)] at CR
   simp only [go_sem]
   exact dQ [] rfl (by simp) (by simp [aV,St.get,aY,ah,ag,CR,pW,aq,aB,LV.int])
 | true=>
 have hg2:=aM (f:=fun n:Int=>[u8 n]) 0 (show fr+m+4<b.length by omega)
 rw [show b.map (fun n:Int=>[u8 n])=aB b from rfl] at hg2
 simp only [w4,c1,hg2,u8,go_sem]
 by_cases h7:b.getD (fr+m+4) 0=1
 ·rw [if_neg (by rw [h6,h7]; simp)] at CR
  have c3:fr≤fr+m∧fr+m≤fr+m∧fr+m≤b.length:=by omega
  have e2:fr+m-fr=m:=by omega
  have hc:=pI (G:=G) ((b.drop fr).take m) (by rw [List.length_take,List.length_drop]; omega)
  simp only [aq] at hc
  simp only [h7,bne_self_eq_false,hlb,c3,e2,gp,iU,go_sem]
  refine av (hc) rfl rfl rfl rfl ?_; simp only [go_sem]
  simp only [w4,w5,go_sem]
  exact dQ [] rfl (by simp) (by simp [aV,St.get,aY,ah,ag,CR,pW,aq,LV.int])
 ·rw [if_pos (.inr h7)] at CR
  simp only [show (b.getD (fr+m+4) 0 !=1)=true from bne_iff_ne.2 h7,go_sem]
  exact dQ [] rfl (by simp) (by simp [aV,St.get,aY,ah,ag,CR,pW,aq,aB,LV.int])
theorem AM {b:List Int} (hb:∀ c∈b,0≤c) {a:Nat} (h:(dw b a).2.2=1):a<(dw b a).2.1∧(dw b a).2.1≤b.length∧(dw b a).1.length≤4000:=by
 unfold dw at h ⊢
 split at h
 ·exact absurd h (by simp)
 rename_i h1
 rw [if_neg h1]
 split at h
 ·exact absurd h (by simp)
 rename_i h2
 rw [if_neg h2]
 cases hq:f_ b a with
 | none=>rw [hq] at h; exact absurd h (by simp)
 | some q=>
 obtain ⟨n,fr⟩:=q
 have hr:=gv hb hq
 rw [hq] at h
 simp only at h ⊢
 split at h
 ·exact absurd h (by simp)
 rename_i h3
 rw [if_neg h3]
 split at h
 ·exact absurd h (by simp)
 rename_i h4
 rw [if_neg h4]
 refine ⟨by dsimp only; omega,by dsimp only; omega,?_⟩
 rw [List.length_take,List.length_drop]
 omega
def vI (b:List Int):Nat→List (List Int)→Nat→List (List Int)×Nat
 | 0,l,a=>(l,a)
 | f+1,l,a=>if (dw b a).2.2=1 then vI b f (l++[(dw b a).1]) (dw b a).2.1 else (l,a)
def Wf (b:List Int) (q:List (List Int)×Nat):St:=⟨[(0,aq b),(1,.int q.2),(6,.sl 0 q.1.length 1 0 q.1.length)],[some (.dat 57 1 (bW q.1))]⟩
theorem Ex (b:List Int) (hb:∀ c∈b,0≤c∧c≤255) (hl:b.length≤1000000) (a:Nat) (ha:a≤b.length) (R:List (List Int)×Nat) (hR:vI b (b.length+1) [] a=R):bu Tryz.prog G 167 [aq b,.int a] [] (.dM [.d (.dO 1 (bW R.1)),.int R.2]) []:=by
 refine cI Tryz.func167 (by decide) Ut rfl ?_
 simp only [aq,Yc,go_sem]
 refine aW [0,1,6] [.t 6 57 1] (fun q:List (List Int)×Nat=>q.2≤b.length∧q.1.length≤q.2∧∃ f,b.length-q.2<f∧vI b f q.1 q.2=R) (fun q=>b.length-q.2) (Wf b) ([],a) ?_ ⟨ha,Nat.zero_le _,_,by dsimp only; omega,hR⟩ ?_
 ·simp only [Wf,aq,bW,go_sem]
 rintro ⟨l,x⟩ ⟨hx,Gf,f,hf,hA⟩
 dsimp only at hx Gf hf hA
 simp only [Wf,aq,go_sem]
 have hg:=vn (G:=G) b hb hl x (by omega)
 simp only [aq,pW] at hg
 refine av (hg) rfl rfl rfl rfl ?_; simp only [go_sem]
 obtain ⟨f,rfl⟩:∃ g,f=g+1:=⟨f-1,by omega⟩
 unfold vI at hA
 by_cases h1:(dw b x).2.2=1
 ·rw [if_pos h1] at hA
  have he:=AM (fun c hc=>(hb c hc).1) h1
  have hcl:(bW l).length=l.length:=by simp [bW]
  have hsn:bW l++[[DV.dO 1 (aB (dw b x).1)]]=bW (l++[(dw b x).1]):=by simp [bW]
  have Vr:(bW (l++[(dw b x).1])).length*24≤70368744177664:=by
   have:(bW (l++[(dw b x).1])).length=l.length+1:=by simp [bW]
   omega
  simp only [h1,bne_self_eq_false,go_sem]
  rw [hcl,hsn,if_pos ⟨rfl,Vr⟩]
  simp only [go_sem]
  refine bh (l++[(dw b x).1],(dw b x).2.1) ?_ ?_ ⟨he.2.1,by simp; omega,f,by dsimp only; omega,hA⟩ (by dsimp only; omega)
  ·simp only [go_sem]
  ·simp only [Wf,aq,List.length_append,go_sem]
 ·rw [if_neg h1] at hA
  simp only [show ((dw b x).2.2 !=1)=true from bne_iff_ne.2 h1,go_sem]
  subst hA
  exact dQ [0] rfl (by simp [St.obj,aC]) (by simp [St.obj,aC,aV,St.get,aY,ah,ag,bK,bW,List.take_of_length_le,LV.int])
end Dv
namespace Dv
open Go Go.Proofs
variable {G:Nat→Option (List DV)}
def Ap (l:List Int) (s:Int) (fr sz us:Nat):List aG:=[.box 245 [.ptr 1 0,.int fr,.int sz,.int us],.box 150 [.sl 2 l.length 1 0 l.length,.d (.val (.slice none 0 0)),.int s],.dat 5 1 (aB l)]
def P0:=qx Tryz.f168
theorem KA:aj Tryz.prog Tryz.f168=some P0:=by kernel_rfl
def XF:=qx Tryz.f235
theorem TQ:aj Tryz.prog Tryz.f235=some XF:=by kernel_rfl
def X6:=qx Tryz.f184
theorem Um:aj Tryz.prog Tryz.f184=some X6:=by kernel_rfl
def abp:=qx Tryz.f86
theorem ZO:aj Tryz.prog Tryz.f86=some abp:=by kernel_rfl
theorem Bi (n:Nat):aB (List.replicate n 0)=List.replicate n [u8 0]:=by simp [aB]
theorem xK (l:List Int) (s:Int) (fr sz us a:Nat) (hf:fr+sz≤l.length) (ha:a<sz) (hl:1≤l.length∧l.length≤65536):bu Tryz.prog G 168 [.ptr 0 0,.int a] (Ap l s fr sz us) (.dM []) (Ap (bF l (fr+a) (List.replicate (sz-a) 0)) (IntKind.i64.wrap (s+1)) fr sz us):=by
 have hb:=j8 (G:=G) l s hl
 have hk:=iL (G:=G) l s (fr+a) (List.replicate (sz-a) 0) (by rw [List.length_replicate]; omega) hl.2
 have hs:=jA (G:=G) l s (fr+a) (List.replicate (sz-a) 0) (by rw [List.length_replicate]; omega) hl
 simp only [cU,i_,uf,aq,Bi,List.length_replicate,List.cons_append,List.nil_append] at hb hk hs
 have w1:IntKind.i64.wrap ((fr:Int)+(a:Int))=((fr+a:Nat):Int):=by rw [aO (by omega) (by omega)]; omega
 have w2:IntKind.i64.wrap ((fr:Int)+(sz:Int))=((fr+sz:Nat):Int):=by rw [aO (by omega) (by omega)]; omega
 have c1:fr+a≤fr+sz∧fr+sz≤l.length∧l.length≤l.length:=by omega
 have c2:(0:Int)≤((fr+sz:Nat):Int):=by omega
 have c3:(0:Int)≤((fr+a:Nat):Int):=by omega
 have e1:fr+sz-(fr+a)=sz-a:=by omega
 have hc:=GK (G:=G) ((l.drop (fr+a)).take (sz-a)) (by rw [List.length_take,List.length_drop]; omega)
 have hcl:((l.drop (fr+a)).take (sz-a)).length=sz-a:=by rw [List.length_take,List.length_drop]; omega
 rw [hcl] at hc
 simp only [aq] at hc
 refine cI Tryz.func168 (by decide) KA rfl ?_
 simp only [Ap,P0,go_sem]
 refine eM [1,2] (hb) rfl ?_ (by decide) ?_ ?_ (by simp) ?_ <;> simp only [ag,ah,go_sem]
 simp only [w1,w2,c1,c2,c3,e1,aD,gp,iU,go_sem]
 refine kA hc rfl rfl rfl ?_
 simp only [go_sem]
 refine ay rfl ?_
 simp only [go_sem]
 have c4:sz-a=(aB ((l.drop (fr+a)).take (sz-a))).length∧sz-a≤(aB ((l.drop (fr+a)).take (sz-a))).length∧0<sz-a:=by rw [aD,hcl]; omega
 have hdr:(aB ((l.drop (fr+a)).take (sz-a))).drop (sz-a)=[]:=List.drop_eq_nil_of_le (by rw [aD,hcl]; exact Nat.le_refl _)
 have e_:(bF l (fr+a) (List.replicate (sz-a) 0)).length=l.length:=dB (by rw [List.length_replicate]; omega)
 rw [if_pos c4]
 simp only [w1,hdr,go_sem]
 refine Bw [1,2] [3] (hk) rfl (by simp [ag,ah,bK,aC,u8,aD,hcl,go_sem]) (by decide) (by decide) (by simp [aC]) (by simp only [go_sem,u8,aD,hcl]) (by simp only [go_sem,u8,aD,hcl]) (by simp) ?_; simp only [go_sem,u8,aD,hcl]
 refine ay rfl ?_
 simp only [go_sem]
 refine au [1,2,4] (hs) rfl ?_ (by decide) ?_ ?_ (by simp) ?_ <;> simp only [ag,ah,go_sem,u8]
 refine dA [] [0,1,2] [] (vs:=[]) rfl rfl (by decide) (by simp) (by simp) rfl rfl ?_
 simp [aV,ah,ag]
theorem zX (l:List Int) (a:Nat):bF l a []=l:=by unfold bF; simp
theorem DW (l:List Int) (s:Int) (fr sz us:Nat) (hf:fr+sz≤l.length) (hl:1≤l.length∧l.length≤65536):bu Tryz.prog G 168 [.ptr 0 0,.int sz] (Ap l s fr sz us) (.dM []) (Ap l (IntKind.i64.wrap (s+1)) fr sz us):=by
 have hb:=j8 (G:=G) l s hl
 have hk:=iL (G:=G) l s (fr+sz) [] (by simp; omega) hl.2
 have hs:=jA (G:=G) l s (fr+sz) [] (by simp; omega) hl
 rw [zX] at hs
 simp only [cU,i_,uf,aq,aB,List.map_nil,List.cons_append,List.nil_append] at hb hk hs
 rw [show l.map (fun n:Int=>[u8 n])=aB l from rfl] at hb hk hs
 have w2:IntKind.i64.wrap ((fr:Int)+(sz:Int))=((fr+sz:Nat):Int):=by rw [aO (by omega) (by omega)]; omega
 have c1:fr+sz≤fr+sz∧fr+sz≤l.length∧l.length≤l.length:=by omega
 have c2:(0:Int)≤((fr+sz:Nat):Int):=by omega
 have hc:=pI (G:=G) [] (by simp)
 simp only [aq,aB,List.map_nil] at hc
 refine cI Tryz.func168 (by decide) KA rfl ?_
 simp only [Ap,P0,go_sem]
 refine eM [1,2] (hb) rfl ?_ (by decide) ?_ ?_ (by simp) ?_ <;> simp only [ag,ah,go_sem]
 simp only [w2,c1,c2,Nat.sub_self,aD,Nat.le_refl,go_sem]
 refine bf (hc) rfl rfl rfl rfl ?_; simp only [go_sem]
 refine ay rfl ?_
 simp only [go_sem]
 simp only [w2,go_sem]
 refine eM [1,2] (hk) rfl ?_ (by decide) ?_ ?_ (by simp) ?_ <;> simp only [ag,ah,go_sem]
 refine ay rfl ?_
 simp only [go_sem]
 refine au [1,2,3] (hs) rfl ?_ (by decide) ?_ ?_ (by simp) ?_ <;> simp only [ag,ah,go_sem]
 refine dA [] [0,1,2] [] (vs:=[]) rfl rfl (by decide) (by simp) (by simp) rfl rfl ?_
 simp [aV,ah,ag]
theorem DX (l:List Int) (s:Int) (fr sz us a:Nat) (hf:fr+sz≤l.length) (ha:a≤sz) (hl:1≤l.length∧l.length≤65536):bu Tryz.prog G 168 [.ptr 0 0,.int a] (Ap l s fr sz us) (.dM []) (Ap (bF l (fr+a) (List.replicate (sz-a) 0)) (IntKind.i64.wrap (s+1)) fr sz us):=by
 by_cases h:a<sz
 ·exact xK l s fr sz us a hf h hl
 ·obtain rfl:a=sz:=by omega
  rw [Nat.sub_self,List.replicate_zero,zX]
  exact DW l s fr a us hf hl
def qI (sz us n:Nat):Bool:=decide (1≤n∧n≤4000∧(bw n).length+n+5+us≤sz)
theorem xO (l:List Int) (s:Int) (fr sz us n:Nat) (hu:us≤sz) (hs:sz≤65536) (hn:n≤1000000):bu Tryz.prog G 235 [.ptr 0 0,.int n] (Ap l s fr sz us) (.bool (qI sz us n)) (Ap l s fr sz us):=by
 have hm:=oS (G:=G) (n:Int)
 have h9:=iQ (n:Int)
 simp only [aq] at hm
 refine aT Tryz.func235 (by decide) TQ rfl rfl rfl rfl ?_
 simp only [XF,go_sem]
 simp only [Ap,go_sem]
 by_cases h1:1≤n
 case neg=>
  simp only [decide_eq_false (show ¬ ((n:Nat):Int)≥1 by omega),go_sem]
  simp only [qI,decide_eq_false (show ¬ (1≤n∧n≤4000∧(bw n).length+n+5+us≤sz) by omega)]
 by_cases h2:n≤4000
 case neg=>
  simp only [decide_eq_true (show ((n:Nat):Int)≥1 by omega),decide_eq_false (show ¬ ((n:Nat):Int)≤4000 by omega),go_sem]
  simp only [qI,decide_eq_false (show ¬ (1≤n∧n≤4000∧(bw n).length+n+5+us≤sz) by omega)]
 simp only [decide_eq_true (show ((n:Nat):Int)≥1 by omega),decide_eq_true (show ((n:Nat):Int)≤4000 by omega),go_sem]
 refine bf (hm) rfl rfl rfl rfl ?_; simp only [go_sem]
 have w1:IntKind.i64.wrap (((bw n).length:Int)+(n:Int))=(((bw n).length+n:Nat):Int):=by rw [aO (by omega) (by omega)]; omega
 have w2:IntKind.i64.wrap ((((bw n).length+n:Nat):Int)+5)=(((bw n).length+n+5:Nat):Int):=by rw [aO (by omega) (by omega)]; omega
 have w3:IntKind.i64.wrap ((sz:Int)-(us:Int))=((sz-us:Nat):Int):=by rw [aO (by omega) (by omega)]; omega
 simp only [aD,w1,w2,w3,go_sem]
 exact decide_eq_decide.2 (by omega)
def lgW (l:List Int) (s:Int) (fr sz us a:Nat) (b:List Int):List aG:=[.box 245 [.ptr 1 0,.int fr,.int sz,.int us],.box 150 [.sl 2 l.length 1 0 l.length,.sl 3 1 2 0 1,.int s],.dat 5 1 (aB l),.dat 227 2 (uf a b)]
theorem lV {p:List Int} (h:1≤p.length∧p.length≤4000):(cH p).length=(bw p.length).length+p.length+5:=by
 unfold cH
 rw [if_neg (by omega)]
 simp only [List.length_append,qs,List.length_cons,List.length_nil]
theorem Io (l:List Int) (s:Int) (fr sz us:Nat) (p:List Int) (hf:fr+sz≤l.length) (hu:us≤sz) (hl:1≤l.length∧l.length≤65536) (hr:qI sz us p.length=true):bu Tryz.prog G 184 [.ptr 0 0,aq p] (Ap l s fr sz us) (.int 0) (lgW l s fr sz (us+(cH p).length) (fr+us) (cH p)):=by
 have yX:1≤p.length∧p.length≤4000∧(bw p.length).length+p.length+5+us≤sz:=of_decide_eq_true hr
 have mg:=lV ⟨yX.1,yX.2.1⟩
 have hq:=xO (G:=G) l s fr sz us p.length hu (by omega) (by omega)
 have hp:=pz (G:=G) p (by omega)
 have hw:=iL (G:=G) l s (fr+us) (cH p) (by omega) hl.2
 rw [hr] at hq
 simp only [Ap,cU,i_,uf,aq] at hq hp hw
 refine cI Tryz.func184 (by decide) Um rfl ?_
 simp only [Ap,aq,X6,go_sem]
 simp only [aD,show (((p.length:Nat):Int)==0)=false from beq_eq_false_iff_ne.2 (by omega),go_sem]
 simp only [aD,decide_eq_false (show ¬ ((p.length:Nat):Int)>4000 by omega),go_sem]
 refine au [0,1,2] (hq) rfl ?_ (by decide) ?_ ?_ (by simp) ?_ <;> simp only [ag,ah,go_sem]
 refine av (hp) rfl rfl rfl rfl ?_; simp only [go_sem]
 have w1:IntKind.i64.wrap ((fr:Int)+(us:Int))=((fr+us:Nat):Int):=by rw [aO (by omega) (by omega)]; omega
 have w2:IntKind.i64.wrap ((us:Int)+((cH p).length:Int))=((us+(cH p).length:Nat):Int):=by rw [aO (by omega) (by omega)]; omega
 simp only [w1,go_sem]
 refine eM [1,2] (hw) rfl ?_ (by decide) ?_ ?_ (by simp) ?_ <;> simp only [ag,ah,go_sem]
 refine ay rfl ?_
 simp only [aD,w2,go_sem]
 refine dA [] [0,1,2,3] [] (vs:=[.int 0]) rfl rfl (by decide) (by simp) (by simp) rfl rfl ?_
 simp [aV,ah,LV.int]
theorem uU (l:List Int) (s:Int) (fr sz us:Nat) (hf:fr+sz≤l.length) (hz:1≤sz) (hl:1≤l.length∧l.length≤65536):bu Tryz.prog G 86 [.ptr 0 0] (Ap l s fr sz us) (.dM []) (Ap (bF l fr (List.replicate sz 0)) (IntKind.i64.wrap (s+1)) fr sz 0):=by
 have hn:=xK (G:=G) l s fr sz us 0 hf (by omega) hl
 simp only [Ap,Nat.add_zero,Nat.sub_zero] at hn
 refine aT Tryz.func86 (by decide) ZO rfl rfl rfl rfl ?_
 simp only [abp,go_sem]
 simp only [Ap,go_sem]
 refine au [0,1,2] (hn) rfl ?_ (by decide) ?_ ?_ (by simp) ?_ <;> simp only [ag,ah,go_sem]
end Dv
namespace Dv
open Go Go.Proofs
variable {G:Nat→Option (List DV)}
theorem rj (b:List Int) (a:Nat):(∀ c∈(dw b a).1,c∈b)∧(dw b a).1.length≤b.length:=by
 unfold dw
 split
 ·simp
 split
 ·simp
 cases f_ b a with
 | none=>simp
 | some q=>
 obtain ⟨n,fr⟩:=q
 simp only
 split
 ·simp
 split
 ·simp
 refine ⟨fun c hc=>List.mem_of_mem_drop (List.mem_of_mem_take hc),?_⟩
 dsimp only
 rw [List.length_take,List.length_drop]
 omega
def mM (l:List Int) (s:Int) (fr sz:Nat):List aG:=[.box 243 [.ptr 1 0,.int fr,.int sz],.box 150 [.sl 2 l.length 1 0 l.length,.d (.val (.slice none 0 0)),.int s],.dat 5 1 (aB l)]
def eF (l:List Int) (fr sz k:Nat):List Int:=(l.drop (fr+k*sz)).take sz
def iJ (l:List Int) (fr sz k:Nat):Option (List Int×Int):=
 if (dw (eF l fr sz k) 0).2.2=1 then (f_ (dw (eF l fr sz k) 0).1 0).map fun q=>((dw (eF l fr sz k) 0).1.drop q.2,q.1) else none
def oP:Option (List Int×Int)→LV
 | none=>.dM [aq [],.int 0,.bool false]
 | some q=>.dM [aq q.1,.int q.2,.bool true]
def XI:=qx Tryz.f227
theorem TT:aj Tryz.prog Tryz.f227=some XI:=by kernel_rfl
def Ya:=qx Tryz.f170
theorem Ur:aj Tryz.prog Tryz.f170=some Ya:=by kernel_rfl
def Yb:=qx Tryz.f169
theorem Us:aj Tryz.prog Tryz.f169=some Yb:=by kernel_rfl
def abr:=qx Tryz.f82
theorem ZQ:aj Tryz.prog Tryz.f82=some abr:=by kernel_rfl
theorem Cl (l:List Int) (s:Int) (fr sz k:Nat) (h:fr+k*sz≤1000000):bu Tryz.prog G 227 [.ptr 0 0,.int k] (mM l s fr sz) (.int ((fr+k*sz:Nat):Int)) (mM l s fr sz):=by
 have w0:IntKind.i64.wrap ((k:Int)*(sz:Int))=((k*sz:Nat):Int):=by rw [show (k:Int)*(sz:Int)=((k*sz:Nat):Int) by simp,aO (by omega) (by omega)]
 have w1:IntKind.i64.wrap ((fr:Int)+((k*sz:Nat):Int))=((fr+k*sz:Nat):Int):=by rw [aO (by omega) (by omega)]; omega
 refine aT Tryz.func227 (by decide) TT rfl rfl rfl rfl ?_
 simp only [XI,go_sem]
 simp only [mM,w0,w1,go_sem]
theorem qN (l:List Int) (s:Int) (fr sz k:Nat) (hb:∀ c∈l,0≤c∧c≤255) (h:fr+k*sz+sz≤l.length) (hl:1≤l.length∧l.length≤65536):bu Tryz.prog G 170 [.ptr 0 0,.int k] (mM l s fr sz) (oP (iJ l fr sz k)) (mM l s fr sz):=by
 have hp:=Cl (G:=G) l s fr sz k (by omega)
 have hy:=j8 (G:=G) l s hl
 have yW:(eF l fr sz k).length=sz:=by unfold eF; rw [List.length_take,List.length_drop]; omega
 have hsb:∀ c∈eF l fr sz k,0≤c∧c≤255:=fun c hc=>hb c (List.mem_of_mem_drop (List.mem_of_mem_take hc))
 have hg:=vn (G:=G) (eF l fr sz k) hsb (by omega) 0 (by omega)
 have abZ:=rj (eF l fr sz k) 0
 have hP:iJ l fr sz k=if (dw (eF l fr sz k) 0).2.2=1 then (f_ (dw (eF l fr sz k) 0).1 0).map fun q=>((dw (eF l fr sz k) 0).1.drop q.2,q.1) else none:=rfl
 have adF:(l.drop (fr+k*sz)).take sz=eF l fr sz k:=rfl
 generalize iJ l fr sz k=PD at *
 generalize fr+k*sz=pl at *
 generalize eF l fr sz k=sb at *
 simp only [cU,mM,aq,pW] at hp hy hg
 have w2:IntKind.i64.wrap ((pl:Int)+(sz:Int))=((pl+sz:Nat):Int):=by rw [aO (by omega) (by omega)]; omega
 have c1:pl≤pl+sz∧pl+sz≤l.length∧l.length≤l.length:=by omega
 have c2:(0:Int)≤((pl+sz:Nat):Int):=by omega
 have e1:pl+sz-pl=sz:=by omega
 refine cI Tryz.func170 (by decide) Ur rfl ?_
 simp only [mM,Ya,go_sem]
 refine au [0,1,2] (hp) rfl ?_ (by decide) ?_ ?_ (by simp) ?_ <;> simp only [ag,ah,go_sem]
 refine eM [1,2] (hy) rfl ?_ (by decide) ?_ ?_ (by simp) ?_ <;> simp only [ag,ah,go_sem]
 simp only [w2,c1,c2,e1,aD,gp,iU,adF,go_sem]
 refine bf (hg) rfl rfl rfl rfl ?_; simp only [go_sem]
 refine ay rfl ?_
 simp only [go_sem]
 have hn:=jY (G:=G) (dw sb 0).1 (fun c hc=>hsb c (abZ.1 c hc)) (by omega) 0 (by omega) (f_ (dw sb 0).1 0) rfl
 simp only [aq] at hn
 cases hq:f_ (dw sb 0).1 0 with
 | none=>
   rw [hq] at hn hP
   simp only [gj,zM,zN,Option.isSome] at hn
   refine av (hn) rfl rfl rfl rfl ?_; simp only [go_sem]
   have hP2:PD=none:=by rw [hP]; split <;> rfl
   by_cases h1:(dw sb 0).2.2=1
   ·simp only [h1,bne_self_eq_false,go_sem]
    refine dA [] [0,1,2] [] (vs:=[.d (.val (.slice none 0 0)),.int 0,.bool false]) rfl rfl (by decide) (by simp) (by simp) rfl rfl ?_
    simp [aV,ah,ag,hP2,oP,aq,aB,LV.int,LV.bool]
   ·simp only [show ((dw sb 0).2.2 !=1)=true from bne_iff_ne.2 h1,go_sem]
    refine dA [] [0,1,2] [] (vs:=[.d (.val (.slice none 0 0)),.int 0,.bool false]) rfl rfl (by decide) (by simp) (by simp) rfl rfl ?_
    simp [aV,ah,ag,hP2,oP,aq,aB,LV.int,LV.bool]
 | some q=>
 obtain ⟨n,nx⟩:=q
 have hr:=gv (fun c hc=>(hsb c (abZ.1 c hc)).1) hq
 rw [hq] at hn hP
 simp only [gj,zM,zN,Option.isSome] at hn
 refine av (hn) rfl rfl rfl rfl ?_; simp only [go_sem]
 by_cases h1:(dw sb 0).2.2=1
 ·rw [if_pos h1] at hP
  have c3:nx≤(dw sb 0).1.length∧(dw sb 0).1.length≤(dw sb 0).1.length:=by omega
  have hdl:(aB ((dw sb 0).1.drop nx)).take ((dw sb 0).1.length-nx)=aB ((dw sb 0).1.drop nx):=List.take_of_length_le (by rw [aD,List.length_drop]; exact Nat.le_refl _)
  simp only [h1,bne_self_eq_false,aD,c3,gp,hdl,go_sem]
  refine dA [] [0,1,2] [] (vs:=[.d (.dO 1 (aB ((dw sb 0).1.drop nx))),.int n,.bool true]) rfl rfl (by decide) (by simp) (by simp) rfl rfl ?_
  simp [aV,ah,ag,hP,oP,aq,LV.int,LV.bool]
 ·rw [if_neg h1] at hP
  simp only [show ((dw sb 0).2.2 !=1)=true from bne_iff_ne.2 h1,go_sem]
  refine dA [] [0,1,2] [] (vs:=[.d (.val (.slice none 0 0)),.int 0,.bool false]) rfl rfl (by decide) (by simp) (by simp) rfl rfl ?_
  simp [aV,ah,ag,hP,oP,aq,aB,LV.int,LV.bool]
def mc (l:List Int) (fr sz:Nat):Nat→Int×Int
 | 0=>(-1,-1)
 | k+1=>match iJ l fr sz k with
   | none=>mc l fr sz k
   | some q=>if q.2>(mc l fr sz k).2 then ((k:Int),q.2) else mc l fr sz k
def SE (l:List Int) (s:Int) (fr sz:Nat) (k:Nat):St:=⟨[(0,.ptr 0 0),(3,.int (mc l fr sz k).1),(4,.int (mc l fr sz k).2),(9,.int k)],(mM l s fr sz).map some⟩
theorem Ak (l:List Int) (s:Int) (fr sz:Nat) (hb:∀ c∈l,0≤c∧c≤255) (h:fr+2*sz≤l.length) (hl:1≤l.length∧l.length≤65536):bu Tryz.prog G 169 [.ptr 0 0] (mM l s fr sz) (.int (mc l fr sz 2).1) (mM l s fr sz):=by
 have hp0:=qN (G:=G) l s fr sz 0 hb (by omega) hl
 have hp1:=qN (G:=G) l s fr sz 1 hb (by omega) hl
 simp only [mM] at hp0 hp1
 refine aT Tryz.func169 (by decide) Us rfl rfl rfl rfl ?_
 simp only [Yb,go_sem]
 simp only [mM,go_sem]
 refine aW [0,3,4,9] [] (fun k:Nat=>k≤2) (fun k=>2-k) (SE l s fr sz) 0 ?_ (Nat.zero_le _) (fun k hk=>?_)
 ·simp only [SE,mM,mc,Int.natCast_zero,go_sem]
 simp only [SE,mM,go_sem]
 match k,hk with
 | 0,_=>
   have hq:mc l fr sz (0+1)=match iJ l fr sz 0 with
    | none=>mc l fr sz 0
    | some q=>if q.2>(mc l fr sz 0).2 then (((0:Nat):Int),q.2) else mc l fr sz 0:=rfl
   simp only [show decide (((0:Nat):Int)<2)=true from rfl,go_sem]
   refine au [0,1,2] (hp0) rfl ?_ (by decide) ?_ ?_ (by simp) ?_ <;> simp only [ag,ah,go_sem]
   cases hP:iJ l fr sz 0 with
   | none=>
     rw [hP] at hq
     simp only [oP,go_sem]
     refine bh 1 ?_ ?_ (by decide) (by decide)
     ·simp only [go_sem]
     ·simp only [SE,mM,hq,show IntKind.i64.wrap 1=1 from rfl,go_sem]
   | some q=>
     rw [hP] at hq
     simp only at hq
     simp only [oP,go_sem]
     by_cases hg:q.2>(mc l fr sz 0).2
     ·rw [if_pos hg] at hq
      simp only [decide_eq_true hg,go_sem]
      refine bh 1 ?_ ?_ (by decide) (by decide)
      ·simp only [go_sem]
      ·simp only [SE,mM,hq,show IntKind.i64.wrap 1=1 from rfl,go_sem]
     ·rw [if_neg hg] at hq
      simp only [decide_eq_false hg,go_sem]
      refine bh 1 ?_ ?_ (by decide) (by decide)
      ·simp only [go_sem]
      ·simp only [SE,mM,hq,show IntKind.i64.wrap 1=1 from rfl,go_sem]
 | 1,_=>
   have hq:mc l fr sz (1+1)=match iJ l fr sz 1 with
    | none=>mc l fr sz 1
    | some q=>if q.2>(mc l fr sz 1).2 then (((1:Nat):Int),q.2) else mc l fr sz 1:=rfl
   simp only [show decide (((1:Nat):Int)<2)=true from rfl,go_sem]
   refine au [0,1,2] (hp1) rfl ?_ (by decide) ?_ ?_ (by simp) ?_ <;> simp only [ag,ah,go_sem]
   cases hP:iJ l fr sz 1 with
   | none=>
     rw [hP] at hq
     simp only [oP,go_sem]
     refine bh 2 ?_ ?_ (by decide) (by decide)
     ·simp only [go_sem]
     ·simp only [SE,mM,hq,show IntKind.i64.wrap 2=2 from rfl,go_sem]
   | some q=>
     rw [hP] at hq
     simp only at hq
     simp only [oP,go_sem]
     by_cases hg:q.2>(mc l fr sz 1).2
     ·rw [if_pos hg] at hq
      simp only [decide_eq_true hg,go_sem]
      refine bh 2 ?_ ?_ (by decide) (by decide)
      ·simp only [go_sem]
      ·simp only [SE,mM,hq,show IntKind.i64.wrap 2=2 from rfl,go_sem]
     ·rw [if_neg hg] at hq
      simp only [decide_eq_false hg,go_sem]
      refine bh 2 ?_ ?_ (by decide) (by decide)
      ·simp only [go_sem]
      ·simp only [SE,mM,hq,show IntKind.i64.wrap 2=2 from rfl,go_sem]
 | 2,_=>
   simp only [show decide (((2:Nat):Int)<2)=false from rfl,go_sem]
theorem uP (l:List Int) (fr sz:Nat):∀ k,-1≤(mc l fr sz k).1∧(mc l fr sz k).1<(k:Int)
 | 0=>by simp [mc]
 | k+1=>by
   have:=uP l fr sz k
   unfold mc
   cases iJ l fr sz k with
   | none=>simp only; omega
   | some q=>
     simp only
     split
     ·dsimp only; omega
     ·omega
def fJ (l:List Int) (fr sz:Nat):Option (List Int×Int):=if (mc l fr sz 2).1<0 then none else iJ l fr sz (mc l fr sz 2).1.toNat
theorem uV (l:List Int) (s:Int) (fr sz:Nat) (hb:∀ c∈l,0≤c∧c≤255) (h:fr+2*sz≤l.length) (hl:1≤l.length∧l.length≤65536):bu Tryz.prog G 82 [.ptr 0 0] (mM l s fr sz) (oP (fJ l fr sz)) (mM l s fr sz):=by
 have hn:=Ak (G:=G) l s fr sz hb h hl
 have hr:=uP l fr sz 2
 have hL:fJ l fr sz=if (mc l fr sz 2).1<0 then none else iJ l fr sz (mc l fr sz 2).1.toNat:=rfl
 generalize (mc l fr sz 2).1=m at *
 simp only [mM] at hn
 refine cI Tryz.func82 (by decide) ZQ rfl ?_
 simp only [mM,abr,go_sem]
 refine au [0,1,2] (hn) rfl ?_ (by decide) ?_ ?_ (by simp) ?_ <;> simp only [ag,ah,go_sem]
 by_cases hm:m<0
 ·rw [if_pos hm] at hL
  simp only [decide_eq_true hm,go_sem]
  refine dA [] [0,1,2] [] (vs:=[.d (.val (.slice none 0 0)),.int 0,.bool false]) rfl rfl (by decide) (by simp) (by simp) rfl rfl ?_
  simp [aV,ah,ag,hL,oP,aq,aB,LV.int,LV.bool]
 rw [if_neg hm] at hL
 obtain ⟨k,rfl⟩:=Int.eq_ofNat_of_zero_le (show 0≤m by omega)
 rw [Int.toNat_natCast] at hL
 have hk:k*sz+sz≤2*sz:=by
  have:k≤1:=by omega
  have:=Nat.mul_le_mul_right sz this
  omega
 have hp:=qN (G:=G) l s fr sz k hb (by omega) hl
 rw [← hL] at hp
 simp only [mM] at hp
 simp only [decide_eq_false hm,go_sem]
 refine au [0,1,2] (hn) rfl ?_ (by decide) ?_ ?_ (by simp) ?_ <;> simp only [ag,ah,go_sem]
 refine au [0,1,2] (hp) rfl ?_ (by decide) ?_ ?_ (by simp) ?_ <;> simp only [ag,ah,go_sem]
 cases hq:fJ l fr sz with
 | none=>
   simp only [oP,aq,go_sem]
   refine dA [] [0,1,2] [] (vs:=[.d (.dO 1 (aB [])),.int 0,.bool false]) rfl rfl (by decide) (by simp) (by simp) rfl rfl ?_
   simp [aV,ah,ag,LV.int,LV.bool]
 | some q=>
   simp only [oP,aq,go_sem]
   refine dA [] [0,1,2] [] (vs:=[.d (.dO 1 (aB q.1)),.int q.2,.bool true]) rfl rfl (by decide) (by simp) (by simp) rfl rfl ?_
   simp [aV,ah,ag,LV.int,LV.bool]
end Dv
namespace Dv
open Go Go.Proofs
variable {G:Nat→Option (List DV)}
def PY:=qx Tryz.f179
theorem Ky:aj Tryz.prog Tryz.f179=some PY:=by kernel_rfl
def Z_:=qx Tryz.f92
theorem PL:aj Tryz.prog Tryz.f92=some Z_:=by kernel_rfl
def abu:=qx Tryz.f80
theorem ZS:aj Tryz.prog Tryz.f80=some abu:=by kernel_rfl
def di (l:List Int) (fr sz:Nat):Nat:=if (mc l fr sz 2).1=0 then 1 else 0
def gi (b:List Int) (cv:Int):List Int:=cH (bw cv++b)
def slW (l:List Int) (s:Int) (fr sz a:Nat) (b:List Int):List aG:=[.box 243 [.ptr 1 0,.int fr,.int sz],.box 150 [.sl 2 l.length 1 0 l.length,.sl 3 1 2 0 1,.int s],.dat 5 1 (aB l),.dat 227 2 (uf a b)]
def O0 (cv:Int):Option (List Int×Int)→Bool
 | none=>false
 | some q=>decide (cv≤q.2)
def fm (l:List Int) (fr sz:Nat) (b:List Int) (cv:Int):Int:=
 if (bw cv).length=0 then 1 else if O0 cv (fJ l fr sz)=true then 6
 else if (gi b cv).length=0∨(gi b cv).length>sz then 3 else 0
theorem Fe (l:List Int) (s:Int) (fr sz:Nat) (b:List Int) (cv:Int) (hb:∀ c∈l,0≤c∧c≤255) (h:fr+2*sz≤l.length) (hz:1≤sz) (hl:1≤l.length∧l.length≤65536) (yY:b.length≤90000) (hE:fm l fr sz b cv=0):bu Tryz.prog G 179 [.ptr 0 0,aq b,.int cv] (mM l s fr sz) (.int 0) (slW (bF l (fr+di l fr sz*sz) (List.replicate sz 0)) (IntKind.i64.wrap (s+1)) fr sz (fr+di l fr sz*sz) (gi b cv)):=by
 have hk:di l fr sz*sz+sz≤2*sz:=by
  have:di l fr sz≤1:=by unfold di; split <;> omega
  have:=Nat.mul_le_mul_right sz this
  omega
 have hL:=uV (G:=G) l s fr sz hb h hl
 have hn:=Ak (G:=G) l s fr sz hb h hl
 have hm:=oS (G:=G) cv
 have hr:=uP l fr sz 2
 simp only [mM,aq] at hL hn hm
 unfold fm at hE
 split at hE
 ·exact absurd hE (by decide)
 rename_i g1
 split at hE
 ·exact absurd hE (by decide)
 rename_i g2
 split at hE
 ·exact absurd hE (by decide)
 rename_i g3
 have e1:(((bw cv).length:Int)==0)=false:=beq_eq_false_iff_ne.2 (by omega)
 have hx:IntKind.i64.wrap (1-(mc l fr sz 2).1)=1-(mc l fr sz 2).1:=aO (by omega) (by omega)
 have hp:=Cl (G:=G) l s fr sz (di l fr sz) (by omega)
 have hkv:(if 1-(mc l fr sz 2).1>0 then 1-(mc l fr sz 2).1 else 0).tmod 2=((di l fr sz:Nat):Int):=by
  unfold di
  have:(mc l fr sz 2).1 = -1∨(mc l fr sz 2).1=0∨(mc l fr sz 2).1=1:=by omega
  rcases this with e | e | e <;> rw [e] <;> decide
 have c5:sz*1≤70368744177664∧((sz:Nat):Int)≤9223372036854775807:=by omega
 have hfl:(gi b cv).length≤sz:=by omega
 generalize hN:di l fr sz=K at *
 generalize hA:fr+K*sz=A at *
 have hw1:=iL (G:=G) l s A (List.replicate sz 0) (by rw [List.length_replicate]; omega) hl.2
 have hs1:=jA (G:=G) l s A (List.replicate sz 0) (by rw [List.length_replicate]; omega) hl
 have hol:(bF l A (List.replicate sz 0)).length=l.length:=dB (by rw [List.length_replicate]; omega)
 have hw2:=iL (G:=G) (bF l A (List.replicate sz 0)) (IntKind.i64.wrap (s+1)) A (gi b cv) (by rw [hol]; omega) (by rw [hol]; exact hl.2)
 simp only [mM,cU,i_,uf,aq,Bi,List.length_replicate,List.cons_append,List.nil_append] at hp hw1 hs1 hw2
 refine cI Tryz.func179 (by decide) Ky rfl ?_
 simp only [mM,aq,PY,go_sem]
 refine av (hm) rfl rfl rfl rfl ?_; simp only [go_sem]
 simp only [aD,e1,go_sem]
 refine au [0,1,2] (hL) rfl ?_ (by decide) ?_ ?_ (by simp) ?_ <;> simp only [ag,ah,go_sem]
 have BL:=tU (G:=G) [bw cv,b] (by simp) (by simp; have:=iQ cv; omega)
 have hpf:=pz (G:=G) (bw cv++b) (by rw [List.length_append]; have:=iQ cv; omega)
 rw [show cH (bw cv++b)=gi b cv from rfl] at hpf
 simp only [List.flatten_cons,List.flatten_nil,List.append_nil,bW,List.map_cons,List.map_nil,aq] at BL hpf
 have e2:(((gi b cv).length:Int)==0)=false:=beq_eq_false_iff_ne.2 (by omega)
 have e3:decide (((gi b cv).length:Int)>(sz:Int))=false:=decide_eq_false (by omega)
 cases hq:fJ l fr sz with
 | none=>
   simp only [oP,aq,go_sem]
   refine av (hm) rfl rfl rfl rfl ?_; simp only [go_sem]
   refine sr [3] (BL) rfl (by simp [ag,ah,bK,aC,bW,go_sem]) (by simp [aC]) rfl ?_; simp only [go_sem]
   refine av (hpf) rfl rfl rfl rfl ?_; simp only [go_sem]
   simp only [aD,e2,e3,go_sem]
   refine au [0,1,2] (hn) rfl ?_ (by decide) ?_ ?_ (by simp) ?_ <;> simp only [ag,ah,go_sem]
   simp only [hx,hkv,go_sem]
   refine au [0,1,2] (hp) rfl ?_ (by decide) ?_ ?_ (by simp) ?_ <;> simp only [ag,ah,go_sem]
   simp only [c5,go_sem]
   refine Bw [1,2] [4] (hw1) rfl (by simp [ag,ah,bK,aC,u8,aD,go_sem]) (by decide) (by decide) (by simp [aC]) (by simp only [go_sem,u8,aD]) (by simp only [go_sem,u8,aD]) (by simp) ?_; simp only [go_sem,u8,aD]
   refine ay rfl ?_
   simp only [go_sem]
   refine au [1,2,5] (hs1) rfl ?_ (by decide) ?_ ?_ (by simp) ?_ <;> simp only [ag,ah,go_sem,u8]
   refine au [1,2] (hw2) rfl ?_ (by decide) ?_ ?_ (by simp) ?_ <;> simp only [ag,ah,go_sem]
   refine dA [] [0,1,2,6] [] (vs:=[.int 0]) rfl rfl (by decide) (by simp) (by simp) rfl rfl ?_
   simp [aV,ah,LV.int]
 | some q=>
   rw [hq] at g2
   have g4:¬ cv≤q.2:=fun e=>g2 (decide_eq_true e)
   simp only [oP,aq,decide_eq_false g4,go_sem]
   refine av (hm) rfl rfl rfl rfl ?_; simp only [go_sem]
   refine sr [3] (BL) rfl (by simp [ag,ah,bK,aC,bW,go_sem]) (by simp [aC]) rfl ?_; simp only [go_sem]
   refine av (hpf) rfl rfl rfl rfl ?_; simp only [go_sem]
   simp only [aD,e2,e3,go_sem]
   refine au [0,1,2] (hn) rfl ?_ (by decide) ?_ ?_ (by simp) ?_ <;> simp only [ag,ah,go_sem]
   simp only [hx,hkv,go_sem]
   refine au [0,1,2] (hp) rfl ?_ (by decide) ?_ ?_ (by simp) ?_ <;> simp only [ag,ah,go_sem]
   simp only [c5,go_sem]
   refine Bw [1,2] [4] (hw1) rfl (by simp [ag,ah,bK,aC,u8,aD,go_sem]) (by decide) (by decide) (by simp [aC]) (by simp only [go_sem,u8,aD]) (by simp only [go_sem,u8,aD]) (by simp) ?_; simp only [go_sem,u8,aD]
   refine ay rfl ?_
   simp only [go_sem]
   refine au [1,2,5] (hs1) rfl ?_ (by decide) ?_ ?_ (by simp) ?_ <;> simp only [ag,ah,go_sem,u8]
   refine au [1,2] (hw2) rfl ?_ (by decide) ?_ ?_ (by simp) ?_ <;> simp only [ag,ah,go_sem]
   refine dA [] [0,1,2,6] [] (vs:=[.int 0]) rfl rfl (by decide) (by simp) (by simp) rfl rfl ?_
   simp [aV,ah,LV.int]
theorem Dz (l:List Int) (s:Int) (fr sz:Nat) (b:List Int) (cv:Int) (hb:∀ c∈l,0≤c∧c≤255) (h:fr+2*sz≤l.length) (hz:1≤sz) (hl:1≤l.length∧l.length≤65536) (yY:b.length≤90000) (hE:fm l fr sz b cv≠0):bu Tryz.prog G 179 [.ptr 0 0,aq b,.int cv] (mM l s fr sz) (.int (fm l fr sz b cv)) (mM l s fr sz):=by
 have hL:=uV (G:=G) l s fr sz hb h hl
 have hm:=oS (G:=G) cv
 simp only [mM,aq] at hL hm
 have BL:=tU (G:=G) [bw cv,b] (by simp) (by simp; have:=iQ cv; omega)
 have hpf:=pz (G:=G) (bw cv++b) (by rw [List.length_append]; have:=iQ cv; omega)
 rw [show cH (bw cv++b)=gi b cv from rfl] at hpf
 simp only [List.flatten_cons,List.flatten_nil,List.append_nil,bW,List.map_cons,List.map_nil,aq] at BL hpf
 refine cI Tryz.func179 (by decide) Ky rfl ?_
 simp only [mM,aq,PY,go_sem]
 refine av (hm) rfl rfl rfl rfl ?_; simp only [go_sem]
 simp only [aD,go_sem]
 by_cases g1:(bw cv).length=0
 ·have hs:fm l fr sz b cv=1:=if_pos g1
  simp only [show (((bw cv).length:Int)==0)=true by rw [beq_iff_eq]; omega,hs,go_sem]
  refine dA [] [0,1,2] [] (vs:=[.int 1]) rfl rfl (by decide) (by simp) (by simp) rfl rfl ?_
  simp [aV,ah,LV.int]
 have hs1:fm l fr sz b cv=if O0 cv (fJ l fr sz)=true then 6 else if (gi b cv).length=0∨(gi b cv).length>sz then 3 else 0:=if_neg g1
 simp only [show (((bw cv).length:Int)==0)=false from beq_eq_false_iff_ne.2 (by omega),go_sem]
 refine au [0,1,2] (hL) rfl ?_ (by decide) ?_ ?_ (by simp) ?_ <;> simp only [ag,ah,go_sem]
 have u7:O0 cv (fJ l fr sz)=false→fm l fr sz b cv=3∧((gi b cv).length=0∨(gi b cv).length>sz):=by
  intro e
  rw [e,if_neg Bool.false_ne_true] at hs1
  by_cases g:(gi b cv).length=0∨(gi b cv).length>sz
  ·rw [if_pos g] at hs1; exact ⟨hs1,g⟩
  ·rw [if_neg g] at hs1; exact absurd hs1 hE
 cases hq:fJ l fr sz with
 | none=>
   rw [hq] at u7
   obtain ⟨YV,g3⟩:=u7 rfl
   simp only [oP,aq,YV,go_sem]
   refine av (hm) rfl rfl rfl rfl ?_; simp only [go_sem]
   refine sr [3] (BL) rfl (by simp [ag,ah,bK,aC,bW,go_sem]) (by simp [aC]) rfl ?_; simp only [go_sem]
   refine av (hpf) rfl rfl rfl rfl ?_; simp only [go_sem]
   simp only [aD,go_sem]
   by_cases g5:(gi b cv).length=0
   ·simp only [show (((gi b cv).length:Int)==0)=true by rw [beq_iff_eq]; omega,go_sem]
    refine dA [] [0,1,2] [] (vs:=[.int 3]) rfl rfl (by decide) (by simp) (by simp) rfl rfl ?_
    simp [aV,ah,LV.int]
   ·simp only [show (((gi b cv).length:Int)==0)=false from beq_eq_false_iff_ne.2 (by omega),aD,decide_eq_true (show ((gi b cv).length:Int)>(sz:Int) by omega),go_sem]
    refine dA [] [0,1,2] [] (vs:=[.int 3]) rfl rfl (by decide) (by simp) (by simp) rfl rfl ?_
    simp [aV,ah,LV.int]
 | some q=>
   simp only [oP,aq,go_sem]
   by_cases g4:cv≤q.2
   ·have ho:O0 cv (some q)=true:=decide_eq_true g4
    rw [hq,ho,if_pos rfl] at hs1
    simp only [decide_eq_true g4,hs1,go_sem]
    refine dA [] [0,1,2] [] (vs:=[.int 6]) rfl rfl (by decide) (by simp) (by simp) rfl rfl ?_
    simp [aV,ah,LV.int]
   rw [hq] at u7
   obtain ⟨YV,g3⟩:=u7 (decide_eq_false g4)
   simp only [decide_eq_false g4,YV,go_sem]
   refine av (hm) rfl rfl rfl rfl ?_; simp only [go_sem]
   refine sr [3] (BL) rfl (by simp [ag,ah,bK,aC,bW,go_sem]) (by simp [aC]) rfl ?_; simp only [go_sem]
   refine av (hpf) rfl rfl rfl rfl ?_; simp only [go_sem]
   simp only [aD,go_sem]
   by_cases g5:(gi b cv).length=0
   ·simp only [show (((gi b cv).length:Int)==0)=true by rw [beq_iff_eq]; omega,go_sem]
    refine dA [] [0,1,2] [] (vs:=[.int 3]) rfl rfl (by decide) (by simp) (by simp) rfl rfl ?_
    simp [aV,ah,LV.int]
   ·simp only [show (((gi b cv).length:Int)==0)=false from beq_eq_false_iff_ne.2 (by omega),aD,decide_eq_true (show ((gi b cv).length:Int)>(sz:Int) by omega),go_sem]
    refine dA [] [0,1,2] [] (vs:=[.int 3]) rfl rfl (by decide) (by simp) (by simp) rfl rfl ?_
    simp [aV,ah,LV.int]
def iY (l:List Int) (fr sz:Nat) (b:List Int) (cv:Int):List Int:=bF (bF l (fr+di l fr sz*sz) (List.replicate sz 0)) (fr+di l fr sz*sz) (gi b cv)
theorem Oq (l:List Int) (s:Int) (fr sz:Nat) (b:List Int) (cv:Int) (hb:∀ c∈l,0≤c∧c≤255) (h:fr+2*sz≤l.length) (hz:1≤sz) (hl:1≤l.length∧l.length≤65536) (yY:b.length≤90000) (hE:fm l fr sz b cv=0):bu Tryz.prog G 92 [.ptr 0 0,aq b,.int cv] (mM l s fr sz) (.int 0) (mM (iY l fr sz b cv) (IntKind.i64.wrap (IntKind.i64.wrap (s+1)+1)) fr sz):=by
 have hst:=Fe (G:=G) l s fr sz b cv hb h hz hl yY hE
 have hk:di l fr sz*sz+sz≤2*sz:=by
  have:di l fr sz≤1:=by unfold di; split <;> omega
  have:=Nat.mul_le_mul_right sz this
  omega
 have hfl:(gi b cv).length≤sz:=by
  unfold fm at hE
  split at hE
  ·exact absurd hE (by decide)
  split at hE
  ·exact absurd hE (by decide)
  split at hE
  ·exact absurd hE (by decide)
  omega
 have Gl:fr+di l fr sz*sz+sz≤l.length:=by omega
 have hS:iY l fr sz b cv=bF (bF l (fr+di l fr sz*sz) (List.replicate sz 0)) (fr+di l fr sz*sz) (gi b cv):=rfl
 generalize fr+di l fr sz*sz=A at *
 have hol:(bF l A (List.replicate sz 0)).length=l.length:=dB (by rw [List.length_replicate]; omega)
 have hs:=jA (G:=G) (bF l A (List.replicate sz 0)) (IntKind.i64.wrap (s+1)) A (gi b cv) (by rw [hol]; omega) (by rw [hol]; exact hl)
 rw [← hS] at hs
 simp only [mM,slW,cU,i_,uf,aq,List.cons_append,List.nil_append] at hst hs
 refine cI Tryz.func92 (by decide) PL rfl ?_
 simp only [mM,aq,Z_,go_sem]
 refine au [0,1,2] (hst) rfl ?_ (by decide) ?_ ?_ (by simp) ?_ <;> simp only [ag,ah,go_sem]
 refine au [1,2,3] (hs) rfl ?_ (by decide) ?_ ?_ (by simp) ?_ <;> simp only [ag,ah,go_sem]
 refine dA [] [0,1,2] [] (vs:=[.int 0]) rfl rfl (by decide) (by simp) (by simp) rfl rfl ?_
 simp [aV,ah,LV.int]
theorem Fj (l:List Int) (s:Int) (fr sz:Nat) (b:List Int) (cv:Int) (hb:∀ c∈l,0≤c∧c≤255) (h:fr+2*sz≤l.length) (hz:1≤sz) (hl:1≤l.length∧l.length≤65536) (yY:b.length≤90000) (hE:fm l fr sz b cv≠0):bu Tryz.prog G 92 [.ptr 0 0,aq b,.int cv] (mM l s fr sz) (.int (fm l fr sz b cv)) (mM l s fr sz):=by
 have hst:=Dz (G:=G) l s fr sz b cv hb h hz hl yY hE
 generalize fm l fr sz b cv=e at *
 simp only [mM,aq] at hst
 refine aT Tryz.func92 (by decide) PL rfl rfl rfl rfl ?_
 simp only [Z_,go_sem]
 simp only [mM,aq,go_sem]
 refine au [0,1,2] (hst) rfl ?_ (by decide) ?_ ?_ (by simp) ?_ <;> simp only [ag,ah,go_sem]
 simp only [show (e !=0)=true from bne_iff_ne.2 hE,go_sem]
def dkS (l:List Int) (s:Int) (fr sz:Nat):List aG:=[.box 150 [.sl 1 l.length 1 0 l.length,.d (.val (.slice none 0 0)),.int s],.dat 5 1 (aB l),.box 243 [.ptr 0 0,.int fr,.int sz]]
theorem sH (l:List Int) (s:Int) (fr sz:Nat) (h:fr+2*sz≤l.length) (hz:1≤sz) (hl:1≤l.length∧l.length≤65536):bu Tryz.prog G 80 [.ptr 0 0,.int fr,.int sz] (cU l s) (.dM [.ptr 2 0,.int 0]) (dkS l s fr sz):=by
 have hs:=ia (G:=G) l s
 simp only [cU] at hs
 have w1:IntKind.i64.wrap (2*(sz:Int))=((2*sz:Nat):Int):=by rw [aO (by omega) (by omega)]; omega
 have w2:IntKind.i64.wrap ((l.length:Int)-((2*sz:Nat):Int))=((l.length-2*sz:Nat):Int):=by rw [aO (by omega) (by omega)]; omega
 have q1:IntKind.i64.wrap (((l.length:Nat):Int).tdiv 2)=((l.length / 2:Nat):Int):=by rw [Int.tdiv_eq_ediv_of_nonneg (by omega),aO (by omega) (by omega)]; omega
 refine cI Tryz.func80 (by decide) ZS rfl ?_
 simp only [cU,abu,go_sem]
 simp only [decide_eq_false (show ¬ ((fr:Nat):Int)<0 by omega),decide_eq_false (show ¬ ((sz:Nat):Int)<1 by omega),go_sem]
 refine au [0,1] (hs) rfl ?_ (by decide) ?_ ?_ (by simp) ?_ <;> simp only [ag,ah,go_sem]
 simp only [q1,decide_eq_false (show ¬ ((sz:Nat):Int)>((l.length / 2:Nat):Int) by omega),go_sem]
 refine au [0,1] (hs) rfl ?_ (by decide) ?_ ?_ (by simp) ?_ <;> simp only [ag,ah,go_sem]
 simp only [w1,w2,decide_eq_false (show ¬ ((fr:Nat):Int)>((l.length-2*sz:Nat):Int) by omega),go_sem]
 refine dA [] [0,1,2] [] (vs:=[.ptr 2 0,.int 0]) rfl rfl (by decide) (by simp) (by simp) rfl rfl ?_
 simp [aV,ah,ag,LV.int]
end Dv
namespace Dv
open Go Go.Proofs
variable {G:Nat→Option (List DV)}
def abt:=qx Tryz.f81
theorem ZR:aj Tryz.prog Tryz.f81=some abt:=by kernel_rfl
def qA (l:List Int) (fr sz:Nat):List Int:=(l.drop fr).take sz
theorem uv {l:List Int} {fr sz:Nat} (h:fr+sz≤l.length):(qA l fr sz).length=sz:=by
 unfold qA
 rw [List.length_take,List.length_drop]
 omega
theorem Fi {l:List Int} {fr sz:Nat} (hb:∀ c∈l,0≤c∧c≤255):∀ c∈qA l fr sz,0≤c∧c≤255:=fun c hc=>hb c (List.mem_of_mem_drop (List.mem_of_mem_take hc))
def iI (l:List Int) (fr sz:Nat):List (List Int)×Nat:=vI (qA l fr sz) (sz+1) [] 0
def dkL (l:List Int) (s:Int) (fr sz us:Nat):List aG:=[.box 150 [.sl 1 l.length 1 0 l.length,.d (.val (.slice none 0 0)),.int s],.dat 5 1 (aB l),.box 245 [.ptr 0 0,.int fr,.int sz,.int us]]
theorem xP (l:List Int) (s:Int) (fr sz:Nat) (hb:∀ c∈l,0≤c∧c≤255) (hf:fr+sz≤l.length) (hz:1≤sz) (hl:1≤l.length∧l.length≤65536) (he:(iI l fr sz).2≤sz):bu Tryz.prog G 81 [.ptr 0 0,.int fr,.int sz] (cU l s) (.dM [.ptr 2 0,.d (.dO 1 (bW (iI l fr sz).1)),.int 0]) (dkL (bF l (fr+(iI l fr sz).2) (List.replicate (sz-(iI l fr sz).2) 0)) (IntKind.i64.wrap (s+1)) fr sz (iI l fr sz).2):=by
 have hs:=ia (G:=G) l s
 have hy:=j8 (G:=G) l s hl
 have yW:=uv hf
 have ha:=Ex (G:=G) (qA l fr sz) (Fi hb) (by omega) 0 (Nat.zero_le _) (iI l fr sz) (by rw [yW]; rfl)
 have hn:=DX (G:=G) l s fr sz (iI l fr sz).2 (iI l fr sz).2 hf he hl
 generalize iI l fr sz=R at *
 simp only [cU,Ap,aq] at hs hy ha hn
 have w1:IntKind.i64.wrap ((l.length:Int)-(sz:Int))=((l.length-sz:Nat):Int):=by rw [aO (by omega) (by omega)]; omega
 have w2:IntKind.i64.wrap ((fr:Int)+(sz:Int))=((fr+sz:Nat):Int):=by rw [aO (by omega) (by omega)]; omega
 have c1:fr≤fr+sz∧fr+sz≤l.length∧l.length≤l.length:=by omega
 have c2:(0:Int)≤((fr+sz:Nat):Int):=by omega
 have e1:fr+sz-fr=sz:=by omega
 refine cI Tryz.func81 (by decide) ZR rfl ?_
 simp only [cU,abt,go_sem]
 simp only [decide_eq_false (show ¬ ((fr:Nat):Int)<0 by omega),decide_eq_false (show ¬ ((sz:Nat):Int)<1 by omega),go_sem]
 refine au [0,1] (hs) rfl ?_ (by decide) ?_ ?_ (by simp) ?_ <;> simp only [ag,ah,go_sem]
 simp only [decide_eq_false (show ¬ ((sz:Nat):Int)>((l.length:Nat):Int) by omega),go_sem]
 refine au [0,1] (hs) rfl ?_ (by decide) ?_ ?_ (by simp) ?_ <;> simp only [ag,ah,go_sem]
 simp only [w1,decide_eq_false (show ¬ ((fr:Nat):Int)>((l.length-sz:Nat):Int) by omega),go_sem]
 refine au [0,1] (hy) rfl ?_ (by decide) ?_ ?_ (by simp) ?_ <;> simp only [ag,ah,go_sem]
 simp only [w2,c1,c2,e1,aD,gp,iU,go_sem]
 refine av (ha) rfl rfl rfl rfl ?_; simp only [go_sem]
 refine au [2,0,1] (hn) rfl ?_ (by decide) ?_ ?_ (by simp) ?_ <;> simp only [ag,ah,go_sem]
 have hol:(bF l (fr+R.2) (List.replicate (sz-R.2) 0)).length=l.length:=dB (by rw [List.length_replicate]; omega)
 refine dA [] [0,1,2] [] (vs:=[.ptr 2 0,.d (.dO 1 (bW R.1)),.int 0]) rfl rfl (by decide) (by simp) (by simp) rfl rfl ?_
 simp [aV,ah,ag,LV.int]
end Dv
namespace Dv
open Go Go.Proofs
variable {G:Nat→Option (List DV)}
def xQ (n:Nat) (l:List Int) (s cnt cv:Int) (us:Nat):List aG:=[.box 160 [.ptr 1 0,.ptr 2 0,.ptr 3 0,.int cnt,.int cv],.box 150 [.sl 4 n 1 0 n,.d (.val (.slice none 0 0)),.int s],.box 243 [.ptr 1 0,.int 0,.int ((n / 4:Nat):Int)],.box 245 [.ptr 1 0,.int ((2*(n / 4):Nat):Int),.int ((n-2*(n / 4):Nat):Int),.int us],.dat 5 1 (aB l)]
def X5:=qx Tryz.f185
theorem Ul:aj Tryz.prog Tryz.f185=some X5:=by kernel_rfl
def X7:=qx Tryz.f183
theorem Un:aj Tryz.prog Tryz.f183=some X7:=by kernel_rfl
def abo:=qx Tryz.f95
theorem ZN:aj Tryz.prog Tryz.f95=some abo:=by kernel_rfl
def abF:=qx Tryz.f33
theorem Z3:aj Tryz.prog Tryz.f33=some abF:=by kernel_rfl
def U_:=qx Tryz.f31
theorem IB:aj Tryz.prog Tryz.f31=some U_:=by kernel_rfl
theorem HU (n:Nat) (l:List Int) (s cnt cv:Int) (us:Nat) (p:List Int) (hp:p.length≤90000):bu Tryz.prog G 185 [.ptr 0 0,aq p] (xQ n l s cnt cv us) (aq (bw cnt++p)) (xQ n l s cnt cv us):=by
 have hm:=oS (G:=G) cnt
 have BL:=tU (G:=G) [bw cnt,p] (by simp) (by simp; have:=iQ cnt; omega)
 simp only [List.flatten_cons,List.flatten_nil,List.append_nil,bW,List.map_cons,List.map_nil,aq] at BL hm
 refine cI Tryz.func185 (by decide) Ul rfl ?_
 simp only [xQ,aq,X5,go_sem]
 refine av (hm) rfl rfl rfl rfl ?_; simp only [go_sem]
 refine sr [5] (BL) rfl (by simp [ag,ah,bK,aC,bW,go_sem]) (by simp [aC]) rfl ?_; simp only [go_sem]
 refine dA [] [0,1,2,3,4] [] (vs:=[.d (.dO 1 (aB (bw cnt++p)))]) rfl rfl (by decide) (by simp) (by simp) rfl rfl ?_
 simp [aV,ah]
def mS (n us:Nat) (cnt:Int) (k:Nat):Bool:=decide (1≤k∧k≤3900)&&qI (n-2*(n / 4)) us (k+(bw cnt).length)
theorem Cj (n:Nat) (l:List Int) (s cnt cv:Int) (us k:Nat) (hl:l.length=n) (hn:n≤65536) (hu:us≤n-2*(n / 4)) (hk:k≤900000):bu Tryz.prog G 183 [.ptr 0 0,.int k] (xQ n l s cnt cv us) (.bool (mS n us cnt k)) (xQ n l s cnt cv us):=by
 have hm:=oS (G:=G) cnt
 have h9:=iQ cnt
 have hr:=xO (G:=G) l s (2*(n / 4)) (n-2*(n / 4)) us (k+(bw cnt).length) hu (by omega) (by omega)
 have w1:IntKind.i64.wrap ((k:Int)+((bw cnt).length:Int))=((k+(bw cnt).length:Nat):Int):=by rw [aO (by omega) (by omega)]; omega
 simp only [aq,Ap,hl] at hm hr
 refine aT Tryz.func183 (by decide) Un rfl rfl rfl rfl ?_
 simp only [X7,go_sem]
 simp only [xQ,go_sem]
 by_cases h1:1≤k
 case neg=>
  simp only [decide_eq_false (show ¬ ((k:Nat):Int)≥1 by omega),mS,decide_eq_false (show ¬ (1≤k∧k≤3900) by omega),go_sem]
 by_cases h2:k≤3900
 case neg=>
  simp only [decide_eq_true (show ((k:Nat):Int)≥1 by omega),decide_eq_false (show ¬ ((k:Nat):Int)≤3900 by omega),mS,decide_eq_false (show ¬ (1≤k∧k≤3900) by omega),go_sem]
 simp only [decide_eq_true (show ((k:Nat):Int)≥1 by omega),decide_eq_true (show ((k:Nat):Int)≤3900 by omega),mS,decide_eq_true (show (1≤k∧k≤3900) by omega),go_sem]
 refine bf (hm) rfl rfl rfl rfl ?_; simp only [go_sem]
 simp only [aD,w1,go_sem]
 refine eM [3,1,4] (hr) rfl ?_ (by decide) ?_ ?_ (by simp) ?_ <;> simp only [ag,ah,go_sem]
 refine ay rfl ?_
 simp only [go_sem]
def jnW (n:Nat) (l:List Int) (s cnt cv:Int) (us a:Nat) (b:List Int):List aG:=[.box 160 [.ptr 1 0,.ptr 2 0,.ptr 3 0,.int cnt,.int cv],.box 150 [.sl 4 n 1 0 n,.sl 5 1 2 0 1,.int s],.box 243 [.ptr 1 0,.int 0,.int ((n / 4:Nat):Int)],.box 245 [.ptr 1 0,.int ((2*(n / 4):Nat):Int),.int ((n-2*(n / 4):Nat):Int),.int us],.dat 5 1 (aB l),.dat 227 2 (uf a b)]
def eY (cnt:Int) (p:List Int):List Int:=cH (bw cnt++p)
theorem Au (n:Nat) (l:List Int) (s cnt cv:Int) (us:Nat) (p:List Int) (hl:l.length=n) (hn:1≤n∧n≤65536) (hu:us≤n-2*(n / 4)) (hr:mS n us cnt p.length=true):bu Tryz.prog G 95 [.ptr 0 0,aq p] (xQ n l s cnt cv us) (.int 0) (jnW n l s (IntKind.i64.wrap (cnt+1)) cv (us+(eY cnt p).length) (2*(n / 4)+us) (eY cnt p)):=by
 have yX:=hr
 unfold mS at yX
 rw [Bool.and_eq_true,decide_eq_true_eq] at yX
 obtain ⟨⟨k1,k2⟩,k3⟩:=yX
 have hrl:(bw cnt++p).length=p.length+(bw cnt).length:=by rw [List.length_append,Nat.add_comm]
 have hq:=Cj (G:=G) n l s cnt cv us p.length hl hn.2 hu (by omega)
 have qZ:=HU (G:=G) n l s cnt cv us p (by omega)
 have hput:=Io (G:=G) l s (2*(n / 4)) (n-2*(n / 4)) us (bw cnt++p) (by omega) hu (by omega) (by rw [hrl]; exact k3)
 rw [hr] at hq
 rw [show cH (bw cnt++p)=eY cnt p from rfl] at hput
 simp only [xQ,Ap,lgW,uf,aq,hl] at hq qZ hput
 refine cI Tryz.func95 (by decide) ZN rfl ?_
 simp only [xQ,aq,abo,go_sem]
 simp only [aD,show (((p.length:Nat):Int)==0)=false from beq_eq_false_iff_ne.2 (by omega),go_sem]
 simp only [aD,decide_eq_false (show ¬ ((p.length:Nat):Int)>3900 by omega),go_sem]
 refine au [0,1,2,3,4] (hq) rfl ?_ (by decide) ?_ ?_ (by simp) ?_ <;> simp only [ag,ah,go_sem]
 refine eA [0,1,2,3,4] (qZ) rfl ?_ (by decide) ?_ ?_ ?_ <;> simp only [ag,ah,go_sem]
 refine eM [3,1,4] (hput) rfl ?_ (by decide) ?_ ?_ (by simp) ?_ <;> simp only [ag,ah,go_sem]
 refine ay rfl ?_
 simp only [go_sem]
 refine dA [] [0,1,2,3,4,5] [] (vs:=[.int 0]) rfl rfl (by decide) (by simp) (by simp) rfl rfl ?_
 simp [aV,ah,LV.int]
theorem F5 (n:Nat) (l:List Int) (s cnt cv:Int) (us:Nat) (p:List Int) (hl:l.length=n) (hn:1≤n∧n≤65536) (hu:us≤n-2*(n / 4)) (hr:mS n us cnt p.length=true):bu Tryz.prog G 33 [.ptr 0 0,aq p] (xQ n l s cnt cv us) (.int 0) (xQ n (bF l (2*(n / 4)+us) (eY cnt p)) (IntKind.i64.wrap (s+1)) (IntKind.i64.wrap (cnt+1)) cv (us+(eY cnt p).length)):=by
 have hst:=Au (G:=G) n l s cnt cv us p hl hn hu hr
 have hfit:2*(n / 4)+us+(eY cnt p).length≤n:=by
  have yX:=hr
  unfold mS qI at yX
  rw [Bool.and_eq_true,decide_eq_true_eq,decide_eq_true_eq] at yX
  have hrl:(bw cnt++p).length=p.length+(bw cnt).length:=by rw [List.length_append,Nat.add_comm]
  unfold eY
  rw [lV (by omega),hrl]
  omega
 have hsy:=jA (G:=G) l s (2*(n / 4)+us) (eY cnt p) (by omega) (by omega)
 have hov:(bF l (2*(n / 4)+us) (eY cnt p)).length=n:=by rw [dB (by omega),hl]
 simp only [xQ,jnW,cU,i_,uf,aq,hov,hl,List.cons_append,List.nil_append] at hst hsy
 refine cI Tryz.func33 (by decide) Z3 rfl ?_
 simp only [xQ,aq,abF,go_sem]
 refine au [0,1,2,3,4] (hst) rfl ?_ (by decide) ?_ ?_ (by simp) ?_ <;> simp only [ag,ah,go_sem]
 refine au [1,4,5] (hsy) rfl ?_ (by decide) ?_ ?_ (by simp) ?_ <;> simp only [ag,ah,go_sem]
 refine dA [] [0,1,2,3,4] [] (vs:=[.int 0]) rfl rfl (by decide) (by simp) (by simp) rfl rfl ?_
 simp [aV,ah,LV.int]
theorem Ce {l:List Int} {sz:Nat} {b:List Int} {cv:Int} (h:2*sz≤l.length) (hE:fm l 0 sz b cv=0):(iY l 0 sz b cv).length=l.length:=by
 have hk:di l 0 sz*sz+sz≤2*sz:=by
  have:di l 0 sz≤1:=by unfold di; split <;> omega
  have:=Nat.mul_le_mul_right sz this
  omega
 have hfl:(gi b cv).length≤sz:=by
  unfold fm at hE
  split at hE
  ·exact absurd hE (by decide)
  split at hE
  ·exact absurd hE (by decide)
  split at hE
  ·exact absurd hE (by decide)
  omega
 unfold iY
 have h1:(bF l (0+di l 0 sz*sz) (List.replicate sz 0)).length=l.length:=dB (by rw [List.length_replicate]; omega)
 rw [dB (by rw [h1]; omega),h1]
def ya (n:Nat) (l:List Int) (eZ:List Int) (cnt:Int):List Int:=bF (iY l 0 (n / 4) eZ cnt) (2*(n / 4)) (List.replicate (n-2*(n / 4)) 0)
theorem GJ (n:Nat) (l:List Int) (s cnt cv:Int) (us:Nat) (eZ:List Int) (hl:l.length=n) (hn:64≤n∧n≤65536) (hb:∀ c∈l,0≤c∧c≤255) (mg:eZ.length≤90000) (ha:cv≠cnt) (hE:fm l 0 (n / 4) eZ cnt=0):bu Tryz.prog G 31 [.ptr 0 0,aq eZ] (xQ n l s cnt cv us) (.int 0) (xQ n (ya n l eZ cnt) (IntKind.i64.wrap (IntKind.i64.wrap (IntKind.i64.wrap (s+1)+1)+1)) cnt cnt 0):=by
 have hsv:=Oq (G:=G) l s 0 (n / 4) eZ cnt hb (by omega) (by omega) (by omega) mg hE
 have yW:=Ce (l:=l) (sz:=n / 4) (b:=eZ) (cv:=cnt) (by omega) hE
 have hcl:=uU (G:=G) (iY l 0 (n / 4) eZ cnt) (IntKind.i64.wrap (IntKind.i64.wrap (s+1)+1)) (2*(n / 4)) (n-2*(n / 4)) us (by omega) (by omega) (by omega)
 have hcb:(bF (iY l 0 (n / 4) eZ cnt) (2*(n / 4)) (List.replicate (n-2*(n / 4)) 0)).length=n:=by rw [dB (by rw [List.length_replicate]; omega),yW,hl]
 simp only [mM,Ap,aq,yW,hl,hcb] at hsv hcl
 refine cI Tryz.func31 (by decide) IB rfl ?_
 simp only [xQ,ya,aq,U_,go_sem]
 simp only [show (cv==cnt)=false from beq_eq_false_iff_ne.2 ha,go_sem]
 refine eM [2,1,4] (hsv) rfl ?_ (by decide) ?_ ?_ (by simp) ?_ <;> simp only [ag,ah,go_sem]
 refine ay rfl ?_
 simp only [go_sem]
 refine au [3,1,4] (hcl) rfl ?_ (by decide) ?_ ?_ (by simp) ?_ <;> simp only [ag,ah,go_sem]
 refine dA [] [0,1,2,3,4] [] (vs:=[.int 0]) rfl rfl (by decide) (by simp) (by simp) rfl rfl ?_
 simp [aV,ah,LV.int]
theorem yz (n:Nat) (l:List Int) (s cnt:Int) (us:Nat) (eZ:List Int):bu Tryz.prog G 31 [.ptr 0 0,aq eZ] (xQ n l s cnt cnt us) (.int 3) (xQ n l s cnt cnt us):=by
 refine aT Tryz.func31 (by decide) IB rfl rfl rfl rfl ?_
 simp only [U_,go_sem]
 simp only [xQ,aq,go_sem]
theorem Ba (n:Nat) (l:List Int) (s cnt cv:Int) (us:Nat) (eZ:List Int) (hl:l.length=n) (hn:64≤n∧n≤65536) (hb:∀ c∈l,0≤c∧c≤255) (mg:eZ.length≤90000) (he:cv≠cnt) (hE:fm l 0 (n / 4) eZ cnt≠0):bu Tryz.prog G 31 [.ptr 0 0,aq eZ] (xQ n l s cnt cv us) (.int 3) (xQ n l s cnt cv us):=by
 have hsv:=Fj (G:=G) l s 0 (n / 4) eZ cnt hb (by omega) (by omega) (by omega) mg hE
 generalize fm l 0 (n / 4) eZ cnt=e at *
 simp only [mM,aq,hl] at hsv
 refine aT Tryz.func31 (by decide) IB rfl rfl rfl rfl ?_
 simp only [U_,go_sem]
 simp only [xQ,aq,show (cv==cnt)=false from beq_eq_false_iff_ne.2 he,go_sem]
 refine eA [2,1,4] (hsv) rfl ?_ (by decide) ?_ ?_ ?_ <;> simp only [ag,ah,go_sem]
 simp only [show (e !=0)=true from bne_iff_ne.2 hE,go_sem]
end Dv
namespace Dv
open Go Go.Proofs
variable {G:Nat→Option (List DV)}
def aaf:=qx Tryz.f29
theorem PT:aj Tryz.prog Tryz.f29=some aaf:=by kernel_rfl
def abq:=qx Tryz.f83
theorem ZP:aj Tryz.prog Tryz.f83=some abq:=by kernel_rfl
def PZ:=qx Tryz.f171
theorem Kz:aj Tryz.prog Tryz.f171=some PZ:=by kernel_rfl
def aaa:=qx Tryz.f85
theorem PM:aj Tryz.prog Tryz.f85=some aaa:=by kernel_rfl
theorem CV (m:Nat):dw (List.replicate m 0) 0=([],0,0):=by
 unfold dw
 rw [if_neg (by omega),if_pos]
 cases m with
 | zero=>exact .inl rfl
 | succ m=>exact .inr rfl
theorem take_zero (n a b:Nat) (h:a+b≤n):((List.replicate n (0:Int)).drop a).take b=List.replicate b 0:=by
 rw [List.drop_replicate,List.take_replicate,Nat.min_eq_left (by omega)]
theorem LP (n fr sz:Nat) (h:fr+sz≤n):iI (List.replicate n 0) fr sz=([],0):=by
 unfold iI qA
 rw [take_zero n fr sz h]
 unfold vI
 rw [CV]
 rfl
theorem Cp (n fr sz k:Nat) (h:fr+k*sz+sz≤n):iJ (List.replicate n 0) fr sz k=none:=by
 unfold iJ eF
 rw [take_zero n (fr+k*sz) sz h,CV]
 rfl
theorem An (n fr sz:Nat) (h:fr+2*sz≤n):fJ (List.replicate n 0) fr sz=none:=by
 have h0:=Cp n fr sz 0 (by omega)
 have h1:=Cp n fr sz 1 (by omega)
 unfold fJ
 have:mc (List.replicate n 0) fr sz 2=(-1,-1):=by
  simp only [mc,h0,h1]
 rw [this]
 rfl
theorem H8 (n a m:Nat) (h:a+m≤n):bF (List.replicate n 0) a (List.replicate m 0)=List.replicate n 0:=by
 unfold bF
 rw [List.take_replicate,List.drop_replicate,List.length_replicate,List.replicate_append_replicate,List.replicate_append_replicate,Nat.min_eq_left (by omega)]
 congr 1
 omega
def VI (p q:Nat):LV:=.fn (.func 171) [] [.ptr p 0,.ptr q 0]
theorem sU (rs:List (List Int)) (fr:Int):bu Tryz.prog G 83 [.d (.dO 1 (bW rs)),.int fr] [] (VI 0 1) [.box 58 [.d (.dO 1 (bW rs))],.box 3 [.int fr]]:=by
 refine cI Tryz.func83 (by decide) ZP rfl ?_
 simp only [abq,go_sem]
 exact dA [] [0,1] [] rfl rfl (by simp) (fun _ h=>by cases h) (fun _ h=>by cases h) rfl rfl (by simp [VI,b_,St.obj,aC,aV,St.get,aY,ah,ag])
def jnP (n:Nat) (l:List Int) (s cnt cv:Int) (us:Nat):List aG:=[.box 150 [.sl 1 n 1 0 n,.d (.val (.slice none 0 0)),.int s],.dat 5 1 (aB l),.box 160 [.ptr 0 0,.ptr 3 0,.ptr 4 0,.int cnt,.int cv],.box 243 [.ptr 0 0,.int 0,.int ((n / 4:Nat):Int)],.box 245 [.ptr 0 0,.int ((2*(n / 4):Nat):Int),.int ((n-2*(n / 4):Nat):Int),.int us]]
theorem Jl:bu Tryz.prog G 85 [.d (.dO 1 []),.int 0] [] (.bool false) []:=by
 refine bz Tryz.func85 (by decide) PM rfl rfl ?_
 simp only [aaa,go_sem]
def bOp (n:Nat) (s:Int):List (Option aG):=[some (.box 150 [.sl 1 n 1 0 n,.d (.val (.slice none 0 0)),.int s]),some (.dat 5 1 (aB (List.replicate n 0))),some (.box 243 [.ptr 0 0,.int 0,.int ((n / 4:Nat):Int)]),some (.box 245 [.ptr 0 0,.int ((2*(n / 4):Nat):Int),.int ((n-2*(n / 4):Nat):Int),.int 0]),some (.box 160 [.ptr 0 0,.ptr 2 0,.ptr 3 0,.int 0,.int (-1)]),some (.box 56 [.ptr 4 0]),some (.box 58 [.d (.val (.slice none 0 0))]),some (.box 58 [.d (.dO 1 [])]),some (.box 3 [.int 0])]
theorem Iv (n:Nat) (s:Int) (hn:64≤n∧n≤65536):bu Tryz.prog G 29 [.ptr 0 0] (cU (List.replicate n 0) s) (.dM [.ptr 2 0,aq [],.d (.dO 1 []),.int 0]) (jnP n (List.replicate n 0) (IntKind.i64.wrap (s+1)) 0 (-1) 0):=by
 have hlen:(List.replicate n (0:Int)).length=n:=List.length_replicate
 have hsz:=ia (G:=G) (List.replicate n 0) s
 have KK:=sH (G:=G) (List.replicate n 0) s 0 (n / 4) (by rw [hlen]; omega) (by omega) (by rw [hlen]; omega)
 have hz:∀ c∈List.replicate n (0:Int),0≤c∧c≤255:=fun c hc=>by rw [List.eq_of_mem_replicate hc]; decide
 have hR:=LP n (2*(n / 4)) (n-2*(n / 4)) (by omega)
 have hlo:=xP (G:=G) (List.replicate n 0) s (2*(n / 4)) (n-2*(n / 4)) hz (by rw [hlen]; omega) (by omega) (by rw [hlen]; omega) (by rw [hR]; dsimp only; omega)
 have RL:=uV (G:=G) (List.replicate n 0) (IntKind.i64.wrap (s+1)) 0 (n / 4) hz (by rw [hlen]; omega) (by rw [hlen]; omega)
 rw [An n 0 (n / 4) (by omega)] at RL
 rw [hR] at hlo
 simp only [Nat.add_zero,Nat.sub_zero,H8 n (2*(n / 4)) (n-2*(n / 4)) (by omega)] at hlo
 simp only [cU,dkS,dkL,mM,oP,aq,hlen,bW,List.map_nil] at hsz KK hlo RL
 have w1:IntKind.i64.wrap (((n:Nat):Int).tdiv 4)=((n / 4:Nat):Int):=by rw [Int.tdiv_eq_ediv_of_nonneg (by omega),aO (by omega) (by omega)]; omega
 have w2:IntKind.i64.wrap (2*((n / 4:Nat):Int))=((2*(n / 4):Nat):Int):=by rw [aO (by omega) (by omega)]; omega
 have w3:IntKind.i64.wrap (((n:Nat):Int)-((2*(n / 4):Nat):Int))=((n-2*(n / 4):Nat):Int):=by rw [aO (by omega) (by omega)]; omega
 refine cI Tryz.func29 (by decide) PT rfl ?_
 simp only [cU,hlen,aaf,go_sem]
 refine au [0,1] (hsz) rfl ?_ (by decide) ?_ ?_ (by simp) ?_ <;> simp only [ag,ah,go_sem]
 simp only [decide_eq_false (show ¬ ((n:Nat):Int)<64 by omega),go_sem]
 refine au [0,1] (hsz) rfl ?_ (by decide) ?_ ?_ (by simp) ?_ <;> simp only [ag,ah,go_sem]
 simp only [w1,go_sem]
 refine au [0,1] (KK) rfl ?_ (by decide) ?_ ?_ (by simp) ?_ <;> simp only [ag,ah,go_sem]
 simp only [w2,go_sem]
 refine au [0,1] (hsz) rfl ?_ (by decide) ?_ ?_ (by simp) ?_ <;> simp only [ag,ah,go_sem]
 simp only [w2,w3,go_sem]
 refine au [0,1] (hlo) rfl ?_ (by decide) ?_ ?_ (by simp) ?_ <;> simp only [ag,ah,go_sem]
 refine au [2,0,1] (RL) rfl ?_ (by decide) ?_ ?_ (by simp) ?_ <;> simp only [ag,ah,go_sem]
 have hfo:=sU (G:=G) [] 0
 simp only [bW,List.map_nil,VI] at hfo
 refine jD hfo rfl rfl rfl ?_
 simp only [go_sem]
 refine Ze rfl (fun yv o=>yv=jr∧o=bOp n (IntKind.i64.wrap (s+1))++[none]) ?_ ?_
 case refine_2=>
  rintro yv af ⟨rfl,rfl⟩
  refine .inl ⟨rfl,?_⟩
  simp only [bOp,go_sem]
  have hel:=Jl (G:=G)
  refine av (hel) rfl rfl rfl rfl ?_; simp only [go_sem]
  refine dA [] [0,1,4,2,3] [] (vs:=[.ptr 4 0,.d (.dO 1 (aB [])),.d (.val (.slice none 0 0)),.int 0]) rfl rfl (by decide) (by simp) (by simp) rfl rfl ?_
  simp [aV,ah,ag,aq,LV.int]
 simp only [go_sem]
 refine PG Tryz.func171 (by decide) Kz rfl rfl rfl ?_
 simp only [PZ,go_sem]
 refine aW [10,11,4294967294] [] (fun k:Nat=>k=0) (fun k=>1-k) (fun _=>⟨[(10,.int 0),(11,.int 0),(4294967294,jr)],bOp n (IntKind.i64.wrap (s+1))++[none]⟩) 0 ?_ rfl (fun k hk=>?_)
 ·simp only [bOp,go_sem]
 simp only [bOp,go_sem]
end Dv
namespace Dv
open Go Go.Proofs
variable {G:Nat→Option (List DV)}
structure lz where
 ce:Int
 cd:List Int
 se:Int
 sd:List Int
def iB:lz:=⟨0,[],0,[]⟩
def kL:List Int→LV
 | []=>.d (.val (.slice none 0 0))
 | x::l=>aq (x::l)
def sy (x:lz):List LV:=[.int x.ce,kL x.cd,.int x.se,kL x.sd]
def iu (room term:Int) (sh:List lz) (wr:Int):List aG:=[.box 190 ([.int room,.int term]++(sh.flatMap sy++[.int wr]))]
theorem Ro (k:Nat) (d:List Int):eN k (kL d)=true:=by cases d <;> rfl
theorem VX (π:Nat→Nat) (d:List Int):rn π (kL d)=kL d:=by cases d <;> rfl
theorem aK (k:Nat):∀ a b:List LV,eE k (a++b)=(eE k a&&eE k b)
 | [],b=>by simp [eE]
 | x::a,b=>by simp only [List.cons_append,eE,aK k a b,Bool.and_assoc]
theorem aU (π:Nat→Nat):∀ a b:List LV,mT π (a++b)=mT π a++mT π b
 | [],b=>rfl
 | x::a,b=>by simp only [List.cons_append,mT,aU π a b]
theorem aP (k:Nat) (sh:List lz):eE k (sh.flatMap sy)=true:=by
 induction sh with
 | nil=>rfl
 | cons x sh ih=>simp only [List.flatMap_cons,aK,ih,sy,eE,Ro,LV.int,eN,Bool.and_true]
theorem bE (π:Nat→Nat) (sh:List lz):mT π (sh.flatMap sy)=sh.flatMap sy:=by
 induction sh with
 | nil=>rfl
 | cons x sh ih=>simp only [List.flatMap_cons,aU,ih,sy,mT,VX,LV.int,rn]
theorem gy (k:Nat) (room term:Int) (sh:List lz) (wr:Int):(iu room term sh wr).all (dW k)=true:=by
 simp only [iu,List.all_cons,List.all_nil,dW,Bool.and_true,aK,aP]
 rfl
def abE:=qx Tryz.f35
theorem Z2:aj Tryz.prog Tryz.f35=some abE:=by kernel_rfl
def YQ:=qx Tryz.f101
theorem U7:aj Tryz.prog Tryz.f101=some YQ:=by kernel_rfl
def YE:=qx Tryz.f126
theorem UW:aj Tryz.prog Tryz.f126=some YE:=by kernel_rfl
def YP:=qx Tryz.f102
theorem U6:aj Tryz.prog Tryz.f102=some YP:=by kernel_rfl
theorem Dy (room:Int):bu Tryz.prog G 35 [.int room] [] (.ptr 0 0) (iu (if room>0 then room else 0) 0 (List.replicate 25 iB) 0):=by
 refine cI Tryz.func35 (by decide) Z2 rfl ?_
 simp only [abE,go_sem]
 refine dA [] [0] [] (vs:=[.ptr 0 0]) rfl rfl (by decide) (by simp) (by simp) rfl rfl ?_
 simp [aV,ah]
theorem qv (room term:Int) (sh:List lz) (wr t:Int):bu Tryz.prog G 101 [.ptr 0 0,.int t] (iu room term sh wr) (.dM []) (iu room (if t>term then t else term) sh wr):=by
 refine aT Tryz.func101 (by decide) U7 rfl rfl (gy _ _ _ _ _) rfl ?_
 simp only [iu,YQ,go_sem]
theorem oH (room term:Int) (sh:List lz) (wr:Int) (k:Nat) (hk:1≤k∧k≤24):bu Tryz.prog G 126 [.ptr 0 0,.int k] (iu room term sh wr) (.ptr 0 (2+4*k)) (iu room term sh wr):=by
 refine aT Tryz.func126 (by decide) UW rfl rfl (gy _ _ _ _ _) rfl ?_
 simp only [iu,YE,go_sem]
 simp only [decide_eq_false (show ¬ ((k:Nat):Int)<1 by omega),decide_eq_false (show ¬ ((k:Nat):Int)>24 by omega),go_sem]
 simp only [show k<25 by omega,show 2+k*4=2+4*k by omega,go_sem]
theorem DF (sh:List lz):(sh.flatMap sy).length=4*sh.length:=by
 induction sh with
 | nil=>rfl
 | cons x sh ih=>rw [List.flatMap_cons,List.length_append,ih]; show 4+_=_; rw [List.length_cons]; omega
theorem J7 (x:lz):∀ (sh:List lz) (k:Nat),k<sh.length→(sh.flatMap sy).take (4*k)++sy x++(sh.flatMap sy).drop (4*k+4)=(sh.set k x).flatMap sy
 | [],k,h=>absurd h (Nat.not_lt_zero _)
 | y::sh,0,_=>by simp [List.flatMap_cons,sy]
 | y::sh,k+1,h=>by
   have ih:=J7 x sh k (by simpa using h)
   rw [List.set_cons_succ,List.flatMap_cons,List.flatMap_cons,← ih,show 4*(k+1)=4*k+4 by omega,show 4*k+4+4=(4*k+4)+4 by omega]
   simp [sy]
theorem Fh (a b w:LV) (x:lz) (sh:List lz) (k:Nat) (h:k<sh.length):(a::b::(sh.flatMap sy++[w])).take (2+4*k)++sy x++(sh.flatMap sy++[w]).drop (2+4*k+2)=a::b::((sh.set k x).flatMap sy++[w]):=by
 have hl:=DF sh
 rw [← J7 x sh k h,show 2+4*k=(4*k+1)+1 by omega,List.take_succ_cons,List.take_succ_cons,show 4*k+1+1+2=4*k+4 by omega,List.take_append_of_le_length (by omega),List.drop_append_of_le_length (by omega)]
 simp
theorem uq (room term:Int) (sh:List lz) (wr:Int) (k:Nat) (hk:1≤k∧k≤24) (hs:sh.length=25):bu Tryz.prog G 102 [.ptr 0 0,.int k] (iu room term sh wr) (.dM []) (iu room term (sh.set k iB) wr):=by
 have hj:=oH (G:=G) room term sh wr k hk
 simp only [iu,List.cons_append,List.nil_append] at hj
 refine aT Tryz.func102 (by decide) U6 rfl rfl (gy _ _ _ _ _) rfl ?_
 simp only [iu,YP,go_sem]
 refine fT [0] (hj) rfl ?_ (by decide) ?_ ?_ ?_ <;> simp only [ag,ah,go_sem,aU,bE,aK,aP]
 have hl:=DF sh
 have hset:=Fh (.int room) (.int term) (.int wr) iB sh k (by omega)
 have c1:2+4*k+2≤(sh.flatMap sy++[LV.int wr]).length:=by rw [List.length_append,hl]; simp; omega
 simp only [LV.int,sy,iB,kL] at hset c1
 rw [if_pos c1,hset]
 simp only [go_sem]
 rfl
end Dv
