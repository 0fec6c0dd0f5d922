/- part -/
import Derived.Test.YtkalnfkokkjliaaGreatDoorI0
import Derived.Test.YtkalnfkokkjliaaGreatDoorVD
import Derived.Test.YtkalnfkokkjliaaGreatDoorI8
import Derived.Test.YtkalnfkokkjliaaGreatDoorG1
set_option linter.all false
set_option maxHeartbeats 2000000
set_option maxRecDepth 100000
namespace Dv
open Go Go.Proofs
variable {G:Nat→Option (List DV)}
def aar (r:Int):Int:=if (ry .u32 r 1==0)=true then vK .u32 r 1 else xN .u32 (vK .u32 r 1) 3988292384
def xJ (r:Int):Nat→Int
 | 0=>r
 | k+1=>aar (xJ r k)
def tU (r:Int) (b:List Int):Nat→Int
 | 0=>r
 | k+1=>xJ (xN .u32 (tU r b k) (IntKind.u32.wrap (b.getD k 0))) 8
def jk (s:Int) (b:List Int):Int:=if s<0∨s>4294967295 then 0 else IntKind.i64.wrap (xN .u32 4294967295 (tU (xN .u32 4294967295 (IntKind.u32.wrap s)) b b.length))
def rZ (n:Int):List Int:=[IntKind.u8.wrap (vK .i64 n 24),IntKind.u8.wrap (vK .i64 n 16),IntKind.u8.wrap (vK .i64 n 8),IntKind.u8.wrap n]
def sD (b:List Int):Bool:=decide (4≤b.length)&&decide (rZ (jk 0 (b.take (b.length-4)))=b.drop (b.length-4))
def Wp:=qx Tryz.f321
theorem SO:aj Tryz.prog Tryz.f321=some Wp:=by kernel_rfl
def Wz:=qx Tryz.f306
theorem SY:aj Tryz.prog Tryz.f306=some Wz:=by kernel_rfl
def WU:=qx Tryz.f273
theorem Tj:aj Tryz.prog Tryz.f273=some WU:=by kernel_rfl
def WV:=qx Tryz.f272
theorem Tk:aj Tryz.prog Tryz.f272=some WV:=by kernel_rfl
def WW:=qx Tryz.f271
theorem Tl:aj Tryz.prog Tryz.f271=some WW:=by kernel_rfl
def WA:=qx Tryz.f305
theorem SZ:aj Tryz.prog Tryz.f305=some WA:=by kernel_rfl
def RH (r:Int) (b:List Int) (k:Nat):St:=⟨[(0,.d (.val (.int .u32 (tU r b k)))),(7,aq b),(8,.int b.length),(9,.int k)],[]⟩
def NG (x:Int) (b:List Int) (k:Nat) (j:Nat):St:=⟨[(0,.d (.val (.int .u32 (xJ x j)))),(7,aq b),(8,.int b.length),(9,.int k),(17,.int j)],[]⟩
theorem G8 (r:Int) (b:List Int) (hl:b.length≤1000000):bw Tryz.prog G 321 [.d (.val (.int .u32 r)),aq b] [] (.d (.val (.int .u32 (tU r b b.length)))) []:=by
 have hlb:(aB b).length=b.length:=by simp [aB]
 refine br Tryz.func321 (by decide) SO rfl rfl ?_
 simp only [aq,Wp,go_sem]
 refine aW [0,7,8,9] [] (fun k:Nat=>k≤b.length) (fun k=>b.length-k) (RH r b) 0 ?_ (Nat.zero_le _) (fun k hk=>?_)
 ·simp only [RH,aq,hlb,tU,Int.natCast_zero,go_sem]
 simp only [RH,aq,go_sem]
 by_cases hlt:k<b.length
 ·have hg:=aJ (f:=fun n:Int=>[u8 n]) 0 hlt
  rw [show b.map (fun n:Int=>[u8 n])=aB b from rfl] at hg
  have hnx:tU r b (k+1)=xJ (xN .u32 (tU r b k) (IntKind.u32.wrap (b.getD k 0))) 8:=rfl
  generalize b.getD k 0=c at *
  simp only [decide_eq_true (show ((k:Nat):Int)<((b.length:Nat):Int) by omega),hg,u8,go_sem]
  generalize xN .u32 (tU r b k) (IntKind.u32.wrap c)=x at *
  refine aW [0,7,8,9,17] [] (fun j:Nat=>j≤8) (fun j=>8-j) (NG x b k) 0 ?_ (Nat.zero_le _) (fun j hj=>?_)
  ·simp only [NG,aq,xJ,Int.natCast_zero,go_sem]
  simp only [NG,aq,go_sem]
  by_cases hj8:j<8
  ·have hnb:xJ x (j+1)=aar (xJ x j):=rfl
   unfold aar at hnb
   generalize xJ x j=y at *
   simp only [decide_eq_true (show ((j:Nat):Int)<8 by omega),go_sem]
   cases hb:(ry .u32 y 1==0) with
   | true=>
     rw [hb,if_pos rfl] at hnb
     simp only [go_sem]
     refine a_ (j+1) ?_ ?_ (by omega) (by omega)
     ·simp only [go_sem]
     ·simp only [NG,aq,hnb,aG (show j<9223372036854775807 by omega),go_sem]
   | false=>
     rw [hb,if_neg Bool.false_ne_true] at hnb
     simp only [go_sem]
     refine a_ (j+1) ?_ ?_ (by omega) (by omega)
     ·simp only [go_sem]
     ·simp only [NG,aq,hnb,aG (show j<9223372036854775807 by omega),go_sem]
  ·obtain rfl:j=8:=by omega
   simp only [show decide (((8:Nat):Int)<8)=false from rfl,go_sem]
   refine a_ (k+1) ?_ ?_ (by omega) (by omega)
   ·simp only [go_sem]
   ·simp only [RH,aq,hnx,aG (show k<9223372036854775807 by omega),go_sem]
 ·obtain rfl:k=b.length:=by omega
  simp only [decide_eq_false (show ¬ ((b.length:Nat):Int)<((b.length:Nat):Int) by omega),go_sem]
theorem O4 (s:Int) (b:List Int) (hl:b.length≤1000000):bw Tryz.prog G 306 [.int s,aq b] [] (.int (jk s b)) []:=by
 refine br Tryz.func306 (by decide) SY rfl rfl ?_
 simp only [Wz,go_sem]
 by_cases h1:s<0
 ·simp only [decide_eq_true h1,jk,h1,go_sem]
 by_cases h2:s>4294967295
 ·simp only [decide_eq_false h1,decide_eq_true h2,jk,h2,go_sem]
 have hm:jk s b=IntKind.i64.wrap (xN .u32 4294967295 (tU (xN .u32 4294967295 (IntKind.u32.wrap s)) b b.length)):=if_neg (by omega)
 simp only [decide_eq_false h1,decide_eq_false h2,hm,go_sem]
 refine ay (G8 (xN .u32 4294967295 (IntKind.u32.wrap s)) b hl) rfl rfl rfl rfl ?_; simp only [go_sem]
 rfl
theorem BI (b:List Int) (hl:b.length≤1000000):bw Tryz.prog G 273 [aq b] [] (.int (jk 0 b)) []:=by
 refine br Tryz.func273 (by decide) Tj rfl rfl ?_
 simp only [WU,go_sem]
 refine ay (O4 0 b hl) rfl rfl rfl rfl ?_; simp only [go_sem]
theorem yZ (n:Int):bw Tryz.prog G 272 [.int n] [] (aq (rZ n)) []:=by
 refine cD Tryz.func272 (by decide) Tk rfl ?_
 simp only [WV,go_sem]
 exact dP [0] rfl (by simp [St.obj,aD]) (by simp [St.obj,aD,aU,St.get,aZ,ah,bG,aq,aB,rZ,u8])
theorem qb (n:Int):(rZ n).length=4:=rfl
theorem BH (l:List Int) {k:Nat} (h:k<l.length):l.take (k+1)=l.take k++[l.getD k 0]:=by
 rw [List.take_add_one]
 simp [h,List.getD]
def eqS (a b:List Int) (k:Nat):St:=⟨[(0,aq a),(1,aq b),(4,.bool false),(11,aq a),(12,.int a.length),(13,.int k)],[]⟩
theorem MN (a b:List Int) (ha:a.length≤1000000) (hb:b.length≤1000000):bw Tryz.prog G 305 [aq a,aq b] [] (.bool (decide (a=b))) []:=by
 have hla:(aB a).length=a.length:=by simp [aB]
 have hlb:(aB b).length=b.length:=by simp [aB]
 refine br Tryz.func305 (by decide) SZ rfl rfl ?_
 simp only [aq,WA,go_sem]
 simp only [hla,hlb,go_sem]
 by_cases hl:a.length=b.length
 case neg=>
  simp only [show (((a.length:Nat):Int) !=((b.length:Nat):Int))=true from bne_iff_ne.2 (by omega),go_sem]
  simp only [decide_eq_false (show ¬ a=b from fun h=>hl (by rw [h]))]
 simp only [show (((a.length:Nat):Int) !=((b.length:Nat):Int))=false from by simp [hl],go_sem]
 refine aW [0,1,4,11,12,13] [] (fun k:Nat=>k≤a.length∧a.take k=b.take k) (fun k=>a.length-k) (eqS a b) 0 ?_ ⟨Nat.zero_le _,rfl⟩ ?_
 ·simp only [eqS,aq,hla,Int.natCast_zero,go_sem]
 rintro k ⟨hk,hp⟩
 simp only [eqS,aq,go_sem]
 by_cases hlt:k<a.length
 ·have hga:=aJ (f:=fun n:Int=>[u8 n]) 0 hlt
  have hgb:=aJ (f:=fun n:Int=>[u8 n]) 0 (show k<b.length by omega)
  rw [show a.map (fun n:Int=>[u8 n])=aB a from rfl] at hga
  rw [show b.map (fun n:Int=>[u8 n])=aB b from rfl] at hgb
  simp only [decide_eq_true (show ((k:Nat):Int)<((a.length:Nat):Int) by omega),hga,hgb,u8,go_sem]
  by_cases he:a.getD k 0=b.getD k 0
  ·simp only [he,bne_self_eq_false,go_sem]
   refine a_ (k+1) ?_ ?_ ⟨by omega,by rw [BH a hlt,BH b (by omega),hp,he]⟩ (by omega)
   ·simp only [go_sem]
   ·simp only [eqS,aq,aG (show k<9223372036854775807 by omega),go_sem]
  ·simp only [show (a.getD k 0 !=b.getD k 0)=true from bne_iff_ne.2 he,go_sem]
   exact (decide_eq_false fun h=>he (by rw [h])).symm
 ·obtain rfl:k=a.length:=by omega
  simp only [decide_eq_false (show ¬ ((a.length:Nat):Int)<((a.length:Nat):Int) by omega),go_sem]
  refine (decide_eq_true ?_).symm
  rw [List.take_length,hl,List.take_length] at hp
  exact hp
theorem iO (b:List Int) (n:Nat):(aB b).take n=aB (b.take n):=by simp [aB,List.map_take]
theorem gi (b:List Int) (n:Nat):(aB b).drop n=aB (b.drop n):=by simp [aB,List.map_drop]
theorem aF (b:List Int):(aB b).length=b.length:=by simp [aB]
theorem Lh (b:List Int) (hl:b.length≤1000000):bw Tryz.prog G 271 [aq b] [] (.bool (sD b)) []:=by
 have hlb:(aB b).length=b.length:=by simp [aB]
 refine br Tryz.func271 (by decide) Tl rfl rfl ?_
 simp only [aq,WW,go_sem]
 simp only [hlb,aN (show -9223372036854775808≤((b.length:Nat):Int)-4 by omega) (show ((b.length:Nat):Int)-4≤9223372036854775807 by omega),go_sem]
 by_cases h4:4≤b.length
 ·simp only [decide_eq_true (show ((b.length:Nat):Int)-4≥0 by omega),hlb,go_sem]
  have c1:(0:Int)≤((b.length:Nat):Int)-4:=by omega
  have e0:(((b.length:Nat):Int)-4).toNat=b.length-4:=by omega
  have c2:0≤b.length-4∧b.length-4≤b.length∧b.length≤b.length:=by omega
  have c3:b.length-4≤b.length∧b.length≤b.length∧b.length≤b.length:=by omega
  have hi:sD b=decide (rZ (jk 0 (b.take (b.length-4)))=b.drop (b.length-4)):=by unfold sD; rw [decide_eq_true h4,Bool.true_and]
  have ho:=BI (G:=G) (b.take (b.length-4)) (by rw [List.length_take]; omega)
  have he:=MN (G:=G) (rZ (jk 0 (b.take (b.length-4)))) (b.drop (b.length-4)) (by rw [qb]; decide) (by rw [List.length_drop]; omega)
  simp only [aq] at ho he
  simp only [c1,e0,c2,Nat.sub_zero,iO,go_sem]
  refine bq (ho) rfl rfl rfl rfl ?_; simp only [go_sem]
  refine bq (yZ (jk 0 (b.take (b.length-4)))) rfl rfl rfl rfl ?_; simp only [go_sem]
  have c4:(aB (b.drop (b.length-4))).take (b.length-(b.length-4))=aB (b.drop (b.length-4)):=List.take_of_length_le (by rw [aF,List.length_drop]; exact Nat.le_refl _)
  simp only [c1,e0,c3,hlb,gi,c4,aq,go_sem]
  refine bq (he) rfl rfl rfl rfl ?_; simp only [go_sem]
  rw [hi]
 ·simp only [decide_eq_false (show ¬ ((b.length:Nat):Int)-4≥0 by omega),sD,decide_eq_false h4,go_sem]
end Dv
namespace Dv
open Go Go.Proofs
variable {G:Nat→Option (List DV)}
def UU:=qx Tryz.f84
theorem Ic:aj Tryz.prog Tryz.f84=some UU:=by kernel_rfl
def Py:=qx Tryz.f232
theorem Kf:aj Tryz.prog Tryz.f232=some Py:=by kernel_rfl
def Xh:=qx Tryz.f231
theorem TD:aj Tryz.prog Tryz.f231=some Xh:=by kernel_rfl
theorem Gu (l:List Int) (hl:l.length≤1000000):bw Tryz.prog G 84 [aq l] [] (.sl 0 l.length 1 0 l.length) [.dat 5 1 (aB l)]:=by
 refine cD Tryz.func84 (by decide) Ic rfl ?_
 simp only [aq,UU,go_sem]
 cases l with
 | nil=>
   simp only [aB,go_sem]
   refine ⟨?_,?_⟩
   ·exact sN [.t 2 5 1] rfl rfl
   ·exact sN [] rfl rfl
 | cons n l=>
   have hr:(aB (n::l)).length=(n::l).length:=aF _
   have h0:¬ (n::l).length=0:=by simp
   have hb:(l.length+1)*1≤70368744177664:=by simp at hl; omega
   simp only [hr,h0,List.take_of_length_le (show (aB (n::l)).length≤(n::l).length by rw [hr]; exact Nat.le_refl _),Nat.le_refl,go_sem]
   simp only [hb,go_sem]
   exact sN [] rfl rfl
theorem o9 (l:List Int) (hl:l.length≤1000000):bw Tryz.prog G 84 [aq l] [] (aq l) []:=by
 refine cD Tryz.func84 (by decide) Ic rfl ?_
 simp only [aq,UU,go_sem]
 cases l with
 | nil=>
   simp only [aB,go_sem]
   refine ⟨?_,?_⟩
   ·exact dP [] rfl (by simp) (by simp [aU,St.get,aZ,ah])
   ·exact dP [0] rfl (by simp [St.obj,aD]) (by simp [St.obj,aD,aU,St.get,aZ,ah,bG])
 | cons n l=>
   have hr:(aB (n::l)).length=(n::l).length:=aF _
   have h0:¬ (n::l).length=0:=by simp
   have hb:(l.length+1)*1≤70368744177664:=by simp at hl; omega
   simp only [hr,h0,List.take_of_length_le (show (aB (n::l)).length≤(n::l).length by rw [hr]; exact Nat.le_refl _),Nat.le_refl,go_sem]
   simp only [hb,go_sem]
   exact dP [0] rfl (by simp [St.obj,aD]) (by simp [St.obj,aD,aU,St.get,aZ,ah,bG,List.take_of_length_le,hr])
theorem lF (a b:List Int):aB (a++b)=aB a++aB b:=by simp [aB]
def bT (ls:List (List Int)):List (List DV):=ls.map fun b=>[.dH 1 (aB b)]
def cat (ls:List (List Int)) (k:Nat):List Int:=(ls.take k).flatten
theorem Gx (ls:List (List Int)) {k:Nat} (h:k<ls.length):cat ls (k+1)=cat ls k++ls.getD k []:=by
 unfold cat
 rw [List.take_add_one,List.flatten_append]
 simp [h,List.getD]
theorem Q0 (ls:List (List Int)) (k:Nat):(cat ls k).length≤ls.flatten.length:=by
 have:ls.flatten=(ls.take k).flatten++(ls.drop k).flatten:=by rw [← List.flatten_append,List.take_append_drop]
 rw [this,List.length_append]
 exact Nat.le_add_right _ _
def VG (ls:List (List Int)) (k:Nat):St:=⟨[(0,.d (.dH 1 (bT ls))),(2,.d (.val (.slice none 0 0))),(3,.int (cat ls k).length),(9,.d (.dH 1 (bT ls))),(10,.int ls.length),(11,.int k)],[]⟩
def VF (ls:List (List Int)) (k:Nat):St:=⟨[(6,.sl 0 (cat ls k).length 1 0 (cat ls k).length),(25,.d (.dH 1 (bT ls))),(26,.int ls.length),(27,.int k)],[some (.dat 5 1 (aB (cat ls k)))]⟩
theorem tE (ls:List (List Int)) (hl:ls.length≤100) (ht:ls.flatten.length≤100000):bw Tryz.prog G 232 [.d (.dH 1 (bT ls))] [] (aq ls.flatten) []:=by
 have hlc:(bT ls).length=ls.length:=by simp [bT]
 refine cD Tryz.func232 (by decide) Kf rfl ?_
 simp only [aq,Py,go_sem]
 refine aW [0,2,3,9,10,11] [] (fun k:Nat=>k≤ls.length) (fun k=>ls.length-k) (VG ls) 0 ?_ (Nat.zero_le _) (fun k hk=>?_)
 ·simp only [VG,hlc,Int.natCast_zero,cat,List.flatten_nil,go_sem]
 simp only [VG,go_sem]
 by_cases hlt:k<ls.length
 ·have hg:=aJ (f:=fun b:List Int=>[DV.dH 1 (aB b)]) [] hlt
  rw [show ls.map (fun b:List Int=>[DV.dH 1 (aB b)])=bT ls from rfl] at hg
  have hc:=congrArg List.length (Gx ls hlt)
  rw [List.length_append] at hc
  have h1:=Q0 ls (k+1)
  generalize ls.getD k []=b at *
  have hw:IntKind.i64.wrap (((cat ls k).length:Int)+(b.length:Int))=((cat ls (k+1)).length:Int):=by rw [aN (by omega) (by omega),hc]; omega
  simp only [decide_eq_true (show ((k:Nat):Int)<((ls.length:Nat):Int) by omega),hg,aF,hw,decide_eq_false (show ¬ (((cat ls (k+1)).length:Nat):Int)<0 by omega),go_sem]
  refine a_ (k+1) ?_ ?_ (by omega) (by omega)
  ·simp only [go_sem]
  ·simp only [VG,aG (show k<9223372036854775807 by omega),go_sem]
 obtain rfl:k=ls.length:=by omega
 have hcl:cat ls ls.length=ls.flatten:=by unfold cat; rw [List.take_length]
 simp only [decide_eq_false (show ¬ ((ls.length:Nat):Int)<((ls.length:Nat):Int) by omega),hcl,go_sem]
 refine jw (Aj ls.flatten.length ht) rfl rfl rfl ?_
 simp only [go_sem]
 refine aW [6,25,26,27] [] (fun k:Nat=>k≤ls.length) (fun k=>ls.length-k) (VF ls) 0 ?_ (Nat.zero_le _) (fun k hk=>?_)
 ·simp only [VF,hlc,Int.natCast_zero,cat,List.flatten_nil,aB,go_sem]
 simp only [VF,go_sem]
 by_cases hlt:k<ls.length
 ·have hg:=aJ (f:=fun b:List Int=>[DV.dH 1 (aB b)]) [] hlt
  rw [show ls.map (fun b:List Int=>[DV.dH 1 (aB b)])=bT ls from rfl] at hg
  have hs:=Gx ls hlt
  have hc:=congrArg List.length hs
  rw [List.length_append] at hc
  have h1:=Q0 ls (k+1)
  generalize ls.getD k []=b at *
  have hb:(cat ls k).length+b.length≤100000:=by omega
  simp only [decide_eq_true (show ((k:Nat):Int)<((ls.length:Nat):Int) by omega),hg,aF,← lF,← hs,show (cat ls (k+1)).length*1≤70368744177664 by omega,← hc,go_sem]
  refine a_ (k+1) ?_ ?_ (by omega) (by omega)
  ·simp only [go_sem]
  ·simp only [VF,aG (show k<9223372036854775807 by omega),go_sem]
 obtain rfl:k=ls.length:=by omega
 simp only [decide_eq_false (show ¬ ((ls.length:Nat):Int)<((ls.length:Nat):Int) by omega),hcl,go_sem]
 exact dP [0] rfl (by simp [St.obj,aD]) (by simp [St.obj,aD,aU,St.get,aZ,ah,bG,List.take_of_length_le,aF])
def s4 (a b c:List Int):Nat→List Int
 | 0=>[]
 | 1=>a
 | 2=>a++b
 | 3=>a++b++c
 | _=>a++b++c++[1]
def f4 (a b c:List Int):List aH:=[.box 57 [.d (.dH 1 (aB a)),.d (.dH 1 (aB b)),.d (.dH 1 (aB c)),.sl 1 1 1 0 1],.dat 5 1 [[.val (.int .u8 1)]]]
def Jg (a b c:List Int) (k:Nat):St:=⟨[(0,.sl 0 0 1 0 4),(2,.d (.val (.slice none 0 0))),(3,.int (s4 a b c k).length),(9,.sl 0 0 1 0 4),(10,.int 4),(11,.int k)],(f4 a b c).map some⟩
def Jf (a b c:List Int) (k:Nat):St:=⟨[(6,.sl 2 (s4 a b c k).length 1 0 (s4 a b c k).length),(25,.sl 0 0 1 0 4),(26,.int 4),(27,.int k)],(f4 a b c).map some++[some (.dat 5 1 (aB (s4 a b c k)))]⟩
theorem Gs (a b c:List Int) (ht:(a++b++c).length≤10000):bw Tryz.prog G 232 [.sl 0 0 1 0 4] (f4 a b c) (aq (a++b++c++[1])) (f4 a b c):=by
 rw [List.length_append,List.length_append] at ht
 have l0:(s4 a b c 0).length=0:=rfl
 have l1:(s4 a b c 1).length=a.length:=rfl
 have l2:(s4 a b c 2).length=a.length+b.length:=List.length_append
 have l3:(s4 a b c 3).length=a.length+b.length+c.length:=by simp [s4]; omega
 have l4:(s4 a b c 4).length=a.length+b.length+c.length+1:=by simp [s4]; omega
 have w0:IntKind.i64.wrap (((s4 a b c 0).length:Int)+((aB a).length:Int))=((s4 a b c 1).length:Int):=by rw [aN (by rw [aF]; omega) (by rw [aF]; omega),aF]; omega
 have w1:IntKind.i64.wrap (((s4 a b c 1).length:Int)+((aB b).length:Int))=((s4 a b c 2).length:Int):=by rw [aN (by rw [aF]; omega) (by rw [aF]; omega),aF]; omega
 have w2:IntKind.i64.wrap (((s4 a b c 2).length:Int)+((aB c).length:Int))=((s4 a b c 3).length:Int):=by rw [aN (by rw [aF]; omega) (by rw [aF]; omega),aF]; omega
 have w3:IntKind.i64.wrap (((s4 a b c 3).length:Int)+1)=((s4 a b c 4).length:Int):=by rw [aN (by omega) (by omega)]; omega
 have r0:aB (s4 a b c 0)++aB a=aB (s4 a b c 1):=by rfl
 have r1:aB (s4 a b c 1)++aB b=aB (s4 a b c 2):=by rw [← lF]; rfl
 have r2:aB (s4 a b c 2)++aB c=aB (s4 a b c 3):=by rw [← lF]; rfl
 have r3:aB (s4 a b c 3)++[[DV.val (.int .u8 1)]]=aB (s4 a b c 4):=by rw [show s4 a b c 4=s4 a b c 3++[1] from rfl,lF]; rfl
 have c0:((s4 a b c 0).length=(aB (s4 a b c 0)).length∧(aB (s4 a b c 1)).length*1≤70368744177664):=⟨(aF _).symm,by rw [aF]; omega⟩
 have e0:(aB (s4 a b c 0)).length+(aB a).length=(s4 a b c 1).length:=by rw [aF,aF]; omega
 have c1:((s4 a b c 1).length=(aB (s4 a b c 1)).length∧(aB (s4 a b c 2)).length*1≤70368744177664):=⟨(aF _).symm,by rw [aF]; omega⟩
 have e1:(aB (s4 a b c 1)).length+(aB b).length=(s4 a b c 2).length:=by rw [aF,aF]; omega
 have c2:((s4 a b c 2).length=(aB (s4 a b c 2)).length∧(aB (s4 a b c 3)).length*1≤70368744177664):=⟨(aF _).symm,by rw [aF]; omega⟩
 have e2:(aB (s4 a b c 2)).length+(aB c).length=(s4 a b c 3).length:=by rw [aF,aF]; omega
 have c3:((s4 a b c 3).length=(aB (s4 a b c 3)).length∧(aB (s4 a b c 4)).length*1≤70368744177664):=⟨(aF _).symm,by rw [aF]; omega⟩
 have e3:(aB (s4 a b c 3)).length+1=(s4 a b c 4).length:=by rw [aF]; omega
 refine cD Tryz.func232 (by decide) Kf rfl ?_
 simp only [f4,Py,go_sem]
 refine aW [0,2,3,9,10,11] [] (fun k:Nat=>k≤4) (fun k=>4-k) (Jg a b c) 0 ?_ (Nat.zero_le _) (fun k hk=>?_)
 ·simp only [Jg,f4,s4,Int.natCast_zero,go_sem]
 simp only [Jg,f4,go_sem]
 match k,hk with
 | 0,_=>
   simp only [show decide (((0:Nat):Int)<4)=true from rfl,w0,decide_eq_false (show ¬ (((s4 a b c 1).length:Nat):Int)<0 by omega),go_sem]
   refine a_ 1 ?_ ?_ (by decide) (by decide)
   ·simp only [go_sem]
   ·simp only [Jg,f4,show IntKind.i64.wrap 1=1 from rfl,go_sem]
 | 1,_=>
   simp only [show decide (((1:Nat):Int)<4)=true from rfl,w1,decide_eq_false (show ¬ (((s4 a b c 2).length:Nat):Int)<0 by omega),go_sem]
   refine a_ 2 ?_ ?_ (by decide) (by decide)
   ·simp only [go_sem]
   ·simp only [Jg,f4,show IntKind.i64.wrap 2=2 from rfl,go_sem]
 | 2,_=>
   simp only [show decide (((2:Nat):Int)<4)=true from rfl,w2,decide_eq_false (show ¬ (((s4 a b c 3).length:Nat):Int)<0 by omega),go_sem]
   refine a_ 3 ?_ ?_ (by decide) (by decide)
   ·simp only [go_sem]
   ·simp only [Jg,f4,show IntKind.i64.wrap 3=3 from rfl,go_sem]
 | 3,_=>
   simp only [show decide (((3:Nat):Int)<4)=true from rfl,w3,decide_eq_false (show ¬ (((s4 a b c 4).length:Nat):Int)<0 by omega),go_sem]
   refine a_ 4 ?_ ?_ (by decide) (by decide)
   ·simp only [go_sem]
   ·simp only [Jg,f4,show IntKind.i64.wrap 4=4 from rfl,go_sem]
 | 4,_=>
   simp only [show decide (((4:Nat):Int)<4)=false from rfl,go_sem]
   have ht4:(s4 a b c 4).length≤100000:=by omega
   refine jw (Aj (s4 a b c 4).length ht4) rfl rfl rfl ?_
   simp only [go_sem]
   refine aW [6,25,26,27] [] (fun k:Nat=>k≤4) (fun k=>4-k) (Jf a b c) 0 ?_ (Nat.zero_le _) (fun k hk=>?_)
   ·simp only [Jf,f4,l0,Int.natCast_zero,go_sem]
    rfl
   simp only [Jf,f4,go_sem]
   match k,hk with
   | 0,_=>
     simp only [show decide (((0:Nat):Int)<4)=true from rfl,r0,c0,e0,go_sem]
     refine a_ 1 ?_ ?_ (by decide) (by decide)
     ·simp only [go_sem]
     ·simp only [Jf,f4,show IntKind.i64.wrap 1=1 from rfl,go_sem]
   | 1,_=>
     simp only [show decide (((1:Nat):Int)<4)=true from rfl,r1,c1,e1,go_sem]
     refine a_ 2 ?_ ?_ (by decide) (by decide)
     ·simp only [go_sem]
     ·simp only [Jf,f4,show IntKind.i64.wrap 2=2 from rfl,go_sem]
   | 2,_=>
     simp only [show decide (((2:Nat):Int)<4)=true from rfl,r2,c2,e2,go_sem]
     refine a_ 3 ?_ ?_ (by decide) (by decide)
     ·simp only [go_sem]
     ·simp only [Jf,f4,show IntKind.i64.wrap 3=3 from rfl,go_sem]
   | 3,_=>
     simp only [show decide (((3:Nat):Int)<4)=true from rfl,r3,c3,e3,go_sem]
     refine a_ 4 ?_ ?_ (by decide) (by decide)
     ·simp only [go_sem]
     ·simp only [Jf,f4,show IntKind.i64.wrap 4=4 from rfl,go_sem]
   | 4,_=>
     simp only [show decide (((4:Nat):Int)<4)=false from rfl,go_sem]
     refine dh [] [0,1] [2] (vs:=[.sl 2 (s4 a b c 4).length 1 0 (s4 a b c 4).length]) rfl rfl (by decide) (by simp) (by simp [St.obj,aD,dg]) rfl rfl ?_
     simp [St.obj,aD,aU,ah,bG,aq,List.take_of_length_le,aF,s4,dg]
def fc (p:List Int):List Int:=if p.length=0∨p.length>4000 then [] else bz p.length++p++rZ (jk 0 p)++[1]
theorem oS (p:List Int) (hl:p.length≤1000000):bw Tryz.prog G 231 [aq p] [] (aq (fc p)) []:=by
 refine cD Tryz.func231 (by decide) TD rfl ?_
 simp only [aq,Xh,aF,go_sem]
 by_cases h0:p.length=0
 ·have hp:fc p=[]:=if_pos (.inl h0)
  simp only [show (((p.length:Nat):Int)==0)=true by rw [beq_iff_eq]; omega,go_sem]
  exact dP [] rfl (by simp) (by simp [aU,St.get,aZ,ah,hp,aB])
 have e0:(((p.length:Nat):Int)==0)=false:=beq_eq_false_iff_ne.2 (by omega)
 by_cases h1:p.length>4000
 ·have hp:fc p=[]:=if_pos (.inr h1)
  simp only [e0,aF,decide_eq_true (show ((p.length:Nat):Int)>4000 by omega),go_sem]
  exact dP [] rfl (by simp) (by simp [aU,St.get,aZ,ah,hp,aB])
 have hp:fc p=bz p.length++p++rZ (jk 0 p)++[1]:=if_neg (by omega)
 simp only [e0,aF,decide_eq_false (show ¬ ((p.length:Nat):Int)>4000 by omega),go_sem]
 have hn:=oI (G:=G) (p.length:Int)
 have ho:=BI (G:=G) p hl
 have hs:=yZ (G:=G) (jk 0 p)
 simp only [aq] at hn ho hs
 refine ay (hn) rfl rfl rfl rfl ?_; simp only [go_sem]
 refine ay (ho) rfl rfl rfl rfl ?_; simp only [go_sem]
 refine ay (hs) rfl rfl rfl rfl ?_; simp only [go_sem]
 have hn9:=iK (p.length:Int)
 have hs4:=qb (jk 0 p)
 refine av [1,0] (Gs (bz p.length) p (rZ (jk 0 p)) (by rw [List.length_append,List.length_append]; omega)) rfl (by simp only [ag,ah,go_sem]) (by decide) (by simp only [f4,go_sem]) (by simp only [f4,go_sem]) (Nat.le_refl _) ?_
 simp only [f4,aq,go_sem]
 rw [← hp]
 exact dP [] rfl (by simp) (by simp [aU,St.get,aZ,ah])
end Dv
namespace Dv
open Go Go.Proofs
variable {G:Nat→Option (List DV)}
def dM (l:List Int) (s:Int):List aH:=[.box 150 [.sl 1 l.length 1 0 l.length,.d (.val (.slice none 0 0)),.int s],.dat 5 1 (aB l)]
def vB (at0:Nat) (b:List Int):List (List DV):=[[i64 at0,.dH 1 (aB b)]]
def kn (l:List Int) (s:Int) (at0:Nat) (b:List Int):List aH:=[.box 150 [.sl 1 l.length 1 0 l.length,.sl 2 1 2 0 1,.int s],.dat 5 1 (aB l),.dat 227 2 (vB at0 b)]
def bW (l:List Int) (a:Nat) (b:List Int):List Int:=l.take a++b++l.drop (a+b.length)
theorem dN {l b:List Int} {a:Nat} (h:a+b.length≤l.length):(bW l a b).length=l.length:=by
 unfold bW
 rw [List.length_append,List.length_append,List.length_take,List.length_drop]
 omega
def abo:=qx Tryz.f27
theorem ZI:aj Tryz.prog Tryz.f27=some abo:=by kernel_rfl
def abc:=qx Tryz.f79
theorem Zw:aj Tryz.prog Tryz.f79=some abc:=by kernel_rfl
def Yf:=qx Tryz.f130
theorem UG:aj Tryz.prog Tryz.f130=some Yf:=by kernel_rfl
def XG:=qx Tryz.f186
theorem T1:aj Tryz.prog Tryz.f186=some XG:=by kernel_rfl
def PF:Nat×C×List RV:=(10,
(.seq (.iJ [qo 4 (.mv (qk 0))])
 (.seq (.iJ [qm 5 0,
 qo 6 (.kT (.t 5)),
 qo 7 (.eO 0 (.t 6)),
 qm 8 1,
 qo 9 ((.more (.ata (.t 7) (.t 8)))),
 qm 4 9])
 .ret)),
[(.t 4)])
theorem Km:aj Tryz.prog Tryz.f127=some PF:=by kernel_rfl
theorem Gp (n:Nat) (h1:1≤n) (h2:n≤65536):bw Tryz.prog G 27 [.int n] [] (.ptr 0 0) (dM (List.replicate n 0) 0):=by
 refine cD Tryz.func27 (by decide) ZI rfl ?_
 simp only [abo,go_sem]
 simp only [decide_eq_false (show ¬ ((n:Nat):Int)<1 by omega),decide_eq_false (show ¬ ((n:Nat):Int)>65536 by omega),go_sem]
 have c1:n*1≤70368744177664∧((n:Nat):Int)≤9223372036854775807:=by omega
 simp only [c1,go_sem]
 refine dh [] [1,0] [] (vs:=[.ptr 1 0]) rfl rfl (by decide) (by simp) (by simp) ?_ ?_ ?_
 ·simp only [dM,List.length_replicate,aB,List.map_replicate,u8]
  rfl
 ·simp only [dM,List.length_replicate,aB,List.map_replicate,u8,go_sem]
 ·simp [aU,ah]
theorem gU (l:List Int) (s:Int):bw Tryz.prog G 79 [.ptr 0 0] (dM l s) (.int l.length) (dM l s):=by
 refine aT Tryz.func79 (by decide) Zw rfl rfl rfl rfl ?_
 simp only [abc,go_sem]
 simp only [dM,go_sem]
theorem Nf (l:List Int) (s:Int):bw Tryz.prog G 127 [.ptr 0 2,.int 1] (dM l s) (.int (IntKind.i64.wrap (s+1))) (dM l (IntKind.i64.wrap (s+1))):=by
 refine aT Tryz.func127 (by decide) Km rfl rfl rfl rfl ?_
 simp only [PF,go_sem]
 simp only [dM,go_sem]
theorem iE (l:List Int) (s:Int) (a:Nat) (b:List Int) (h:a+b.length≤l.length) (hl:l.length≤65536):bw Tryz.prog G 130 [.ptr 0 0,.int a,aq b] (dM l s) (.int 0) (kn l s a b):=by
 refine cD Tryz.func130 (by decide) UG rfl ?_
 simp only [dM,aq,Yf,go_sem]
 have w1:IntKind.i64.wrap ((l.length:Int)-(b.length:Int))=(l.length:Int)-b.length:=aN (by omega) (by omega)
 simp only [aF,decide_eq_false (show ¬ ((a:Nat):Int)<0 by omega),decide_eq_false (show ¬ ((b.length:Nat):Int)>((l.length:Nat):Int) by omega),w1,decide_eq_false (show ¬ ((a:Nat):Int)>(l.length:Int)-(b.length:Int) by omega),go_sem]
 have hc:=o9 (G:=G) b (by omega)
 simp only [aq] at hc
 refine bq (hc) rfl rfl rfl rfl ?_; simp only [go_sem]
 refine au rfl ?_
 simp only [go_sem]
 refine dh [] [0,1,3] [] (vs:=[.int 0]) rfl rfl (by decide) (by simp) (by simp) ?_ ?_ ?_
 ·simp only [kn,vB]
  rfl
 ·simp only [kn,vB,go_sem]
 ·simp [aU,ah,LV.int]
def dwS (l:List Int) (s:Int) (a:Nat) (b:List Int) (k:Nat):St:=⟨[(3,.int (if k=0 then 0 else (b.length:Int))),(11,.sl 2 1 2 0 1),(12,.int 1),(13,.int k)],(kn l s a b).map some⟩
theorem Bx (l:List Int) (s:Int) (a:Nat) (b:List Int) (hb:b.length≤1000000):bw Tryz.prog G 186 [.ptr 0 0] (kn l s a b) (.int b.length) (kn l s a b):=by
 refine aT Tryz.func186 (by decide) T1 rfl rfl rfl rfl ?_
 simp only [XG,go_sem]
 simp only [kn,vB,go_sem]
 refine aW [3,11,12,13] [] (fun k:Nat=>k≤1) (fun k=>1-k) (dwS l s a b) 0 ?_ (Nat.zero_le _) (fun k hk=>?_)
 ·simp only [dwS,kn,vB,go_sem]
 simp only [dwS,kn,vB,go_sem]
 match k,hk with
 | 0,_=>
   have w1:IntKind.i64.wrap (0+(b.length:Int))=b.length:=by rw [aN (by omega) (by omega)]; omega
   simp only [show decide (((0:Nat):Int)<1)=true from rfl,aF,w1,show (0:Nat)=0 from rfl,go_sem]
   refine a_ 1 ?_ ?_ (by decide) (by decide)
   ·simp only [go_sem]
   ·simp only [dwS,kn,vB,show IntKind.i64.wrap 1=1 from rfl,show ¬ (1:Nat)=0 by decide,go_sem]
 | 1,_=>
   simp only [show decide (((1:Nat):Int)<1)=false from rfl,show ¬ (1:Nat)=0 by decide,go_sem]
end Dv
namespace Dv
open Go Go.Proofs
variable {G:Nat→Option (List DV)}
def Yh:=qx Tryz.f120
theorem UI:aj Tryz.prog Tryz.f120=some Yh:=by kernel_rfl
def aa6:=qx Tryz.f96
theorem Zp:aj Tryz.prog Tryz.f96=some aa6:=by kernel_rfl
def abg:=qx Tryz.f58
theorem ZA:aj Tryz.prog Tryz.f58=some abg:=by kernel_rfl
def jG (keep:Int) (b:List Int):Nat:=(max 0 (min keep b.length)).toNat
def ddS (l:List Int) (s:Int) (a:Nat) (b:List Int) (keep:Int) (k:Nat):St:=⟨[(0,.ptr 0 0),(1,.int (if k=0 then keep else IntKind.i64.wrap (keep-((jG keep b:Nat):Int)))),(10,.sl 2 1 2 0 1),(11,.int 1),(12,.int k)],if k=0 then (kn l s a b).map some else (kn (bW l a (b.take (jG keep b))) s a b).map some⟩
theorem El (l:List Int) (s:Int) (a:Nat) (b:List Int) (h:a+b.length≤l.length) (hl:1≤l.length∧l.length≤65536) (keep:Int):bw Tryz.prog G 120 [.ptr 0 0,.int keep] (kn l s a b) (.dJ []) (dM (bW l a (b.take (jG keep b))) s++[.dat 227 2 (vB a b)]):=by
 obtain ⟨m,hm⟩:∃ m,l.length=m+1:=⟨l.length-1,by omega⟩
 refine cD Tryz.func120 (by decide) UI rfl ?_
 simp only [kn,vB,Yh,go_sem]
 refine aW [0,1,10,11,12] [] (fun k:Nat=>k≤1) (fun k=>1-k) (ddS l s a b keep) 0 ?_ (Nat.zero_le _) (fun k hk=>?_)
 ·simp only [ddS,kn,vB,go_sem]
 simp only [ddS,kn,vB,go_sem]
 match k,hk with
 | 0,_=>
   have hkn:(if (if (b.length:Int)<keep then (b.length:Int) else keep)>0 then (if (b.length:Int)<keep then (b.length:Int) else keep) else 0)=((jG keep b:Nat):Int):=by unfold jG; split <;> split <;> omega
   have hkl:jG keep b≤b.length:=by unfold jG; omega
   have c1:a≤m+1∧m+1≤m+1:=by omega
   have c2:0≤jG keep b∧jG keep b≤b.length∧b.length≤b.length:=by omega
   have c3:(0:Int)≤((jG keep b:Nat):Int):=by omega
   simp only [show decide (((0:Nat):Int)<1)=true from rfl,aF,hm,hkn,show (0:Nat)=0 from rfl,c1,c2,c3,iO,Nat.sub_zero,go_sem]
   have hbt:(b.take (jG keep b)).length≤b.length:=by rw [List.length_take]; omega
   have c4:a+(m+1-a)≤m+1∧(b.take (jG keep b)).length≤m+1-a∧aB l≠[]:=⟨by omega,by omega,fun e=>by have:=congrArg List.length e; rw [aF,hm] at this; exact absurd this (by simp)⟩
   have hov:aB (l.take a)++aB (b.take (jG keep b))++aB (l.drop (a+(b.take (jG keep b)).length))=aB (bW l a (b.take (jG keep b))):=by rw [← lF,← lF]; rfl
   have hol:(bW l a (b.take (jG keep b))).length=m+1:=by rw [dN (by omega),hm]
   rw [if_pos c4,gi,hov]
   simp only [go_sem]
   refine au rfl ?_
   simp only [go_sem]
   refine a_ 1 ?_ ?_ (by decide) (by decide)
   ·simp only [go_sem]
   ·simp only [ddS,kn,vB,hol,show IntKind.i64.wrap 1=1 from rfl,show ¬ (1:Nat)=0 by decide,go_sem]
 | 1,_=>
   simp only [show decide (((1:Nat):Int)<1)=false from rfl,show ¬ (1:Nat)=0 by decide,go_sem]
   refine dh [] [0,1,2] [] (vs:=[]) rfl rfl (by decide) (by simp) (by simp) ?_ ?_ ?_
   ·simp only [dM,vB]
    rfl
   ·simp only [dM,vB,go_sem]
   ·simp [aU,ah,ag]
theorem L8 (b:List Int):jG b.length b=b.length:=by unfold jG; omega
theorem jr (l:List Int) (s:Int) (a:Nat) (b:List Int) (h:a+b.length≤l.length) (hl:1≤l.length∧l.length≤65536):bw Tryz.prog G 96 [.ptr 0 0] (kn l s a b) (.dJ []) (dM (bW l a b) (IntKind.i64.wrap (s+1))++[.dat 227 2 (vB a b)]):=by
 have hd:=El (G:=G) l s a b h hl b.length
 rw [L8,List.take_length] at hd
 have hw:=Bx (G:=G) l s a b (by omega)
 have ha:=Nf (G:=G) (bW l a b) s
 simp only [kn,dM,vB,List.cons_append,List.nil_append] at hd hw ha
 refine aT Tryz.func96 (by decide) Zp rfl rfl rfl rfl ?_
 simp only [aa6,go_sem]
 simp only [kn,dM,vB,go_sem]
 refine av [0,1,2] (hw) rfl ?_ (by decide) ?_ ?_ (by simp) ?_ <;> simp only [ag,ah,go_sem]
 refine av [0,1,2] (hd) rfl ?_ (by decide) ?_ ?_ (by simp) ?_ <;> simp only [ag,ah,go_sem]
 refine av [0,1] (ha) rfl ?_ (by decide) ?_ ?_ (by simp) ?_ <;> simp only [ag,ah,go_sem]
theorem Jc (l:List Int) (hl:1≤l.length∧l.length≤1000000):bw Tryz.prog G 84 [.sl 0 l.length 1 0 l.length] [.dat 5 1 (aB l)] (.sl 1 l.length 1 0 l.length) [.dat 5 1 (aB l),.dat 5 1 (aB l)]:=by
 obtain ⟨m,hm⟩:∃ m,l.length=m+1:=⟨l.length-1,by omega⟩
 have hr:(aB l).length=m+1:=by rw [aF,hm]
 have ht:(aB l).take (m+1)=aB l:=List.take_of_length_le (by omega)
 rw [hm]
 refine cD Tryz.func84 (by decide) Ic rfl ?_
 simp only [UU,go_sem]
 have hb:(m+1)*1≤70368744177664:=by omega
 simp only [hr,ht,Nat.le_refl,go_sem]
 simp only [hr,hb,go_sem]
 refine dh [] [0,1] [] (vs:=[.sl 1 (m+1) 1 0 (m+1)]) rfl rfl (by decide) (by simp) (by simp) rfl rfl ?_
 simp [aU,ah]
theorem j3 (l:List Int) (s:Int) (hl:1≤l.length∧l.length≤65536):bw Tryz.prog G 58 [.ptr 0 0] (dM l s) (aq l) (dM l s):=by
 obtain ⟨m,hm⟩:∃ m,l.length=m+1:=⟨l.length-1,by omega⟩
 refine cD Tryz.func58 (by decide) ZA rfl ?_
 simp only [dM,abg,go_sem]
 have hc:=Jc (G:=G) l (by omega)
 refine av [1] (hc) rfl ?_ (by decide) ?_ ?_ (by simp) ?_ <;> simp only [ag,ah,go_sem]
 refine aW [3,16,17,18] [] (fun k:Nat=>k=0) (fun k=>1-k) (fun _=>⟨[(3,.sl 2 l.length 1 0 l.length),(16,.d (.val (.slice none 0 0))),(17,.int 0),(18,.int 0)],(dM l s++[aH.dat 5 1 (aB l)]).map some⟩) 0 ?_ rfl (fun k hk=>?_)
 ·simp only [dM,go_sem]
 simp only [dM,go_sem]
 refine dh [] [0,1] [2] (vs:=[.sl 2 l.length 1 0 l.length]) rfl rfl (by decide) (by simp) (by simp [St.obj,aD,dg]) rfl rfl ?_
 simp [St.obj,aD,aU,ah,bG,aq,List.take_of_length_le,aF,dg]
end Dv
namespace Dv
open Go Go.Proofs
variable {G:Nat→Option (List DV)}
def dL (b:List Int) (a:Nat):List Int×Nat×Int:=
 if a>b.length then ([],a,2) else if a=b.length∨b.getD a 0=0 then ([],a,0) else
 match gq b a with
 | none=>([],a,2)
 | some (n,fr)=>
   if n>4000∨n+4≥(b.length:Int)-fr then ([],a,2)
   else if sD ((b.drop fr).take (n.toNat+4))=false∨b.getD (fr+n.toNat+4) 0≠1 then ([],a,2)
   else ((b.drop fr).take n.toNat,fr+n.toNat+5,1)
def pP (q:List Int×Nat×Int):LV:=.dJ [aq q.1,.int q.2.1,.int q.2.2]
def Xk:=qx Tryz.f226
theorem TG:aj Tryz.prog Tryz.f226=some Xk:=by kernel_rfl
def XP:=qx Tryz.f167
theorem Uf:aj Tryz.prog Tryz.f167=some XP:=by kernel_rfl
theorem uU (b:List Int) (hb:∀ c∈b,0≤c∧c≤255) (hl:b.length≤1000000) (a:Nat) (ha:a≤1000000):bw Tryz.prog G 226 [aq b,.int a] [] (pP (dL b a)) []:=by
 have hlb:(aB b).length=b.length:=aF b
 refine cD Tryz.func226 (by decide) TG rfl ?_
 simp only [aq,Xk,go_sem]
 simp only [decide_eq_false (show ¬ ((a:Nat):Int)<0 by omega),hlb,go_sem]
 by_cases h1:a>b.length
 ·have hf:dL b a=([],a,2):=if_pos h1
  simp only [decide_eq_true (show ((a:Nat):Int)>((b.length:Nat):Int) by omega),go_sem]
  exact dP [] rfl (by simp) (by simp [aU,St.get,aZ,ah,ag,hf,pP,aq,aB,LV.int])
 simp only [decide_eq_false (show ¬ ((a:Nat):Int)>((b.length:Nat):Int) by omega),go_sem]
 by_cases h2:a=b.length
 ·have hf:dL b a=([],a,0):=by unfold dL; rw [if_neg h1,if_pos (.inl h2)]
  simp only [show (((a:Nat):Int)==((b.length:Nat):Int))=true by rw [beq_iff_eq]; omega,hlb,go_sem]
  exact dP [] rfl (by simp) (by simp [aU,St.get,aZ,ah,ag,hf,pP,aq,aB,LV.int])
 have hlt:a<b.length:=by omega
 have hg:=aJ (f:=fun n:Int=>[u8 n]) 0 hlt
 rw [show b.map (fun n:Int=>[u8 n])=aB b from rfl] at hg
 simp only [show (((a:Nat):Int)==((b.length:Nat):Int))=false from beq_eq_false_iff_ne.2 (by omega),hlb,hg,u8,go_sem]
 by_cases h3:b.getD a 0=0
 ·have hf:dL b a=([],a,0):=by unfold dL; rw [if_neg h1,if_pos (.inr h3)]
  simp only [h3,go_sem]
  exact dP [] rfl (by simp) (by simp [aU,St.get,aZ,ah,ag,hf,pP,aq,aB,LV.int])
 simp only [beq_eq_false_iff_ne.2 h3,go_sem]
 have A8:dL b a=match gq b a with
  | none=>([],a,2)
  | some (n,fr)=>if n>4000∨n+4≥(b.length:Int)-fr then ([],a,2)
    else if sD ((b.drop fr).take (n.toNat+4))=false∨b.getD (fr+n.toNat+4) 0≠1 then ([],a,2)
    else ((b.drop fr).take n.toNat,fr+n.toNat+5,1):=by
  show (if a>b.length then _ else _)=_
  rw [if_neg h1,if_neg (by omega)]
 have hn:=jT (G:=G) b hb hl a ha (gq b a) rfl
 simp only [aq] at hn
 cases hq:gq b a with
 | none=>
   rw [hq] at hn A8
   simp only [gd,zj,zk,Option.isSome] at hn
   refine ay (hn) rfl rfl rfl rfl ?_; simp only [go_sem]
   exact dP [] rfl (by simp) (by simp [aU,St.get,aZ,ah,ag,A8,pP,aq,aB,LV.int])
 | some q=>
 obtain ⟨n,fr⟩:=q
 have hr:=gp (fun c hc=>(hb c hc).1) hq
 rw [hq] at hn A8
 simp only [gd,zj,zk,Option.isSome] at hn
 simp only at A8
 refine ay (hn) rfl rfl rfl rfl ?_; simp only [go_sem]
 by_cases h4:n>4000
 ·rw [if_pos (.inl h4)] at A8
  simp only [decide_eq_true h4,go_sem]
  exact dP [] rfl (by simp) (by simp [aU,St.get,aZ,ah,ag,A8,pP,aq,aB,LV.int])
 have w1:IntKind.i64.wrap (n+4)=n+4:=aN (by omega) (by omega)
 have w2:IntKind.i64.wrap ((b.length:Int)-(fr:Int))=(b.length:Int)-fr:=aN (by omega) (by omega)
 simp only [decide_eq_false h4,hlb,w1,w2,go_sem]
 by_cases h5:n+4≥(b.length:Int)-fr
 ·rw [if_pos (.inr h5)] at A8
  simp only [decide_eq_true h5,go_sem]
  exact dP [] rfl (by simp) (by simp [aU,St.get,aZ,ah,ag,A8,pP,aq,aB,LV.int])
 rw [if_neg (by omega)] at A8
 obtain ⟨m,rfl⟩:=Int.eq_ofNat_of_zero_le hr.1
 rw [Int.toNat_natCast] at A8
 have w3:IntKind.i64.wrap ((fr:Int)+((m:Nat):Int))=((fr+m:Nat):Int):=by rw [aN (by omega) (by omega)]; omega
 have w4:IntKind.i64.wrap (((fr+m:Nat):Int)+4)=((fr+m+4:Nat):Int):=by rw [aN (by omega) (by omega)]; omega
 have w5:IntKind.i64.wrap (((fr+m+4:Nat):Int)+1)=((fr+m+5:Nat):Int):=by rw [aN (by omega) (by omega)]; omega
 have c1:(0:Int)≤((fr+m+4:Nat):Int):=by omega
 have c2:fr≤fr+m+4∧fr+m+4≤b.length∧b.length≤b.length:=by omega
 have e1:fr+m+4-fr=m+4:=by omega
 have hs:=Lh (G:=G) ((b.drop fr).take (m+4)) (by rw [List.length_take,List.length_drop]; omega)
 simp only [aq] at hs
 simp only [decide_eq_false h5,w3,w4,c1,hlb,c2,e1,gi,iO,go_sem]
 refine ay (hs) rfl rfl rfl rfl ?_; simp only [go_sem]
 cases h6:sD ((b.drop fr).take (m+4)) with
 | false=>
   rw [if_pos (.inl h6)] at A8
   simp only [go_sem]
   exact dP [] rfl (by simp) (by simp [aU,St.get,aZ,ah,ag,A8,pP,aq,aB,LV.int])
 | true=>
 have hg2:=aJ (f:=fun n:Int=>[u8 n]) 0 (show fr+m+4<b.length by omega)
 rw [show b.map (fun n:Int=>[u8 n])=aB b from rfl] at hg2
 simp only [w4,c1,hg2,u8,go_sem]
 by_cases h7:b.getD (fr+m+4) 0=1
 ·rw [if_neg (by rw [h6,h7]; simp)] at A8
  have c3:fr≤fr+m∧fr+m≤fr+m∧fr+m≤b.length:=by omega
  have e2:fr+m-fr=m:=by omega
  have hc:=o9 (G:=G) ((b.drop fr).take m) (by rw [List.length_take,List.length_drop]; omega)
  simp only [aq] at hc
  simp only [h7,bne_self_eq_false,hlb,c3,e2,gi,iO,go_sem]
  refine ay (hc) rfl rfl rfl rfl ?_; simp only [go_sem]
  simp only [w4,w5,go_sem]
  exact dP [] rfl (by simp) (by simp [aU,St.get,aZ,ah,ag,A8,pP,aq,LV.int])
 ·rw [if_pos (.inr h7)] at A8
  simp only [show (b.getD (fr+m+4) 0 !=1)=true from bne_iff_ne.2 h7,go_sem]
  exact dP [] rfl (by simp) (by simp [aU,St.get,aZ,ah,ag,A8,pP,aq,aB,LV.int])
theorem Gc {b:List Int} (hb:∀ c∈b,0≤c) {a:Nat} (h:(dL b a).2.2=1):a<(dL b a).2.1∧(dL b a).2.1≤b.length∧(dL b a).1.length≤4000:=by
 unfold dL at h ⊢
 split at h
 ·exact absurd h (by simp)
 rename_i h1
 rw [if_neg h1]
 split at h
 ·exact absurd h (by simp)
 rename_i h2
 rw [if_neg h2]
 cases hq:gq b a with
 | none=>rw [hq] at h; exact absurd h (by simp)
 | some q=>
 obtain ⟨n,fr⟩:=q
 have hr:=gp hb hq
 rw [hq] at h
 simp only at h ⊢
 split at h
 ·exact absurd h (by simp)
 rename_i h3
 rw [if_neg h3]
 split at h
 ·exact absurd h (by simp)
 rename_i h4
 rw [if_neg h4]
 refine ⟨by dsimp only; omega,by dsimp only; omega,?_⟩
 rw [List.length_take,List.length_drop]
 omega
def vi (b:List Int):Nat→List (List Int)→Nat→List (List Int)×Nat
 | 0,l,a=>(l,a)
 | f+1,l,a=>if (dL b a).2.2=1 then vi b f (l++[(dL b a).1]) (dL b a).2.1 else (l,a)
def VL (b:List Int) (q:List (List Int)×Nat):St:=⟨[(0,aq b),(1,.int q.2),(6,.sl 0 q.1.length 1 0 q.1.length)],[some (.dat 57 1 (bT q.1))]⟩
theorem Ef (b:List Int) (hb:∀ c∈b,0≤c∧c≤255) (hl:b.length≤1000000) (a:Nat) (ha:a≤b.length) (R:List (List Int)×Nat) (hR:vi b (b.length+1) [] a=R):bw Tryz.prog G 167 [aq b,.int a] [] (.dJ [.d (.dH 1 (bT R.1)),.int R.2]) []:=by
 refine cD Tryz.func167 (by decide) Uf rfl ?_
 simp only [aq,XP,go_sem]
 refine aW [0,1,6] [.t 6 57 1] (fun q:List (List Int)×Nat=>q.2≤b.length∧q.1.length≤q.2∧∃ f,b.length-q.2<f∧vi b f q.1 q.2=R) (fun q=>b.length-q.2) (VL b) ([],a) ?_ ⟨ha,Nat.zero_le _,_,by dsimp only; omega,hR⟩ ?_
 ·simp only [VL,aq,bT,go_sem]
 rintro ⟨l,x⟩ ⟨hx,F1,f,hf,hA⟩
 dsimp only at hx F1 hf hA
 simp only [VL,aq,go_sem]
 have hg:=uU (G:=G) b hb hl x (by omega)
 simp only [aq,pP] at hg
 refine ay (hg) rfl rfl rfl rfl ?_; simp only [go_sem]
 obtain ⟨f,rfl⟩:∃ g,f=g+1:=⟨f-1,by omega⟩
 unfold vi at hA
 by_cases h1:(dL b x).2.2=1
 ·rw [if_pos h1] at hA
  have he:=Gc (fun c hc=>(hb c hc).1) h1
  have hcl:(bT l).length=l.length:=by simp [bT]
  have hsn:bT l++[[DV.dH 1 (aB (dL b x).1)]]=bT (l++[(dL b x).1]):=by simp [bT]
  have Vd:(bT (l++[(dL b x).1])).length*24≤70368744177664:=by
   have:(bT (l++[(dL b x).1])).length=l.length+1:=by simp [bT]
   omega
  simp only [h1,bne_self_eq_false,go_sem]
  rw [hcl,hsn,if_pos ⟨rfl,Vd⟩]
  simp only [go_sem]
  refine a_ (l++[(dL b x).1],(dL b x).2.1) ?_ ?_ ⟨he.2.1,by simp; omega,f,by dsimp only; omega,hA⟩ (by dsimp only; omega)
  ·simp only [go_sem]
  ·simp only [VL,aq,List.length_append,go_sem]
 ·rw [if_neg h1] at hA
  simp only [show ((dL b x).2.2 !=1)=true from bne_iff_ne.2 h1,go_sem]
  subst hA
  exact dP [0] rfl (by simp [St.obj,aD]) (by simp [St.obj,aD,aU,St.get,aZ,ah,ag,bG,bT,List.take_of_length_le,LV.int])
end Dv
namespace Dv
open Go Go.Proofs
variable {G:Nat→Option (List DV)}
def zS (l:List Int) (s:Int) (fr sz us:Nat):List aH:=[.box 245 [.ptr 1 0,.int fr,.int sz,.int us],.box 150 [.sl 2 l.length 1 0 l.length,.d (.val (.slice none 0 0)),.int s],.dat 5 1 (aB l)]
def PE:=qx Tryz.f168
theorem Kl:aj Tryz.prog Tryz.f168=some PE:=by kernel_rfl
def Xg:=qx Tryz.f235
theorem TC:aj Tryz.prog Tryz.f235=some Xg:=by kernel_rfl
def XI:=qx Tryz.f184
theorem T9:aj Tryz.prog Tryz.f184=some XI:=by kernel_rfl
def aa8:=qx Tryz.f86
theorem Zr:aj Tryz.prog Tryz.f86=some aa8:=by kernel_rfl
theorem AR (n:Nat):aB (List.replicate n 0)=List.replicate n [u8 0]:=by simp [aB]
theorem xh (l:List Int) (s:Int) (fr sz us a:Nat) (hf:fr+sz≤l.length) (ha:a<sz) (hl:1≤l.length∧l.length≤65536):bw Tryz.prog G 168 [.ptr 0 0,.int a] (zS l s fr sz us) (.dJ []) (zS (bW l (fr+a) (List.replicate (sz-a) 0)) (IntKind.i64.wrap (s+1)) fr sz us):=by
 have hb:=j3 (G:=G) l s hl
 have hk:=iE (G:=G) l s (fr+a) (List.replicate (sz-a) 0) (by rw [List.length_replicate]; omega) hl.2
 have hs:=jr (G:=G) l s (fr+a) (List.replicate (sz-a) 0) (by rw [List.length_replicate]; omega) hl
 simp only [dM,kn,vB,aq,AR,List.length_replicate,List.cons_append,List.nil_append] at hb hk hs
 have w1:IntKind.i64.wrap ((fr:Int)+(a:Int))=((fr+a:Nat):Int):=by rw [aN (by omega) (by omega)]; omega
 have w2:IntKind.i64.wrap ((fr:Int)+(sz:Int))=((fr+sz:Nat):Int):=by rw [aN (by omega) (by omega)]; omega
 have c1:fr+a≤fr+sz∧fr+sz≤l.length∧l.length≤l.length:=by omega
 have c2:(0:Int)≤((fr+sz:Nat):Int):=by omega
 have c3:(0:Int)≤((fr+a:Nat):Int):=by omega
 have e1:fr+sz-(fr+a)=sz-a:=by omega
 have hc:=Gu (G:=G) ((l.drop (fr+a)).take (sz-a)) (by rw [List.length_take,List.length_drop]; omega)
 have hcl:((l.drop (fr+a)).take (sz-a)).length=sz-a:=by rw [List.length_take,List.length_drop]; omega
 rw [hcl] at hc
 simp only [aq] at hc
 refine cD Tryz.func168 (by decide) Kl rfl ?_
 simp only [zS,PE,go_sem]
 refine dV [1,2] (hb) rfl ?_ (by decide) ?_ ?_ (by simp) ?_ <;> simp only [ag,ah,go_sem]
 simp only [w1,w2,c1,c2,c3,e1,aF,gi,iO,go_sem]
 refine ko hc rfl rfl rfl ?_
 simp only [go_sem]
 refine au rfl ?_
 simp only [go_sem]
 have c4:sz-a=(aB ((l.drop (fr+a)).take (sz-a))).length∧sz-a≤(aB ((l.drop (fr+a)).take (sz-a))).length∧0<sz-a:=by rw [aF,hcl]; omega
 have hdr:(aB ((l.drop (fr+a)).take (sz-a))).drop (sz-a)=[]:=List.drop_eq_nil_of_le (by rw [aF,hcl]; exact Nat.le_refl _)
 have eX:(bW l (fr+a) (List.replicate (sz-a) 0)).length=l.length:=dN (by rw [List.length_replicate]; omega)
 rw [if_pos c4]
 simp only [w1,hdr,go_sem]
 refine AZ [1,2] [3] (hk) rfl (by simp [ag,ah,bG,aD,u8,aF,hcl,go_sem]) (by decide) (by decide) (by simp [aD]) (by simp only [go_sem,u8,aF,hcl]) (by simp only [go_sem,u8,aF,hcl]) (by simp) ?_; simp only [go_sem,u8,aF,hcl]
 refine au rfl ?_
 simp only [go_sem]
 refine av [1,2,4] (hs) rfl ?_ (by decide) ?_ ?_ (by simp) ?_ <;> simp only [ag,ah,go_sem,u8]
 refine dh [] [0,1,2] [] (vs:=[]) rfl rfl (by decide) (by simp) (by simp) rfl rfl ?_
 simp [aU,ah,ag]
theorem zz (l:List Int) (a:Nat):bW l a []=l:=by unfold bW; simp
theorem DG (l:List Int) (s:Int) (fr sz us:Nat) (hf:fr+sz≤l.length) (hl:1≤l.length∧l.length≤65536):bw Tryz.prog G 168 [.ptr 0 0,.int sz] (zS l s fr sz us) (.dJ []) (zS l (IntKind.i64.wrap (s+1)) fr sz us):=by
 have hb:=j3 (G:=G) l s hl
 have hk:=iE (G:=G) l s (fr+sz) [] (by simp; omega) hl.2
 have hs:=jr (G:=G) l s (fr+sz) [] (by simp; omega) hl
 rw [zz] at hs
 simp only [dM,kn,vB,aq,aB,List.map_nil,List.cons_append,List.nil_append] at hb hk hs
 rw [show l.map (fun n:Int=>[u8 n])=aB l from rfl] at hb hk hs
 have w2:IntKind.i64.wrap ((fr:Int)+(sz:Int))=((fr+sz:Nat):Int):=by rw [aN (by omega) (by omega)]; omega
 have c1:fr+sz≤fr+sz∧fr+sz≤l.length∧l.length≤l.length:=by omega
 have c2:(0:Int)≤((fr+sz:Nat):Int):=by omega
 have hc:=o9 (G:=G) [] (by simp)
 simp only [aq,aB,List.map_nil] at hc
 refine cD Tryz.func168 (by decide) Kl rfl ?_
 simp only [zS,PE,go_sem]
 refine dV [1,2] (hb) rfl ?_ (by decide) ?_ ?_ (by simp) ?_ <;> simp only [ag,ah,go_sem]
 simp only [w2,c1,c2,Nat.sub_self,aF,Nat.le_refl,go_sem]
 refine bq (hc) rfl rfl rfl rfl ?_; simp only [go_sem]
 refine au rfl ?_
 simp only [go_sem]
 simp only [w2,go_sem]
 refine dV [1,2] (hk) rfl ?_ (by decide) ?_ ?_ (by simp) ?_ <;> simp only [ag,ah,go_sem]
 refine au rfl ?_
 simp only [go_sem]
 refine av [1,2,3] (hs) rfl ?_ (by decide) ?_ ?_ (by simp) ?_ <;> simp only [ag,ah,go_sem]
 refine dh [] [0,1,2] [] (vs:=[]) rfl rfl (by decide) (by simp) (by simp) rfl rfl ?_
 simp [aU,ah,ag]
theorem DH (l:List Int) (s:Int) (fr sz us a:Nat) (hf:fr+sz≤l.length) (ha:a≤sz) (hl:1≤l.length∧l.length≤65536):bw Tryz.prog G 168 [.ptr 0 0,.int a] (zS l s fr sz us) (.dJ []) (zS (bW l (fr+a) (List.replicate (sz-a) 0)) (IntKind.i64.wrap (s+1)) fr sz us):=by
 by_cases h:a<sz
 ·exact xh l s fr sz us a hf h hl
 ·obtain rfl:a=sz:=by omega
  rw [Nat.sub_self,List.replicate_zero,zz]
  exact DG l s fr a us hf hl
def sy (sz us n:Nat):Bool:=decide (1≤n∧n≤4000∧(bz n).length+n+5+us≤sz)
theorem xq (l:List Int) (s:Int) (fr sz us n:Nat) (hu:us≤sz) (hs:sz≤65536) (hn:n≤1000000):bw Tryz.prog G 235 [.ptr 0 0,.int n] (zS l s fr sz us) (.bool (sy sz us n)) (zS l s fr sz us):=by
 have hm:=oI (G:=G) (n:Int)
 have h9:=iK (n:Int)
 simp only [aq] at hm
 refine aT Tryz.func235 (by decide) TC rfl rfl rfl rfl ?_
 simp only [Xg,go_sem]
 simp only [zS,go_sem]
 by_cases h1:1≤n
 case neg=>
  simp only [decide_eq_false (show ¬ ((n:Nat):Int)≥1 by omega),go_sem]
  simp only [sy,decide_eq_false (show ¬ (1≤n∧n≤4000∧(bz n).length+n+5+us≤sz) by omega)]
 by_cases h2:n≤4000
 case neg=>
  simp only [decide_eq_true (show ((n:Nat):Int)≥1 by omega),decide_eq_false (show ¬ ((n:Nat):Int)≤4000 by omega),go_sem]
  simp only [sy,decide_eq_false (show ¬ (1≤n∧n≤4000∧(bz n).length+n+5+us≤sz) by omega)]
 simp only [decide_eq_true (show ((n:Nat):Int)≥1 by omega),decide_eq_true (show ((n:Nat):Int)≤4000 by omega),go_sem]
 refine bq (hm) rfl rfl rfl rfl ?_; simp only [go_sem]
 have w1:IntKind.i64.wrap (((bz n).length:Int)+(n:Int))=(((bz n).length+n:Nat):Int):=by rw [aN (by omega) (by omega)]; omega
 have w2:IntKind.i64.wrap ((((bz n).length+n:Nat):Int)+5)=(((bz n).length+n+5:Nat):Int):=by rw [aN (by omega) (by omega)]; omega
 have w3:IntKind.i64.wrap ((sz:Int)-(us:Int))=((sz-us:Nat):Int):=by rw [aN (by omega) (by omega)]; omega
 simp only [aF,w1,w2,w3,go_sem]
 exact decide_eq_decide.2 (by omega)
def lgW (l:List Int) (s:Int) (fr sz us a:Nat) (b:List Int):List aH:=[.box 245 [.ptr 1 0,.int fr,.int sz,.int us],.box 150 [.sl 2 l.length 1 0 l.length,.sl 3 1 2 0 1,.int s],.dat 5 1 (aB l),.dat 227 2 (vB a b)]
theorem qE {p:List Int} (h:1≤p.length∧p.length≤4000):(fc p).length=(bz p.length).length+p.length+5:=by
 unfold fc
 rw [if_neg (by omega)]
 simp only [List.length_append,qb,List.length_cons,List.length_nil]
theorem HY (l:List Int) (s:Int) (fr sz us:Nat) (p:List Int) (hf:fr+sz≤l.length) (hu:us≤sz) (hl:1≤l.length∧l.length≤65536) (hr:sy sz us p.length=true):bw Tryz.prog G 184 [.ptr 0 0,aq p] (zS l s fr sz us) (.int 0) (lgW l s fr sz (us+(fc p).length) (fr+us) (fc p)):=by
 have Cy:1≤p.length∧p.length≤4000∧(bz p.length).length+p.length+5+us≤sz:=of_decide_eq_true hr
 have lZ:=qE ⟨Cy.1,Cy.2.1⟩
 have hq:=xq (G:=G) l s fr sz us p.length hu (by omega) (by omega)
 have hp:=oS (G:=G) p (by omega)
 have hw:=iE (G:=G) l s (fr+us) (fc p) (by omega) hl.2
 rw [hr] at hq
 simp only [zS,dM,kn,vB,aq] at hq hp hw
 refine cD Tryz.func184 (by decide) T9 rfl ?_
 simp only [zS,aq,XI,go_sem]
 simp only [aF,show (((p.length:Nat):Int)==0)=false from beq_eq_false_iff_ne.2 (by omega),go_sem]
 simp only [aF,decide_eq_false (show ¬ ((p.length:Nat):Int)>4000 by omega),go_sem]
 refine av [0,1,2] (hq) rfl ?_ (by decide) ?_ ?_ (by simp) ?_ <;> simp only [ag,ah,go_sem]
 refine ay (hp) rfl rfl rfl rfl ?_; simp only [go_sem]
 have w1:IntKind.i64.wrap ((fr:Int)+(us:Int))=((fr+us:Nat):Int):=by rw [aN (by omega) (by omega)]; omega
 have w2:IntKind.i64.wrap ((us:Int)+((fc p).length:Int))=((us+(fc p).length:Nat):Int):=by rw [aN (by omega) (by omega)]; omega
 simp only [w1,go_sem]
 refine dV [1,2] (hw) rfl ?_ (by decide) ?_ ?_ (by simp) ?_ <;> simp only [ag,ah,go_sem]
 refine au rfl ?_
 simp only [aF,w2,go_sem]
 refine dh [] [0,1,2,3] [] (vs:=[.int 0]) rfl rfl (by decide) (by simp) (by simp) rfl rfl ?_
 simp [aU,ah,LV.int]
theorem uG (l:List Int) (s:Int) (fr sz us:Nat) (hf:fr+sz≤l.length) (hz:1≤sz) (hl:1≤l.length∧l.length≤65536):bw Tryz.prog G 86 [.ptr 0 0] (zS l s fr sz us) (.dJ []) (zS (bW l fr (List.replicate sz 0)) (IntKind.i64.wrap (s+1)) fr sz 0):=by
 have hn:=xh (G:=G) l s fr sz us 0 hf (by omega) hl
 simp only [zS,Nat.add_zero,Nat.sub_zero] at hn
 refine aT Tryz.func86 (by decide) Zr rfl rfl rfl rfl ?_
 simp only [aa8,go_sem]
 simp only [zS,go_sem]
 refine av [0,1,2] (hn) rfl ?_ (by decide) ?_ ?_ (by simp) ?_ <;> simp only [ag,ah,go_sem]
end Dv
namespace Dv
open Go Go.Proofs
variable {G:Nat→Option (List DV)}
theorem qT (b:List Int) (a:Nat):(∀ c∈(dL b a).1,c∈b)∧(dL b a).1.length≤b.length:=by
 unfold dL
 split
 ·simp
 split
 ·simp
 cases gq b a with
 | none=>simp
 | some q=>
 obtain ⟨n,fr⟩:=q
 simp only
 split
 ·simp
 split
 ·simp
 refine ⟨fun c hc=>List.mem_of_mem_drop (List.mem_of_mem_take hc),?_⟩
 dsimp only
 rw [List.length_take,List.length_drop]
 omega
def mD (l:List Int) (s:Int) (fr sz:Nat):List aH:=[.box 243 [.ptr 1 0,.int fr,.int sz],.box 150 [.sl 2 l.length 1 0 l.length,.d (.val (.slice none 0 0)),.int s],.dat 5 1 (aB l)]
def eF (l:List Int) (fr sz k:Nat):List Int:=(l.drop (fr+k*sz)).take sz
def iA (l:List Int) (fr sz k:Nat):Option (List Int×Int):=
 if (dL (eF l fr sz k) 0).2.2=1 then (gq (dL (eF l fr sz k) 0).1 0).map fun q=>((dL (eF l fr sz k) 0).1.drop q.2,q.1) else none
def oG:Option (List Int×Int)→LV
 | none=>.dJ [aq [],.int 0,.bool false]
 | some q=>.dJ [aq q.1,.int q.2,.bool true]
def Xj:=qx Tryz.f227
theorem TF:aj Tryz.prog Tryz.f227=some Xj:=by kernel_rfl
def XN:=qx Tryz.f170
theorem Ud:aj Tryz.prog Tryz.f170=some XN:=by kernel_rfl
def XO:=qx Tryz.f169
theorem Ue:aj Tryz.prog Tryz.f169=some XO:=by kernel_rfl
def aa_:=qx Tryz.f82
theorem Zt:aj Tryz.prog Tryz.f82=some aa_:=by kernel_rfl
theorem BZ (l:List Int) (s:Int) (fr sz k:Nat) (h:fr+k*sz≤1000000):bw Tryz.prog G 227 [.ptr 0 0,.int k] (mD l s fr sz) (.int ((fr+k*sz:Nat):Int)) (mD l s fr sz):=by
 have w0:IntKind.i64.wrap ((k:Int)*(sz:Int))=((k*sz:Nat):Int):=by rw [show (k:Int)*(sz:Int)=((k*sz:Nat):Int) by simp,aN (by omega) (by omega)]
 have w1:IntKind.i64.wrap ((fr:Int)+((k*sz:Nat):Int))=((fr+k*sz:Nat):Int):=by rw [aN (by omega) (by omega)]; omega
 refine aT Tryz.func227 (by decide) TF rfl rfl rfl rfl ?_
 simp only [Xj,go_sem]
 simp only [mD,w0,w1,go_sem]
theorem qG (l:List Int) (s:Int) (fr sz k:Nat) (hb:∀ c∈l,0≤c∧c≤255) (h:fr+k*sz+sz≤l.length) (hl:1≤l.length∧l.length≤65536):bw Tryz.prog G 170 [.ptr 0 0,.int k] (mD l s fr sz) (oG (iA l fr sz k)) (mD l s fr sz):=by
 have hp:=BZ (G:=G) l s fr sz k (by omega)
 have hy:=j3 (G:=G) l s hl
 have yA:(eF l fr sz k).length=sz:=by unfold eF; rw [List.length_take,List.length_drop]; omega
 have hsb:∀ c∈eF l fr sz k,0≤c∧c≤255:=fun c hc=>hb c (List.mem_of_mem_drop (List.mem_of_mem_take hc))
 have hg:=uU (G:=G) (eF l fr sz k) hsb (by omega) 0 (by omega)
 have abJ:=qT (eF l fr sz k) 0
 have hP:iA l fr sz k=if (dL (eF l fr sz k) 0).2.2=1 then (gq (dL (eF l fr sz k) 0).1 0).map fun q=>((dL (eF l fr sz k) 0).1.drop q.2,q.1) else none:=rfl
 have adq:(l.drop (fr+k*sz)).take sz=eF l fr sz k:=rfl
 generalize iA l fr sz k=PD at *
 generalize fr+k*sz=pl at *
 generalize eF l fr sz k=sb at *
 simp only [dM,mD,aq,pP] at hp hy hg
 have w2:IntKind.i64.wrap ((pl:Int)+(sz:Int))=((pl+sz:Nat):Int):=by rw [aN (by omega) (by omega)]; omega
 have c1:pl≤pl+sz∧pl+sz≤l.length∧l.length≤l.length:=by omega
 have c2:(0:Int)≤((pl+sz:Nat):Int):=by omega
 have e1:pl+sz-pl=sz:=by omega
 refine cD Tryz.func170 (by decide) Ud rfl ?_
 simp only [mD,XN,go_sem]
 refine av [0,1,2] (hp) rfl ?_ (by decide) ?_ ?_ (by simp) ?_ <;> simp only [ag,ah,go_sem]
 refine dV [1,2] (hy) rfl ?_ (by decide) ?_ ?_ (by simp) ?_ <;> simp only [ag,ah,go_sem]
 simp only [w2,c1,c2,e1,aF,gi,iO,adq,go_sem]
 refine bq (hg) rfl rfl rfl rfl ?_; simp only [go_sem]
 refine au rfl ?_
 simp only [go_sem]
 have hn:=jT (G:=G) (dL sb 0).1 (fun c hc=>hsb c (abJ.1 c hc)) (by omega) 0 (by omega) (gq (dL sb 0).1 0) rfl
 simp only [aq] at hn
 cases hq:gq (dL sb 0).1 0 with
 | none=>
   rw [hq] at hn hP
   simp only [gd,zj,zk,Option.isSome] at hn
   refine ay (hn) rfl rfl rfl rfl ?_; simp only [go_sem]
   have hP2:PD=none:=by rw [hP]; split <;> rfl
   by_cases h1:(dL sb 0).2.2=1
   ·simp only [h1,bne_self_eq_false,go_sem]
    refine dh [] [0,1,2] [] (vs:=[.d (.val (.slice none 0 0)),.int 0,.bool false]) rfl rfl (by decide) (by simp) (by simp) rfl rfl ?_
    simp [aU,ah,ag,hP2,oG,aq,aB,LV.int,LV.bool]
   ·simp only [show ((dL sb 0).2.2 !=1)=true from bne_iff_ne.2 h1,go_sem]
    refine dh [] [0,1,2] [] (vs:=[.d (.val (.slice none 0 0)),.int 0,.bool false]) rfl rfl (by decide) (by simp) (by simp) rfl rfl ?_
    simp [aU,ah,ag,hP2,oG,aq,aB,LV.int,LV.bool]
 | some q=>
 obtain ⟨n,nx⟩:=q
 have hr:=gp (fun c hc=>(hsb c (abJ.1 c hc)).1) hq
 rw [hq] at hn hP
 simp only [gd,zj,zk,Option.isSome] at hn
 refine ay (hn) rfl rfl rfl rfl ?_; simp only [go_sem]
 by_cases h1:(dL sb 0).2.2=1
 ·rw [if_pos h1] at hP
  have c3:nx≤(dL sb 0).1.length∧(dL sb 0).1.length≤(dL sb 0).1.length:=by omega
  have hdl:(aB ((dL sb 0).1.drop nx)).take ((dL sb 0).1.length-nx)=aB ((dL sb 0).1.drop nx):=List.take_of_length_le (by rw [aF,List.length_drop]; exact Nat.le_refl _)
  simp only [h1,bne_self_eq_false,aF,c3,gi,hdl,go_sem]
  refine dh [] [0,1,2] [] (vs:=[.d (.dH 1 (aB ((dL sb 0).1.drop nx))),.int n,.bool true]) rfl rfl (by decide) (by simp) (by simp) rfl rfl ?_
  simp [aU,ah,ag,hP,oG,aq,LV.int,LV.bool]
 ·rw [if_neg h1] at hP
  simp only [show ((dL sb 0).2.2 !=1)=true from bne_iff_ne.2 h1,go_sem]
  refine dh [] [0,1,2] [] (vs:=[.d (.val (.slice none 0 0)),.int 0,.bool false]) rfl rfl (by decide) (by simp) (by simp) rfl rfl ?_
  simp [aU,ah,ag,hP,oG,aq,aB,LV.int,LV.bool]
def lV (l:List Int) (fr sz:Nat):Nat→Int×Int
 | 0=>(-1,-1)
 | k+1=>match iA l fr sz k with
   | none=>lV l fr sz k
   | some q=>if q.2>(lV l fr sz k).2 then ((k:Int),q.2) else lV l fr sz k
def Sn (l:List Int) (s:Int) (fr sz:Nat) (k:Nat):St:=⟨[(0,.ptr 0 0),(3,.int (lV l fr sz k).1),(4,.int (lV l fr sz k).2),(9,.int k)],(mD l s fr sz).map some⟩
theorem zN (l:List Int) (s:Int) (fr sz:Nat) (hb:∀ c∈l,0≤c∧c≤255) (h:fr+2*sz≤l.length) (hl:1≤l.length∧l.length≤65536):bw Tryz.prog G 169 [.ptr 0 0] (mD l s fr sz) (.int (lV l fr sz 2).1) (mD l s fr sz):=by
 have hp0:=qG (G:=G) l s fr sz 0 hb (by omega) hl
 have hp1:=qG (G:=G) l s fr sz 1 hb (by omega) hl
 simp only [mD] at hp0 hp1
 refine aT Tryz.func169 (by decide) Ue rfl rfl rfl rfl ?_
 simp only [XO,go_sem]
 simp only [mD,go_sem]
 refine aW [0,3,4,9] [] (fun k:Nat=>k≤2) (fun k=>2-k) (Sn l s fr sz) 0 ?_ (Nat.zero_le _) (fun k hk=>?_)
 ·simp only [Sn,mD,lV,Int.natCast_zero,go_sem]
 simp only [Sn,mD,go_sem]
 match k,hk with
 | 0,_=>
   have hq:lV l fr sz (0+1)=match iA l fr sz 0 with
    | none=>lV l fr sz 0
    | some q=>if q.2>(lV l fr sz 0).2 then (((0:Nat):Int),q.2) else lV l fr sz 0:=rfl
   simp only [show decide (((0:Nat):Int)<2)=true from rfl,go_sem]
   refine av [0,1,2] (hp0) rfl ?_ (by decide) ?_ ?_ (by simp) ?_ <;> simp only [ag,ah,go_sem]
   cases hP:iA l fr sz 0 with
   | none=>
     rw [hP] at hq
     simp only [oG,go_sem]
     refine a_ 1 ?_ ?_ (by decide) (by decide)
     ·simp only [go_sem]
     ·simp only [Sn,mD,hq,show IntKind.i64.wrap 1=1 from rfl,go_sem]
   | some q=>
     rw [hP] at hq
     simp only at hq
     simp only [oG,go_sem]
     by_cases hg:q.2>(lV l fr sz 0).2
     ·rw [if_pos hg] at hq
      simp only [decide_eq_true hg,go_sem]
      refine a_ 1 ?_ ?_ (by decide) (by decide)
      ·simp only [go_sem]
      ·simp only [Sn,mD,hq,show IntKind.i64.wrap 1=1 from rfl,go_sem]
     ·rw [if_neg hg] at hq
      simp only [decide_eq_false hg,go_sem]
      refine a_ 1 ?_ ?_ (by decide) (by decide)
      ·simp only [go_sem]
      ·simp only [Sn,mD,hq,show IntKind.i64.wrap 1=1 from rfl,go_sem]
 | 1,_=>
   have hq:lV l fr sz (1+1)=match iA l fr sz 1 with
    | none=>lV l fr sz 1
    | some q=>if q.2>(lV l fr sz 1).2 then (((1:Nat):Int),q.2) else lV l fr sz 1:=rfl
   simp only [show decide (((1:Nat):Int)<2)=true from rfl,go_sem]
   refine av [0,1,2] (hp1) rfl ?_ (by decide) ?_ ?_ (by simp) ?_ <;> simp only [ag,ah,go_sem]
   cases hP:iA l fr sz 1 with
   | none=>
     rw [hP] at hq
     simp only [oG,go_sem]
     refine a_ 2 ?_ ?_ (by decide) (by decide)
     ·simp only [go_sem]
     ·simp only [Sn,mD,hq,show IntKind.i64.wrap 2=2 from rfl,go_sem]
   | some q=>
     rw [hP] at hq
     simp only at hq
     simp only [oG,go_sem]
     by_cases hg:q.2>(lV l fr sz 1).2
     ·rw [if_pos hg] at hq
      simp only [decide_eq_true hg,go_sem]
      refine a_ 2 ?_ ?_ (by decide) (by decide)
      ·simp only [go_sem]
      ·simp only [Sn,mD,hq,show IntKind.i64.wrap 2=2 from rfl,go_sem]
     ·rw [if_neg hg] at hq
      simp only [decide_eq_false hg,go_sem]
      refine a_ 2 ?_ ?_ (by decide) (by decide)
      ·simp only [go_sem]
      ·simp only [Sn,mD,hq,show IntKind.i64.wrap 2=2 from rfl,go_sem]
 | 2,_=>
   simp only [show decide (((2:Nat):Int)<2)=false from rfl,go_sem]
theorem uB (l:List Int) (fr sz:Nat):∀ k,-1≤(lV l fr sz k).1∧(lV l fr sz k).1<(k:Int)
 | 0=>by simp [lV]
 | k+1=>by
   have:=uB l fr sz k
   unfold lV
   cases iA l fr sz k with
   | none=>simp only; omega
   | some q=>
     simp only
     split
     ·dsimp only; omega
     ·omega
def fI (l:List Int) (fr sz:Nat):Option (List Int×Int):=if (lV l fr sz 2).1<0 then none else iA l fr sz (lV l fr sz 2).1.toNat
theorem uH (l:List Int) (s:Int) (fr sz:Nat) (hb:∀ c∈l,0≤c∧c≤255) (h:fr+2*sz≤l.length) (hl:1≤l.length∧l.length≤65536):bw Tryz.prog G 82 [.ptr 0 0] (mD l s fr sz) (oG (fI l fr sz)) (mD l s fr sz):=by
 have hn:=zN (G:=G) l s fr sz hb h hl
 have hr:=uB l fr sz 2
 have hL:fI l fr sz=if (lV l fr sz 2).1<0 then none else iA l fr sz (lV l fr sz 2).1.toNat:=rfl
 generalize (lV l fr sz 2).1=m at *
 simp only [mD] at hn
 refine cD Tryz.func82 (by decide) Zt rfl ?_
 simp only [mD,aa_,go_sem]
 refine av [0,1,2] (hn) rfl ?_ (by decide) ?_ ?_ (by simp) ?_ <;> simp only [ag,ah,go_sem]
 by_cases hm:m<0
 ·rw [if_pos hm] at hL
  simp only [decide_eq_true hm,go_sem]
  refine dh [] [0,1,2] [] (vs:=[.d (.val (.slice none 0 0)),.int 0,.bool false]) rfl rfl (by decide) (by simp) (by simp) rfl rfl ?_
  simp [aU,ah,ag,hL,oG,aq,aB,LV.int,LV.bool]
 rw [if_neg hm] at hL
 obtain ⟨k,rfl⟩:=Int.eq_ofNat_of_zero_le (show 0≤m by omega)
 rw [Int.toNat_natCast] at hL
 have hk:k*sz+sz≤2*sz:=by
  have:k≤1:=by omega
  have:=Nat.mul_le_mul_right sz this
  omega
 have hp:=qG (G:=G) l s fr sz k hb (by omega) hl
 rw [← hL] at hp
 simp only [mD] at hp
 simp only [decide_eq_false hm,go_sem]
 refine av [0,1,2] (hn) rfl ?_ (by decide) ?_ ?_ (by simp) ?_ <;> simp only [ag,ah,go_sem]
 refine av [0,1,2] (hp) rfl ?_ (by decide) ?_ ?_ (by simp) ?_ <;> simp only [ag,ah,go_sem]
 cases hq:fI l fr sz with
 | none=>
   simp only [oG,aq,go_sem]
   refine dh [] [0,1,2] [] (vs:=[.d (.dH 1 (aB [])),.int 0,.bool false]) rfl rfl (by decide) (by simp) (by simp) rfl rfl ?_
   simp [aU,ah,ag,LV.int,LV.bool]
 | some q=>
   simp only [oG,aq,go_sem]
   refine dh [] [0,1,2] [] (vs:=[.d (.dH 1 (aB q.1)),.int q.2,.bool true]) rfl rfl (by decide) (by simp) (by simp) rfl rfl ?_
   simp [aU,ah,ag,LV.int,LV.bool]
end Dv
namespace Dv
open Go Go.Proofs
variable {G:Nat→Option (List DV)}
def PB:=qx Tryz.f179
theorem Kj:aj Tryz.prog Tryz.f179=some PB:=by kernel_rfl
def ZP:=qx Tryz.f92
theorem Pq:aj Tryz.prog Tryz.f92=some ZP:=by kernel_rfl
def abb:=qx Tryz.f80
theorem Zv:aj Tryz.prog Tryz.f80=some abb:=by kernel_rfl
def c_ (l:List Int) (fr sz:Nat):Nat:=if (lV l fr sz 2).1=0 then 1 else 0
def ga (b:List Int) (cc:Int):List Int:=fc (bz cc++b)
def slW (l:List Int) (s:Int) (fr sz a:Nat) (b:List Int):List aH:=[.box 243 [.ptr 1 0,.int fr,.int sz],.box 150 [.sl 2 l.length 1 0 l.length,.sl 3 1 2 0 1,.int s],.dat 5 1 (aB l),.dat 227 2 (vB a b)]
def OJ (cc:Int):Option (List Int×Int)→Bool
 | none=>false
 | some q=>decide (cc≤q.2)
def ff (l:List Int) (fr sz:Nat) (b:List Int) (cc:Int):Int:=
 if (bz cc).length=0 then 1 else if OJ cc (fI l fr sz)=true then 6
 else if (ga b cc).length=0∨(ga b cc).length>sz then 3 else 0
theorem EP (l:List Int) (s:Int) (fr sz:Nat) (b:List Int) (cc:Int) (hb:∀ c∈l,0≤c∧c≤255) (h:fr+2*sz≤l.length) (hz:1≤sz) (hl:1≤l.length∧l.length≤65536) (yB:b.length≤90000) (hE:ff l fr sz b cc=0):bw Tryz.prog G 179 [.ptr 0 0,aq b,.int cc] (mD l s fr sz) (.int 0) (slW (bW l (fr+c_ l fr sz*sz) (List.replicate sz 0)) (IntKind.i64.wrap (s+1)) fr sz (fr+c_ l fr sz*sz) (ga b cc)):=by
 have hk:c_ l fr sz*sz+sz≤2*sz:=by
  have:c_ l fr sz≤1:=by unfold c_; split <;> omega
  have:=Nat.mul_le_mul_right sz this
  omega
 have hL:=uH (G:=G) l s fr sz hb h hl
 have hn:=zN (G:=G) l s fr sz hb h hl
 have hm:=oI (G:=G) cc
 have hr:=uB l fr sz 2
 simp only [mD,aq] at hL hn hm
 unfold ff at hE
 split at hE
 ·exact absurd hE (by decide)
 rename_i g1
 split at hE
 ·exact absurd hE (by decide)
 rename_i g2
 split at hE
 ·exact absurd hE (by decide)
 rename_i g3
 have e1:(((bz cc).length:Int)==0)=false:=beq_eq_false_iff_ne.2 (by omega)
 have hx:IntKind.i64.wrap (1-(lV l fr sz 2).1)=1-(lV l fr sz 2).1:=aN (by omega) (by omega)
 have hp:=BZ (G:=G) l s fr sz (c_ l fr sz) (by omega)
 have hkv:(if 1-(lV l fr sz 2).1>0 then 1-(lV l fr sz 2).1 else 0).tmod 2=((c_ l fr sz:Nat):Int):=by
  unfold c_
  have:(lV l fr sz 2).1 = -1∨(lV l fr sz 2).1=0∨(lV l fr sz 2).1=1:=by omega
  rcases this with e | e | e <;> rw [e] <;> decide
 have c5:sz*1≤70368744177664∧((sz:Nat):Int)≤9223372036854775807:=by omega
 have hfl:(ga b cc).length≤sz:=by omega
 generalize hN:c_ l fr sz=K at *
 generalize hA:fr+K*sz=A at *
 have hw1:=iE (G:=G) l s A (List.replicate sz 0) (by rw [List.length_replicate]; omega) hl.2
 have hs1:=jr (G:=G) l s A (List.replicate sz 0) (by rw [List.length_replicate]; omega) hl
 have hol:(bW l A (List.replicate sz 0)).length=l.length:=dN (by rw [List.length_replicate]; omega)
 have hw2:=iE (G:=G) (bW l A (List.replicate sz 0)) (IntKind.i64.wrap (s+1)) A (ga b cc) (by rw [hol]; omega) (by rw [hol]; exact hl.2)
 simp only [mD,dM,kn,vB,aq,AR,List.length_replicate,List.cons_append,List.nil_append] at hp hw1 hs1 hw2
 refine cD Tryz.func179 (by decide) Kj rfl ?_
 simp only [mD,aq,PB,go_sem]
 refine ay (hm) rfl rfl rfl rfl ?_; simp only [go_sem]
 simp only [aF,e1,go_sem]
 refine av [0,1,2] (hL) rfl ?_ (by decide) ?_ ?_ (by simp) ?_ <;> simp only [ag,ah,go_sem]
 have Br:=tE (G:=G) [bz cc,b] (by simp) (by simp; have:=iK cc; omega)
 have hpf:=oS (G:=G) (bz cc++b) (by rw [List.length_append]; have:=iK cc; omega)
 rw [show fc (bz cc++b)=ga b cc from rfl] at hpf
 simp only [List.flatten_cons,List.flatten_nil,List.append_nil,bT,List.map_cons,List.map_nil,aq] at Br hpf
 have e2:(((ga b cc).length:Int)==0)=false:=beq_eq_false_iff_ne.2 (by omega)
 have e3:decide (((ga b cc).length:Int)>(sz:Int))=false:=decide_eq_false (by omega)
 cases hq:fI l fr sz with
 | none=>
   simp only [oG,aq,go_sem]
   refine ay (hm) rfl rfl rfl rfl ?_; simp only [go_sem]
   refine rV [3] (Br) rfl (by simp [ag,ah,bG,aD,bT,go_sem]) (by simp [aD]) rfl ?_; simp only [go_sem]
   refine ay (hpf) rfl rfl rfl rfl ?_; simp only [go_sem]
   simp only [aF,e2,e3,go_sem]
   refine av [0,1,2] (hn) rfl ?_ (by decide) ?_ ?_ (by simp) ?_ <;> simp only [ag,ah,go_sem]
   simp only [hx,hkv,go_sem]
   refine av [0,1,2] (hp) rfl ?_ (by decide) ?_ ?_ (by simp) ?_ <;> simp only [ag,ah,go_sem]
   simp only [c5,go_sem]
   refine AZ [1,2] [4] (hw1) rfl (by simp [ag,ah,bG,aD,u8,aF,go_sem]) (by decide) (by decide) (by simp [aD]) (by simp only [go_sem,u8,aF]) (by simp only [go_sem,u8,aF]) (by simp) ?_; simp only [go_sem,u8,aF]
   refine au rfl ?_
   simp only [go_sem]
   refine av [1,2,5] (hs1) rfl ?_ (by decide) ?_ ?_ (by simp) ?_ <;> simp only [ag,ah,go_sem,u8]
   refine av [1,2] (hw2) rfl ?_ (by decide) ?_ ?_ (by simp) ?_ <;> simp only [ag,ah,go_sem]
   refine dh [] [0,1,2,6] [] (vs:=[.int 0]) rfl rfl (by decide) (by simp) (by simp) rfl rfl ?_
   simp [aU,ah,LV.int]
 | some q=>
   rw [hq] at g2
   have g4:¬ cc≤q.2:=fun e=>g2 (decide_eq_true e)
   simp only [oG,aq,decide_eq_false g4,go_sem]
   refine ay (hm) rfl rfl rfl rfl ?_; simp only [go_sem]
   refine rV [3] (Br) rfl (by simp [ag,ah,bG,aD,bT,go_sem]) (by simp [aD]) rfl ?_; simp only [go_sem]
   refine ay (hpf) rfl rfl rfl rfl ?_; simp only [go_sem]
   simp only [aF,e2,e3,go_sem]
   refine av [0,1,2] (hn) rfl ?_ (by decide) ?_ ?_ (by simp) ?_ <;> simp only [ag,ah,go_sem]
   simp only [hx,hkv,go_sem]
   refine av [0,1,2] (hp) rfl ?_ (by decide) ?_ ?_ (by simp) ?_ <;> simp only [ag,ah,go_sem]
   simp only [c5,go_sem]
   refine AZ [1,2] [4] (hw1) rfl (by simp [ag,ah,bG,aD,u8,aF,go_sem]) (by decide) (by decide) (by simp [aD]) (by simp only [go_sem,u8,aF]) (by simp only [go_sem,u8,aF]) (by simp) ?_; simp only [go_sem,u8,aF]
   refine au rfl ?_
   simp only [go_sem]
   refine av [1,2,5] (hs1) rfl ?_ (by decide) ?_ ?_ (by simp) ?_ <;> simp only [ag,ah,go_sem,u8]
   refine av [1,2] (hw2) rfl ?_ (by decide) ?_ ?_ (by simp) ?_ <;> simp only [ag,ah,go_sem]
   refine dh [] [0,1,2,6] [] (vs:=[.int 0]) rfl rfl (by decide) (by simp) (by simp) rfl rfl ?_
   simp [aU,ah,LV.int]
theorem Df (l:List Int) (s:Int) (fr sz:Nat) (b:List Int) (cc:Int) (hb:∀ c∈l,0≤c∧c≤255) (h:fr+2*sz≤l.length) (hz:1≤sz) (hl:1≤l.length∧l.length≤65536) (yB:b.length≤90000) (hE:ff l fr sz b cc≠0):bw Tryz.prog G 179 [.ptr 0 0,aq b,.int cc] (mD l s fr sz) (.int (ff l fr sz b cc)) (mD l s fr sz):=by
 have hL:=uH (G:=G) l s fr sz hb h hl
 have hm:=oI (G:=G) cc
 simp only [mD,aq] at hL hm
 have Br:=tE (G:=G) [bz cc,b] (by simp) (by simp; have:=iK cc; omega)
 have hpf:=oS (G:=G) (bz cc++b) (by rw [List.length_append]; have:=iK cc; omega)
 rw [show fc (bz cc++b)=ga b cc from rfl] at hpf
 simp only [List.flatten_cons,List.flatten_nil,List.append_nil,bT,List.map_cons,List.map_nil,aq] at Br hpf
 refine cD Tryz.func179 (by decide) Kj rfl ?_
 simp only [mD,aq,PB,go_sem]
 refine ay (hm) rfl rfl rfl rfl ?_; simp only [go_sem]
 simp only [aF,go_sem]
 by_cases g1:(bz cc).length=0
 ·have hs:ff l fr sz b cc=1:=if_pos g1
  simp only [show (((bz cc).length:Int)==0)=true by rw [beq_iff_eq]; omega,hs,go_sem]
  refine dh [] [0,1,2] [] (vs:=[.int 1]) rfl rfl (by decide) (by simp) (by simp) rfl rfl ?_
  simp [aU,ah,LV.int]
 have hs1:ff l fr sz b cc=if OJ cc (fI l fr sz)=true then 6 else if (ga b cc).length=0∨(ga b cc).length>sz then 3 else 0:=if_neg g1
 simp only [show (((bz cc).length:Int)==0)=false from beq_eq_false_iff_ne.2 (by omega),go_sem]
 refine av [0,1,2] (hL) rfl ?_ (by decide) ?_ ?_ (by simp) ?_ <;> simp only [ag,ah,go_sem]
 have Bq:OJ cc (fI l fr sz)=false→ff l fr sz b cc=3∧((ga b cc).length=0∨(ga b cc).length>sz):=by
  intro e
  rw [e,if_neg Bool.false_ne_true] at hs1
  by_cases g:(ga b cc).length=0∨(ga b cc).length>sz
  ·rw [if_pos g] at hs1; exact ⟨hs1,g⟩
  ·rw [if_neg g] at hs1; exact absurd hs1 hE
 cases hq:fI l fr sz with
 | none=>
   rw [hq] at Bq
   obtain ⟨Yx,g3⟩:=Bq rfl
   simp only [oG,aq,Yx,go_sem]
   refine ay (hm) rfl rfl rfl rfl ?_; simp only [go_sem]
   refine rV [3] (Br) rfl (by simp [ag,ah,bG,aD,bT,go_sem]) (by simp [aD]) rfl ?_; simp only [go_sem]
   refine ay (hpf) rfl rfl rfl rfl ?_; simp only [go_sem]
   simp only [aF,go_sem]
   by_cases g5:(ga b cc).length=0
   ·simp only [show (((ga b cc).length:Int)==0)=true by rw [beq_iff_eq]; omega,go_sem]
    refine dh [] [0,1,2] [] (vs:=[.int 3]) rfl rfl (by decide) (by simp) (by simp) rfl rfl ?_
    simp [aU,ah,LV.int]
   ·simp only [show (((ga b cc).length:Int)==0)=false from beq_eq_false_iff_ne.2 (by omega),aF,decide_eq_true (show ((ga b cc).length:Int)>(sz:Int) by omega),go_sem]
    refine dh [] [0,1,2] [] (vs:=[.int 3]) rfl rfl (by decide) (by simp) (by simp) rfl rfl ?_
    simp [aU,ah,LV.int]
 | some q=>
   simp only [oG,aq,go_sem]
   by_cases g4:cc≤q.2
   ·have ho:OJ cc (some q)=true:=decide_eq_true g4
    rw [hq,ho,if_pos rfl] at hs1
    simp only [decide_eq_true g4,hs1,go_sem]
    refine dh [] [0,1,2] [] (vs:=[.int 6]) rfl rfl (by decide) (by simp) (by simp) rfl rfl ?_
    simp [aU,ah,LV.int]
   rw [hq] at Bq
   obtain ⟨Yx,g3⟩:=Bq (decide_eq_false g4)
   simp only [decide_eq_false g4,Yx,go_sem]
   refine ay (hm) rfl rfl rfl rfl ?_; simp only [go_sem]
   refine rV [3] (Br) rfl (by simp [ag,ah,bG,aD,bT,go_sem]) (by simp [aD]) rfl ?_; simp only [go_sem]
   refine ay (hpf) rfl rfl rfl rfl ?_; simp only [go_sem]
   simp only [aF,go_sem]
   by_cases g5:(ga b cc).length=0
   ·simp only [show (((ga b cc).length:Int)==0)=true by rw [beq_iff_eq]; omega,go_sem]
    refine dh [] [0,1,2] [] (vs:=[.int 3]) rfl rfl (by decide) (by simp) (by simp) rfl rfl ?_
    simp [aU,ah,LV.int]
   ·simp only [show (((ga b cc).length:Int)==0)=false from beq_eq_false_iff_ne.2 (by omega),aF,decide_eq_true (show ((ga b cc).length:Int)>(sz:Int) by omega),go_sem]
    refine dh [] [0,1,2] [] (vs:=[.int 3]) rfl rfl (by decide) (by simp) (by simp) rfl rfl ?_
    simp [aU,ah,LV.int]
def iS (l:List Int) (fr sz:Nat) (b:List Int) (cc:Int):List Int:=bW (bW l (fr+c_ l fr sz*sz) (List.replicate sz 0)) (fr+c_ l fr sz*sz) (ga b cc)
theorem NZ (l:List Int) (s:Int) (fr sz:Nat) (b:List Int) (cc:Int) (hb:∀ c∈l,0≤c∧c≤255) (h:fr+2*sz≤l.length) (hz:1≤sz) (hl:1≤l.length∧l.length≤65536) (yB:b.length≤90000) (hE:ff l fr sz b cc=0):bw Tryz.prog G 92 [.ptr 0 0,aq b,.int cc] (mD l s fr sz) (.int 0) (mD (iS l fr sz b cc) (IntKind.i64.wrap (IntKind.i64.wrap (s+1)+1)) fr sz):=by
 have hst:=EP (G:=G) l s fr sz b cc hb h hz hl yB hE
 have hk:c_ l fr sz*sz+sz≤2*sz:=by
  have:c_ l fr sz≤1:=by unfold c_; split <;> omega
  have:=Nat.mul_le_mul_right sz this
  omega
 have hfl:(ga b cc).length≤sz:=by
  unfold ff at hE
  split at hE
  ·exact absurd hE (by decide)
  split at hE
  ·exact absurd hE (by decide)
  split at hE
  ·exact absurd hE (by decide)
  omega
 have F7:fr+c_ l fr sz*sz+sz≤l.length:=by omega
 have hS:iS l fr sz b cc=bW (bW l (fr+c_ l fr sz*sz) (List.replicate sz 0)) (fr+c_ l fr sz*sz) (ga b cc):=rfl
 generalize fr+c_ l fr sz*sz=A at *
 have hol:(bW l A (List.replicate sz 0)).length=l.length:=dN (by rw [List.length_replicate]; omega)
 have hs:=jr (G:=G) (bW l A (List.replicate sz 0)) (IntKind.i64.wrap (s+1)) A (ga b cc) (by rw [hol]; omega) (by rw [hol]; exact hl)
 rw [← hS] at hs
 simp only [mD,slW,dM,kn,vB,aq,List.cons_append,List.nil_append] at hst hs
 refine cD Tryz.func92 (by decide) Pq rfl ?_
 simp only [mD,aq,ZP,go_sem]
 refine av [0,1,2] (hst) rfl ?_ (by decide) ?_ ?_ (by simp) ?_ <;> simp only [ag,ah,go_sem]
 refine av [1,2,3] (hs) rfl ?_ (by decide) ?_ ?_ (by simp) ?_ <;> simp only [ag,ah,go_sem]
 refine dh [] [0,1,2] [] (vs:=[.int 0]) rfl rfl (by decide) (by simp) (by simp) rfl rfl ?_
 simp [aU,ah,LV.int]
theorem EV (l:List Int) (s:Int) (fr sz:Nat) (b:List Int) (cc:Int) (hb:∀ c∈l,0≤c∧c≤255) (h:fr+2*sz≤l.length) (hz:1≤sz) (hl:1≤l.length∧l.length≤65536) (yB:b.length≤90000) (hE:ff l fr sz b cc≠0):bw Tryz.prog G 92 [.ptr 0 0,aq b,.int cc] (mD l s fr sz) (.int (ff l fr sz b cc)) (mD l s fr sz):=by
 have hst:=Df (G:=G) l s fr sz b cc hb h hz hl yB hE
 generalize ff l fr sz b cc=e at *
 simp only [mD,aq] at hst
 refine aT Tryz.func92 (by decide) Pq rfl rfl rfl rfl ?_
 simp only [ZP,go_sem]
 simp only [mD,aq,go_sem]
 refine av [0,1,2] (hst) rfl ?_ (by decide) ?_ ?_ (by simp) ?_ <;> simp only [ag,ah,go_sem]
 simp only [show (e !=0)=true from bne_iff_ne.2 hE,go_sem]
def dkS (l:List Int) (s:Int) (fr sz:Nat):List aH:=[.box 150 [.sl 1 l.length 1 0 l.length,.d (.val (.slice none 0 0)),.int s],.dat 5 1 (aB l),.box 243 [.ptr 0 0,.int fr,.int sz]]
theorem sx (l:List Int) (s:Int) (fr sz:Nat) (h:fr+2*sz≤l.length) (hz:1≤sz) (hl:1≤l.length∧l.length≤65536):bw Tryz.prog G 80 [.ptr 0 0,.int fr,.int sz] (dM l s) (.dJ [.ptr 2 0,.int 0]) (dkS l s fr sz):=by
 have hs:=gU (G:=G) l s
 simp only [dM] at hs
 have w1:IntKind.i64.wrap (2*(sz:Int))=((2*sz:Nat):Int):=by rw [aN (by omega) (by omega)]; omega
 have w2:IntKind.i64.wrap ((l.length:Int)-((2*sz:Nat):Int))=((l.length-2*sz:Nat):Int):=by rw [aN (by omega) (by omega)]; omega
 have q1:IntKind.i64.wrap (((l.length:Nat):Int).tdiv 2)=((l.length / 2:Nat):Int):=by rw [Int.tdiv_eq_ediv_of_nonneg (by omega),aN (by omega) (by omega)]; omega
 refine cD Tryz.func80 (by decide) Zv rfl ?_
 simp only [dM,abb,go_sem]
 simp only [decide_eq_false (show ¬ ((fr:Nat):Int)<0 by omega),decide_eq_false (show ¬ ((sz:Nat):Int)<1 by omega),go_sem]
 refine av [0,1] (hs) rfl ?_ (by decide) ?_ ?_ (by simp) ?_ <;> simp only [ag,ah,go_sem]
 simp only [q1,decide_eq_false (show ¬ ((sz:Nat):Int)>((l.length / 2:Nat):Int) by omega),go_sem]
 refine av [0,1] (hs) rfl ?_ (by decide) ?_ ?_ (by simp) ?_ <;> simp only [ag,ah,go_sem]
 simp only [w1,w2,decide_eq_false (show ¬ ((fr:Nat):Int)>((l.length-2*sz:Nat):Int) by omega),go_sem]
 refine dh [] [0,1,2] [] (vs:=[.ptr 2 0,.int 0]) rfl rfl (by decide) (by simp) (by simp) rfl rfl ?_
 simp [aU,ah,ag,LV.int]
end Dv
namespace Dv
open Go Go.Proofs
variable {G:Nat→Option (List DV)}
def aba:=qx Tryz.f81
theorem Zu:aj Tryz.prog Tryz.f81=some aba:=by kernel_rfl
def qj (l:List Int) (fr sz:Nat):List Int:=(l.drop fr).take sz
theorem uc {l:List Int} {fr sz:Nat} (h:fr+sz≤l.length):(qj l fr sz).length=sz:=by
 unfold qj
 rw [List.length_take,List.length_drop]
 omega
theorem EU {l:List Int} {fr sz:Nat} (hb:∀ c∈l,0≤c∧c≤255):∀ c∈qj l fr sz,0≤c∧c≤255:=fun c hc=>hb c (List.mem_of_mem_drop (List.mem_of_mem_take hc))
def je (l:List Int) (fr sz:Nat):List (List Int)×Nat:=vi (qj l fr sz) (sz+1) [] 0
def dkL (l:List Int) (s:Int) (fr sz us:Nat):List aH:=[.box 150 [.sl 1 l.length 1 0 l.length,.d (.val (.slice none 0 0)),.int s],.dat 5 1 (aB l),.box 245 [.ptr 0 0,.int fr,.int sz,.int us]]
theorem xu (l:List Int) (s:Int) (fr sz:Nat) (hb:∀ c∈l,0≤c∧c≤255) (hf:fr+sz≤l.length) (hz:1≤sz) (hl:1≤l.length∧l.length≤65536) (he:(je l fr sz).2≤sz):bw Tryz.prog G 81 [.ptr 0 0,.int fr,.int sz] (dM l s) (.dJ [.ptr 2 0,.d (.dH 1 (bT (je l fr sz).1)),.int 0]) (dkL (bW l (fr+(je l fr sz).2) (List.replicate (sz-(je l fr sz).2) 0)) (IntKind.i64.wrap (s+1)) fr sz (je l fr sz).2):=by
 have hs:=gU (G:=G) l s
 have hy:=j3 (G:=G) l s hl
 have yA:=uc hf
 have ha:=Ef (G:=G) (qj l fr sz) (EU hb) (by omega) 0 (Nat.zero_le _) (je l fr sz) (by rw [yA]; rfl)
 have hn:=DH (G:=G) l s fr sz (je l fr sz).2 (je l fr sz).2 hf he hl
 generalize je l fr sz=R at *
 simp only [dM,zS,aq] at hs hy ha hn
 have w1:IntKind.i64.wrap ((l.length:Int)-(sz:Int))=((l.length-sz:Nat):Int):=by rw [aN (by omega) (by omega)]; omega
 have w2:IntKind.i64.wrap ((fr:Int)+(sz:Int))=((fr+sz:Nat):Int):=by rw [aN (by omega) (by omega)]; omega
 have c1:fr≤fr+sz∧fr+sz≤l.length∧l.length≤l.length:=by omega
 have c2:(0:Int)≤((fr+sz:Nat):Int):=by omega
 have e1:fr+sz-fr=sz:=by omega
 refine cD Tryz.func81 (by decide) Zu rfl ?_
 simp only [dM,aba,go_sem]
 simp only [decide_eq_false (show ¬ ((fr:Nat):Int)<0 by omega),decide_eq_false (show ¬ ((sz:Nat):Int)<1 by omega),go_sem]
 refine av [0,1] (hs) rfl ?_ (by decide) ?_ ?_ (by simp) ?_ <;> simp only [ag,ah,go_sem]
 simp only [decide_eq_false (show ¬ ((sz:Nat):Int)>((l.length:Nat):Int) by omega),go_sem]
 refine av [0,1] (hs) rfl ?_ (by decide) ?_ ?_ (by simp) ?_ <;> simp only [ag,ah,go_sem]
 simp only [w1,decide_eq_false (show ¬ ((fr:Nat):Int)>((l.length-sz:Nat):Int) by omega),go_sem]
 refine av [0,1] (hy) rfl ?_ (by decide) ?_ ?_ (by simp) ?_ <;> simp only [ag,ah,go_sem]
 simp only [w2,c1,c2,e1,aF,gi,iO,go_sem]
 refine ay (ha) rfl rfl rfl rfl ?_; simp only [go_sem]
 refine av [2,0,1] (hn) rfl ?_ (by decide) ?_ ?_ (by simp) ?_ <;> simp only [ag,ah,go_sem]
 have hol:(bW l (fr+R.2) (List.replicate (sz-R.2) 0)).length=l.length:=dN (by rw [List.length_replicate]; omega)
 refine dh [] [0,1,2] [] (vs:=[.ptr 2 0,.d (.dH 1 (bT R.1)),.int 0]) rfl rfl (by decide) (by simp) (by simp) rfl rfl ?_
 simp [aU,ah,ag,LV.int]
end Dv
namespace Dv
open Go Go.Proofs
variable {G:Nat→Option (List DV)}
def xU (n:Nat) (l:List Int) (s cnt cc:Int) (us:Nat):List aH:=[.box 160 [.ptr 1 0,.ptr 2 0,.ptr 3 0,.int cnt,.int cc],.box 150 [.sl 4 n 1 0 n,.d (.val (.slice none 0 0)),.int s],.box 243 [.ptr 1 0,.int 0,.int ((n / 4:Nat):Int)],.box 245 [.ptr 1 0,.int ((2*(n / 4):Nat):Int),.int ((n-2*(n / 4):Nat):Int),.int us],.dat 5 1 (aB l)]
def XH:=qx Tryz.f185
theorem T8:aj Tryz.prog Tryz.f185=some XH:=by kernel_rfl
def XJ:=qx Tryz.f183
theorem T_:aj Tryz.prog Tryz.f183=some XJ:=by kernel_rfl
def aa7:=qx Tryz.f95
theorem Zq:aj Tryz.prog Tryz.f95=some aa7:=by kernel_rfl
def abn:=qx Tryz.f33
theorem ZH:aj Tryz.prog Tryz.f33=some abn:=by kernel_rfl
def UW:=qx Tryz.f31
theorem Ie:aj Tryz.prog Tryz.f31=some UW:=by kernel_rfl
theorem HC (n:Nat) (l:List Int) (s cnt cc:Int) (us:Nat) (p:List Int) (hp:p.length≤90000):bw Tryz.prog G 185 [.ptr 0 0,aq p] (xU n l s cnt cc us) (aq (bz cnt++p)) (xU n l s cnt cc us):=by
 have hm:=oI (G:=G) cnt
 have Br:=tE (G:=G) [bz cnt,p] (by simp) (by simp; have:=iK cnt; omega)
 simp only [List.flatten_cons,List.flatten_nil,List.append_nil,bT,List.map_cons,List.map_nil,aq] at Br hm
 refine cD Tryz.func185 (by decide) T8 rfl ?_
 simp only [xU,aq,XH,go_sem]
 refine ay (hm) rfl rfl rfl rfl ?_; simp only [go_sem]
 refine rV [5] (Br) rfl (by simp [ag,ah,bG,aD,bT,go_sem]) (by simp [aD]) rfl ?_; simp only [go_sem]
 refine dh [] [0,1,2,3,4] [] (vs:=[.d (.dH 1 (aB (bz cnt++p)))]) rfl rfl (by decide) (by simp) (by simp) rfl rfl ?_
 simp [aU,ah]
def nO (n us:Nat) (cnt:Int) (k:Nat):Bool:=decide (1≤k∧k≤3900)&&sy (n-2*(n / 4)) us (k+(bz cnt).length)
theorem BU (n:Nat) (l:List Int) (s cnt cc:Int) (us k:Nat) (hl:l.length=n) (hn:n≤65536) (hu:us≤n-2*(n / 4)) (hk:k≤900000):bw Tryz.prog G 183 [.ptr 0 0,.int k] (xU n l s cnt cc us) (.bool (nO n us cnt k)) (xU n l s cnt cc us):=by
 have hm:=oI (G:=G) cnt
 have h9:=iK cnt
 have hr:=xq (G:=G) l s (2*(n / 4)) (n-2*(n / 4)) us (k+(bz cnt).length) hu (by omega) (by omega)
 have w1:IntKind.i64.wrap ((k:Int)+((bz cnt).length:Int))=((k+(bz cnt).length:Nat):Int):=by rw [aN (by omega) (by omega)]; omega
 simp only [aq,zS,hl] at hm hr
 refine aT Tryz.func183 (by decide) T_ rfl rfl rfl rfl ?_
 simp only [XJ,go_sem]
 simp only [xU,go_sem]
 by_cases h1:1≤k
 case neg=>
  simp only [decide_eq_false (show ¬ ((k:Nat):Int)≥1 by omega),nO,decide_eq_false (show ¬ (1≤k∧k≤3900) by omega),go_sem]
 by_cases h2:k≤3900
 case neg=>
  simp only [decide_eq_true (show ((k:Nat):Int)≥1 by omega),decide_eq_false (show ¬ ((k:Nat):Int)≤3900 by omega),nO,decide_eq_false (show ¬ (1≤k∧k≤3900) by omega),go_sem]
 simp only [decide_eq_true (show ((k:Nat):Int)≥1 by omega),decide_eq_true (show ((k:Nat):Int)≤3900 by omega),nO,decide_eq_true (show (1≤k∧k≤3900) by omega),go_sem]
 refine bq (hm) rfl rfl rfl rfl ?_; simp only [go_sem]
 simp only [aF,w1,go_sem]
 refine dV [3,1,4] (hr) rfl ?_ (by decide) ?_ ?_ (by simp) ?_ <;> simp only [ag,ah,go_sem]
 refine au rfl ?_
 simp only [go_sem]
def jnW (n:Nat) (l:List Int) (s cnt cc:Int) (us a:Nat) (b:List Int):List aH:=[.box 160 [.ptr 1 0,.ptr 2 0,.ptr 3 0,.int cnt,.int cc],.box 150 [.sl 4 n 1 0 n,.sl 5 1 2 0 1,.int s],.box 243 [.ptr 1 0,.int 0,.int ((n / 4:Nat):Int)],.box 245 [.ptr 1 0,.int ((2*(n / 4):Nat):Int),.int ((n-2*(n / 4):Nat):Int),.int us],.dat 5 1 (aB l),.dat 227 2 (vB a b)]
def nP (cnt:Int) (p:List Int):List Int:=fc (bz cnt++p)
theorem H9 (n:Nat) (l:List Int) (s cnt cc:Int) (us:Nat) (p:List Int) (hl:l.length=n) (hn:1≤n∧n≤65536) (hu:us≤n-2*(n / 4)) (hr:nO n us cnt p.length=true):bw Tryz.prog G 95 [.ptr 0 0,aq p] (xU n l s cnt cc us) (.int 0) (jnW n l s (IntKind.i64.wrap (cnt+1)) cc (us+(nP cnt p).length) (2*(n / 4)+us) (nP cnt p)):=by
 have Cy:=hr
 unfold nO at Cy
 rw [Bool.and_eq_true,decide_eq_true_eq] at Cy
 obtain ⟨⟨k1,k2⟩,k3⟩:=Cy
 have hrl:(bz cnt++p).length=p.length+(bz cnt).length:=by rw [List.length_append,Nat.add_comm]
 have hq:=BU (G:=G) n l s cnt cc us p.length hl hn.2 hu (by omega)
 have tn:=HC (G:=G) n l s cnt cc us p (by omega)
 have hput:=HY (G:=G) l s (2*(n / 4)) (n-2*(n / 4)) us (bz cnt++p) (by omega) hu (by omega) (by rw [hrl]; exact k3)
 rw [hr] at hq
 rw [show fc (bz cnt++p)=nP cnt p from rfl] at hput
 simp only [xU,zS,lgW,vB,aq,hl] at hq tn hput
 refine cD Tryz.func95 (by decide) Zq rfl ?_
 simp only [xU,aq,aa7,go_sem]
 simp only [aF,show (((p.length:Nat):Int)==0)=false from beq_eq_false_iff_ne.2 (by omega),go_sem]
 simp only [aF,decide_eq_false (show ¬ ((p.length:Nat):Int)>3900 by omega),go_sem]
 refine av [0,1,2,3,4] (hq) rfl ?_ (by decide) ?_ ?_ (by simp) ?_ <;> simp only [ag,ah,go_sem]
 refine ey [0,1,2,3,4] (tn) rfl ?_ (by decide) ?_ ?_ ?_ <;> simp only [ag,ah,go_sem]
 refine dV [3,1,4] (hput) rfl ?_ (by decide) ?_ ?_ (by simp) ?_ <;> simp only [ag,ah,go_sem]
 refine au rfl ?_
 simp only [go_sem]
 refine dh [] [0,1,2,3,4,5] [] (vs:=[.int 0]) rfl rfl (by decide) (by simp) (by simp) rfl rfl ?_
 simp [aU,ah,LV.int]
theorem FP (n:Nat) (l:List Int) (s cnt cc:Int) (us:Nat) (p:List Int) (hl:l.length=n) (hn:1≤n∧n≤65536) (hu:us≤n-2*(n / 4)) (hr:nO n us cnt p.length=true):bw Tryz.prog G 33 [.ptr 0 0,aq p] (xU n l s cnt cc us) (.int 0) (xU n (bW l (2*(n / 4)+us) (nP cnt p)) (IntKind.i64.wrap (s+1)) (IntKind.i64.wrap (cnt+1)) cc (us+(nP cnt p).length)):=by
 have hst:=H9 (G:=G) n l s cnt cc us p hl hn hu hr
 have hfit:2*(n / 4)+us+(nP cnt p).length≤n:=by
  have Cy:=hr
  unfold nO sy at Cy
  rw [Bool.and_eq_true,decide_eq_true_eq,decide_eq_true_eq] at Cy
  have hrl:(bz cnt++p).length=p.length+(bz cnt).length:=by rw [List.length_append,Nat.add_comm]
  unfold nP
  rw [qE (by omega),hrl]
  omega
 have hsy:=jr (G:=G) l s (2*(n / 4)+us) (nP cnt p) (by omega) (by omega)
 have hov:(bW l (2*(n / 4)+us) (nP cnt p)).length=n:=by rw [dN (by omega),hl]
 simp only [xU,jnW,dM,kn,vB,aq,hov,hl,List.cons_append,List.nil_append] at hst hsy
 refine cD Tryz.func33 (by decide) ZH rfl ?_
 simp only [xU,aq,abn,go_sem]
 refine av [0,1,2,3,4] (hst) rfl ?_ (by decide) ?_ ?_ (by simp) ?_ <;> simp only [ag,ah,go_sem]
 refine av [1,4,5] (hsy) rfl ?_ (by decide) ?_ ?_ (by simp) ?_ <;> simp only [ag,ah,go_sem]
 refine dh [] [0,1,2,3,4] [] (vs:=[.int 0]) rfl rfl (by decide) (by simp) (by simp) rfl rfl ?_
 simp [aU,ah,LV.int]
theorem BQ {l:List Int} {sz:Nat} {b:List Int} {cc:Int} (h:2*sz≤l.length) (hE:ff l 0 sz b cc=0):(iS l 0 sz b cc).length=l.length:=by
 have hk:c_ l 0 sz*sz+sz≤2*sz:=by
  have:c_ l 0 sz≤1:=by unfold c_; split <;> omega
  have:=Nat.mul_le_mul_right sz this
  omega
 have hfl:(ga b cc).length≤sz:=by
  unfold ff at hE
  split at hE
  ·exact absurd hE (by decide)
  split at hE
  ·exact absurd hE (by decide)
  split at hE
  ·exact absurd hE (by decide)
  omega
 unfold iS
 have h1:(bW l (0+c_ l 0 sz*sz) (List.replicate sz 0)).length=l.length:=dN (by rw [List.length_replicate]; omega)
 rw [dN (by rw [h1]; omega),h1]
def xH (n:Nat) (l:List Int) (eW:List Int) (cnt:Int):List Int:=bW (iS l 0 (n / 4) eW cnt) (2*(n / 4)) (List.replicate (n-2*(n / 4)) 0)
theorem Gt (n:Nat) (l:List Int) (s cnt cc:Int) (us:Nat) (eW:List Int) (hl:l.length=n) (hn:64≤n∧n≤65536) (hb:∀ c∈l,0≤c∧c≤255) (lZ:eW.length≤90000) (ha:cc≠cnt) (hE:ff l 0 (n / 4) eW cnt=0):bw Tryz.prog G 31 [.ptr 0 0,aq eW] (xU n l s cnt cc us) (.int 0) (xU n (xH n l eW cnt) (IntKind.i64.wrap (IntKind.i64.wrap (IntKind.i64.wrap (s+1)+1)+1)) cnt cnt 0):=by
 have hsv:=NZ (G:=G) l s 0 (n / 4) eW cnt hb (by omega) (by omega) (by omega) lZ hE
 have yA:=BQ (l:=l) (sz:=n / 4) (b:=eW) (cc:=cnt) (by omega) hE
 have hcl:=uG (G:=G) (iS l 0 (n / 4) eW cnt) (IntKind.i64.wrap (IntKind.i64.wrap (s+1)+1)) (2*(n / 4)) (n-2*(n / 4)) us (by omega) (by omega) (by omega)
 have hcb:(bW (iS l 0 (n / 4) eW cnt) (2*(n / 4)) (List.replicate (n-2*(n / 4)) 0)).length=n:=by rw [dN (by rw [List.length_replicate]; omega),yA,hl]
 simp only [mD,zS,aq,yA,hl,hcb] at hsv hcl
 refine cD Tryz.func31 (by decide) Ie rfl ?_
 simp only [xU,xH,aq,UW,go_sem]
 simp only [show (cc==cnt)=false from beq_eq_false_iff_ne.2 ha,go_sem]
 refine dV [2,1,4] (hsv) rfl ?_ (by decide) ?_ ?_ (by simp) ?_ <;> simp only [ag,ah,go_sem]
 refine au rfl ?_
 simp only [go_sem]
 refine av [3,1,4] (hcl) rfl ?_ (by decide) ?_ ?_ (by simp) ?_ <;> simp only [ag,ah,go_sem]
 refine dh [] [0,1,2,3,4] [] (vs:=[.int 0]) rfl rfl (by decide) (by simp) (by simp) rfl rfl ?_
 simp [aU,ah,LV.int]
theorem xX (n:Nat) (l:List Int) (s cnt:Int) (us:Nat) (eW:List Int):bw Tryz.prog G 31 [.ptr 0 0,aq eW] (xU n l s cnt cnt us) (.int 3) (xU n l s cnt cnt us):=by
 refine aT Tryz.func31 (by decide) Ie rfl rfl rfl rfl ?_
 simp only [UW,go_sem]
 simp only [xU,aq,go_sem]
theorem AI (n:Nat) (l:List Int) (s cnt cc:Int) (us:Nat) (eW:List Int) (hl:l.length=n) (hn:64≤n∧n≤65536) (hb:∀ c∈l,0≤c∧c≤255) (lZ:eW.length≤90000) (he:cc≠cnt) (hE:ff l 0 (n / 4) eW cnt≠0):bw Tryz.prog G 31 [.ptr 0 0,aq eW] (xU n l s cnt cc us) (.int 3) (xU n l s cnt cc us):=by
 have hsv:=EV (G:=G) l s 0 (n / 4) eW cnt hb (by omega) (by omega) (by omega) lZ hE
 generalize ff l 0 (n / 4) eW cnt=e at *
 simp only [mD,aq,hl] at hsv
 refine aT Tryz.func31 (by decide) Ie rfl rfl rfl rfl ?_
 simp only [UW,go_sem]
 simp only [xU,aq,show (cc==cnt)=false from beq_eq_false_iff_ne.2 he,go_sem]
 refine ey [2,1,4] (hsv) rfl ?_ (by decide) ?_ ?_ ?_ <;> simp only [ag,ah,go_sem]
 simp only [show (e !=0)=true from bne_iff_ne.2 hE,go_sem]
end Dv
namespace Dv
open Go Go.Proofs
variable {G:Nat→Option (List DV)}
def ZU:=qx Tryz.f29
theorem Pw:aj Tryz.prog Tryz.f29=some ZU:=by kernel_rfl
def aa9:=qx Tryz.f83
theorem Zs:aj Tryz.prog Tryz.f83=some aa9:=by kernel_rfl
def PC:=qx Tryz.f171
theorem Kk:aj Tryz.prog Tryz.f171=some PC:=by kernel_rfl
def ZQ:=qx Tryz.f85
theorem Pr:aj Tryz.prog Tryz.f85=some ZQ:=by kernel_rfl
theorem CD (m:Nat):dL (List.replicate m 0) 0=([],0,0):=by
 unfold dL
 rw [if_neg (by omega),if_pos]
 cases m with
 | zero=>exact .inl rfl
 | succ m=>exact .inr rfl
theorem take_zero (n a b:Nat) (h:a+b≤n):((List.replicate n (0:Int)).drop a).take b=List.replicate b 0:=by
 rw [List.drop_replicate,List.take_replicate,Nat.min_eq_left (by omega)]
theorem Lz (n fr sz:Nat) (h:fr+sz≤n):je (List.replicate n 0) fr sz=([],0):=by
 unfold je qj
 rw [take_zero n fr sz h]
 unfold vi
 rw [CD]
 rfl
theorem B6 (n fr sz k:Nat) (h:fr+k*sz+sz≤n):iA (List.replicate n 0) fr sz k=none:=by
 unfold iA eF
 rw [take_zero n (fr+k*sz) sz h,CD]
 rfl
theorem zQ (n fr sz:Nat) (h:fr+2*sz≤n):fI (List.replicate n 0) fr sz=none:=by
 have h0:=B6 n fr sz 0 (by omega)
 have h1:=B6 n fr sz 1 (by omega)
 unfold fI
 have:lV (List.replicate n 0) fr sz 2=(-1,-1):=by
  simp only [lV,h0,h1]
 rw [this]
 rfl
theorem HL (n a m:Nat) (h:a+m≤n):bW (List.replicate n 0) a (List.replicate m 0)=List.replicate n 0:=by
 unfold bW
 rw [List.take_replicate,List.drop_replicate,List.length_replicate,List.replicate_append_replicate,List.replicate_append_replicate,Nat.min_eq_left (by omega)]
 congr 1
 omega
def Vq (p q:Nat):LV:=.fn (.func 171) [] [.ptr p 0,.ptr q 0]
theorem sG (rs:List (List Int)) (fr:Int):bw Tryz.prog G 83 [.d (.dH 1 (bT rs)),.int fr] [] (Vq 0 1) [.box 58 [.d (.dH 1 (bT rs))],.box 3 [.int fr]]:=by
 refine cD Tryz.func83 (by decide) Zs rfl ?_
 simp only [aa9,go_sem]
 exact dh [] [0,1] [] rfl rfl (by simp) (fun _ h=>by cases h) (fun _ h=>by cases h) rfl rfl (by simp [Vq,dg,St.obj,aD,aU,St.get,aZ,ah,ag])
def jnP (n:Nat) (l:List Int) (s cnt cc:Int) (us:Nat):List aH:=[.box 150 [.sl 1 n 1 0 n,.d (.val (.slice none 0 0)),.int s],.dat 5 1 (aB l),.box 160 [.ptr 0 0,.ptr 3 0,.ptr 4 0,.int cnt,.int cc],.box 243 [.ptr 0 0,.int 0,.int ((n / 4:Nat):Int)],.box 245 [.ptr 0 0,.int ((2*(n / 4):Nat):Int),.int ((n-2*(n / 4):Nat):Int),.int us]]
theorem IU:bw Tryz.prog G 85 [.d (.dH 1 []),.int 0] [] (.bool false) []:=by
 refine br Tryz.func85 (by decide) Pr rfl rfl ?_
 simp only [ZQ,go_sem]
def bOp (n:Nat) (s:Int):List (Option aH):=[some (.box 150 [.sl 1 n 1 0 n,.d (.val (.slice none 0 0)),.int s]),some (.dat 5 1 (aB (List.replicate n 0))),some (.box 243 [.ptr 0 0,.int 0,.int ((n / 4:Nat):Int)]),some (.box 245 [.ptr 0 0,.int ((2*(n / 4):Nat):Int),.int ((n-2*(n / 4):Nat):Int),.int 0]),some (.box 160 [.ptr 0 0,.ptr 2 0,.ptr 3 0,.int 0,.int (-1)]),some (.box 56 [.ptr 4 0]),some (.box 58 [.d (.val (.slice none 0 0))]),some (.box 58 [.d (.dH 1 [])]),some (.box 3 [.int 0])]
theorem H_ (n:Nat) (s:Int) (hn:64≤n∧n≤65536):bw Tryz.prog G 29 [.ptr 0 0] (dM (List.replicate n 0) s) (.dJ [.ptr 2 0,aq [],.d (.dH 1 []),.int 0]) (jnP n (List.replicate n 0) (IntKind.i64.wrap (s+1)) 0 (-1) 0):=by
 have hlen:(List.replicate n (0:Int)).length=n:=List.length_replicate
 have hsz:=gU (G:=G) (List.replicate n 0) s
 have Ku:=sx (G:=G) (List.replicate n 0) s 0 (n / 4) (by rw [hlen]; omega) (by omega) (by rw [hlen]; omega)
 have hz:∀ c∈List.replicate n (0:Int),0≤c∧c≤255:=fun c hc=>by rw [List.eq_of_mem_replicate hc]; decide
 have hR:=Lz n (2*(n / 4)) (n-2*(n / 4)) (by omega)
 have hlo:=xu (G:=G) (List.replicate n 0) s (2*(n / 4)) (n-2*(n / 4)) hz (by rw [hlen]; omega) (by omega) (by rw [hlen]; omega) (by rw [hR]; dsimp only; omega)
 have Ru:=uH (G:=G) (List.replicate n 0) (IntKind.i64.wrap (s+1)) 0 (n / 4) hz (by rw [hlen]; omega) (by rw [hlen]; omega)
 rw [zQ n 0 (n / 4) (by omega)] at Ru
 rw [hR] at hlo
 simp only [Nat.add_zero,Nat.sub_zero,HL n (2*(n / 4)) (n-2*(n / 4)) (by omega)] at hlo
 simp only [dM,dkS,dkL,mD,oG,aq,hlen,bT,List.map_nil] at hsz Ku hlo Ru
 have w1:IntKind.i64.wrap (((n:Nat):Int).tdiv 4)=((n / 4:Nat):Int):=by rw [Int.tdiv_eq_ediv_of_nonneg (by omega),aN (by omega) (by omega)]; omega
 have w2:IntKind.i64.wrap (2*((n / 4:Nat):Int))=((2*(n / 4):Nat):Int):=by rw [aN (by omega) (by omega)]; omega
 have w3:IntKind.i64.wrap (((n:Nat):Int)-((2*(n / 4):Nat):Int))=((n-2*(n / 4):Nat):Int):=by rw [aN (by omega) (by omega)]; omega
 refine cD Tryz.func29 (by decide) Pw rfl ?_
 simp only [dM,hlen,ZU,go_sem]
 refine av [0,1] (hsz) rfl ?_ (by decide) ?_ ?_ (by simp) ?_ <;> simp only [ag,ah,go_sem]
 simp only [decide_eq_false (show ¬ ((n:Nat):Int)<64 by omega),go_sem]
 refine av [0,1] (hsz) rfl ?_ (by decide) ?_ ?_ (by simp) ?_ <;> simp only [ag,ah,go_sem]
 simp only [w1,go_sem]
 refine av [0,1] (Ku) rfl ?_ (by decide) ?_ ?_ (by simp) ?_ <;> simp only [ag,ah,go_sem]
 simp only [w2,go_sem]
 refine av [0,1] (hsz) rfl ?_ (by decide) ?_ ?_ (by simp) ?_ <;> simp only [ag,ah,go_sem]
 simp only [w2,w3,go_sem]
 refine av [0,1] (hlo) rfl ?_ (by decide) ?_ ?_ (by simp) ?_ <;> simp only [ag,ah,go_sem]
 refine av [2,0,1] (Ru) rfl ?_ (by decide) ?_ ?_ (by simp) ?_ <;> simp only [ag,ah,go_sem]
 have hfo:=sG (G:=G) [] 0
 simp only [bT,List.map_nil,Vq] at hfo
 refine jw hfo rfl rfl rfl ?_
 simp only [go_sem]
 refine YT rfl (fun yv o=>yv=jf∧o=bOp n (IntKind.i64.wrap (s+1))++[none]) ?_ ?_
 case refine_2=>
  rintro yv af ⟨rfl,rfl⟩
  refine .inl ⟨rfl,?_⟩
  simp only [bOp,go_sem]
  have hel:=IU (G:=G)
  refine ay (hel) rfl rfl rfl rfl ?_; simp only [go_sem]
  refine dh [] [0,1,4,2,3] [] (vs:=[.ptr 4 0,.d (.dH 1 (aB [])),.d (.val (.slice none 0 0)),.int 0]) rfl rfl (by decide) (by simp) (by simp) rfl rfl ?_
  simp [aU,ah,ag,aq,LV.int]
 simp only [go_sem]
 refine Pm Tryz.func171 (by decide) Kk rfl rfl rfl ?_
 simp only [PC,go_sem]
 refine aW [10,11,4294967294] [] (fun k:Nat=>k=0) (fun k=>1-k) (fun _=>⟨[(10,.int 0),(11,.int 0),(4294967294,jf)],bOp n (IntKind.i64.wrap (s+1))++[none]⟩) 0 ?_ rfl (fun k hk=>?_)
 ·simp only [bOp,go_sem]
 simp only [bOp,go_sem]
end Dv
namespace Dv
open Go Go.Proofs
variable {G:Nat→Option (List DV)}
structure kO where
 ce:Int
 cd:List Int
 se:Int
 sd:List Int
def ic:kO:=⟨0,[],0,[]⟩
def kD:List Int→LV
 | []=>.d (.val (.slice none 0 0))
 | x::l=>aq (x::l)
def rD (x:kO):List LV:=[.int x.ce,kD x.cd,.int x.se,kD x.sd]
def gu (room term:Int) (sh:List kO) (wr:Int):List aH:=[.box 190 ([.int room,.int term]++(sh.flatMap rD++[.int wr]))]
theorem QY (k:Nat) (d:List Int):eH k (kD d)=true:=by cases d <;> rfl
theorem VD (π:Nat→Nat) (d:List Int):rn π (kD d)=kD d:=by cases d <;> rfl
theorem aL (k:Nat):∀ a b:List LV,eD k (a++b)=(eD k a&&eD k b)
 | [],b=>by simp [eD]
 | x::a,b=>by simp only [List.cons_append,eD,aL k a b,Bool.and_assoc]
theorem aV (π:Nat→Nat):∀ a b:List LV,ni π (a++b)=ni π a++ni π b
 | [],b=>rfl
 | x::a,b=>by simp only [List.cons_append,ni,aV π a b]
theorem aR (k:Nat) (sh:List kO):eD k (sh.flatMap rD)=true:=by
 induction sh with
 | nil=>rfl
 | cons x sh ih=>simp only [List.flatMap_cons,aL,ih,rD,eD,QY,LV.int,eH,Bool.and_true]
theorem bD (π:Nat→Nat) (sh:List kO):ni π (sh.flatMap rD)=sh.flatMap rD:=by
 induction sh with
 | nil=>rfl
 | cons x sh ih=>simp only [List.flatMap_cons,aV,ih,rD,ni,VD,LV.int,rn]
theorem f_ (k:Nat) (room term:Int) (sh:List kO) (wr:Int):(gu room term sh wr).all (dZ k)=true:=by
 simp only [gu,List.all_cons,List.all_nil,dZ,Bool.and_true,aL,aR]
 rfl
def abm:=qx Tryz.f35
theorem ZG:aj Tryz.prog Tryz.f35=some abm:=by kernel_rfl
def Ys:=qx Tryz.f101
theorem UT:aj Tryz.prog Tryz.f101=some Ys:=by kernel_rfl
def abh:=qx Tryz.f48
theorem ZB:aj Tryz.prog Tryz.f48=some abh:=by kernel_rfl
def Yg:=qx Tryz.f126
theorem UH:aj Tryz.prog Tryz.f126=some Yg:=by kernel_rfl
def Yr:=qx Tryz.f102
theorem US:aj Tryz.prog Tryz.f102=some Yr:=by kernel_rfl
theorem De (room:Int):bw Tryz.prog G 35 [.int room] [] (.ptr 0 0) (gu (if room>0 then room else 0) 0 (List.replicate 25 ic) 0):=by
 refine cD Tryz.func35 (by decide) ZG rfl ?_
 simp only [abm,go_sem]
 refine dh [] [0] [] (vs:=[.ptr 0 0]) rfl rfl (by decide) (by simp) (by simp) rfl rfl ?_
 simp [aU,ah]
theorem qc (room term:Int) (sh:List kO) (wr t:Int):bw Tryz.prog G 101 [.ptr 0 0,.int t] (gu room term sh wr) (.dJ []) (gu room (if t>term then t else term) sh wr):=by
 refine aT Tryz.func101 (by decide) UT rfl rfl (f_ _ _ _ _ _) rfl ?_
 simp only [gu,Ys,go_sem]
theorem Bb (room term:Int) (sh:List kO) (wr:Int):bw Tryz.prog G 48 [.ptr 0 0] (gu room term sh wr) (.int term) (gu room term sh wr):=by
 refine aT Tryz.func48 (by decide) ZB rfl rfl (f_ _ _ _ _ _) rfl ?_
 simp only [gu,abh,go_sem]
theorem ox (room term:Int) (sh:List kO) (wr:Int) (k:Nat) (hk:1≤k∧k≤24):bw Tryz.prog G 126 [.ptr 0 0,.int k] (gu room term sh wr) (.ptr 0 (2+4*k)) (gu room term sh wr):=by
 refine aT Tryz.func126 (by decide) UH rfl rfl (f_ _ _ _ _ _) rfl ?_
 simp only [gu,Yg,go_sem]
 simp only [decide_eq_false (show ¬ ((k:Nat):Int)<1 by omega),decide_eq_false (show ¬ ((k:Nat):Int)>24 by omega),go_sem]
 simp only [show k<25 by omega,show 2+k*4=2+4*k by omega,go_sem]
theorem Dm (sh:List kO):(sh.flatMap rD).length=4*sh.length:=by
 induction sh with
 | nil=>rfl
 | cons x sh ih=>rw [List.flatMap_cons,List.length_append,ih]; show 4+_=_; rw [List.length_cons]; omega
theorem JL (x:kO):∀ (sh:List kO) (k:Nat),k<sh.length→(sh.flatMap rD).take (4*k)++rD x++(sh.flatMap rD).drop (4*k+4)=(sh.set k x).flatMap rD
 | [],k,h=>absurd h (Nat.not_lt_zero _)
 | y::sh,0,_=>by simp [List.flatMap_cons,rD]
 | y::sh,k+1,h=>by
   have ih:=JL x sh k (by simpa using h)
   rw [List.set_cons_succ,List.flatMap_cons,List.flatMap_cons,← ih,show 4*(k+1)=4*k+4 by omega,show 4*k+4+4=(4*k+4)+4 by omega]
   simp [rD]
theorem ET (a b w:LV) (x:kO) (sh:List kO) (k:Nat) (h:k<sh.length):(a::b::(sh.flatMap rD++[w])).take (2+4*k)++rD x++(sh.flatMap rD++[w]).drop (2+4*k+2)=a::b::((sh.set k x).flatMap rD++[w]):=by
 have hl:=Dm sh
 rw [← JL x sh k h,show 2+4*k=(4*k+1)+1 by omega,List.take_succ_cons,List.take_succ_cons,show 4*k+1+1+2=4*k+4 by omega,List.take_append_of_le_length (by omega),List.drop_append_of_le_length (by omega)]
 simp
theorem tX (room term:Int) (sh:List kO) (wr:Int) (k:Nat) (hk:1≤k∧k≤24) (hs:sh.length=25):bw Tryz.prog G 102 [.ptr 0 0,.int k] (gu room term sh wr) (.dJ []) (gu room term (sh.set k ic) wr):=by
 have hj:=ox (G:=G) room term sh wr k hk
 simp only [gu,List.cons_append,List.nil_append] at hj
 refine aT Tryz.func102 (by decide) US rfl rfl (f_ _ _ _ _ _) rfl ?_
 simp only [gu,Yr,go_sem]
 refine gW [0] (hj) rfl ?_ (by decide) ?_ ?_ ?_ <;> simp only [ag,ah,go_sem,aV,bD,aL,aR]
 have hl:=Dm sh
 have hset:=ET (.int room) (.int term) (.int wr) ic sh k (by omega)
 have c1:2+4*k+2≤(sh.flatMap rD++[LV.int wr]).length:=by rw [List.length_append,hl]; simp; omega
 simp only [LV.int,rD,ic,kD] at hset c1
 rw [if_pos c1,hset]
 simp only [go_sem]
 rfl
end Dv
