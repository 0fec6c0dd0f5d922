/- part -/
import Derived.Test.YtkalnfkokkjliaaGreatDoorI0
import Derived.Test.YtkalnfkokkjliaaGreatDoorVD
import Derived.Test.YtkalnfkokkjliaaGreatDoorI8
import Derived.Test.YtkalnfkokkjliaaGreatDoorG1
set_option linter.all false
set_option maxHeartbeats 2000000
set_option maxRecDepth 100000
namespace Dv
open Go Go.Proofs
variable {G:Nat→Option (List DV)}
def Z0 (r:Int):Int:=if (qL .u32 r 1==0)=true then vC .u32 r 1 else xy .u32 (vC .u32 r 1) 3988292384
def xm (r:Int):Nat→Int
 | 0=>r
 | k+1=>Z0 (xm r k)
def tF (r:Int) (b:List Int):Nat→Int
 | 0=>r
 | k+1=>xm (xy .u32 (tF r b k) (IntKind.u32.wrap (b.getD k 0))) 8
def iX (s:Int) (b:List Int):Int:=if s<0∨s>4294967295 then 0 else IntKind.i64.wrap (xy .u32 4294967295 (tF (xy .u32 4294967295 (IntKind.u32.wrap s)) b b.length))
def rH (n:Int):List Int:=[IntKind.u8.wrap (vC .i64 n 24),IntKind.u8.wrap (vC .i64 n 16),IntKind.u8.wrap (vC .i64 n 8),IntKind.u8.wrap n]
def rW (b:List Int):Bool:=decide (4≤b.length)&&decide (rH (iX 0 (b.take (b.length-4)))=b.drop (b.length-4))
def VH:=qx Tryz.f321
theorem Sa:aj Tryz.prog Tryz.f321=some VH:=by kernel_rfl
def VP:=qx Tryz.f306
theorem Si:aj Tryz.prog Tryz.f306=some VP:=by kernel_rfl
def We:=qx Tryz.f273
theorem SB:aj Tryz.prog Tryz.f273=some We:=by kernel_rfl
def Wf:=qx Tryz.f272
theorem SC:aj Tryz.prog Tryz.f272=some Wf:=by kernel_rfl
def Wg:=qx Tryz.f271
theorem SD:aj Tryz.prog Tryz.f271=some Wg:=by kernel_rfl
def VQ:=qx Tryz.f305
theorem Sj:aj Tryz.prog Tryz.f305=some VQ:=by kernel_rfl
def Q9 (r:Int) (b:List Int) (k:Nat):St:=⟨[(0,.d (.val (.int .u32 (tF r b k)))),(7,ak b),(8,.int b.length),(9,.int k)],[]⟩
def M7 (x:Int) (b:List Int) (k:Nat) (j:Nat):St:=⟨[(0,.d (.val (.int .u32 (xm x j)))),(7,ak b),(8,.int b.length),(9,.int k),(17,.int j)],[]⟩
theorem Gv (r:Int) (b:List Int) (hl:b.length≤1000000):bh Tryz.prog G 321 [.d (.val (.int .u32 r)),ak b] [] (.d (.val (.int .u32 (tF r b b.length)))) []:=by
 have hlb:(az b).length=b.length:=by simp [az]
 refine bn Tryz.func321 (by decide) Sa rfl rfl ?_
 simp only [ak,VH,go_sem]
 refine aR [0,7,8,9] [] (fun k:Nat=>k≤b.length) (fun k=>b.length-k) (Q9 r b) 0 ?_ (Nat.zero_le _) (fun k hk=>?_)
 ·simp only [Q9,ak,hlb,tF,Int.natCast_zero,go_sem]
 simp only [Q9,ak,go_sem]
 by_cases hlt:k<b.length
 ·have hg:=aK (f:=fun n:Int=>[u8 n]) 0 hlt
  rw [show b.map (fun n:Int=>[u8 n])=az b from rfl] at hg
  have hnx:tF r b (k+1)=xm (xy .u32 (tF r b k) (IntKind.u32.wrap (b.getD k 0))) 8:=rfl
  generalize b.getD k 0=c at *
  simp only [decide_eq_true (show ((k:Nat):Int)<((b.length:Nat):Int) by omega),hg,u8,go_sem]
  generalize xy .u32 (tF r b k) (IntKind.u32.wrap c)=x at *
  refine aR [0,7,8,9,17] [] (fun j:Nat=>j≤8) (fun j=>8-j) (M7 x b k) 0 ?_ (Nat.zero_le _) (fun j hj=>?_)
  ·simp only [M7,ak,xm,Int.natCast_zero,go_sem]
  simp only [M7,ak,go_sem]
  by_cases hj8:j<8
  ·have hnb:xm x (j+1)=Z0 (xm x j):=rfl
   unfold Z0 at hnb
   generalize xm x j=y at *
   simp only [decide_eq_true (show ((j:Nat):Int)<8 by omega),go_sem]
   cases hb:(qL .u32 y 1==0) with
   | true=>
     rw [hb,if_pos rfl] at hnb
     simp only [go_sem]
     refine bg (j+1) ?_ ?_ (by omega) (by omega)
     ·simp only [go_sem]
     ·simp only [M7,ak,hnb,aG (show j<9223372036854775807 by omega),go_sem]
   | false=>
     rw [hb,if_neg Bool.false_ne_true] at hnb
     simp only [go_sem]
     refine bg (j+1) ?_ ?_ (by omega) (by omega)
     ·simp only [go_sem]
     ·simp only [M7,ak,hnb,aG (show j<9223372036854775807 by omega),go_sem]
  ·obtain rfl:j=8:=by omega
   simp only [show decide (((8:Nat):Int)<8)=false from rfl,go_sem]
   refine bg (k+1) ?_ ?_ (by omega) (by omega)
   ·simp only [go_sem]
   ·simp only [Q9,ak,hnx,aG (show k<9223372036854775807 by omega),go_sem]
 ·obtain rfl:k=b.length:=by omega
  simp only [decide_eq_false (show ¬ ((b.length:Nat):Int)<((b.length:Nat):Int) by omega),go_sem]
theorem Ov (s:Int) (b:List Int) (hl:b.length≤1000000):bh Tryz.prog G 306 [.int s,ak b] [] (.int (iX s b)) []:=by
 refine bn Tryz.func306 (by decide) Si rfl rfl ?_
 simp only [VP,go_sem]
 by_cases h1:s<0
 ·simp only [decide_eq_true h1,iX,h1,go_sem]
 by_cases h2:s>4294967295
 ·simp only [decide_eq_false h1,decide_eq_true h2,iX,h2,go_sem]
 have hm:iX s b=IntKind.i64.wrap (xy .u32 4294967295 (tF (xy .u32 4294967295 (IntKind.u32.wrap s)) b b.length)):=if_neg (by omega)
 simp only [decide_eq_false h1,decide_eq_false h2,hm,go_sem]
 refine ax (Gv (xy .u32 4294967295 (IntKind.u32.wrap s)) b hl) rfl rfl rfl rfl ?_; simp only [go_sem]
 rfl
theorem Bk (b:List Int) (hl:b.length≤1000000):bh Tryz.prog G 273 [ak b] [] (.int (iX 0 b)) []:=by
 refine bn Tryz.func273 (by decide) SB rfl rfl ?_
 simp only [We,go_sem]
 refine ax (Ov 0 b hl) rfl rfl rfl rfl ?_; simp only [go_sem]
theorem yD (n:Int):bh Tryz.prog G 272 [.int n] [] (ak (rH n)) []:=by
 refine cA Tryz.func272 (by decide) SC rfl ?_
 simp only [Wf,go_sem]
 exact dZ [0] rfl (by simp [St.obj,au]) (by simp [St.obj,au,aP,St.get,aW,ah,bB,ak,az,rH,u8])
theorem pP (n:Int):(rH n).length=4:=rfl
theorem Bj (l:List Int) {k:Nat} (h:k<l.length):l.take (k+1)=l.take k++[l.getD k 0]:=by
 rw [List.take_add_one]
 simp [h,List.getD]
def eqS (a b:List Int) (k:Nat):St:=⟨[(0,ak a),(1,ak b),(4,.bool false),(11,ak a),(12,.int a.length),(13,.int k)],[]⟩
theorem Mf (a b:List Int) (ha:a.length≤1000000) (hb:b.length≤1000000):bh Tryz.prog G 305 [ak a,ak b] [] (.bool (decide (a=b))) []:=by
 have hla:(az a).length=a.length:=by simp [az]
 have hlb:(az b).length=b.length:=by simp [az]
 refine bn Tryz.func305 (by decide) Sj rfl rfl ?_
 simp only [ak,VQ,go_sem]
 simp only [hla,hlb,go_sem]
 by_cases hl:a.length=b.length
 case neg=>
  simp only [show (((a.length:Nat):Int) !=((b.length:Nat):Int))=true from bne_iff_ne.2 (by omega),go_sem]
  simp only [decide_eq_false (show ¬ a=b from fun h=>hl (by rw [h]))]
 simp only [show (((a.length:Nat):Int) !=((b.length:Nat):Int))=false from by simp [hl],go_sem]
 refine aR [0,1,4,11,12,13] [] (fun k:Nat=>k≤a.length∧a.take k=b.take k) (fun k=>a.length-k) (eqS a b) 0 ?_ ⟨Nat.zero_le _,rfl⟩ ?_
 ·simp only [eqS,ak,hla,Int.natCast_zero,go_sem]
 rintro k ⟨hk,hp⟩
 simp only [eqS,ak,go_sem]
 by_cases hlt:k<a.length
 ·have hga:=aK (f:=fun n:Int=>[u8 n]) 0 hlt
  have hgb:=aK (f:=fun n:Int=>[u8 n]) 0 (show k<b.length by omega)
  rw [show a.map (fun n:Int=>[u8 n])=az a from rfl] at hga
  rw [show b.map (fun n:Int=>[u8 n])=az b from rfl] at hgb
  simp only [decide_eq_true (show ((k:Nat):Int)<((a.length:Nat):Int) by omega),hga,hgb,u8,go_sem]
  by_cases he:a.getD k 0=b.getD k 0
  ·simp only [he,bne_self_eq_false,go_sem]
   refine bg (k+1) ?_ ?_ ⟨by omega,by rw [Bj a hlt,Bj b (by omega),hp,he]⟩ (by omega)
   ·simp only [go_sem]
   ·simp only [eqS,ak,aG (show k<9223372036854775807 by omega),go_sem]
  ·simp only [show (a.getD k 0 !=b.getD k 0)=true from bne_iff_ne.2 he,go_sem]
   exact (decide_eq_false fun h=>he (by rw [h])).symm
 ·obtain rfl:k=a.length:=by omega
  simp only [decide_eq_false (show ¬ ((a.length:Nat):Int)<((a.length:Nat):Int) by omega),go_sem]
  refine (decide_eq_true ?_).symm
  rw [List.take_length,hl,List.take_length] at hp
  exact hp
theorem iG (b:List Int) (n:Nat):(az b).take n=az (b.take n):=by simp [az,List.map_take]
theorem fR (b:List Int) (n:Nat):(az b).drop n=az (b.drop n):=by simp [az,List.map_drop]
theorem aA (b:List Int):(az b).length=b.length:=by simp [az]
theorem KG (b:List Int) (hl:b.length≤1000000):bh Tryz.prog G 271 [ak b] [] (.bool (rW b)) []:=by
 have hlb:(az b).length=b.length:=by simp [az]
 refine bn Tryz.func271 (by decide) SD rfl rfl ?_
 simp only [ak,Wg,go_sem]
 simp only [hlb,aL (show -9223372036854775808≤((b.length:Nat):Int)-4 by omega) (show ((b.length:Nat):Int)-4≤9223372036854775807 by omega),go_sem]
 by_cases h4:4≤b.length
 ·simp only [decide_eq_true (show ((b.length:Nat):Int)-4≥0 by omega),hlb,go_sem]
  have c1:(0:Int)≤((b.length:Nat):Int)-4:=by omega
  have e0:(((b.length:Nat):Int)-4).toNat=b.length-4:=by omega
  have c2:0≤b.length-4∧b.length-4≤b.length∧b.length≤b.length:=by omega
  have c3:b.length-4≤b.length∧b.length≤b.length∧b.length≤b.length:=by omega
  have hi:rW b=decide (rH (iX 0 (b.take (b.length-4)))=b.drop (b.length-4)):=by unfold rW; rw [decide_eq_true h4,Bool.true_and]
  have ho:=Bk (G:=G) (b.take (b.length-4)) (by rw [List.length_take]; omega)
  have he:=Mf (G:=G) (rH (iX 0 (b.take (b.length-4)))) (b.drop (b.length-4)) (by rw [pP]; decide) (by rw [List.length_drop]; omega)
  simp only [ak] at ho he
  simp only [c1,e0,c2,Nat.sub_zero,iG,go_sem]
  refine aU (ho) rfl rfl rfl rfl ?_; simp only [go_sem]
  refine aU (yD (iX 0 (b.take (b.length-4)))) rfl rfl rfl rfl ?_; simp only [go_sem]
  have c4:(az (b.drop (b.length-4))).take (b.length-(b.length-4))=az (b.drop (b.length-4)):=List.take_of_length_le (by rw [aA,List.length_drop]; exact Nat.le_refl _)
  simp only [c1,e0,c3,hlb,fR,c4,ak,go_sem]
  refine aU (he) rfl rfl rfl rfl ?_; simp only [go_sem]
  rw [hi]
 ·simp only [decide_eq_false (show ¬ ((b.length:Nat):Int)-4≥0 by omega),rW,decide_eq_false h4,go_sem]
end Dv
namespace Dv
open Go Go.Proofs
variable {G:Nat→Option (List DV)}
def Ul:=qx Tryz.f84
theorem Hy:aj Tryz.prog Tryz.f84=some Ul:=by kernel_rfl
def OT:=qx Tryz.f232
theorem JC:aj Tryz.prog Tryz.f232=some OT:=by kernel_rfl
def WA:=qx Tryz.f231
theorem SY:aj Tryz.prog Tryz.f231=some WA:=by kernel_rfl
theorem FU (l:List Int) (hl:l.length≤1000000):bh Tryz.prog G 84 [ak l] [] (.sl 0 l.length 1 0 l.length) [.dat 5 1 (az l)]:=by
 refine cA Tryz.func84 (by decide) Hy rfl ?_
 simp only [ak,Ul,go_sem]
 cases l with
 | nil=>
   simp only [az,go_sem]
   refine ⟨?_,?_⟩
   ·exact sx [.t 2 5 1] rfl rfl
   ·exact sx [] rfl rfl
 | cons n l=>
   have hr:(az (n::l)).length=(n::l).length:=aA _
   have h0:¬ (n::l).length=0:=by simp
   have hb:(l.length+1)*1≤70368744177664:=by simp at hl; omega
   simp only [hr,h0,List.take_of_length_le (show (az (n::l)).length≤(n::l).length by rw [hr]; exact Nat.le_refl _),Nat.le_refl,go_sem]
   simp only [hb,go_sem]
   exact sx [] rfl rfl
theorem oJ (l:List Int) (hl:l.length≤1000000):bh Tryz.prog G 84 [ak l] [] (ak l) []:=by
 refine cA Tryz.func84 (by decide) Hy rfl ?_
 simp only [ak,Ul,go_sem]
 cases l with
 | nil=>
   simp only [az,go_sem]
   refine ⟨?_,?_⟩
   ·exact dZ [] rfl (by simp) (by simp [aP,St.get,aW,ah])
   ·exact dZ [0] rfl (by simp [St.obj,au]) (by simp [St.obj,au,aP,St.get,aW,ah,bB])
 | cons n l=>
   have hr:(az (n::l)).length=(n::l).length:=aA _
   have h0:¬ (n::l).length=0:=by simp
   have hb:(l.length+1)*1≤70368744177664:=by simp at hl; omega
   simp only [hr,h0,List.take_of_length_le (show (az (n::l)).length≤(n::l).length by rw [hr]; exact Nat.le_refl _),Nat.le_refl,go_sem]
   simp only [hb,go_sem]
   exact dZ [0] rfl (by simp [St.obj,au]) (by simp [St.obj,au,aP,St.get,aW,ah,bB,List.take_of_length_le,hr])
theorem kT (a b:List Int):az (a++b)=az a++az b:=by simp [az]
def bR (ls:List (List Int)):List (List DV):=ls.map fun b=>[.dK 1 (az b)]
def cat (ls:List (List Int)) (k:Nat):List Int:=(ls.take k).flatten
theorem FW (ls:List (List Int)) {k:Nat} (h:k<ls.length):cat ls (k+1)=cat ls k++ls.getD k []:=by
 unfold cat
 rw [List.take_add_one,List.flatten_append]
 simp [h,List.getD]
theorem Qj (ls:List (List Int)) (k:Nat):(cat ls k).length≤ls.flatten.length:=by
 have:ls.flatten=(ls.take k).flatten++(ls.drop k).flatten:=by rw [← List.flatten_append,List.take_append_drop]
 rw [this,List.length_append]
 exact Nat.le_add_right _ _
def U3 (ls:List (List Int)) (k:Nat):St:=⟨[(0,.d (.dK 1 (bR ls))),(2,.d (.val (.slice none 0 0))),(3,.int (cat ls k).length),(9,.d (.dK 1 (bR ls))),(10,.int ls.length),(11,.int k)],[]⟩
def U2 (ls:List (List Int)) (k:Nat):St:=⟨[(6,.sl 0 (cat ls k).length 1 0 (cat ls k).length),(25,.d (.dK 1 (bR ls))),(26,.int ls.length),(27,.int k)],[some (.dat 5 1 (az (cat ls k)))]⟩
theorem s_ (ls:List (List Int)) (hl:ls.length≤100) (ht:ls.flatten.length≤100000):bh Tryz.prog G 232 [.d (.dK 1 (bR ls))] [] (ak ls.flatten) []:=by
 have hlc:(bR ls).length=ls.length:=by simp [bR]
 refine cA Tryz.func232 (by decide) JC rfl ?_
 simp only [ak,OT,go_sem]
 refine aR [0,2,3,9,10,11] [] (fun k:Nat=>k≤ls.length) (fun k=>ls.length-k) (U3 ls) 0 ?_ (Nat.zero_le _) (fun k hk=>?_)
 ·simp only [U3,hlc,Int.natCast_zero,cat,List.flatten_nil,go_sem]
 simp only [U3,go_sem]
 by_cases hlt:k<ls.length
 ·have hg:=aK (f:=fun b:List Int=>[DV.dK 1 (az b)]) [] hlt
  rw [show ls.map (fun b:List Int=>[DV.dK 1 (az b)])=bR ls from rfl] at hg
  have hc:=congrArg List.length (FW ls hlt)
  rw [List.length_append] at hc
  have h1:=Qj ls (k+1)
  generalize ls.getD k []=b at *
  have hw:IntKind.i64.wrap (((cat ls k).length:Int)+(b.length:Int))=((cat ls (k+1)).length:Int):=by rw [aL (by omega) (by omega),hc]; omega
  simp only [decide_eq_true (show ((k:Nat):Int)<((ls.length:Nat):Int) by omega),hg,aA,hw,decide_eq_false (show ¬ (((cat ls (k+1)).length:Nat):Int)<0 by omega),go_sem]
  refine bg (k+1) ?_ ?_ (by omega) (by omega)
  ·simp only [go_sem]
  ·simp only [U3,aG (show k<9223372036854775807 by omega),go_sem]
 obtain rfl:k=ls.length:=by omega
 have hcl:cat ls ls.length=ls.flatten:=by unfold cat; rw [List.take_length]
 simp only [decide_eq_false (show ¬ ((ls.length:Nat):Int)<((ls.length:Nat):Int) by omega),hcl,go_sem]
 refine gu (zW ls.flatten.length ht) rfl rfl rfl ?_
 simp only [go_sem]
 refine aR [6,25,26,27] [] (fun k:Nat=>k≤ls.length) (fun k=>ls.length-k) (U2 ls) 0 ?_ (Nat.zero_le _) (fun k hk=>?_)
 ·simp only [U2,hlc,Int.natCast_zero,cat,List.flatten_nil,az,go_sem]
 simp only [U2,go_sem]
 by_cases hlt:k<ls.length
 ·have hg:=aK (f:=fun b:List Int=>[DV.dK 1 (az b)]) [] hlt
  rw [show ls.map (fun b:List Int=>[DV.dK 1 (az b)])=bR ls from rfl] at hg
  have hs:=FW ls hlt
  have hc:=congrArg List.length hs
  rw [List.length_append] at hc
  have h1:=Qj ls (k+1)
  generalize ls.getD k []=b at *
  have hb:(cat ls k).length+b.length≤100000:=by omega
  simp only [decide_eq_true (show ((k:Nat):Int)<((ls.length:Nat):Int) by omega),hg,aA,← kT,← hs,show (cat ls (k+1)).length*1≤70368744177664 by omega,← hc,go_sem]
  refine bg (k+1) ?_ ?_ (by omega) (by omega)
  ·simp only [go_sem]
  ·simp only [U2,aG (show k<9223372036854775807 by omega),go_sem]
 obtain rfl:k=ls.length:=by omega
 simp only [decide_eq_false (show ¬ ((ls.length:Nat):Int)<((ls.length:Nat):Int) by omega),hcl,go_sem]
 exact dZ [0] rfl (by simp [St.obj,au]) (by simp [St.obj,au,aP,St.get,aW,ah,bB,List.take_of_length_le,aA])
def s4 (a b c:List Int):Nat→List Int
 | 0=>[]
 | 1=>a
 | 2=>a++b
 | 3=>a++b++c
 | _=>a++b++c++[1]
def f4 (a b c:List Int):List aC:=[.box 57 [.d (.dK 1 (az a)),.d (.dK 1 (az b)),.d (.dK 1 (az c)),.sl 1 1 1 0 1],.dat 5 1 [[.val (.int .u8 1)]]]
def Iy (a b c:List Int) (k:Nat):St:=⟨[(0,.sl 0 0 1 0 4),(2,.d (.val (.slice none 0 0))),(3,.int (s4 a b c k).length),(9,.sl 0 0 1 0 4),(10,.int 4),(11,.int k)],(f4 a b c).map some⟩
def Iw (a b c:List Int) (k:Nat):St:=⟨[(6,.sl 2 (s4 a b c k).length 1 0 (s4 a b c k).length),(25,.sl 0 0 1 0 4),(26,.int 4),(27,.int k)],(f4 a b c).map some++[some (.dat 5 1 (az (s4 a b c k)))]⟩
theorem FR (o:Bool) (a b c:List Int) (ht:(a++b++c).length≤10000):bh Tryz.prog G 232 [.sl 0 0 1 0 4] (f4 a b c) (if o=true then .sl 2 (a++b++c++[1]).length 1 0 (a++b++c++[1]).length else ak (a++b++c++[1])) (f4 a b c++if o=true then [.dat 5 1 (az (a++b++c++[1]))] else []):=by
 rw [List.length_append,List.length_append] at ht
 have l0:(s4 a b c 0).length=0:=rfl
 have l1:(s4 a b c 1).length=a.length:=rfl
 have l2:(s4 a b c 2).length=a.length+b.length:=List.length_append
 have l3:(s4 a b c 3).length=a.length+b.length+c.length:=by simp [s4]; omega
 have l4:(s4 a b c 4).length=a.length+b.length+c.length+1:=by simp [s4]; omega
 have w0:IntKind.i64.wrap (((s4 a b c 0).length:Int)+((az a).length:Int))=((s4 a b c 1).length:Int):=by rw [aL (by rw [aA]; omega) (by rw [aA]; omega),aA]; omega
 have w1:IntKind.i64.wrap (((s4 a b c 1).length:Int)+((az b).length:Int))=((s4 a b c 2).length:Int):=by rw [aL (by rw [aA]; omega) (by rw [aA]; omega),aA]; omega
 have w2:IntKind.i64.wrap (((s4 a b c 2).length:Int)+((az c).length:Int))=((s4 a b c 3).length:Int):=by rw [aL (by rw [aA]; omega) (by rw [aA]; omega),aA]; omega
 have w3:IntKind.i64.wrap (((s4 a b c 3).length:Int)+1)=((s4 a b c 4).length:Int):=by rw [aL (by omega) (by omega)]; omega
 have r0:az (s4 a b c 0)++az a=az (s4 a b c 1):=by rfl
 have r1:az (s4 a b c 1)++az b=az (s4 a b c 2):=by rw [← kT]; rfl
 have r2:az (s4 a b c 2)++az c=az (s4 a b c 3):=by rw [← kT]; rfl
 have r3:az (s4 a b c 3)++[[DV.val (.int .u8 1)]]=az (s4 a b c 4):=by rw [show s4 a b c 4=s4 a b c 3++[1] from rfl,kT]; rfl
 have c0:((s4 a b c 0).length=(az (s4 a b c 0)).length∧(az (s4 a b c 1)).length*1≤70368744177664):=⟨(aA _).symm,by rw [aA]; omega⟩
 have e0:(az (s4 a b c 0)).length+(az a).length=(s4 a b c 1).length:=by rw [aA,aA]; omega
 have c1:((s4 a b c 1).length=(az (s4 a b c 1)).length∧(az (s4 a b c 2)).length*1≤70368744177664):=⟨(aA _).symm,by rw [aA]; omega⟩
 have e1:(az (s4 a b c 1)).length+(az b).length=(s4 a b c 2).length:=by rw [aA,aA]; omega
 have c2:((s4 a b c 2).length=(az (s4 a b c 2)).length∧(az (s4 a b c 3)).length*1≤70368744177664):=⟨(aA _).symm,by rw [aA]; omega⟩
 have e2:(az (s4 a b c 2)).length+(az c).length=(s4 a b c 3).length:=by rw [aA,aA]; omega
 have c3:((s4 a b c 3).length=(az (s4 a b c 3)).length∧(az (s4 a b c 4)).length*1≤70368744177664):=⟨(aA _).symm,by rw [aA]; omega⟩
 have e3:(az (s4 a b c 3)).length+1=(s4 a b c 4).length:=by rw [aA]; omega
 refine cA Tryz.func232 (by decide) JC rfl ?_
 simp only [f4,OT,go_sem]
 refine aR [0,2,3,9,10,11] [] (fun k:Nat=>k≤4) (fun k=>4-k) (Iy a b c) 0 ?_ (Nat.zero_le _) (fun k hk=>?_)
 ·simp only [Iy,f4,s4,Int.natCast_zero,go_sem]
 simp only [Iy,f4,go_sem]
 match k,hk with
 | 0,_=>
   simp only [show decide (((0:Nat):Int)<4)=true from rfl,w0,decide_eq_false (show ¬ (((s4 a b c 1).length:Nat):Int)<0 by omega),go_sem]
   refine bg 1 ?_ ?_ (by decide) (by decide)
   ·simp only [go_sem]
   ·simp only [Iy,f4,show IntKind.i64.wrap 1=1 from rfl,go_sem]
 | 1,_=>
   simp only [show decide (((1:Nat):Int)<4)=true from rfl,w1,decide_eq_false (show ¬ (((s4 a b c 2).length:Nat):Int)<0 by omega),go_sem]
   refine bg 2 ?_ ?_ (by decide) (by decide)
   ·simp only [go_sem]
   ·simp only [Iy,f4,show IntKind.i64.wrap 2=2 from rfl,go_sem]
 | 2,_=>
   simp only [show decide (((2:Nat):Int)<4)=true from rfl,w2,decide_eq_false (show ¬ (((s4 a b c 3).length:Nat):Int)<0 by omega),go_sem]
   refine bg 3 ?_ ?_ (by decide) (by decide)
   ·simp only [go_sem]
   ·simp only [Iy,f4,show IntKind.i64.wrap 3=3 from rfl,go_sem]
 | 3,_=>
   simp only [show decide (((3:Nat):Int)<4)=true from rfl,w3,decide_eq_false (show ¬ (((s4 a b c 4).length:Nat):Int)<0 by omega),go_sem]
   refine bg 4 ?_ ?_ (by decide) (by decide)
   ·simp only [go_sem]
   ·simp only [Iy,f4,show IntKind.i64.wrap 4=4 from rfl,go_sem]
 | 4,_=>
   simp only [show decide (((4:Nat):Int)<4)=false from rfl,go_sem]
   have ht4:(s4 a b c 4).length≤100000:=by omega
   refine gu (zW (s4 a b c 4).length ht4) rfl rfl rfl ?_
   simp only [go_sem]
   refine aR [6,25,26,27] [] (fun k:Nat=>k≤4) (fun k=>4-k) (Iw a b c) 0 ?_ (Nat.zero_le _) (fun k hk=>?_)
   ·simp only [Iw,f4,l0,Int.natCast_zero,go_sem]
    rfl
   simp only [Iw,f4,go_sem]
   match k,hk with
   | 0,_=>
     simp only [show decide (((0:Nat):Int)<4)=true from rfl,r0,c0,e0,go_sem]
     refine bg 1 ?_ ?_ (by decide) (by decide)
     ·simp only [go_sem]
     ·simp only [Iw,f4,show IntKind.i64.wrap 1=1 from rfl,go_sem]
   | 1,_=>
     simp only [show decide (((1:Nat):Int)<4)=true from rfl,r1,c1,e1,go_sem]
     refine bg 2 ?_ ?_ (by decide) (by decide)
     ·simp only [go_sem]
     ·simp only [Iw,f4,show IntKind.i64.wrap 2=2 from rfl,go_sem]
   | 2,_=>
     simp only [show decide (((2:Nat):Int)<4)=true from rfl,r2,c2,e2,go_sem]
     refine bg 3 ?_ ?_ (by decide) (by decide)
     ·simp only [go_sem]
     ·simp only [Iw,f4,show IntKind.i64.wrap 3=3 from rfl,go_sem]
   | 3,_=>
     simp only [show decide (((3:Nat):Int)<4)=true from rfl,r3,c3,e3,go_sem]
     refine bg 4 ?_ ?_ (by decide) (by decide)
     ·simp only [go_sem]
     ·simp only [Iw,f4,show IntKind.i64.wrap 4=4 from rfl,go_sem]
   | 4,_=>
     simp only [show decide (((4:Nat):Int)<4)=false from rfl,go_sem]
     cases o
     ·refine dm [] [0,1] [2] (vs:=[.sl 2 (s4 a b c 4).length 1 0 (s4 a b c 4).length]) rfl rfl (by decide) (by simp) (by simp [St.obj,au,c_]) rfl rfl ?_
      simp [St.obj,au,aP,ah,bB,ak,List.take_of_length_le,aA,s4,c_]
     ·refine dm [] [0,1,2] [] (vs:=[.sl 2 (s4 a b c 4).length 1 0 (s4 a b c 4).length]) rfl rfl (by decide) (by simp) (by simp) rfl rfl ?_
      simp [aP,ah,s4]
def eT (p:List Int):List Int:=if p.length=0∨p.length>4000 then [] else br p.length++p++rH (iX 0 p)++[1]
theorem oB (p:List Int) (hl:p.length≤1000000):bh Tryz.prog G 231 [ak p] [] (ak (eT p)) []:=by
 refine cA Tryz.func231 (by decide) SY rfl ?_
 simp only [ak,WA,aA,go_sem]
 by_cases h0:p.length=0
 ·have hp:eT p=[]:=if_pos (.inl h0)
  simp only [show (((p.length:Nat):Int)==0)=true by rw [beq_iff_eq]; omega,go_sem]
  exact dZ [] rfl (by simp) (by simp [aP,St.get,aW,ah,hp,az])
 have e0:(((p.length:Nat):Int)==0)=false:=beq_eq_false_iff_ne.2 (by omega)
 by_cases h1:p.length>4000
 ·have hp:eT p=[]:=if_pos (.inr h1)
  simp only [e0,aA,decide_eq_true (show ((p.length:Nat):Int)>4000 by omega),go_sem]
  exact dZ [] rfl (by simp) (by simp [aP,St.get,aW,ah,hp,az])
 have hp:eT p=br p.length++p++rH (iX 0 p)++[1]:=if_neg (by omega)
 simp only [e0,aA,decide_eq_false (show ¬ ((p.length:Nat):Int)>4000 by omega),go_sem]
 have hn:=om (G:=G) (p.length:Int)
 have ho:=Bk (G:=G) p hl
 have hs:=yD (G:=G) (iX 0 p)
 simp only [ak] at hn ho hs
 refine ax (hn) rfl rfl rfl rfl ?_; simp only [go_sem]
 refine ax (ho) rfl rfl rfl rfl ?_; simp only [go_sem]
 refine ax (hs) rfl rfl rfl rfl ?_; simp only [go_sem]
 have hn9:=iA (p.length:Int)
 have hs4:=pP (iX 0 p)
 refine av [1,0] (FR false (br p.length) p (rH (iX 0 p)) (by rw [List.length_append,List.length_append]; omega)) rfl (by simp only [ag,ah,go_sem]) (by decide) (by simp only [f4,go_sem]) (by simp only [f4,go_sem]) (Nat.le_refl _) ?_
 simp only [f4,ak,Bool.false_eq_true,go_sem]
 rw [← hp]
 exact dZ [] rfl (by simp) (by simp [aP,St.get,aW,ah])
end Dv
namespace Dv
open Go Go.Proofs
variable {G:Nat→Option (List DV)}
def eN (l:List Int) (s:Int):List aC:=[.box 150 [.sl 1 l.length 1 0 l.length,.d (.val (.slice none 0 0)),.int s],.dat 5 1 (az l)]
def vi (at0:Nat) (b:List Int):List (List DV):=[[i64 at0,.dK 1 (az b)]]
def jK (l:List Int) (s:Int) (at0:Nat) (b:List Int):List aC:=[.box 150 [.sl 1 l.length 1 0 l.length,.sl 2 1 2 0 1,.int s],.dat 5 1 (az l),.dat 227 2 (vi at0 b)]
def bN (l:List Int) (a:Nat) (b:List Int):List Int:=l.take a++b++l.drop (a+b.length)
theorem dR {l b:List Int} {a:Nat} (h:a+b.length≤l.length):(bN l a b).length=l.length:=by
 unfold bN
 rw [List.length_append,List.length_append,List.length_take,List.length_drop]
 omega
def aa6:=qx Tryz.f27
theorem Za:aj Tryz.prog Tryz.f27=some aa6:=by kernel_rfl
def aaS:=qx Tryz.f79
theorem YX:aj Tryz.prog Tryz.f79=some aaS:=by kernel_rfl
def XI:=qx Tryz.f130
theorem T8:aj Tryz.prog Tryz.f130=some XI:=by kernel_rfl
def W6:=qx Tryz.f186
theorem Tq:aj Tryz.prog Tryz.f186=some W6:=by kernel_rfl
def OZ:Nat×C×List RV:=(10,
(.seq (.qV [qo 4 (.mv (qk 0))])
 (.seq (.qV [qm 5 0,
 qo 6 (.nD (.t 5)),
 qo 7 (.iB 0 (.t 6)),
 qm 8 1,
 qo 9 ((.more (.ata (.t 7) (.t 8)))),
 qm 4 9])
 .ret)),
[(.t 4)])
theorem JJ:aj Tryz.prog Tryz.f127=some OZ:=by kernel_rfl
theorem w_ (n:Nat) (h1:1≤n) (h2:n≤65536):bh Tryz.prog G 27 [.int n] [] (.ptr 0 0) (eN (List.replicate n 0) 0):=by
 refine cA Tryz.func27 (by decide) Za rfl ?_
 simp only [aa6,go_sem]
 simp only [decide_eq_false (show ¬ ((n:Nat):Int)<1 by omega),decide_eq_false (show ¬ ((n:Nat):Int)>65536 by omega),go_sem]
 have c1:n*1≤70368744177664∧((n:Nat):Int)≤9223372036854775807:=by omega
 simp only [c1,go_sem]
 refine dm [] [1,0] [] (vs:=[.ptr 1 0]) rfl rfl (by decide) (by simp) (by simp) ?_ ?_ ?_
 ·simp only [eN,List.length_replicate,az,List.map_replicate,u8]
  rfl
 ·simp only [eN,List.length_replicate,az,List.map_replicate,u8,go_sem]
 ·simp [aP,ah]
theorem iZ (l:List Int) (s:Int):bh Tryz.prog G 79 [.ptr 0 0] (eN l s) (.int l.length) (eN l s):=by
 refine aQ Tryz.func79 (by decide) YX rfl rfl rfl rfl ?_
 simp only [aaS,go_sem]
 simp only [eN,go_sem]
theorem MH (l:List Int) (s:Int):bh Tryz.prog G 127 [.ptr 0 2,.int 1] (eN l s) (.int (IntKind.i64.wrap (s+1))) (eN l (IntKind.i64.wrap (s+1))):=by
 refine aQ Tryz.func127 (by decide) JJ rfl rfl rfl rfl ?_
 simp only [OZ,go_sem]
 simp only [eN,go_sem]
theorem ga (l:List Int) (s:Int) (a:Nat) (b:List Int) (h:a+b.length≤l.length) (hl:l.length≤65536):bh Tryz.prog G 130 [.ptr 0 0,.int a,ak b] (eN l s) (.int 0) (jK l s a b):=by
 refine cA Tryz.func130 (by decide) T8 rfl ?_
 simp only [eN,ak,XI,go_sem]
 have w1:IntKind.i64.wrap ((l.length:Int)-(b.length:Int))=(l.length:Int)-b.length:=aL (by omega) (by omega)
 simp only [aA,decide_eq_false (show ¬ ((a:Nat):Int)<0 by omega),decide_eq_false (show ¬ ((b.length:Nat):Int)>((l.length:Nat):Int) by omega),w1,decide_eq_false (show ¬ ((a:Nat):Int)>(l.length:Int)-(b.length:Int) by omega),go_sem]
 have hc:=oJ (G:=G) b (by omega)
 simp only [ak] at hc
 refine aU (hc) rfl rfl rfl rfl ?_; simp only [go_sem]
 refine an rfl ?_
 simp only [go_sem]
 refine dm [] [0,1,3] [] (vs:=[.int 0]) rfl rfl (by decide) (by simp) (by simp) ?_ ?_ ?_
 ·simp only [jK,vi]
  rfl
 ·simp only [jK,vi,go_sem]
 ·simp [aP,ah,LV.int]
def dwS (l:List Int) (s:Int) (a:Nat) (b:List Int) (k:Nat):St:=⟨[(3,.int (if k=0 then 0 else (b.length:Int))),(11,.sl 2 1 2 0 1),(12,.int 1),(13,.int k)],(jK l s a b).map some⟩
theorem A_ (l:List Int) (s:Int) (a:Nat) (b:List Int) (hb:b.length≤1000000):bh Tryz.prog G 186 [.ptr 0 0] (jK l s a b) (.int b.length) (jK l s a b):=by
 refine aQ Tryz.func186 (by decide) Tq rfl rfl rfl rfl ?_
 simp only [W6,go_sem]
 simp only [jK,vi,go_sem]
 refine aR [3,11,12,13] [] (fun k:Nat=>k≤1) (fun k=>1-k) (dwS l s a b) 0 ?_ (Nat.zero_le _) (fun k hk=>?_)
 ·simp only [dwS,jK,vi,go_sem]
 simp only [dwS,jK,vi,go_sem]
 match k,hk with
 | 0,_=>
   have w1:IntKind.i64.wrap (0+(b.length:Int))=b.length:=by rw [aL (by omega) (by omega)]; omega
   simp only [show decide (((0:Nat):Int)<1)=true from rfl,aA,w1,show (0:Nat)=0 from rfl,go_sem]
   refine bg 1 ?_ ?_ (by decide) (by decide)
   ·simp only [go_sem]
   ·simp only [dwS,jK,vi,show IntKind.i64.wrap 1=1 from rfl,show ¬ (1:Nat)=0 by decide,go_sem]
 | 1,_=>
   simp only [show decide (((1:Nat):Int)<1)=false from rfl,show ¬ (1:Nat)=0 by decide,go_sem]
end Dv
namespace Dv
open Go Go.Proofs
variable {G:Nat→Option (List DV)}
def XK:=qx Tryz.f120
theorem T_:aj Tryz.prog Tryz.f120=some XK:=by kernel_rfl
def aaL:=qx Tryz.f96
theorem YP:aj Tryz.prog Tryz.f96=some aaL:=by kernel_rfl
def aaY:=qx Tryz.f58
theorem Y3:aj Tryz.prog Tryz.f58=some aaY:=by kernel_rfl
def jw (keep:Int) (b:List Int):Nat:=(max 0 (min keep b.length)).toNat
def ddS (l:List Int) (s:Int) (a:Nat) (b:List Int) (keep:Int) (k:Nat):St:=⟨[(0,.ptr 0 0),(1,.int (if k=0 then keep else IntKind.i64.wrap (keep-((jw keep b:Nat):Int)))),(10,.sl 2 1 2 0 1),(11,.int 1),(12,.int k)],if k=0 then (jK l s a b).map some else (jK (bN l a (b.take (jw keep b))) s a b).map some⟩
theorem DE (l:List Int) (s:Int) (a:Nat) (b:List Int) (h:a+b.length≤l.length) (hl:1≤l.length∧l.length≤65536) (keep:Int):bh Tryz.prog G 120 [.ptr 0 0,.int keep] (jK l s a b) (.dH []) (eN (bN l a (b.take (jw keep b))) s++[.dat 227 2 (vi a b)]):=by
 obtain ⟨m,hm⟩:∃ m,l.length=m+1:=⟨l.length-1,by omega⟩
 refine cA Tryz.func120 (by decide) T_ rfl ?_
 simp only [jK,vi,XK,go_sem]
 refine aR [0,1,10,11,12] [] (fun k:Nat=>k≤1) (fun k=>1-k) (ddS l s a b keep) 0 ?_ (Nat.zero_le _) (fun k hk=>?_)
 ·simp only [ddS,jK,vi,go_sem]
 simp only [ddS,jK,vi,go_sem]
 match k,hk with
 | 0,_=>
   have hkn:(if (if (b.length:Int)<keep then (b.length:Int) else keep)>0 then (if (b.length:Int)<keep then (b.length:Int) else keep) else 0)=((jw keep b:Nat):Int):=by unfold jw; split <;> split <;> omega
   have hkl:jw keep b≤b.length:=by unfold jw; omega
   have c1:a≤m+1∧m+1≤m+1:=by omega
   have c2:0≤jw keep b∧jw keep b≤b.length∧b.length≤b.length:=by omega
   have c3:(0:Int)≤((jw keep b:Nat):Int):=by omega
   simp only [show decide (((0:Nat):Int)<1)=true from rfl,aA,hm,hkn,show (0:Nat)=0 from rfl,c1,c2,c3,iG,Nat.sub_zero,go_sem]
   have hbt:(b.take (jw keep b)).length≤b.length:=by rw [List.length_take]; omega
   have c4:a+(m+1-a)≤m+1∧(b.take (jw keep b)).length≤m+1-a∧az l≠[]:=⟨by omega,by omega,fun e=>by have:=congrArg List.length e; rw [aA,hm] at this; exact absurd this (by simp)⟩
   have hov:az (l.take a)++az (b.take (jw keep b))++az (l.drop (a+(b.take (jw keep b)).length))=az (bN l a (b.take (jw keep b))):=by rw [← kT,← kT]; rfl
   have hol:(bN l a (b.take (jw keep b))).length=m+1:=by rw [dR (by omega),hm]
   rw [if_pos c4,fR,hov]
   simp only [go_sem]
   refine an rfl ?_
   simp only [go_sem]
   refine bg 1 ?_ ?_ (by decide) (by decide)
   ·simp only [go_sem]
   ·simp only [ddS,jK,vi,hol,show IntKind.i64.wrap 1=1 from rfl,show ¬ (1:Nat)=0 by decide,go_sem]
 | 1,_=>
   simp only [show decide (((1:Nat):Int)<1)=false from rfl,show ¬ (1:Nat)=0 by decide,go_sem]
   refine dm [] [0,1,2] [] (vs:=[]) rfl rfl (by decide) (by simp) (by simp) ?_ ?_ ?_
   ·simp only [eN,vi]
    rfl
   ·simp only [eN,vi,go_sem]
   ·simp [aP,ah,ag]
theorem Lz (b:List Int):jw b.length b=b.length:=by unfold jw; omega
theorem gK (l:List Int) (s:Int) (a:Nat) (b:List Int) (h:a+b.length≤l.length) (hl:1≤l.length∧l.length≤65536):bh Tryz.prog G 96 [.ptr 0 0] (jK l s a b) (.dH []) (eN (bN l a b) (IntKind.i64.wrap (s+1))++[.dat 227 2 (vi a b)]):=by
 have hd:=DE (G:=G) l s a b h hl b.length
 rw [Lz,List.take_length] at hd
 have hw:=A_ (G:=G) l s a b (by omega)
 have ha:=MH (G:=G) (bN l a b) s
 simp only [jK,eN,vi,List.cons_append,List.nil_append] at hd hw ha
 refine aQ Tryz.func96 (by decide) YP rfl rfl rfl rfl ?_
 simp only [aaL,go_sem]
 simp only [jK,eN,vi,go_sem]
 refine av [0,1,2] (hw) rfl ?_ (by decide) ?_ ?_ (by simp) ?_ <;> simp only [ag,ah,go_sem]
 refine av [0,1,2] (hd) rfl ?_ (by decide) ?_ ?_ (by simp) ?_ <;> simp only [ag,ah,go_sem]
 refine av [0,1] (ha) rfl ?_ (by decide) ?_ ?_ (by simp) ?_ <;> simp only [ag,ah,go_sem]
theorem Is (l:List Int) (hl:1≤l.length∧l.length≤1000000):bh Tryz.prog G 84 [.sl 0 l.length 1 0 l.length] [.dat 5 1 (az l)] (.sl 1 l.length 1 0 l.length) [.dat 5 1 (az l),.dat 5 1 (az l)]:=by
 obtain ⟨m,hm⟩:∃ m,l.length=m+1:=⟨l.length-1,by omega⟩
 have hr:(az l).length=m+1:=by rw [aA,hm]
 have ht:(az l).take (m+1)=az l:=List.take_of_length_le (by omega)
 rw [hm]
 refine cA Tryz.func84 (by decide) Hy rfl ?_
 simp only [Ul,go_sem]
 have hb:(m+1)*1≤70368744177664:=by omega
 simp only [hr,ht,Nat.le_refl,go_sem]
 simp only [hr,hb,go_sem]
 refine dm [] [0,1] [] (vs:=[.sl 1 (m+1) 1 0 (m+1)]) rfl rfl (by decide) (by simp) (by simp) rfl rfl ?_
 simp [aP,ah]
theorem iu (l:List Int) (s:Int) (hl:1≤l.length∧l.length≤65536):bh Tryz.prog G 58 [.ptr 0 0] (eN l s) (ak l) (eN l s):=by
 obtain ⟨m,hm⟩:∃ m,l.length=m+1:=⟨l.length-1,by omega⟩
 refine cA Tryz.func58 (by decide) Y3 rfl ?_
 simp only [eN,aaY,go_sem]
 have hc:=Is (G:=G) l (by omega)
 refine av [1] (hc) rfl ?_ (by decide) ?_ ?_ (by simp) ?_ <;> simp only [ag,ah,go_sem]
 refine aR [3,16,17,18] [] (fun k:Nat=>k=0) (fun k=>1-k) (fun _=>⟨[(3,.sl 2 l.length 1 0 l.length),(16,.d (.val (.slice none 0 0))),(17,.int 0),(18,.int 0)],(eN l s++[aC.dat 5 1 (az l)]).map some⟩) 0 ?_ rfl (fun k hk=>?_)
 ·simp only [eN,go_sem]
 simp only [eN,go_sem]
 refine dm [] [0,1] [2] (vs:=[.sl 2 l.length 1 0 l.length]) rfl rfl (by decide) (by simp) (by simp [St.obj,au,c_]) rfl rfl ?_
 simp [St.obj,au,aP,ah,bB,ak,List.take_of_length_le,aA,c_]
end Dv
namespace Dv
open Go Go.Proofs
variable {G:Nat→Option (List DV)}
def dJ (b:List Int) (a:Nat):List Int×Nat×Int:=
 if a>b.length then ([],a,2) else if a=b.length∨b.getD a 0=0 then ([],a,0) else
 match fZ b a with
 | none=>([],a,2)
 | some (n,fr)=>
   if n>4000∨n+4≥(b.length:Int)-fr then ([],a,2)
   else if rW ((b.drop fr).take (n.toNat+4))=false∨b.getD (fr+n.toNat+4) 0≠1 then ([],a,2)
   else ((b.drop fr).take n.toNat,fr+n.toNat+5,1)
def o9 (q:List Int×Nat×Int):LV:=.dH [ak q.1,.int q.2.1,.int q.2.2]
def WH:=qx Tryz.f226
theorem S7:aj Tryz.prog Tryz.f226=some WH:=by kernel_rfl
def Xe:=qx Tryz.f167
theorem Tz:aj Tryz.prog Tryz.f167=some Xe:=by kernel_rfl
theorem uK (b:List Int) (hb:∀ c∈b,0≤c∧c≤255) (hl:b.length≤1000000) (a:Nat) (ha:a≤1000000):bh Tryz.prog G 226 [ak b,.int a] [] (o9 (dJ b a)) []:=by
 have hlb:(az b).length=b.length:=aA b
 refine cA Tryz.func226 (by decide) S7 rfl ?_
 simp only [ak,WH,go_sem]
 simp only [decide_eq_false (show ¬ ((a:Nat):Int)<0 by omega),hlb,go_sem]
 by_cases h1:a>b.length
 ·have hf:dJ b a=([],a,2):=if_pos h1
  simp only [decide_eq_true (show ((a:Nat):Int)>((b.length:Nat):Int) by omega),go_sem]
  exact dZ [] rfl (by simp) (by simp [aP,St.get,aW,ah,ag,hf,o9,ak,az,LV.int])
 simp only [decide_eq_false (show ¬ ((a:Nat):Int)>((b.length:Nat):Int) by omega),go_sem]
 by_cases h2:a=b.length
 ·have hf:dJ b a=([],a,0):=by unfold dJ; rw [if_neg h1,if_pos (.inl h2)]
  simp only [show (((a:Nat):Int)==((b.length:Nat):Int))=true by rw [beq_iff_eq]; omega,hlb,go_sem]
  exact dZ [] rfl (by simp) (by simp [aP,St.get,aW,ah,ag,hf,o9,ak,az,LV.int])
 have hlt:a<b.length:=by omega
 have hg:=aK (f:=fun n:Int=>[u8 n]) 0 hlt
 rw [show b.map (fun n:Int=>[u8 n])=az b from rfl] at hg
 simp only [show (((a:Nat):Int)==((b.length:Nat):Int))=false from beq_eq_false_iff_ne.2 (by omega),hlb,hg,u8,go_sem]
 by_cases h3:b.getD a 0=0
 ·have hf:dJ b a=([],a,0):=by unfold dJ; rw [if_neg h1,if_pos (.inr h3)]
  simp only [h3,go_sem]
  exact dZ [] rfl (by simp) (by simp [aP,St.get,aW,ah,ag,hf,o9,ak,az,LV.int])
 simp only [beq_eq_false_iff_ne.2 h3,go_sem]
 have Ft:dJ b a=match fZ b a with
  | none=>([],a,2)
  | some (n,fr)=>if n>4000∨n+4≥(b.length:Int)-fr then ([],a,2)
    else if rW ((b.drop fr).take (n.toNat+4))=false∨b.getD (fr+n.toNat+4) 0≠1 then ([],a,2)
    else ((b.drop fr).take n.toNat,fr+n.toNat+5,1):=by
  show (if a>b.length then _ else _)=_
  rw [if_neg h1,if_neg (by omega)]
 have hn:=jJ (G:=G) b hb hl a ha (fZ b a) rfl
 simp only [ak] at hn
 cases hq:fZ b a with
 | none=>
   rw [hq] at hn Ft
   simp only [fP,yX,yY,Option.isSome] at hn
   refine ax (hn) rfl rfl rfl rfl ?_; simp only [go_sem]
   exact dZ [] rfl (by simp) (by simp [aP,St.get,aW,ah,ag,Ft,o9,ak,az,LV.int])
 | some q=>
 obtain ⟨n,fr⟩:=q
 have hr:=fW (fun c hc=>(hb c hc).1) hq
 rw [hq] at hn Ft
 simp only [fP,yX,yY,Option.isSome] at hn
 simp only at Ft
 refine ax (hn) rfl rfl rfl rfl ?_; simp only [go_sem]
 by_cases h4:n>4000
 ·rw [if_pos (.inl h4)] at Ft
  simp only [decide_eq_true h4,go_sem]
  exact dZ [] rfl (by simp) (by simp [aP,St.get,aW,ah,ag,Ft,o9,ak,az,LV.int])
 have w1:IntKind.i64.wrap (n+4)=n+4:=aL (by omega) (by omega)
 have w2:IntKind.i64.wrap ((b.length:Int)-(fr:Int))=(b.length:Int)-fr:=aL (by omega) (by omega)
 simp only [decide_eq_false h4,hlb,w1,w2,go_sem]
 by_cases h5:n+4≥(b.length:Int)-fr
 ·rw [if_pos (.inr h5)] at Ft
  simp only [decide_eq_true h5,go_sem]
  exact dZ [] rfl (by simp) (by simp [aP,St.get,aW,ah,ag,Ft,o9,ak,az,LV.int])
 rw [if_neg (by omega)] at Ft
 obtain ⟨m,rfl⟩:=Int.eq_ofNat_of_zero_le hr.1
 rw [Int.toNat_natCast] at Ft
 have w3:IntKind.i64.wrap ((fr:Int)+((m:Nat):Int))=((fr+m:Nat):Int):=by rw [aL (by omega) (by omega)]; omega
 have w4:IntKind.i64.wrap (((fr+m:Nat):Int)+4)=((fr+m+4:Nat):Int):=by rw [aL (by omega) (by omega)]; omega
 have w5:IntKind.i64.wrap (((fr+m+4:Nat):Int)+1)=((fr+m+5:Nat):Int):=by rw [aL (by omega) (by omega)]; omega
 have c1:(0:Int)≤((fr+m+4:Nat):Int):=by omega
 have c2:fr≤fr+m+4∧fr+m+4≤b.length∧b.length≤b.length:=by omega
 have e1:fr+m+4-fr=m+4:=by omega
 have hs:=KG (G:=G) ((b.drop fr).take (m+4)) (by rw [List.length_take,List.length_drop]; omega)
 simp only [ak] at hs
 simp only [decide_eq_false h5,w3,w4,c1,hlb,c2,e1,fR,iG,go_sem]
 refine ax (hs) rfl rfl rfl rfl ?_; simp only [go_sem]
 cases h6:rW ((b.drop fr).take (m+4)) with
 | false=>
   rw [if_pos (.inl h6)] at Ft
   simp only [go_sem]
   exact dZ [] rfl (by simp) (by simp [aP,St.get,aW,ah,ag,Ft,o9,ak,az,LV.int])
 | true=>
 have hg2:=aK (f:=fun n:Int=>[u8 n]) 0 (show fr+m+4<b.length by omega)
 rw [show b.map (fun n:Int=>[u8 n])=az b from rfl] at hg2
 simp only [w4,c1,hg2,u8,go_sem]
 by_cases h7:b.getD (fr+m+4) 0=1
 ·rw [if_neg (by rw [h6,h7]; simp)] at Ft
  have c3:fr≤fr+m∧fr+m≤fr+m∧fr+m≤b.length:=by omega
  have e2:fr+m-fr=m:=by omega
  have hc:=oJ (G:=G) ((b.drop fr).take m) (by rw [List.length_take,List.length_drop]; omega)
  simp only [ak] at hc
  simp only [h7,bne_self_eq_false,hlb,c3,e2,fR,iG,go_sem]
  refine ax (hc) rfl rfl rfl rfl ?_; simp only [go_sem]
  simp only [w4,w5,go_sem]
  exact dZ [] rfl (by simp) (by simp [aP,St.get,aW,ah,ag,Ft,o9,ak,LV.int])
 ·rw [if_pos (.inr h7)] at Ft
  simp only [show (b.getD (fr+m+4) 0 !=1)=true from bne_iff_ne.2 h7,go_sem]
  exact dZ [] rfl (by simp) (by simp [aP,St.get,aW,ah,ag,Ft,o9,ak,az,LV.int])
theorem FC {b:List Int} (hb:∀ c∈b,0≤c) {a:Nat} (h:(dJ b a).2.2=1):a<(dJ b a).2.1∧(dJ b a).2.1≤b.length∧(dJ b a).1.length≤4000:=by
 unfold dJ at h ⊢
 split at h
 ·exact absurd h (by simp)
 rename_i h1
 rw [if_neg h1]
 split at h
 ·exact absurd h (by simp)
 rename_i h2
 rw [if_neg h2]
 cases hq:fZ b a with
 | none=>rw [hq] at h; exact absurd h (by simp)
 | some q=>
 obtain ⟨n,fr⟩:=q
 have hr:=fW hb hq
 rw [hq] at h
 simp only at h ⊢
 split at h
 ·exact absurd h (by simp)
 rename_i h3
 rw [if_neg h3]
 split at h
 ·exact absurd h (by simp)
 rename_i h4
 rw [if_neg h4]
 refine ⟨by dsimp only; omega,by dsimp only; omega,?_⟩
 rw [List.length_take,List.length_drop]
 omega
def u5 (b:List Int):Nat→List (List Int)→Nat→List (List Int)×Nat
 | 0,l,a=>(l,a)
 | f+1,l,a=>if (dJ b a).2.2=1 then u5 b f (l++[(dJ b a).1]) (dJ b a).2.1 else (l,a)
def Va (b:List Int) (q:List (List Int)×Nat):St:=⟨[(0,ak b),(1,.int q.2),(6,.sl 0 q.1.length 1 0 q.1.length)],[some (.dat 57 1 (bR q.1))]⟩
theorem Dz (b:List Int) (hb:∀ c∈b,0≤c∧c≤255) (hl:b.length≤1000000) (a:Nat) (ha:a≤b.length) (R:List (List Int)×Nat) (hR:u5 b (b.length+1) [] a=R):bh Tryz.prog G 167 [ak b,.int a] [] (.dH [.d (.dK 1 (bR R.1)),.int R.2]) []:=by
 refine cA Tryz.func167 (by decide) Tz rfl ?_
 simp only [ak,Xe,go_sem]
 refine aR [0,1,6] [.t 6 57 1] (fun q:List (List Int)×Nat=>q.2≤b.length∧q.1.length≤q.2∧∃ f,b.length-q.2<f∧u5 b f q.1 q.2=R) (fun q=>b.length-q.2) (Va b) ([],a) ?_ ⟨ha,Nat.zero_le _,_,by dsimp only; omega,hR⟩ ?_
 ·simp only [Va,ak,bR,go_sem]
 rintro ⟨l,x⟩ ⟨hx,Fq,f,hf,hA⟩
 dsimp only at hx Fq hf hA
 simp only [Va,ak,go_sem]
 have hg:=uK (G:=G) b hb hl x (by omega)
 simp only [ak,o9] at hg
 refine ax (hg) rfl rfl rfl rfl ?_; simp only [go_sem]
 obtain ⟨f,rfl⟩:∃ g,f=g+1:=⟨f-1,by omega⟩
 unfold u5 at hA
 by_cases h1:(dJ b x).2.2=1
 ·rw [if_pos h1] at hA
  have he:=FC (fun c hc=>(hb c hc).1) h1
  have hcl:(bR l).length=l.length:=by simp [bR]
  have X1:bR l++[[DV.dK 1 (az (dJ b x).1)]]=bR (l++[(dJ b x).1]):=by simp [bR]
  have PE:(bR (l++[(dJ b x).1])).length*24≤70368744177664:=by
   have:(bR (l++[(dJ b x).1])).length=l.length+1:=by simp [bR]
   omega
  simp only [h1,bne_self_eq_false,go_sem]
  rw [hcl,X1,if_pos ⟨rfl,PE⟩]
  simp only [go_sem]
  refine bg (l++[(dJ b x).1],(dJ b x).2.1) ?_ ?_ ⟨he.2.1,by simp; omega,f,by dsimp only; omega,hA⟩ (by dsimp only; omega)
  ·simp only [go_sem]
  ·simp only [Va,ak,List.length_append,go_sem]
 ·rw [if_neg h1] at hA
  simp only [show ((dJ b x).2.2 !=1)=true from bne_iff_ne.2 h1,go_sem]
  subst hA
  exact dZ [0] rfl (by simp [St.obj,au]) (by simp [St.obj,au,aP,St.get,aW,ah,ag,bB,bR,List.take_of_length_le,LV.int])
end Dv
namespace Dv
open Go Go.Proofs
variable {G:Nat→Option (List DV)}
def zC (l:List Int) (s:Int) (fr sz us:Nat):List aC:=[.box 245 [.ptr 1 0,.int fr,.int sz,.int us],.box 150 [.sl 2 l.length 1 0 l.length,.d (.val (.slice none 0 0)),.int s],.dat 5 1 (az l)]
def OY:=qx Tryz.f168
theorem JI:aj Tryz.prog Tryz.f168=some OY:=by kernel_rfl
def Wz:=qx Tryz.f235
theorem SX:aj Tryz.prog Tryz.f235=some Wz:=by kernel_rfl
def W8:=qx Tryz.f184
theorem Ts:aj Tryz.prog Tryz.f184=some W8:=by kernel_rfl
def aaN:=qx Tryz.f86
theorem YR:aj Tryz.prog Tryz.f86=some aaN:=by kernel_rfl
theorem AD (n:Nat):az (List.replicate n 0)=List.replicate n [u8 0]:=by simp [az]
theorem wK (l:List Int) (s:Int) (fr sz us a:Nat) (hf:fr+sz≤l.length) (ha:a<sz) (hl:1≤l.length∧l.length≤65536):bh Tryz.prog G 168 [.ptr 0 0,.int a] (zC l s fr sz us) (.dH []) (zC (bN l (fr+a) (List.replicate (sz-a) 0)) (IntKind.i64.wrap (s+1)) fr sz us):=by
 have hb:=iu (G:=G) l s hl
 have hk:=ga (G:=G) l s (fr+a) (List.replicate (sz-a) 0) (by rw [List.length_replicate]; omega) hl.2
 have hs:=gK (G:=G) l s (fr+a) (List.replicate (sz-a) 0) (by rw [List.length_replicate]; omega) hl
 simp only [eN,jK,vi,ak,AD,List.length_replicate,List.cons_append,List.nil_append] at hb hk hs
 have w1:IntKind.i64.wrap ((fr:Int)+(a:Int))=((fr+a:Nat):Int):=by rw [aL (by omega) (by omega)]; omega
 have w2:IntKind.i64.wrap ((fr:Int)+(sz:Int))=((fr+sz:Nat):Int):=by rw [aL (by omega) (by omega)]; omega
 have c1:fr+a≤fr+sz∧fr+sz≤l.length∧l.length≤l.length:=by omega
 have c2:(0:Int)≤((fr+sz:Nat):Int):=by omega
 have c3:(0:Int)≤((fr+a:Nat):Int):=by omega
 have e1:fr+sz-(fr+a)=sz-a:=by omega
 have hc:=FU (G:=G) ((l.drop (fr+a)).take (sz-a)) (by rw [List.length_take,List.length_drop]; omega)
 have hcl:((l.drop (fr+a)).take (sz-a)).length=sz-a:=by rw [List.length_take,List.length_drop]; omega
 rw [hcl] at hc
 simp only [ak] at hc
 refine cA Tryz.func168 (by decide) JI rfl ?_
 simp only [zC,OY,go_sem]
 refine ei [1,2] (hb) rfl ?_ (by decide) ?_ ?_ (by simp) ?_ <;> simp only [ag,ah,go_sem]
 simp only [w1,w2,c1,c2,c3,e1,aA,fR,iG,go_sem]
 refine jf hc rfl rfl rfl ?_
 simp only [go_sem]
 refine an rfl ?_
 simp only [go_sem]
 have c4:sz-a=(az ((l.drop (fr+a)).take (sz-a))).length∧sz-a≤(az ((l.drop (fr+a)).take (sz-a))).length∧0<sz-a:=by rw [aA,hcl]; omega
 have hdr:(az ((l.drop (fr+a)).take (sz-a))).drop (sz-a)=[]:=List.drop_eq_nil_of_le (by rw [aA,hcl]; exact Nat.le_refl _)
 have en:(bN l (fr+a) (List.replicate (sz-a) 0)).length=l.length:=dR (by rw [List.length_replicate]; omega)
 rw [if_pos c4]
 simp only [w1,hdr,go_sem]
 refine AM [1,2] [3] (hk) rfl (by simp [ag,ah,bB,au,u8,aA,hcl,go_sem]) (by decide) (by decide) (by simp [au]) (by simp only [go_sem,u8,aA,hcl]) (by simp only [go_sem,u8,aA,hcl]) (by simp) ?_; simp only [go_sem,u8,aA,hcl]
 refine an rfl ?_
 simp only [go_sem]
 refine av [1,2,4] (hs) rfl ?_ (by decide) ?_ ?_ (by simp) ?_ <;> simp only [ag,ah,go_sem,u8]
 refine dm [] [0,1,2] [] (vs:=[]) rfl rfl (by decide) (by simp) (by simp) rfl rfl ?_
 simp [aP,ah,ag]
theorem zc (l:List Int) (a:Nat):bN l a []=l:=by unfold bN; simp
theorem C9 (l:List Int) (s:Int) (fr sz us:Nat) (hf:fr+sz≤l.length) (hl:1≤l.length∧l.length≤65536):bh Tryz.prog G 168 [.ptr 0 0,.int sz] (zC l s fr sz us) (.dH []) (zC l (IntKind.i64.wrap (s+1)) fr sz us):=by
 have hb:=iu (G:=G) l s hl
 have hk:=ga (G:=G) l s (fr+sz) [] (by simp; omega) hl.2
 have hs:=gK (G:=G) l s (fr+sz) [] (by simp; omega) hl
 rw [zc] at hs
 simp only [eN,jK,vi,ak,az,List.map_nil,List.cons_append,List.nil_append] at hb hk hs
 rw [show l.map (fun n:Int=>[u8 n])=az l from rfl] at hb hk hs
 have w2:IntKind.i64.wrap ((fr:Int)+(sz:Int))=((fr+sz:Nat):Int):=by rw [aL (by omega) (by omega)]; omega
 have c1:fr+sz≤fr+sz∧fr+sz≤l.length∧l.length≤l.length:=by omega
 have c2:(0:Int)≤((fr+sz:Nat):Int):=by omega
 have hc:=oJ (G:=G) [] (by simp)
 simp only [ak,az,List.map_nil] at hc
 refine cA Tryz.func168 (by decide) JI rfl ?_
 simp only [zC,OY,go_sem]
 refine ei [1,2] (hb) rfl ?_ (by decide) ?_ ?_ (by simp) ?_ <;> simp only [ag,ah,go_sem]
 simp only [w2,c1,c2,Nat.sub_self,aA,Nat.le_refl,go_sem]
 refine aU (hc) rfl rfl rfl rfl ?_; simp only [go_sem]
 refine an rfl ?_
 simp only [go_sem]
 simp only [w2,go_sem]
 refine ei [1,2] (hk) rfl ?_ (by decide) ?_ ?_ (by simp) ?_ <;> simp only [ag,ah,go_sem]
 refine an rfl ?_
 simp only [go_sem]
 refine av [1,2,3] (hs) rfl ?_ (by decide) ?_ ?_ (by simp) ?_ <;> simp only [ag,ah,go_sem]
 refine dm [] [0,1,2] [] (vs:=[]) rfl rfl (by decide) (by simp) (by simp) rfl rfl ?_
 simp [aP,ah,ag]
theorem C_ (l:List Int) (s:Int) (fr sz us a:Nat) (hf:fr+sz≤l.length) (ha:a≤sz) (hl:1≤l.length∧l.length≤65536):bh Tryz.prog G 168 [.ptr 0 0,.int a] (zC l s fr sz us) (.dH []) (zC (bN l (fr+a) (List.replicate (sz-a) 0)) (IntKind.i64.wrap (s+1)) fr sz us):=by
 by_cases h:a<sz
 ·exact wK l s fr sz us a hf h hl
 ·obtain rfl:a=sz:=by omega
  rw [Nat.sub_self,List.replicate_zero,zc]
  exact C9 l s fr a us hf hl
def rR (sz us n:Nat):Bool:=decide (1≤n∧n≤4000∧(br n).length+n+5+us≤sz)
theorem wO (l:List Int) (s:Int) (fr sz us n:Nat) (hu:us≤sz) (hs:sz≤65536) (hn:n≤1000000):bh Tryz.prog G 235 [.ptr 0 0,.int n] (zC l s fr sz us) (.bool (rR sz us n)) (zC l s fr sz us):=by
 have hm:=om (G:=G) (n:Int)
 have h9:=iA (n:Int)
 simp only [ak] at hm
 refine aQ Tryz.func235 (by decide) SX rfl rfl rfl rfl ?_
 simp only [Wz,go_sem]
 simp only [zC,go_sem]
 by_cases h1:1≤n
 case neg=>
  simp only [decide_eq_false (show ¬ ((n:Nat):Int)≥1 by omega),go_sem]
  simp only [rR,decide_eq_false (show ¬ (1≤n∧n≤4000∧(br n).length+n+5+us≤sz) by omega)]
 by_cases h2:n≤4000
 case neg=>
  simp only [decide_eq_true (show ((n:Nat):Int)≥1 by omega),decide_eq_false (show ¬ ((n:Nat):Int)≤4000 by omega),go_sem]
  simp only [rR,decide_eq_false (show ¬ (1≤n∧n≤4000∧(br n).length+n+5+us≤sz) by omega)]
 simp only [decide_eq_true (show ((n:Nat):Int)≥1 by omega),decide_eq_true (show ((n:Nat):Int)≤4000 by omega),go_sem]
 refine aU (hm) rfl rfl rfl rfl ?_; simp only [go_sem]
 have w1:IntKind.i64.wrap (((br n).length:Int)+(n:Int))=(((br n).length+n:Nat):Int):=by rw [aL (by omega) (by omega)]; omega
 have w2:IntKind.i64.wrap ((((br n).length+n:Nat):Int)+5)=(((br n).length+n+5:Nat):Int):=by rw [aL (by omega) (by omega)]; omega
 have w3:IntKind.i64.wrap ((sz:Int)-(us:Int))=((sz-us:Nat):Int):=by rw [aL (by omega) (by omega)]; omega
 simp only [aA,w1,w2,w3,go_sem]
 exact decide_eq_decide.2 (by omega)
def lgW (l:List Int) (s:Int) (fr sz us a:Nat) (b:List Int):List aC:=[.box 245 [.ptr 1 0,.int fr,.int sz,.int us],.box 150 [.sl 2 l.length 1 0 l.length,.sl 3 1 2 0 1,.int s],.dat 5 1 (az l),.dat 227 2 (vi a b)]
theorem p_ {p:List Int} (h:1≤p.length∧p.length≤4000):(eT p).length=(br p.length).length+p.length+5:=by
 unfold eT
 rw [if_neg (by omega)]
 simp only [List.length_append,pP,List.length_cons,List.length_nil]
theorem Hl (l:List Int) (s:Int) (fr sz us:Nat) (p:List Int) (hf:fr+sz≤l.length) (hu:us≤sz) (hl:1≤l.length∧l.length≤65536) (hr:rR sz us p.length=true):bh Tryz.prog G 184 [.ptr 0 0,ak p] (zC l s fr sz us) (.int 0) (lgW l s fr sz (us+(eT p).length) (fr+us) (eT p)):=by
 have B7:1≤p.length∧p.length≤4000∧(br p.length).length+p.length+5+us≤sz:=of_decide_eq_true hr
 have lZ:=p_ ⟨B7.1,B7.2.1⟩
 have hq:=wO (G:=G) l s fr sz us p.length hu (by omega) (by omega)
 have hp:=oB (G:=G) p (by omega)
 have hw:=ga (G:=G) l s (fr+us) (eT p) (by omega) hl.2
 rw [hr] at hq
 simp only [zC,eN,jK,vi,ak] at hq hp hw
 refine cA Tryz.func184 (by decide) Ts rfl ?_
 simp only [zC,ak,W8,go_sem]
 simp only [aA,show (((p.length:Nat):Int)==0)=false from beq_eq_false_iff_ne.2 (by omega),go_sem]
 simp only [aA,decide_eq_false (show ¬ ((p.length:Nat):Int)>4000 by omega),go_sem]
 refine av [0,1,2] (hq) rfl ?_ (by decide) ?_ ?_ (by simp) ?_ <;> simp only [ag,ah,go_sem]
 refine ax (hp) rfl rfl rfl rfl ?_; simp only [go_sem]
 have w1:IntKind.i64.wrap ((fr:Int)+(us:Int))=((fr+us:Nat):Int):=by rw [aL (by omega) (by omega)]; omega
 have w2:IntKind.i64.wrap ((us:Int)+((eT p).length:Int))=((us+(eT p).length:Nat):Int):=by rw [aL (by omega) (by omega)]; omega
 simp only [w1,go_sem]
 refine ei [1,2] (hw) rfl ?_ (by decide) ?_ ?_ (by simp) ?_ <;> simp only [ag,ah,go_sem]
 refine an rfl ?_
 simp only [aA,w2,go_sem]
 refine dm [] [0,1,2,3] [] (vs:=[.int 0]) rfl rfl (by decide) (by simp) (by simp) rfl rfl ?_
 simp [aP,ah,LV.int]
theorem uu (l:List Int) (s:Int) (fr sz us:Nat) (hf:fr+sz≤l.length) (hz:1≤sz) (hl:1≤l.length∧l.length≤65536):bh Tryz.prog G 86 [.ptr 0 0] (zC l s fr sz us) (.dH []) (zC (bN l fr (List.replicate sz 0)) (IntKind.i64.wrap (s+1)) fr sz 0):=by
 have hn:=wK (G:=G) l s fr sz us 0 hf (by omega) hl
 simp only [zC,Nat.add_zero,Nat.sub_zero] at hn
 refine aQ Tryz.func86 (by decide) YR rfl rfl rfl rfl ?_
 simp only [aaN,go_sem]
 simp only [zC,go_sem]
 refine av [0,1,2] (hn) rfl ?_ (by decide) ?_ ?_ (by simp) ?_ <;> simp only [ag,ah,go_sem]
end Dv
namespace Dv
open Go Go.Proofs
variable {G:Nat→Option (List DV)}
theorem qz (b:List Int) (a:Nat):(∀ c∈(dJ b a).1,c∈b)∧(dJ b a).1.length≤b.length:=by
 unfold dJ
 split
 ·simp
 split
 ·simp
 cases fZ b a with
 | none=>simp
 | some q=>
 obtain ⟨n,fr⟩:=q
 simp only
 split
 ·simp
 split
 ·simp
 refine ⟨fun c hc=>List.mem_of_mem_drop (List.mem_of_mem_take hc),?_⟩
 dsimp only
 rw [List.length_take,List.length_drop]
 omega
def mc (l:List Int) (s:Int) (fr sz:Nat):List aC:=[.box 243 [.ptr 1 0,.int fr,.int sz],.box 150 [.sl 2 l.length 1 0 l.length,.d (.val (.slice none 0 0)),.int s],.dat 5 1 (az l)]
def eo (l:List Int) (fr sz k:Nat):List Int:=(l.drop (fr+k*sz)).take sz
def ic (l:List Int) (fr sz k:Nat):Option (List Int×Int):=
 if (dJ (eo l fr sz k) 0).2.2=1 then (fZ (dJ (eo l fr sz k) 0).1 0).map fun q=>((dJ (eo l fr sz k) 0).1.drop q.2,q.1) else none
def og:Option (List Int×Int)→LV
 | none=>.dH [ak [],.int 0,.bool false]
 | some q=>.dH [ak q.1,.int q.2,.bool true]
def WD:=qx Tryz.f227
theorem S6:aj Tryz.prog Tryz.f227=some WD:=by kernel_rfl
def Xc:=qx Tryz.f170
theorem Tx:aj Tryz.prog Tryz.f170=some Xc:=by kernel_rfl
def Xd:=qx Tryz.f169
theorem Ty:aj Tryz.prog Tryz.f169=some Xd:=by kernel_rfl
def aaP:=qx Tryz.f82
theorem YU:aj Tryz.prog Tryz.f82=some aaP:=by kernel_rfl
theorem BD (l:List Int) (s:Int) (fr sz k:Nat) (h:fr+k*sz≤1000000):bh Tryz.prog G 227 [.ptr 0 0,.int k] (mc l s fr sz) (.int ((fr+k*sz:Nat):Int)) (mc l s fr sz):=by
 have w0:IntKind.i64.wrap ((k:Int)*(sz:Int))=((k*sz:Nat):Int):=by rw [show (k:Int)*(sz:Int)=((k*sz:Nat):Int) by simp,aL (by omega) (by omega)]
 have w1:IntKind.i64.wrap ((fr:Int)+((k*sz:Nat):Int))=((fr+k*sz:Nat):Int):=by rw [aL (by omega) (by omega)]; omega
 refine aQ Tryz.func227 (by decide) S6 rfl rfl rfl rfl ?_
 simp only [WD,go_sem]
 simp only [mc,w0,w1,go_sem]
theorem qb (l:List Int) (s:Int) (fr sz k:Nat) (hb:∀ c∈l,0≤c∧c≤255) (h:fr+k*sz+sz≤l.length) (hl:1≤l.length∧l.length≤65536):bh Tryz.prog G 170 [.ptr 0 0,.int k] (mc l s fr sz) (og (ic l fr sz k)) (mc l s fr sz):=by
 have hp:=BD (G:=G) l s fr sz k (by omega)
 have hy:=iu (G:=G) l s hl
 have xF:(eo l fr sz k).length=sz:=by unfold eo; rw [List.length_take,List.length_drop]; omega
 have hsb:∀ c∈eo l fr sz k,0≤c∧c≤255:=fun c hc=>hb c (List.mem_of_mem_drop (List.mem_of_mem_take hc))
 have hg:=uK (G:=G) (eo l fr sz k) hsb (by omega) 0 (by omega)
 have abp:=qz (eo l fr sz k) 0
 have hP:ic l fr sz k=if (dJ (eo l fr sz k) 0).2.2=1 then (fZ (dJ (eo l fr sz k) 0).1 0).map fun q=>((dJ (eo l fr sz k) 0).1.drop q.2,q.1) else none:=rfl
 have acY:(l.drop (fr+k*sz)).take sz=eo l fr sz k:=rfl
 generalize ic l fr sz k=PD at *
 generalize fr+k*sz=pl at *
 generalize eo l fr sz k=sb at *
 simp only [eN,mc,ak,o9] at hp hy hg
 have w2:IntKind.i64.wrap ((pl:Int)+(sz:Int))=((pl+sz:Nat):Int):=by rw [aL (by omega) (by omega)]; omega
 have c1:pl≤pl+sz∧pl+sz≤l.length∧l.length≤l.length:=by omega
 have c2:(0:Int)≤((pl+sz:Nat):Int):=by omega
 have e1:pl+sz-pl=sz:=by omega
 refine cA Tryz.func170 (by decide) Tx rfl ?_
 simp only [mc,Xc,go_sem]
 refine av [0,1,2] (hp) rfl ?_ (by decide) ?_ ?_ (by simp) ?_ <;> simp only [ag,ah,go_sem]
 refine ei [1,2] (hy) rfl ?_ (by decide) ?_ ?_ (by simp) ?_ <;> simp only [ag,ah,go_sem]
 simp only [w2,c1,c2,e1,aA,fR,iG,acY,go_sem]
 refine aU (hg) rfl rfl rfl rfl ?_; simp only [go_sem]
 refine an rfl ?_
 simp only [go_sem]
 have hn:=jJ (G:=G) (dJ sb 0).1 (fun c hc=>hsb c (abp.1 c hc)) (by omega) 0 (by omega) (fZ (dJ sb 0).1 0) rfl
 simp only [ak] at hn
 cases hq:fZ (dJ sb 0).1 0 with
 | none=>
   rw [hq] at hn hP
   simp only [fP,yX,yY,Option.isSome] at hn
   refine ax (hn) rfl rfl rfl rfl ?_; simp only [go_sem]
   have hP2:PD=none:=by rw [hP]; split <;> rfl
   by_cases h1:(dJ sb 0).2.2=1
   ·simp only [h1,bne_self_eq_false,go_sem]
    refine dm [] [0,1,2] [] (vs:=[.d (.val (.slice none 0 0)),.int 0,.bool false]) rfl rfl (by decide) (by simp) (by simp) rfl rfl ?_
    simp [aP,ah,ag,hP2,og,ak,az,LV.int,LV.bool]
   ·simp only [show ((dJ sb 0).2.2 !=1)=true from bne_iff_ne.2 h1,go_sem]
    refine dm [] [0,1,2] [] (vs:=[.d (.val (.slice none 0 0)),.int 0,.bool false]) rfl rfl (by decide) (by simp) (by simp) rfl rfl ?_
    simp [aP,ah,ag,hP2,og,ak,az,LV.int,LV.bool]
 | some q=>
 obtain ⟨n,nx⟩:=q
 have hr:=fW (fun c hc=>(hsb c (abp.1 c hc)).1) hq
 rw [hq] at hn hP
 simp only [fP,yX,yY,Option.isSome] at hn
 refine ax (hn) rfl rfl rfl rfl ?_; simp only [go_sem]
 by_cases h1:(dJ sb 0).2.2=1
 ·rw [if_pos h1] at hP
  have c3:nx≤(dJ sb 0).1.length∧(dJ sb 0).1.length≤(dJ sb 0).1.length:=by omega
  have hdl:(az ((dJ sb 0).1.drop nx)).take ((dJ sb 0).1.length-nx)=az ((dJ sb 0).1.drop nx):=List.take_of_length_le (by rw [aA,List.length_drop]; exact Nat.le_refl _)
  simp only [h1,bne_self_eq_false,aA,c3,fR,hdl,go_sem]
  refine dm [] [0,1,2] [] (vs:=[.d (.dK 1 (az ((dJ sb 0).1.drop nx))),.int n,.bool true]) rfl rfl (by decide) (by simp) (by simp) rfl rfl ?_
  simp [aP,ah,ag,hP,og,ak,LV.int,LV.bool]
 ·rw [if_neg h1] at hP
  simp only [show ((dJ sb 0).2.2 !=1)=true from bne_iff_ne.2 h1,go_sem]
  refine dm [] [0,1,2] [] (vs:=[.d (.val (.slice none 0 0)),.int 0,.bool false]) rfl rfl (by decide) (by simp) (by simp) rfl rfl ?_
  simp [aP,ah,ag,hP,og,ak,az,LV.int,LV.bool]
def lD (l:List Int) (fr sz:Nat):Nat→Int×Int
 | 0=>(-1,-1)
 | k+1=>match ic l fr sz k with
   | none=>lD l fr sz k
   | some q=>if q.2>(lD l fr sz k).2 then ((k:Int),q.2) else lD l fr sz k
def RL (l:List Int) (s:Int) (fr sz:Nat) (k:Nat):St:=⟨[(0,.ptr 0 0),(3,.int (lD l fr sz k).1),(4,.int (lD l fr sz k).2),(9,.int k)],(mc l s fr sz).map some⟩
theorem zx (l:List Int) (s:Int) (fr sz:Nat) (hb:∀ c∈l,0≤c∧c≤255) (h:fr+2*sz≤l.length) (hl:1≤l.length∧l.length≤65536):bh Tryz.prog G 169 [.ptr 0 0] (mc l s fr sz) (.int (lD l fr sz 2).1) (mc l s fr sz):=by
 have hp0:=qb (G:=G) l s fr sz 0 hb (by omega) hl
 have hp1:=qb (G:=G) l s fr sz 1 hb (by omega) hl
 simp only [mc] at hp0 hp1
 refine aQ Tryz.func169 (by decide) Ty rfl rfl rfl rfl ?_
 simp only [Xd,go_sem]
 simp only [mc,go_sem]
 refine aR [0,3,4,9] [] (fun k:Nat=>k≤2) (fun k=>2-k) (RL l s fr sz) 0 ?_ (Nat.zero_le _) (fun k hk=>?_)
 ·simp only [RL,mc,lD,Int.natCast_zero,go_sem]
 simp only [RL,mc,go_sem]
 match k,hk with
 | 0,_=>
   have hq:lD l fr sz (0+1)=match ic l fr sz 0 with
    | none=>lD l fr sz 0
    | some q=>if q.2>(lD l fr sz 0).2 then (((0:Nat):Int),q.2) else lD l fr sz 0:=rfl
   simp only [show decide (((0:Nat):Int)<2)=true from rfl,go_sem]
   refine av [0,1,2] (hp0) rfl ?_ (by decide) ?_ ?_ (by simp) ?_ <;> simp only [ag,ah,go_sem]
   cases hP:ic l fr sz 0 with
   | none=>
     rw [hP] at hq
     simp only [og,go_sem]
     refine bg 1 ?_ ?_ (by decide) (by decide)
     ·simp only [go_sem]
     ·simp only [RL,mc,hq,show IntKind.i64.wrap 1=1 from rfl,go_sem]
   | some q=>
     rw [hP] at hq
     simp only at hq
     simp only [og,go_sem]
     by_cases hg:q.2>(lD l fr sz 0).2
     ·rw [if_pos hg] at hq
      simp only [decide_eq_true hg,go_sem]
      refine bg 1 ?_ ?_ (by decide) (by decide)
      ·simp only [go_sem]
      ·simp only [RL,mc,hq,show IntKind.i64.wrap 1=1 from rfl,go_sem]
     ·rw [if_neg hg] at hq
      simp only [decide_eq_false hg,go_sem]
      refine bg 1 ?_ ?_ (by decide) (by decide)
      ·simp only [go_sem]
      ·simp only [RL,mc,hq,show IntKind.i64.wrap 1=1 from rfl,go_sem]
 | 1,_=>
   have hq:lD l fr sz (1+1)=match ic l fr sz 1 with
    | none=>lD l fr sz 1
    | some q=>if q.2>(lD l fr sz 1).2 then (((1:Nat):Int),q.2) else lD l fr sz 1:=rfl
   simp only [show decide (((1:Nat):Int)<2)=true from rfl,go_sem]
   refine av [0,1,2] (hp1) rfl ?_ (by decide) ?_ ?_ (by simp) ?_ <;> simp only [ag,ah,go_sem]
   cases hP:ic l fr sz 1 with
   | none=>
     rw [hP] at hq
     simp only [og,go_sem]
     refine bg 2 ?_ ?_ (by decide) (by decide)
     ·simp only [go_sem]
     ·simp only [RL,mc,hq,show IntKind.i64.wrap 2=2 from rfl,go_sem]
   | some q=>
     rw [hP] at hq
     simp only at hq
     simp only [og,go_sem]
     by_cases hg:q.2>(lD l fr sz 1).2
     ·rw [if_pos hg] at hq
      simp only [decide_eq_true hg,go_sem]
      refine bg 2 ?_ ?_ (by decide) (by decide)
      ·simp only [go_sem]
      ·simp only [RL,mc,hq,show IntKind.i64.wrap 2=2 from rfl,go_sem]
     ·rw [if_neg hg] at hq
      simp only [decide_eq_false hg,go_sem]
      refine bg 2 ?_ ?_ (by decide) (by decide)
      ·simp only [go_sem]
      ·simp only [RL,mc,hq,show IntKind.i64.wrap 2=2 from rfl,go_sem]
 | 2,_=>
   simp only [show decide (((2:Nat):Int)<2)=false from rfl,go_sem]
theorem um (l:List Int) (fr sz:Nat):∀ k,-1≤(lD l fr sz k).1∧(lD l fr sz k).1<(k:Int)
 | 0=>by simp [lD]
 | k+1=>by
   have:=um l fr sz k
   unfold lD
   cases ic l fr sz k with
   | none=>simp only; omega
   | some q=>
     simp only
     split
     ·dsimp only; omega
     ·omega
def fu (l:List Int) (fr sz:Nat):Option (List Int×Int):=if (lD l fr sz 2).1<0 then none else ic l fr sz (lD l fr sz 2).1.toNat
theorem uv (l:List Int) (s:Int) (fr sz:Nat) (hb:∀ c∈l,0≤c∧c≤255) (h:fr+2*sz≤l.length) (hl:1≤l.length∧l.length≤65536):bh Tryz.prog G 82 [.ptr 0 0] (mc l s fr sz) (og (fu l fr sz)) (mc l s fr sz):=by
 have hn:=zx (G:=G) l s fr sz hb h hl
 have hr:=um l fr sz 2
 have hL:fu l fr sz=if (lD l fr sz 2).1<0 then none else ic l fr sz (lD l fr sz 2).1.toNat:=rfl
 generalize (lD l fr sz 2).1=m at *
 simp only [mc] at hn
 refine cA Tryz.func82 (by decide) YU rfl ?_
 simp only [mc,aaP,go_sem]
 refine av [0,1,2] (hn) rfl ?_ (by decide) ?_ ?_ (by simp) ?_ <;> simp only [ag,ah,go_sem]
 by_cases hm:m<0
 ·rw [if_pos hm] at hL
  simp only [decide_eq_true hm,go_sem]
  refine dm [] [0,1,2] [] (vs:=[.d (.val (.slice none 0 0)),.int 0,.bool false]) rfl rfl (by decide) (by simp) (by simp) rfl rfl ?_
  simp [aP,ah,ag,hL,og,ak,az,LV.int,LV.bool]
 rw [if_neg hm] at hL
 obtain ⟨k,rfl⟩:=Int.eq_ofNat_of_zero_le (show 0≤m by omega)
 rw [Int.toNat_natCast] at hL
 have hk:k*sz+sz≤2*sz:=by
  have:k≤1:=by omega
  have:=Nat.mul_le_mul_right sz this
  omega
 have hp:=qb (G:=G) l s fr sz k hb (by omega) hl
 rw [← hL] at hp
 simp only [mc] at hp
 simp only [decide_eq_false hm,go_sem]
 refine av [0,1,2] (hn) rfl ?_ (by decide) ?_ ?_ (by simp) ?_ <;> simp only [ag,ah,go_sem]
 refine av [0,1,2] (hp) rfl ?_ (by decide) ?_ ?_ (by simp) ?_ <;> simp only [ag,ah,go_sem]
 cases hq:fu l fr sz with
 | none=>
   simp only [og,ak,go_sem]
   refine dm [] [0,1,2] [] (vs:=[.d (.dK 1 (az [])),.int 0,.bool false]) rfl rfl (by decide) (by simp) (by simp) rfl rfl ?_
   simp [aP,ah,ag,LV.int,LV.bool]
 | some q=>
   simp only [og,ak,go_sem]
   refine dm [] [0,1,2] [] (vs:=[.d (.dK 1 (az q.1)),.int q.2,.bool true]) rfl rfl (by decide) (by simp) (by simp) rfl rfl ?_
   simp [aP,ah,ag,LV.int,LV.bool]
end Dv
namespace Dv
open Go Go.Proofs
variable {G:Nat→Option (List DV)}
def OW:=qx Tryz.f179
theorem JG:aj Tryz.prog Tryz.f179=some OW:=by kernel_rfl
def Zh:=qx Tryz.f92
theorem OO:aj Tryz.prog Tryz.f92=some Zh:=by kernel_rfl
def aaR:=qx Tryz.f80
theorem YW:aj Tryz.prog Tryz.f80=some aaR:=by kernel_rfl
def cQ (l:List Int) (fr sz:Nat):Nat:=if (lD l fr sz 2).1=0 then 1 else 0
def fO (b:List Int) (bz:Int):List Int:=eT (br bz++b)
def slW (l:List Int) (s:Int) (fr sz a:Nat) (b:List Int):List aC:=[.box 243 [.ptr 1 0,.int fr,.int sz],.box 150 [.sl 2 l.length 1 0 l.length,.sl 3 1 2 0 1,.int s],.dat 5 1 (az l),.dat 227 2 (vi a b)]
def N0 (bz:Int):Option (List Int×Int)→Bool
 | none=>false
 | some q=>decide (bz≤q.2)
def eX (l:List Int) (fr sz:Nat) (b:List Int) (bz:Int):Int:=
 if (br bz).length=0 then 1 else if N0 bz (fu l fr sz)=true then 6
 else if (fO b bz).length=0∨(fO b bz).length>sz then 3 else 0
theorem Eg (l:List Int) (s:Int) (fr sz:Nat) (b:List Int) (bz:Int) (hb:∀ c∈l,0≤c∧c≤255) (h:fr+2*sz≤l.length) (hz:1≤sz) (hl:1≤l.length∧l.length≤65536) (AQ:b.length≤90000) (hE:eX l fr sz b bz=0):bh Tryz.prog G 179 [.ptr 0 0,ak b,.int bz] (mc l s fr sz) (.int 0) (slW (bN l (fr+cQ l fr sz*sz) (List.replicate sz 0)) (IntKind.i64.wrap (s+1)) fr sz (fr+cQ l fr sz*sz) (fO b bz)):=by
 have hk:cQ l fr sz*sz+sz≤2*sz:=by
  have:cQ l fr sz≤1:=by unfold cQ; split <;> omega
  have:=Nat.mul_le_mul_right sz this
  omega
 have hL:=uv (G:=G) l s fr sz hb h hl
 have hn:=zx (G:=G) l s fr sz hb h hl
 have hm:=om (G:=G) bz
 have hr:=um l fr sz 2
 simp only [mc,ak] at hL hn hm
 unfold eX at hE
 split at hE
 ·exact absurd hE (by decide)
 rename_i g1
 split at hE
 ·exact absurd hE (by decide)
 rename_i g2
 split at hE
 ·exact absurd hE (by decide)
 rename_i g3
 have e1:(((br bz).length:Int)==0)=false:=beq_eq_false_iff_ne.2 (by omega)
 have hx:IntKind.i64.wrap (1-(lD l fr sz 2).1)=1-(lD l fr sz 2).1:=aL (by omega) (by omega)
 have hp:=BD (G:=G) l s fr sz (cQ l fr sz) (by omega)
 have hkv:(if 1-(lD l fr sz 2).1>0 then 1-(lD l fr sz 2).1 else 0).tmod 2=((cQ l fr sz:Nat):Int):=by
  unfold cQ
  have:(lD l fr sz 2).1 = -1∨(lD l fr sz 2).1=0∨(lD l fr sz 2).1=1:=by omega
  rcases this with e | e | e <;> rw [e] <;> decide
 have c5:sz*1≤70368744177664∧((sz:Nat):Int)≤9223372036854775807:=by omega
 have hfl:(fO b bz).length≤sz:=by omega
 generalize hN:cQ l fr sz=K at *
 generalize hA:fr+K*sz=A at *
 have hw1:=ga (G:=G) l s A (List.replicate sz 0) (by rw [List.length_replicate]; omega) hl.2
 have hs1:=gK (G:=G) l s A (List.replicate sz 0) (by rw [List.length_replicate]; omega) hl
 have hol:(bN l A (List.replicate sz 0)).length=l.length:=dR (by rw [List.length_replicate]; omega)
 have hw2:=ga (G:=G) (bN l A (List.replicate sz 0)) (IntKind.i64.wrap (s+1)) A (fO b bz) (by rw [hol]; omega) (by rw [hol]; exact hl.2)
 simp only [mc,eN,jK,vi,ak,AD,List.length_replicate,List.cons_append,List.nil_append] at hp hw1 hs1 hw2
 refine cA Tryz.func179 (by decide) JG rfl ?_
 simp only [mc,ak,OW,go_sem]
 refine ax (hm) rfl rfl rfl rfl ?_; simp only [go_sem]
 simp only [aA,e1,go_sem]
 refine av [0,1,2] (hL) rfl ?_ (by decide) ?_ ?_ (by simp) ?_ <;> simp only [ag,ah,go_sem]
 have A5:=s_ (G:=G) [br bz,b] (by simp) (by simp; have:=iA bz; omega)
 have hpf:=oB (G:=G) (br bz++b) (by rw [List.length_append]; have:=iA bz; omega)
 rw [show eT (br bz++b)=fO b bz from rfl] at hpf
 simp only [List.flatten_cons,List.flatten_nil,List.append_nil,bR,List.map_cons,List.map_nil,ak] at A5 hpf
 have e2:(((fO b bz).length:Int)==0)=false:=beq_eq_false_iff_ne.2 (by omega)
 have e3:decide (((fO b bz).length:Int)>(sz:Int))=false:=decide_eq_false (by omega)
 cases hq:fu l fr sz with
 | none=>
   simp only [og,ak,go_sem]
   refine ax (hm) rfl rfl rfl rfl ?_; simp only [go_sem]
   refine rD [3] (A5) rfl (by simp [ag,ah,bB,au,bR,go_sem]) (by simp [au]) rfl ?_; simp only [go_sem]
   refine ax (hpf) rfl rfl rfl rfl ?_; simp only [go_sem]
   simp only [aA,e2,e3,go_sem]
   refine av [0,1,2] (hn) rfl ?_ (by decide) ?_ ?_ (by simp) ?_ <;> simp only [ag,ah,go_sem]
   simp only [hx,hkv,go_sem]
   refine av [0,1,2] (hp) rfl ?_ (by decide) ?_ ?_ (by simp) ?_ <;> simp only [ag,ah,go_sem]
   simp only [c5,go_sem]
   refine AM [1,2] [4] (hw1) rfl (by simp [ag,ah,bB,au,u8,aA,go_sem]) (by decide) (by decide) (by simp [au]) (by simp only [go_sem,u8,aA]) (by simp only [go_sem,u8,aA]) (by simp) ?_; simp only [go_sem,u8,aA]
   refine an rfl ?_
   simp only [go_sem]
   refine av [1,2,5] (hs1) rfl ?_ (by decide) ?_ ?_ (by simp) ?_ <;> simp only [ag,ah,go_sem,u8]
   refine av [1,2] (hw2) rfl ?_ (by decide) ?_ ?_ (by simp) ?_ <;> simp only [ag,ah,go_sem]
   refine dm [] [0,1,2,6] [] (vs:=[.int 0]) rfl rfl (by decide) (by simp) (by simp) rfl rfl ?_
   simp [aP,ah,LV.int]
 | some q=>
   rw [hq] at g2
   have g4:¬ bz≤q.2:=fun e=>g2 (decide_eq_true e)
   simp only [og,ak,decide_eq_false g4,go_sem]
   refine ax (hm) rfl rfl rfl rfl ?_; simp only [go_sem]
   refine rD [3] (A5) rfl (by simp [ag,ah,bB,au,bR,go_sem]) (by simp [au]) rfl ?_; simp only [go_sem]
   refine ax (hpf) rfl rfl rfl rfl ?_; simp only [go_sem]
   simp only [aA,e2,e3,go_sem]
   refine av [0,1,2] (hn) rfl ?_ (by decide) ?_ ?_ (by simp) ?_ <;> simp only [ag,ah,go_sem]
   simp only [hx,hkv,go_sem]
   refine av [0,1,2] (hp) rfl ?_ (by decide) ?_ ?_ (by simp) ?_ <;> simp only [ag,ah,go_sem]
   simp only [c5,go_sem]
   refine AM [1,2] [4] (hw1) rfl (by simp [ag,ah,bB,au,u8,aA,go_sem]) (by decide) (by decide) (by simp [au]) (by simp only [go_sem,u8,aA]) (by simp only [go_sem,u8,aA]) (by simp) ?_; simp only [go_sem,u8,aA]
   refine an rfl ?_
   simp only [go_sem]
   refine av [1,2,5] (hs1) rfl ?_ (by decide) ?_ ?_ (by simp) ?_ <;> simp only [ag,ah,go_sem,u8]
   refine av [1,2] (hw2) rfl ?_ (by decide) ?_ ?_ (by simp) ?_ <;> simp only [ag,ah,go_sem]
   refine dm [] [0,1,2,6] [] (vs:=[.int 0]) rfl rfl (by decide) (by simp) (by simp) rfl rfl ?_
   simp [aP,ah,LV.int]
theorem CE (l:List Int) (s:Int) (fr sz:Nat) (b:List Int) (bz:Int) (hb:∀ c∈l,0≤c∧c≤255) (h:fr+2*sz≤l.length) (hz:1≤sz) (hl:1≤l.length∧l.length≤65536) (AQ:b.length≤90000) (hE:eX l fr sz b bz≠0):bh Tryz.prog G 179 [.ptr 0 0,ak b,.int bz] (mc l s fr sz) (.int (eX l fr sz b bz)) (mc l s fr sz):=by
 have hL:=uv (G:=G) l s fr sz hb h hl
 have hm:=om (G:=G) bz
 simp only [mc,ak] at hL hm
 have A5:=s_ (G:=G) [br bz,b] (by simp) (by simp; have:=iA bz; omega)
 have hpf:=oB (G:=G) (br bz++b) (by rw [List.length_append]; have:=iA bz; omega)
 rw [show eT (br bz++b)=fO b bz from rfl] at hpf
 simp only [List.flatten_cons,List.flatten_nil,List.append_nil,bR,List.map_cons,List.map_nil,ak] at A5 hpf
 refine cA Tryz.func179 (by decide) JG rfl ?_
 simp only [mc,ak,OW,go_sem]
 refine ax (hm) rfl rfl rfl rfl ?_; simp only [go_sem]
 simp only [aA,go_sem]
 by_cases g1:(br bz).length=0
 ·have hs:eX l fr sz b bz=1:=if_pos g1
  simp only [show (((br bz).length:Int)==0)=true by rw [beq_iff_eq]; omega,hs,go_sem]
  refine dm [] [0,1,2] [] (vs:=[.int 1]) rfl rfl (by decide) (by simp) (by simp) rfl rfl ?_
  simp [aP,ah,LV.int]
 have hs1:eX l fr sz b bz=if N0 bz (fu l fr sz)=true then 6 else if (fO b bz).length=0∨(fO b bz).length>sz then 3 else 0:=if_neg g1
 simp only [show (((br bz).length:Int)==0)=false from beq_eq_false_iff_ne.2 (by omega),go_sem]
 refine av [0,1,2] (hL) rfl ?_ (by decide) ?_ ?_ (by simp) ?_ <;> simp only [ag,ah,go_sem]
 have A4:N0 bz (fu l fr sz)=false→eX l fr sz b bz=3∧((fO b bz).length=0∨(fO b bz).length>sz):=by
  intro e
  rw [e,if_neg Bool.false_ne_true] at hs1
  by_cases g:(fO b bz).length=0∨(fO b bz).length>sz
  ·rw [if_pos g] at hs1; exact ⟨hs1,g⟩
  ·rw [if_neg g] at hs1; exact absurd hs1 hE
 cases hq:fu l fr sz with
 | none=>
   rw [hq] at A4
   obtain ⟨X2,g3⟩:=A4 rfl
   simp only [og,ak,X2,go_sem]
   refine ax (hm) rfl rfl rfl rfl ?_; simp only [go_sem]
   refine rD [3] (A5) rfl (by simp [ag,ah,bB,au,bR,go_sem]) (by simp [au]) rfl ?_; simp only [go_sem]
   refine ax (hpf) rfl rfl rfl rfl ?_; simp only [go_sem]
   simp only [aA,go_sem]
   by_cases g5:(fO b bz).length=0
   ·simp only [show (((fO b bz).length:Int)==0)=true by rw [beq_iff_eq]; omega,go_sem]
    refine dm [] [0,1,2] [] (vs:=[.int 3]) rfl rfl (by decide) (by simp) (by simp) rfl rfl ?_
    simp [aP,ah,LV.int]
   ·simp only [show (((fO b bz).length:Int)==0)=false from beq_eq_false_iff_ne.2 (by omega),aA,decide_eq_true (show ((fO b bz).length:Int)>(sz:Int) by omega),go_sem]
    refine dm [] [0,1,2] [] (vs:=[.int 3]) rfl rfl (by decide) (by simp) (by simp) rfl rfl ?_
    simp [aP,ah,LV.int]
 | some q=>
   simp only [og,ak,go_sem]
   by_cases g4:bz≤q.2
   ·have ho:N0 bz (some q)=true:=decide_eq_true g4
    rw [hq,ho,if_pos rfl] at hs1
    simp only [decide_eq_true g4,hs1,go_sem]
    refine dm [] [0,1,2] [] (vs:=[.int 6]) rfl rfl (by decide) (by simp) (by simp) rfl rfl ?_
    simp [aP,ah,LV.int]
   rw [hq] at A4
   obtain ⟨X2,g3⟩:=A4 (decide_eq_false g4)
   simp only [decide_eq_false g4,X2,go_sem]
   refine ax (hm) rfl rfl rfl rfl ?_; simp only [go_sem]
   refine rD [3] (A5) rfl (by simp [ag,ah,bB,au,bR,go_sem]) (by simp [au]) rfl ?_; simp only [go_sem]
   refine ax (hpf) rfl rfl rfl rfl ?_; simp only [go_sem]
   simp only [aA,go_sem]
   by_cases g5:(fO b bz).length=0
   ·simp only [show (((fO b bz).length:Int)==0)=true by rw [beq_iff_eq]; omega,go_sem]
    refine dm [] [0,1,2] [] (vs:=[.int 3]) rfl rfl (by decide) (by simp) (by simp) rfl rfl ?_
    simp [aP,ah,LV.int]
   ·simp only [show (((fO b bz).length:Int)==0)=false from beq_eq_false_iff_ne.2 (by omega),aA,decide_eq_true (show ((fO b bz).length:Int)>(sz:Int) by omega),go_sem]
    refine dm [] [0,1,2] [] (vs:=[.int 3]) rfl rfl (by decide) (by simp) (by simp) rfl rfl ?_
    simp [aP,ah,LV.int]
def iL (l:List Int) (fr sz:Nat) (b:List Int) (bz:Int):List Int:=bN (bN l (fr+cQ l fr sz*sz) (List.replicate sz 0)) (fr+cQ l fr sz*sz) (fO b bz)
theorem Nq (l:List Int) (s:Int) (fr sz:Nat) (b:List Int) (bz:Int) (hb:∀ c∈l,0≤c∧c≤255) (h:fr+2*sz≤l.length) (hz:1≤sz) (hl:1≤l.length∧l.length≤65536) (AQ:b.length≤90000) (hE:eX l fr sz b bz=0):bh Tryz.prog G 92 [.ptr 0 0,ak b,.int bz] (mc l s fr sz) (.int 0) (mc (iL l fr sz b bz) (IntKind.i64.wrap (IntKind.i64.wrap (s+1)+1)) fr sz):=by
 have hst:=Eg (G:=G) l s fr sz b bz hb h hz hl AQ hE
 have hk:cQ l fr sz*sz+sz≤2*sz:=by
  have:cQ l fr sz≤1:=by unfold cQ; split <;> omega
  have:=Nat.mul_le_mul_right sz this
  omega
 have hfl:(fO b bz).length≤sz:=by
  unfold eX at hE
  split at hE
  ·exact absurd hE (by decide)
  split at hE
  ·exact absurd hE (by decide)
  split at hE
  ·exact absurd hE (by decide)
  omega
 have hA2:fr+cQ l fr sz*sz+sz≤l.length:=by omega
 have hS:iL l fr sz b bz=bN (bN l (fr+cQ l fr sz*sz) (List.replicate sz 0)) (fr+cQ l fr sz*sz) (fO b bz):=rfl
 generalize fr+cQ l fr sz*sz=A at *
 have hol:(bN l A (List.replicate sz 0)).length=l.length:=dR (by rw [List.length_replicate]; omega)
 have hs:=gK (G:=G) (bN l A (List.replicate sz 0)) (IntKind.i64.wrap (s+1)) A (fO b bz) (by rw [hol]; omega) (by rw [hol]; exact hl)
 rw [← hS] at hs
 simp only [mc,slW,eN,jK,vi,ak,List.cons_append,List.nil_append] at hst hs
 refine cA Tryz.func92 (by decide) OO rfl ?_
 simp only [mc,ak,Zh,go_sem]
 refine av [0,1,2] (hst) rfl ?_ (by decide) ?_ ?_ (by simp) ?_ <;> simp only [ag,ah,go_sem]
 refine av [1,2,3] (hs) rfl ?_ (by decide) ?_ ?_ (by simp) ?_ <;> simp only [ag,ah,go_sem]
 refine dm [] [0,1,2] [] (vs:=[.int 0]) rfl rfl (by decide) (by simp) (by simp) rfl rfl ?_
 simp [aP,ah,LV.int]
theorem El (l:List Int) (s:Int) (fr sz:Nat) (b:List Int) (bz:Int) (hb:∀ c∈l,0≤c∧c≤255) (h:fr+2*sz≤l.length) (hz:1≤sz) (hl:1≤l.length∧l.length≤65536) (AQ:b.length≤90000) (hE:eX l fr sz b bz≠0):bh Tryz.prog G 92 [.ptr 0 0,ak b,.int bz] (mc l s fr sz) (.int (eX l fr sz b bz)) (mc l s fr sz):=by
 have hst:=CE (G:=G) l s fr sz b bz hb h hz hl AQ hE
 generalize eX l fr sz b bz=e at *
 simp only [mc,ak] at hst
 refine aQ Tryz.func92 (by decide) OO rfl rfl rfl rfl ?_
 simp only [Zh,go_sem]
 simp only [mc,ak,go_sem]
 refine av [0,1,2] (hst) rfl ?_ (by decide) ?_ ?_ (by simp) ?_ <;> simp only [ag,ah,go_sem]
 simp only [show (e !=0)=true from bne_iff_ne.2 hE,go_sem]
def dkS (l:List Int) (s:Int) (fr sz:Nat):List aC:=[.box 150 [.sl 1 l.length 1 0 l.length,.d (.val (.slice none 0 0)),.int s],.dat 5 1 (az l),.box 243 [.ptr 0 0,.int fr,.int sz]]
theorem rQ (l:List Int) (s:Int) (fr sz:Nat) (h:fr+2*sz≤l.length) (hz:1≤sz) (hl:1≤l.length∧l.length≤65536):bh Tryz.prog G 80 [.ptr 0 0,.int fr,.int sz] (eN l s) (.dH [.ptr 2 0,.int 0]) (dkS l s fr sz):=by
 have hs:=iZ (G:=G) l s
 simp only [eN] at hs
 have w1:IntKind.i64.wrap (2*(sz:Int))=((2*sz:Nat):Int):=by rw [aL (by omega) (by omega)]; omega
 have w2:IntKind.i64.wrap ((l.length:Int)-((2*sz:Nat):Int))=((l.length-2*sz:Nat):Int):=by rw [aL (by omega) (by omega)]; omega
 have q1:IntKind.i64.wrap (((l.length:Nat):Int).tdiv 2)=((l.length / 2:Nat):Int):=by rw [Int.tdiv_eq_ediv_of_nonneg (by omega),aL (by omega) (by omega)]; omega
 refine cA Tryz.func80 (by decide) YW rfl ?_
 simp only [eN,aaR,go_sem]
 simp only [decide_eq_false (show ¬ ((fr:Nat):Int)<0 by omega),decide_eq_false (show ¬ ((sz:Nat):Int)<1 by omega),go_sem]
 refine av [0,1] (hs) rfl ?_ (by decide) ?_ ?_ (by simp) ?_ <;> simp only [ag,ah,go_sem]
 simp only [q1,decide_eq_false (show ¬ ((sz:Nat):Int)>((l.length / 2:Nat):Int) by omega),go_sem]
 refine av [0,1] (hs) rfl ?_ (by decide) ?_ ?_ (by simp) ?_ <;> simp only [ag,ah,go_sem]
 simp only [w1,w2,decide_eq_false (show ¬ ((fr:Nat):Int)>((l.length-2*sz:Nat):Int) by omega),go_sem]
 refine dm [] [0,1,2] [] (vs:=[.ptr 2 0,.int 0]) rfl rfl (by decide) (by simp) (by simp) rfl rfl ?_
 simp [aP,ah,ag,LV.int]
end Dv
namespace Dv
open Go Go.Proofs
variable {G:Nat→Option (List DV)}
def aaQ:=qx Tryz.f81
theorem YV:aj Tryz.prog Tryz.f81=some aaQ:=by kernel_rfl
def pS (l:List Int) (fr sz:Nat):List Int:=(l.drop fr).take sz
theorem tO {l:List Int} {fr sz:Nat} (h:fr+sz≤l.length):(pS l fr sz).length=sz:=by
 unfold pS
 rw [List.length_take,List.length_drop]
 omega
theorem Ek {l:List Int} {fr sz:Nat} (hb:∀ c∈l,0≤c∧c≤255):∀ c∈pS l fr sz,0≤c∧c≤255:=fun c hc=>hb c (List.mem_of_mem_drop (List.mem_of_mem_take hc))
def iU (l:List Int) (fr sz:Nat):List (List Int)×Nat:=u5 (pS l fr sz) (sz+1) [] 0
def dkL (l:List Int) (s:Int) (fr sz us:Nat):List aC:=[.box 150 [.sl 1 l.length 1 0 l.length,.d (.val (.slice none 0 0)),.int s],.dat 5 1 (az l),.box 245 [.ptr 0 0,.int fr,.int sz,.int us]]
theorem wP (l:List Int) (s:Int) (fr sz:Nat) (hb:∀ c∈l,0≤c∧c≤255) (hf:fr+sz≤l.length) (hz:1≤sz) (hl:1≤l.length∧l.length≤65536) (he:(iU l fr sz).2≤sz):bh Tryz.prog G 81 [.ptr 0 0,.int fr,.int sz] (eN l s) (.dH [.ptr 2 0,.d (.dK 1 (bR (iU l fr sz).1)),.int 0]) (dkL (bN l (fr+(iU l fr sz).2) (List.replicate (sz-(iU l fr sz).2) 0)) (IntKind.i64.wrap (s+1)) fr sz (iU l fr sz).2):=by
 have hs:=iZ (G:=G) l s
 have hy:=iu (G:=G) l s hl
 have xF:=tO hf
 have ha:=Dz (G:=G) (pS l fr sz) (Ek hb) (by omega) 0 (Nat.zero_le _) (iU l fr sz) (by rw [xF]; rfl)
 have hn:=C_ (G:=G) l s fr sz (iU l fr sz).2 (iU l fr sz).2 hf he hl
 generalize iU l fr sz=R at *
 simp only [eN,zC,ak] at hs hy ha hn
 have w1:IntKind.i64.wrap ((l.length:Int)-(sz:Int))=((l.length-sz:Nat):Int):=by rw [aL (by omega) (by omega)]; omega
 have w2:IntKind.i64.wrap ((fr:Int)+(sz:Int))=((fr+sz:Nat):Int):=by rw [aL (by omega) (by omega)]; omega
 have c1:fr≤fr+sz∧fr+sz≤l.length∧l.length≤l.length:=by omega
 have c2:(0:Int)≤((fr+sz:Nat):Int):=by omega
 have e1:fr+sz-fr=sz:=by omega
 refine cA Tryz.func81 (by decide) YV rfl ?_
 simp only [eN,aaQ,go_sem]
 simp only [decide_eq_false (show ¬ ((fr:Nat):Int)<0 by omega),decide_eq_false (show ¬ ((sz:Nat):Int)<1 by omega),go_sem]
 refine av [0,1] (hs) rfl ?_ (by decide) ?_ ?_ (by simp) ?_ <;> simp only [ag,ah,go_sem]
 simp only [decide_eq_false (show ¬ ((sz:Nat):Int)>((l.length:Nat):Int) by omega),go_sem]
 refine av [0,1] (hs) rfl ?_ (by decide) ?_ ?_ (by simp) ?_ <;> simp only [ag,ah,go_sem]
 simp only [w1,decide_eq_false (show ¬ ((fr:Nat):Int)>((l.length-sz:Nat):Int) by omega),go_sem]
 refine av [0,1] (hy) rfl ?_ (by decide) ?_ ?_ (by simp) ?_ <;> simp only [ag,ah,go_sem]
 simp only [w2,c1,c2,e1,aA,fR,iG,go_sem]
 refine ax (ha) rfl rfl rfl rfl ?_; simp only [go_sem]
 refine av [2,0,1] (hn) rfl ?_ (by decide) ?_ ?_ (by simp) ?_ <;> simp only [ag,ah,go_sem]
 have hol:(bN l (fr+R.2) (List.replicate (sz-R.2) 0)).length=l.length:=dR (by rw [List.length_replicate]; omega)
 refine dm [] [0,1,2] [] (vs:=[.ptr 2 0,.d (.dK 1 (bR R.1)),.int 0]) rfl rfl (by decide) (by simp) (by simp) rfl rfl ?_
 simp [aP,ah,ag,LV.int]
end Dv
namespace Dv
open Go Go.Proofs
variable {G:Nat→Option (List DV)}
def uy (n:Nat) (l:List Int) (s cnt bz:Int) (us:Nat):List aC:=[.box 160 [.ptr 1 0,.ptr 2 0,.ptr 3 0,.int cnt,.int bz],.box 150 [.sl 4 n 1 0 n,.d (.val (.slice none 0 0)),.int s],.box 243 [.ptr 1 0,.int 0,.int ((n / 4:Nat):Int)],.box 245 [.ptr 1 0,.int ((2*(n / 4):Nat):Int),.int ((n-2*(n / 4):Nat):Int),.int us],.dat 5 1 (az l)]
def W7:=qx Tryz.f185
theorem Tr:aj Tryz.prog Tryz.f185=some W7:=by kernel_rfl
def W9:=qx Tryz.f183
theorem Tt:aj Tryz.prog Tryz.f183=some W9:=by kernel_rfl
def aaM:=qx Tryz.f95
theorem YQ:aj Tryz.prog Tryz.f95=some aaM:=by kernel_rfl
def aa5:=qx Tryz.f33
theorem Y_:aj Tryz.prog Tryz.f33=some aa5:=by kernel_rfl
def Un:=qx Tryz.f31
theorem HA:aj Tryz.prog Tryz.f31=some Un:=by kernel_rfl
def XH:=qx Tryz.f131
theorem T1:aj Tryz.prog Tryz.f131=some XH:=by kernel_rfl
theorem GQ (n:Nat) (l:List Int) (s cnt bz:Int) (us:Nat) (p:List Int) (hp:p.length≤90000):bh Tryz.prog G 185 [.ptr 0 0,ak p] (uy n l s cnt bz us) (ak (br cnt++p)) (uy n l s cnt bz us):=by
 have hm:=om (G:=G) cnt
 have A5:=s_ (G:=G) [br cnt,p] (by simp) (by simp; have:=iA cnt; omega)
 simp only [List.flatten_cons,List.flatten_nil,List.append_nil,bR,List.map_cons,List.map_nil,ak] at A5 hm
 refine cA Tryz.func185 (by decide) Tr rfl ?_
 simp only [uy,ak,W7,go_sem]
 refine ax (hm) rfl rfl rfl rfl ?_; simp only [go_sem]
 refine rD [5] (A5) rfl (by simp [ag,ah,bB,au,bR,go_sem]) (by simp [au]) rfl ?_; simp only [go_sem]
 refine dm [] [0,1,2,3,4] [] (vs:=[.d (.dK 1 (az (br cnt++p)))]) rfl rfl (by decide) (by simp) (by simp) rfl rfl ?_
 simp [aP,ah]
def nk (n us:Nat) (cnt:Int) (k:Nat):Bool:=decide (1≤k∧k≤3900)&&rR (n-2*(n / 4)) us (k+(br cnt).length)
theorem By (n:Nat) (l:List Int) (s cnt bz:Int) (us k:Nat) (hl:l.length=n) (hn:n≤65536) (hu:us≤n-2*(n / 4)) (hk:k≤900000):bh Tryz.prog G 183 [.ptr 0 0,.int k] (uy n l s cnt bz us) (.bool (nk n us cnt k)) (uy n l s cnt bz us):=by
 have hm:=om (G:=G) cnt
 have h9:=iA cnt
 have hr:=wO (G:=G) l s (2*(n / 4)) (n-2*(n / 4)) us (k+(br cnt).length) hu (by omega) (by omega)
 have w1:IntKind.i64.wrap ((k:Int)+((br cnt).length:Int))=((k+(br cnt).length:Nat):Int):=by rw [aL (by omega) (by omega)]; omega
 simp only [ak,zC,hl] at hm hr
 refine aQ Tryz.func183 (by decide) Tt rfl rfl rfl rfl ?_
 simp only [W9,go_sem]
 simp only [uy,go_sem]
 by_cases h1:1≤k
 case neg=>
  simp only [decide_eq_false (show ¬ ((k:Nat):Int)≥1 by omega),nk,decide_eq_false (show ¬ (1≤k∧k≤3900) by omega),go_sem]
 by_cases h2:k≤3900
 case neg=>
  simp only [decide_eq_true (show ((k:Nat):Int)≥1 by omega),decide_eq_false (show ¬ ((k:Nat):Int)≤3900 by omega),nk,decide_eq_false (show ¬ (1≤k∧k≤3900) by omega),go_sem]
 simp only [decide_eq_true (show ((k:Nat):Int)≥1 by omega),decide_eq_true (show ((k:Nat):Int)≤3900 by omega),nk,decide_eq_true (show (1≤k∧k≤3900) by omega),go_sem]
 refine aU (hm) rfl rfl rfl rfl ?_; simp only [go_sem]
 simp only [aA,w1,go_sem]
 refine ei [3,1,4] (hr) rfl ?_ (by decide) ?_ ?_ (by simp) ?_ <;> simp only [ag,ah,go_sem]
 refine an rfl ?_
 simp only [go_sem]
def jnW (n:Nat) (l:List Int) (s cnt bz:Int) (us a:Nat) (b:List Int):List aC:=[.box 160 [.ptr 1 0,.ptr 2 0,.ptr 3 0,.int cnt,.int bz],.box 150 [.sl 4 n 1 0 n,.sl 5 1 2 0 1,.int s],.box 243 [.ptr 1 0,.int 0,.int ((n / 4:Nat):Int)],.box 245 [.ptr 1 0,.int ((2*(n / 4):Nat):Int),.int ((n-2*(n / 4):Nat):Int),.int us],.dat 5 1 (az l),.dat 227 2 (vi a b)]
def nr (cnt:Int) (p:List Int):List Int:=eT (br cnt++p)
theorem Hr (n:Nat) (l:List Int) (s cnt bz:Int) (us:Nat) (p:List Int) (hl:l.length=n) (hn:1≤n∧n≤65536) (hu:us≤n-2*(n / 4)) (hr:nk n us cnt p.length=true):bh Tryz.prog G 95 [.ptr 0 0,ak p] (uy n l s cnt bz us) (.int 0) (jnW n l s (IntKind.i64.wrap (cnt+1)) bz (us+(nr cnt p).length) (2*(n / 4)+us) (nr cnt p)):=by
 have B7:=hr
 unfold nk at B7
 rw [Bool.and_eq_true,decide_eq_true_eq] at B7
 obtain ⟨⟨k1,k2⟩,k3⟩:=B7
 have hrl:(br cnt++p).length=p.length+(br cnt).length:=by rw [List.length_append,Nat.add_comm]
 have hq:=By (G:=G) n l s cnt bz us p.length hl hn.2 hu (by omega)
 have sU:=GQ (G:=G) n l s cnt bz us p (by omega)
 have hput:=Hl (G:=G) l s (2*(n / 4)) (n-2*(n / 4)) us (br cnt++p) (by omega) hu (by omega) (by rw [hrl]; exact k3)
 rw [hr] at hq
 rw [show eT (br cnt++p)=nr cnt p from rfl] at hput
 simp only [uy,zC,lgW,vi,ak,hl] at hq sU hput
 refine cA Tryz.func95 (by decide) YQ rfl ?_
 simp only [uy,ak,aaM,go_sem]
 simp only [aA,show (((p.length:Nat):Int)==0)=false from beq_eq_false_iff_ne.2 (by omega),go_sem]
 simp only [aA,decide_eq_false (show ¬ ((p.length:Nat):Int)>3900 by omega),go_sem]
 refine av [0,1,2,3,4] (hq) rfl ?_ (by decide) ?_ ?_ (by simp) ?_ <;> simp only [ag,ah,go_sem]
 refine f_ [0,1,2,3,4] (sU) rfl ?_ (by decide) ?_ ?_ ?_ <;> simp only [ag,ah,go_sem]
 refine ei [3,1,4] (hput) rfl ?_ (by decide) ?_ ?_ (by simp) ?_ <;> simp only [ag,ah,go_sem]
 refine an rfl ?_
 simp only [go_sem]
 refine dm [] [0,1,2,3,4,5] [] (vs:=[.int 0]) rfl rfl (by decide) (by simp) (by simp) rfl rfl ?_
 simp [aP,ah,LV.int]
theorem Fc (n:Nat) (l:List Int) (s cnt bz:Int) (us:Nat) (p:List Int) (hl:l.length=n) (hn:1≤n∧n≤65536) (hu:us≤n-2*(n / 4)) (hr:nk n us cnt p.length=true):bh Tryz.prog G 33 [.ptr 0 0,ak p] (uy n l s cnt bz us) (.int 0) (uy n (bN l (2*(n / 4)+us) (nr cnt p)) (IntKind.i64.wrap (s+1)) (IntKind.i64.wrap (cnt+1)) bz (us+(nr cnt p).length)):=by
 have hst:=Hr (G:=G) n l s cnt bz us p hl hn hu hr
 have hfit:2*(n / 4)+us+(nr cnt p).length≤n:=by
  have B7:=hr
  unfold nk rR at B7
  rw [Bool.and_eq_true,decide_eq_true_eq,decide_eq_true_eq] at B7
  have hrl:(br cnt++p).length=p.length+(br cnt).length:=by rw [List.length_append,Nat.add_comm]
  unfold nr
  rw [p_ (by omega),hrl]
  omega
 have hsy:=gK (G:=G) l s (2*(n / 4)+us) (nr cnt p) (by omega) (by omega)
 have hov:(bN l (2*(n / 4)+us) (nr cnt p)).length=n:=by rw [dR (by omega),hl]
 simp only [uy,jnW,eN,jK,vi,ak,hov,hl,List.cons_append,List.nil_append] at hst hsy
 refine cA Tryz.func33 (by decide) Y_ rfl ?_
 simp only [uy,ak,aa5,go_sem]
 refine av [0,1,2,3,4] (hst) rfl ?_ (by decide) ?_ ?_ (by simp) ?_ <;> simp only [ag,ah,go_sem]
 refine av [1,4,5] (hsy) rfl ?_ (by decide) ?_ ?_ (by simp) ?_ <;> simp only [ag,ah,go_sem]
 refine dm [] [0,1,2,3,4] [] (vs:=[.int 0]) rfl rfl (by decide) (by simp) (by simp) rfl rfl ?_
 simp [aP,ah,LV.int]
theorem Hw (n:Nat) (l:List Int) (s cnt bz:Int) (us:Nat):bh Tryz.prog G 131 [.ptr 0 0] (uy n l s cnt bz us) (.int cnt) (uy n l s cnt bz us):=by
 refine aQ Tryz.func131 (by decide) T1 rfl rfl rfl rfl ?_
 simp only [XH,go_sem]
 simp only [uy,go_sem]
theorem Bv {l:List Int} {sz:Nat} {b:List Int} {bz:Int} (h:2*sz≤l.length) (hE:eX l 0 sz b bz=0):(iL l 0 sz b bz).length=l.length:=by
 have hk:cQ l 0 sz*sz+sz≤2*sz:=by
  have:cQ l 0 sz≤1:=by unfold cQ; split <;> omega
  have:=Nat.mul_le_mul_right sz this
  omega
 have hfl:(fO b bz).length≤sz:=by
  unfold eX at hE
  split at hE
  ·exact absurd hE (by decide)
  split at hE
  ·exact absurd hE (by decide)
  split at hE
  ·exact absurd hE (by decide)
  omega
 unfold iL
 have h1:(bN l (0+cQ l 0 sz*sz) (List.replicate sz 0)).length=l.length:=dR (by rw [List.length_replicate]; omega)
 rw [dR (by rw [h1]; omega),h1]
def xk (n:Nat) (l:List Int) (eO:List Int) (cnt:Int):List Int:=bN (iL l 0 (n / 4) eO cnt) (2*(n / 4)) (List.replicate (n-2*(n / 4)) 0)
theorem FT (n:Nat) (l:List Int) (s cnt bz:Int) (us:Nat) (eO:List Int) (hl:l.length=n) (hn:64≤n∧n≤65536) (hb:∀ c∈l,0≤c∧c≤255) (lZ:eO.length≤90000) (ha:bz≠cnt) (hE:eX l 0 (n / 4) eO cnt=0):bh Tryz.prog G 31 [.ptr 0 0,ak eO] (uy n l s cnt bz us) (.int 0) (uy n (xk n l eO cnt) (IntKind.i64.wrap (IntKind.i64.wrap (IntKind.i64.wrap (s+1)+1)+1)) cnt cnt 0):=by
 have hsv:=Nq (G:=G) l s 0 (n / 4) eO cnt hb (by omega) (by omega) (by omega) lZ hE
 have xF:=Bv (l:=l) (sz:=n / 4) (b:=eO) (bz:=cnt) (by omega) hE
 have hcl:=uu (G:=G) (iL l 0 (n / 4) eO cnt) (IntKind.i64.wrap (IntKind.i64.wrap (s+1)+1)) (2*(n / 4)) (n-2*(n / 4)) us (by omega) (by omega) (by omega)
 have hcb:(bN (iL l 0 (n / 4) eO cnt) (2*(n / 4)) (List.replicate (n-2*(n / 4)) 0)).length=n:=by rw [dR (by rw [List.length_replicate]; omega),xF,hl]
 simp only [mc,zC,ak,xF,hl,hcb] at hsv hcl
 refine cA Tryz.func31 (by decide) HA rfl ?_
 simp only [uy,xk,ak,Un,go_sem]
 simp only [show (bz==cnt)=false from beq_eq_false_iff_ne.2 ha,go_sem]
 refine ei [2,1,4] (hsv) rfl ?_ (by decide) ?_ ?_ (by simp) ?_ <;> simp only [ag,ah,go_sem]
 refine an rfl ?_
 simp only [go_sem]
 refine av [3,1,4] (hcl) rfl ?_ (by decide) ?_ ?_ (by simp) ?_ <;> simp only [ag,ah,go_sem]
 refine dm [] [0,1,2,3,4] [] (vs:=[.int 0]) rfl rfl (by decide) (by simp) (by simp) rfl rfl ?_
 simp [aP,ah,LV.int]
theorem xG (n:Nat) (l:List Int) (s cnt:Int) (us:Nat) (eO:List Int):bh Tryz.prog G 31 [.ptr 0 0,ak eO] (uy n l s cnt cnt us) (.int 3) (uy n l s cnt cnt us):=by
 refine aQ Tryz.func31 (by decide) HA rfl rfl rfl rfl ?_
 simp only [Un,go_sem]
 simp only [uy,ak,go_sem]
theorem Aw (n:Nat) (l:List Int) (s cnt bz:Int) (us:Nat) (eO:List Int) (hl:l.length=n) (hn:64≤n∧n≤65536) (hb:∀ c∈l,0≤c∧c≤255) (lZ:eO.length≤90000) (he:bz≠cnt) (hE:eX l 0 (n / 4) eO cnt≠0):bh Tryz.prog G 31 [.ptr 0 0,ak eO] (uy n l s cnt bz us) (.int 3) (uy n l s cnt bz us):=by
 have hsv:=El (G:=G) l s 0 (n / 4) eO cnt hb (by omega) (by omega) (by omega) lZ hE
 generalize eX l 0 (n / 4) eO cnt=e at *
 simp only [mc,ak,hl] at hsv
 refine aQ Tryz.func31 (by decide) HA rfl rfl rfl rfl ?_
 simp only [Un,go_sem]
 simp only [uy,ak,show (bz==cnt)=false from beq_eq_false_iff_ne.2 he,go_sem]
 refine f_ [2,1,4] (hsv) rfl ?_ (by decide) ?_ ?_ ?_ <;> simp only [ag,ah,go_sem]
 simp only [show (e !=0)=true from bne_iff_ne.2 hE,go_sem]
end Dv
namespace Dv
open Go Go.Proofs
variable {G:Nat→Option (List DV)}
def Zk:=qx Tryz.f29
theorem OR:aj Tryz.prog Tryz.f29=some Zk:=by kernel_rfl
def aaO:=qx Tryz.f83
theorem YT:aj Tryz.prog Tryz.f83=some aaO:=by kernel_rfl
def OX:=qx Tryz.f171
theorem JH:aj Tryz.prog Tryz.f171=some OX:=by kernel_rfl
def Zi:=qx Tryz.f85
theorem OP:aj Tryz.prog Tryz.f85=some Zi:=by kernel_rfl
theorem Ca (m:Nat):dJ (List.replicate m 0) 0=([],0,0):=by
 unfold dJ
 rw [if_neg (by omega),if_pos]
 cases m with
 | zero=>exact .inl rfl
 | succ m=>exact .inr rfl
theorem take_zero (n a b:Nat) (h:a+b≤n):((List.replicate n (0:Int)).drop a).take b=List.replicate b 0:=by
 rw [List.drop_replicate,List.take_replicate,Nat.min_eq_left (by omega)]
theorem KY (n fr sz:Nat) (h:fr+sz≤n):iU (List.replicate n 0) fr sz=([],0):=by
 unfold iU pS
 rw [take_zero n fr sz h]
 unfold u5
 rw [Ca]
 rfl
theorem BH (n fr sz k:Nat) (h:fr+k*sz+sz≤n):ic (List.replicate n 0) fr sz k=none:=by
 unfold ic eo
 rw [take_zero n (fr+k*sz) sz h,Ca]
 rfl
theorem zA (n fr sz:Nat) (h:fr+2*sz≤n):fu (List.replicate n 0) fr sz=none:=by
 have h0:=BH n fr sz 0 (by omega)
 have h1:=BH n fr sz 1 (by omega)
 unfold fu
 have:lD (List.replicate n 0) fr sz 2=(-1,-1):=by
  simp only [lD,h0,h1]
 rw [this]
 rfl
theorem G1 (n a m:Nat) (h:a+m≤n):bN (List.replicate n 0) a (List.replicate m 0)=List.replicate n 0:=by
 unfold bN
 rw [List.take_replicate,List.drop_replicate,List.length_replicate,List.replicate_append_replicate,List.replicate_append_replicate,Nat.min_eq_left (by omega)]
 congr 1
 omega
def UO (p q:Nat):LV:=.fn (.func 171) [] [.ptr p 0,.ptr q 0]
theorem rZ (rs:List (List Int)) (fr:Int):bh Tryz.prog G 83 [.d (.dK 1 (bR rs)),.int fr] [] (UO 0 1) [.box 58 [.d (.dK 1 (bR rs))],.box 3 [.int fr]]:=by
 refine cA Tryz.func83 (by decide) YT rfl ?_
 simp only [aaO,go_sem]
 exact dm [] [0,1] [] rfl rfl (by simp) (fun _ h=>by cases h) (fun _ h=>by cases h) rfl rfl (by simp [UO,c_,St.obj,au,aP,St.get,aW,ah,ag])
def jnP (n:Nat) (l:List Int) (s cnt bz:Int) (us:Nat):List aC:=[.box 150 [.sl 1 n 1 0 n,.d (.val (.slice none 0 0)),.int s],.dat 5 1 (az l),.box 160 [.ptr 0 0,.ptr 3 0,.ptr 4 0,.int cnt,.int bz],.box 243 [.ptr 0 0,.int 0,.int ((n / 4:Nat):Int)],.box 245 [.ptr 0 0,.int ((2*(n / 4):Nat):Int),.int ((n-2*(n / 4):Nat):Int),.int us]]
theorem Ic:bh Tryz.prog G 85 [.d (.dK 1 []),.int 0] [] (.bool false) []:=by
 refine bn Tryz.func85 (by decide) OP rfl rfl ?_
 simp only [Zi,go_sem]
def bOp (n:Nat) (s:Int):List (Option aC):=[some (.box 150 [.sl 1 n 1 0 n,.d (.val (.slice none 0 0)),.int s]),some (.dat 5 1 (az (List.replicate n 0))),some (.box 243 [.ptr 0 0,.int 0,.int ((n / 4:Nat):Int)]),some (.box 245 [.ptr 0 0,.int ((2*(n / 4):Nat):Int),.int ((n-2*(n / 4):Nat):Int),.int 0]),some (.box 160 [.ptr 0 0,.ptr 2 0,.ptr 3 0,.int 0,.int (-1)]),some (.box 56 [.ptr 4 0]),some (.box 58 [.d (.val (.slice none 0 0))]),some (.box 58 [.d (.dK 1 [])]),some (.box 3 [.int 0])]
theorem Ht (n:Nat) (s:Int) (hn:64≤n∧n≤65536):bh Tryz.prog G 29 [.ptr 0 0] (eN (List.replicate n 0) s) (.dH [.ptr 2 0,ak [],.d (.dK 1 []),.int 0]) (jnP n (List.replicate n 0) (IntKind.i64.wrap (s+1)) 0 (-1) 0):=by
 have hlen:(List.replicate n (0:Int)).length=n:=List.length_replicate
 have hsz:=iZ (G:=G) (List.replicate n 0) s
 have JQ:=rQ (G:=G) (List.replicate n 0) s 0 (n / 4) (by rw [hlen]; omega) (by omega) (by rw [hlen]; omega)
 have hz:∀ c∈List.replicate n (0:Int),0≤c∧c≤255:=fun c hc=>by rw [List.eq_of_mem_replicate hc]; decide
 have hR:=KY n (2*(n / 4)) (n-2*(n / 4)) (by omega)
 have hlo:=wP (G:=G) (List.replicate n 0) s (2*(n / 4)) (n-2*(n / 4)) hz (by rw [hlen]; omega) (by omega) (by rw [hlen]; omega) (by rw [hR]; dsimp only; omega)
 have QL:=uv (G:=G) (List.replicate n 0) (IntKind.i64.wrap (s+1)) 0 (n / 4) hz (by rw [hlen]; omega) (by rw [hlen]; omega)
 rw [zA n 0 (n / 4) (by omega)] at QL
 rw [hR] at hlo
 simp only [Nat.add_zero,Nat.sub_zero,G1 n (2*(n / 4)) (n-2*(n / 4)) (by omega)] at hlo
 simp only [eN,dkS,dkL,mc,og,ak,hlen,bR,List.map_nil] at hsz JQ hlo QL
 have w1:IntKind.i64.wrap (((n:Nat):Int).tdiv 4)=((n / 4:Nat):Int):=by rw [Int.tdiv_eq_ediv_of_nonneg (by omega),aL (by omega) (by omega)]; omega
 have w2:IntKind.i64.wrap (2*((n / 4:Nat):Int))=((2*(n / 4):Nat):Int):=by rw [aL (by omega) (by omega)]; omega
 have w3:IntKind.i64.wrap (((n:Nat):Int)-((2*(n / 4):Nat):Int))=((n-2*(n / 4):Nat):Int):=by rw [aL (by omega) (by omega)]; omega
 refine cA Tryz.func29 (by decide) OR rfl ?_
 simp only [eN,hlen,Zk,go_sem]
 refine av [0,1] (hsz) rfl ?_ (by decide) ?_ ?_ (by simp) ?_ <;> simp only [ag,ah,go_sem]
 simp only [decide_eq_false (show ¬ ((n:Nat):Int)<64 by omega),go_sem]
 refine av [0,1] (hsz) rfl ?_ (by decide) ?_ ?_ (by simp) ?_ <;> simp only [ag,ah,go_sem]
 simp only [w1,go_sem]
 refine av [0,1] (JQ) rfl ?_ (by decide) ?_ ?_ (by simp) ?_ <;> simp only [ag,ah,go_sem]
 simp only [w2,go_sem]
 refine av [0,1] (hsz) rfl ?_ (by decide) ?_ ?_ (by simp) ?_ <;> simp only [ag,ah,go_sem]
 simp only [w2,w3,go_sem]
 refine av [0,1] (hlo) rfl ?_ (by decide) ?_ ?_ (by simp) ?_ <;> simp only [ag,ah,go_sem]
 refine av [2,0,1] (QL) rfl ?_ (by decide) ?_ ?_ (by simp) ?_ <;> simp only [ag,ah,go_sem]
 have hfo:=rZ (G:=G) [] 0
 simp only [bR,List.map_nil,UO] at hfo
 refine gu hfo rfl rfl rfl ?_
 simp only [go_sem]
 refine Qx rfl (fun yv o=>yv=ia∧o=bOp n (IntKind.i64.wrap (s+1))++[none]) ?_ ?_
 case refine_2=>
  rintro yv af ⟨rfl,rfl⟩
  refine .inl ⟨rfl,?_⟩
  simp only [bOp,go_sem]
  have hel:=Ic (G:=G)
  refine ax (hel) rfl rfl rfl rfl ?_; simp only [go_sem]
  refine dm [] [0,1,4,2,3] [] (vs:=[.ptr 4 0,.d (.dK 1 (az [])),.d (.val (.slice none 0 0)),.int 0]) rfl rfl (by decide) (by simp) (by simp) rfl rfl ?_
  simp [aP,ah,ag,ak,LV.int]
 simp only [go_sem]
 refine Hx Tryz.func171 (by decide) JH rfl rfl rfl ?_
 simp only [OX,go_sem]
 refine aR [10,11,4294967294] [] (fun k:Nat=>k=0) (fun k=>1-k) (fun _=>⟨[(10,.int 0),(11,.int 0),(4294967294,ia)],bOp n (IntKind.i64.wrap (s+1))++[none]⟩) 0 ?_ rfl (fun k hk=>?_)
 ·simp only [bOp,go_sem]
 simp only [bOp,go_sem]
end Dv
namespace Dv
open Go Go.Proofs
variable {G:Nat→Option (List DV)}
structure pE where
 ce:Int
 cd:List Int
 se:Int
 sd:List Int
def iP:pE:=⟨0,[],0,[]⟩
def kr:List Int→LV
 | []=>.d (.val (.slice none 0 0))
 | x::l=>ak (x::l)
def sD (x:pE):List LV:=[.int x.ce,kr x.cd,.int x.se,kr x.sd]
def kP (room term:Int) (sh:List pE) (wr:Int):List aC:=[.box 190 ([.int room,.int term]++(sh.flatMap sD++[.int wr]))]
theorem Qh (k:Nat) (d:List Int):eB k (kr d)=true:=by cases d <;> rfl
theorem U0 (π:Nat→Nat) (d:List Int):rn π (kr d)=kr d:=by cases d <;> rfl
theorem aZ (k:Nat):∀ a b:List LV,eu k (a++b)=(eu k a&&eu k b)
 | [],b=>by simp [eu]
 | x::a,b=>by simp only [List.cons_append,eu,aZ k a b,Bool.and_assoc]
theorem bL (π:Nat→Nat):∀ a b:List LV,mw π (a++b)=mw π a++mw π b
 | [],b=>rfl
 | x::a,b=>by simp only [List.cons_append,mw,bL π a b]
theorem bF (k:Nat) (sh:List pE):eu k (sh.flatMap sD)=true:=by
 induction sh with
 | nil=>rfl
 | cons x sh ih=>simp only [List.flatMap_cons,aZ,ih,sD,eu,Qh,LV.int,eB,Bool.and_true]
theorem cu (π:Nat→Nat) (sh:List pE):mw π (sh.flatMap sD)=sh.flatMap sD:=by
 induction sh with
 | nil=>rfl
 | cons x sh ih=>simp only [List.flatMap_cons,bL,ih,sD,mw,U0,LV.int,rn]
theorem gi (k:Nat) (room term:Int) (sh:List pE) (wr:Int):(kP room term sh wr).all (dV k)=true:=by
 simp only [kP,List.all_cons,List.all_nil,dV,Bool.and_true,aZ,bF]
 rfl
def aa4:=qx Tryz.f35
theorem Y9:aj Tryz.prog Tryz.f35=some aa4:=by kernel_rfl
def XV:=qx Tryz.f101
theorem Uk:aj Tryz.prog Tryz.f101=some XV:=by kernel_rfl
def XJ:=qx Tryz.f126
theorem T9:aj Tryz.prog Tryz.f126=some XJ:=by kernel_rfl
def XU:=qx Tryz.f102
theorem Uj:aj Tryz.prog Tryz.f102=some XU:=by kernel_rfl
theorem CC (room:Int):bh Tryz.prog G 35 [.int room] [] (.ptr 0 0) (kP (if room>0 then room else 0) 0 (List.replicate 25 iP) 0):=by
 refine cA Tryz.func35 (by decide) Y9 rfl ?_
 simp only [aa4,go_sem]
 refine dm [] [0] [] (vs:=[.ptr 0 0]) rfl rfl (by decide) (by simp) (by simp) rfl rfl ?_
 simp [aP,ah]
theorem yE (room term:Int) (sh:List pE) (wr t:Int):bh Tryz.prog G 101 [.ptr 0 0,.int t] (kP room term sh wr) (.dH []) (kP room (if t>term then t else term) sh wr):=by
 refine aQ Tryz.func101 (by decide) Uk rfl rfl (gi _ _ _ _ _) rfl ?_
 simp only [kP,XV,go_sem]
theorem nV (room term:Int) (sh:List pE) (wr:Int) (k:Nat) (hk:1≤k∧k≤24):bh Tryz.prog G 126 [.ptr 0 0,.int k] (kP room term sh wr) (.ptr 0 (2+4*k)) (kP room term sh wr):=by
 refine aQ Tryz.func126 (by decide) T9 rfl rfl (gi _ _ _ _ _) rfl ?_
 simp only [kP,XJ,go_sem]
 simp only [decide_eq_false (show ¬ ((k:Nat):Int)<1 by omega),decide_eq_false (show ¬ ((k:Nat):Int)>24 by omega),go_sem]
 simp only [show k<25 by omega,show 2+k*4=2+4*k by omega,go_sem]
theorem CK (sh:List pE):(sh.flatMap sD).length=4*sh.length:=by
 induction sh with
 | nil=>rfl
 | cons x sh ih=>rw [List.flatMap_cons,List.length_append,ih]; show 4+_=_; rw [List.length_cons]; omega
theorem Ja (x:pE):∀ (sh:List pE) (k:Nat),k<sh.length→(sh.flatMap sD).take (4*k)++sD x++(sh.flatMap sD).drop (4*k+4)=(sh.set k x).flatMap sD
 | [],k,h=>absurd h (Nat.not_lt_zero _)
 | y::sh,0,_=>by simp [List.flatMap_cons,sD]
 | y::sh,k+1,h=>by
   have ih:=Ja x sh k (by simpa using h)
   rw [List.set_cons_succ,List.flatMap_cons,List.flatMap_cons,← ih,show 4*(k+1)=4*k+4 by omega,show 4*k+4+4=(4*k+4)+4 by omega]
   simp [sD]
theorem Ej (a b w:LV) (x:pE) (sh:List pE) (k:Nat) (h:k<sh.length):(a::b::(sh.flatMap sD++[w])).take (2+4*k)++sD x++(sh.flatMap sD++[w]).drop (2+4*k+2)=a::b::((sh.set k x).flatMap sD++[w]):=by
 have hl:=CK sh
 rw [← Ja x sh k h,show 2+4*k=(4*k+1)+1 by omega,List.take_succ_cons,List.take_succ_cons,show 4*k+1+1+2=4*k+4 by omega,List.take_append_of_le_length (by omega),List.drop_append_of_le_length (by omega)]
 simp
theorem CD (room term:Int) (sh:List pE) (wr:Int) (k:Nat) (hk:1≤k∧k≤24) (hs:sh.length=25):bh Tryz.prog G 102 [.ptr 0 0,.int k] (kP room term sh wr) (.dH []) (kP room term (sh.set k iP) wr):=by
 have hj:=nV (G:=G) room term sh wr k hk
 simp only [kP,List.cons_append,List.nil_append] at hj
 refine aQ Tryz.func102 (by decide) Uj rfl rfl (gi _ _ _ _ _) rfl ?_
 simp only [kP,XU,go_sem]
 refine gL [0] (hj) rfl ?_ (by decide) ?_ ?_ ?_ <;> simp only [ag,ah,go_sem,bL,cu,aZ,bF]
 have hl:=CK sh
 have hset:=Ej (.int room) (.int term) (.int wr) iP sh k (by omega)
 have c1:2+4*k+2≤(sh.flatMap sD++[LV.int wr]).length:=by rw [List.length_append,hl]; simp; omega
 simp only [LV.int,sD,iP,kr] at hset c1
 rw [if_pos c1,hset]
 simp only [go_sem]
 rfl
end Dv
