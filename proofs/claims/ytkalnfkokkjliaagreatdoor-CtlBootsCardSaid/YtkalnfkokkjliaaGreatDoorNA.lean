/- The logical machine and its plain laws: parts N1, N2, N3, N4, N5, N6, N7, N8, N9, N10, N11, N12, proved sound. -/
import Derived.Test.YtkalnfkokkjliaaGreatDoorI0
import Derived.Test.YtkalnfkokkjliaaGreatDoorVD
import Derived.Test.YtkalnfkokkjliaaGreatDoorI8
import Derived.Test.YtkalnfkokkjliaaGreatDoorG1
set_option linter.unusedVariables false
set_option linter.unusedSimpArgs false
set_option maxRecDepth 100000
namespace Dv
open Go Go.Proofs
variable {G:Nat→Option (List DV)}
def Ff (r:Int):Int:=if (uF .u32 r 1==0)=true then oU .u32 r 1 else j5 .u32 (oU .u32 r 1) 3988292384
def kr (r:Int):Nat→Int
 | 0=>r
 | k+1=>Ff (kr r k)
def iu (r:Int) (b:List Int):Nat→Int
 | 0=>r
 | k+1=>kr (j5 .u32 (iu r b k) (IntKind.u32.wrap (b.getD k 0))) 8
def fF (s:Int) (b:List Int):Int:=if s<0∨s>4294967295 then 0 else IntKind.i64.wrap (j5 .u32 4294967295 (iu (j5 .u32 4294967295 (IntKind.u32.wrap s)) b b.length))
def lE (n:Int):List Int:=[IntKind.u8.wrap (oU .i64 n 24),IntKind.u8.wrap (oU .i64 n 16),IntKind.u8.wrap (oU .i64 n 8),IntKind.u8.wrap n]
def rU (b:List Int):Bool:=decide (4≤b.length)&&decide (lE (fF 0 (b.take (b.length-4)))=b.drop (b.length-4))
def TJ:=qx Tryz.f321
theorem Qd:aq Tryz.prog Tryz.f321=some TJ:=by kernel_rfl
def TK:=qx Tryz.f306
theorem Qe:aq Tryz.prog Tryz.f306=some TK:=by kernel_rfl
def TO:=qx Tryz.f273
theorem Qi:aq Tryz.prog Tryz.f273=some TO:=by kernel_rfl
def TP:=qx Tryz.f272
theorem Qj:aq Tryz.prog Tryz.f272=some TP:=by kernel_rfl
def TQ:=qx Tryz.f271
theorem Qk:aq Tryz.prog Tryz.f271=some TQ:=by kernel_rfl
def TL:=qx Tryz.f305
theorem Qf:aq Tryz.prog Tryz.f305=some TL:=by kernel_rfl
def Pa (r:Int) (b:List Int) (k:Nat):St:=⟨[(0,.d (.val (.int .u32 (iu r b k)))),(7,af b),(8,.int b.length),(9,.int k)],[]⟩
def LU (x:Int) (b:List Int) (k:Nat) (j:Nat):St:=⟨[(0,.d (.val (.int .u32 (kr x j)))),(7,af b),(8,.int b.length),(9,.int k),(17,.int j)],[]⟩
theorem FF (r:Int) (b:List Int) (hl:b.length≤1000000):br Tryz.prog G 321 [.d (.val (.int .u32 r)),af b] [] (.d (.val (.int .u32 (iu r b b.length)))) []:=by
 have hlb:(ak b).length=b.length:=by simp [ak]
 refine b_ Tryz.func321 (by decide) Qd rfl rfl ?_
 simp only [af,TJ,go_sem,simprocAttr]
 refine aP [0,7,8,9] [] (fun k:Nat=>k≤b.length) (fun k=>b.length-k) (Pa r b) 0 ?_ (Nat.zero_le _) (fun k hk=>?_)
 ·simp only [Pa,af,hlb,iu,Int.natCast_zero,go_sem,simprocAttr]
 simp only [Pa,af,go_sem,simprocAttr]
 by_cases hlt:k<b.length
 ·have hg:=aB (f:=fun n:Int=>[u8 n]) 0 hlt
  rw [show b.map (fun n:Int=>[u8 n])=ak b from rfl] at hg
  have hnx:iu r b (k+1)=kr (j5 .u32 (iu r b k) (IntKind.u32.wrap (b.getD k 0))) 8:=rfl
  generalize b.getD k 0=c at *
  simp only [decide_eq_true (show ((k:Nat):Int)<((b.length:Nat):Int) by omega),hg,u8,go_sem,simprocAttr]
  generalize j5 .u32 (iu r b k) (IntKind.u32.wrap c)=x at *
  refine aP [0,7,8,9,17] [] (fun j:Nat=>j≤8) (fun j=>8-j) (LU x b k) 0 ?_ (Nat.zero_le _) (fun j hj=>?_)
  ·simp only [LU,af,kr,Int.natCast_zero,go_sem,simprocAttr]
  simp only [LU,af,go_sem,simprocAttr]
  by_cases hj8:j<8
  ·have hnb:kr x (j+1)=Ff (kr x j):=rfl
   unfold Ff at hnb
   generalize kr x j=y at *
   simp only [decide_eq_true (show ((j:Nat):Int)<8 by omega),go_sem,simprocAttr]
   cases hb:(uF .u32 y 1==0) with
   | true=>
     rw [hb,if_pos rfl] at hnb
     simp only [go_sem,simprocAttr]
     refine aR (j+1) ?_ ?_ (by omega) (by omega)
     ·simp only [go_sem,simprocAttr]
     ·simp only [LU,af,hnb,ax (show j<9223372036854775807 by omega),go_sem,simprocAttr]
   | false=>
     rw [hb,if_neg Bool.false_ne_true] at hnb
     simp only [go_sem,simprocAttr]
     refine aR (j+1) ?_ ?_ (by omega) (by omega)
     ·simp only [go_sem,simprocAttr]
     ·simp only [LU,af,hnb,ax (show j<9223372036854775807 by omega),go_sem,simprocAttr]
  ·obtain rfl:j=8:=by omega
   simp only [show decide (((8:Nat):Int)<8)=false from rfl,go_sem,simprocAttr]
   refine aR (k+1) ?_ ?_ (by omega) (by omega)
   ·simp only [go_sem,simprocAttr]
   ·simp only [Pa,af,hnx,ax (show k<9223372036854775807 by omega),go_sem,simprocAttr]
 ·obtain rfl:k=b.length:=by omega
  simp only [decide_eq_false (show ¬ ((b.length:Nat):Int)<((b.length:Nat):Int) by omega),go_sem,simprocAttr]
theorem MK (s:Int) (b:List Int) (hl:b.length≤1000000):br Tryz.prog G 306 [.int s,af b] [] (.int (fF s b)) []:=by
 refine b_ Tryz.func306 (by decide) Qe rfl rfl ?_
 simp only [TK,go_sem,simprocAttr]
 by_cases h1:s<0
 ·simp only [decide_eq_true h1,fF,h1,go_sem,simprocAttr]
 by_cases h2:s>4294967295
 ·simp only [decide_eq_false h1,decide_eq_true h2,fF,h2,go_sem,simprocAttr]
 have hm:fF s b=IntKind.i64.wrap (j5 .u32 4294967295 (iu (j5 .u32 4294967295 (IntKind.u32.wrap s)) b b.length)):=if_neg (by omega)
 simp only [decide_eq_false h1,decide_eq_false h2,hm,go_sem,simprocAttr]
 refine av (FF (j5 .u32 4294967295 (IntKind.u32.wrap s)) b hl) rfl rfl rfl rfl ?_; simp only [go_sem,simprocAttr]
 rfl
theorem Aq (b:List Int) (hl:b.length≤1000000):br Tryz.prog G 273 [af b] [] (.int (fF 0 b)) []:=by
 refine b_ Tryz.func273 (by decide) Qi rfl rfl ?_
 simp only [TO,go_sem,simprocAttr]
 refine av (MK 0 b hl) rfl rfl rfl rfl ?_; simp only [go_sem,simprocAttr]
theorem xO (n:Int):br Tryz.prog G 272 [.int n] [] (af (lE n)) []:=by
 refine bD Tryz.func272 (by decide) Qj rfl ?_
 simp only [TP,go_sem,simprocAttr]
 exact bw [0] rfl (by simp [St.obj,ay]) (by simp [St.obj,ay,aF,St.get,aO,ah,aM,af,ak,lE,u8])
theorem j6 (n:Int):(lE n).length=4:=rfl
theorem qF (l:List Int) {k:Nat} (h:k<l.length):l.take (k+1)=l.take k++[l.getD k 0]:=by
 rw [List.take_add_one]
 simp [h,List.getD]
def eqS (a b:List Int) (k:Nat):St:=⟨[(0,af a),(1,af b),(4,.bool false),(11,af a),(12,.int a.length),(13,.int k)],[]⟩
theorem KJ (a b:List Int) (ha:a.length≤1000000) (hb:b.length≤1000000):br Tryz.prog G 305 [af a,af b] [] (.bool (decide (a=b))) []:=by
 have hla:(ak a).length=a.length:=by simp [ak]
 have hlb:(ak b).length=b.length:=by simp [ak]
 refine b_ Tryz.func305 (by decide) Qf rfl rfl ?_
 simp only [af,TL,go_sem,simprocAttr]
 simp only [hla,hlb,go_sem,simprocAttr]
 by_cases hl:a.length=b.length
 case neg=>
  simp only [show (((a.length:Nat):Int) !=((b.length:Nat):Int))=true from bne_iff_ne.2 (by omega),go_sem,simprocAttr]
  simp only [decide_eq_false (show ¬ a=b from fun h=>hl (by rw [h]))]
 simp only [show (((a.length:Nat):Int) !=((b.length:Nat):Int))=false from by simp [hl],go_sem,simprocAttr]
 refine aP [0,1,4,11,12,13] [] (fun k:Nat=>k≤a.length∧a.take k=b.take k) (fun k=>a.length-k) (eqS a b) 0 ?_ ⟨Nat.zero_le _,rfl⟩ ?_
 ·simp only [eqS,af,hla,Int.natCast_zero,go_sem,simprocAttr]
 rintro k ⟨hk,hp⟩
 simp only [eqS,af,go_sem,simprocAttr]
 by_cases hlt:k<a.length
 ·have hga:=aB (f:=fun n:Int=>[u8 n]) 0 hlt
  have Ir:=aB (f:=fun n:Int=>[u8 n]) 0 (show k<b.length by omega)
  rw [show a.map (fun n:Int=>[u8 n])=ak a from rfl] at hga
  rw [show b.map (fun n:Int=>[u8 n])=ak b from rfl] at Ir
  simp only [decide_eq_true (show ((k:Nat):Int)<((a.length:Nat):Int) by omega),hga,Ir,u8,go_sem,simprocAttr]
  by_cases he:a.getD k 0=b.getD k 0
  ·simp only [he,bne_self_eq_false,go_sem,simprocAttr]
   refine aR (k+1) ?_ ?_ ⟨by omega,by rw [qF a hlt,qF b (by omega),hp,he]⟩ (by omega)
   ·simp only [go_sem,simprocAttr]
   ·simp only [eqS,af,ax (show k<9223372036854775807 by omega),go_sem,simprocAttr]
  ·simp only [show (a.getD k 0 !=b.getD k 0)=true from bne_iff_ne.2 he,go_sem,simprocAttr]
   exact (decide_eq_false fun h=>he (by rw [h])).symm
 ·obtain rfl:k=a.length:=by omega
  simp only [decide_eq_false (show ¬ ((a.length:Nat):Int)<((a.length:Nat):Int) by omega),go_sem,simprocAttr]
  refine (decide_eq_true ?_).symm
  rw [List.take_length,hl,List.take_length] at hp
  exact hp
theorem fq (b:List Int) (n:Nat):(ak b).take n=ak (b.take n):=by simp [ak,List.map_take]
theorem dP (b:List Int) (n:Nat):(ak b).drop n=ak (b.drop n):=by simp [ak,List.map_drop]
theorem aj (b:List Int):(ak b).length=b.length:=by simp [ak]
theorem Jh (b:List Int) (hl:b.length≤1000000):br Tryz.prog G 271 [af b] [] (.bool (rU b)) []:=by
 have hlb:(ak b).length=b.length:=by simp [ak]
 refine b_ Tryz.func271 (by decide) Qk rfl rfl ?_
 simp only [af,TQ,go_sem,simprocAttr]
 simp only [hlb,aD (show -9223372036854775808≤((b.length:Nat):Int)-4 by omega) (show ((b.length:Nat):Int)-4≤9223372036854775807 by omega),go_sem,simprocAttr]
 by_cases h4:4≤b.length
 ·simp only [decide_eq_true (show ((b.length:Nat):Int)-4≥0 by omega),hlb,go_sem,simprocAttr]
  have c1:(0:Int)≤((b.length:Nat):Int)-4:=by omega
  have e0:(((b.length:Nat):Int)-4).toNat=b.length-4:=by omega
  have c2:0≤b.length-4∧b.length-4≤b.length∧b.length≤b.length:=by omega
  have c3:b.length-4≤b.length∧b.length≤b.length∧b.length≤b.length:=by omega
  have hi:rU b=decide (lE (fF 0 (b.take (b.length-4)))=b.drop (b.length-4)):=by unfold rU; rw [decide_eq_true h4,Bool.true_and]
  have ho:=Aq (G:=G) (b.take (b.length-4)) (by rw [List.length_take]; omega)
  have he:=KJ (G:=G) (lE (fF 0 (b.take (b.length-4)))) (b.drop (b.length-4)) (by rw [j6]; decide) (by rw [List.length_drop]; omega)
  simp only [af] at ho he
  simp only [c1,e0,c2,Nat.sub_zero,fq,go_sem,simprocAttr]
  refine bA (ho) rfl rfl rfl rfl ?_; simp only [go_sem,simprocAttr]
  refine bA (xO (fF 0 (b.take (b.length-4)))) rfl rfl rfl rfl ?_; simp only [go_sem,simprocAttr]
  have c4:(ak (b.drop (b.length-4))).take (b.length-(b.length-4))=ak (b.drop (b.length-4)):=List.take_of_length_le (by rw [aj,List.length_drop]; exact Nat.le_refl _)
  simp only [c1,e0,c3,hlb,dP,c4,af,go_sem,simprocAttr]
  refine bA (he) rfl rfl rfl rfl ?_; simp only [go_sem,simprocAttr]
  rw [hi]
 ·simp only [decide_eq_false (show ¬ ((b.length:Nat):Int)-4≥0 by omega),rU,decide_eq_false h4,go_sem,simprocAttr]
end Dv
set_option maxRecDepth 100000
namespace Dv
open Go Go.Proofs
variable {G:Nat→Option (List DV)}
def Sh:=qx Tryz.f84
theorem Gq:aq Tryz.prog Tryz.f84=some Sh:=by kernel_rfl
def M3:=qx Tryz.f232
theorem HZ:aq Tryz.prog Tryz.f232=some M3:=by kernel_rfl
def T8:=qx Tryz.f231
theorem QC:aq Tryz.prog Tryz.f231=some T8:=by kernel_rfl
theorem EY (l:List Int) (hl:l.length≤1000000):br Tryz.prog G 84 [af l] [] (.sl 0 l.length 1 0 l.length) [.dat 5 1 (ak l)]:=by
 refine bD Tryz.func84 (by decide) Gq rfl ?_
 simp only [af,Sh,go_sem,simprocAttr]
 cases l with
 | nil=>
   simp only [ak,go_sem,simprocAttr]
   refine ⟨?_,?_⟩
   ·exact qE [.t 2 5 1] rfl rfl
   ·exact qE [] rfl rfl
 | cons n l=>
   have hr:(ak (n::l)).length=(n::l).length:=aj _
   have h0:¬ (n::l).length=0:=by simp
   have hb:(l.length+1)*1≤70368744177664:=by simp at hl; omega
   simp only [hr,h0,List.take_of_length_le (show (ak (n::l)).length≤(n::l).length by rw [hr]; exact Nat.le_refl _),Nat.le_refl,go_sem,simprocAttr]
   simp only [hb,go_sem,simprocAttr]
   exact qE [] rfl rfl
theorem oz (l:List Int) (hl:l.length≤1000000):br Tryz.prog G 84 [af l] [] (af l) []:=by
 refine bD Tryz.func84 (by decide) Gq rfl ?_
 simp only [af,Sh,go_sem,simprocAttr]
 cases l with
 | nil=>
   simp only [ak,go_sem,simprocAttr]
   refine ⟨?_,?_⟩
   ·exact bw [] rfl (by simp) (by simp [aF,St.get,aO,ah])
   ·exact bw [0] rfl (by simp [St.obj,ay]) (by simp [St.obj,ay,aF,St.get,aO,ah,aM])
 | cons n l=>
   have hr:(ak (n::l)).length=(n::l).length:=aj _
   have h0:¬ (n::l).length=0:=by simp
   have hb:(l.length+1)*1≤70368744177664:=by simp at hl; omega
   simp only [hr,h0,List.take_of_length_le (show (ak (n::l)).length≤(n::l).length by rw [hr]; exact Nat.le_refl _),Nat.le_refl,go_sem,simprocAttr]
   simp only [hb,go_sem,simprocAttr]
   exact bw [0] rfl (by simp [St.obj,ay]) (by simp [St.obj,ay,aF,St.get,aO,ah,aM,List.take_of_length_le,hr])
theorem gB (a b:List Int):ak (a++b)=ak a++ak b:=by simp [ak]
def aS (ls:List (List Int)):List (List DV):=ls.map fun b=>[.dN 1 (ak b)]
def cat (ls:List (List Int)) (k:Nat):List Int:=(ls.take k).flatten
theorem E6 (ls:List (List Int)) {k:Nat} (h:k<ls.length):cat ls (k+1)=cat ls k++ls.getD k []:=by
 unfold cat
 rw [List.take_add_one,List.flatten_append]
 simp [h,List.getD]
theorem Oy (ls:List (List Int)) (k:Nat):(cat ls k).length≤ls.flatten.length:=by
 have:ls.flatten=(ls.take k).flatten++(ls.drop k).flatten:=by rw [← List.flatten_append,List.take_append_drop]
 rw [this,List.length_append]
 exact Nat.le_add_right _ _
def Tb (ls:List (List Int)) (k:Nat):St:=⟨[(0,.d (.dN 1 (aS ls))),(2,.d (.val (.slice none 0 0))),(3,.int (cat ls k).length),(9,.d (.dN 1 (aS ls))),(10,.int ls.length),(11,.int k)],[]⟩
def Ta (ls:List (List Int)) (k:Nat):St:=⟨[(6,.sl 0 (cat ls k).length 1 0 (cat ls k).length),(25,.d (.dN 1 (aS ls))),(26,.int ls.length),(27,.int k)],[some (.dat 5 1 (ak (cat ls k)))]⟩
set_option maxHeartbeats 1000000 in
theorem sX (ls:List (List Int)) (hl:ls.length≤100) (ht:ls.flatten.length≤100000):br Tryz.prog G 232 [.d (.dN 1 (aS ls))] [] (af ls.flatten) []:=by
 have hlc:(aS ls).length=ls.length:=by simp [aS]
 refine bD Tryz.func232 (by decide) HZ rfl ?_
 simp only [af,M3,go_sem,simprocAttr]
 refine aP [0,2,3,9,10,11] [] (fun k:Nat=>k≤ls.length) (fun k=>ls.length-k) (Tb ls) 0 ?_ (Nat.zero_le _) (fun k hk=>?_)
 ·simp only [Tb,hlc,Int.natCast_zero,cat,List.flatten_nil,go_sem,simprocAttr]
 simp only [Tb,go_sem,simprocAttr]
 by_cases hlt:k<ls.length
 ·have hg:=aB (f:=fun b:List Int=>[DV.dN 1 (ak b)]) [] hlt
  rw [show ls.map (fun b:List Int=>[DV.dN 1 (ak b)])=aS ls from rfl] at hg
  have hc:=congrArg List.length (E6 ls hlt)
  rw [List.length_append] at hc
  have h1:=Oy ls (k+1)
  generalize ls.getD k []=b at *
  have hw:IntKind.i64.wrap (((cat ls k).length:Int)+(b.length:Int))=((cat ls (k+1)).length:Int):=by rw [aD (by omega) (by omega),hc]; omega
  simp only [decide_eq_true (show ((k:Nat):Int)<((ls.length:Nat):Int) by omega),hg,aj,hw,decide_eq_false (show ¬ (((cat ls (k+1)).length:Nat):Int)<0 by omega),go_sem,simprocAttr]
  refine aR (k+1) ?_ ?_ (by omega) (by omega)
  ·simp only [go_sem,simprocAttr]
  ·simp only [Tb,ax (show k<9223372036854775807 by omega),go_sem,simprocAttr]
 obtain rfl:k=ls.length:=by omega
 have hcl:cat ls ls.length=ls.flatten:=by unfold cat; rw [List.take_length]
 simp only [decide_eq_false (show ¬ ((ls.length:Nat):Int)<((ls.length:Nat):Int) by omega),hcl,go_sem,simprocAttr]
 refine fO (y8 ls.flatten.length ht) rfl rfl rfl ?_
 simp only [go_sem,simprocAttr]
 refine aP [6,25,26,27] [] (fun k:Nat=>k≤ls.length) (fun k=>ls.length-k) (Ta ls) 0 ?_ (Nat.zero_le _) (fun k hk=>?_)
 ·simp only [Ta,hlc,Int.natCast_zero,cat,List.flatten_nil,ak,go_sem,simprocAttr]
 simp only [Ta,go_sem,simprocAttr]
 by_cases hlt:k<ls.length
 ·have hg:=aB (f:=fun b:List Int=>[DV.dN 1 (ak b)]) [] hlt
  rw [show ls.map (fun b:List Int=>[DV.dN 1 (ak b)])=aS ls from rfl] at hg
  have hs:=E6 ls hlt
  have hc:=congrArg List.length hs
  rw [List.length_append] at hc
  have h1:=Oy ls (k+1)
  generalize ls.getD k []=b at *
  have hb:(cat ls k).length+b.length≤100000:=by omega
  simp only [decide_eq_true (show ((k:Nat):Int)<((ls.length:Nat):Int) by omega),hg,aj,← gB,← hs,show (cat ls (k+1)).length*1≤70368744177664 by omega,← hc,go_sem,simprocAttr]
  refine aR (k+1) ?_ ?_ (by omega) (by omega)
  ·simp only [go_sem,simprocAttr]
  ·simp only [Ta,ax (show k<9223372036854775807 by omega),go_sem,simprocAttr]
 obtain rfl:k=ls.length:=by omega
 simp only [decide_eq_false (show ¬ ((ls.length:Nat):Int)<((ls.length:Nat):Int) by omega),hcl,go_sem,simprocAttr]
 exact bw [0] rfl (by simp [St.obj,ay]) (by simp [St.obj,ay,aF,St.get,aO,ah,aM,List.take_of_length_le,aj])
def s4 (a b c:List Int):Nat→List Int
 | 0=>[]
 | 1=>a
 | 2=>a++b
 | 3=>a++b++c
 | _=>a++b++c++[1]
def f4 (a b c:List Int):List aG:=[.box 57 [.d (.dN 1 (ak a)),.d (.dN 1 (ak b)),.d (.dN 1 (ak c)),.sl 1 1 1 0 1],.dat 5 1 [[.val (.int .u8 1)]]]
def G5 (a b c:List Int) (k:Nat):St:=⟨[(0,.sl 0 0 1 0 4),(2,.d (.val (.slice none 0 0))),(3,.int (s4 a b c k).length),(9,.sl 0 0 1 0 4),(10,.int 4),(11,.int k)],(f4 a b c).map some⟩
def G4 (a b c:List Int) (k:Nat):St:=⟨[(6,.sl 2 (s4 a b c k).length 1 0 (s4 a b c k).length),(25,.sl 0 0 1 0 4),(26,.int 4),(27,.int k)],(f4 a b c).map some++[some (.dat 5 1 (ak (s4 a b c k)))]⟩
set_option maxHeartbeats 1000000 in
theorem EW (a b c:List Int) (ht:(a++b++c).length≤10000):br Tryz.prog G 232 [.sl 0 0 1 0 4] (f4 a b c) (af (a++b++c++[1])) (f4 a b c):=by
 rw [List.length_append,List.length_append] at ht
 have l0:(s4 a b c 0).length=0:=rfl
 have l1:(s4 a b c 1).length=a.length:=rfl
 have l2:(s4 a b c 2).length=a.length+b.length:=List.length_append
 have l3:(s4 a b c 3).length=a.length+b.length+c.length:=by simp [s4]; omega
 have l4:(s4 a b c 4).length=a.length+b.length+c.length+1:=by simp [s4]; omega
 have w0:IntKind.i64.wrap (((s4 a b c 0).length:Int)+((ak a).length:Int))=((s4 a b c 1).length:Int):=by rw [aD (by rw [aj]; omega) (by rw [aj]; omega),aj]; omega
 have w1:IntKind.i64.wrap (((s4 a b c 1).length:Int)+((ak b).length:Int))=((s4 a b c 2).length:Int):=by rw [aD (by rw [aj]; omega) (by rw [aj]; omega),aj]; omega
 have w2:IntKind.i64.wrap (((s4 a b c 2).length:Int)+((ak c).length:Int))=((s4 a b c 3).length:Int):=by rw [aD (by rw [aj]; omega) (by rw [aj]; omega),aj]; omega
 have w3:IntKind.i64.wrap (((s4 a b c 3).length:Int)+1)=((s4 a b c 4).length:Int):=by rw [aD (by omega) (by omega)]; omega
 have r0:ak (s4 a b c 0)++ak a=ak (s4 a b c 1):=by rfl
 have r1:ak (s4 a b c 1)++ak b=ak (s4 a b c 2):=by rw [← gB]; rfl
 have r2:ak (s4 a b c 2)++ak c=ak (s4 a b c 3):=by rw [← gB]; rfl
 have r3:ak (s4 a b c 3)++[[DV.val (.int .u8 1)]]=ak (s4 a b c 4):=by rw [show s4 a b c 4=s4 a b c 3++[1] from rfl,gB]; rfl
 have c0:((s4 a b c 0).length=(ak (s4 a b c 0)).length∧(ak (s4 a b c 1)).length*1≤70368744177664):=⟨(aj _).symm,by rw [aj]; omega⟩
 have e0:(ak (s4 a b c 0)).length+(ak a).length=(s4 a b c 1).length:=by rw [aj,aj]; omega
 have c1:((s4 a b c 1).length=(ak (s4 a b c 1)).length∧(ak (s4 a b c 2)).length*1≤70368744177664):=⟨(aj _).symm,by rw [aj]; omega⟩
 have e1:(ak (s4 a b c 1)).length+(ak b).length=(s4 a b c 2).length:=by rw [aj,aj]; omega
 have c2:((s4 a b c 2).length=(ak (s4 a b c 2)).length∧(ak (s4 a b c 3)).length*1≤70368744177664):=⟨(aj _).symm,by rw [aj]; omega⟩
 have e2:(ak (s4 a b c 2)).length+(ak c).length=(s4 a b c 3).length:=by rw [aj,aj]; omega
 have c3:((s4 a b c 3).length=(ak (s4 a b c 3)).length∧(ak (s4 a b c 4)).length*1≤70368744177664):=⟨(aj _).symm,by rw [aj]; omega⟩
 have e3:(ak (s4 a b c 3)).length+1=(s4 a b c 4).length:=by rw [aj]; omega
 refine bD Tryz.func232 (by decide) HZ rfl ?_
 simp only [f4,M3,go_sem,simprocAttr]
 refine aP [0,2,3,9,10,11] [] (fun k:Nat=>k≤4) (fun k=>4-k) (G5 a b c) 0 ?_ (Nat.zero_le _) (fun k hk=>?_)
 ·simp only [G5,f4,s4,Int.natCast_zero,go_sem,simprocAttr]
 simp only [G5,f4,go_sem,simprocAttr]
 match k,hk with
 | 0,_=>
   simp only [show decide (((0:Nat):Int)<4)=true from rfl,w0,decide_eq_false (show ¬ (((s4 a b c 1).length:Nat):Int)<0 by omega),go_sem,simprocAttr]
   refine aR 1 ?_ ?_ (by decide) (by decide)
   ·simp only [go_sem,simprocAttr]
   ·simp only [G5,f4,show IntKind.i64.wrap 1=1 from rfl,go_sem,simprocAttr]
 | 1,_=>
   simp only [show decide (((1:Nat):Int)<4)=true from rfl,w1,decide_eq_false (show ¬ (((s4 a b c 2).length:Nat):Int)<0 by omega),go_sem,simprocAttr]
   refine aR 2 ?_ ?_ (by decide) (by decide)
   ·simp only [go_sem,simprocAttr]
   ·simp only [G5,f4,show IntKind.i64.wrap 2=2 from rfl,go_sem,simprocAttr]
 | 2,_=>
   simp only [show decide (((2:Nat):Int)<4)=true from rfl,w2,decide_eq_false (show ¬ (((s4 a b c 3).length:Nat):Int)<0 by omega),go_sem,simprocAttr]
   refine aR 3 ?_ ?_ (by decide) (by decide)
   ·simp only [go_sem,simprocAttr]
   ·simp only [G5,f4,show IntKind.i64.wrap 3=3 from rfl,go_sem,simprocAttr]
 | 3,_=>
   simp only [show decide (((3:Nat):Int)<4)=true from rfl,w3,decide_eq_false (show ¬ (((s4 a b c 4).length:Nat):Int)<0 by omega),go_sem,simprocAttr]
   refine aR 4 ?_ ?_ (by decide) (by decide)
   ·simp only [go_sem,simprocAttr]
   ·simp only [G5,f4,show IntKind.i64.wrap 4=4 from rfl,go_sem,simprocAttr]
 | 4,_=>
   simp only [show decide (((4:Nat):Int)<4)=false from rfl,go_sem,simprocAttr]
   have ht4:(s4 a b c 4).length≤100000:=by omega
   refine fO (y8 (s4 a b c 4).length ht4) rfl rfl rfl ?_
   simp only [go_sem,simprocAttr]
   refine aP [6,25,26,27] [] (fun k:Nat=>k≤4) (fun k=>4-k) (G4 a b c) 0 ?_ (Nat.zero_le _) (fun k hk=>?_)
   ·simp only [G4,f4,l0,Int.natCast_zero,go_sem,simprocAttr]
    rfl
   simp only [G4,f4,go_sem,simprocAttr]
   match k,hk with
   | 0,_=>
     simp only [show decide (((0:Nat):Int)<4)=true from rfl,r0,c0,e0,go_sem,simprocAttr]
     refine aR 1 ?_ ?_ (by decide) (by decide)
     ·simp only [go_sem,simprocAttr]
     ·simp only [G4,f4,show IntKind.i64.wrap 1=1 from rfl,go_sem,simprocAttr]
   | 1,_=>
     simp only [show decide (((1:Nat):Int)<4)=true from rfl,r1,c1,e1,go_sem,simprocAttr]
     refine aR 2 ?_ ?_ (by decide) (by decide)
     ·simp only [go_sem,simprocAttr]
     ·simp only [G4,f4,show IntKind.i64.wrap 2=2 from rfl,go_sem,simprocAttr]
   | 2,_=>
     simp only [show decide (((2:Nat):Int)<4)=true from rfl,r2,c2,e2,go_sem,simprocAttr]
     refine aR 3 ?_ ?_ (by decide) (by decide)
     ·simp only [go_sem,simprocAttr]
     ·simp only [G4,f4,show IntKind.i64.wrap 3=3 from rfl,go_sem,simprocAttr]
   | 3,_=>
     simp only [show decide (((3:Nat):Int)<4)=true from rfl,r3,c3,e3,go_sem,simprocAttr]
     refine aR 4 ?_ ?_ (by decide) (by decide)
     ·simp only [go_sem,simprocAttr]
     ·simp only [G4,f4,show IntKind.i64.wrap 4=4 from rfl,go_sem,simprocAttr]
   | 4,_=>
     simp only [show decide (((4:Nat):Int)<4)=false from rfl,go_sem,simprocAttr]
     refine bM [] [0,1] [2] (vs:=[.sl 2 (s4 a b c 4).length 1 0 (s4 a b c 4).length]) rfl rfl (by decide) (by simp) (by simp [St.obj,ay,bX]) rfl rfl ?_
     simp [St.obj,ay,aF,ah,aM,af,List.take_of_length_le,aj,s4,bX]
def cZ (p:List Int):List Int:=if p.length=0∨p.length>4000 then [] else aQ p.length++p++lE (fF 0 p)++[1]
theorem oo (p:List Int) (hl:p.length≤1000000):br Tryz.prog G 231 [af p] [] (af (cZ p)) []:=by
 refine bD Tryz.func231 (by decide) QC rfl ?_
 simp only [af,T8,aj,go_sem,simprocAttr]
 by_cases h0:p.length=0
 ·have hp:cZ p=[]:=if_pos (.inl h0)
  simp only [show (((p.length:Nat):Int)==0)=true by rw [beq_iff_eq]; omega,go_sem,simprocAttr]
  exact bw [] rfl (by simp) (by simp [aF,St.get,aO,ah,hp,ak])
 have e0:(((p.length:Nat):Int)==0)=false:=beq_eq_false_iff_ne.2 (by omega)
 by_cases h1:p.length>4000
 ·have hp:cZ p=[]:=if_pos (.inr h1)
  simp only [e0,aj,decide_eq_true (show ((p.length:Nat):Int)>4000 by omega),go_sem,simprocAttr]
  exact bw [] rfl (by simp) (by simp [aF,St.get,aO,ah,hp,ak])
 have hp:cZ p=aQ p.length++p++lE (fF 0 p)++[1]:=if_neg (by omega)
 simp only [e0,aj,decide_eq_false (show ¬ ((p.length:Nat):Int)>4000 by omega),go_sem,simprocAttr]
 have hn:=oc (G:=G) (p.length:Int)
 have ho:=Aq (G:=G) p hl
 have hs:=xO (G:=G) (fF 0 p)
 simp only [af] at hn ho hs
 refine av (hn) rfl rfl rfl rfl ?_; simp only [go_sem,simprocAttr]
 refine av (ho) rfl rfl rfl rfl ?_; simp only [go_sem,simprocAttr]
 refine av (hs) rfl rfl rfl rfl ?_; simp only [go_sem,simprocAttr]
 have hn9:=dL (p.length:Int)
 have hs4:=j6 (fF 0 p)
 refine au [1,0] (EW (aQ p.length) p (lE (fF 0 p)) (by rw [List.length_append,List.length_append]; omega)) rfl (by simp only [aa,ah,go_sem,simprocAttr]) (by decide) (by simp only [f4,go_sem,simprocAttr]) (by simp only [f4,go_sem,simprocAttr]) (Nat.le_refl _) ?_
 simp only [f4,af,go_sem,simprocAttr]
 rw [← hp]
 exact bw [] rfl (by simp) (by simp [aF,St.get,aO,ah])
end Dv
set_option maxRecDepth 100000
namespace Dv
open Go Go.Proofs
variable {G:Nat→Option (List DV)}
def ck (b:List Int) (a:Nat):List Int×Nat×Int:=
 if a>b.length then ([],a,2) else if a=b.length∨b.getD a 0=0 then ([],a,0) else
 match eZ b a with
 | none=>([],a,2)
 | some (n,fr)=>
   if n>4000∨n+4≥(b.length:Int)-fr then ([],a,2)
   else if rU ((b.drop fr).take (n.toNat+4))=false∨b.getD (fr+n.toNat+4) 0≠1 then ([],a,2)
   else ((b.drop fr).take n.toNat,fr+n.toNat+5,1)
def gH (q:List Int×Nat×Int):LV:=.dM [af q.1,.int q.2.1,.int q.2.2]
def Ub:=qx Tryz.f226
theorem QG:aq Tryz.prog Tryz.f226=some Ub:=by kernel_rfl
def UO:=qx Tryz.f167
theorem Rm:aq Tryz.prog Tryz.f167=some UO:=by kernel_rfl
set_option maxHeartbeats 1000000 in
theorem uh (b:List Int) (hb:∀ c∈b,0≤c∧c≤255) (hl:b.length≤1000000) (a:Nat) (ha:a≤1000000):br Tryz.prog G 226 [af b,.int a] [] (gH (ck b a)) []:=by
 have hlb:(ak b).length=b.length:=aj b
 refine bD Tryz.func226 (by decide) QG rfl ?_
 simp only [af,Ub,go_sem,simprocAttr]
 simp only [decide_eq_false (show ¬ ((a:Nat):Int)<0 by omega),hlb,go_sem,simprocAttr]
 by_cases h1:a>b.length
 ·have hf:ck b a=([],a,2):=if_pos h1
  simp only [decide_eq_true (show ((a:Nat):Int)>((b.length:Nat):Int) by omega),go_sem,simprocAttr]
  exact bw [] rfl (by simp) (by simp [aF,St.get,aO,ah,aa,hf,gH,af,ak,LV.int])
 simp only [decide_eq_false (show ¬ ((a:Nat):Int)>((b.length:Nat):Int) by omega),go_sem,simprocAttr]
 by_cases h2:a=b.length
 ·have hf:ck b a=([],a,0):=by unfold ck; rw [if_neg h1,if_pos (.inl h2)]
  simp only [show (((a:Nat):Int)==((b.length:Nat):Int))=true by rw [beq_iff_eq]; omega,hlb,go_sem,simprocAttr]
  exact bw [] rfl (by simp) (by simp [aF,St.get,aO,ah,aa,hf,gH,af,ak,LV.int])
 have hlt:a<b.length:=by omega
 have hg:=aB (f:=fun n:Int=>[u8 n]) 0 hlt
 rw [show b.map (fun n:Int=>[u8 n])=ak b from rfl] at hg
 simp only [show (((a:Nat):Int)==((b.length:Nat):Int))=false from beq_eq_false_iff_ne.2 (by omega),hlb,hg,u8,go_sem,simprocAttr]
 by_cases h3:b.getD a 0=0
 ·have hf:ck b a=([],a,0):=by unfold ck; rw [if_neg h1,if_pos (.inr h3)]
  simp only [h3,go_sem,simprocAttr]
  exact bw [] rfl (by simp) (by simp [aF,St.get,aO,ah,aa,hf,gH,af,ak,LV.int])
 simp only [beq_eq_false_iff_ne.2 h3,go_sem,simprocAttr]
 have q_:ck b a=match eZ b a with
  | none=>([],a,2)
  | some (n,fr)=>if n>4000∨n+4≥(b.length:Int)-fr then ([],a,2)
    else if rU ((b.drop fr).take (n.toNat+4))=false∨b.getD (fr+n.toNat+4) 0≠1 then ([],a,2)
    else ((b.drop fr).take n.toNat,fr+n.toNat+5,1):=by
  show (if a>b.length then _ else _)=_
  rw [if_neg h1,if_neg (by omega)]
 have hn:=lV (G:=G) b hb hl a ha (eZ b a) rfl
 simp only [af] at hn
 cases hq:eZ b a with
 | none=>
   rw [hq] at hn q_
   simp only [eT,oH,oI,Option.isSome] at hn
   refine av (hn) rfl rfl rfl rfl ?_; simp only [go_sem,simprocAttr]
   exact bw [] rfl (by simp) (by simp [aF,St.get,aO,ah,aa,q_,gH,af,ak,LV.int])
 | some q=>
 obtain ⟨n,fr⟩:=q
 have hr:=eY (fun c hc=>(hb c hc).1) hq
 rw [hq] at hn q_
 simp only [eT,oH,oI,Option.isSome] at hn
 simp only at q_
 refine av (hn) rfl rfl rfl rfl ?_; simp only [go_sem,simprocAttr]
 by_cases h4:n>4000
 ·rw [if_pos (.inl h4)] at q_
  simp only [decide_eq_true h4,go_sem,simprocAttr]
  exact bw [] rfl (by simp) (by simp [aF,St.get,aO,ah,aa,q_,gH,af,ak,LV.int])
 have w1:IntKind.i64.wrap (n+4)=n+4:=aD (by omega) (by omega)
 have w2:IntKind.i64.wrap ((b.length:Int)-(fr:Int))=(b.length:Int)-fr:=aD (by omega) (by omega)
 simp only [decide_eq_false h4,hlb,w1,w2,go_sem,simprocAttr]
 by_cases h5:n+4≥(b.length:Int)-fr
 ·rw [if_pos (.inr h5)] at q_
  simp only [decide_eq_true h5,go_sem,simprocAttr]
  exact bw [] rfl (by simp) (by simp [aF,St.get,aO,ah,aa,q_,gH,af,ak,LV.int])
 rw [if_neg (by omega)] at q_
 obtain ⟨m,rfl⟩:=Int.eq_ofNat_of_zero_le hr.1
 rw [Int.toNat_natCast] at q_
 have w3:IntKind.i64.wrap ((fr:Int)+((m:Nat):Int))=((fr+m:Nat):Int):=by rw [aD (by omega) (by omega)]; omega
 have w4:IntKind.i64.wrap (((fr+m:Nat):Int)+4)=((fr+m+4:Nat):Int):=by rw [aD (by omega) (by omega)]; omega
 have w5:IntKind.i64.wrap (((fr+m+4:Nat):Int)+1)=((fr+m+5:Nat):Int):=by rw [aD (by omega) (by omega)]; omega
 have c1:(0:Int)≤((fr+m+4:Nat):Int):=by omega
 have c2:fr≤fr+m+4∧fr+m+4≤b.length∧b.length≤b.length:=by omega
 have e1:fr+m+4-fr=m+4:=by omega
 have hs:=Jh (G:=G) ((b.drop fr).take (m+4)) (by rw [List.length_take,List.length_drop]; omega)
 simp only [af] at hs
 simp only [decide_eq_false h5,w3,w4,c1,hlb,c2,e1,dP,fq,go_sem,simprocAttr]
 refine av (hs) rfl rfl rfl rfl ?_; simp only [go_sem,simprocAttr]
 cases h6:rU ((b.drop fr).take (m+4)) with
 | false=>
   rw [if_pos (.inl h6)] at q_
   simp only [go_sem,simprocAttr]
   exact bw [] rfl (by simp) (by simp [aF,St.get,aO,ah,aa,q_,gH,af,ak,LV.int])
 | true=>
 have hg2:=aB (f:=fun n:Int=>[u8 n]) 0 (show fr+m+4<b.length by omega)
 rw [show b.map (fun n:Int=>[u8 n])=ak b from rfl] at hg2
 simp only [w4,c1,hg2,u8,go_sem,simprocAttr]
 by_cases h7:b.getD (fr+m+4) 0=1
 ·rw [if_neg (by rw [h6,h7]; simp)] at q_
  have c3:fr≤fr+m∧fr+m≤fr+m∧fr+m≤b.length:=by omega
  have e2:fr+m-fr=m:=by omega
  have hc:=oz (G:=G) ((b.drop fr).take m) (by rw [List.length_take,List.length_drop]; omega)
  simp only [af] at hc
  simp only [h7,bne_self_eq_false,hlb,c3,e2,dP,fq,go_sem,simprocAttr]
  refine av (hc) rfl rfl rfl rfl ?_; simp only [go_sem,simprocAttr]
  simp only [w4,w5,go_sem,simprocAttr]
  exact bw [] rfl (by simp) (by simp [aF,St.get,aO,ah,aa,q_,gH,af,LV.int])
 ·rw [if_pos (.inr h7)] at q_
  simp only [show (b.getD (fr+m+4) 0 !=1)=true from bne_iff_ne.2 h7,go_sem,simprocAttr]
  exact bw [] rfl (by simp) (by simp [aF,St.get,aO,ah,aa,q_,gH,af,ak,LV.int])
theorem zc {b:List Int} (hb:∀ c∈b,0≤c) {a:Nat} (h:(ck b a).2.2=1):a<(ck b a).2.1∧(ck b a).2.1≤b.length∧(ck b a).1.length≤4000:=by
 unfold ck at h ⊢
 split at h
 ·exact absurd h (by simp)
 rename_i h1
 rw [if_neg h1]
 split at h
 ·exact absurd h (by simp)
 rename_i h2
 rw [if_neg h2]
 cases hq:eZ b a with
 | none=>rw [hq] at h; exact absurd h (by simp)
 | some q=>
 obtain ⟨n,fr⟩:=q
 have hr:=eY hb hq
 rw [hq] at h
 simp only at h ⊢
 split at h
 ·exact absurd h (by simp)
 rename_i h3
 rw [if_neg h3]
 split at h
 ·exact absurd h (by simp)
 rename_i h4
 rw [if_neg h4]
 refine ⟨by dsimp only; omega,by dsimp only; omega,?_⟩
 rw [List.length_take,List.length_drop]
 omega
def rJ (b:List Int):Nat→List (List Int)→Nat→List (List Int)×Nat
 | 0,l,a=>(l,a)
 | f+1,l,a=>if (ck b a).2.2=1 then rJ b f (l++[(ck b a).1]) (ck b a).2.1 else (l,a)
def Tj (b:List Int) (q:List (List Int)×Nat):St:=⟨[(0,af b),(1,.int q.2),(6,.sl 0 q.1.length 1 0 q.1.length)],[some (.dat 57 1 (aS q.1))]⟩
set_option maxHeartbeats 1000000 in
theorem CI (b:List Int) (hb:∀ c∈b,0≤c∧c≤255) (hl:b.length≤1000000) (a:Nat) (ha:a≤b.length) (R:List (List Int)×Nat) (hR:rJ b (b.length+1) [] a=R):br Tryz.prog G 167 [af b,.int a] [] (.dM [.d (.dN 1 (aS R.1)),.int R.2]) []:=by
 refine bD Tryz.func167 (by decide) Rm rfl ?_
 simp only [af,UO,go_sem,simprocAttr]
 refine aP [0,1,6] [.t 6 57 1] (fun q:List (List Int)×Nat=>q.2≤b.length∧q.1.length≤q.2∧∃ f,b.length-q.2<f∧rJ b f q.1 q.2=R) (fun q=>b.length-q.2) (Tj b) ([],a) ?_ ⟨ha,Nat.zero_le _,_,by dsimp only; omega,hR⟩ ?_
 ·simp only [Tj,af,aS,go_sem,simprocAttr]
 rintro ⟨l,x⟩ ⟨hx,v_,f,hf,hA⟩
 dsimp only at hx v_ hf hA
 simp only [Tj,af,go_sem,simprocAttr]
 have hg:=uh (G:=G) b hb hl x (by omega)
 simp only [af,gH] at hg
 refine av (hg) rfl rfl rfl rfl ?_; simp only [go_sem,simprocAttr]
 obtain ⟨f,rfl⟩:∃ g,f=g+1:=⟨f-1,by omega⟩
 unfold rJ at hA
 by_cases h1:(ck b x).2.2=1
 ·rw [if_pos h1] at hA
  have he:=zc (fun c hc=>(hb c hc).1) h1
  have hcl:(aS l).length=l.length:=by simp [aS]
  have LA:aS l++[[DV.dN 1 (ak (ck b x).1)]]=aS (l++[(ck b x).1]):=by simp [aS]
  have EB:(aS (l++[(ck b x).1])).length*24≤70368744177664:=by
   have:(aS (l++[(ck b x).1])).length=l.length+1:=by simp [aS]
   omega
  simp only [h1,bne_self_eq_false,go_sem,simprocAttr]
  rw [hcl,LA,if_pos ⟨rfl,EB⟩]
  simp only [go_sem,simprocAttr]
  refine aR (l++[(ck b x).1],(ck b x).2.1) ?_ ?_ ⟨he.2.1,by simp; omega,f,by dsimp only; omega,hA⟩ (by dsimp only; omega)
  ·simp only [go_sem,simprocAttr]
  ·simp only [Tj,af,List.length_append,go_sem,simprocAttr]
 ·rw [if_neg h1] at hA
  simp only [show ((ck b x).2.2 !=1)=true from bne_iff_ne.2 h1,go_sem,simprocAttr]
  subst hA
  exact bw [0] rfl (by simp [St.obj,ay]) (by simp [St.obj,ay,aF,St.get,aO,ah,aa,aM,aS,List.take_of_length_le,LV.int])
end Dv
set_option maxRecDepth 100000
namespace Dv
open Go Go.Proofs
variable {G:Nat→Option (List DV)}
def dR (l:List Int) (s:Int):List aG:=[.box 150 [.sl 1 l.length 1 0 l.length,.d (.val (.slice none 0 0)),.int s],.dat 5 1 (ak l)]
def uP (YR:Nat) (b:List Int):List (List DV):=[[i64 YR,.dN 1 (ak b)]]
def ko (l:List Int) (s:Int) (YR:Nat) (b:List Int):List aG:=[.box 150 [.sl 1 l.length 1 0 l.length,.sl 2 1 2 0 1,.int s],.dat 5 1 (ak l),.dat 227 2 (uP YR b)]
def bN (l:List Int) (a:Nat) (b:List Int):List Int:=l.take a++b++l.drop (a+b.length)
theorem cw {l b:List Int} {a:Nat} (h:a+b.length≤l.length):(bN l a b).length=l.length:=by
 unfold bN
 rw [List.length_append,List.length_append,List.length_take,List.length_drop]
 omega
def ZR:=qx Tryz.f27
theorem Xo:aq Tryz.prog Tryz.f27=some ZR:=by kernel_rfl
def Xy:=qx Tryz.f79
theorem MU:aq Tryz.prog Tryz.f79=some Xy:=by kernel_rfl
def Vl:=qx Tryz.f130
theorem RU:aq Tryz.prog Tryz.f130=some Vl:=by kernel_rfl
def Uz:=qx Tryz.f186
theorem Q7:aq Tryz.prog Tryz.f186=some Uz:=by kernel_rfl
def M_:Nat×C×List RV:=(10,
(.seq (.kH [qo 4 (.mv (qk 0))])
 (.seq (.kH [qm 5 0,
 qo 6 (.yJ (.t 5)),
 qo 7 (.nI 0 (.t 6)),
 qm 8 1,
 qo 9 ((.more (.YQ (.t 7) (.t 8)))),
 qm 4 9])
 .ret)),
[(.t 4)])
theorem Ic:aq Tryz.prog Tryz.f127=some M_:=by kernel_rfl
theorem ET (n:Nat) (h1:1≤n) (h2:n≤65536):br Tryz.prog G 27 [.int n] [] (.ptr 0 0) (dR (List.replicate n 0) 0):=by
 refine bD Tryz.func27 (by decide) Xo rfl ?_
 simp only [ZR,go_sem,simprocAttr]
 simp only [decide_eq_false (show ¬ ((n:Nat):Int)<1 by omega),decide_eq_false (show ¬ ((n:Nat):Int)>65536 by omega),go_sem,simprocAttr]
 have c1:n*1≤70368744177664∧((n:Nat):Int)≤9223372036854775807:=by omega
 simp only [c1,go_sem,simprocAttr]
 refine bM [] [1,0] [] (vs:=[.ptr 1 0]) rfl rfl (by decide) (by simp) (by simp) ?_ ?_ ?_
 ·simp only [dR,List.length_replicate,ak,List.map_replicate,u8]
  rfl
 ·simp only [dR,List.length_replicate,ak,List.map_replicate,u8,go_sem,simprocAttr]
 ·simp [aF,ah]
theorem ij (l:List Int) (s:Int):br Tryz.prog G 79 [.ptr 0 0] (dR l s) (.int l.length) (dR l s):=by
 refine aY Tryz.func79 (by decide) MU rfl rfl rfl rfl ?_
 simp only [Xy,go_sem,simprocAttr]
 simp only [dR,go_sem,simprocAttr]
theorem Ll (l:List Int) (s:Int):br Tryz.prog G 127 [.ptr 0 2,.int 1] (dR l s) (.int (IntKind.i64.wrap (s+1))) (dR l (IntKind.i64.wrap (s+1))):=by
 refine aY Tryz.func127 (by decide) Ic rfl rfl rfl rfl ?_
 simp only [M_,go_sem,simprocAttr]
 simp only [dR,go_sem,simprocAttr]
theorem iK (l:List Int) (s:Int) (a:Nat) (b:List Int) (h:a+b.length≤l.length) (hl:l.length≤65536):br Tryz.prog G 130 [.ptr 0 0,.int a,af b] (dR l s) (.int 0) (ko l s a b):=by
 refine bD Tryz.func130 (by decide) RU rfl ?_
 simp only [dR,af,Vl,go_sem,simprocAttr]
 have w1:IntKind.i64.wrap ((l.length:Int)-(b.length:Int))=(l.length:Int)-b.length:=aD (by omega) (by omega)
 simp only [aj,decide_eq_false (show ¬ ((a:Nat):Int)<0 by omega),decide_eq_false (show ¬ ((b.length:Nat):Int)>((l.length:Nat):Int) by omega),w1,decide_eq_false (show ¬ ((a:Nat):Int)>(l.length:Int)-(b.length:Int) by omega),go_sem,simprocAttr]
 have hc:=oz (G:=G) b (by omega)
 simp only [af] at hc
 refine bA (hc) rfl rfl rfl rfl ?_; simp only [go_sem,simprocAttr]
 refine az rfl ?_
 simp only [go_sem,simprocAttr]
 refine bM [] [0,1,3] [] (vs:=[.int 0]) rfl rfl (by decide) (by simp) (by simp) ?_ ?_ ?_
 ·simp only [ko,uP]
  rfl
 ·simp only [ko,uP,go_sem,simprocAttr]
 ·simp [aF,ah,LV.int]
def dwS (l:List Int) (s:Int) (a:Nat) (b:List Int) (k:Nat):St:=⟨[(3,.int (if k=0 then 0 else (b.length:Int))),(11,.sl 2 1 2 0 1),(12,.int 1),(13,.int k)],(ko l s a b).map some⟩
theorem Af (l:List Int) (s:Int) (a:Nat) (b:List Int) (hb:b.length≤1000000):br Tryz.prog G 186 [.ptr 0 0] (ko l s a b) (.int b.length) (ko l s a b):=by
 refine aY Tryz.func186 (by decide) Q7 rfl rfl rfl rfl ?_
 simp only [Uz,go_sem,simprocAttr]
 simp only [ko,uP,go_sem,simprocAttr]
 refine aP [3,11,12,13] [] (fun k:Nat=>k≤1) (fun k=>1-k) (dwS l s a b) 0 ?_ (Nat.zero_le _) (fun k hk=>?_)
 ·simp only [dwS,ko,uP,go_sem,simprocAttr]
 simp only [dwS,ko,uP,go_sem,simprocAttr]
 match k,hk with
 | 0,_=>
   have w1:IntKind.i64.wrap (0+(b.length:Int))=b.length:=by rw [aD (by omega) (by omega)]; omega
   simp only [show decide (((0:Nat):Int)<1)=true from rfl,aj,w1,show (0:Nat)=0 from rfl,go_sem,simprocAttr]
   refine aR 1 ?_ ?_ (by decide) (by decide)
   ·simp only [go_sem,simprocAttr]
   ·simp only [dwS,ko,uP,show IntKind.i64.wrap 1=1 from rfl,show ¬ (1:Nat)=0 by decide,go_sem,simprocAttr]
 | 1,_=>
   simp only [show decide (((1:Nat):Int)<1)=false from rfl,show ¬ (1:Nat)=0 by decide,go_sem,simprocAttr]
end Dv
set_option maxRecDepth 100000
namespace Dv
open Go Go.Proofs
variable {G:Nat→Option (List DV)}
def Vq:=qx Tryz.f120
theorem R1:aq Tryz.prog Tryz.f120=some Vq:=by kernel_rfl
def Zk:=qx Tryz.f96
theorem WO:aq Tryz.prog Tryz.f96=some Zk:=by kernel_rfl
def ZG:=qx Tryz.f58
theorem Xd:aq Tryz.prog Tryz.f58=some ZG:=by kernel_rfl
def eW (keep:Int) (b:List Int):Nat:=(max 0 (min keep b.length)).toNat
def ddS (l:List Int) (s:Int) (a:Nat) (b:List Int) (keep:Int) (k:Nat):St:=⟨[(0,.ptr 0 0),(1,.int (if k=0 then keep else keep-eW keep b)),(10,.sl 2 1 2 0 1),(11,.int 1),(12,.int k)],if k=0 then (ko l s a b).map some else (ko (bN l a (b.take (eW keep b))) s a b).map some⟩
set_option maxHeartbeats 1000000 in
theorem CO (l:List Int) (s:Int) (a:Nat) (b:List Int) (h:a+b.length≤l.length) (hl:1≤l.length∧l.length≤65536) (keep:Int) (hk:-1000000000≤keep∧keep≤1000000000):br Tryz.prog G 120 [.ptr 0 0,.int keep] (ko l s a b) (.dM []) (dR (bN l a (b.take (eW keep b))) s++[.dat 227 2 (uP a b)]):=by
 obtain ⟨m,hm⟩:∃ m,l.length=m+1:=⟨l.length-1,by omega⟩
 refine bD Tryz.func120 (by decide) R1 rfl ?_
 simp only [ko,uP,Vq,go_sem,simprocAttr]
 refine aP [0,1,10,11,12] [] (fun k:Nat=>k≤1) (fun k=>1-k) (ddS l s a b keep) 0 ?_ (Nat.zero_le _) (fun k hk=>?_)
 ·simp only [ddS,ko,uP,go_sem,simprocAttr]
 simp only [ddS,ko,uP,go_sem,simprocAttr]
 match k,hk with
 | 0,_=>
   have hkn:(if (if (b.length:Int)<keep then (b.length:Int) else keep)>0 then (if (b.length:Int)<keep then (b.length:Int) else keep) else 0)=((eW keep b:Nat):Int):=by unfold eW; split <;> split <;> omega
   have hkl:eW keep b≤b.length:=by unfold eW; omega
   have c1:a≤m+1∧m+1≤m+1:=by omega
   have c2:0≤eW keep b∧eW keep b≤b.length∧b.length≤b.length:=by omega
   have c3:(0:Int)≤((eW keep b:Nat):Int):=by omega
   simp only [show decide (((0:Nat):Int)<1)=true from rfl,aj,hm,hkn,show (0:Nat)=0 from rfl,c1,c2,c3,fq,Nat.sub_zero,go_sem,simprocAttr]
   have NQ:(b.take (eW keep b)).length≤b.length:=by rw [List.length_take]; omega
   have c4:a+(m+1-a)≤m+1∧(b.take (eW keep b)).length≤m+1-a∧ak l≠[]:=⟨by omega,by omega,fun e=>by have:=congrArg List.length e; rw [aj,hm] at this; exact absurd this (by simp)⟩
   have hov:ak (l.take a)++ak (b.take (eW keep b))++ak (l.drop (a+(b.take (eW keep b)).length))=ak (bN l a (b.take (eW keep b))):=by rw [← gB,← gB]; rfl
   have hol:(bN l a (b.take (eW keep b))).length=m+1:=by rw [cw (by omega),hm]
   have w1:IntKind.i64.wrap (keep-((eW keep b:Nat):Int))=keep-((eW keep b:Nat):Int):=aD (by omega) (by omega)
   rw [if_pos c4,dP,hov]
   simp only [go_sem,simprocAttr]
   refine az rfl ?_
   simp only [w1,go_sem,simprocAttr]
   refine aR 1 ?_ ?_ (by decide) (by decide)
   ·simp only [go_sem,simprocAttr]
   ·simp only [ddS,ko,uP,hol,show IntKind.i64.wrap 1=1 from rfl,show ¬ (1:Nat)=0 by decide,go_sem,simprocAttr]
 | 1,_=>
   simp only [show decide (((1:Nat):Int)<1)=false from rfl,show ¬ (1:Nat)=0 by decide,go_sem,simprocAttr]
   refine bM [] [0,1,2] [] (vs:=[]) rfl rfl (by decide) (by simp) (by simp) ?_ ?_ ?_
   ·simp only [dR,uP]
    rfl
   ·simp only [dR,uP,go_sem,simprocAttr]
   ·simp [aF,ah,aa]
theorem A8 (b:List Int):eW b.length b=b.length:=by unfold eW; omega
theorem jv (l:List Int) (s:Int) (a:Nat) (b:List Int) (h:a+b.length≤l.length) (hl:1≤l.length∧l.length≤65536):br Tryz.prog G 96 [.ptr 0 0] (ko l s a b) (.dM []) (dR (bN l a b) (IntKind.i64.wrap (s+1))++[.dat 227 2 (uP a b)]):=by
 have hd:=CO (G:=G) l s a b h hl b.length (by omega)
 rw [A8,List.take_length] at hd
 have hw:=Af (G:=G) l s a b (by omega)
 have ha:=Ll (G:=G) (bN l a b) s
 simp only [ko,dR,uP,List.cons_append,List.nil_append] at hd hw ha
 refine aY Tryz.func96 (by decide) WO rfl rfl rfl rfl ?_
 simp only [Zk,go_sem,simprocAttr]
 simp only [ko,dR,uP,go_sem,simprocAttr]
 refine au [0,1,2] (hw) rfl ?_ (by decide) ?_ ?_ (by simp) ?_ <;> simp only [aa,ah,go_sem,simprocAttr]
 refine au [0,1,2] (hd) rfl ?_ (by decide) ?_ ?_ (by simp) ?_ <;> simp only [aa,ah,go_sem,simprocAttr]
 refine au [0,1] (ha) rfl ?_ (by decide) ?_ ?_ (by simp) ?_ <;> simp only [aa,ah,go_sem,simprocAttr]
theorem G2 (l:List Int) (hl:1≤l.length∧l.length≤1000000):br Tryz.prog G 84 [.sl 0 l.length 1 0 l.length] [.dat 5 1 (ak l)] (.sl 1 l.length 1 0 l.length) [.dat 5 1 (ak l),.dat 5 1 (ak l)]:=by
 obtain ⟨m,hm⟩:∃ m,l.length=m+1:=⟨l.length-1,by omega⟩
 have hr:(ak l).length=m+1:=by rw [aj,hm]
 have ht:(ak l).take (m+1)=ak l:=List.take_of_length_le (by omega)
 rw [hm]
 refine bD Tryz.func84 (by decide) Gq rfl ?_
 simp only [Sh,go_sem,simprocAttr]
 have hb:(m+1)*1≤70368744177664:=by omega
 simp only [hr,ht,Nat.le_refl,go_sem,simprocAttr]
 simp only [hr,hb,go_sem,simprocAttr]
 refine bM [] [0,1] [] (vs:=[.sl 1 (m+1) 1 0 (m+1)]) rfl rfl (by decide) (by simp) (by simp) rfl rfl ?_
 simp [aF,ah]
theorem jY (l:List Int) (s:Int) (hl:1≤l.length∧l.length≤65536):br Tryz.prog G 58 [.ptr 0 0] (dR l s) (af l) (dR l s):=by
 obtain ⟨m,hm⟩:∃ m,l.length=m+1:=⟨l.length-1,by omega⟩
 refine bD Tryz.func58 (by decide) Xd rfl ?_
 simp only [dR,ZG,go_sem,simprocAttr]
 have hc:=G2 (G:=G) l (by omega)
 refine au [1] (hc) rfl ?_ (by decide) ?_ ?_ (by simp) ?_ <;> simp only [aa,ah,go_sem,simprocAttr]
 refine aP [3,16,17,18] [] (fun k:Nat=>k=0) (fun k=>1-k) (fun _=>⟨[(3,.sl 2 l.length 1 0 l.length),(16,.d (.val (.slice none 0 0))),(17,.int 0),(18,.int 0)],(dR l s++[aG.dat 5 1 (ak l)]).map some⟩) 0 ?_ rfl (fun k hk=>?_)
 ·simp only [dR,go_sem,simprocAttr]
 simp only [dR,go_sem,simprocAttr]
 refine bM [] [0,1] [2] (vs:=[.sl 2 l.length 1 0 l.length]) rfl rfl (by decide) (by simp) (by simp [St.obj,ay,bX]) rfl rfl ?_
 simp [St.obj,ay,aF,ah,aM,af,List.take_of_length_le,aj,bX]
end Dv
set_option maxRecDepth 100000
namespace Dv
open Go Go.Proofs
variable {G:Nat→Option (List DV)}
def yN (l:List Int) (s:Int) (fr sz us:Nat):List aG:=[.box 245 [.ptr 1 0,.int fr,.int sz,.int us],.box 150 [.sl 2 l.length 1 0 l.length,.d (.val (.slice none 0 0)),.int s],.dat 5 1 (ak l)]
def M9:=qx Tryz.f168
theorem Ib:aq Tryz.prog Tryz.f168=some M9:=by kernel_rfl
def T5:=qx Tryz.f235
theorem Qz:aq Tryz.prog Tryz.f235=some T5:=by kernel_rfl
def UB:=qx Tryz.f184
theorem Q9:aq Tryz.prog Tryz.f184=some UB:=by kernel_rfl
def Zr:=qx Tryz.f86
theorem WW:aq Tryz.prog Tryz.f86=some Zr:=by kernel_rfl
theorem jQ (n:Nat):ak (List.replicate n 0)=List.replicate n [u8 0]:=by simp [ak]
set_option maxHeartbeats 1000000 in
theorem vU (l:List Int) (s:Int) (fr sz us a:Nat) (hf:fr+sz≤l.length) (ha:a<sz) (hl:1≤l.length∧l.length≤65536):br Tryz.prog G 168 [.ptr 0 0,.int a] (yN l s fr sz us) (.dM []) (yN (bN l (fr+a) (List.replicate (sz-a) 0)) (IntKind.i64.wrap (s+1)) fr sz us):=by
 have hb:=jY (G:=G) l s hl
 have hk:=iK (G:=G) l s (fr+a) (List.replicate (sz-a) 0) (by rw [List.length_replicate]; omega) hl.2
 have hs:=jv (G:=G) l s (fr+a) (List.replicate (sz-a) 0) (by rw [List.length_replicate]; omega) hl
 simp only [dR,ko,uP,af,jQ,List.length_replicate,List.cons_append,List.nil_append] at hb hk hs
 have w1:IntKind.i64.wrap ((fr:Int)+(a:Int))=((fr+a:Nat):Int):=by rw [aD (by omega) (by omega)]; omega
 have w2:IntKind.i64.wrap ((fr:Int)+(sz:Int))=((fr+sz:Nat):Int):=by rw [aD (by omega) (by omega)]; omega
 have c1:fr+a≤fr+sz∧fr+sz≤l.length∧l.length≤l.length:=by omega
 have c2:(0:Int)≤((fr+sz:Nat):Int):=by omega
 have c3:(0:Int)≤((fr+a:Nat):Int):=by omega
 have e1:fr+sz-(fr+a)=sz-a:=by omega
 have hc:=EY (G:=G) ((l.drop (fr+a)).take (sz-a)) (by rw [List.length_take,List.length_drop]; omega)
 have hcl:((l.drop (fr+a)).take (sz-a)).length=sz-a:=by rw [List.length_take,List.length_drop]; omega
 rw [hcl] at hc
 simp only [af] at hc
 refine bD Tryz.func168 (by decide) Ib rfl ?_
 simp only [yN,M9,go_sem,simprocAttr]
 refine dS [1,2] (hb) rfl ?_ (by decide) ?_ ?_ (by simp) ?_ <;> simp only [aa,ah,go_sem,simprocAttr]
 simp only [w1,w2,c1,c2,c3,e1,aj,dP,fq,go_sem,simprocAttr]
 refine gz hc rfl rfl rfl ?_
 simp only [go_sem,simprocAttr]
 refine az rfl ?_
 simp only [go_sem,simprocAttr]
 have c4:sz-a=(ak ((l.drop (fr+a)).take (sz-a))).length∧sz-a≤(ak ((l.drop (fr+a)).take (sz-a))).length∧0<sz-a:=by rw [aj,hcl]; omega
 have hdr:(ak ((l.drop (fr+a)).take (sz-a))).drop (sz-a)=[]:=List.drop_eq_nil_of_le (by rw [aj,hcl]; exact Nat.le_refl _)
 have e_:(bN l (fr+a) (List.replicate (sz-a) 0)).length=l.length:=cw (by rw [List.length_replicate]; omega)
 rw [if_pos c4]
 simp only [w1,hdr,go_sem,simprocAttr]
 refine iN [1,2] [3] (hk) rfl (by simp [aa,ah,aM,ay,u8,aj,hcl,go_sem,simprocAttr]) (by decide) (by decide) (by simp [ay]) (by simp only [go_sem,simprocAttr,u8,aj,hcl]) (by simp only [go_sem,simprocAttr,u8,aj,hcl]) (by simp) ?_; simp only [go_sem,simprocAttr,u8,aj,hcl]
 refine az rfl ?_
 simp only [go_sem,simprocAttr]
 refine au [1,2,4] (hs) rfl ?_ (by decide) ?_ ?_ (by simp) ?_ <;> simp only [aa,ah,go_sem,simprocAttr,u8]
 refine bM [] [0,1,2] [] (vs:=[]) rfl rfl (by decide) (by simp) (by simp) rfl rfl ?_
 simp [aF,ah,aa]
theorem yq (l:List Int) (a:Nat):bN l a []=l:=by unfold bN; simp
set_option maxHeartbeats 1000000 in
theorem Ci (l:List Int) (s:Int) (fr sz us:Nat) (hf:fr+sz≤l.length) (hl:1≤l.length∧l.length≤65536):br Tryz.prog G 168 [.ptr 0 0,.int sz] (yN l s fr sz us) (.dM []) (yN l (IntKind.i64.wrap (s+1)) fr sz us):=by
 have hb:=jY (G:=G) l s hl
 have hk:=iK (G:=G) l s (fr+sz) [] (by simp; omega) hl.2
 have hs:=jv (G:=G) l s (fr+sz) [] (by simp; omega) hl
 rw [yq] at hs
 simp only [dR,ko,uP,af,ak,List.map_nil,List.cons_append,List.nil_append] at hb hk hs
 rw [show l.map (fun n:Int=>[u8 n])=ak l from rfl] at hb hk hs
 have w2:IntKind.i64.wrap ((fr:Int)+(sz:Int))=((fr+sz:Nat):Int):=by rw [aD (by omega) (by omega)]; omega
 have c1:fr+sz≤fr+sz∧fr+sz≤l.length∧l.length≤l.length:=by omega
 have c2:(0:Int)≤((fr+sz:Nat):Int):=by omega
 have hc:=oz (G:=G) [] (by simp)
 simp only [af,ak,List.map_nil] at hc
 refine bD Tryz.func168 (by decide) Ib rfl ?_
 simp only [yN,M9,go_sem,simprocAttr]
 refine dS [1,2] (hb) rfl ?_ (by decide) ?_ ?_ (by simp) ?_ <;> simp only [aa,ah,go_sem,simprocAttr]
 simp only [w2,c1,c2,Nat.sub_self,aj,Nat.le_refl,go_sem,simprocAttr]
 refine bA (hc) rfl rfl rfl rfl ?_; simp only [go_sem,simprocAttr]
 refine az rfl ?_
 simp only [go_sem,simprocAttr]
 simp only [w2,go_sem,simprocAttr]
 refine dS [1,2] (hk) rfl ?_ (by decide) ?_ ?_ (by simp) ?_ <;> simp only [aa,ah,go_sem,simprocAttr]
 refine az rfl ?_
 simp only [go_sem,simprocAttr]
 refine au [1,2,3] (hs) rfl ?_ (by decide) ?_ ?_ (by simp) ?_ <;> simp only [aa,ah,go_sem,simprocAttr]
 refine bM [] [0,1,2] [] (vs:=[]) rfl rfl (by decide) (by simp) (by simp) rfl rfl ?_
 simp [aF,ah,aa]
theorem Cj (l:List Int) (s:Int) (fr sz us a:Nat) (hf:fr+sz≤l.length) (ha:a≤sz) (hl:1≤l.length∧l.length≤65536):br Tryz.prog G 168 [.ptr 0 0,.int a] (yN l s fr sz us) (.dM []) (yN (bN l (fr+a) (List.replicate (sz-a) 0)) (IntKind.i64.wrap (s+1)) fr sz us):=by
 by_cases h:a<sz
 ·exact vU l s fr sz us a hf h hl
 ·obtain rfl:a=sz:=by omega
  rw [Nat.sub_self,List.replicate_zero,yq]
  exact Ci l s fr a us hf hl
def pL (sz us n:Nat):Bool:=decide (1≤n∧n≤4000∧(aQ n).length+n+5+us≤sz)
theorem vX (l:List Int) (s:Int) (fr sz us n:Nat) (hu:us≤sz) (hs:sz≤65536) (hn:n≤1000000):br Tryz.prog G 235 [.ptr 0 0,.int n] (yN l s fr sz us) (.bool (pL sz us n)) (yN l s fr sz us):=by
 have hm:=oc (G:=G) (n:Int)
 have h9:=dL (n:Int)
 simp only [af] at hm
 refine aY Tryz.func235 (by decide) Qz rfl rfl rfl rfl ?_
 simp only [T5,go_sem,simprocAttr]
 simp only [yN,go_sem,simprocAttr]
 by_cases h1:1≤n
 case neg=>
  simp only [decide_eq_false (show ¬ ((n:Nat):Int)≥1 by omega),go_sem,simprocAttr]
  simp only [pL,decide_eq_false (show ¬ (1≤n∧n≤4000∧(aQ n).length+n+5+us≤sz) by omega)]
 by_cases h2:n≤4000
 case neg=>
  simp only [decide_eq_true (show ((n:Nat):Int)≥1 by omega),decide_eq_false (show ¬ ((n:Nat):Int)≤4000 by omega),go_sem,simprocAttr]
  simp only [pL,decide_eq_false (show ¬ (1≤n∧n≤4000∧(aQ n).length+n+5+us≤sz) by omega)]
 simp only [decide_eq_true (show ((n:Nat):Int)≥1 by omega),decide_eq_true (show ((n:Nat):Int)≤4000 by omega),go_sem,simprocAttr]
 refine bA (hm) rfl rfl rfl rfl ?_; simp only [go_sem,simprocAttr]
 have w1:IntKind.i64.wrap (((aQ n).length:Int)+(n:Int))=(((aQ n).length+n:Nat):Int):=by rw [aD (by omega) (by omega)]; omega
 have w2:IntKind.i64.wrap ((((aQ n).length+n:Nat):Int)+5)=(((aQ n).length+n+5:Nat):Int):=by rw [aD (by omega) (by omega)]; omega
 have w3:IntKind.i64.wrap ((sz:Int)-(us:Int))=((sz-us:Nat):Int):=by rw [aD (by omega) (by omega)]; omega
 simp only [aj,w1,w2,w3,go_sem,simprocAttr]
 exact decide_eq_decide.2 (by omega)
def lgW (l:List Int) (s:Int) (fr sz us a:Nat) (b:List Int):List aG:=[.box 245 [.ptr 1 0,.int fr,.int sz,.int us],.box 150 [.sl 2 l.length 1 0 l.length,.sl 3 1 2 0 1,.int s],.dat 5 1 (ak l),.dat 227 2 (uP a b)]
theorem jh {p:List Int} (h:1≤p.length∧p.length≤4000):(cZ p).length=(aQ p.length).length+p.length+5:=by
 unfold cZ
 rw [if_neg (by omega)]
 simp only [List.length_append,j6,List.length_cons,List.length_nil]
set_option maxHeartbeats 1000000 in
theorem Gi (l:List Int) (s:Int) (fr sz us:Nat) (p:List Int) (hf:fr+sz≤l.length) (hu:us≤sz) (hl:1≤l.length∧l.length≤65536) (hr:pL sz us p.length=true):br Tryz.prog G 184 [.ptr 0 0,af p] (yN l s fr sz us) (.int 0) (lgW l s fr sz (us+(cZ p).length) (fr+us) (cZ p)):=by
 have vn:1≤p.length∧p.length≤4000∧(aQ p.length).length+p.length+5+us≤sz:=of_decide_eq_true hr
 have iZ:=jh ⟨vn.1,vn.2.1⟩
 have hq:=vX (G:=G) l s fr sz us p.length hu (by omega) (by omega)
 have hp:=oo (G:=G) p (by omega)
 have hw:=iK (G:=G) l s (fr+us) (cZ p) (by omega) hl.2
 rw [hr] at hq
 simp only [yN,dR,ko,uP,af] at hq hp hw
 refine bD Tryz.func184 (by decide) Q9 rfl ?_
 simp only [yN,af,UB,go_sem,simprocAttr]
 simp only [aj,show (((p.length:Nat):Int)==0)=false from beq_eq_false_iff_ne.2 (by omega),go_sem,simprocAttr]
 simp only [aj,decide_eq_false (show ¬ ((p.length:Nat):Int)>4000 by omega),go_sem,simprocAttr]
 refine au [0,1,2] (hq) rfl ?_ (by decide) ?_ ?_ (by simp) ?_ <;> simp only [aa,ah,go_sem,simprocAttr]
 refine av (hp) rfl rfl rfl rfl ?_; simp only [go_sem,simprocAttr]
 have w1:IntKind.i64.wrap ((fr:Int)+(us:Int))=((fr+us:Nat):Int):=by rw [aD (by omega) (by omega)]; omega
 have w2:IntKind.i64.wrap ((us:Int)+((cZ p).length:Int))=((us+(cZ p).length:Nat):Int):=by rw [aD (by omega) (by omega)]; omega
 simp only [w1,go_sem,simprocAttr]
 refine dS [1,2] (hw) rfl ?_ (by decide) ?_ ?_ (by simp) ?_ <;> simp only [aa,ah,go_sem,simprocAttr]
 refine az rfl ?_
 simp only [aj,w2,go_sem,simprocAttr]
 refine bM [] [0,1,2,3] [] (vs:=[.int 0]) rfl rfl (by decide) (by simp) (by simp) rfl rfl ?_
 simp [aF,ah,LV.int]
theorem tT (l:List Int) (s:Int) (fr sz us:Nat) (hf:fr+sz≤l.length) (hz:1≤sz) (hl:1≤l.length∧l.length≤65536):br Tryz.prog G 86 [.ptr 0 0] (yN l s fr sz us) (.dM []) (yN (bN l fr (List.replicate sz 0)) (IntKind.i64.wrap (s+1)) fr sz 0):=by
 have hn:=vU (G:=G) l s fr sz us 0 hf (by omega) hl
 simp only [yN,Nat.add_zero,Nat.sub_zero] at hn
 refine aY Tryz.func86 (by decide) WW rfl rfl rfl rfl ?_
 simp only [Zr,go_sem,simprocAttr]
 simp only [yN,go_sem,simprocAttr]
 refine au [0,1,2] (hn) rfl ?_ (by decide) ?_ ?_ (by simp) ?_ <;> simp only [aa,ah,go_sem,simprocAttr]
end Dv
set_option maxRecDepth 100000
namespace Dv
open Go Go.Proofs
variable {G:Nat→Option (List DV)}
def Zv:=qx Tryz.f81
theorem W3:aq Tryz.prog Tryz.f81=some Zv:=by kernel_rfl
def Jq (l:List Int) (fr sz:Nat):List Int:=(l.drop fr).take sz
theorem xV {l:List Int} {fr sz:Nat} (h:fr+sz≤l.length):(Jq l fr sz).length=sz:=by
 unfold Jq
 rw [List.length_take,List.length_drop]
 omega
theorem tv {l:List Int} {fr sz:Nat} (hb:∀ c∈l,0≤c∧c≤255):∀ c∈Jq l fr sz,0≤c∧c≤255:=fun c hc=>hb c (List.mem_of_mem_drop (List.mem_of_mem_take hc))
def gL (l:List Int) (fr sz:Nat):List (List Int)×Nat:=rJ (Jq l fr sz) (sz+1) [] 0
def dkL (l:List Int) (s:Int) (fr sz us:Nat):List aG:=[.box 150 [.sl 1 l.length 1 0 l.length,.d (.val (.slice none 0 0)),.int s],.dat 5 1 (ak l),.box 245 [.ptr 0 0,.int fr,.int sz,.int us]]
set_option maxHeartbeats 1000000 in
theorem Eh (l:List Int) (s:Int) (fr sz:Nat) (hb:∀ c∈l,0≤c∧c≤255) (hf:fr+sz≤l.length) (hz:1≤sz) (hl:1≤l.length∧l.length≤65536) (he:(gL l fr sz).2≤sz):br Tryz.prog G 81 [.ptr 0 0,.int fr,.int sz] (dR l s) (.dM [.ptr 2 0,.d (.dN 1 (aS (gL l fr sz).1)),.int 0]) (dkL (bN l (fr+(gL l fr sz).2) (List.replicate (sz-(gL l fr sz).2) 0)) (IntKind.i64.wrap (s+1)) fr sz (gL l fr sz).2):=by
 have hs:=ij (G:=G) l s
 have hy:=jY (G:=G) l s hl
 have uM:=xV hf
 have ha:=CI (G:=G) (Jq l fr sz) (tv hb) (by omega) 0 (Nat.zero_le _) (gL l fr sz) (by rw [uM]; rfl)
 have hn:=Cj (G:=G) l s fr sz (gL l fr sz).2 (gL l fr sz).2 hf he hl
 generalize gL l fr sz=R at *
 simp only [dR,yN,af] at hs hy ha hn
 have w1:IntKind.i64.wrap ((l.length:Int)-(sz:Int))=((l.length-sz:Nat):Int):=by rw [aD (by omega) (by omega)]; omega
 have w2:IntKind.i64.wrap ((fr:Int)+(sz:Int))=((fr+sz:Nat):Int):=by rw [aD (by omega) (by omega)]; omega
 have c1:fr≤fr+sz∧fr+sz≤l.length∧l.length≤l.length:=by omega
 have c2:(0:Int)≤((fr+sz:Nat):Int):=by omega
 have e1:fr+sz-fr=sz:=by omega
 refine bD Tryz.func81 (by decide) W3 rfl ?_
 simp only [dR,Zv,go_sem,simprocAttr]
 simp only [decide_eq_false (show ¬ ((fr:Nat):Int)<0 by omega),decide_eq_false (show ¬ ((sz:Nat):Int)<1 by omega),go_sem,simprocAttr]
 refine au [0,1] (hs) rfl ?_ (by decide) ?_ ?_ (by simp) ?_ <;> simp only [aa,ah,go_sem,simprocAttr]
 simp only [decide_eq_false (show ¬ ((sz:Nat):Int)>((l.length:Nat):Int) by omega),go_sem,simprocAttr]
 refine au [0,1] (hs) rfl ?_ (by decide) ?_ ?_ (by simp) ?_ <;> simp only [aa,ah,go_sem,simprocAttr]
 simp only [w1,decide_eq_false (show ¬ ((fr:Nat):Int)>((l.length-sz:Nat):Int) by omega),go_sem,simprocAttr]
 refine au [0,1] (hy) rfl ?_ (by decide) ?_ ?_ (by simp) ?_ <;> simp only [aa,ah,go_sem,simprocAttr]
 simp only [w2,c1,c2,e1,aj,dP,fq,go_sem,simprocAttr]
 refine av (ha) rfl rfl rfl rfl ?_; simp only [go_sem,simprocAttr]
 refine au [2,0,1] (hn) rfl ?_ (by decide) ?_ ?_ (by simp) ?_ <;> simp only [aa,ah,go_sem,simprocAttr]
 have hol:(bN l (fr+R.2) (List.replicate (sz-R.2) 0)).length=l.length:=cw (by rw [List.length_replicate]; omega)
 refine bM [] [0,1,2] [] (vs:=[.ptr 2 0,.d (.dN 1 (aS R.1)),.int 0]) rfl rfl (by decide) (by simp) (by simp) rfl rfl ?_
 simp [aF,ah,aa,LV.int]
end Dv
set_option maxRecDepth 100000
namespace Dv
open Go Go.Proofs
variable {G:Nat→Option (List DV)}
theorem p9 (b:List Int) (a:Nat):(∀ c∈(ck b a).1,c∈b)∧(ck b a).1.length≤b.length:=by
 unfold ck
 split
 ·simp
 split
 ·simp
 cases eZ b a with
 | none=>simp
 | some q=>
 obtain ⟨n,fr⟩:=q
 simp only
 split
 ·simp
 split
 ·simp
 refine ⟨fun c hc=>List.mem_of_mem_drop (List.mem_of_mem_take hc),?_⟩
 dsimp only
 rw [List.length_take,List.length_drop]
 omega
def mo (l:List Int) (s:Int) (fr sz:Nat):List aG:=[.box 243 [.ptr 1 0,.int fr,.int sz],.box 150 [.sl 2 l.length 1 0 l.length,.d (.val (.slice none 0 0)),.int s],.dat 5 1 (ak l)]
def fE (l:List Int) (fr sz k:Nat):List Int:=(l.drop (fr+k*sz)).take sz
def ek (l:List Int) (fr sz k:Nat):Option (List Int×Int):=
 if (ck (fE l fr sz k) 0).2.2=1 then (eZ (ck (fE l fr sz k) 0).1 0).map fun q=>((ck (fE l fr sz k) 0).1.drop q.2,q.1) else none
def oV:Option (List Int×Int)→LV
 | none=>.dM [af [],.int 0,.bool false]
 | some q=>.dM [af q.1,.int q.2,.bool true]
def Ua:=qx Tryz.f227
theorem QF:aq Tryz.prog Tryz.f227=some Ua:=by kernel_rfl
def UM:=qx Tryz.f170
theorem Rk:aq Tryz.prog Tryz.f170=some UM:=by kernel_rfl
def UN:=qx Tryz.f169
theorem Rl:aq Tryz.prog Tryz.f169=some UN:=by kernel_rfl
def Zu:=qx Tryz.f82
theorem WZ:aq Tryz.prog Tryz.f82=some Zu:=by kernel_rfl
theorem AH (l:List Int) (s:Int) (fr sz k:Nat) (h:fr+k*sz≤1000000):br Tryz.prog G 227 [.ptr 0 0,.int k] (mo l s fr sz) (.int ((fr+k*sz:Nat):Int)) (mo l s fr sz):=by
 have w0:IntKind.i64.wrap ((k:Int)*(sz:Int))=((k*sz:Nat):Int):=by rw [show (k:Int)*(sz:Int)=((k*sz:Nat):Int) by simp,aD (by omega) (by omega)]
 have w1:IntKind.i64.wrap ((fr:Int)+((k*sz:Nat):Int))=((fr+k*sz:Nat):Int):=by rw [aD (by omega) (by omega)]; omega
 refine aY Tryz.func227 (by decide) QF rfl rfl rfl rfl ?_
 simp only [Ua,go_sem,simprocAttr]
 simp only [mo,w0,w1,go_sem,simprocAttr]
set_option maxHeartbeats 1000000 in
theorem pQ (l:List Int) (s:Int) (fr sz k:Nat) (hb:∀ c∈l,0≤c∧c≤255) (h:fr+k*sz+sz≤l.length) (hl:1≤l.length∧l.length≤65536):br Tryz.prog G 170 [.ptr 0 0,.int k] (mo l s fr sz) (oV (ek l fr sz k)) (mo l s fr sz):=by
 have hp:=AH (G:=G) l s fr sz k (by omega)
 have hy:=jY (G:=G) l s hl
 have uM:(fE l fr sz k).length=sz:=by unfold fE; rw [List.length_take,List.length_drop]; omega
 have Sr:∀ c∈fE l fr sz k,0≤c∧c≤255:=fun c hc=>hb c (List.mem_of_mem_drop (List.mem_of_mem_take hc))
 have hg:=uh (G:=G) (fE l fr sz k) Sr (by omega) 0 (by omega)
 have Nk:=p9 (fE l fr sz k) 0
 have hP:ek l fr sz k=if (ck (fE l fr sz k) 0).2.2=1 then (eZ (ck (fE l fr sz k) 0).1 0).map fun q=>((ck (fE l fr sz k) 0).1.drop q.2,q.1) else none:=rfl
 have XW:(l.drop (fr+k*sz)).take sz=fE l fr sz k:=rfl
 generalize ek l fr sz k=PD at *
 generalize fr+k*sz=pl at *
 generalize fE l fr sz k=sb at *
 simp only [dR,mo,af,gH] at hp hy hg
 have w2:IntKind.i64.wrap ((pl:Int)+(sz:Int))=((pl+sz:Nat):Int):=by rw [aD (by omega) (by omega)]; omega
 have c1:pl≤pl+sz∧pl+sz≤l.length∧l.length≤l.length:=by omega
 have c2:(0:Int)≤((pl+sz:Nat):Int):=by omega
 have e1:pl+sz-pl=sz:=by omega
 refine bD Tryz.func170 (by decide) Rk rfl ?_
 simp only [mo,UM,go_sem,simprocAttr]
 refine au [0,1,2] (hp) rfl ?_ (by decide) ?_ ?_ (by simp) ?_ <;> simp only [aa,ah,go_sem,simprocAttr]
 refine dS [1,2] (hy) rfl ?_ (by decide) ?_ ?_ (by simp) ?_ <;> simp only [aa,ah,go_sem,simprocAttr]
 simp only [w2,c1,c2,e1,aj,dP,fq,XW,go_sem,simprocAttr]
 refine bA (hg) rfl rfl rfl rfl ?_; simp only [go_sem,simprocAttr]
 refine az rfl ?_
 simp only [go_sem,simprocAttr]
 have hn:=lV (G:=G) (ck sb 0).1 (fun c hc=>Sr c (Nk.1 c hc)) (by omega) 0 (by omega) (eZ (ck sb 0).1 0) rfl
 simp only [af] at hn
 cases hq:eZ (ck sb 0).1 0 with
 | none=>
   rw [hq] at hn hP
   simp only [eT,oH,oI,Option.isSome] at hn
   refine av (hn) rfl rfl rfl rfl ?_; simp only [go_sem,simprocAttr]
   have YK:PD=none:=by rw [hP]; split <;> rfl
   by_cases h1:(ck sb 0).2.2=1
   ·simp only [h1,bne_self_eq_false,go_sem,simprocAttr]
    refine bM [] [0,1,2] [] (vs:=[.d (.val (.slice none 0 0)),.int 0,.bool false]) rfl rfl (by decide) (by simp) (by simp) rfl rfl ?_
    simp [aF,ah,aa,YK,oV,af,ak,LV.int,LV.bool]
   ·simp only [show ((ck sb 0).2.2 !=1)=true from bne_iff_ne.2 h1,go_sem,simprocAttr]
    refine bM [] [0,1,2] [] (vs:=[.d (.val (.slice none 0 0)),.int 0,.bool false]) rfl rfl (by decide) (by simp) (by simp) rfl rfl ?_
    simp [aF,ah,aa,YK,oV,af,ak,LV.int,LV.bool]
 | some q=>
 obtain ⟨n,nx⟩:=q
 have hr:=eY (fun c hc=>(Sr c (Nk.1 c hc)).1) hq
 rw [hq] at hn hP
 simp only [eT,oH,oI,Option.isSome] at hn
 refine av (hn) rfl rfl rfl rfl ?_; simp only [go_sem,simprocAttr]
 by_cases h1:(ck sb 0).2.2=1
 ·rw [if_pos h1] at hP
  have c3:nx≤(ck sb 0).1.length∧(ck sb 0).1.length≤(ck sb 0).1.length:=by omega
  have hdl:(ak ((ck sb 0).1.drop nx)).take ((ck sb 0).1.length-nx)=ak ((ck sb 0).1.drop nx):=List.take_of_length_le (by rw [aj,List.length_drop]; exact Nat.le_refl _)
  simp only [h1,bne_self_eq_false,aj,c3,dP,hdl,go_sem,simprocAttr]
  refine bM [] [0,1,2] [] (vs:=[.d (.dN 1 (ak ((ck sb 0).1.drop nx))),.int n,.bool true]) rfl rfl (by decide) (by simp) (by simp) rfl rfl ?_
  simp [aF,ah,aa,hP,oV,af,LV.int,LV.bool]
 ·rw [if_neg h1] at hP
  simp only [show ((ck sb 0).2.2 !=1)=true from bne_iff_ne.2 h1,go_sem,simprocAttr]
  refine bM [] [0,1,2] [] (vs:=[.d (.val (.slice none 0 0)),.int 0,.bool false]) rfl rfl (by decide) (by simp) (by simp) rfl rfl ?_
  simp [aF,ah,aa,hP,oV,af,ak,LV.int,LV.bool]
def mR (l:List Int) (fr sz:Nat):Nat→Int×Int
 | 0=>(-1,-1)
 | k+1=>match ek l fr sz k with
   | none=>mR l fr sz k
   | some q=>if q.2>(mR l fr sz k).2 then ((k:Int),q.2) else mR l fr sz k
def PL (l:List Int) (s:Int) (fr sz:Nat) (k:Nat):St:=⟨[(0,.ptr 0 0),(3,.int (mR l fr sz k).1),(4,.int (mR l fr sz k).2),(9,.int k)],(mo l s fr sz).map some⟩
set_option maxHeartbeats 1000000 in
theorem yG (l:List Int) (s:Int) (fr sz:Nat) (hb:∀ c∈l,0≤c∧c≤255) (h:fr+2*sz≤l.length) (hl:1≤l.length∧l.length≤65536):br Tryz.prog G 169 [.ptr 0 0] (mo l s fr sz) (.int (mR l fr sz 2).1) (mo l s fr sz):=by
 have mz:=pQ (G:=G) l s fr sz 0 hb (by omega) hl
 have hp1:=pQ (G:=G) l s fr sz 1 hb (by omega) hl
 simp only [mo] at mz hp1
 refine aY Tryz.func169 (by decide) Rl rfl rfl rfl rfl ?_
 simp only [UN,go_sem,simprocAttr]
 simp only [mo,go_sem,simprocAttr]
 refine aP [0,3,4,9] [] (fun k:Nat=>k≤2) (fun k=>2-k) (PL l s fr sz) 0 ?_ (Nat.zero_le _) (fun k hk=>?_)
 ·simp only [PL,mo,mR,Int.natCast_zero,go_sem,simprocAttr]
 simp only [PL,mo,go_sem,simprocAttr]
 match k,hk with
 | 0,_=>
   have hq:mR l fr sz (0+1)=match ek l fr sz 0 with
    | none=>mR l fr sz 0
    | some q=>if q.2>(mR l fr sz 0).2 then (((0:Nat):Int),q.2) else mR l fr sz 0:=rfl
   simp only [show decide (((0:Nat):Int)<2)=true from rfl,go_sem,simprocAttr]
   refine au [0,1,2] (mz) rfl ?_ (by decide) ?_ ?_ (by simp) ?_ <;> simp only [aa,ah,go_sem,simprocAttr]
   cases hP:ek l fr sz 0 with
   | none=>
     rw [hP] at hq
     simp only [oV,go_sem,simprocAttr]
     refine aR 1 ?_ ?_ (by decide) (by decide)
     ·simp only [go_sem,simprocAttr]
     ·simp only [PL,mo,hq,show IntKind.i64.wrap 1=1 from rfl,go_sem,simprocAttr]
   | some q=>
     rw [hP] at hq
     simp only at hq
     simp only [oV,go_sem,simprocAttr]
     by_cases hg:q.2>(mR l fr sz 0).2
     ·rw [if_pos hg] at hq
      simp only [decide_eq_true hg,go_sem,simprocAttr]
      refine aR 1 ?_ ?_ (by decide) (by decide)
      ·simp only [go_sem,simprocAttr]
      ·simp only [PL,mo,hq,show IntKind.i64.wrap 1=1 from rfl,go_sem,simprocAttr]
     ·rw [if_neg hg] at hq
      simp only [decide_eq_false hg,go_sem,simprocAttr]
      refine aR 1 ?_ ?_ (by decide) (by decide)
      ·simp only [go_sem,simprocAttr]
      ·simp only [PL,mo,hq,show IntKind.i64.wrap 1=1 from rfl,go_sem,simprocAttr]
 | 1,_=>
   have hq:mR l fr sz (1+1)=match ek l fr sz 1 with
    | none=>mR l fr sz 1
    | some q=>if q.2>(mR l fr sz 1).2 then (((1:Nat):Int),q.2) else mR l fr sz 1:=rfl
   simp only [show decide (((1:Nat):Int)<2)=true from rfl,go_sem,simprocAttr]
   refine au [0,1,2] (hp1) rfl ?_ (by decide) ?_ ?_ (by simp) ?_ <;> simp only [aa,ah,go_sem,simprocAttr]
   cases hP:ek l fr sz 1 with
   | none=>
     rw [hP] at hq
     simp only [oV,go_sem,simprocAttr]
     refine aR 2 ?_ ?_ (by decide) (by decide)
     ·simp only [go_sem,simprocAttr]
     ·simp only [PL,mo,hq,show IntKind.i64.wrap 2=2 from rfl,go_sem,simprocAttr]
   | some q=>
     rw [hP] at hq
     simp only at hq
     simp only [oV,go_sem,simprocAttr]
     by_cases hg:q.2>(mR l fr sz 1).2
     ·rw [if_pos hg] at hq
      simp only [decide_eq_true hg,go_sem,simprocAttr]
      refine aR 2 ?_ ?_ (by decide) (by decide)
      ·simp only [go_sem,simprocAttr]
      ·simp only [PL,mo,hq,show IntKind.i64.wrap 2=2 from rfl,go_sem,simprocAttr]
     ·rw [if_neg hg] at hq
      simp only [decide_eq_false hg,go_sem,simprocAttr]
      refine aR 2 ?_ ?_ (by decide) (by decide)
      ·simp only [go_sem,simprocAttr]
      ·simp only [PL,mo,hq,show IntKind.i64.wrap 2=2 from rfl,go_sem,simprocAttr]
 | 2,_=>
   simp only [show decide (((2:Nat):Int)<2)=false from rfl,go_sem,simprocAttr]
theorem Ch (l:List Int) (fr sz:Nat):∀ k,-1≤(mR l fr sz k).1∧(mR l fr sz k).1<(k:Int)
 | 0=>by simp [mR]
 | k+1=>by
   have:=Ch l fr sz k
   unfold mR
   cases ek l fr sz k with
   | none=>simp only; omega
   | some q=>
     simp only
     split
     ·dsimp only; omega
     ·omega
def gR (l:List Int) (fr sz:Nat):Option (List Int×Int):=if (mR l fr sz 2).1<0 then none else ek l fr sz (mR l fr sz 2).1.toNat
theorem yL (l:List Int) (s:Int) (fr sz:Nat) (hb:∀ c∈l,0≤c∧c≤255) (h:fr+2*sz≤l.length) (hl:1≤l.length∧l.length≤65536):br Tryz.prog G 82 [.ptr 0 0] (mo l s fr sz) (oV (gR l fr sz)) (mo l s fr sz):=by
 have hn:=yG (G:=G) l s fr sz hb h hl
 have hr:=Ch l fr sz 2
 have hL:gR l fr sz=if (mR l fr sz 2).1<0 then none else ek l fr sz (mR l fr sz 2).1.toNat:=rfl
 generalize (mR l fr sz 2).1=m at *
 simp only [mo] at hn
 refine bD Tryz.func82 (by decide) WZ rfl ?_
 simp only [mo,Zu,go_sem,simprocAttr]
 refine au [0,1,2] (hn) rfl ?_ (by decide) ?_ ?_ (by simp) ?_ <;> simp only [aa,ah,go_sem,simprocAttr]
 by_cases hm:m<0
 ·rw [if_pos hm] at hL
  simp only [decide_eq_true hm,go_sem,simprocAttr]
  refine bM [] [0,1,2] [] (vs:=[.d (.val (.slice none 0 0)),.int 0,.bool false]) rfl rfl (by decide) (by simp) (by simp) rfl rfl ?_
  simp [aF,ah,aa,hL,oV,af,ak,LV.int,LV.bool]
 rw [if_neg hm] at hL
 obtain ⟨k,rfl⟩:=Int.eq_ofNat_of_zero_le (show 0≤m by omega)
 rw [Int.toNat_natCast] at hL
 have hk:k*sz+sz≤2*sz:=by
  have:k≤1:=by omega
  have:=Nat.mul_le_mul_right sz this
  omega
 have hp:=pQ (G:=G) l s fr sz k hb (by omega) hl
 rw [← hL] at hp
 simp only [mo] at hp
 simp only [decide_eq_false hm,go_sem,simprocAttr]
 refine au [0,1,2] (hn) rfl ?_ (by decide) ?_ ?_ (by simp) ?_ <;> simp only [aa,ah,go_sem,simprocAttr]
 refine au [0,1,2] (hp) rfl ?_ (by decide) ?_ ?_ (by simp) ?_ <;> simp only [aa,ah,go_sem,simprocAttr]
 cases hq:gR l fr sz with
 | none=>
   simp only [oV,af,go_sem,simprocAttr]
   refine bM [] [0,1,2] [] (vs:=[.d (.dN 1 (ak [])),.int 0,.bool false]) rfl rfl (by decide) (by simp) (by simp) rfl rfl ?_
   simp [aF,ah,aa,LV.int,LV.bool]
 | some q=>
   simp only [oV,af,go_sem,simprocAttr]
   refine bM [] [0,1,2] [] (vs:=[.d (.dN 1 (ak q.1)),.int q.2,.bool true]) rfl rfl (by decide) (by simp) (by simp) rfl rfl ?_
   simp [aF,ah,aa,LV.int,LV.bool]
end Dv
set_option maxRecDepth 100000
namespace Dv
open Go Go.Proofs
variable {G:Nat→Option (List DV)}
def M7:=qx Tryz.f179
theorem H_:aq Tryz.prog Tryz.f179=some M7:=by kernel_rfl
def Xx:=qx Tryz.f92
theorem MT:aq Tryz.prog Tryz.f92=some Xx:=by kernel_rfl
def Zw:=qx Tryz.f80
theorem W4:aq Tryz.prog Tryz.f80=some Zw:=by kernel_rfl
def ff (l:List Int) (fr sz:Nat):Nat:=if (mR l fr sz 2).1=0 then 1 else 0
def eO (b:List Int) (aX:Int):List Int:=cZ (aQ aX++b)
def slW (l:List Int) (s:Int) (fr sz a:Nat) (b:List Int):List aG:=[.box 243 [.ptr 1 0,.int fr,.int sz],.box 150 [.sl 2 l.length 1 0 l.length,.sl 3 1 2 0 1,.int s],.dat 5 1 (ak l),.dat 227 2 (uP a b)]
def F_ (aX:Int):Option (List Int×Int)→Bool
 | none=>false
 | some q=>decide (aX≤q.2)
def dB (l:List Int) (fr sz:Nat) (b:List Int) (aX:Int):Int:=
 if (aQ aX).length=0 then 1 else if F_ aX (gR l fr sz)=true then 6
 else if (eO b aX).length=0∨(eO b aX).length>sz then 3 else 0
set_option maxHeartbeats 1000000 in
theorem Dq (l:List Int) (s:Int) (fr sz:Nat) (b:List Int) (aX:Int) (hb:∀ c∈l,0≤c∧c≤255) (h:fr+2*sz≤l.length) (hz:1≤sz) (hl:1≤l.length∧l.length≤65536) (oO:b.length≤90000) (hE:dB l fr sz b aX=0):br Tryz.prog G 179 [.ptr 0 0,af b,.int aX] (mo l s fr sz) (.int 0) (slW (bN l (fr+ff l fr sz*sz) (List.replicate sz 0)) (IntKind.i64.wrap (s+1)) fr sz (fr+ff l fr sz*sz) (eO b aX)):=by
 have hk:ff l fr sz*sz+sz≤2*sz:=by
  have:ff l fr sz≤1:=by unfold ff; split <;> omega
  have:=Nat.mul_le_mul_right sz this
  omega
 have hL:=yL (G:=G) l s fr sz hb h hl
 have hn:=yG (G:=G) l s fr sz hb h hl
 have hm:=oc (G:=G) aX
 have hr:=Ch l fr sz 2
 simp only [mo,af] at hL hn hm
 unfold dB at hE
 split at hE
 ·exact absurd hE (by decide)
 rename_i g1
 split at hE
 ·exact absurd hE (by decide)
 rename_i g2
 split at hE
 ·exact absurd hE (by decide)
 rename_i g3
 have e1:(((aQ aX).length:Int)==0)=false:=beq_eq_false_iff_ne.2 (by omega)
 have hx:IntKind.i64.wrap (1-(mR l fr sz 2).1)=1-(mR l fr sz 2).1:=aD (by omega) (by omega)
 have hp:=AH (G:=G) l s fr sz (ff l fr sz) (by omega)
 have hkv:(if 1-(mR l fr sz 2).1>0 then 1-(mR l fr sz 2).1 else 0).tmod 2=((ff l fr sz:Nat):Int):=by
  unfold ff
  have:(mR l fr sz 2).1 = -1∨(mR l fr sz 2).1=0∨(mR l fr sz 2).1=1:=by omega
  rcases this with e | e | e <;> rw [e] <;> decide
 have c5:sz*1≤70368744177664∧((sz:Nat):Int)≤9223372036854775807:=by omega
 have hfl:(eO b aX).length≤sz:=by omega
 generalize hN:ff l fr sz=K at *
 generalize hA:fr+K*sz=A at *
 have hw1:=iK (G:=G) l s A (List.replicate sz 0) (by rw [List.length_replicate]; omega) hl.2
 have hs1:=jv (G:=G) l s A (List.replicate sz 0) (by rw [List.length_replicate]; omega) hl
 have hol:(bN l A (List.replicate sz 0)).length=l.length:=cw (by rw [List.length_replicate]; omega)
 have Lz:=iK (G:=G) (bN l A (List.replicate sz 0)) (IntKind.i64.wrap (s+1)) A (eO b aX) (by rw [hol]; omega) (by rw [hol]; exact hl.2)
 simp only [mo,dR,ko,uP,af,jQ,List.length_replicate,List.cons_append,List.nil_append] at hp hw1 hs1 Lz
 refine bD Tryz.func179 (by decide) H_ rfl ?_
 simp only [mo,af,M7,go_sem,simprocAttr]
 refine av (hm) rfl rfl rfl rfl ?_; simp only [go_sem,simprocAttr]
 simp only [aj,e1,go_sem,simprocAttr]
 refine au [0,1,2] (hL) rfl ?_ (by decide) ?_ ?_ (by simp) ?_ <;> simp only [aa,ah,go_sem,simprocAttr]
 have z_:=sX (G:=G) [aQ aX,b] (by simp) (by simp; have:=dL aX; omega)
 have hpf:=oo (G:=G) (aQ aX++b) (by rw [List.length_append]; have:=dL aX; omega)
 rw [show cZ (aQ aX++b)=eO b aX from rfl] at hpf
 simp only [List.flatten_cons,List.flatten_nil,List.append_nil,aS,List.map_cons,List.map_nil,af] at z_ hpf
 have e2:(((eO b aX).length:Int)==0)=false:=beq_eq_false_iff_ne.2 (by omega)
 have e3:decide (((eO b aX).length:Int)>(sz:Int))=false:=decide_eq_false (by omega)
 cases hq:gR l fr sz with
 | none=>
   simp only [oV,af,go_sem,simprocAttr]
   refine av (hm) rfl rfl rfl rfl ?_; simp only [go_sem,simprocAttr]
   refine jy [3] (z_) rfl (by simp [aa,ah,aM,ay,aS,go_sem,simprocAttr]) (by simp [ay]) rfl ?_; simp only [go_sem,simprocAttr]
   refine av (hpf) rfl rfl rfl rfl ?_; simp only [go_sem,simprocAttr]
   simp only [aj,e2,e3,go_sem,simprocAttr]
   refine au [0,1,2] (hn) rfl ?_ (by decide) ?_ ?_ (by simp) ?_ <;> simp only [aa,ah,go_sem,simprocAttr]
   simp only [hx,hkv,go_sem,simprocAttr]
   refine au [0,1,2] (hp) rfl ?_ (by decide) ?_ ?_ (by simp) ?_ <;> simp only [aa,ah,go_sem,simprocAttr]
   simp only [c5,go_sem,simprocAttr]
   refine iN [1,2] [4] (hw1) rfl (by simp [aa,ah,aM,ay,u8,aj,go_sem,simprocAttr]) (by decide) (by decide) (by simp [ay]) (by simp only [go_sem,simprocAttr,u8,aj]) (by simp only [go_sem,simprocAttr,u8,aj]) (by simp) ?_; simp only [go_sem,simprocAttr,u8,aj]
   refine az rfl ?_
   simp only [go_sem,simprocAttr]
   refine au [1,2,5] (hs1) rfl ?_ (by decide) ?_ ?_ (by simp) ?_ <;> simp only [aa,ah,go_sem,simprocAttr,u8]
   refine au [1,2] (Lz) rfl ?_ (by decide) ?_ ?_ (by simp) ?_ <;> simp only [aa,ah,go_sem,simprocAttr]
   refine bM [] [0,1,2,6] [] (vs:=[.int 0]) rfl rfl (by decide) (by simp) (by simp) rfl rfl ?_
   simp [aF,ah,LV.int]
 | some q=>
   rw [hq] at g2
   have g4:¬ aX≤q.2:=fun e=>g2 (decide_eq_true e)
   simp only [oV,af,decide_eq_false g4,go_sem,simprocAttr]
   refine av (hm) rfl rfl rfl rfl ?_; simp only [go_sem,simprocAttr]
   refine jy [3] (z_) rfl (by simp [aa,ah,aM,ay,aS,go_sem,simprocAttr]) (by simp [ay]) rfl ?_; simp only [go_sem,simprocAttr]
   refine av (hpf) rfl rfl rfl rfl ?_; simp only [go_sem,simprocAttr]
   simp only [aj,e2,e3,go_sem,simprocAttr]
   refine au [0,1,2] (hn) rfl ?_ (by decide) ?_ ?_ (by simp) ?_ <;> simp only [aa,ah,go_sem,simprocAttr]
   simp only [hx,hkv,go_sem,simprocAttr]
   refine au [0,1,2] (hp) rfl ?_ (by decide) ?_ ?_ (by simp) ?_ <;> simp only [aa,ah,go_sem,simprocAttr]
   simp only [c5,go_sem,simprocAttr]
   refine iN [1,2] [4] (hw1) rfl (by simp [aa,ah,aM,ay,u8,aj,go_sem,simprocAttr]) (by decide) (by decide) (by simp [ay]) (by simp only [go_sem,simprocAttr,u8,aj]) (by simp only [go_sem,simprocAttr,u8,aj]) (by simp) ?_; simp only [go_sem,simprocAttr,u8,aj]
   refine az rfl ?_
   simp only [go_sem,simprocAttr]
   refine au [1,2,5] (hs1) rfl ?_ (by decide) ?_ ?_ (by simp) ?_ <;> simp only [aa,ah,go_sem,simprocAttr,u8]
   refine au [1,2] (Lz) rfl ?_ (by decide) ?_ ?_ (by simp) ?_ <;> simp only [aa,ah,go_sem,simprocAttr]
   refine bM [] [0,1,2,6] [] (vs:=[.int 0]) rfl rfl (by decide) (by simp) (by simp) rfl rfl ?_
   simp [aF,ah,LV.int]
set_option maxHeartbeats 1000000 in
theorem BQ (l:List Int) (s:Int) (fr sz:Nat) (b:List Int) (aX:Int) (hb:∀ c∈l,0≤c∧c≤255) (h:fr+2*sz≤l.length) (hz:1≤sz) (hl:1≤l.length∧l.length≤65536) (oO:b.length≤90000) (hE:dB l fr sz b aX≠0):br Tryz.prog G 179 [.ptr 0 0,af b,.int aX] (mo l s fr sz) (.int (dB l fr sz b aX)) (mo l s fr sz):=by
 have hL:=yL (G:=G) l s fr sz hb h hl
 have hm:=oc (G:=G) aX
 simp only [mo,af] at hL hm
 have z_:=sX (G:=G) [aQ aX,b] (by simp) (by simp; have:=dL aX; omega)
 have hpf:=oo (G:=G) (aQ aX++b) (by rw [List.length_append]; have:=dL aX; omega)
 rw [show cZ (aQ aX++b)=eO b aX from rfl] at hpf
 simp only [List.flatten_cons,List.flatten_nil,List.append_nil,aS,List.map_cons,List.map_nil,af] at z_ hpf
 refine bD Tryz.func179 (by decide) H_ rfl ?_
 simp only [mo,af,M7,go_sem,simprocAttr]
 refine av (hm) rfl rfl rfl rfl ?_; simp only [go_sem,simprocAttr]
 simp only [aj,go_sem,simprocAttr]
 by_cases g1:(aQ aX).length=0
 ·have hs:dB l fr sz b aX=1:=if_pos g1
  simp only [show (((aQ aX).length:Int)==0)=true by rw [beq_iff_eq]; omega,hs,go_sem,simprocAttr]
  refine bM [] [0,1,2] [] (vs:=[.int 1]) rfl rfl (by decide) (by simp) (by simp) rfl rfl ?_
  simp [aF,ah,LV.int]
 have hs1:dB l fr sz b aX=if F_ aX (gR l fr sz)=true then 6 else if (eO b aX).length=0∨(eO b aX).length>sz then 3 else 0:=if_neg g1
 simp only [show (((aQ aX).length:Int)==0)=false from beq_eq_false_iff_ne.2 (by omega),go_sem,simprocAttr]
 refine au [0,1,2] (hL) rfl ?_ (by decide) ?_ ?_ (by simp) ?_ <;> simp only [aa,ah,go_sem,simprocAttr]
 have kR:F_ aX (gR l fr sz)=false→dB l fr sz b aX=3∧((eO b aX).length=0∨(eO b aX).length>sz):=by
  intro e
  rw [e,if_neg Bool.false_ne_true] at hs1
  by_cases g:(eO b aX).length=0∨(eO b aX).length>sz
  ·rw [if_pos g] at hs1; exact ⟨hs1,g⟩
  ·rw [if_neg g] at hs1; exact absurd hs1 hE
 cases hq:gR l fr sz with
 | none=>
   rw [hq] at kR
   obtain ⟨VI,g3⟩:=kR rfl
   simp only [oV,af,VI,go_sem,simprocAttr]
   refine av (hm) rfl rfl rfl rfl ?_; simp only [go_sem,simprocAttr]
   refine jy [3] (z_) rfl (by simp [aa,ah,aM,ay,aS,go_sem,simprocAttr]) (by simp [ay]) rfl ?_; simp only [go_sem,simprocAttr]
   refine av (hpf) rfl rfl rfl rfl ?_; simp only [go_sem,simprocAttr]
   simp only [aj,go_sem,simprocAttr]
   by_cases g5:(eO b aX).length=0
   ·simp only [show (((eO b aX).length:Int)==0)=true by rw [beq_iff_eq]; omega,go_sem,simprocAttr]
    refine bM [] [0,1,2] [] (vs:=[.int 3]) rfl rfl (by decide) (by simp) (by simp) rfl rfl ?_
    simp [aF,ah,LV.int]
   ·simp only [show (((eO b aX).length:Int)==0)=false from beq_eq_false_iff_ne.2 (by omega),aj,decide_eq_true (show ((eO b aX).length:Int)>(sz:Int) by omega),go_sem,simprocAttr]
    refine bM [] [0,1,2] [] (vs:=[.int 3]) rfl rfl (by decide) (by simp) (by simp) rfl rfl ?_
    simp [aF,ah,LV.int]
 | some q=>
   simp only [oV,af,go_sem,simprocAttr]
   by_cases g4:aX≤q.2
   ·have ho:F_ aX (some q)=true:=decide_eq_true g4
    rw [hq,ho,if_pos rfl] at hs1
    simp only [decide_eq_true g4,hs1,go_sem,simprocAttr]
    refine bM [] [0,1,2] [] (vs:=[.int 6]) rfl rfl (by decide) (by simp) (by simp) rfl rfl ?_
    simp [aF,ah,LV.int]
   rw [hq] at kR
   obtain ⟨VI,g3⟩:=kR (decide_eq_false g4)
   simp only [decide_eq_false g4,VI,go_sem,simprocAttr]
   refine av (hm) rfl rfl rfl rfl ?_; simp only [go_sem,simprocAttr]
   refine jy [3] (z_) rfl (by simp [aa,ah,aM,ay,aS,go_sem,simprocAttr]) (by simp [ay]) rfl ?_; simp only [go_sem,simprocAttr]
   refine av (hpf) rfl rfl rfl rfl ?_; simp only [go_sem,simprocAttr]
   simp only [aj,go_sem,simprocAttr]
   by_cases g5:(eO b aX).length=0
   ·simp only [show (((eO b aX).length:Int)==0)=true by rw [beq_iff_eq]; omega,go_sem,simprocAttr]
    refine bM [] [0,1,2] [] (vs:=[.int 3]) rfl rfl (by decide) (by simp) (by simp) rfl rfl ?_
    simp [aF,ah,LV.int]
   ·simp only [show (((eO b aX).length:Int)==0)=false from beq_eq_false_iff_ne.2 (by omega),aj,decide_eq_true (show ((eO b aX).length:Int)>(sz:Int) by omega),go_sem,simprocAttr]
    refine bM [] [0,1,2] [] (vs:=[.int 3]) rfl rfl (by decide) (by simp) (by simp) rfl rfl ?_
    simp [aF,ah,LV.int]
def oG (l:List Int) (fr sz:Nat) (b:List Int) (aX:Int):List Int:=bN (bN l (fr+ff l fr sz*sz) (List.replicate sz 0)) (fr+ff l fr sz*sz) (eO b aX)
theorem L7 (l:List Int) (s:Int) (fr sz:Nat) (b:List Int) (aX:Int) (hb:∀ c∈l,0≤c∧c≤255) (h:fr+2*sz≤l.length) (hz:1≤sz) (hl:1≤l.length∧l.length≤65536) (oO:b.length≤90000) (hE:dB l fr sz b aX=0):br Tryz.prog G 92 [.ptr 0 0,af b,.int aX] (mo l s fr sz) (.int 0) (mo (oG l fr sz b aX) (IntKind.i64.wrap (IntKind.i64.wrap (s+1)+1)) fr sz):=by
 have hst:=Dq (G:=G) l s fr sz b aX hb h hz hl oO hE
 have hk:ff l fr sz*sz+sz≤2*sz:=by
  have:ff l fr sz≤1:=by unfold ff; split <;> omega
  have:=Nat.mul_le_mul_right sz this
  omega
 have hfl:(eO b aX).length≤sz:=by
  unfold dB at hE
  split at hE
  ·exact absurd hE (by decide)
  split at hE
  ·exact absurd hE (by decide)
  split at hE
  ·exact absurd hE (by decide)
  omega
 have o7:fr+ff l fr sz*sz+sz≤l.length:=by omega
 have hS:oG l fr sz b aX=bN (bN l (fr+ff l fr sz*sz) (List.replicate sz 0)) (fr+ff l fr sz*sz) (eO b aX):=rfl
 generalize fr+ff l fr sz*sz=A at *
 have hol:(bN l A (List.replicate sz 0)).length=l.length:=cw (by rw [List.length_replicate]; omega)
 have hs:=jv (G:=G) (bN l A (List.replicate sz 0)) (IntKind.i64.wrap (s+1)) A (eO b aX) (by rw [hol]; omega) (by rw [hol]; exact hl)
 rw [← hS] at hs
 simp only [mo,slW,dR,ko,uP,af,List.cons_append,List.nil_append] at hst hs
 refine bD Tryz.func92 (by decide) MT rfl ?_
 simp only [mo,af,Xx,go_sem,simprocAttr]
 refine au [0,1,2] (hst) rfl ?_ (by decide) ?_ ?_ (by simp) ?_ <;> simp only [aa,ah,go_sem,simprocAttr]
 refine au [1,2,3] (hs) rfl ?_ (by decide) ?_ ?_ (by simp) ?_ <;> simp only [aa,ah,go_sem,simprocAttr]
 refine bM [] [0,1,2] [] (vs:=[.int 0]) rfl rfl (by decide) (by simp) (by simp) rfl rfl ?_
 simp [aF,ah,LV.int]
theorem Dx (l:List Int) (s:Int) (fr sz:Nat) (b:List Int) (aX:Int) (hb:∀ c∈l,0≤c∧c≤255) (h:fr+2*sz≤l.length) (hz:1≤sz) (hl:1≤l.length∧l.length≤65536) (oO:b.length≤90000) (hE:dB l fr sz b aX≠0):br Tryz.prog G 92 [.ptr 0 0,af b,.int aX] (mo l s fr sz) (.int (dB l fr sz b aX)) (mo l s fr sz):=by
 have hst:=BQ (G:=G) l s fr sz b aX hb h hz hl oO hE
 generalize dB l fr sz b aX=e at *
 simp only [mo,af] at hst
 refine aY Tryz.func92 (by decide) MT rfl rfl rfl rfl ?_
 simp only [Xx,go_sem,simprocAttr]
 simp only [mo,af,go_sem,simprocAttr]
 refine au [0,1,2] (hst) rfl ?_ (by decide) ?_ ?_ (by simp) ?_ <;> simp only [aa,ah,go_sem,simprocAttr]
 simp only [show (e !=0)=true from bne_iff_ne.2 hE,go_sem,simprocAttr]
def dkS (l:List Int) (s:Int) (fr sz:Nat):List aG:=[.box 150 [.sl 1 l.length 1 0 l.length,.d (.val (.slice none 0 0)),.int s],.dat 5 1 (ak l),.box 243 [.ptr 0 0,.int fr,.int sz]]
theorem zS (l:List Int) (s:Int) (fr sz:Nat) (h:fr+2*sz≤l.length) (hz:1≤sz) (hl:1≤l.length∧l.length≤65536):br Tryz.prog G 80 [.ptr 0 0,.int fr,.int sz] (dR l s) (.dM [.ptr 2 0,.int 0]) (dkS l s fr sz):=by
 have hs:=ij (G:=G) l s
 simp only [dR] at hs
 have w1:IntKind.i64.wrap (2*(sz:Int))=((2*sz:Nat):Int):=by rw [aD (by omega) (by omega)]; omega
 have w2:IntKind.i64.wrap ((l.length:Int)-((2*sz:Nat):Int))=((l.length-2*sz:Nat):Int):=by rw [aD (by omega) (by omega)]; omega
 have q1:IntKind.i64.wrap (((l.length:Nat):Int).tdiv 2)=((l.length / 2:Nat):Int):=by rw [Int.tdiv_eq_ediv_of_nonneg (by omega),aD (by omega) (by omega)]; omega
 refine bD Tryz.func80 (by decide) W4 rfl ?_
 simp only [dR,Zw,go_sem,simprocAttr]
 simp only [decide_eq_false (show ¬ ((fr:Nat):Int)<0 by omega),decide_eq_false (show ¬ ((sz:Nat):Int)<1 by omega),go_sem,simprocAttr]
 refine au [0,1] (hs) rfl ?_ (by decide) ?_ ?_ (by simp) ?_ <;> simp only [aa,ah,go_sem,simprocAttr]
 simp only [q1,decide_eq_false (show ¬ ((sz:Nat):Int)>((l.length / 2:Nat):Int) by omega),go_sem,simprocAttr]
 refine au [0,1] (hs) rfl ?_ (by decide) ?_ ?_ (by simp) ?_ <;> simp only [aa,ah,go_sem,simprocAttr]
 simp only [w1,w2,decide_eq_false (show ¬ ((fr:Nat):Int)>((l.length-2*sz:Nat):Int) by omega),go_sem,simprocAttr]
 refine bM [] [0,1,2] [] (vs:=[.ptr 2 0,.int 0]) rfl rfl (by decide) (by simp) (by simp) rfl rfl ?_
 simp [aF,ah,aa,LV.int]
end Dv
set_option maxRecDepth 100000
namespace Dv
open Go Go.Proofs
variable {G:Nat→Option (List DV)}
def o6 (n:Nat) (l:List Int) (s cnt aX:Int) (us:Nat):List aG:=[.box 160 [.ptr 1 0,.ptr 2 0,.ptr 3 0,.int cnt,.int aX],.box 150 [.sl 4 n 1 0 n,.d (.val (.slice none 0 0)),.int s],.box 243 [.ptr 1 0,.int 0,.int ((n / 4:Nat):Int)],.box 245 [.ptr 1 0,.int ((2*(n / 4):Nat):Int),.int ((n-2*(n / 4):Nat):Int),.int us],.dat 5 1 (ak l)]
def UA:=qx Tryz.f185
theorem Q8:aq Tryz.prog Tryz.f185=some UA:=by kernel_rfl
def UC:=qx Tryz.f183
theorem Q_:aq Tryz.prog Tryz.f183=some UC:=by kernel_rfl
def Sg:=qx Tryz.f95
theorem Gp:aq Tryz.prog Tryz.f95=some Sg:=by kernel_rfl
def XC:=qx Tryz.f33
theorem MY:aq Tryz.prog Tryz.f33=some XC:=by kernel_rfl
def Si:=qx Tryz.f31
theorem Gr:aq Tryz.prog Tryz.f31=some Si:=by kernel_rfl
theorem F3 (n:Nat) (l:List Int) (s cnt aX:Int) (us:Nat) (p:List Int) (hp:p.length≤90000):br Tryz.prog G 185 [.ptr 0 0,af p] (o6 n l s cnt aX us) (af (aQ cnt++p)) (o6 n l s cnt aX us):=by
 have hm:=oc (G:=G) cnt
 have z_:=sX (G:=G) [aQ cnt,p] (by simp) (by simp; have:=dL cnt; omega)
 simp only [List.flatten_cons,List.flatten_nil,List.append_nil,aS,List.map_cons,List.map_nil,af] at z_ hm
 refine bD Tryz.func185 (by decide) Q8 rfl ?_
 simp only [o6,af,UA,go_sem,simprocAttr]
 refine av (hm) rfl rfl rfl rfl ?_; simp only [go_sem,simprocAttr]
 refine jy [5] (z_) rfl (by simp [aa,ah,aM,ay,aS,go_sem,simprocAttr]) (by simp [ay]) rfl ?_; simp only [go_sem,simprocAttr]
 refine bM [] [0,1,2,3,4] [] (vs:=[.d (.dN 1 (ak (aQ cnt++p)))]) rfl rfl (by decide) (by simp) (by simp) rfl rfl ?_
 simp [aF,ah]
def fU (n us:Nat) (cnt:Int) (k:Nat):Bool:=decide (1≤k∧k≤3900)&&pL (n-2*(n / 4)) us (k+(aQ cnt).length)
theorem uY (n:Nat) (l:List Int) (s cnt aX:Int) (us k:Nat) (hl:l.length=n) (hn:n≤65536) (hu:us≤n-2*(n / 4)) (hk:k≤900000):br Tryz.prog G 183 [.ptr 0 0,.int k] (o6 n l s cnt aX us) (.bool (fU n us cnt k)) (o6 n l s cnt aX us):=by
 have hm:=oc (G:=G) cnt
 have h9:=dL cnt
 have hr:=vX (G:=G) l s (2*(n / 4)) (n-2*(n / 4)) us (k+(aQ cnt).length) hu (by omega) (by omega)
 have w1:IntKind.i64.wrap ((k:Int)+((aQ cnt).length:Int))=((k+(aQ cnt).length:Nat):Int):=by rw [aD (by omega) (by omega)]; omega
 simp only [af,yN,hl] at hm hr
 refine aY Tryz.func183 (by decide) Q_ rfl rfl rfl rfl ?_
 simp only [UC,go_sem,simprocAttr]
 simp only [o6,go_sem,simprocAttr]
 by_cases h1:1≤k
 case neg=>
  simp only [decide_eq_false (show ¬ ((k:Nat):Int)≥1 by omega),fU,decide_eq_false (show ¬ (1≤k∧k≤3900) by omega),go_sem,simprocAttr]
 by_cases h2:k≤3900
 case neg=>
  simp only [decide_eq_true (show ((k:Nat):Int)≥1 by omega),decide_eq_false (show ¬ ((k:Nat):Int)≤3900 by omega),fU,decide_eq_false (show ¬ (1≤k∧k≤3900) by omega),go_sem,simprocAttr]
 simp only [decide_eq_true (show ((k:Nat):Int)≥1 by omega),decide_eq_true (show ((k:Nat):Int)≤3900 by omega),fU,decide_eq_true (show (1≤k∧k≤3900) by omega),go_sem,simprocAttr]
 refine bA (hm) rfl rfl rfl rfl ?_; simp only [go_sem,simprocAttr]
 simp only [aj,w1,go_sem,simprocAttr]
 refine dS [3,1,4] (hr) rfl ?_ (by decide) ?_ ?_ (by simp) ?_ <;> simp only [aa,ah,go_sem,simprocAttr]
 refine az rfl ?_
 simp only [go_sem,simprocAttr]
def jnW (n:Nat) (l:List Int) (s cnt aX:Int) (us a:Nat) (b:List Int):List aG:=[.box 160 [.ptr 1 0,.ptr 2 0,.ptr 3 0,.int cnt,.int aX],.box 150 [.sl 4 n 1 0 n,.sl 5 1 2 0 1,.int s],.box 243 [.ptr 1 0,.int 0,.int ((n / 4:Nat):Int)],.box 245 [.ptr 1 0,.int ((2*(n / 4):Nat):Int),.int ((n-2*(n / 4):Nat):Int),.int us],.dat 5 1 (ak l),.dat 227 2 (uP a b)]
def mN (cnt:Int) (p:List Int):List Int:=cZ (aQ cnt++p)
set_option maxHeartbeats 1000000 in
theorem Gk (n:Nat) (l:List Int) (s cnt aX:Int) (us:Nat) (p:List Int) (hl:l.length=n) (hn:1≤n∧n≤65536) (hu:us≤n-2*(n / 4)) (hr:fU n us cnt p.length=true):br Tryz.prog G 95 [.ptr 0 0,af p] (o6 n l s cnt aX us) (.int 0) (jnW n l s (IntKind.i64.wrap (cnt+1)) aX (us+(mN cnt p).length) (2*(n / 4)+us) (mN cnt p)):=by
 have vn:=hr
 unfold fU at vn
 rw [Bool.and_eq_true,decide_eq_true_eq] at vn
 obtain ⟨⟨k1,k2⟩,k3⟩:=vn
 have hrl:(aQ cnt++p).length=p.length+(aQ cnt).length:=by rw [List.length_append,Nat.add_comm]
 have hq:=uY (G:=G) n l s cnt aX us p.length hl hn.2 hu (by omega)
 have wF:=F3 (G:=G) n l s cnt aX us p (by omega)
 have hput:=Gi (G:=G) l s (2*(n / 4)) (n-2*(n / 4)) us (aQ cnt++p) (by omega) hu (by omega) (by rw [hrl]; exact k3)
 rw [hr] at hq
 rw [show cZ (aQ cnt++p)=mN cnt p from rfl] at hput
 simp only [o6,yN,lgW,uP,af,hl] at hq wF hput
 refine bD Tryz.func95 (by decide) Gp rfl ?_
 simp only [o6,af,Sg,go_sem,simprocAttr]
 simp only [aj,show (((p.length:Nat):Int)==0)=false from beq_eq_false_iff_ne.2 (by omega),go_sem,simprocAttr]
 simp only [aj,decide_eq_false (show ¬ ((p.length:Nat):Int)>3900 by omega),go_sem,simprocAttr]
 refine au [0,1,2,3,4] (hq) rfl ?_ (by decide) ?_ ?_ (by simp) ?_ <;> simp only [aa,ah,go_sem,simprocAttr]
 refine iM [0,1,2,3,4] (wF) rfl ?_ (by decide) ?_ ?_ ?_ <;> simp only [aa,ah,go_sem,simprocAttr]
 refine dS [3,1,4] (hput) rfl ?_ (by decide) ?_ ?_ (by simp) ?_ <;> simp only [aa,ah,go_sem,simprocAttr]
 refine az rfl ?_
 simp only [go_sem,simprocAttr]
 refine bM [] [0,1,2,3,4,5] [] (vs:=[.int 0]) rfl rfl (by decide) (by simp) (by simp) rfl rfl ?_
 simp [aF,ah,LV.int]
theorem yR (n:Nat) (l:List Int) (s cnt aX:Int) (us:Nat) (p:List Int) (hl:l.length=n) (hn:1≤n∧n≤65536) (hu:us≤n-2*(n / 4)) (hp:1≤p.length∧p.length≤3900) (hr:fU n us cnt p.length=false):br Tryz.prog G 95 [.ptr 0 0,af p] (o6 n l s cnt aX us) (.int 3) (o6 n l s cnt aX us):=by
 have hq:=uY (G:=G) n l s cnt aX us p.length hl hn.2 hu (by omega)
 rw [hr] at hq
 simp only [o6] at hq
 refine aY Tryz.func95 (by decide) Gp rfl rfl rfl rfl ?_
 simp only [Sg,go_sem,simprocAttr]
 simp only [o6,af,go_sem,simprocAttr]
 simp only [aj,show (((p.length:Nat):Int)==0)=false from beq_eq_false_iff_ne.2 (by omega),go_sem,simprocAttr]
 simp only [aj,decide_eq_false (show ¬ ((p.length:Nat):Int)>3900 by omega),go_sem,simprocAttr]
 refine dI [0,1,2,3,4] (hq) rfl ?_ (by decide) ?_ ?_ ?_ <;> simp only [aa,ah,go_sem,simprocAttr]
set_option maxHeartbeats 1000000 in
theorem Em (n:Nat) (l:List Int) (s cnt aX:Int) (us:Nat) (p:List Int) (hl:l.length=n) (hn:1≤n∧n≤65536) (hu:us≤n-2*(n / 4)) (hr:fU n us cnt p.length=true):br Tryz.prog G 33 [.ptr 0 0,af p] (o6 n l s cnt aX us) (.int 0) (o6 n (bN l (2*(n / 4)+us) (mN cnt p)) (IntKind.i64.wrap (s+1)) (IntKind.i64.wrap (cnt+1)) aX (us+(mN cnt p).length)):=by
 have hst:=Gk (G:=G) n l s cnt aX us p hl hn hu hr
 have hfit:2*(n / 4)+us+(mN cnt p).length≤n:=by
  have vn:=hr
  unfold fU pL at vn
  rw [Bool.and_eq_true,decide_eq_true_eq,decide_eq_true_eq] at vn
  have hrl:(aQ cnt++p).length=p.length+(aQ cnt).length:=by rw [List.length_append,Nat.add_comm]
  unfold mN
  rw [jh (by omega),hrl]
  omega
 have Sn:=jv (G:=G) l s (2*(n / 4)+us) (mN cnt p) (by omega) (by omega)
 have hov:(bN l (2*(n / 4)+us) (mN cnt p)).length=n:=by rw [cw (by omega),hl]
 simp only [o6,jnW,dR,ko,uP,af,hov,hl,List.cons_append,List.nil_append] at hst Sn
 refine bD Tryz.func33 (by decide) MY rfl ?_
 simp only [o6,af,XC,go_sem,simprocAttr]
 refine au [0,1,2,3,4] (hst) rfl ?_ (by decide) ?_ ?_ (by simp) ?_ <;> simp only [aa,ah,go_sem,simprocAttr]
 refine au [1,4,5] (Sn) rfl ?_ (by decide) ?_ ?_ (by simp) ?_ <;> simp only [aa,ah,go_sem,simprocAttr]
 refine bM [] [0,1,2,3,4] [] (vs:=[.int 0]) rfl rfl (by decide) (by simp) (by simp) rfl rfl ?_
 simp [aF,ah,LV.int]
theorem uW {l:List Int} {sz:Nat} {b:List Int} {aX:Int} (h:2*sz≤l.length) (hE:dB l 0 sz b aX=0):(oG l 0 sz b aX).length=l.length:=by
 have hk:ff l 0 sz*sz+sz≤2*sz:=by
  have:ff l 0 sz≤1:=by unfold ff; split <;> omega
  have:=Nat.mul_le_mul_right sz this
  omega
 have hfl:(eO b aX).length≤sz:=by
  unfold dB at hE
  split at hE
  ·exact absurd hE (by decide)
  split at hE
  ·exact absurd hE (by decide)
  split at hE
  ·exact absurd hE (by decide)
  omega
 unfold oG
 have h1:(bN l (0+ff l 0 sz*sz) (List.replicate sz 0)).length=l.length:=cw (by rw [List.length_replicate]; omega)
 rw [cw (by rw [h1]; omega),h1]
def qw (n:Nat) (l:List Int) (eR:List Int) (cnt:Int):List Int:=bN (oG l 0 (n / 4) eR cnt) (2*(n / 4)) (List.replicate (n-2*(n / 4)) 0)
set_option maxHeartbeats 1000000 in
theorem EX (n:Nat) (l:List Int) (s cnt aX:Int) (us:Nat) (eR:List Int) (hl:l.length=n) (hn:64≤n∧n≤65536) (hb:∀ c∈l,0≤c∧c≤255) (iZ:eR.length≤90000) (ha:aX≠cnt) (hE:dB l 0 (n / 4) eR cnt=0):br Tryz.prog G 31 [.ptr 0 0,af eR] (o6 n l s cnt aX us) (.int 0) (o6 n (qw n l eR cnt) (IntKind.i64.wrap (IntKind.i64.wrap (IntKind.i64.wrap (s+1)+1)+1)) cnt cnt 0):=by
 have Sq:=L7 (G:=G) l s 0 (n / 4) eR cnt hb (by omega) (by omega) (by omega) iZ hE
 have uM:=uW (l:=l) (sz:=n / 4) (b:=eR) (aX:=cnt) (by omega) hE
 have hcl:=tT (G:=G) (oG l 0 (n / 4) eR cnt) (IntKind.i64.wrap (IntKind.i64.wrap (s+1)+1)) (2*(n / 4)) (n-2*(n / 4)) us (by omega) (by omega) (by omega)
 have hcb:(bN (oG l 0 (n / 4) eR cnt) (2*(n / 4)) (List.replicate (n-2*(n / 4)) 0)).length=n:=by rw [cw (by rw [List.length_replicate]; omega),uM,hl]
 simp only [mo,yN,af,uM,hl,hcb] at Sq hcl
 refine bD Tryz.func31 (by decide) Gr rfl ?_
 simp only [o6,qw,af,Si,go_sem,simprocAttr]
 simp only [show (aX==cnt)=false from beq_eq_false_iff_ne.2 ha,go_sem,simprocAttr]
 refine dS [2,1,4] (Sq) rfl ?_ (by decide) ?_ ?_ (by simp) ?_ <;> simp only [aa,ah,go_sem,simprocAttr]
 refine az rfl ?_
 simp only [go_sem,simprocAttr]
 refine au [3,1,4] (hcl) rfl ?_ (by decide) ?_ ?_ (by simp) ?_ <;> simp only [aa,ah,go_sem,simprocAttr]
 refine bM [] [0,1,2,3,4] [] (vs:=[.int 0]) rfl rfl (by decide) (by simp) (by simp) rfl rfl ?_
 simp [aF,ah,LV.int]
theorem wJ (n:Nat) (l:List Int) (s cnt:Int) (us:Nat) (eR:List Int):br Tryz.prog G 31 [.ptr 0 0,af eR] (o6 n l s cnt cnt us) (.int 3) (o6 n l s cnt cnt us):=by
 refine aY Tryz.func31 (by decide) Gr rfl rfl rfl rfl ?_
 simp only [Si,go_sem,simprocAttr]
 simp only [o6,af,go_sem,simprocAttr]
theorem zA (n:Nat) (l:List Int) (s cnt aX:Int) (us:Nat) (eR:List Int) (hl:l.length=n) (hn:64≤n∧n≤65536) (hb:∀ c∈l,0≤c∧c≤255) (iZ:eR.length≤90000) (he:aX≠cnt) (hE:dB l 0 (n / 4) eR cnt≠0):br Tryz.prog G 31 [.ptr 0 0,af eR] (o6 n l s cnt aX us) (.int 3) (o6 n l s cnt aX us):=by
 have Sq:=Dx (G:=G) l s 0 (n / 4) eR cnt hb (by omega) (by omega) (by omega) iZ hE
 generalize dB l 0 (n / 4) eR cnt=e at *
 simp only [mo,af,hl] at Sq
 refine aY Tryz.func31 (by decide) Gr rfl rfl rfl rfl ?_
 simp only [Si,go_sem,simprocAttr]
 simp only [o6,af,show (aX==cnt)=false from beq_eq_false_iff_ne.2 he,go_sem,simprocAttr]
 refine iM [2,1,4] (Sq) rfl ?_ (by decide) ?_ ?_ ?_ <;> simp only [aa,ah,go_sem,simprocAttr]
 simp only [show (e !=0)=true from bne_iff_ne.2 hE,go_sem,simprocAttr]
end Dv
set_option maxRecDepth 100000
namespace Dv
open Go Go.Proofs
variable {G:Nat→Option (List DV)}
def ZP:=qx Tryz.f29
theorem Xm:aq Tryz.prog Tryz.f29=some ZP:=by kernel_rfl
def Zt:=qx Tryz.f83
theorem WY:aq Tryz.prog Tryz.f83=some Zt:=by kernel_rfl
def UL:=qx Tryz.f171
theorem Rj:aq Tryz.prog Tryz.f171=some UL:=by kernel_rfl
def Zs:=qx Tryz.f85
theorem WX:aq Tryz.prog Tryz.f85=some Zs:=by kernel_rfl
theorem take_zero (n a b:Nat) (h:a+b≤n):((List.replicate n (0:Int)).drop a).take b=List.replicate b 0:=by
 rw [List.drop_replicate,List.take_replicate,Nat.min_eq_left (by omega)]
def X9 (p q:Nat):LV:=.fn (.func 171) [] [.ptr p 0,.ptr q 0]
theorem Ac (rs:List (List Int)) (fr:Int):br Tryz.prog G 83 [.d (.dN 1 (aS rs)),.int fr] [] (X9 0 1) [.box 58 [.d (.dN 1 (aS rs))],.box 3 [.int fr]]:=by
 refine bD Tryz.func83 (by decide) WY rfl ?_
 simp only [Zt,go_sem,simprocAttr]
 exact bM [] [0,1] [] rfl rfl (by simp) (fun _ h=>by cases h) (fun _ h=>by cases h) rfl rfl (by simp [X9,bX,St.obj,ay,aF,St.get,aO,ah,aa])
def Ze (n:Nat) (l:List Int) (s cnt aX:Int) (us:Nat):List aG:=[.box 150 [.sl 1 n 1 0 n,.d (.val (.slice none 0 0)),.int s],.dat 5 1 (ak l),.box 160 [.ptr 0 0,.ptr 3 0,.ptr 4 0,.int cnt,.int aX],.box 243 [.ptr 0 0,.int 0,.int ((n / 4:Nat):Int)],.box 245 [.ptr 0 0,.int ((2*(n / 4):Nat):Int),.int ((n-2*(n / 4):Nat):Int),.int us]]
end Dv
set_option maxRecDepth 100000
namespace Dv
open Go Go.Proofs
variable {G:Nat→Option (List DV)}
structure oQ where
 ce:Int
 cd:List Int
 se:Int
 sd:List Int
def vL:oQ:=⟨0,[],0,[]⟩
def kV:List Int→LV
 | []=>.d (.val (.slice none 0 0))
 | x::l=>af (x::l)
def tu (x:oQ):List LV:=[.int x.ce,kV x.cd,.int x.se,kV x.sd]
def nS (room term:Int) (sh:List oQ) (wr:Int):List aG:=[.box 190 ([.int room,.int term]++(sh.flatMap tu++[.int wr]))]
theorem Ow (k:Nat) (d:List Int):eU k (kV d)=true:=by cases d <;> rfl
theorem S9 (π:Nat→Nat) (d:List Int):rn π (kV d)=kV d:=by cases d <;> rfl
theorem bU (k:Nat):∀ a b:List LV,eX k (a++b)=(eX k a&&eX k b)
 | [],b=>by simp [eX]
 | x::a,b=>by simp only [List.cons_append,eX,bU k a b,Bool.and_assoc]
theorem cO (π:Nat→Nat):∀ a b:List LV,m_ π (a++b)=m_ π a++m_ π b
 | [],b=>rfl
 | x::a,b=>by simp only [List.cons_append,m_,cO π a b]
theorem cH (k:Nat) (sh:List oQ):eX k (sh.flatMap tu)=true:=by
 induction sh with
 | nil=>rfl
 | cons x sh ih=>simp only [List.flatMap_cons,bU,ih,tu,eX,Ow,LV.int,eU,Bool.and_true]
theorem dV (π:Nat→Nat) (sh:List oQ):m_ π (sh.flatMap tu)=sh.flatMap tu:=by
 induction sh with
 | nil=>rfl
 | cons x sh ih=>simp only [List.flatMap_cons,cO,ih,tu,m_,S9,LV.int,rn]
theorem nY (k:Nat) (room term:Int) (sh:List oQ) (wr:Int):(nS room term sh wr).all (dQ k)=true:=by
 simp only [nS,List.all_cons,List.all_nil,dQ,Bool.and_true,bU,cH]
 rfl
def ZN:=qx Tryz.f35
theorem Xk:aq Tryz.prog Tryz.f35=some ZN:=by kernel_rfl
def VD:=qx Tryz.f101
theorem Se:aq Tryz.prog Tryz.f101=some VD:=by kernel_rfl
def Vo:=qx Tryz.f126
theorem RY:aq Tryz.prog Tryz.f126=some Vo:=by kernel_rfl
def VC:=qx Tryz.f102
theorem Sd:aq Tryz.prog Tryz.f102=some VC:=by kernel_rfl
theorem BP (room:Int):br Tryz.prog G 35 [.int room] [] (.ptr 0 0) (nS (if room>0 then room else 0) 0 (List.replicate 25 vL) 0):=by
 refine bD Tryz.func35 (by decide) Xk rfl ?_
 simp only [ZN,go_sem,simprocAttr]
 refine bM [] [0] [] (vs:=[.ptr 0 0]) rfl rfl (by decide) (by simp) (by simp) rfl rfl ?_
 simp [aF,ah]
theorem xP (room term:Int) (sh:List oQ) (wr t:Int):br Tryz.prog G 101 [.ptr 0 0,.int t] (nS room term sh wr) (.dM []) (nS room (if t>term then t else term) sh wr):=by
 refine aY Tryz.func101 (by decide) Se rfl rfl (nY _ _ _ _ _) rfl ?_
 simp only [nS,VD,go_sem,simprocAttr]
theorem tj (room term:Int) (sh:List oQ) (wr:Int) (k:Nat) (hk:1≤k∧k≤24):br Tryz.prog G 126 [.ptr 0 0,.int k] (nS room term sh wr) (.ptr 0 (2+4*k)) (nS room term sh wr):=by
 refine aY Tryz.func126 (by decide) RY rfl rfl (nY _ _ _ _ _) rfl ?_
 simp only [nS,Vo,go_sem,simprocAttr]
 simp only [decide_eq_false (show ¬ ((k:Nat):Int)<1 by omega),decide_eq_false (show ¬ ((k:Nat):Int)>24 by omega),go_sem,simprocAttr]
 simp only [show k<25 by omega,show 2+k*4=2+4*k by omega,go_sem,simprocAttr]
theorem BU (sh:List oQ):(sh.flatMap tu).length=4*sh.length:=by
 induction sh with
 | nil=>rfl
 | cons x sh ih=>rw [List.flatMap_cons,List.length_append,ih]; show 4+_=_; rw [List.length_cons]; omega
theorem HC (x:oQ):∀ (sh:List oQ) (k:Nat),k<sh.length→(sh.flatMap tu).take (4*k)++tu x++(sh.flatMap tu).drop (4*k+4)=(sh.set k x).flatMap tu
 | [],k,h=>absurd h (Nat.not_lt_zero _)
 | y::sh,0,_=>by simp [List.flatMap_cons,tu]
 | y::sh,k+1,h=>by
   have ih:=HC x sh k (by simpa using h)
   rw [List.set_cons_succ,List.flatMap_cons,List.flatMap_cons,← ih,show 4*(k+1)=4*k+4 by omega,show 4*k+4+4=(4*k+4)+4 by omega]
   simp [tu]
theorem Dw (a b w:LV) (x:oQ) (sh:List oQ) (k:Nat) (h:k<sh.length):(a::b::(sh.flatMap tu++[w])).take (2+4*k)++tu x++(sh.flatMap tu++[w]).drop (2+4*k+2)=a::b::((sh.set k x).flatMap tu++[w]):=by
 have hl:=BU sh
 rw [← HC x sh k h,show 2+4*k=(4*k+1)+1 by omega,List.take_succ_cons,List.take_succ_cons,show 4*k+1+1+2=4*k+4 by omega,List.take_append_of_le_length (by omega),List.drop_append_of_le_length (by omega)]
 simp
theorem tn (room term:Int) (sh:List oQ) (wr:Int) (k:Nat) (hk:1≤k∧k≤24) (hs:sh.length=25):br Tryz.prog G 102 [.ptr 0 0,.int k] (nS room term sh wr) (.dM []) (nS room term (sh.set k vL) wr):=by
 have hj:=tj (G:=G) room term sh wr k hk
 simp only [nS,List.cons_append,List.nil_append] at hj
 refine aY Tryz.func102 (by decide) Sd rfl rfl (nY _ _ _ _ _) rfl ?_
 simp only [nS,VC,go_sem,simprocAttr]
 refine dI [0] (hj) rfl ?_ (by decide) ?_ ?_ ?_ <;> simp only [aa,ah,go_sem,simprocAttr,cO,dV,bU,cH]
 have hl:=BU sh
 have oW:=Dw (.int room) (.int term) (.int wr) vL sh k (by omega)
 have c1:2+4*k+2≤(sh.flatMap tu++[LV.int wr]).length:=by rw [List.length_append,hl]; simp; omega
 simp only [LV.int,tu,vL,kV] at oW c1
 rw [if_pos c1,oW]
 simp only [go_sem,simprocAttr]
 rfl
end Dv
