/- The logical machine and its plain laws: parts K6, K7, K8, K9, K10, K11, proved sound. -/
import Derived.Test.YtkalnfkokkjliaaGreatDoorKA
import Derived.Test.YtkalnfkokkjliaaGreatDoorCA
import Derived.Test.YtkalnfkokkjliaaGreatDoorBA
import Derived.Test.YtkalnfkokkjliaaGreatDoorIB
import Derived.Test.YtkalnfkokkjliaaGreatDoorPB
import Derived.Test.YtkalnfkokkjliaaGreatDoorO3
import Derived.Test.YtkalnfkokkjliaaGreatDoorO10
import Derived.Test.YtkalnfkokkjliaaGreatDoorDD
set_option linter.unusedVariables false
set_option linter.unusedSimpArgs false
set_option maxRecDepth 100000
namespace Dv
open Go Go.Proofs
variable {G:Nat→Option (List DV)}
def Up:=qx Tryz.f208
theorem QX:aq Tryz.prog Tryz.f208=some Up:=by kernel_rfl
def Sf:=qx Tryz.f97
theorem Gn:aq Tryz.prog Tryz.f97=some Sf:=by kernel_rfl
def XB:=qx Tryz.f34
theorem MX:aq Tryz.prog Tryz.f34=some XB:=by kernel_rfl
def XD:=qx Tryz.f32
theorem MZ:aq Tryz.prog Tryz.f32=some XD:=by kernel_rfl
def p6 (n:Nat) (l:List Int) (s cnt aX:Int) (L:List (List Int)):List aG:=[.box 177 [.ptr 1 0,.ptr 2 0,.int cnt,.int aX],.box 252 [.ptr 3 0,.int 0,.int ((n / 4:Nat):Int)],.box 179 [.ptr 3 0,.int ((2*(n / 4):Nat):Int),.int ((n-2*(n / 4):Nat):Int),.sl 5 L.length 1 0 L.length],.box 152 [.sl 4 n 1 0 n,.d (.val (.slice none 0 0)),.d (.val (.slice none 0 0)),.int s],.dat 5 1 (ak l),.dat 57 1 (aS L)]
def rK (L:List (List Int)):Prop:=(∀ p∈L,(∀ c∈p,0≤c∧c≤255)∧p.length≤1000000)∧L.length≤100000
set_option maxHeartbeats 1000000 in
theorem AD (n:Nat) (l:List Int) (s cnt aX:Int) (L:List (List Int)) (hL:rK L) (hl:l.length=n) (hn:n≤65536) (hu:cT L≤n-2*(n / 4)) (k:Nat) (hk:k≤900000):br Tryz.prog G 208 [.ptr 0 0,.int k] (p6 n l s cnt aX L) (.bool (fU n (cT L) cnt k)) (p6 n l s cnt aX L):=by
 have h9:=dL cnt
 have p7:=tO (G:=G) cnt
 have hpf:=lK (G:=G) (List.replicate (k+(aQ cnt).length) 0) (fun c hc=>by rw [List.eq_of_mem_replicate hc]; decide) (by rw [List.length_replicate]; omega)
 have qX:=uQ (G:=G) l s (2*(n / 4)) (n-2*(n / 4)) L hL.1 (by have:=hL.2; omega)
 simp only [wC,af,hl] at qX
 simp only [af,jQ] at p7 hpf
 refine aY Tryz.func208 (by decide) QX rfl rfl rfl rfl ?_
 simp only [Up,go_sem,simprocAttr]
 simp only [p6,go_sem,simprocAttr]
 by_cases h1:1≤k
 case neg=>
  simp only [decide_eq_true (show ((k:Nat):Int)<1 by omega),fU,decide_eq_false (show ¬ (1≤k∧k≤3900) by omega),go_sem,simprocAttr]
 by_cases h2:k≤3900
 case neg=>
  simp only [decide_eq_false (show ¬ ((k:Nat):Int)<1 by omega),decide_eq_true (show ((k:Nat):Int)>3900 by omega),fU,decide_eq_false (show ¬ (1≤k∧k≤3900) by omega),go_sem,simprocAttr]
 simp only [decide_eq_false (show ¬ ((k:Nat):Int)<1 by omega),decide_eq_false (show ¬ ((k:Nat):Int)>3900 by omega),go_sem,simprocAttr]
 refine av (p7) rfl rfl rfl rfl ?_; simp only [go_sem,simprocAttr]
 have w1:IntKind.i64.wrap ((k:Int)+(aQ cnt).length)=((k+(aQ cnt).length:Nat):Int):=by rw [aD (by omega) (by omega)]; omega
 have c1:(k+(aQ cnt).length)*1≤70368744177664∧((k+(aQ cnt).length:Nat):Int)≤9223372036854775807:=by omega
 simp only [aj,w1,c1,go_sem,simprocAttr]
 have iZ:=jh (p:=List.replicate (k+(aQ cnt).length) 0) (by rw [List.length_replicate]; omega)
 rw [List.length_replicate] at iZ
 refine jy [6] (hpf) rfl (by simp [aa,ah,aM,ay,u8,List.length_replicate,List.take_replicate,Nat.min_self,go_sem,simprocAttr]) (by simp [ay]) rfl ?_; simp only [go_sem,simprocAttr]
 generalize cZ (List.replicate (k+(aQ cnt).length) 0)=f at *
 simp only [aj,decide_eq_true (show ((f.length:Nat):Int)>0 by omega),go_sem,simprocAttr]
 refine iM [2,3,4,5] (qX) rfl ?_ (by decide) ?_ ?_ ?_ <;> simp only [aa,ah,go_sem,simprocAttr]
 have w2:IntKind.i64.wrap (((n-2*(n / 4):Nat):Int)-((cT L:Nat):Int))=((n-2*(n / 4)-cT L:Nat):Int):=by rw [aD (by omega) (by omega)]; omega
 simp only [w2,fU,pL,decide_eq_true (show 1≤k∧k≤3900 from ⟨h1,h2⟩),go_sem,simprocAttr]
 exact decide_eq_decide.2 (by omega)
theorem AU (n:Int) (hn:¬ isNum n=true):br Tryz.prog G 178 [.int n] [] (.d (.val (.slice none 0 0))) []:=by
 refine bD Tryz.func178 (by decide) Cs rfl ?_
 exact D6 n hn _ (fun s h1=>kM (vs:=[.d (.val (.slice none 0 0))]) (by simp [uH.of,RV.of,h1,tY,TD]) (by simp [aF,ah]))
def Qa (n:Nat) (l:List Int) (s cnt aX:Int) (L:List (List Int)) (a:Nat) (b:List Int):List aG:=[.box 177 [.ptr 1 0,.ptr 2 0,.int cnt,.int aX],.box 252 [.ptr 3 0,.int 0,.int ((n / 4:Nat):Int)],.box 179 [.ptr 3 0,.int ((2*(n / 4):Nat):Int),.int ((n-2*(n / 4):Nat):Int),.sl 5 L.length 1 0 L.length],.box 152 [.sl 4 n 1 0 n,.sl 6 b.length 1 0 b.length,.sl 7 b.length 1 0 b.length,.int s],.dat 5 1 (ak l),.dat 57 1 (aS L),.dat 3 1 (atR a b.length),.dat 5 1 (ak b)]
set_option maxHeartbeats 2000000 in
theorem FL (n:Nat) (l:List Int) (s cnt aX:Int) (L:List (List Int)) (hL:rK L) (hl:l.length=n) (hn:1≤n∧n≤65536) (hu:cT L≤n-2*(n / 4)) (p:List Int) (hp:bP p) (hr:fU n (cT L) cnt p.length=true):br Tryz.prog G 97 [.ptr 0 0,af p] (p6 n l s cnt aX L) (.int 0) (Qa n l s (IntKind.i64.wrap (cnt+1)) aX (L++[aQ cnt++p]) (2*(n / 4)+cT L) (mN cnt p)):=by
 have vn:=hr
 unfold fU pL at vn
 rw [Bool.and_eq_true,decide_eq_true_eq,decide_eq_true_eq] at vn
 have h9:=dL cnt
 have hrl:(aQ cnt++p).length=p.length+(aQ cnt).length:=by rw [List.length_append,Nat.add_comm]
 have iZ:=jh (p:=aQ cnt++p) (by omega)
 have hpt:=Mk (G:=G) l s (2*(n / 4)) (n-2*(n / 4)) L (aQ cnt++p) ((iF cnt).cat hp) (by omega) hL.1 hL.2 (by omega) (by omega) (by rw [iZ,hrl]; omega)
 rw [show cZ (aQ cnt++p)=mN cnt p from rfl] at hpt iZ
 have Ns:=AU (G:=G) cnt
 have Nr:=nq (G:=G) cnt
 have hap:ak (aQ cnt)++ak p=ak (aQ cnt++p):=(gB _ _).symm
 have c1:(aQ cnt++p).length*1≤70368744177664:=by omega
 have hlq:(aQ cnt).length+p.length=(aQ cnt++p).length:=by rw [List.length_append]
 have hB:¬ isNum cnt=true→aQ cnt++p=p:=fun h=>by
  have hB:aQ cnt=[]:=by unfold aQ; rw [if_neg h]
  rw [hB]; rfl
 generalize aQ cnt++p=q at *
 have Sm:(ak q).take q.length=ak q:=List.take_of_length_le (by rw [aj]; exact Nat.le_refl _)
 simp only [wC,PW,af,hl,List.length_append,List.length_cons,List.length_nil] at hpt
 refine bD Tryz.func97 (by decide) Gn rfl ?_
 simp only [p6,af,Sf,go_sem,simprocAttr]
 simp only [aj,decide_eq_false (show ¬ ((p.length:Nat):Int)<1 by omega),go_sem,simprocAttr]
 simp only [aj,decide_eq_false (show ¬ ((p.length:Nat):Int)>3900 by omega),go_sem,simprocAttr]
 by_cases hin:isNum cnt=true
 case' pos=>
  refine gz (Nr hin) rfl rfl rfl ?_
  simp only [hap,c1,aj,go_sem,simprocAttr]
  rw [hlq]
 case' neg=>
  refine bA (Ns hin) rfl rfl rfl rfl ?_; simp only [go_sem,simprocAttr]
  have hq:=hB hin
  subst hq
  simp only [aj,c1,go_sem,simprocAttr]
 all_goals
  refine iN [2,3,4,5] [6] (hpt) rfl (by simp [aa,ah,aM,ay,Sm,aj,go_sem,simprocAttr]) (by decide) (by decide) (by simp [ay]) (by simp only [go_sem,simprocAttr,Sm,aj]) (by simp only [go_sem,simprocAttr,Sm,aj]) (by simp) ?_; simp only [go_sem,simprocAttr,Sm,aj]
  refine az rfl ?_
  simp only [go_sem,simprocAttr]
  refine bM [] [0,1,2,3,4,5,7,8] [] (vs:=[.int 0]) rfl rfl (by decide) (by simp) (by simp) ?_ ?_ ?_
  ·simp only [Qa,List.length_append,go_sem,simprocAttr]
  ·simp only [Qa,List.length_append,go_sem,simprocAttr]
  ·simp [aF,ah,LV.int]
set_option maxHeartbeats 2000000 in
theorem xS (n:Nat) (l:List Int) (s cnt aX:Int) (L:List (List Int)) (hL:rK L) (hl:l.length=n) (hn:1≤n∧n≤65536) (hu:cT L≤n-2*(n / 4)) (p:List Int) (hp:bP p) (h1:1≤p.length∧p.length≤3900) (hr:fU n (cT L) cnt p.length=false):br Tryz.prog G 97 [.ptr 0 0,af p] (p6 n l s cnt aX L) (.int 3) (p6 n l s cnt aX L):=by
 have vn:=hr
 have h9:=dL cnt
 have hrl:(aQ cnt++p).length=p.length+(aQ cnt).length:=by rw [List.length_append,Nat.add_comm]
 unfold fU pL at vn
 rw [decide_eq_true h1,Bool.true_and,decide_eq_false_iff_not] at vn
 have iZ:=jh (p:=aQ cnt++p) (by omega)
 have hpt:=B8 (G:=G) l s (2*(n / 4)) (n-2*(n / 4)) L (aQ cnt++p) ((iF cnt).cat hp) (by omega) hL.1 hL.2 (by omega) hu (by rw [iZ,hrl]; omega)
 have Ns:=AU (G:=G) cnt
 have Nr:=nq (G:=G) cnt
 have hap:ak (aQ cnt)++ak p=ak (aQ cnt++p):=(gB _ _).symm
 have c1:(aQ cnt++p).length*1≤70368744177664:=by omega
 have hlq:(aQ cnt).length+p.length=(aQ cnt++p).length:=by rw [List.length_append]
 have hB:¬ isNum cnt=true→aQ cnt++p=p:=fun h=>by
  have hB:aQ cnt=[]:=by unfold aQ; rw [if_neg h]
  rw [hB]; rfl
 generalize aQ cnt++p=q at *
 have Sm:(ak q).take q.length=ak q:=List.take_of_length_le (by rw [aj]; exact Nat.le_refl _)
 simp only [wC,af,hl] at hpt
 refine aY Tryz.func97 (by decide) Gn rfl rfl rfl rfl ?_
 simp only [Sf,go_sem,simprocAttr]
 simp only [p6,af,go_sem,simprocAttr]
 simp only [aj,decide_eq_false (show ¬ ((p.length:Nat):Int)<1 by omega),go_sem,simprocAttr]
 simp only [aj,decide_eq_false (show ¬ ((p.length:Nat):Int)>3900 by omega),go_sem,simprocAttr]
 by_cases hin:isNum cnt=true
 case' pos=>
  refine gz (Nr hin) rfl rfl rfl ?_
  simp only [hap,c1,aj,go_sem,simprocAttr]
  rw [hlq]
 case' neg=>
  refine bA (Ns hin) rfl rfl rfl rfl ?_; simp only [go_sem,simprocAttr]
  have hq:=hB hin
  subst hq
  simp only [aj,c1,go_sem,simprocAttr]
 all_goals
  refine iN [2,3,4,5] [6] (hpt) rfl (by simp [aa,ah,aM,ay,Sm,aj,go_sem,simprocAttr]) (by decide) (by decide) (by simp [ay]) (by simp only [go_sem,simprocAttr,Sm,aj]) (by simp only [go_sem,simprocAttr,Sm,aj]) (by simp) ?_; simp only [go_sem,simprocAttr,Sm,aj]
  refine az rfl ?_
  simp only [go_sem,simprocAttr]
theorem zQ (n:Nat) (l:List Int) (s cnt aX:Int) (L:List (List Int)) (p:List Int) (hp:p.length<1∨p.length>3900):br Tryz.prog G 97 [.ptr 0 0,af p] (p6 n l s cnt aX L) (.int 1) (p6 n l s cnt aX L):=by
 refine aY Tryz.func97 (by decide) Gn rfl rfl rfl rfl ?_
 simp only [Sf,go_sem,simprocAttr]
 simp only [p6,af,go_sem,simprocAttr]
 by_cases h1:p.length<1
 ·simp only [aj,decide_eq_true (show ((p.length:Nat):Int)<1 by omega),go_sem,simprocAttr]
 ·simp only [aj,decide_eq_false (show ¬ ((p.length:Nat):Int)<1 by omega),go_sem,simprocAttr]
  simp only [aj,decide_eq_true (show ((p.length:Nat):Int)>3900 by omega),go_sem,simprocAttr]
def s7 (n us:Nat) (cnt:Int) (p:List Int):Int:=if p.length<1∨p.length>3900 then 1 else if fU n us cnt p.length=true then 0 else 3
theorem Mg {n us:Nat} {cnt:Int} {p:List Int} (hr:fU n us cnt p.length=true):us+(mN cnt p).length≤n-2*(n / 4):=by
 unfold fU pL at hr
 rw [Bool.and_eq_true,decide_eq_true_eq,decide_eq_true_eq] at hr
 have hrl:(aQ cnt++p).length=p.length+(aQ cnt).length:=by rw [List.length_append,Nat.add_comm]
 unfold mN
 rw [jh (by omega),hrl]
 omega
set_option maxHeartbeats 1000000 in
theorem wv (n:Nat) (l:List Int) (s cnt aX:Int) (L:List (List Int)) (hL:rK L) (hl:l.length=n) (hn:1≤n∧n≤65536) (hu:cT L≤n-2*(n / 4)) (p:List Int) (hp:bP p) (hr:fU n (cT L) cnt p.length=true):br Tryz.prog G 34 [.ptr 0 0,af p] (p6 n l s cnt aX L) (.int 0) (p6 n (bN l (2*(n / 4)+cT L) (mN cnt p)) (IntKind.i64.wrap (s+1)) (IntKind.i64.wrap (cnt+1)) aX (L++[aQ cnt++p])):=by
 have hst:=FL (G:=G) n l s cnt aX L hL hl hn hu p hp hr
 have hfit:=Mg hr
 have Sn:=kq (G:=G) l s (2*(n / 4)+cT L) (mN cnt p) (by omega) (by omega)
 have hov:(bN l (2*(n / 4)+cT L) (mN cnt p)).length=n:=by rw [cw (by omega),hl]
 simp only [p6,Qa,lC,nL,af,hov,hl,List.cons_append,List.nil_append] at hst Sn
 refine bD Tryz.func34 (by decide) MX rfl ?_
 simp only [p6,af,XB,go_sem,simprocAttr]
 refine au [0,1,2,3,4,5] (hst) rfl ?_ (by decide) ?_ ?_ (by simp) ?_ <;> simp only [aa,ah,go_sem,simprocAttr]
 refine au [3,4,6,7] (Sn) rfl ?_ (by decide) ?_ ?_ (by simp) ?_ <;> simp only [aa,ah,go_sem,simprocAttr]
 refine bM [] [0,1,2,3,4,5] [] (vs:=[.int 0]) rfl rfl (by decide) (by simp) (by simp) rfl rfl ?_
 simp [aF,ah,LV.int]
theorem C9 (n:Nat) (l:List Int) (s cnt aX:Int) (L:List (List Int)) (hL:rK L) (hl:l.length=n) (hn:1≤n∧n≤65536) (hu:cT L≤n-2*(n / 4)) (p:List Int) (hp:bP p) (e:Int) (he:e=s7 n (cT L) cnt p) (h0:e≠0):br Tryz.prog G 34 [.ptr 0 0,af p] (p6 n l s cnt aX L) (.int e) (p6 n l s cnt aX L):=by
 have hst:br Tryz.prog G 97 [.ptr 0 0,af p] (p6 n l s cnt aX L) (.int e) (p6 n l s cnt aX L):=by
  unfold s7 at he
  split at he
  ·rename_i h; rw [he]; exact zQ n l s cnt aX L p h
  ·rename_i h
   cases hr:fU n (cT L) cnt p.length with
   | true=>rw [hr,if_pos rfl] at he; exact absurd he h0
   | false=>rw [hr,if_neg (by decide)] at he; rw [he]; exact xS n l s cnt aX L hL hl hn hu p hp (by omega) hr
 simp only [p6,af] at hst
 refine aY Tryz.func34 (by decide) MX rfl rfl rfl rfl ?_
 simp only [XB,go_sem,simprocAttr]
 simp only [p6,af,go_sem,simprocAttr]
 refine au [0,1,2,3,4,5] (hst) rfl ?_ (by decide) ?_ ?_ (by simp) ?_ <;> simp only [aa,ah,go_sem,simprocAttr]
 simp only [show (e==0)=false from beq_eq_false_iff_ne.2 h0,go_sem,simprocAttr]
def WK (n:Nat) (l:List Int) (s cnt aX:Int) (L:List (List Int)):List aG:=[.box 177 [.ptr 1 0,.ptr 2 0,.int cnt,.int aX],.box 252 [.ptr 3 0,.int 0,.int ((n / 4:Nat):Int)],.box 179 [.ptr 3 0,.int ((2*(n / 4):Nat):Int),.int ((n-2*(n / 4):Nat):Int),.sl 6 0 1 0 0],.box 152 [.sl 4 n 1 0 n,.d (.val (.slice none 0 0)),.d (.val (.slice none 0 0)),.int s],.dat 5 1 (ak l),.dat 57 1 (aS L),.dat 57 1 []]
set_option maxHeartbeats 1000000 in
theorem ux (n:Nat) (l:List Int) (s cnt aX:Int) (L:List (List Int)) (eR:List Int) (hl:l.length=n) (hn:64≤n∧n≤65536) (hb:bP l) (hpb:bP eR) (iZ:eR.length≤90000) (ha:aX≠cnt) (hE:dB l 0 (n / 4) eR cnt=0):br Tryz.prog G 32 [.ptr 0 0,af eR] (p6 n l s cnt aX L) (.int 0) (WK n (qw n l eR cnt) (IntKind.i64.wrap (IntKind.i64.wrap (IntKind.i64.wrap (s+1)+1)+1)) cnt cnt L):=by
 have hst:=FM (G:=G) l s 0 (n / 4) eR cnt hb hpb (by omega) (by omega) (by omega) iZ hE
 have uM:=uW (l:=l) (sz:=n / 4) (b:=eR) (aX:=cnt) (by omega) hE
 have hk:ff l 0 (n / 4)*(n / 4)≤n / 4:=by
  have:ff l 0 (n / 4)≤1:=by unfold ff; split <;> omega
  have:=Nat.mul_le_mul_right (n / 4) this
  omega
 have Sq:bN (bN l (0+ff l 0 (n / 4)*(n / 4)) (List.replicate (n / 4) 0)) (0+ff l 0 (n / 4)*(n / 4)) (eO eR cnt)=oG l 0 (n / 4) eR cnt:=rfl
 generalize hA:0+ff l 0 (n / 4)*(n / 4)=A at *
 have Sx:(bN l A (List.replicate (n / 4) 0)).length=n:=by rw [cw (by rw [List.length_replicate]; omega),hl]
 have hfl:A+(eO eR cnt).length≤n:=by
  rw [su hb] at hE
  split at hE
  ·cases hE
  split at hE
  ·cases hE
  split at hE
  ·cases hE
  omega
 have Sn:=kq (G:=G) (bN l A (List.replicate (n / 4) 0)) (IntKind.i64.wrap (s+1)) A (eO eR cnt) (by omega) (by omega)
 rw [Sq] at Sn
 have hcl:=zD (G:=G) (oG l 0 (n / 4) eR cnt) (IntKind.i64.wrap (IntKind.i64.wrap (s+1)+1)) (2*(n / 4)) (n-2*(n / 4)) L (by omega) (by omega)
 have hcb:(bN (oG l 0 (n / 4) eR cnt) (2*(n / 4)) (List.replicate (n-2*(n / 4)) 0)).length=n:=by rw [cw (by rw [List.length_replicate]; omega),uM,hl]
 simp only [qG,Wt,lC,nL,wC,MN,af,Sx,uM,hl,hcb,List.cons_append,List.nil_append] at hst Sn hcl
 refine bD Tryz.func32 (by decide) MZ rfl ?_
 simp only [p6,qw,af,XD,go_sem,simprocAttr]
 simp only [show (aX==cnt)=false from beq_eq_false_iff_ne.2 ha,go_sem,simprocAttr]
 refine dS [1,3,4] (hst) rfl ?_ (by decide) ?_ ?_ (by simp) ?_ <;> simp only [aa,ah,go_sem,simprocAttr]
 refine az rfl ?_
 simp only [go_sem,simprocAttr]
 refine au [3,4,6,7] (Sn) rfl ?_ (by decide) ?_ ?_ (by simp) ?_ <;> simp only [aa,ah,go_sem,simprocAttr]
 refine au [2,3,4,5] (hcl) rfl ?_ (by decide) ?_ ?_ (by simp) ?_ <;> simp only [aa,ah,go_sem,simprocAttr]
 refine bM [] [0,1,2,3,4,5,8] [] (vs:=[.int 0]) rfl rfl (by decide) (by simp) (by simp) rfl rfl ?_
 simp [aF,ah,LV.int]
theorem rY (n:Nat) (l:List Int) (s cnt aX:Int) (L:List (List Int)) (eR:List Int) (hl:l.length=n) (hn:64≤n∧n≤65536) (hb:bP l) (hpb:bP eR) (iZ:eR.length≤90000) (hE:aX=cnt∨dB l 0 (n / 4) eR cnt≠0):br Tryz.prog G 32 [.ptr 0 0,af eR] (p6 n l s cnt aX L) (.int 3) (p6 n l s cnt aX L):=by
 refine aY Tryz.func32 (by decide) MZ rfl rfl rfl rfl ?_
 simp only [XD,go_sem,simprocAttr]
 simp only [p6,af,go_sem,simprocAttr]
 by_cases ha:aX=cnt
 ·subst ha
  simp only [go_sem,simprocAttr]
 have hst:=Dn (G:=G) l s 0 (n / 4) eR cnt hb hpb (by omega) (by omega) (by omega) iZ (hE.resolve_left ha)
 have h0:=hE.resolve_left ha
 generalize dB l 0 (n / 4) eR cnt=e at *
 simp only [qG,af,hl] at hst
 simp only [show (aX==cnt)=false from beq_eq_false_iff_ne.2 ha,go_sem,simprocAttr]
 refine iM [1,3,4] (hst) rfl ?_ (by decide) ?_ ?_ ?_ <;> simp only [aa,ah,go_sem,simprocAttr]
 simp only [show (e !=0)=true from bne_iff_ne.2 h0,go_sem,simprocAttr]
end Dv
set_option maxRecDepth 100000
namespace Dv
open Go Go.Proofs
variable {G:Nat→Option (List DV)}
def ZO:=qx Tryz.f30
theorem Xl:aq Tryz.prog Tryz.f30=some ZO:=by kernel_rfl
def Zd (n:Nat) (l:List Int) (s cnt aX:Int) (L:List (List Int)):List aG:=[.box 152 [.sl 1 n 1 0 n,.d (.val (.slice none 0 0)),.d (.val (.slice none 0 0)),.int s],.dat 5 1 (ak l),.box 177 [.ptr 3 0,.ptr 4 0,.int cnt,.int aX],.box 252 [.ptr 0 0,.int 0,.int ((n / 4:Nat):Int)],.box 179 [.ptr 0 0,.int ((2*(n / 4):Nat):Int),.int ((n-2*(n / 4):Nat):Int),.sl 5 L.length 1 0 L.length],.dat 57 1 (aS L)]
theorem Et (a:Int):∀ (rs:List (List Int)) (k:Nat),wE a rs k≥0↔¬ ∀ r∈rs,ot r a=false
 | [],k=>by simp [wE]
 | r::rs,k=>by
   unfold wE
   have ih:=Et a rs (k+1)
   cases h:ot r a with
   | true=>
     rw [if_pos rfl]
     refine ⟨fun _ h2=>?_,fun _=>by omega⟩
     have:=h2 r (List.mem_cons_self ..)
     rw [h] at this; cases this
   | false=>
     rw [if_neg (by decide),ih]
     simp [h]
theorem Oi (rs:List (List Int)) (a:Int):vz rs a=true↔0<rs.length∧∀ r∈rs,ot r a=false:=by
 unfold vz
 rw [Bool.and_eq_true,Bool.not_eq_true',decide_eq_true_eq,decide_eq_false_iff_not,Et,Decidable.not_not]
 exact and_congr_left fun _=>by omega
structure O7 where
 i:Nat
 done:List (List Int)
 old:Nat
 stop:Bool
def Lv (n:Nat) (l:List Int) (s aX a:Int) (eR:List Int) (rs:List (List Int)) (x:O7):St:=⟨[(9,.ptr 3 0),(11,.d (.dN 1 (ak eR))),(12,.int aX),(13,.ptr 5 0),(14,.sl 6 x.done.length 1 0 x.done.length),(15,.int x.old),(16,.bool x.stop),(17,.int x.i)],
 [some (.box 152 [.sl 1 n 1 0 n,.d (.val (.slice none 0 0)),.d (.val (.slice none 0 0)),.int s]),some (.dat 5 1 (ak l)),some (.box 252 [.ptr 0 0,.int 0,.int ((n / 4:Nat):Int)]),some (.box 179 [.ptr 0 0,.int ((2*(n / 4):Nat):Int),.int ((n-2*(n / 4):Nat):Int),.sl 4 rs.length 1 0 rs.length]),some (.dat 57 1 (aS rs)),some (.box 177 [.ptr 2 0,.ptr 3 0,.int (a+x.done.length),.int aX]),some (.dat 57 1 (aS x.done))]⟩
structure O7I (rs:List (List Int)) (a aX:Int) (x:O7):Prop where
 le:x.i≤rs.length
 fol:sQ rs a=if x.stop=true then x.done else x.done++sQ (rs.drop x.i) (a+x.done.length)
 dl:x.done.length≤x.i
 ol:x.old≤x.i
 all:x.old=x.i↔∀ r∈rs.take x.i,ot r a=false
 nil:(∀ r∈rs.take x.i,ot r a=false)→x.done=[]
def O7.next (a aX:Int) (r:List Int) (x:O7):O7:=
 match eZ r 0 with
 | none=>⟨x.i+1,x.done,x.old,true⟩
 | some q=>if x.stop=true then ⟨x.i+1,x.done,if q.1<a+x.done.length∧x.done=[]∧aX>q.1 then x.old+1 else x.old,true⟩
   else if q.1<a+x.done.length∧q.2<r.length then ⟨x.i+1,x.done,if q.1<a+x.done.length∧x.done=[]∧aX>q.1 then x.old+1 else x.old,false⟩
   else if q.1≠a+x.done.length∨q.2=r.length then ⟨x.i+1,x.done,if q.1<a+x.done.length∧x.done=[]∧aX>q.1 then x.old+1 else x.old,true⟩
   else ⟨x.i+1,x.done++[r.drop q.2],x.old,false⟩
theorem O7I.next {rs:List (List Int)} {a aX:Int} {x:O7} (h:O7I rs a aX x) (hag:aX = -1∧a=0∨aX=a) (hx:x.i<rs.length) (Sy:∀ q,eZ (rs.getD x.i []) 0=some q→0≤q.1):O7I rs a aX (x.next a aX (rs.getD x.i [])):=by
 obtain ⟨i,done,old,stop⟩:=x
 obtain ⟨h1,h2,h3,h4,h5,h6⟩:=h
 dsimp only at h1 h2 h3 h4 h5 h6 hx Sy ⊢
 rw [gT rs i [] hx,vt] at h2
 have hall:(∀ r'∈rs.take (i+1),ot r' a=false)↔(∀ r'∈rs.take i,ot r' a=false)∧ot (rs.getD i []) a=false:=by
  rw [sr [] hx]
  simp only [List.mem_append,List.mem_singleton]
  exact ⟨fun h=>⟨fun r hr=>h r (.inl hr),h _ (.inr rfl)⟩,fun h r hr=>hr.elim (h.1 r) (fun e=>e ▸ h.2)⟩
 generalize rs.getD i []=r at *
 unfold O7.next
 cases hq:eZ r 0 with
 | none=>
   rw [hq] at h2
   have he:ot r a=true:=by unfold ot; rw [hq]
   rw [he] at hall
   refine ⟨by dsimp only; omega,?_,by dsimp only; omega,by dsimp only; omega,?_,fun h=>absurd (hall.1 h).2 (by decide)⟩
   ·rw [if_pos rfl]; simpa using h2
   ·exact ⟨fun h=>by dsimp only at h; omega,fun h=>absurd (hall.1 h).2 (by decide)⟩
 | some q=>
   obtain ⟨n,p⟩:=q
   have hn:=Sy _ hq
   rw [hq] at h2
   dsimp only at h2 hn ⊢
   have he:ot r a=decide (n≥a):=by unfold ot; rw [hq]
   rw [he,decide_eq_false_iff_not] at hall
   have XY:(n<a+done.length∧done=[]∧aX>n)↔n<a∧done=[]:=by
    constructor
    ·rintro ⟨g1,g2,g3⟩; subst g2; exact ⟨by simpa using g1,rfl⟩
    ·rintro ⟨g1,g2⟩; subst g2; exact ⟨by simpa using g1,rfl,by omega⟩
   have hnd:∀ b:Bool,∀ d:List (List Int),(∀ r'∈rs.take i,ot r' a=false)→n<a→d=done→d=[]:=fun b d g1 g2 g3=>by rw [g3]; exact h6 g1
   have hold:(if n<a+done.length∧done=[]∧aX>n then old+1 else old)≤i+1:=by split <;> omega
   have hA:(if n<a+done.length∧done=[]∧aX>n then old+1 else old)=i+1↔∀ r'∈rs.take (i+1),ot r' a=false:=by
    rw [hall]
    constructor
    ·intro g
     split at g
     ·rename_i g2; exact ⟨h5.1 (by omega),by have:=(XY.1 g2).1; omega⟩
     ·omega
    ·rintro ⟨g1,g2⟩
     rw [if_pos (XY.2 ⟨by omega,h6 g1⟩),h5.2 g1]
   cases stop with
   | true=>
     rw [if_pos rfl] at h2
     rw [if_pos rfl]
     exact ⟨by dsimp only; omega,by rw [if_pos rfl]; exact h2,by dsimp only; omega,hold,hA,fun g=>h6 (hall.1 g).1⟩
   | false=>
     rw [if_neg Bool.false_ne_true] at h2
     rw [if_neg Bool.false_ne_true]
     by_cases c1:n<a+done.length∧p<r.length
     ·rw [if_pos c1] at h2
      rw [if_pos c1]
      exact ⟨by dsimp only; omega,by rw [if_neg Bool.false_ne_true]; exact h2,by dsimp only; omega,hold,hA,fun g=>h6 (hall.1 g).1⟩
     rw [if_neg c1] at h2
     rw [if_neg c1]
     by_cases c2:n≠a+done.length∨p=r.length
     ·rw [if_pos c2] at h2
      rw [if_pos c2]
      exact ⟨by dsimp only; omega,by rw [if_pos rfl]; simpa using h2,by dsimp only; omega,hold,hA,fun g=>h6 (hall.1 g).1⟩
     rw [if_neg c2] at h2
     rw [if_neg c2]
     have hne:¬ (n<a+done.length∧done=[]∧aX>n):=fun g=>by omega
     rw [if_neg hne] at hA hold
     refine ⟨by dsimp only; omega,?_,by dsimp only; rw [List.length_append,List.length_cons,List.length_nil]; omega,hold,hA,fun g=>?_⟩
     ·rw [if_neg Bool.false_ne_true,h2]
      simp [Int.add_assoc]
     ·have g1:=hall.1 g
      have:=h6 g1.1
      subst this
      simp at c2
      omega
set_option maxHeartbeats 4000000 in
theorem JA (n:Nat) (l:List Int) (s:Int) (hn:64≤n∧n≤65536) (hl:l.length=n) (hb:∀ c∈l,0≤c∧c≤255) (l1:List Int) (us:Nat) (rs:List (List Int)) (q:Option (List Int×Int)) (ops:List (List Int)) (E:Bool)
  (h1:l1=mQ l n) (h2:us=(gL l (2*(n / 4)) (n-2*(n / 4))).2) (h3:rs=tK l n) (h4:q=gR l1 0 (n / 4)) (h5:ops=sQ rs (dO q)) (h6:E=vz rs (dO q)) :
  br Tryz.prog G 30 [.ptr 0 0] (lC l s) (.dM [.ptr 2 0,af (jI q),.d (.dN 1 (aS ops)),.bool true])
   (if E=true then Zd n (bN l1 (2*(n / 4)) (List.replicate (n-2*(n / 4)) 0)) (IntKind.i64.wrap (IntKind.i64.wrap (s+1)+1)) (dO q+ops.length) (cG q) [] else Zd n l1 (IntKind.i64.wrap (s+1)) (dO q+ops.length) (cG q) rs):=by
 have hro:=qO hb (fr:=2*(n / 4)) (sz:=n-2*(n / 4)) (by omega)
 have Ij:=JB (G:=G) l s 0 (n / 4) (by omega) (by omega) (by omega)
 have hlo:=JC (G:=G) l s (2*(n / 4)) (n-2*(n / 4)) hb (by omega) (by omega) (by omega) hro.1
 have qY:l1.length=n:=by rw [h1]; unfold mQ; rw [cw (by rw [List.length_replicate]; omega),hl]
 have EC:∀ c∈l1,0≤c∧c≤255:=by
  rw [h1]
  exact jJ hb (gN _)
 have OW:=JP (G:=G) l1 (IntKind.i64.wrap (s+1)) 0 (n / 4) EC (by omega) (by omega)
 have hcl:=zD (G:=G) l1 (IntKind.i64.wrap (s+1)) (2*(n / 4)) (n-2*(n / 4)) rs (by omega) (by omega)
 have hcb:(bN l1 (2*(n / 4)) (List.replicate (n-2*(n / 4)) 0)).length=n:=by rw [cw (by rw [List.length_replicate]; omega),qY]
 rw [show bN l (2*(n / 4)+(gL l (2*(n / 4)) (n-2*(n / 4))).2) (List.replicate (n-2*(n / 4)-(gL l (2*(n / 4)) (n-2*(n / 4))).2) 0)=l1 from h1.symm] at hlo
 rw [← h2] at hro
 rw [show (gL l (2*(n / 4)) (n-2*(n / 4))).1=rs from h3.symm] at hlo hro
 rw [← h4,tI] at OW
 have hq:∀ p,q=some p→0≤p.2∧p.2≤dK:=fun p hp=>by
  rw [h4] at hp
  unfold gR at hp
  split at hp
  ·cases hp
  ·exact tH EC hp
 have ha:0≤dO q∧dO q≤9007199254740991:=by
  cases Cz:q with
  | none=>exact ⟨Int.le_refl _,by decide⟩
  | some p=>exact hq p Cz
 have hag:q=none∧cG q = -1∧dO q=0∨cG q=dO q:=by cases q <;> simp [cG,dO]
 have hol:=qi rs (dO q)
 rw [← h5] at hol
 have SH:(aS rs).length=rs.length:=by simp [aS]
 have hE:=Oi rs (dO q)
 rw [← h6] at hE
 clear h1 h2 h3 h4 h6 hq
 simp only [lC,aaR,aaS,qG,wC,MN,af,hl,qY,hcb,List.cons_append,List.nil_append] at Ij hlo OW hcl
 have w1:IntKind.i64.wrap (((n:Nat):Int).tdiv 4)=((n / 4:Nat):Int):=by rw [Int.tdiv_eq_ediv_of_nonneg (by omega),aD (by omega) (by omega)]; omega
 have w2:IntKind.i64.wrap (2*((n / 4:Nat):Int))=((2*(n / 4):Nat):Int):=by rw [aD (by omega) (by omega)]; omega
 have w3:IntKind.i64.wrap (((n:Nat):Int)-((2*(n / 4):Nat):Int))=((n-2*(n / 4):Nat):Int):=by rw [aD (by omega) (by omega)]; omega
 refine bD Tryz.func30 (by decide) Xl rfl ?_
 simp only [lC,hl,af,ZO,go_sem,simprocAttr]
 simp only [decide_eq_false (show ¬ ((n:Nat):Int)<64 by omega),w1,go_sem,simprocAttr]
 refine au [0,1] (Ij) rfl ?_ (by decide) ?_ ?_ (by simp) ?_ <;> simp only [aa,ah,go_sem,simprocAttr]
 simp only [w1,w2,w3,go_sem,simprocAttr]
 refine au [0,1] (hlo) rfl ?_ (by decide) ?_ ?_ (by simp) ?_ <;> simp only [aa,ah,go_sem,simprocAttr]
 refine au [2,0,1] (OW) rfl ?_ (by decide) ?_ ?_ (by simp) ?_ <;> simp only [aa,ah,go_sem,simprocAttr]
 have ab3:cG q = -1∧dO q=0∨cG q=dO q:=hag.elim (fun h=>.inl h.2) .inr
 by_cases hg:cG q>0
 case' pos=>
  have XY:cG q=dO q:=by omega
  simp only [decide_eq_true hg,go_sem,simprocAttr]
 case' neg=>
  have XY:(0:Int)=dO q:=by omega
  simp only [decide_eq_false hg,go_sem,simprocAttr]
 all_goals
  refine aP [9,11,12,13,14,15,16,17] [.t 14 57 1] (O7I rs (dO q) (cG q)) (fun x=>rs.length-x.i) (Lv n l1 (IntKind.i64.wrap (s+1)) (cG q) (dO q) (jI q) rs) ⟨0,[],0,false⟩ ?_ ⟨Nat.zero_le _,by simp,Nat.le_refl _,Nat.le_refl _,by simp,fun _=>rfl⟩ ?_
  ·simp only [Lv,← XY,Int.natCast_zero,Int.add_zero,aS,go_sem,simprocAttr]
  clear XY hg
  intro x hx
  have hnx:=fun h1 h2=>hx.next ab3 h1 h2
  obtain ⟨i,done,old,stop⟩:=x
  obtain ⟨g1,g2,g3,g4,g5,g6⟩:=hx
  dsimp only at g1 g2 g3 g4 g5 g6 hnx
  simp only [Lv,SH,go_sem,simprocAttr]
  by_cases hlt:i<rs.length
  case neg=>
   obtain rfl:i=rs.length:=by omega
   rw [List.take_length] at g5
   have hod:ops=done:=by
    rw [h5,g2,List.drop_length]
    split
    ·rfl
    ·exact List.append_nil _
   subst hod
   simp only [decide_eq_false (show ¬ ((rs.length:Nat):Int)<((rs.length:Nat):Int) by omega),go_sem,simprocAttr]
   cases E with
   | true=>
     have X5:=hE.1 rfl
     have ho:=g5.2 X5.2
     simp only [ho,decide_eq_true (show ((rs.length:Nat):Int)>0 by omega),go_sem,simprocAttr]
     refine au [3,0,1,4] (hcl) rfl ?_ (by decide) ?_ ?_ (by simp) ?_ <;> simp only [aa,ah,go_sem,simprocAttr]
     refine bM [] [0,1,5,2,3,7] [6] (vs:=[.ptr 5 0,.d (.dN 1 (ak (jI q))),.sl 6 ops.length 1 0 ops.length,.bool true]) rfl rfl (by decide) (by simp) (by simp [St.obj,ay,bX]) rfl rfl ?_
     simp [St.obj,ay,aF,ah,aa,aM,aS,List.take_of_length_le,bX,LV.bool]
   | false=>
     have hn0:¬ (0<old∧old=rs.length):=fun h=>by have:=hE.2 ⟨by omega,g5.1 h.2⟩; cases this
     by_cases ho:0<old
     case' pos=>simp only [decide_eq_true (show ((old:Nat):Int)>0 by omega),show (((old:Nat):Int)==((rs.length:Nat):Int))=false from beq_eq_false_iff_ne.2 (by omega),go_sem,simprocAttr]
     case' neg=>simp only [decide_eq_false (show ¬ ((old:Nat):Int)>0 by omega),go_sem,simprocAttr]
     all_goals
      refine bM [] [0,1,5,2,3,4] [6] (vs:=[.ptr 5 0,.d (.dN 1 (ak (jI q))),.sl 6 ops.length 1 0 ops.length,.bool true]) rfl rfl (by decide) (by simp) (by simp [St.obj,ay,bX]) rfl rfl ?_
      simp [St.obj,ay,aF,ah,aa,aM,aS,List.take_of_length_le,bX,LV.bool]
  have hg:=aB (f:=fun b:List Int=>[DV.dN 1 (ak b)]) [] hlt
  rw [show rs.map (fun b:List Int=>[DV.dN 1 (ak b)])=aS rs from rfl] at hg
  have hm:rs.getD i []∈rs:=by rw [List.getD_eq_getElem?_getD,List.getElem?_eq_getElem hlt]; exact List.getElem_mem hlt
  have rE:=ki (G:=G) (rs.getD i []) (hro.2.2 _ hm).1 (by have:=(hro.2.2 _ hm).2; omega) 0 (by omega) _ rfl
  have v7:=hro.2.2 _ hm
  have Ss:=fun (x:Int) (p':Nat) (h:eZ (rs.getD i []) 0=some (x,p'))=>eY (fun c hc=>(v7.1 c hc).1) h
  have xu:=hnx hlt (fun q h=>(Ss q.1 q.2 h).1)
  clear hnx
  generalize rs.getD i []=r at *
  clear g1 g2 g5 g6 hE
  have hkk:IntKind.i64.wrap (((i:Nat):Int)+1)=((i+1:Nat):Int):=ax (show i<9223372036854775807 by omega)
  have oO:(ak r).length=r.length:=aj r
  have hdl:(aS done).length=done.length:=by simp [aS]
  simp only [decide_eq_true (show ((i:Nat):Int)<((rs.length:Nat):Int) by omega),hlt,SH,hg,go_sem,simprocAttr]
  simp only [af] at rE
  unfold O7.next at xu
  cases hq1:eZ r 0 with
  | none=>
    rw [hq1] at rE xu
    simp only [eT,oH,oI,Option.isSome] at rE xu
    refine av (rE) rfl rfl rfl rfl ?_; simp only [go_sem,simprocAttr]
    cases stop with
    | true=>
      simp only [go_sem,simprocAttr]
      refine aR _ ?_ ?_ xu (by dsimp only; omega)
      ·simp only [go_sem,simprocAttr]
      ·simp only [Lv,hkk,go_sem,simprocAttr]
    | false=>
      simp only [go_sem,simprocAttr]
      refine aR _ ?_ ?_ xu (by dsimp only; omega)
      ·simp only [go_sem,simprocAttr]
      ·simp only [Lv,hkk,go_sem,simprocAttr]
  | some q1=>
    obtain ⟨xv,p1⟩:=q1
    have hx1:=Ss xv p1 hq1
    rw [hq1] at rE xu
    simp only [eT,oH,oI,Option.isSome] at rE xu
    refine av (rE) rfl rfl rfl rfl ?_; simp only [go_sem,simprocAttr]
    have hdn:done=[]↔done.length=0:=by cases done <;> simp
    obtain ⟨o',ho'⟩:∃ o',(if xv<dO q+done.length∧done=[]∧cG q>xv then old+1 else old)=o':=⟨_,rfl⟩
    rw [ho'] at xu
    by_cases c1:xv<dO q+done.length
    ·rcases (show (done=[]∧cG q>xv)∨done≠[]∨done=[]∧¬ cG q>xv by by_cases h1:done=[] <;> by_cases h2:cG q>xv <;> simp [h1,h2]) with hcs | hcs | hcs
     case' inl=>
      rw [if_pos ⟨c1,hcs⟩] at ho'
      have OU:IntKind.i64.wrap ((old:Int)+1)=(o':Int):=by rw [ax (show old<9223372036854775807 by omega)]; omega
      simp only [decide_eq_true c1,hdl,show (((done.length:Nat):Int)==0)=true by rw [beq_iff_eq]; have:=hdn.1 hcs.1; omega,decide_eq_true hcs.2,OU,go_sem,simprocAttr]
     case' inr.inl=>
      rw [if_neg (fun h=>hcs h.2.1)] at ho'
      subst ho'
      simp only [decide_eq_true c1,hdl,show (((done.length:Nat):Int)==0)=false from beq_eq_false_iff_ne.2 (fun h=>hcs (hdn.2 (by omega))),go_sem,simprocAttr]
     case' inr.inr=>
      rw [if_neg (fun h=>hcs.2 h.2.2)] at ho'
      subst ho'
      simp only [decide_eq_true c1,hdl,show (((done.length:Nat):Int)==0)=true by rw [beq_iff_eq]; have:=hdn.1 hcs.1; omega,decide_eq_false hcs.2,go_sem,simprocAttr]
     all_goals
      cases stop with
      | true=>
        rw [if_pos rfl] at xu
        simp only [go_sem,simprocAttr]
        refine aR _ ?_ ?_ xu (by dsimp only; omega)
        ·simp only [go_sem,simprocAttr]
        ·simp only [Lv,hkk,go_sem,simprocAttr]
      | false=>
        rw [if_neg Bool.false_ne_true] at xu
        by_cases c2:p1<r.length
        ·rw [if_pos ⟨c1,c2⟩] at xu
         simp only [decide_eq_true c1,oO,hlt,SH,hg,decide_eq_true (show ((r.length:Nat):Int)>((p1:Nat):Int) by omega),go_sem,simprocAttr]
         refine aR _ ?_ ?_ xu (by dsimp only; omega)
         ·simp only [go_sem,simprocAttr]
         ·simp only [Lv,hkk,go_sem,simprocAttr]
        ·rw [if_neg (fun h=>c2 h.2),if_pos (.inl (by omega))] at xu
         simp only [decide_eq_true c1,oO,hlt,SH,hg,decide_eq_false (show ¬ ((r.length:Nat):Int)>((p1:Nat):Int) by omega),show (xv !=dO q+done.length)=true from bne_iff_ne.2 (by omega),go_sem,simprocAttr]
         refine aR _ ?_ ?_ xu (by dsimp only; omega)
         ·simp only [go_sem,simprocAttr]
         ·simp only [Lv,hkk,go_sem,simprocAttr]
    rw [if_neg (fun h=>c1 h.1)] at ho'
    subst ho'
    simp only [decide_eq_false c1,go_sem,simprocAttr]
    cases stop with
    | true=>
      rw [if_pos rfl] at xu
      simp only [go_sem,simprocAttr]
      refine aR _ ?_ ?_ xu (by dsimp only; omega)
      ·simp only [go_sem,simprocAttr]
      ·simp only [Lv,hkk,go_sem,simprocAttr]
    | false=>
      rw [if_neg Bool.false_ne_true,if_neg (fun h=>c1 h.1)] at xu
      simp only [go_sem,simprocAttr]
      by_cases Cx:xv=dO q+done.length
      case neg=>
       rw [if_pos (.inl Cx)] at xu
       simp only [show (xv !=dO q+done.length)=true from bne_iff_ne.2 Cx,go_sem,simprocAttr]
       refine aR _ ?_ ?_ xu (by dsimp only; omega)
       ·simp only [go_sem,simprocAttr]
       ·simp only [Lv,hkk,go_sem,simprocAttr]
      subst Cx
      by_cases hpe:p1=r.length
      ·rw [if_pos (.inr hpe)] at xu
       simp only [bne_self_eq_false,oO,hlt,SH,hg,show (((r.length:Nat):Int)==((p1:Nat):Int))=true by rw [beq_iff_eq]; omega,go_sem,simprocAttr]
       refine aR _ ?_ ?_ xu (by dsimp only; omega)
       ·simp only [go_sem,simprocAttr]
       ·simp only [Lv,hkk,go_sem,simprocAttr]
      rw [if_neg (by simp [hpe])] at xu
      simp only [bne_self_eq_false,oO,hlt,SH,hg,show (((r.length:Nat):Int)==((p1:Nat):Int))=false from beq_eq_false_iff_ne.2 (by omega),go_sem,simprocAttr]
      have c3:p1≤r.length∧r.length≤r.length:=by omega
      have Ng:(ak (r.drop p1)).take (r.length-p1)=ak (r.drop p1):=List.take_of_length_le (by rw [aj,List.length_drop]; omega)
      have abY:(ak (r.drop p1)).length=r.length-p1:=by rw [aj,List.length_drop]
      have c4:(r.length-p1)*1≤70368744177664:=by omega
      have LA:aS done++[[DV.dN 1 (ak (r.drop p1))]]=aS (done++[r.drop p1]):=by simp [aS]
      have XV:(aS (done++[r.drop p1])).length*24≤70368744177664:=by
       have:(aS (done++[r.drop p1])).length=done.length+1:=by simp [aS]
       omega
      have w5:IntKind.i64.wrap (dO q+(done.length:Int)+1)=dO q+((done++[r.drop p1]).length:Int):=by rw [aD (by omega) (by omega),List.length_append,List.length_cons,List.length_nil]; omega
      simp only [hlt,SH,hg,oO,c3,dP,Ng,abY,c4,Nat.le_refl,go_sem,simprocAttr]
      rw [LA]
      simp only [hdl,XV,w5,go_sem,simprocAttr]
      refine aR _ ?_ ?_ xu (by dsimp only; omega)
      ·simp only [go_sem,simprocAttr]
      ·simp only [Lv,hkk,w5,List.length_append,go_sem,simprocAttr]
end Dv
set_option maxRecDepth 100000
namespace Dv
open Go Go.Proofs
variable {G:Nat→Option (List DV)}
def ZM:=qx Tryz.f36
theorem Xj:aq Tryz.prog Tryz.f36=some ZM:=by kernel_rfl
def Vz:=qx Tryz.f106
theorem Sa:aq Tryz.prog Tryz.f106=some Vz:=by kernel_rfl
def Uv:=qx Tryz.f191
theorem Q3:aq Tryz.prog Tryz.f191=some Uv:=by kernel_rfl
def Vn:=qx Tryz.f128
theorem RX:aq Tryz.prog Tryz.f128=some Vn:=by kernel_rfl
def Vm:=qx Tryz.f129
theorem RW:aq Tryz.prog Tryz.f129=some Vm:=by kernel_rfl
def Vy:=qx Tryz.f107
theorem R_:aq Tryz.prog Tryz.f107=some Vy:=by kernel_rfl
def Vx:=qx Tryz.f108
theorem R9:aq Tryz.prog Tryz.f108=some Vx:=by kernel_rfl
def VA:=qx Tryz.f104
theorem Sb:aq Tryz.prog Tryz.f104=some VA:=by kernel_rfl
def fV:LV:=.d (.val (.slice none 0 0))
def fH (room term:Int):List aG:=[.box 112 [.int room,.int term,fV,.int 0]]
theorem JI (room:Int):br Tryz.prog G 36 [.int room] [] (.ptr 0 0) (fH (if room<0 then 0 else room) 0):=by
 refine bD Tryz.func36 (by decide) Xj rfl ?_
 simp only [ZM,go_sem,simprocAttr]
 by_cases h:room<0
 ·simp only [decide_eq_true h,if_pos h,go_sem,simprocAttr]
  exact bM [] [0] [] (vs:=[.ptr 0 0]) rfl rfl (by decide) (by simp) (by simp) rfl rfl (by simp [aF,ah])
 ·simp only [decide_eq_false h,if_neg h,go_sem,simprocAttr]
  exact bM [] [0] [] (vs:=[.ptr 0 0]) rfl rfl (by decide) (by simp) (by simp) rfl rfl (by simp [aF,ah])
theorem EO (room term t:Int):br Tryz.prog G 106 [.ptr 0 0,.int t] (fH room term) (.dM []) (fH room (if t>term then t else term)):=by
 refine nX Tryz.func106 (by decide) Sa rfl rfl rfl rfl ?_
 simp only [Vz,go_sem,simprocAttr]
 simp only [fH,fV,go_sem,simprocAttr]
 by_cases h:t>term
 ·simp only [decide_eq_true h,if_pos h,go_sem,simprocAttr]
 ·simp only [decide_eq_false h,if_neg h,go_sem,simprocAttr]
theorem zl (room term bW:Int) (b:Bool):br Tryz.prog G 191 [.ptr 0 0,.int bW,.bool b] (fH room term) (.int (-1)) (fH room term):=by
 refine nX Tryz.func191 (by decide) Q3 rfl rfl rfl rfl ?_
 simp only [Uv,go_sem,simprocAttr]
 simp only [fH,fV,go_sem,simprocAttr]
 refine aP [0,7] [] (fun _:Unit=>True) (fun _=>1) (fun _=>⟨[(0,.ptr 0 0),(7,.int 0)],(fH room term).map some⟩) () ?_ trivial ?_
 ·simp only [fH,fV,go_sem,simprocAttr]
 intro _ _
 simp only [fH,fV,go_sem,simprocAttr]
theorem EP (room term bW:Int) (b:Bool):br Tryz.prog G 128 [.ptr 0 0,.int bW,.bool b] (fH room term) (.int 0) (fH room term):=by
 have hf:=zl (G:=G) room term bW b
 simp only [fH,fV] at hf
 refine nX Tryz.func128 (by decide) RX rfl rfl rfl rfl ?_
 simp only [Vn,go_sem,simprocAttr]
 simp only [fH,fV,go_sem,simprocAttr]
 refine au [0] (hf) rfl ?_ (by decide) ?_ ?_ (by simp) ?_ <;> simp only [aa,ah,go_sem,simprocAttr]
theorem rM (room term bW:Int) (b:Bool):br Tryz.prog G 129 [.ptr 0 0,.int bW,.bool b] (fH room term) fV (fH room term):=by
 refine nX Tryz.func129 (by decide) RW rfl rfl rfl rfl ?_
 simp only [Vm,go_sem,simprocAttr]
 simp only [fH,fV,go_sem,simprocAttr]
 refine aP [0,7,8] [] (fun _:Unit=>True) (fun _=>1) (fun _=>⟨[(0,.ptr 0 0),(7,fV),(8,.int 0)],(fH room term).map some⟩) () ?_ trivial ?_
 ·simp only [fH,fV,go_sem,simprocAttr]
 intro _ _
 simp only [fH,fV,go_sem,simprocAttr]
theorem Bv (room term bW:Int):br Tryz.prog G 107 [.ptr 0 0,.int bW] (fH room term) (.dM []) (fH room term):=by
 have hf:=rM (G:=G) room term bW true
 have hg:=rM (G:=G) room term bW false
 simp only [fH,fV] at hf hg
 refine nX Tryz.func107 (by decide) R_ rfl rfl rfl rfl ?_
 simp only [Vy,go_sem,simprocAttr]
 simp only [fH,fV,go_sem,simprocAttr]
 refine au [0] (hf) rfl ?_ (by decide) ?_ ?_ (by simp) ?_ <;> simp only [aa,ah,go_sem,simprocAttr]
 refine au [0] (hg) rfl ?_ (by decide) ?_ ?_ (by simp) ?_ <;> simp only [aa,ah,go_sem,simprocAttr]
theorem uy (room term bW ep:Int) (he:ep>0):br Tryz.prog G 108 [.ptr 0 0,.int bW,.int ep] (fH room term) (.int 4) (fH room term):=by
 have hf:=EP (G:=G) room term bW true
 have hg:=zl (G:=G) room term bW false
 simp only [fH,fV] at hf hg
 refine nX Tryz.func108 (by decide) R9 rfl rfl rfl rfl ?_
 simp only [Vx,go_sem,simprocAttr]
 simp only [fH,fV,decide_eq_true he,go_sem,simprocAttr]
 refine au [0] (hf) rfl ?_ (by decide) ?_ ?_ (by simp) ?_ <;> simp only [aa,ah,go_sem,simprocAttr]
 simp only [show ((0:Int)==ep)=false from beq_eq_false_iff_ne.2 (by omega),go_sem,simprocAttr]
 refine au [0] (hg) rfl ?_ (by decide) ?_ ?_ (by simp) ?_ <;> simp only [aa,ah,go_sem,simprocAttr]
def Px (c:aI):ai→List (List Int)→ai×Bool
 | s,[]=>(s,true)
 | s,b::bs=>match oZ b with
   | none=>(s,false)
   | some o=>if (bC c s o).2=0 then Px c (bC c s o).1 bs else (s,false)
theorem B6 (c:aI):∀ (l:List (List Int)) (s:ai),Ai c s l=if (Px c s l).2=true then some (Px c s l).1 else none
 | [],s=>rfl
 | b::bs,s=>by
   unfold Ai Px
   cases oZ b with
   | none=>rfl
   | some o=>
     dsimp only
     by_cases h:(bC c s o).2=0
     ·simp only [h,if_true]; exact B6 c bs _
     ·simp [h]
def vN (c:aI) (eR:List Int) (l:List (List Int)):ai×Bool:=if eR.length>0 then (match nG c eR with | none=>(yI c,false) | some s=>Px c s l) else Px c (yI c) l
theorem Mh (c:aI) (eR:List Int) (l:List (List Int)):lI c eR l=if (vN c eR l).2=true then some (vN c eR l).1 else none:=by
 unfold lI vN
 by_cases h:eR.length>0
 ·rw [if_pos h,if_pos h]
  cases nG c eR with
  | none=>rfl
  | some s=>exact B6 c l s
 ·rw [if_neg h,if_neg h]; exact B6 c l _
def Py (c:aI) (l:List (List Int)) (rest:List (Option aG)) (x:Nat×ai):St:=⟨[(2,.d (.dN 1 (aS l))),(3,.ptr 0 0),(6,.ptr 1 0),(8,.ptr 2 0),(11,.int x.1)],[some (.box 23 [.int c.nodes,.int c.bn,.int c.cv,.int c.gJ,.int c.eF,.int c.eE,.int c.deadline,.int c.room,.int c.gq]),some (.box 30 [.d (.val (.slice none 0 0)),.d (.val (.slice none 0 0)),.int 0,.int 0,.int 0,.int 0]),some (ez x.2)]++rest⟩
set_option maxHeartbeats 2000000 in
theorem Jx (c:aI) (hm:iH c=true) (eR:List Int) (l:List (List Int)) (hp:∀ x∈eR,0≤x∧x≤255) (iZ:eR.length≤1000000) (hl:∀ b∈l,(∀ x∈b,0≤x∧x≤255)∧b.length≤1000000) (Bh:l.length≤1000000):br Tryz.prog G 104 [f_ c,af eR,.d (.dN 1 (aS l))] [] (.dM [bz (vN c eR l).1,.bool (vN c eR l).2]) []:=by
 have hn:=MI (G:=G) c
 have hg:=Ob (G:=G) c eR hp iZ
 rw [SO c eR hp] at hg
 have hcl:(aS l).length=l.length:=by simp [aS]
 simp only [af] at hg
 refine bD Tryz.func104 (by decide) Sb rfl ?_
 simp only [af,VA,go_sem,simprocAttr]
 refine av (hn) rfl rfl rfl rfl ?_; simp only [go_sem,simprocAttr]
 simp only [aj,hcl,go_sem,simprocAttr]
 obtain ⟨R,hR⟩:∃ R,vN c eR l=R:=⟨_,rfl⟩
 rw [hR]
 unfold vN at hR
 by_cases mz:0<eR.length
 case' pos=>
  rw [if_pos mz] at hR
  simp only [decide_eq_true (show ((eR.length:Nat):Int)>0 by omega),go_sem,simprocAttr]
  cases YF:nG c eR with
  | none=>
    rw [YF] at hg hR
    simp only [fW,Option.getD,Option.isSome,bz,j4] at hg
    refine av (hg) rfl rfl rfl rfl ?_; simp only [go_sem,simprocAttr]
    subst hR
    exact bw [] rfl (by simp) (by simp [aF,ah,aa,bz,bK,cA,LV.int,LV.bool,St.get,aO])
  | some s0=>?_
  have v7:cm c s0:=zb YF
  rw [YF] at hg hR
  simp only at hR
  simp only [fW,Option.getD,Option.isSome,bz] at hg
  refine av (hg) rfl rfl rfl rfl ?_; simp only [go_sem,simprocAttr]
  obtain ⟨rest,kJ⟩:∃ rest,rest=[some (ez s0)]:=⟨_,rfl⟩
 case' neg=>
  rw [if_neg mz] at hR
  simp only [decide_eq_false (show ¬ ((eR.length:Nat):Int)>0 by omega),go_sem,simprocAttr]
  have v7:=yH hm
  obtain ⟨s0,hs0⟩:∃ s0,yI c=s0:=⟨_,rfl⟩
  rw [hs0] at hR v7 ⊢
  obtain ⟨rest,kJ⟩:∃ rest:List (Option aG),rest=[]:=⟨_,rfl⟩
 all_goals
  refine aP [2,3,6,8,11] [] (fun x:Nat×ai=>x.1≤l.length∧cm c x.2∧Px c x.2 (l.drop x.1)=R) (fun x=>l.length-x.1) (Py c l rest) (0,s0) ?_ ⟨Nat.zero_le _,v7,hR⟩ ?_
  ·simp only [kJ,Py,ez,hcl,Int.natCast_zero,go_sem,simprocAttr]
  rintro ⟨k,s⟩ ⟨hk,hr,hA⟩
  dsimp only at hk hr hA
  simp only [kJ,Py,ez,hcl,go_sem,simprocAttr]
  by_cases hlt:k<l.length
  case neg=>
   obtain rfl:k=l.length:=by omega
   rw [List.drop_length] at hA
   unfold Px at hA
   subst hA
   simp only [decide_eq_false (show ¬ ((l.length:Nat):Int)<((l.length:Nat):Int) by omega),go_sem,simprocAttr]
   exact bw [] rfl (by simp) (by simp [aF,ah,aa,bz,bK,cA,LV.int,LV.bool,St.get,aO])
  have hg:=aB (f:=fun b:List Int=>[DV.dN 1 (ak b)]) [] hlt
  rw [show l.map (fun b:List Int=>[DV.dN 1 (ak b)])=aS l from rfl] at hg
  rw [gT l k [] hlt] at hA
  have hm:l.getD k []∈l:=by rw [List.getD_eq_getElem?_getD,List.getElem?_eq_getElem hlt]; exact List.getElem_mem hlt
  have ho:=JD (G:=G) (l.getD k []) (hl _ hm).1 (hl _ hm).2
  rw [NZ (hl _ hm).1] at ho
  generalize l.getD k []=b at *
  simp only [af] at ho
  simp only [decide_eq_true (show ((k:Nat):Int)<((l.length:Nat):Int) by omega),hg,go_sem,simprocAttr]
  have o7:=hA
  unfold Px at o7
  cases hq:oZ b with
  | none=>
    rw [hq] at ho o7
    simp only at o7
    subst o7
    simp only [AO,Option.getD,Option.isSome,rS,BJ] at ho
    refine av (ho) rfl rfl rfl rfl ?_; simp only [go_sem,simprocAttr]
    exact bw [] rfl (by simp) (by simp [aF,ah,aa,bz,bK,cA,LV.int,LV.bool,St.get,aO])
  | some o=>
    rw [hq] at ho o7
    simp only at o7
    simp only [AO,Option.getD,Option.isSome,rS] at ho
    refine av (ho) rfl rfl rfl rfl ?_; simp only [go_sem,simprocAttr]
    have hap:=sZ (G:=G) c s o hr
    rw [← vD hr o] at hap
    simp only [bz,rS] at hap
    refine av (hap) rfl rfl rfl rfl ?_; simp only [go_sem,simprocAttr]
    by_cases he:(bC c s o).2=0
    ·rw [if_pos he] at o7
     simp only [he,bne_self_eq_false,go_sem,simprocAttr]
     refine aR (k+1,(bC c s o).1) ?_ ?_ ⟨by dsimp only; omega,mF hr o,o7⟩ (by dsimp only; omega)
     ·simp only [go_sem,simprocAttr]
     ·simp only [kJ,Py,ez,ax (show k<9223372036854775807 by omega),go_sem,simprocAttr]
    ·rw [if_neg he] at o7
     subst o7
     simp only [show ((bC c s o).2 !=0)=true from bne_iff_ne.2 he,go_sem,simprocAttr]
     exact bw [] rfl (by simp) (by simp [aF,ah,aa,bz,bK,cA,LV.int,LV.bool,St.get,aO])
end Dv
set_option maxRecDepth 100000
namespace Dv
open Go Go.Proofs
variable {G:Nat→Option (List DV)}
def Er:=qx Tryz.f124
theorem xm:aq Tryz.prog Tryz.f124=some Er:=by kernel_rfl
def Es:=qx Tryz.f105
theorem xq:aq Tryz.prog Tryz.f105=some Es:=by kernel_rfl
def Cn (l:qA):List DV:=[i64 l.gen,i64 l.sent,i64 l.heard,bl l.has]++(Ge l.order++Ge l.report)
def rG (x:bR):aG:=.box 81 [.int x.c.nodes,.int x.c.bn,.int x.c.cv,.int x.c.gJ,.int x.c.eF,.int x.c.eE,.int x.c.deadline,.int x.c.room,.int x.c.gq,.ptr 4 0,.ptr 1 0,.ptr 7 0,bK x.s.nodes,cA x.s.jobs,.int x.s.goal,.int x.s.bH,.int x.s.mode,.int x.s.term,.sl 8 x.lines.length 26 0 x.lines.length,.int x.gx]
def o4 (x:bR) (L:List (List Int)):Option (List (List Int))→List aG
 | none=>[rG x,.box 177 [.ptr 2 0,.ptr 3 0,.int x.j.cnt,.int x.j.aX],.box 252 [.ptr 4 0,.int 0,.int ((x.j.n / 4:Nat):Int)],.box 179 [.ptr 4 0,.int ((2*(x.j.n / 4):Nat):Int),.int ((x.j.n-2*(x.j.n / 4):Nat):Int),.sl 6 L.length 1 0 L.length],.box 152 [.sl 5 x.j.n 1 0 x.j.n,.d (.val (.slice none 0 0)),.d (.val (.slice none 0 0)),.int x.j.s],.dat 5 1 (ak x.j.l),.dat 57 1 (aS L),.box 112 [.int x.room,.int x.term,.d (.val (.slice none 0 0)),.int 0],.dat 200 26 (x.lines.map Cn)]
 | some L0=>[rG x,.box 177 [.ptr 2 0,.ptr 3 0,.int x.j.cnt,.int x.j.aX],.box 252 [.ptr 4 0,.int 0,.int ((x.j.n / 4:Nat):Int)],.box 179 [.ptr 4 0,.int ((2*(x.j.n / 4):Nat):Int),.int ((x.j.n-2*(x.j.n / 4):Nat):Int),.sl 9 L.length 1 0 L.length],.box 152 [.sl 5 x.j.n 1 0 x.j.n,.d (.val (.slice none 0 0)),.d (.val (.slice none 0 0)),.int x.j.s],.dat 5 1 (ak x.j.l),.dat 57 1 (aS L0),.box 112 [.int x.room,.int x.term,.d (.val (.slice none 0 0)),.int 0],.dat 200 26 (x.lines.map Cn),.dat 57 1 (aS L)]
structure OI (x:bR) (L:List (List Int)):Prop where
 right:cm x.c x.s
 jn:qC x.j
 rcs:rK L
 us:x.j.us=cT L
def bR.vP (x:bR) (o:dH):Bool:=decide ((bC x.c x.s o).2=0)&&!(x.j.room (dm o).length)&&!(decide (x.j.aX=x.j.cnt∨dB x.j.l 0 (x.j.n / 4) (e7 x.s) x.j.cnt≠0))
def bR.rF (x:bR) (o:dH) (L:List (List Int)):List (List Int):=if x.vP o=true then [] else L
def bR.CH (x:bR) (o:dH) (L:List (List Int)):Option (List (List Int)):=if x.vP o=true then some L else none
theorem rK.nil:rK []:=⟨fun p hp=>(by cases hp),Nat.zero_le _⟩
set_option maxHeartbeats 2000000 in
theorem Jv (x:bR) (L:List (List Int)) (h:OI x L) (o:dH):br Tryz.prog G 124 [.ptr 0 0,rS o] (o4 x L none) (.int (x.ew o)) (o4 { x with j:=x.ec o } (x.rF o L) (x.CH o L)):=by
 have hap:=sZ (G:=G) x.c x.s o h.right
 rw [← vD h.right o] at hap
 have Io:=u7 (G:=G) o
 have iZ:=HK o
 have hjn:=h.jn
 have vZ:=AD (G:=G) x.j.n x.j.l x.j.s x.j.cnt x.j.aX L h.rcs hjn.len hjn.size.2 (by rw [← h.us]; exact hjn.used) (dm o).length (by omega)
 rw [← h.us] at vZ
 have hE:x.ew o=if (bC x.c x.s o).2≠0 then (bC x.c x.s o).2 else if (x.Fw o).room (dm o).length=true then 0 else 3:=rfl
 have hJ:x.ec o=if (bC x.c x.s o).2≠0 then x.j else x.Fw o:=rfl
 simp only [bz,rS] at hap Io
 simp only [p6,af] at vZ Io
 by_cases he:(bC x.c x.s o).2=0
 case neg=>
  have hpk:x.vP o=false:=by unfold bR.vP; rw [decide_eq_false he]; rfl
  rw [hE,hJ,if_pos he,if_pos he]
  unfold bR.rF bR.CH
  rw [hpk,if_neg Bool.false_ne_true,if_neg Bool.false_ne_true]
  generalize (bC x.c x.s o).1=t at *
  generalize (bC x.c x.s o).2=e at *
  refine aY Tryz.func124 (by decide) xm rfl rfl rfl rfl ?_
  simp only [o4,rG,Er,go_sem,simprocAttr]
  refine bA (hap) rfl rfl rfl rfl ?_; simp only [go_sem,simprocAttr]
  refine az rfl ?_
  simp only [show (e !=0)=true from bne_iff_ne.2 he,go_sem,simprocAttr]
 have X5:¬ (bC x.c x.s o).2≠0:=by simp [he]
 rw [if_neg X5] at hE hJ
 rw [he] at hap
 have hpk:x.vP o=(!(x.j.room (dm o).length)&&!(decide (x.j.aX=x.j.cnt∨dB x.j.l 0 (x.j.n / 4) (e7 x.s) x.j.cnt≠0))):=by unfold bR.vP; rw [decide_eq_true he,Bool.true_and]
 have hro:x.j.room (dm o).length=fU x.j.n x.j.us x.j.cnt (dm o).length:=rfl
 rw [← hro] at vZ
 unfold bR.Fw at hE hJ
 cases hrm:x.j.room (dm o).length with
 | true=>
   rw [hrm] at vZ hE hJ hpk
   rw [if_pos rfl] at hE hJ
   rw [hrm,if_pos rfl] at hE
   rw [hE,hJ]
   unfold bR.rF bR.CH
   rw [hpk,Bool.not_true,Bool.false_and,if_neg Bool.false_ne_true,if_neg Bool.false_ne_true]
   generalize (bC x.c x.s o).1=t at *
   refine aY Tryz.func124 (by decide) xm rfl rfl rfl rfl ?_
   simp only [o4,rG,Er,go_sem,simprocAttr]
   refine bA (hap) rfl rfl rfl rfl ?_; simp only [go_sem,simprocAttr]
   refine az rfl ?_
   simp only [bne_self_eq_false,go_sem,simprocAttr]
   refine av (Io) rfl rfl rfl rfl ?_; simp only [go_sem,simprocAttr]
   simp only [aj,go_sem,simprocAttr]
   refine dI [1,2,3,4,5,6] (vZ) rfl ?_ (by decide) ?_ ?_ ?_ <;> simp only [aa,ah,go_sem,simprocAttr]
   refine dI [1,2,3,4,5,6] (vZ) rfl ?_ (by decide) ?_ ?_ ?_ <;> simp only [aa,ah,go_sem,simprocAttr]
 | false=>
 rw [hrm] at vZ hE hJ hpk
 rw [if_neg Bool.false_ne_true] at hE hJ
 rw [Bool.not_false,Bool.true_and] at hpk
 have hput:=DO (G:=G) x.s (by have:=h.right.len; omega) (by have:=h.right.jobs; omega)
 simp only [bz,af] at hput
 by_cases hc:x.j.aX=x.j.cnt∨dB x.j.l 0 (x.j.n / 4) (e7 x.s) x.j.cnt≠0
 ·have VJ:x.j.pack (e7 x.s)=x.j:=by unfold iB.pack; rw [if_pos hc]
  have Is:=rY (G:=G) x.j.n x.j.l x.j.s x.j.cnt x.j.aX L (e7 x.s) hjn.len hjn.size hjn.OA (nh _) (by have:=B7 x.s; omega) hc
  rw [VJ,hrm,if_neg Bool.false_ne_true] at hE
  rw [VJ] at hJ
  rw [hE,hJ]
  rw [decide_eq_true hc] at hpk
  unfold bR.rF bR.CH
  rw [hpk,Bool.not_true,if_neg Bool.false_ne_true,if_neg Bool.false_ne_true]
  generalize (bC x.c x.s o).1=t at *
  simp only [p6,af] at Is
  refine aY Tryz.func124 (by decide) xm rfl rfl rfl rfl ?_
  simp only [o4,rG,Er,go_sem,simprocAttr]
  refine bA (hap) rfl rfl rfl rfl ?_; simp only [go_sem,simprocAttr]
  refine az rfl ?_
  simp only [bne_self_eq_false,go_sem,simprocAttr]
  refine av (Io) rfl rfl rfl rfl ?_; simp only [go_sem,simprocAttr]
  simp only [aj,go_sem,simprocAttr]
  refine dI [1,2,3,4,5,6] (vZ) rfl ?_ (by decide) ?_ ?_ ?_ <;> simp only [aa,ah,go_sem,simprocAttr]
  refine bA (hput) rfl rfl rfl rfl ?_; simp only [go_sem,simprocAttr]
  refine iM [1,2,3,4,5,6] (Is) rfl ?_ (by decide) ?_ ?_ ?_ <;> simp only [aa,ah,go_sem,simprocAttr]
  refine dI [1,2,3,4,5,6] (vZ) rfl ?_ (by decide) ?_ ?_ ?_ <;> simp only [aa,ah,go_sem,simprocAttr]
 ·have hp2:x.j.pack (e7 x.s) = { x.j with l:=qw x.j.n x.j.l (e7 x.s) x.j.cnt,s:=IntKind.i64.wrap (IntKind.i64.wrap (IntKind.i64.wrap (x.j.s+1)+1)+1),aX:=x.j.cnt,us:=0 }:=by unfold iB.pack; rw [if_neg hc]
  have hjp:=hjn.pack (nh x.s)
  rw [hp2] at hE hJ hjp
  have Is:=ux (G:=G) x.j.n x.j.l x.j.s x.j.cnt x.j.aX L (e7 x.s) hjn.len hjn.size hjn.OA (nh _) (by have:=B7 x.s; omega) (fun h=>hc (.inl h)) (by simpa using fun h=>hc (.inr h))
  have vn:=AD (G:=G) x.j.n (qw x.j.n x.j.l (e7 x.s) x.j.cnt) (IntKind.i64.wrap (IntKind.i64.wrap (IntKind.i64.wrap (x.j.s+1)+1)+1)) x.j.cnt x.j.cnt [] rK.nil hjp.len hjn.size.2 (Nat.zero_le _) (dm o).length (by omega)
  rw [show cT []=0 from rfl] at vn
  unfold iB.room at hE
  dsimp only at hE
  generalize fU x.j.n 0 x.j.cnt (dm o).length=rb at *
  rw [hE,hJ]
  rw [decide_eq_false hc] at hpk
  unfold bR.rF bR.CH
  rw [hpk,Bool.not_false,if_pos rfl,if_pos rfl]
  generalize (bC x.c x.s o).1=t at *
  simp only [p6,WK,af] at Is
  simp only [p6,aS,List.map_nil,List.length_nil] at vn
  refine bD Tryz.func124 (by decide) xm rfl ?_
  simp only [o4,rG,Er,go_sem,simprocAttr]
  refine bA (hap) rfl rfl rfl rfl ?_; simp only [go_sem,simprocAttr]
  refine az rfl ?_
  simp only [bne_self_eq_false,go_sem,simprocAttr]
  refine av (Io) rfl rfl rfl rfl ?_; simp only [go_sem,simprocAttr]
  simp only [aj,go_sem,simprocAttr]
  refine dI [1,2,3,4,5,6] (vZ) rfl ?_ (by decide) ?_ ?_ ?_ <;> simp only [aa,ah,go_sem,simprocAttr]
  refine bA (hput) rfl rfl rfl rfl ?_; simp only [go_sem,simprocAttr]
  refine dS [1,2,3,4,5,6] (Is) rfl ?_ (by decide) ?_ ?_ (by simp) ?_ <;> simp only [aa,ah,go_sem,simprocAttr]
  refine az rfl ?_
  simp only [go_sem,simprocAttr]
  cases rb with
  | true=>
    refine dI [1,2,3,4,5,11] (vn) rfl ?_ (by decide) ?_ ?_ ?_ <;> simp only [aa,ah,go_sem,simprocAttr]
    refine bM [] [0,1,2,3,4,5,6,7,8,11] [] (vs:=[.int 0]) rfl rfl (by decide) (by simp) (by simp) rfl rfl ?_
    simp [aF,ah,LV.int]
  | false=>
    refine dI [1,2,3,4,5,11] (vn) rfl ?_ (by decide) ?_ ?_ ?_ <;> simp only [aa,ah,go_sem,simprocAttr]
    refine bM [] [0,1,2,3,4,5,6,7,8,11] [] (vs:=[.int 3]) rfl rfl (by decide) (by simp) (by simp) rfl rfl ?_
    simp [aF,ah,LV.int]
theorem Mm {x:bR} {L:List (List Int)} (h:OI x L) (o:dH):(x.ec o).us=cT (x.rF o L):=by
 unfold bR.ec bR.Fw bR.rF
 by_cases he:(bC x.c x.s o).2=0
 ·rw [if_neg (by simp [he])]
  unfold bR.vP
  rw [decide_eq_true he,Bool.true_and]
  cases x.j.room (dm o).length with
  | true=>rw [if_pos rfl,Bool.not_true,Bool.false_and,if_neg Bool.false_ne_true]; exact h.us
  | false=>
    rw [if_neg Bool.false_ne_true,Bool.not_false,Bool.true_and]
    unfold iB.pack
    by_cases hc:x.j.aX=x.j.cnt∨dB x.j.l 0 (x.j.n / 4) (e7 x.s) x.j.cnt≠0
    ·rw [if_pos hc,decide_eq_true hc,Bool.not_true,if_neg Bool.false_ne_true]; exact h.us
    ·rw [if_neg hc,decide_eq_false hc,Bool.not_false,if_pos rfl]; rfl
 ·rw [if_pos he]
  unfold bR.vP
  rw [decide_eq_false he,Bool.false_and,Bool.false_and,if_neg Bool.false_ne_true]; exact h.us
theorem Od {x:bR} {L:List (List Int)} (h:OI x L) (o:dH):rK (x.rF o L):=by
 unfold bR.rF
 split
 ·exact rK.nil
 ·exact h.rcs
def bR.D8 (x:bR) (o:dH) (L:List (List Int)):List (List Int):=if x.ew o=0 then x.rF o L++[aQ (x.ec o).cnt++dm o] else x.rF o L
theorem xF (L:List (List Int)) (p:List Int):cT (L++[p])=cT L+(cZ p).length:=by unfold cT; simp
set_option maxHeartbeats 2000000 in
theorem JG (x:bR) (L:List (List Int)) (h:OI x L) (hL:L.length≤90000) (now:Int):br Tryz.prog G 105 [.ptr 0 0,rS aZ,.int now] (o4 x L none) (.int (x.ew aZ)) (o4 (x.cU aZ now) (x.D8 aZ L) (x.CH aZ L)):=by
 have hrm:=Jv (G:=G) x L h aZ
 have Io:=u7 (G:=G) aZ
 have hap:=sZ (G:=G) x.c x.s aZ h.right
 rw [← vD h.right aZ] at hap
 have hj1:qC (x.ec aZ):=by
  unfold bR.ec bR.Fw
  split
  ·exact h.jn
  split
  ·exact h.jn
  ·exact h.jn.pack (nh _)
 have qX:=Mm h aZ
 have hrc:=Od h aZ
 have OV:(x.ec aZ).n=x.j.n:=by
  unfold bR.ec bR.Fw
  split
  ·rfl
  split
  ·rfl
  ·exact iB.B9 _ _
 by_cases he:x.ew aZ=0
 case neg=>
  have hx:x.cU aZ now = { x with j:=x.ec aZ }:=by unfold bR.cU; rw [if_neg he]
  have hl:x.D8 aZ L=x.rF aZ L:=by unfold bR.D8; rw [if_neg he]
  rw [hx,hl]
  generalize x.ec aZ=J at *
  generalize x.ew aZ=e at *
  generalize x.rF aZ L=L1 at *
  generalize x.CH aZ L=g at *
  simp only [aZ,rS] at hrm
  cases g with
  | none=>
    simp only [o4,rG,OV] at hrm
    refine bD Tryz.func105 (by decide) xq rfl ?_
    simp only [o4,rG,OV,aZ,Es,go_sem,simprocAttr]
    refine au [0,1,2,3,4,5,6,7,8] (hrm) rfl ?_ (by decide) ?_ ?_ (by simp) ?_ <;> simp only [aa,ah,go_sem,simprocAttr]
    simp only [show (e !=0)=true from bne_iff_ne.2 he,go_sem,simprocAttr]
    refine bM [] [0,1,2,3,4,5,6,7,8] [] (vs:=[.int e]) rfl rfl (by decide) (by simp) (by simp) rfl rfl ?_
    simp [aF,ah,LV.int]
  | some L0=>
    simp only [o4,rG,OV] at hrm
    refine bD Tryz.func105 (by decide) xq rfl ?_
    simp only [o4,rG,OV,aZ,Es,go_sem,simprocAttr]
    refine au [0,1,2,3,4,5,6,7,8] (hrm) rfl ?_ (by decide) ?_ ?_ (by simp) ?_ <;> simp only [aa,ah,go_sem,simprocAttr]
    simp only [show (e !=0)=true from bne_iff_ne.2 he,go_sem,simprocAttr]
    refine bM [] [0,1,2,3,4,5,6,7,8,10] [] (vs:=[.int e]) rfl rfl (by decide) (by simp) (by simp) rfl rfl ?_
    simp [aF,ah,LV.int]
 obtain ⟨h1,h2,h3⟩:=zg he
 have hx:x.cU aZ now = { x with j:=(x.ec aZ).add (dm aZ),s:=(bC x.c x.s aZ).1,gx:=IntKind.i64.wrap (x.gx+1) }:=by
  unfold bR.cU
  rw [if_pos he]
  rfl
 have hl:x.D8 aZ L=x.rF aZ L++[aQ (x.ec aZ).cnt++dm aZ]:=by unfold bR.D8; rw [if_pos he]
 rw [hx,hl,he]
 rw [he] at hrm
 rw [h1] at hap
 generalize (bC x.c x.s aZ).1=t at *
 generalize hJe:x.ec aZ=J at *
 have hsz:=hj1.size
 have GJ:=wv (G:=G) J.n J.l J.s J.cnt J.aX (x.rF aZ L) hrc hj1.len (by omega) (by rw [← qX]; exact hj1.used) (dm aZ) (DM _) (by rw [← qX]; exact h2)
 rw [← qX] at GJ
 generalize x.rF aZ L=L1 at *
 generalize x.CH aZ L=g at *
 simp only [p6,af,List.length_append,List.length_cons,List.length_nil] at GJ
 simp only [af] at Io
 simp only [bz] at hap
 simp only [aZ,rS] at hrm Io hap
 generalize hpb:dm ⟨21,0,0,0,0,0,0⟩=pb at *
 have XL:dm aZ=pb:=hpb
 rw [XL] at GJ
 cases g with
 | none=>
   simp only [o4,rG,OV] at hrm
   refine bD Tryz.func105 (by decide) xq rfl ?_
   simp only [o4,rG,iB.add,OV,XL,hpb,List.length_append,aZ,Es,go_sem,simprocAttr]
   refine au [0,1,2,3,4,5,6,7,8] (hrm) rfl ?_ (by decide) ?_ ?_ (by simp) ?_ <;> simp only [aa,ah,go_sem,simprocAttr]
   refine bA (Io) rfl rfl rfl rfl ?_; simp only [go_sem,simprocAttr]
   rw [OV] at GJ
   refine dS [1,2,3,4,5,6] (GJ) rfl ?_ (by decide) ?_ ?_ (by simp) ?_ <;> simp only [aa,ah,go_sem,simprocAttr]
   refine az rfl ?_
   simp only [go_sem,simprocAttr]
   refine bA (hap) rfl rfl rfl rfl ?_; simp only [go_sem,simprocAttr]
   refine az rfl ?_
   simp only [go_sem,simprocAttr]
   refine bM [] [0,1,2,3,4,5,6,7,8] [] (vs:=[.int 0]) rfl rfl (by decide) (by simp) (by simp) rfl rfl ?_
   simp [aF,ah,LV.int]
 | some L0=>
   simp only [o4,rG,OV] at hrm
   refine bD Tryz.func105 (by decide) xq rfl ?_
   simp only [o4,rG,iB.add,OV,XL,hpb,List.length_append,aZ,Es,go_sem,simprocAttr]
   refine au [0,1,2,3,4,5,6,7,8] (hrm) rfl ?_ (by decide) ?_ ?_ (by simp) ?_ <;> simp only [aa,ah,go_sem,simprocAttr]
   refine bA (Io) rfl rfl rfl rfl ?_; simp only [go_sem,simprocAttr]
   rw [OV] at GJ
   refine dS [1,2,3,4,5,10] (GJ) rfl ?_ (by decide) ?_ ?_ (by simp) ?_ <;> simp only [aa,ah,go_sem,simprocAttr]
   refine az rfl ?_
   simp only [go_sem,simprocAttr]
   refine bA (hap) rfl rfl rfl rfl ?_; simp only [go_sem,simprocAttr]
   refine az rfl ?_
   simp only [go_sem,simprocAttr]
   refine bM [] [0,1,2,3,4,5,6,7,8,10] [] (vs:=[.int 0]) rfl rfl (by decide) (by simp) (by simp) rfl rfl ?_
   simp [aF,ah,LV.int]
end Dv
set_option maxRecDepth 100000
namespace Dv
open Go Go.Proofs
variable {G:Nat→Option (List DV)}
def XA:=qx Tryz.f38
theorem MW:aq Tryz.prog Tryz.f38=some XA:=by kernel_rfl
def IJ (x:bR):aG:=.box 81 [.int x.c.nodes,.int x.c.bn,.int x.c.cv,.int x.c.gJ,.int x.c.eF,.int x.c.eE,.int x.c.deadline,.int x.c.room,.int x.c.gq,.ptr 0 0,.ptr 5 0,.ptr 2 0,bK x.s.nodes,cA x.s.jobs,.int x.s.goal,.int x.s.bH,.int x.s.mode,.int x.s.term,.sl 4 x.lines.length 26 0 x.lines.length,.int x.gx]
def CX (x:bR) (term:Int) (L:List (List Int)):List aG:=[.box 152 [.sl 1 x.j.n 1 0 x.j.n,.d (.val (.slice none 0 0)),.d (.val (.slice none 0 0)),.int x.j.s],.dat 5 1 (ak x.j.l),.box 112 [.int x.room,.int term,.d (.val (.slice none 0 0)),.int 0],IJ x,.dat 200 26 (x.lines.map Cn),.box 177 [.ptr 6 0,.ptr 7 0,.int x.j.cnt,.int x.j.aX],.box 252 [.ptr 0 0,.int 0,.int ((x.j.n / 4:Nat):Int)],.box 179 [.ptr 0 0,.int ((2*(x.j.n / 4):Nat):Int),.int ((x.j.n-2*(x.j.n / 4):Nat):Int),.sl 8 L.length 1 0 L.length],.dat 57 1 (aS L)]
def wB (l:List Int) (n:Nat):List (List Int):=if F8 l n=true then [] else tK l n
theorem AP (n:Nat) (l:List Int) (s:Int) (hn:64≤n∧n≤65536) (hl:l.length=n) (hb:bP l):br Tryz.prog G 30 [.ptr 0 0] (lC l s) (.dM [.ptr 2 0,af (jI (jB l n)),.d (.dN 1 (aS (mP l n))),.bool true]) (Zd n (gQ l n s).l (gQ l n s).s (gQ l n s).cnt (gQ l n s).aX (wB l n)):=by
 have h:=JA (G:=G) n l s hn hl hb _ _ _ _ _ _ rfl rfl rfl rfl rfl rfl
 unfold gQ F8 wB
 by_cases hE:vz (tK l n) (dO (jB l n))=true
 ·have X5:F8 l n=true:=hE
  rw [if_pos (show vz (tK l n) (dO (gR (mQ l n) 0 (n / 4)))=true from hE)] at h
  simp only [hE,X5,if_true]
  exact h
 ·have X5:¬ F8 l n=true:=hE
  rw [if_neg (show ¬ vz (tK l n) (dO (gR (mQ l n) 0 (n / 4)))=true from hE)] at h
  simp only [hE,X5,if_false]
  exact h
theorem GK {b:List Int} (hb:∀ c∈b,0≤c∧c≤255) {a:Nat} (h:(ck b a).2.2=1):∃ p,ck b a=(p,a+(cZ p).length,1)∧cZ p=(b.drop a).take (cZ p).length∧a+(cZ p).length≤b.length:=by
 have ha:¬ a>b.length:=fun h1=>by unfold ck at h; rw [if_pos h1] at h; simp at h
 have h0:¬ (a=b.length∨b.getD a 0=0):=fun h1=>by unfold ck at h; rw [if_neg ha,if_pos h1] at h; simp at h
 cases hq:eZ b a with
 | none=>unfold ck at h; rw [if_neg ha,if_neg h0,hq] at h; simp at h
 | some q=>
   obtain ⟨n,fr⟩:=q
   obtain ⟨g1,g2,g3⟩:=EH hb (show a<b.length by omega) (fun e=>h0 (.inr e)) hq
   by_cases hc:4000<n∨n>(b.length:Int)-fr
   ·rw [g2 hc] at h; simp at h
   ·obtain ⟨g4,g5⟩:=g3 (by omega) (by omega) _ rfl
    by_cases hd:(cZ ((b.drop fr).take n.toNat)).length>b.length-a∨cZ ((b.drop fr).take n.toNat)≠(b.drop a).take (cZ ((b.drop fr).take n.toNat)).length
    ·rw [g5,if_pos hd] at h; simp at h
    ·rw [if_neg hd] at g5
     exact ⟨_,g5,Decidable.not_not.1 fun e=>hd (.inr e),by omega⟩
theorem Oa {b:List Int} (hb:∀ c∈b,0≤c∧c≤255) {a:Nat} (h:(ck b a).2.2=1):(ck b a).2.1=a+(cZ (ck b a).1).length:=by
 obtain ⟨p,h1,_⟩:=GK hb h
 rw [h1]
theorem BF {b:List Int} (hb:∀ c∈b,0≤c∧c≤255):∀ (f:Nat) (l:List (List Int)) (a:Nat),cT (rJ b f l a).1+a=cT l+(rJ b f l a).2
 | 0,l,a=>rfl
 | f+1,l,a=>by
   unfold rJ
   by_cases h1:(ck b a).2.2=1
   ·rw [if_pos h1]
    have:=BF hb f (l++[(ck b a).1]) (ck b a).2.1
    rw [xF] at this
    have hl:(ck b a).2.1=a+(cZ (ck b a).1).length:=Oa hb h1
    omega
   ·rw [if_neg h1]
theorem Mr {l:List Int} {n:Nat} (s:Int) (hl:l.length=n) (hb:bP l):(gQ l n s).us=cT (wB l n):=by
 unfold gQ wB
 by_cases hE:F8 l n=true
 ·rw [if_pos hE,if_pos hE]; rfl
 ·rw [if_neg hE,if_neg hE]
  have:=BF (tv (fr:=2*(n / 4)) (sz:=n-2*(n / 4)) hb) (n-2*(n / 4)+1) [] 0
  show (gL l (2*(n / 4)) (n-2*(n / 4))).2=cT (gL l (2*(n / 4)) (n-2*(n / 4))).1
  unfold gL
  rw [show cT []=0 from rfl] at this
  omega
def Tc (c:aI) (j:iB) (L:List (List Int)) (room term:Int) (now:Int) (st:ai) (k:Nat):St:=⟨[(2,.ptr 2 0),(3,.int now),(4,.ptr 3 0),(16,.ptr 9 0),(17,.int k)],
 [some (.box 152 [.sl 1 j.n 1 0 j.n,.d (.val (.slice none 0 0)),.d (.val (.slice none 0 0)),.int j.s]),some (.dat 5 1 (ak j.l)),some (.box 112 [.int room,.int term,.d (.val (.slice none 0 0)),.int 0]),some (wK c),
  some (.box 177 [.ptr 5 0,.ptr 6 0,.int j.cnt,.int j.aX]),some (.box 252 [.ptr 0 0,.int 0,.int ((j.n / 4:Nat):Int)]),some (.box 179 [.ptr 0 0,.int ((2*(j.n / 4):Nat):Int),.int ((j.n-2*(j.n / 4):Nat):Int),.sl 7 L.length 1 0 L.length]),some (.dat 57 1 (aS L)),
  some (ez st),
  some (.box 81 [.int c.nodes,.int c.bn,.int c.cv,.int c.gJ,.int c.eF,.int c.eE,.int c.deadline,.int c.room,.int c.gq,.ptr 0 0,.ptr 4 0,.ptr 2 0,bK st.nodes,cA st.jobs,.int st.goal,.int st.bH,.int st.mode,.int st.term,.sl 10 k 26 0 k,.int 0]),
  some (.dat 200 26 ((List.replicate k (Lw now)).map Cn))]⟩
def wL (c:aI) (st:ai) (y:bR) (room term:Int) (L2:List (List Int)) (ri:Nat) (r7:List (List Int)) (rest:List (Option aG)) (k:Nat):St:=⟨[(2,.ptr 2 0),(16,.ptr 9 0),(19,.int ((k+1:Nat):Int))],
 [some (.box 152 [.sl 1 y.j.n 1 0 y.j.n,.d (.val (.slice none 0 0)),.d (.val (.slice none 0 0)),.int y.j.s]),some (.dat 5 1 (ak y.j.l)),some (.box 112 [.int room,.int term,.d (.val (.slice none 0 0)),.int 0]),some (wK c),
  some (.box 177 [.ptr 5 0,.ptr 6 0,.int y.j.cnt,.int y.j.aX]),some (.box 252 [.ptr 0 0,.int 0,.int ((y.j.n / 4:Nat):Int)]),some (.box 179 [.ptr 0 0,.int ((2*(y.j.n / 4):Nat):Int),.int ((y.j.n-2*(y.j.n / 4):Nat):Int),.sl ri L2.length 1 0 L2.length]),some (.dat 57 1 (aS r7)),
  some (ez st),
  some (.box 81 [.int c.nodes,.int c.bn,.int c.cv,.int c.gJ,.int c.eF,.int c.eE,.int c.deadline,.int c.room,.int c.gq,.ptr 0 0,.ptr 4 0,.ptr 2 0,bK y.s.nodes,cA y.s.jobs,.int y.s.goal,.int y.s.bH,.int y.s.mode,.int y.s.term,.sl 10 y.lines.length 26 0 y.lines.length,.int y.gx]),
  some (.dat 200 26 (y.lines.map Cn))]++rest⟩
def CW (c:aI) (l:List Int) (n:Nat) (s room term now:Int):LV×List aG:=match lI c (jI (jB l n)) (mP l n) with
 | none=>(.dM [eL,.int 2],lC (gQ l n s).l (gQ l n s).s++fH room term)
 | some st=>if (cr c (gQ l n s) room term [] 0 now st).ew aZ=0 then (.dM [.ptr 3 0,.int 0],CX ((cr c (gQ l n s) room term [] 0 now st).cU aZ now) (if ((cr c (gQ l n s) room term [] 0 now st).cU aZ now).s.term>term then ((cr c (gQ l n s) room term [] 0 now st).cU aZ now).s.term else term) ((cr c (gQ l n s) room term [] 0 now st).D8 aZ (wB l n))) else (.dM [eL,.int ((cr c (gQ l n s) room term [] 0 now st).ew aZ)],lC ((cr c (gQ l n s) room term [] 0 now st).cU aZ now).j.l ((cr c (gQ l n s) room term [] 0 now st).cU aZ now).j.s++fH room term)
theorem Ca {l:List Int} {n:Nat} (hn:n≤65536) (hl:l.length=n) (hb:bP l):rK (wB l n)∧(wB l n).length≤65536:=by
 have hro:=qO hb (fr:=2*(n / 4)) (sz:=n-2*(n / 4)) (by omega)
 unfold wB
 split
 ·exact ⟨rK.nil,Nat.zero_le _⟩
 ·unfold tK
  exact ⟨⟨fun p hp=>⟨(hro.2.2 p hp).1,by have:=(hro.2.2 p hp).2; omega⟩,by have:=hro.2.1; omega⟩,by have:=hro.2.1; omega⟩
set_option maxHeartbeats 4000000 in
theorem Le (c:aI) (hm:iH c=true) (n:Nat) (hn:64≤n∧n≤65536) (l:List Int) (hl:l.length=n) (hb:bP l) (s room term now:Int) (Nt:0≤now∧now≤1000000):br Tryz.prog G 38 [f_ c,.ptr 0 0,.ptr 2 0,.int now] (lC l s++fH room term) (CW c l n s room term now).1 (CW c l n s room term now).2:=by
 have hmay:=tS (G:=G) c
 rw [hm] at hmay
 have hop:=AP (G:=G) n l s hn hl hb
 have hq:=HL hl hb
 have ho:=HM hl hb
 have hrd:=Jx (G:=G) c hm (jI (jB l n)) (mP l n) hq.1 (by omega) (fun b h=>⟨(ho.1 b h).1,by have:=(ho.1 b h).2; omega⟩) (by omega)
 have hre:=Mh c (jI (jB l n)) (mP l n)
 have YB:=fun t (h:lI c (jI (jB l n)) (mP l n)=some t)=>pO hm h
 have hj:=w9 s hn hl hb
 have hjn:=Cb l n s
 have qX:=Mr s hl hb
 have hX:=Ca hn.2 hl hb
 unfold CW
 generalize lI c (jI (jB l n)) (mP l n)=R at *
 generalize vN c (jI (jB l n)) (mP l n)=RR at *
 generalize gQ l n s=j at *
 generalize jI (jB l n)=eR at *
 generalize mP l n=ops at *
 generalize wB l n=L at *
 clear hq ho
 subst hjn
 have hjl:=hj.len
 obtain ⟨st,ok⟩:=RR
 simp only [lC,Zd,af,hl] at hop
 simp only [af,bz] at hrd
 refine bD Tryz.func38 (by decide) MW rfl ?_
 simp only [lC,fH,fV,hl,hjl,XA,go_sem,simprocAttr]
 refine av (hmay) rfl rfl rfl rfl ?_; simp only [go_sem,simprocAttr]
 simp only [decide_eq_false (show ¬ now<0 by omega),decide_eq_false (show ¬ now>1000000 by omega),go_sem,simprocAttr]
 refine au [0,1] (hop) rfl ?_ (by decide) ?_ ?_ (by simp) ?_ <;> simp only [aa,ah,go_sem,simprocAttr]
 refine av (hrd) rfl rfl rfl rfl ?_; simp only [go_sem,simprocAttr]
 cases ok with
 | false=>
   have hR:R=none:=by rw [hre]; rfl
   subst hR
   simp only [hjl,go_sem,simprocAttr]
   exact bM [] [0,1,2] [] (vs:=[eL,.int 2]) rfl rfl (by decide) (by simp) (by simp) rfl rfl (by simp [aF,ah,aa,eL,LV.int])
 | true=>
 have hR:R=some st:=by rw [hre]; rfl
 subst hR
 have hr:=YB st rfl
 have hx:OI (cr c j room term [] 0 now st) L:=⟨hr,hj,hX.1,qX⟩
 have v8:=JG (G:=G) _ L hx (by omega) now
 have hjn:=xk (cr c j room term [] 0 now st) aZ now
 have hnl:st.nodes.length≤6:=hr.len.2
 have XY:=hr.nodes
 have Sl:cm c ((cr c j room term [] 0 now st).cU aZ now).s:=by
  unfold bR.cU
  split
  ·exact mF hr aZ
  ·exact hr
 have hyf:((cr c j room term [] 0 now st).cU aZ now).room=room∧((cr c j room term [] 0 now st).cU aZ now).term=term∧((cr c j room term [] 0 now st).cU aZ now).c=c∧((cr c j room term [] 0 now st).cU aZ now).lines.length=st.nodes.length:=by
  unfold bR.cU
  split <;> simp [cr,mG,aZ]
 have Nc:((cr c j room term [] 0 now st).cU aZ now).lines=List.replicate st.nodes.length (Lw now):=by
  unfold bR.cU
  split <;> simp [cr,mG,aZ]
 have hyj:((cr c j room term [] 0 now st).cU aZ now).j.l.length=j.n:=by
  have h1:Tk (cr c j room term (List.replicate 25 vL) 0 now st):=zG hr hj List.length_replicate
  have h2:=(h1.note aZ now).jn.len
  have h3:=xk (cr c j room term (List.replicate 25 vL) 0 now st) aZ now
  have h4:((cr c j room term (List.replicate 25 vL) 0 now st).cU aZ now).j=((cr c j room term [] 0 now st).cU aZ now).j:=by
   unfold bR.cU
   have:(cr c j room term (List.replicate 25 vL) 0 now st).ew aZ=(cr c j room term [] 0 now st).ew aZ:=rfl
   rw [this]
   split <;> rfl
  rw [h4] at h2 h3
  rw [h2,h3]; rfl
 dsimp only
 generalize hy:(cr c j room term [] 0 now st).cU aZ now=y at *
 generalize (cr c j room term [] 0 now st).ew aZ=e at *
 generalize (cr c j room term [] 0 now st).D8 aZ L=L2 at *
 generalize (cr c j room term [] 0 now st).CH aZ L=g at *
 obtain ⟨hy1,hy2,hy3,hy4⟩:=hyf
 have YG:=EO (G:=G) room term y.s.term
 simp only [cr] at hjn
 simp only [fH,fV] at YG
 simp only [rS,aZ] at v8
 simp only [go_sem,simprocAttr]
 refine aP [2,3,4,16,17] [.b 9 18 200 26] (fun k:Nat=>k≤st.nodes.length) (fun k=>st.nodes.length-k) (Tc c j L room term now st) 0 ?_ (Nat.zero_le _) (fun k hk=>?_)
 ·simp only [Tc,wK,ez,List.replicate_zero,Int.natCast_zero,go_sem,simprocAttr]
 simp only [Tc,wK,ez,go_sem,simprocAttr]
 by_cases hlt:k<st.nodes.length
 ·have gu:(List.replicate (k+1) (Lw now)).map Cn=(List.replicate k (Lw now)).map Cn++[Cn (Lw now)]:=by rw [List.replicate_succ',List.map_append]; rfl
  simp only [decide_eq_true (show ((k:Nat):Int)<c.nodes by omega),go_sem,simprocAttr]
  have rD:Cn (Lw now)=[i64 0,i64 0,i64 now,bl false,i64 0,i64 0,i64 0,i64 0,i64 0,i64 0,i64 0,i64 0,i64 0,i64 0,i64 0,i64 0,i64 0,i64 0,i64 0,i64 0,i64 0,i64 0,i64 0,i64 0,i64 0,i64 0]:=rfl
  have c1:(k+1)*208≤70368744177664:=by omega
  simp only [List.length_append,List.length_replicate,c1,go_sem,simprocAttr]
  refine aR (k+1) ?_ ?_ (show k+1≤st.nodes.length by omega) (show st.nodes.length-(k+1)<st.nodes.length-k by omega)
  ·simp only [go_sem,simprocAttr]
  ·simp only [ax (show k<9223372036854775807 by omega),gu,rD,List.length_replicate,List.length_append,Tc,wK,ez,go_sem,simprocAttr]
 obtain rfl:k=st.nodes.length:=by omega
 simp only [decide_eq_false (show ¬ ((st.nodes.length:Nat):Int)<c.nodes by omega),go_sem,simprocAttr]
 cases g with
 | none=>
   simp only [o4,rG,cr,hjn,hy1,hy2,hy3,hy4,Nc,List.length_replicate] at v8
   refine au [9,4,5,6,0,1,7,2,10] (v8) rfl ?_ (by decide) ?_ ?_ (by simp) ?_ <;> simp only [aa,ah,go_sem,simprocAttr,List.length_replicate]
   by_cases he:e=0
   case neg=>
    simp only [show (e !=0)=true from bne_iff_ne.2 he,if_neg he,hyj,go_sem,simprocAttr]
    exact bM [] [0,1,2] [] (vs:=[eL,.int e]) rfl rfl (by decide) (by simp) (by simp) rfl rfl (by simp [aF,ah,aa,eL,LV.int])
   subst he
   simp only [go_sem,simprocAttr]
   refine au [2] (YG) rfl ?_ (by decide) ?_ ?_ (by simp) ?_ <;> simp only [aa,ah,go_sem,simprocAttr]
   generalize (if y.s.term>term then y.s.term else term)=tm at *
   refine aP [2,16,19] [] (fun k:Nat=>k≤y.s.jobs.length) (fun k=>y.s.jobs.length-k) (wL c st y room tm L2 7 L2 []) 0 ?_ (Nat.zero_le _) (fun k hk=>?_)
   ·simp only [wL,wK,ez,hjn,Nc,List.length_replicate,Int.natCast_one,go_sem,simprocAttr]
   simp only [wL,wK,ez,go_sem,simprocAttr]
   have w1:=ax (show k+1<9223372036854775807 by have:=Sl.jobs; omega)
   have w2:IntKind.i64.wrap (((k+1:Nat):Int)-1)=(k:Int):=by have:=Sl.jobs; rw [aD (by omega) (by omega)]; omega
   by_cases hlt:k<y.s.jobs.length
   case neg=>
    obtain rfl:k=y.s.jobs.length:=by omega
    simp only [decide_eq_false (show ¬ ((y.s.jobs.length+1:Nat):Int)≤((y.s.jobs.length:Nat):Int) by omega),go_sem,simprocAttr]
    refine bM [] [0,1,2,9,10,4,5,6,7] [] (vs:=[.ptr 9 0,.int 0]) rfl rfl (by decide) (by simp) (by simp) ?_ rfl ?_
    ·simp only [CX,IJ,hy1,hy3,go_sem,simprocAttr]
    simp [aF,ah,aa,LV.int]
   have hg:=aB (f:=cQ) aK hlt
   have hep:=(Sl.num k hlt).cK
   generalize y.s.jobs.getD k aK=jb at *
   obtain ⟨q0,q1,q2,q3,q4,q5,ph,q7,q8,q9,q10,ep⟩:=jb
   simp only [cQ] at hg
   have hend:=Bv (G:=G) room tm ((k+1:Nat):Int)
   simp only [fH,fV] at hend
   simp only [decide_eq_true (show ((k+1:Nat):Int)≤((y.s.jobs.length:Nat):Int) by omega),w2,hg,go_sem,simprocAttr]
   by_cases h4:ph=4
   ·subst h4
    simp only [go_sem,simprocAttr]
    refine au [2] (hend) rfl ?_ (by decide) ?_ ?_ (by simp) ?_ <;> simp only [aa,ah,go_sem,simprocAttr]
    refine aR (k+1) ?_ ?_ (show k+1≤y.s.jobs.length by omega) (show y.s.jobs.length-(k+1)<y.s.jobs.length-k by omega)
    ·simp only [go_sem,simprocAttr]
    ·simp only [wL,wK,ez,w1,go_sem,simprocAttr]
   by_cases h0:ep>0
   ·have LD:=uy (G:=G) room tm ((k+1:Nat):Int) ep h0
    simp only [fH,fV] at LD
    simp only [show (ph==4)=false from beq_eq_false_iff_ne.2 h4,decide_eq_true h0,w2,hg,go_sem,simprocAttr]
    refine au [2] (LD) rfl ?_ (by decide) ?_ ?_ (by simp) ?_ <;> simp only [aa,ah,go_sem,simprocAttr]
    refine aR (k+1) ?_ ?_ (show k+1≤y.s.jobs.length by omega) (show y.s.jobs.length-(k+1)<y.s.jobs.length-k by omega)
    ·simp only [go_sem,simprocAttr]
    ·simp only [wL,wK,ez,w1,go_sem,simprocAttr]
   ·simp only [show (ph==4)=false from beq_eq_false_iff_ne.2 h4,decide_eq_false h0,w2,hg,go_sem,simprocAttr]
    refine aR (k+1) ?_ ?_ (show k+1≤y.s.jobs.length by omega) (show y.s.jobs.length-(k+1)<y.s.jobs.length-k by omega)
    ·simp only [go_sem,simprocAttr]
    ·simp only [wL,wK,ez,w1,go_sem,simprocAttr]
 | some L0=>
   simp only [o4,rG,cr,hjn,hy1,hy2,hy3,hy4,Nc,List.length_replicate] at v8
   refine au [9,4,5,6,0,1,7,2,10] (v8) rfl ?_ (by decide) ?_ ?_ (by simp) ?_ <;> simp only [aa,ah,go_sem,simprocAttr,List.length_replicate]
   by_cases he:e=0
   case neg=>
    simp only [show (e !=0)=true from bne_iff_ne.2 he,if_neg he,hyj,go_sem,simprocAttr]
    exact bM [] [0,1,2] [] (vs:=[eL,.int e]) rfl rfl (by decide) (by simp) (by simp) rfl rfl (by simp [aF,ah,aa,eL,LV.int])
   subst he
   simp only [go_sem,simprocAttr]
   refine au [2] (YG) rfl ?_ (by decide) ?_ ?_ (by simp) ?_ <;> simp only [aa,ah,go_sem,simprocAttr]
   generalize (if y.s.term>term then y.s.term else term)=tm at *
   refine aP [2,16,19] [] (fun k:Nat=>k≤y.s.jobs.length) (fun k=>y.s.jobs.length-k) (wL c st y room tm L2 11 L0 [some (.dat 57 1 (aS L2))]) 0 ?_ (Nat.zero_le _) (fun k hk=>?_)
   ·simp only [wL,wK,ez,hjn,Nc,List.length_replicate,Int.natCast_one,go_sem,simprocAttr]
   simp only [wL,wK,ez,go_sem,simprocAttr]
   have w1:=ax (show k+1<9223372036854775807 by have:=Sl.jobs; omega)
   have w2:IntKind.i64.wrap (((k+1:Nat):Int)-1)=(k:Int):=by have:=Sl.jobs; rw [aD (by omega) (by omega)]; omega
   by_cases hlt:k<y.s.jobs.length
   case neg=>
    obtain rfl:k=y.s.jobs.length:=by omega
    simp only [decide_eq_false (show ¬ ((y.s.jobs.length+1:Nat):Int)≤((y.s.jobs.length:Nat):Int) by omega),go_sem,simprocAttr]
    refine bM [] [0,1,2,9,10,4,5,6,11] [] (vs:=[.ptr 9 0,.int 0]) rfl rfl (by decide) (by simp) (by simp) ?_ rfl ?_
    ·simp only [CX,IJ,hy1,hy3,go_sem,simprocAttr]
    simp [aF,ah,aa,LV.int]
   have hg:=aB (f:=cQ) aK hlt
   have hep:=(Sl.num k hlt).cK
   generalize y.s.jobs.getD k aK=jb at *
   obtain ⟨q0,q1,q2,q3,q4,q5,ph,q7,q8,q9,q10,ep⟩:=jb
   simp only [cQ] at hg
   have hend:=Bv (G:=G) room tm ((k+1:Nat):Int)
   simp only [fH,fV] at hend
   simp only [decide_eq_true (show ((k+1:Nat):Int)≤((y.s.jobs.length:Nat):Int) by omega),w2,hg,go_sem,simprocAttr]
   by_cases h4:ph=4
   ·subst h4
    simp only [go_sem,simprocAttr]
    refine au [2] (hend) rfl ?_ (by decide) ?_ ?_ (by simp) ?_ <;> simp only [aa,ah,go_sem,simprocAttr]
    refine aR (k+1) ?_ ?_ (show k+1≤y.s.jobs.length by omega) (show y.s.jobs.length-(k+1)<y.s.jobs.length-k by omega)
    ·simp only [go_sem,simprocAttr]
    ·simp only [wL,wK,ez,w1,go_sem,simprocAttr]
   by_cases h0:ep>0
   ·have LD:=uy (G:=G) room tm ((k+1:Nat):Int) ep h0
    simp only [fH,fV] at LD
    simp only [show (ph==4)=false from beq_eq_false_iff_ne.2 h4,decide_eq_true h0,w2,hg,go_sem,simprocAttr]
    refine au [2] (LD) rfl ?_ (by decide) ?_ ?_ (by simp) ?_ <;> simp only [aa,ah,go_sem,simprocAttr]
    refine aR (k+1) ?_ ?_ (show k+1≤y.s.jobs.length by omega) (show y.s.jobs.length-(k+1)<y.s.jobs.length-k by omega)
    ·simp only [go_sem,simprocAttr]
    ·simp only [wL,wK,ez,w1,go_sem,simprocAttr]
   ·simp only [show (ph==4)=false from beq_eq_false_iff_ne.2 h4,decide_eq_false h0,w2,hg,go_sem,simprocAttr]
    refine aR (k+1) ?_ ?_ (show k+1≤y.s.jobs.length by omega) (show y.s.jobs.length-(k+1)<y.s.jobs.length-k by omega)
    ·simp only [go_sem,simprocAttr]
    ·simp only [wL,wK,ez,w1,go_sem,simprocAttr]
end Dv
namespace Dv
open Go Go.Proofs
variable {G:Nat→Option (List DV)}
theorem Dr:br Tryz.prog G 79 [eL] [] (.int 0) []:=by
 refine b_ Tryz.func79 (by decide) MU rfl rfl ?_
 simp only [Xy,go_sem,simprocAttr]
 simp only [eL,go_sem,simprocAttr]
theorem Fb (c:aI) (room term:Int) (sh:List oQ) (wr now:Int):br Tryz.prog G 37 [f_ c,eL,.ptr 0 0,.int now] (nS room term sh wr) (.dM [eL,.int 1]) (nS room term sh wr):=by
 have hmay:=qU (G:=G) c
 have hsz:=Dr (G:=G)
 simp only [eL] at hsz
 refine aY Tryz.func37 (by decide) Cq rfl rfl (nY _ _ _ _ _) rfl ?_
 simp only [eL,nS,M0,go_sem,simprocAttr]
 refine av (hmay) rfl rfl rfl rfl ?_; simp only [go_sem,simprocAttr]
 cases iH c with
 | false=>simp only [go_sem,simprocAttr]
 | true=>
   simp only [go_sem,simprocAttr]
   refine av (hsz) rfl rfl rfl rfl ?_; simp only [go_sem,simprocAttr]
theorem He (c:aI) (l:List Int) (s now:Int):br Tryz.prog G 37 [f_ c,.ptr 0 0,eL,.int now] (dR l s) (.dM [eL,.int 1]) (dR l s):=by
 have hmay:=qU (G:=G) c
 have hsz:=ij (G:=G) l s
 simp only [dR] at hsz
 refine aY Tryz.func37 (by decide) Cq rfl rfl rfl rfl ?_
 simp only [eL,dR,M0,go_sem,simprocAttr]
 refine av (hmay) rfl rfl rfl rfl ?_; simp only [go_sem,simprocAttr]
 cases iH c with
 | false=>simp only [go_sem,simprocAttr]
 | true=>
   simp only [go_sem,simprocAttr]
   refine dI [0,1] (hsz) rfl ?_ (by decide) ?_ ?_ ?_ <;> simp only [aa,ah,go_sem,simprocAttr]
   by_cases h:((l.length:Nat):Int)<64
   ·simp only [decide_eq_true h,go_sem,simprocAttr]
   ·simp only [decide_eq_false h,go_sem,simprocAttr]
theorem Fc (c:aI) (l:List Int) (s room term:Int) (sh:List oQ) (wr now:Int) (h:¬ (iH c=true∧0≤now∧now≤1000000)):br Tryz.prog G 37 [f_ c,.ptr 0 0,.ptr 2 0,.int now] (dR l s++nS room term sh wr) (.dM [eL,.int 1]) (dR l s++nS room term sh wr):=by
 have hmay:=qU (G:=G) c
 have hsz:=ij (G:=G) l s
 have VH:=Dm (G:=G) now
 have hid:(dR l s++nS room term sh wr).all (dQ (dR l s++nS room term sh wr).length)=true:=by
  rw [List.all_append,Bool.and_eq_true]
  exact ⟨rfl,nY _ _ _ _ _⟩
 simp only [dR] at hsz
 refine aY Tryz.func37 (by decide) Cq rfl rfl hid rfl ?_
 simp only [eL,dR,nS,M0,go_sem,simprocAttr]
 refine av (hmay) rfl rfl rfl rfl ?_; simp only [go_sem,simprocAttr]
 cases hm:iH c with
 | false=>simp only [go_sem,simprocAttr]
 | true=>
   rw [hm] at h
   rw [decide_eq_false (fun g=>h ⟨rfl,g⟩)] at VH
   simp only [go_sem,simprocAttr]
   refine dI [0,1] (hsz) rfl ?_ (by decide) ?_ ?_ ?_ <;> simp only [aa,ah,go_sem,simprocAttr]
   by_cases h64:((l.length:Nat):Int)<64
   ·simp only [decide_eq_true h64,go_sem,simprocAttr]
   ·simp only [decide_eq_false h64,go_sem,simprocAttr]
    refine av (VH) rfl rfl rfl rfl ?_; simp only [go_sem,simprocAttr]
theorem CY (c:aI) (l:List Int) (s room term now:Int) (h:¬ (iH c=true∧0≤now∧now≤1000000)):br Tryz.prog G 38 [f_ c,.ptr 0 0,.ptr 2 0,.int now] (lC l s++fH room term) (.dM [eL,.int 1]) (lC l s++fH room term):=by
 have hmay:=tS (G:=G) c
 refine aY Tryz.func38 (by decide) MW rfl rfl rfl rfl ?_
 simp only [eL,lC,fH,fV,XA,go_sem,simprocAttr]
 refine av (hmay) rfl rfl rfl rfl ?_; simp only [go_sem,simprocAttr]
 cases hm:iH c with
 | false=>simp only [go_sem,simprocAttr]
 | true=>
   rw [hm] at h
   by_cases h0:now<0
   ·simp only [decide_eq_true h0,go_sem,simprocAttr]
   ·simp only [decide_eq_false h0,decide_eq_true (show now>1000000 by by_cases h1:now>1000000; exact h1; exact absurd ⟨rfl,by omega,by omega⟩ h),go_sem,simprocAttr]
def iB.s7 (j:iB) (p:List Int):Int:=Dv.s7 j.n j.us j.cnt p
theorem J_ (j:iB) (h:qC j) (p:List Int) (he:j.s7 p≠0):br Tryz.prog G 33 [.ptr 0 0,af p] (jO j) (.int (j.s7 p)) (jO j):=by
 have hst:br Tryz.prog G 95 [.ptr 0 0,af p] (jO j) (.int (j.s7 p)) (jO j):=by
  unfold iB.s7 s7 at he ⊢
  split at he
  ·rename_i h1
   rw [if_pos h1]
   refine aY Tryz.func95 (by decide) Gp rfl rfl rfl rfl ?_
   simp only [jO,o6,af,Sg,go_sem,simprocAttr]
   by_cases h0:p.length=0
   ·simp only [aj,h0,go_sem,simprocAttr]
   ·simp only [aj,show (((p.length:Nat):Int)==0)=false from beq_eq_false_iff_ne.2 (by omega),go_sem,simprocAttr]
    simp only [aj,decide_eq_true (show ((p.length:Nat):Int)>3900 by omega),go_sem,simprocAttr]
  ·rename_i h1
   rw [if_neg h1]
   split at he
   ·exact absurd rfl he
   ·rename_i h2
    rw [if_neg h2]
    have:=h.size
    exact yR j.n j.l j.s j.cnt j.aX j.us p h.len (by omega) h.used (by omega) (by simpa using h2)
 generalize j.s7 p=e at *
 simp only [jO,o6,af] at hst
 refine aY Tryz.func33 (by decide) MY rfl rfl rfl rfl ?_
 simp only [jO,o6,af,XC,go_sem,simprocAttr]
 refine dI [0,1,2,3,4] (hst) rfl ?_ (by decide) ?_ ?_ ?_ <;> simp only [aa,ah,go_sem,simprocAttr]
 simp only [show (e !=0)=true from bne_iff_ne.2 he,go_sem,simprocAttr]
end Dv
