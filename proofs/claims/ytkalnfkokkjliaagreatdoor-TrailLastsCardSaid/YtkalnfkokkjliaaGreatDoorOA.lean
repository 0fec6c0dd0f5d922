/- part -/
import Derived.Test.YtkalnfkokkjliaaGreatDoorDA
import Derived.Test.YtkalnfkokkjliaaGreatDoorI8
import Derived.Test.YtkalnfkokkjliaaGreatDoorVD
import Derived.Test.YtkalnfkokkjliaaGreatDoorIA
set_option linter.all false
set_option maxHeartbeats 2000000
set_option maxRecDepth 100000
namespace Dv
open Go Go.Proofs
variable {G:Nat→Option (List DV)}
def WO:=qx Tryz.f218
theorem Td:aj Tryz.prog Tryz.f218=some WO:=by kernel_rfl
def WT:=qx Tryz.f203
theorem Th:aj Tryz.prog Tryz.f203=some WT:=by kernel_rfl
attribute [local go_sem] gW ak
def C8 (kind:Int) (l:List Int):bT:=⟨kind,l.getD 0 0,l.getD 1 0,l.getD 2 0,l.getD 3 0,l.getD 4 0,l.getD 5 0⟩
theorem YF (kind:Int) (l:List Int) (hl:l.length≤6):bh Tryz.prog G 218 [.int kind,.d (.dK 1 (gW l))] [] (tA (C8 kind l)) []:=by
 refine bn Tryz.func218 (by decide) Td rfl rfl ?_
 simp only [WO,go_sem]
 match l,hl with
 | [],_=>simp only [C8,List.flatten_cons,List.flatten_nil,go_sem]; rfl
 | [a],_=>simp only [C8,List.flatten_cons,List.flatten_nil,go_sem]; rfl
 | [a,b],_=>simp only [C8,List.flatten_cons,List.flatten_nil,go_sem]; rfl
 | [a,b,c],_=>simp only [C8,List.flatten_cons,List.flatten_nil,go_sem]; rfl
 | [a,b,c,d],_=>simp only [C8,List.flatten_cons,List.flatten_nil,go_sem]; rfl
 | [a,b,c,d,e],_=>simp only [C8,List.flatten_cons,List.flatten_nil,go_sem]; rfl
 | [a,b,c,d,e,f],_=>simp only [C8,List.flatten_cons,List.flatten_nil,go_sem]; rfl
def gw (o:bT):List Int:=if eP o=true then jt (o.kind::(cB o).take (dX o.kind)) else []
theorem ur (k:Int):dX k≤6:=by unfold dX; split <;> (try split) <;> (try split) <;> omega
theorem qY {o:bT} (h:eP o=true):1≤o.kind∧o.kind≤21:=by
 rw [uf,Bool.and_eq_true] at h
 exact of_decide_eq_true h.1
theorem NQ (o:bT):bh Tryz.prog cR 203 [tA o] [] (ak (gw o)) []:=by
 refine cA Tryz.func203 (by decide) Th rfl ?_
 simp only [WT,go_sem]
 refine ax (oh o) rfl rfl rfl rfl ?_; simp only [go_sem]
 cases hr:eP o with
 | false=>
   have hp:gw o=[]:=by unfold gw; rw [if_neg (by rw [hr]; decide)]
   simp only [hp,go_sem]
   exact xx rfl (by simp [aP,ah,ak,az,St.get,aW])
 | true=>
 have hk:=qY hr
 have hp:gw o=jt (o.kind::(cB o).take (dX o.kind)):=by unfold gw; rw [if_pos hr]
 simp only [go_sem]
 refine ax (Jd o) rfl rfl rfl rfl ?_
 have hk0:0≤o.kind:=by omega
 have vS:o.kind.toNat<22:=by omega
 have hm:=ur o.kind
 simp only [cB,tg,hk0,vS,Nat.mul_one,De o.kind hk,go_sem]
 have hml:(cB o).length=6:=rfl
 generalize dX o.kind=m at *
 have h7:m=0∨m=1∨m=2∨m=3∨m=4∨m=5∨m=6:=by omega
 rcases h7 with rfl | rfl | rfl | rfl | rfl | rfl | rfl
 ·simp only [Nat.le_refl,Nat.zero_le,Nat.sub_zero,Nat.reduceLeDiff,List.length_append,go_sem]
  rw [hp]
  refine lX [2] (j9 (o.kind::(cB o).take 0) (by simp [cB])) rfl (by simp [ag,ah,bB,au,cB,go_sem]) (by simp [au]) rfl ?_; simp only [go_sem]
  refine an (by decide) ?_
  simp only [go_sem]
  exact jh (ay:=[]) ⟨rfl,rfl⟩ rfl rfl rfl
 ·simp only [Nat.le_refl,Nat.zero_le,Nat.sub_zero,Nat.reduceLeDiff,List.length_append,go_sem]
  rw [hp]
  refine lX [2] (j9 (o.kind::(cB o).take 1) (by simp [cB])) rfl (by simp [ag,ah,bB,au,cB,go_sem]) (by simp [au]) rfl ?_; simp only [go_sem]
  refine an (by decide) ?_
  simp only [go_sem]
  exact jh (ay:=[]) ⟨rfl,rfl⟩ rfl rfl rfl
 ·simp only [Nat.le_refl,Nat.zero_le,Nat.sub_zero,Nat.reduceLeDiff,List.length_append,go_sem]
  rw [hp]
  refine lX [2] (j9 (o.kind::(cB o).take 2) (by simp [cB])) rfl (by simp [ag,ah,bB,au,cB,go_sem]) (by simp [au]) rfl ?_; simp only [go_sem]
  refine an (by decide) ?_
  simp only [go_sem]
  exact jh (ay:=[]) ⟨rfl,rfl⟩ rfl rfl rfl
 ·simp only [Nat.le_refl,Nat.zero_le,Nat.sub_zero,Nat.reduceLeDiff,List.length_append,go_sem]
  rw [hp]
  refine lX [2] (j9 (o.kind::(cB o).take 3) (by simp [cB])) rfl (by simp [ag,ah,bB,au,cB,go_sem]) (by simp [au]) rfl ?_; simp only [go_sem]
  refine an (by decide) ?_
  simp only [go_sem]
  exact jh (ay:=[]) ⟨rfl,rfl⟩ rfl rfl rfl
 ·simp only [Nat.le_refl,Nat.zero_le,Nat.sub_zero,Nat.reduceLeDiff,List.length_append,go_sem]
  rw [hp]
  refine lX [2] (j9 (o.kind::(cB o).take 4) (by simp [cB])) rfl (by simp [ag,ah,bB,au,cB,go_sem]) (by simp [au]) rfl ?_; simp only [go_sem]
  refine an (by decide) ?_
  simp only [go_sem]
  exact jh (ay:=[]) ⟨rfl,rfl⟩ rfl rfl rfl
 ·simp only [Nat.le_refl,Nat.zero_le,Nat.sub_zero,Nat.reduceLeDiff,List.length_append,go_sem]
  rw [hp]
  refine lX [2] (j9 (o.kind::(cB o).take 5) (by simp [cB])) rfl (by simp [ag,ah,bB,au,cB,go_sem]) (by simp [au]) rfl ?_; simp only [go_sem]
  refine an (by decide) ?_
  simp only [go_sem]
  exact jh (ay:=[]) ⟨rfl,rfl⟩ rfl rfl rfl
 ·simp only [Nat.le_refl,Nat.zero_le,Nat.sub_zero,Nat.reduceLeDiff,List.length_append,go_sem]
  rw [hp]
  refine lX [2] (j9 (o.kind::(cB o).take 6) (by simp [cB])) rfl (by simp [ag,ah,bB,au,cB,go_sem]) (by simp [au]) rfl ?_; simp only [go_sem]
  refine an (by decide) ?_
  simp only [go_sem]
  exact jh (ay:=[]) ⟨rfl,rfl⟩ rfl rfl rfl
end Dv
namespace Dv
open Go Go.Proofs
variable {G:Nat→Option (List DV)}
def XG:=qx Tryz.f133
theorem T0:aj Tryz.prog Tryz.f133=some XG:=by kernel_rfl
attribute [local go_sem] ak
def Vr (q:Option bT):LV:=.dH [tA (q.getD cU),.bool q.isSome]
def kindOk (k:Int):Bool:=decide (1≤k∧k≤21)
def A7 (b:List Int):Option bT:=match vW b 0 7 with
 | none=>none
 | some (xs,e)=>if e=b.length∧0<xs.length∧kindOk (xs.getD 0 0)=true∧xs.length=dX (xs.getD 0 0)+1∧eP (C8 (xs.getD 0 0) (xs.drop 1))=true then some (C8 (xs.getD 0 0) (xs.drop 1)) else none
theorem RR (k:Int):((nameOf k).toList==(⟨#[]⟩:ByteArray).toList) = !kindOk k:=by
 by_cases h:1≤k∧k≤21
 ·rw [BQ k h]; unfold kindOk; rw [decide_eq_true h]; rfl
 ·rw [q_ k h]; unfold kindOk; rw [decide_eq_false h]; decide +kernel
theorem Od (b:List Int) (hb:∀ c∈b,0≤c∧c≤255) (hl:b.length≤1000000):bh Tryz.prog cR 133 [ak b] [] (Vr (A7 b)) []:=by
 have hlb:(az b).length=b.length:=by simp [az]
 refine cA Tryz.func133 (by decide) T0 rfl ?_
 generalize hq:A7 b=q
 unfold A7 at hq
 simp only [XG,go_sem]
 cases hL:vW b 0 7 with
 | none=>
   rw [hL] at hq
   subst hq
   refine ax (kJ b hb hl 7 (by decide) none hL) rfl rfl rfl rfl ?_
   simp only [zX,zY,go_sem]
   exact jh (ay:=[]) ⟨rfl,rfl⟩ rfl rfl rfl
 | some xe=>
 obtain ⟨xs,e⟩:=xe
 obtain ⟨h1,h2,h3⟩:=Fz (fun c hc=>(hb c hc).1) hL
 rw [hL] at hq
 dsimp only at hq
 refine gu (kJ b hb hl 7 (by decide) (some (xs,e)) hL) rfl rfl rfl ?_
 simp only [zX,zY,hlb,go_sem]
 by_cases he:e=b.length
 case neg=>
  rw [if_neg (fun h=>he h.1)] at hq
  subst hq
  simp only [show (((e:Nat):Int) !=((b.length:Nat):Int))=true from bne_iff_ne.2 (by omega),go_sem]
  exact jh (ay:=[]) ⟨rfl,rfl⟩ rfl rfl rfl
 simp only [show (((e:Nat):Int) !=((b.length:Nat):Int))=false by rw [he]; simp,go_sem]
 by_cases h0:0<xs.length
 case neg=>
  rw [if_neg (fun h=>h0 h.2.1)] at hq
  subst hq
  simp only [show (((xs.length:Nat):Int)==0)=true from beq_iff_eq.2 (by omega),go_sem]
  exact jh (ay:=[]) ⟨rfl,rfl⟩ rfl rfl rfl
 have hg:=aK (f:=fun n:Int=>[i64 n]) 0 h0
 have hxr:=h2 (xs.getD 0 0) (by simp [List.getD,h0])
 generalize hx:xs.getD 0 0=x at *
 have hgb:(gW xs)[0]? = some [DV.val (.int .i64 x)]:=hg
 have hnl:(gW xs).length=xs.length:=by simp [gW]
 simp only [show (((xs.length:Nat):Int)==0)=false from beq_eq_false_iff_ne.2 (by omega),h0,hgb,hnl,go_sem]
 refine ax (EX x) rfl rfl rfl rfl ?_; simp only [go_sem]
 simp only [RR,go_sem]
 cases hk:kindOk x with
 | false=>
   rw [if_neg (fun h=>by rw [hk] at h; exact absurd h.2.2.1 (by decide))] at hq
   subst hq
   simp only [go_sem]
   exact jh (ay:=[]) ⟨rfl,rfl⟩ rfl rfl rfl
 | true=>
 have hkk:1≤x∧x≤21:=of_decide_eq_true hk
 have hx0:0≤x:=by omega
 have hx1:x.toNat<22:=by omega
 have hm:=ur x
 have hw:IntKind.i64.wrap ((dX x:Nat)+1:Int)=((dX x+1:Nat):Int):=by rw [aL (by omega) (by omega)]; rfl
 simp only [h0,hgb,hnl,tg,hx0,hx1,Nat.mul_one,De x hkk,hw,go_sem]
 by_cases hlen:xs.length=dX x+1
 case neg=>
  rw [if_neg (fun h=>hlen h.2.2.2.1)] at hq
  subst hq
  simp only [show (((xs.length:Nat):Int) !=((dX x+1:Nat):Int))=true from bne_iff_ne.2 (by omega),go_sem]
  exact jh (ay:=[]) ⟨rfl,rfl⟩ rfl rfl rfl
 simp only [show (((xs.length:Nat):Int) !=((dX x+1:Nat):Int))=false by rw [hlen]; simp,h0,hgb,hnl,go_sem]
 rw [if_pos (show 1≤xs.length∧xs.length≤xs.length by omega)]
 have hdr:(xs.drop 1).length≤6:=by rw [List.length_drop]; omega
 have hrows:List.take (xs.length-1) ((gW xs).drop 1)=gW (xs.drop 1):=by
  rw [List.take_of_length_le (by rw [List.length_drop,hnl]; omega)]
  simp only [gW,List.map_drop]
 have Zp:List.take (xs.length-1) (gW xs).tail=gW xs.tail:=by rw [← List.drop_one,← List.drop_one]; exact hrows
 have hlt1:1+(xs.length-1)≤xs.length:=by omega
 simp only [go_sem]
 refine u7 [1] (YF x (xs.drop 1) hdr) rfl (by simp [ag,ah,bB,au,Zp,hnl,hlt1,go_sem]) (by simp [au]) rfl rfl ?_; simp only [go_sem]
 rw [show (if e=b.length∧0<xs.length∧kindOk x=true∧xs.length=dX x+1∧eP (C8 x (xs.drop 1))=true then some (C8 x (xs.drop 1)) else none)=if eP (C8 x (xs.drop 1))=true then some (C8 x (xs.drop 1)) else none by
  by_cases ho:eP (C8 x (xs.drop 1))=true
  ·rw [if_pos ⟨he,h0,hk,hlen,ho⟩,if_pos ho]
  ·rw [if_neg (fun h=>ho h.2.2.2.2),if_neg ho]] at hq
 generalize C8 x (xs.drop 1)=o at *
 refine an (by decide) ?_
 simp only [go_sem]
 refine ax (oh o) rfl rfl rfl rfl ?_; simp only [go_sem]
 cases hr:eP o with
 | false=>
   rw [if_neg (by rw [hr]; decide)] at hq
   subst hq
   simp only [go_sem]
   exact jh (ay:=[]) ⟨rfl,rfl⟩ rfl rfl rfl
 | true=>
   rw [if_pos hr] at hq
   subst hq
   simp only [go_sem]
   exact jh (ay:=[]) ⟨rfl,rfl⟩ rfl rfl rfl
end Dv
