/- part -/
import Derived.Test.YtkalnfkokkjliaaGreatDoorDA
import Derived.Test.YtkalnfkokkjliaaGreatDoorI8
import Derived.Test.YtkalnfkokkjliaaGreatDoorVD
import Derived.Test.YtkalnfkokkjliaaGreatDoorIA
set_option linter.all false
set_option maxHeartbeats 2000000
set_option maxRecDepth 100000
namespace Dv
open Go Go.Proofs
variable {G:Nat→Option (List DV)}
def Xr:=qx Tryz.f218
theorem TN:aj Tryz.prog Tryz.f218=some Xr:=by kernel_rfl
def Xw:=qx Tryz.f203
theorem TR:aj Tryz.prog Tryz.f203=some Xw:=by kernel_rfl
attribute [local go_sem] iu aq
def DF (kind:Int) (l:List Int):cA:=⟨kind,l.getD 0 0,l.getD 1 0,l.getD 2 0,l.getD 3 0,l.getD 4 0,l.getD 5 0⟩
theorem Zg (kind:Int) (l:List Int) (hl:l.length≤6):bw Tryz.prog G 218 [.int kind,.d (.dH 1 (iu l))] [] (tO (DF kind l)) []:=by
 refine br Tryz.func218 (by decide) TN rfl rfl ?_
 simp only [Xr,go_sem]
 match l,hl with
 | [],_=>simp only [DF,List.flatten_cons,List.flatten_nil,go_sem]; rfl
 | [a],_=>simp only [DF,List.flatten_cons,List.flatten_nil,go_sem]; rfl
 | [a,b],_=>simp only [DF,List.flatten_cons,List.flatten_nil,go_sem]; rfl
 | [a,b,c],_=>simp only [DF,List.flatten_cons,List.flatten_nil,go_sem]; rfl
 | [a,b,c,d],_=>simp only [DF,List.flatten_cons,List.flatten_nil,go_sem]; rfl
 | [a,b,c,d,e],_=>simp only [DF,List.flatten_cons,List.flatten_nil,go_sem]; rfl
 | [a,b,c,d,e,f],_=>simp only [DF,List.flatten_cons,List.flatten_nil,go_sem]; rfl
def gC (o:cA):List Int:=if eY o=true then jF (o.kind::(cE o).take (ec o.kind)) else []
theorem uF (k:Int):ec k≤6:=by unfold ec; split <;> (try split) <;> (try split) <;> omega
theorem rM {o:cA} (h:eY o=true):1≤o.kind∧o.kind≤21:=by
 rw [uw,Bool.and_eq_true] at h
 exact of_decide_eq_true h.1
theorem Oz (o:cA):bw Tryz.prog dc 203 [tO o] [] (aq (gC o)) []:=by
 refine cD Tryz.func203 (by decide) TR rfl ?_
 simp only [Xw,go_sem]
 refine ay (oH o) rfl rfl rfl rfl ?_; simp only [go_sem]
 cases hr:eY o with
 | false=>
   have hp:gC o=[]:=by unfold gC; rw [if_neg (by rw [hr]; decide)]
   simp only [hp,go_sem]
   exact xM rfl (by simp [aU,ah,aq,aB,St.get,aZ])
 | true=>
 have hk:=rM hr
 have hp:gC o=jF (o.kind::(cE o).take (ec o.kind)):=by unfold gC; rw [if_pos hr]
 simp only [go_sem]
 refine ay (JO o) rfl rfl rfl rfl ?_
 have hk0:0≤o.kind:=by omega
 have wg:o.kind.toNat<22:=by omega
 have hm:=uF o.kind
 simp only [cE,tF,hk0,wg,Nat.mul_one,DO o.kind hk,go_sem]
 have hml:(cE o).length=6:=rfl
 generalize ec o.kind=m at *
 have h7:m=0∨m=1∨m=2∨m=3∨m=4∨m=5∨m=6:=by omega
 rcases h7 with rfl | rfl | rfl | rfl | rfl | rfl | rfl
 ·simp only [Nat.le_refl,Nat.zero_le,Nat.sub_zero,Nat.reduceLeDiff,List.length_append,go_sem]
  rw [hp]
  refine mA [2] (ki (o.kind::(cE o).take 0) (by simp [cE])) rfl (by simp [ag,ah,bG,aD,cE,go_sem]) (by simp [aD]) rfl ?_; simp only [go_sem]
  refine au (by decide) ?_
  simp only [go_sem]
  exact jy (aA:=[]) ⟨rfl,rfl⟩ rfl rfl rfl
 ·simp only [Nat.le_refl,Nat.zero_le,Nat.sub_zero,Nat.reduceLeDiff,List.length_append,go_sem]
  rw [hp]
  refine mA [2] (ki (o.kind::(cE o).take 1) (by simp [cE])) rfl (by simp [ag,ah,bG,aD,cE,go_sem]) (by simp [aD]) rfl ?_; simp only [go_sem]
  refine au (by decide) ?_
  simp only [go_sem]
  exact jy (aA:=[]) ⟨rfl,rfl⟩ rfl rfl rfl
 ·simp only [Nat.le_refl,Nat.zero_le,Nat.sub_zero,Nat.reduceLeDiff,List.length_append,go_sem]
  rw [hp]
  refine mA [2] (ki (o.kind::(cE o).take 2) (by simp [cE])) rfl (by simp [ag,ah,bG,aD,cE,go_sem]) (by simp [aD]) rfl ?_; simp only [go_sem]
  refine au (by decide) ?_
  simp only [go_sem]
  exact jy (aA:=[]) ⟨rfl,rfl⟩ rfl rfl rfl
 ·simp only [Nat.le_refl,Nat.zero_le,Nat.sub_zero,Nat.reduceLeDiff,List.length_append,go_sem]
  rw [hp]
  refine mA [2] (ki (o.kind::(cE o).take 3) (by simp [cE])) rfl (by simp [ag,ah,bG,aD,cE,go_sem]) (by simp [aD]) rfl ?_; simp only [go_sem]
  refine au (by decide) ?_
  simp only [go_sem]
  exact jy (aA:=[]) ⟨rfl,rfl⟩ rfl rfl rfl
 ·simp only [Nat.le_refl,Nat.zero_le,Nat.sub_zero,Nat.reduceLeDiff,List.length_append,go_sem]
  rw [hp]
  refine mA [2] (ki (o.kind::(cE o).take 4) (by simp [cE])) rfl (by simp [ag,ah,bG,aD,cE,go_sem]) (by simp [aD]) rfl ?_; simp only [go_sem]
  refine au (by decide) ?_
  simp only [go_sem]
  exact jy (aA:=[]) ⟨rfl,rfl⟩ rfl rfl rfl
 ·simp only [Nat.le_refl,Nat.zero_le,Nat.sub_zero,Nat.reduceLeDiff,List.length_append,go_sem]
  rw [hp]
  refine mA [2] (ki (o.kind::(cE o).take 5) (by simp [cE])) rfl (by simp [ag,ah,bG,aD,cE,go_sem]) (by simp [aD]) rfl ?_; simp only [go_sem]
  refine au (by decide) ?_
  simp only [go_sem]
  exact jy (aA:=[]) ⟨rfl,rfl⟩ rfl rfl rfl
 ·simp only [Nat.le_refl,Nat.zero_le,Nat.sub_zero,Nat.reduceLeDiff,List.length_append,go_sem]
  rw [hp]
  refine mA [2] (ki (o.kind::(cE o).take 6) (by simp [cE])) rfl (by simp [ag,ah,bG,aD,cE,go_sem]) (by simp [aD]) rfl ?_; simp only [go_sem]
  refine au (by decide) ?_
  simp only [go_sem]
  exact jy (aA:=[]) ⟨rfl,rfl⟩ rfl rfl rfl
end Dv
namespace Dv
open Go Go.Proofs
variable {G:Nat→Option (List DV)}
def Ye:=qx Tryz.f133
theorem UF:aj Tryz.prog Tryz.f133=some Ye:=by kernel_rfl
attribute [local go_sem] aq
def OA (q:Option cA):LV:=.dJ [tO (q.getD ia),.bool q.isSome]
def kindOk (k:Int):Bool:=decide (1≤k∧k≤21)
def Ed (b:List Int):Option cA:=match wu b 0 7 with
 | none=>none
 | some (xs,e)=>if e=b.length∧0<xs.length∧kindOk (xs.getD 0 0)=true∧xs.length=ec (xs.getD 0 0)+1∧eY (DF (xs.getD 0 0) (xs.drop 1))=true then some (DF (xs.getD 0 0) (xs.drop 1)) else none
theorem Sw (k:Int):((nameOf k).toList==(⟨#[]⟩:ByteArray).toList) = !kindOk k:=by
 by_cases h:1≤k∧k≤21
 ·rw [Cg k h]; unfold kindOk; rw [decide_eq_true h]; rfl
 ·rw [rO k h]; unfold kindOk; rw [decide_eq_false h]; decide +kernel
theorem OO (b:List Int) (hb:∀ c∈b,0≤c∧c≤255) (hl:b.length≤1000000):bw Tryz.prog dc 133 [aq b] [] (OA (Ed b)) []:=by
 have hlb:(aB b).length=b.length:=by simp [aB]
 refine cD Tryz.func133 (by decide) UF rfl ?_
 generalize hq:Ed b=q
 unfold Ed at hq
 simp only [Ye,go_sem]
 cases hL:wu b 0 7 with
 | none=>
   rw [hL] at hq
   subst hq
   refine ay (kV b hb hl 7 (by decide) none hL) rfl rfl rfl rfl ?_
   simp only [Ak,Al,go_sem]
   exact jy (aA:=[]) ⟨rfl,rfl⟩ rfl rfl rfl
 | some xe=>
 obtain ⟨xs,e⟩:=xe
 obtain ⟨h1,h2,h3⟩:=F_ (fun c hc=>(hb c hc).1) hL
 rw [hL] at hq
 dsimp only at hq
 refine jw (kV b hb hl 7 (by decide) (some (xs,e)) hL) rfl rfl rfl ?_
 simp only [Ak,Al,hlb,go_sem]
 by_cases he:e=b.length
 case neg=>
  rw [if_neg (fun h=>he h.1)] at hq
  subst hq
  simp only [show (((e:Nat):Int) !=((b.length:Nat):Int))=true from bne_iff_ne.2 (by omega),go_sem]
  exact jy (aA:=[]) ⟨rfl,rfl⟩ rfl rfl rfl
 simp only [show (((e:Nat):Int) !=((b.length:Nat):Int))=false by rw [he]; simp,go_sem]
 by_cases h0:0<xs.length
 case neg=>
  rw [if_neg (fun h=>h0 h.2.1)] at hq
  subst hq
  simp only [show (((xs.length:Nat):Int)==0)=true from beq_iff_eq.2 (by omega),go_sem]
  exact jy (aA:=[]) ⟨rfl,rfl⟩ rfl rfl rfl
 have hg:=aJ (f:=fun n:Int=>[i64 n]) 0 h0
 have hxr:=h2 (xs.getD 0 0) (by simp [List.getD,h0])
 generalize hx:xs.getD 0 0=x at *
 have hgb:(iu xs)[0]? = some [DV.val (.int .i64 x)]:=hg
 have hnl:(iu xs).length=xs.length:=by simp [iu]
 simp only [show (((xs.length:Nat):Int)==0)=false from beq_eq_false_iff_ne.2 (by omega),h0,hgb,hnl,go_sem]
 refine ay (FF x) rfl rfl rfl rfl ?_; simp only [go_sem]
 simp only [Sw,go_sem]
 cases hk:kindOk x with
 | false=>
   rw [if_neg (fun h=>by rw [hk] at h; exact absurd h.2.2.1 (by decide))] at hq
   subst hq
   simp only [go_sem]
   exact jy (aA:=[]) ⟨rfl,rfl⟩ rfl rfl rfl
 | true=>
 have hkk:1≤x∧x≤21:=of_decide_eq_true hk
 have hx0:0≤x:=by omega
 have hx1:x.toNat<22:=by omega
 have hm:=uF x
 have hw:IntKind.i64.wrap ((ec x:Nat)+1:Int)=((ec x+1:Nat):Int):=by rw [aN (by omega) (by omega)]; rfl
 simp only [h0,hgb,hnl,tF,hx0,hx1,Nat.mul_one,DO x hkk,hw,go_sem]
 by_cases hlen:xs.length=ec x+1
 case neg=>
  rw [if_neg (fun h=>hlen h.2.2.2.1)] at hq
  subst hq
  simp only [show (((xs.length:Nat):Int) !=((ec x+1:Nat):Int))=true from bne_iff_ne.2 (by omega),go_sem]
  exact jy (aA:=[]) ⟨rfl,rfl⟩ rfl rfl rfl
 simp only [show (((xs.length:Nat):Int) !=((ec x+1:Nat):Int))=false by rw [hlen]; simp,h0,hgb,hnl,go_sem]
 rw [if_pos (show 1≤xs.length∧xs.length≤xs.length by omega)]
 have hdr:(xs.drop 1).length≤6:=by rw [List.length_drop]; omega
 have hrows:List.take (xs.length-1) ((iu xs).drop 1)=iu (xs.drop 1):=by
  rw [List.take_of_length_le (by rw [List.length_drop,hnl]; omega)]
  simp only [iu,List.map_drop]
 have ZZ:List.take (xs.length-1) (iu xs).tail=iu xs.tail:=by rw [← List.drop_one,← List.drop_one]; exact hrows
 have hlt1:1+(xs.length-1)≤xs.length:=by omega
 simp only [go_sem]
 refine vn [1] (Zg x (xs.drop 1) hdr) rfl (by simp [ag,ah,bG,aD,ZZ,hnl,hlt1,go_sem]) (by simp [aD]) rfl rfl ?_; simp only [go_sem]
 rw [show (if e=b.length∧0<xs.length∧kindOk x=true∧xs.length=ec x+1∧eY (DF x (xs.drop 1))=true then some (DF x (xs.drop 1)) else none)=if eY (DF x (xs.drop 1))=true then some (DF x (xs.drop 1)) else none by
  by_cases ho:eY (DF x (xs.drop 1))=true
  ·rw [if_pos ⟨he,h0,hk,hlen,ho⟩,if_pos ho]
  ·rw [if_neg (fun h=>ho h.2.2.2.2),if_neg ho]] at hq
 generalize DF x (xs.drop 1)=o at *
 refine au (by decide) ?_
 simp only [go_sem]
 refine ay (oH o) rfl rfl rfl rfl ?_; simp only [go_sem]
 cases hr:eY o with
 | false=>
   rw [if_neg (by rw [hr]; decide)] at hq
   subst hq
   simp only [go_sem]
   exact jy (aA:=[]) ⟨rfl,rfl⟩ rfl rfl rfl
 | true=>
   rw [if_pos hr] at hq
   subst hq
   simp only [go_sem]
   exact jy (aA:=[]) ⟨rfl,rfl⟩ rfl rfl rfl
end Dv
