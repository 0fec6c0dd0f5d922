/- part -/
import Derived.Test.YtkalnfkokkjliaaGreatDoorDA
import Derived.Test.YtkalnfkokkjliaaGreatDoorI8
import Derived.Test.YtkalnfkokkjliaaGreatDoorVD
import Derived.Test.YtkalnfkokkjliaaGreatDoorIA
set_option linter.all false
set_option maxHeartbeats 2000000
set_option maxRecDepth 100000
namespace Dv
open Go Go.Proofs
variable {G:Nat→Option (List DV)}
def XQ:=qx Tryz.f218
theorem T1:aj Tryz.prog Tryz.f218=some XQ:=by kernel_rfl
def XU:=qx Tryz.f203
theorem Ua:aj Tryz.prog Tryz.f203=some XU:=by kernel_rfl
attribute [local go_sem] iE aq
def DU (kind:Int) (l:List Int):cB:=⟨kind,l.getD 0 0,l.getD 1 0,l.getD 2 0,l.getD 3 0,l.getD 4 0,l.getD 5 0⟩
theorem ZD (kind:Int) (l:List Int) (hl:l.length≤6):bu Tryz.prog G 218 [.int kind,.d (.dO 1 (iE l))] [] (tF (DU kind l)) []:=by
 refine bz Tryz.func218 (by decide) T1 rfl rfl ?_
 simp only [XQ,go_sem]
 match l,hl with
 | [],_=>simp only [DU,List.flatten_cons,List.flatten_nil,go_sem]; rfl
 | [a],_=>simp only [DU,List.flatten_cons,List.flatten_nil,go_sem]; rfl
 | [a,b],_=>simp only [DU,List.flatten_cons,List.flatten_nil,go_sem]; rfl
 | [a,b,c],_=>simp only [DU,List.flatten_cons,List.flatten_nil,go_sem]; rfl
 | [a,b,c,d],_=>simp only [DU,List.flatten_cons,List.flatten_nil,go_sem]; rfl
 | [a,b,c,d,e],_=>simp only [DU,List.flatten_cons,List.flatten_nil,go_sem]; rfl
 | [a,b,c,d,e,f],_=>simp only [DU,List.flatten_cons,List.flatten_nil,go_sem]; rfl
def fh (o:cB):List Int:=if fc o=true then jJ (o.kind::(cL o).take (ej o.kind)) else []
theorem uT (k:Int):ej k≤6:=by unfold ej; split <;> (try split) <;> (try split) <;> omega
theorem rU {o:cB} (h:fc o=true):1≤o.kind∧o.kind≤21:=by
 rw [uK,Bool.and_eq_true] at h
 exact of_decide_eq_true h.1
theorem OQ (o:cB):bu Tryz.prog cF 203 [tF o] [] (aq (fh o)) []:=by
 refine cI Tryz.func203 (by decide) Ua rfl ?_
 simp only [XU,go_sem]
 refine av (oQ o) rfl rfl rfl rfl ?_; simp only [go_sem]
 cases hr:fc o with
 | false=>
   have hp:fh o=[]:=by unfold fh; rw [if_neg (by rw [hr]; decide)]
   simp only [hp,go_sem]
   exact yg rfl (by simp [aV,ah,aq,aB,St.get,aY])
 | true=>
 have hk:=rU hr
 have hp:fh o=jJ (o.kind::(cL o).take (ej o.kind)):=by unfold fh; rw [if_pos hr]
 simp only [go_sem]
 refine av (J_ o) rfl rfl rfl rfl ?_
 have hk0:0≤o.kind:=by omega
 have wJ:o.kind.toNat<22:=by omega
 have hm:=uT o.kind
 simp only [cL,tV,hk0,wJ,Nat.mul_one,Eb o.kind hk,go_sem]
 have hml:(cL o).length=6:=rfl
 generalize ej o.kind=m at *
 have h7:m=0∨m=1∨m=2∨m=3∨m=4∨m=5∨m=6:=by omega
 rcases h7 with rfl | rfl | rfl | rfl | rfl | rfl | rfl
 ·simp only [Nat.le_refl,Nat.zero_le,Nat.sub_zero,Nat.reduceLeDiff,List.length_append,go_sem]
  rw [hp]
  refine mJ [2] (ku (o.kind::(cL o).take 0) (by simp [cL])) rfl (by simp [ag,ah,bK,aC,cL,go_sem]) (by simp [aC]) rfl ?_; simp only [go_sem]
  refine ay (by decide) ?_
  simp only [go_sem]
  exact jE (aA:=[]) ⟨rfl,rfl⟩ rfl rfl rfl
 ·simp only [Nat.le_refl,Nat.zero_le,Nat.sub_zero,Nat.reduceLeDiff,List.length_append,go_sem]
  rw [hp]
  refine mJ [2] (ku (o.kind::(cL o).take 1) (by simp [cL])) rfl (by simp [ag,ah,bK,aC,cL,go_sem]) (by simp [aC]) rfl ?_; simp only [go_sem]
  refine ay (by decide) ?_
  simp only [go_sem]
  exact jE (aA:=[]) ⟨rfl,rfl⟩ rfl rfl rfl
 ·simp only [Nat.le_refl,Nat.zero_le,Nat.sub_zero,Nat.reduceLeDiff,List.length_append,go_sem]
  rw [hp]
  refine mJ [2] (ku (o.kind::(cL o).take 2) (by simp [cL])) rfl (by simp [ag,ah,bK,aC,cL,go_sem]) (by simp [aC]) rfl ?_; simp only [go_sem]
  refine ay (by decide) ?_
  simp only [go_sem]
  exact jE (aA:=[]) ⟨rfl,rfl⟩ rfl rfl rfl
 ·simp only [Nat.le_refl,Nat.zero_le,Nat.sub_zero,Nat.reduceLeDiff,List.length_append,go_sem]
  rw [hp]
  refine mJ [2] (ku (o.kind::(cL o).take 3) (by simp [cL])) rfl (by simp [ag,ah,bK,aC,cL,go_sem]) (by simp [aC]) rfl ?_; simp only [go_sem]
  refine ay (by decide) ?_
  simp only [go_sem]
  exact jE (aA:=[]) ⟨rfl,rfl⟩ rfl rfl rfl
 ·simp only [Nat.le_refl,Nat.zero_le,Nat.sub_zero,Nat.reduceLeDiff,List.length_append,go_sem]
  rw [hp]
  refine mJ [2] (ku (o.kind::(cL o).take 4) (by simp [cL])) rfl (by simp [ag,ah,bK,aC,cL,go_sem]) (by simp [aC]) rfl ?_; simp only [go_sem]
  refine ay (by decide) ?_
  simp only [go_sem]
  exact jE (aA:=[]) ⟨rfl,rfl⟩ rfl rfl rfl
 ·simp only [Nat.le_refl,Nat.zero_le,Nat.sub_zero,Nat.reduceLeDiff,List.length_append,go_sem]
  rw [hp]
  refine mJ [2] (ku (o.kind::(cL o).take 5) (by simp [cL])) rfl (by simp [ag,ah,bK,aC,cL,go_sem]) (by simp [aC]) rfl ?_; simp only [go_sem]
  refine ay (by decide) ?_
  simp only [go_sem]
  exact jE (aA:=[]) ⟨rfl,rfl⟩ rfl rfl rfl
 ·simp only [Nat.le_refl,Nat.zero_le,Nat.sub_zero,Nat.reduceLeDiff,List.length_append,go_sem]
  rw [hp]
  refine mJ [2] (ku (o.kind::(cL o).take 6) (by simp [cL])) rfl (by simp [ag,ah,bK,aC,cL,go_sem]) (by simp [aC]) rfl ?_; simp only [go_sem]
  refine ay (by decide) ?_
  simp only [go_sem]
  exact jE (aA:=[]) ⟨rfl,rfl⟩ rfl rfl rfl
end Dv
namespace Dv
open Go Go.Proofs
variable {G:Nat→Option (List DV)}
def YC:=qx Tryz.f133
theorem UT:aj Tryz.prog Tryz.f133=some YC:=by kernel_rfl
attribute [local go_sem] aq
def OR (q:Option cB):LV:=.dM [tF (q.getD iA),.bool q.isSome]
def kindOk (k:Int):Bool:=decide (1≤k∧k≤21)
def Et (b:List Int):Option cB:=match wR b 0 7 with
 | none=>none
 | some (xs,e)=>if e=b.length∧0<xs.length∧kindOk (xs.getD 0 0)=true∧xs.length=ej (xs.getD 0 0)+1∧fc (DU (xs.getD 0 0) (xs.drop 1))=true then some (DU (xs.getD 0 0) (xs.drop 1)) else none
theorem SL (k:Int):((nameOf k).toList==(⟨#[]⟩:ByteArray).toList) = !kindOk k:=by
 by_cases h:1≤k∧k≤21
 ·rw [Cz k h]; unfold kindOk; rw [decide_eq_true h]; rfl
 ·rw [rW k h]; unfold kindOk; rw [decide_eq_false h]; decide +kernel
theorem O8 (b:List Int) (hb:∀ c∈b,0≤c∧c≤255) (hl:b.length≤1000000):bu Tryz.prog cF 133 [aq b] [] (OR (Et b)) []:=by
 have hlb:(aB b).length=b.length:=by simp [aB]
 refine cI Tryz.func133 (by decide) UT rfl ?_
 generalize hq:Et b=q
 unfold Et at hq
 simp only [YC,go_sem]
 cases hL:wR b 0 7 with
 | none=>
   rw [hL] at hq
   subst hq
   refine av (kZ b hb hl 7 (by decide) none hL) rfl rfl rfl rfl ?_
   simp only [AK,AL,go_sem]
   exact jE (aA:=[]) ⟨rfl,rfl⟩ rfl rfl rfl
 | some xe=>
 obtain ⟨xs,e⟩:=xe
 obtain ⟨h1,h2,h3⟩:=Gp (fun c hc=>(hb c hc).1) hL
 rw [hL] at hq
 dsimp only at hq
 refine jD (kZ b hb hl 7 (by decide) (some (xs,e)) hL) rfl rfl rfl ?_
 simp only [AK,AL,hlb,go_sem]
 by_cases he:e=b.length
 case neg=>
  rw [if_neg (fun h=>he h.1)] at hq
  subst hq
  simp only [show (((e:Nat):Int) !=((b.length:Nat):Int))=true from bne_iff_ne.2 (by omega),go_sem]
  exact jE (aA:=[]) ⟨rfl,rfl⟩ rfl rfl rfl
 simp only [show (((e:Nat):Int) !=((b.length:Nat):Int))=false by rw [he]; simp,go_sem]
 by_cases h0:0<xs.length
 case neg=>
  rw [if_neg (fun h=>h0 h.2.1)] at hq
  subst hq
  simp only [show (((xs.length:Nat):Int)==0)=true from beq_iff_eq.2 (by omega),go_sem]
  exact jE (aA:=[]) ⟨rfl,rfl⟩ rfl rfl rfl
 have hg:=aM (f:=fun n:Int=>[i64 n]) 0 h0
 have hxr:=h2 (xs.getD 0 0) (by simp [List.getD,h0])
 generalize hx:xs.getD 0 0=x at *
 have hgb:(iE xs)[0]? = some [DV.val (.int .i64 x)]:=hg
 have hnl:(iE xs).length=xs.length:=by simp [iE]
 simp only [show (((xs.length:Nat):Int)==0)=false from beq_eq_false_iff_ne.2 (by omega),h0,hgb,hnl,go_sem]
 refine av (FV x) rfl rfl rfl rfl ?_; simp only [go_sem]
 simp only [SL,go_sem]
 cases hk:kindOk x with
 | false=>
   rw [if_neg (fun h=>by rw [hk] at h; exact absurd h.2.2.1 (by decide))] at hq
   subst hq
   simp only [go_sem]
   exact jE (aA:=[]) ⟨rfl,rfl⟩ rfl rfl rfl
 | true=>
 have hkk:1≤x∧x≤21:=of_decide_eq_true hk
 have hx0:0≤x:=by omega
 have hx1:x.toNat<22:=by omega
 have hm:=uT x
 have hw:IntKind.i64.wrap ((ej x:Nat)+1:Int)=((ej x+1:Nat):Int):=by rw [aO (by omega) (by omega)]; rfl
 simp only [h0,hgb,hnl,tV,hx0,hx1,Nat.mul_one,Eb x hkk,hw,go_sem]
 by_cases hlen:xs.length=ej x+1
 case neg=>
  rw [if_neg (fun h=>hlen h.2.2.2.1)] at hq
  subst hq
  simp only [show (((xs.length:Nat):Int) !=((ej x+1:Nat):Int))=true from bne_iff_ne.2 (by omega),go_sem]
  exact jE (aA:=[]) ⟨rfl,rfl⟩ rfl rfl rfl
 simp only [show (((xs.length:Nat):Int) !=((ej x+1:Nat):Int))=false by rw [hlen]; simp,h0,hgb,hnl,go_sem]
 rw [if_pos (show 1≤xs.length∧xs.length≤xs.length by omega)]
 have hdr:(xs.drop 1).length≤6:=by rw [List.length_drop]; omega
 have hrows:List.take (xs.length-1) ((iE xs).drop 1)=iE (xs.drop 1):=by
  rw [List.take_of_length_le (by rw [List.length_drop,hnl]; omega)]
  simp only [iE,List.map_drop]
 have aai:List.take (xs.length-1) (iE xs).tail=iE xs.tail:=by rw [← List.drop_one,← List.drop_one]; exact hrows
 have hlt1:1+(xs.length-1)≤xs.length:=by omega
 simp only [go_sem]
 refine vK [1] (ZD x (xs.drop 1) hdr) rfl (by simp [ag,ah,bK,aC,aai,hnl,hlt1,go_sem]) (by simp [aC]) rfl rfl ?_; simp only [go_sem]
 rw [show (if e=b.length∧0<xs.length∧kindOk x=true∧xs.length=ej x+1∧fc (DU x (xs.drop 1))=true then some (DU x (xs.drop 1)) else none)=if fc (DU x (xs.drop 1))=true then some (DU x (xs.drop 1)) else none by
  by_cases ho:fc (DU x (xs.drop 1))=true
  ·rw [if_pos ⟨he,h0,hk,hlen,ho⟩,if_pos ho]
  ·rw [if_neg (fun h=>ho h.2.2.2.2),if_neg ho]] at hq
 generalize DU x (xs.drop 1)=o at *
 refine ay (by decide) ?_
 simp only [go_sem]
 refine av (oQ o) rfl rfl rfl rfl ?_; simp only [go_sem]
 cases hr:fc o with
 | false=>
   rw [if_neg (by rw [hr]; decide)] at hq
   subst hq
   simp only [go_sem]
   exact jE (aA:=[]) ⟨rfl,rfl⟩ rfl rfl rfl
 | true=>
   rw [if_pos hr] at hq
   subst hq
   simp only [go_sem]
   exact jE (aA:=[]) ⟨rfl,rfl⟩ rfl rfl rfl
end Dv
