/- The logical machine and its plain laws: parts O1, O2, proved sound. -/
import Derived.Test.YtkalnfkokkjliaaGreatDoorDA
import Derived.Test.YtkalnfkokkjliaaGreatDoorI8
import Derived.Test.YtkalnfkokkjliaaGreatDoorVD
import Derived.Test.YtkalnfkokkjliaaGreatDoorIA
set_option linter.unusedVariables false
set_option linter.unusedSimpArgs false
set_option maxRecDepth 100000
namespace Dv
open Go Go.Proofs
variable {G:Nat→Option (List DV)}
def Ui:=qx Tryz.f218
theorem QN:aq Tryz.prog Tryz.f218=some Ui:=by kernel_rfl
def Ur:=qx Tryz.f203
theorem QZ:aq Tryz.prog Tryz.f203=some Ur:=by kernel_rfl
attribute [local go_sem] bT af
def o5 (kind:Int) (l:List Int):dH:=⟨kind,l.getD 0 0,l.getD 1 0,l.getD 2 0,l.getD 3 0,l.getD 4 0,l.getD 5 0⟩
set_option maxHeartbeats 1000000 in
theorem WI (kind:Int) (l:List Int) (hl:l.length≤6):br Tryz.prog G 218 [.int kind,.d (.dN 1 (bT l))] [] (rS (o5 kind l)) []:=by
 refine b_ Tryz.func218 (by decide) QN rfl rfl ?_
 simp only [Ui,go_sem,simprocAttr]
 match l,hl with
 | [],_=>simp only [o5,List.flatten_cons,List.flatten_nil,go_sem,simprocAttr]; rfl
 | [a],_=>simp only [o5,List.flatten_cons,List.flatten_nil,go_sem,simprocAttr]; rfl
 | [a,b],_=>simp only [o5,List.flatten_cons,List.flatten_nil,go_sem,simprocAttr]; rfl
 | [a,b,c],_=>simp only [o5,List.flatten_cons,List.flatten_nil,go_sem,simprocAttr]; rfl
 | [a,b,c,d],_=>simp only [o5,List.flatten_cons,List.flatten_nil,go_sem,simprocAttr]; rfl
 | [a,b,c,d,e],_=>simp only [o5,List.flatten_cons,List.flatten_nil,go_sem,simprocAttr]; rfl
 | [a,b,c,d,e,f],_=>simp only [o5,List.flatten_cons,List.flatten_nil,go_sem,simprocAttr]; rfl
def dm (o:dH):List Int:=if dX o=true then fG (o.kind::(bL o).take (cq o.kind)) else []
theorem ny (k:Int):cq k≤6:=by unfold cq; split <;> (try split) <;> (try split) <;> omega
theorem qQ {o:dH} (h:dX o=true):1≤o.kind∧o.kind≤21:=by
 rw [pT,Bool.and_eq_true] at h
 exact of_decide_eq_true h.1
set_option maxHeartbeats 1000000 in
theorem Mp (o:dH):br Tryz.prog eD 203 [rS o] [] (af (dm o)) []:=by
 refine bD Tryz.func203 (by decide) QZ rfl ?_
 simp only [Ur,go_sem,simprocAttr]
 refine av (oa o) rfl rfl rfl rfl ?_; simp only [go_sem,simprocAttr]
 cases hr:dX o with
 | false=>
   have hp:dm o=[]:=by unfold dm; rw [if_neg (by rw [hr]; decide)]
   simp only [hp,go_sem,simprocAttr]
   exact kM rfl (by simp [aF,ah,af,ak,St.get,aO])
 | true=>
 have hk:=qQ hr
 have hp:dm o=fG (o.kind::(bL o).take (cq o.kind)):=by unfold dm; rw [if_pos hr]
 simp only [go_sem,simprocAttr]
 refine av (HF o) rfl rfl rfl rfl ?_
 have VP:0≤o.kind:=by omega
 have NA:o.kind.toNat<22:=by omega
 have hm:=ny o.kind
 simp only [bL,sY,VP,NA,Nat.mul_one,Cm o.kind hk,go_sem,simprocAttr]
 have hml:(bL o).length=6:=rfl
 generalize cq o.kind=m at *
 have h7:m=0∨m=1∨m=2∨m=3∨m=4∨m=5∨m=6:=by omega
 rcases h7 with rfl | rfl | rfl | rfl | rfl | rfl | rfl
 ·simp only [Nat.le_refl,Nat.zero_le,Nat.sub_zero,Nat.reduceLeDiff,List.length_append,go_sem,simprocAttr]
  rw [hp]
  refine ku [2] (kf (o.kind::(bL o).take 0) (by simp [bL])) rfl (by simp [aa,ah,aM,ay,bL,go_sem,simprocAttr]) (by simp [ay]) rfl ?_; simp only [go_sem,simprocAttr]
  refine az (by decide) ?_
  simp only [go_sem,simprocAttr]
  exact fQ (aC:=[]) ⟨rfl,rfl⟩ rfl rfl rfl
 ·simp only [Nat.le_refl,Nat.zero_le,Nat.sub_zero,Nat.reduceLeDiff,List.length_append,go_sem,simprocAttr]
  rw [hp]
  refine ku [2] (kf (o.kind::(bL o).take 1) (by simp [bL])) rfl (by simp [aa,ah,aM,ay,bL,go_sem,simprocAttr]) (by simp [ay]) rfl ?_; simp only [go_sem,simprocAttr]
  refine az (by decide) ?_
  simp only [go_sem,simprocAttr]
  exact fQ (aC:=[]) ⟨rfl,rfl⟩ rfl rfl rfl
 ·simp only [Nat.le_refl,Nat.zero_le,Nat.sub_zero,Nat.reduceLeDiff,List.length_append,go_sem,simprocAttr]
  rw [hp]
  refine ku [2] (kf (o.kind::(bL o).take 2) (by simp [bL])) rfl (by simp [aa,ah,aM,ay,bL,go_sem,simprocAttr]) (by simp [ay]) rfl ?_; simp only [go_sem,simprocAttr]
  refine az (by decide) ?_
  simp only [go_sem,simprocAttr]
  exact fQ (aC:=[]) ⟨rfl,rfl⟩ rfl rfl rfl
 ·simp only [Nat.le_refl,Nat.zero_le,Nat.sub_zero,Nat.reduceLeDiff,List.length_append,go_sem,simprocAttr]
  rw [hp]
  refine ku [2] (kf (o.kind::(bL o).take 3) (by simp [bL])) rfl (by simp [aa,ah,aM,ay,bL,go_sem,simprocAttr]) (by simp [ay]) rfl ?_; simp only [go_sem,simprocAttr]
  refine az (by decide) ?_
  simp only [go_sem,simprocAttr]
  exact fQ (aC:=[]) ⟨rfl,rfl⟩ rfl rfl rfl
 ·simp only [Nat.le_refl,Nat.zero_le,Nat.sub_zero,Nat.reduceLeDiff,List.length_append,go_sem,simprocAttr]
  rw [hp]
  refine ku [2] (kf (o.kind::(bL o).take 4) (by simp [bL])) rfl (by simp [aa,ah,aM,ay,bL,go_sem,simprocAttr]) (by simp [ay]) rfl ?_; simp only [go_sem,simprocAttr]
  refine az (by decide) ?_
  simp only [go_sem,simprocAttr]
  exact fQ (aC:=[]) ⟨rfl,rfl⟩ rfl rfl rfl
 ·simp only [Nat.le_refl,Nat.zero_le,Nat.sub_zero,Nat.reduceLeDiff,List.length_append,go_sem,simprocAttr]
  rw [hp]
  refine ku [2] (kf (o.kind::(bL o).take 5) (by simp [bL])) rfl (by simp [aa,ah,aM,ay,bL,go_sem,simprocAttr]) (by simp [ay]) rfl ?_; simp only [go_sem,simprocAttr]
  refine az (by decide) ?_
  simp only [go_sem,simprocAttr]
  exact fQ (aC:=[]) ⟨rfl,rfl⟩ rfl rfl rfl
 ·simp only [Nat.le_refl,Nat.zero_le,Nat.sub_zero,Nat.reduceLeDiff,List.length_append,go_sem,simprocAttr]
  rw [hp]
  refine ku [2] (kf (o.kind::(bL o).take 6) (by simp [bL])) rfl (by simp [aa,ah,aM,ay,bL,go_sem,simprocAttr]) (by simp [ay]) rfl ?_; simp only [go_sem,simprocAttr]
  refine az (by decide) ?_
  simp only [go_sem,simprocAttr]
  exact fQ (aC:=[]) ⟨rfl,rfl⟩ rfl rfl rfl
end Dv
set_option maxRecDepth 100000
namespace Dv
open Go Go.Proofs
variable {G:Nat→Option (List DV)}
def Vk:=qx Tryz.f133
theorem RT:aq Tryz.prog Tryz.f133=some Vk:=by kernel_rfl
attribute [local go_sem] af
def AO (q:Option dH):LV:=.dM [rS (q.getD BJ),.bool q.isSome]
def kindOk (k:Int):Bool:=decide (1≤k∧k≤21)
def oZ (b:List Int):Option dH:=match kn b 0 7 with
 | none=>none
 | some (xs,e)=>if e=b.length∧0<xs.length∧kindOk (xs.getD 0 0)=true∧xs.length=cq (xs.getD 0 0)+1∧dX (o5 (xs.getD 0 0) (xs.drop 1))=true then some (o5 (xs.getD 0 0) (xs.drop 1)) else none
theorem PU (k:Int):((nameOf k).toList==(⟨#[]⟩:ByteArray).toList) = !kindOk k:=by
 by_cases h:1≤k∧k≤21
 ·rw [AW k h]; unfold kindOk; rw [decide_eq_true h]; rfl
 ·rw [qT k h]; unfold kindOk; rw [decide_eq_false h]; decide +kernel
set_option maxHeartbeats 2000000 in
theorem Mz (b:List Int) (hb:∀ c∈b,0≤c∧c≤255) (hl:b.length≤1000000):br Tryz.prog eD 133 [af b] [] (AO (oZ b)) []:=by
 have hlb:(ak b).length=b.length:=by simp [ak]
 refine bD Tryz.func133 (by decide) RT rfl ?_
 generalize hq:oZ b=q
 unfold oZ at hq
 simp only [Vk,go_sem,simprocAttr]
 cases hL:kn b 0 7 with
 | none=>
   rw [hL] at hq
   subst hq
   refine av (kS b hb hl 7 (by decide) none hL) rfl rfl rfl rfl ?_
   simp only [y9,y_,go_sem,simprocAttr]
   exact fQ (aC:=[]) ⟨rfl,rfl⟩ rfl rfl rfl
 | some xe=>
 obtain ⟨xs,e⟩:=xe
 obtain ⟨h1,h2,h3⟩:=ug (fun c hc=>(hb c hc).1) hL
 rw [hL] at hq
 dsimp only at hq
 refine fO (kS b hb hl 7 (by decide) (some (xs,e)) hL) rfl rfl rfl ?_
 simp only [y9,y_,hlb,go_sem,simprocAttr]
 by_cases he:e=b.length
 case neg=>
  rw [if_neg (fun h=>he h.1)] at hq
  subst hq
  simp only [show (((e:Nat):Int) !=((b.length:Nat):Int))=true from bne_iff_ne.2 (by omega),go_sem,simprocAttr]
  exact fQ (aC:=[]) ⟨rfl,rfl⟩ rfl rfl rfl
 simp only [show (((e:Nat):Int) !=((b.length:Nat):Int))=false by rw [he]; simp,go_sem,simprocAttr]
 by_cases h0:0<xs.length
 case neg=>
  rw [if_neg (fun h=>h0 h.2.1)] at hq
  subst hq
  simp only [show (((xs.length:Nat):Int)==0)=true from beq_iff_eq.2 (by omega),go_sem,simprocAttr]
  exact fQ (aC:=[]) ⟨rfl,rfl⟩ rfl rfl rfl
 have hg:=aB (f:=fun n:Int=>[i64 n]) 0 h0
 have hxr:=h2 (xs.getD 0 0) (by simp [List.getD,h0])
 generalize hx:xs.getD 0 0=x at *
 have Ir:(bT xs)[0]? = some [DV.val (.int .i64 x)]:=hg
 have hnl:(bT xs).length=xs.length:=by simp [bT]
 simp only [show (((xs.length:Nat):Int)==0)=false from beq_eq_false_iff_ne.2 (by omega),h0,Ir,hnl,go_sem,simprocAttr]
 refine av (Ee x) rfl rfl rfl rfl ?_; simp only [go_sem,simprocAttr]
 simp only [PU,go_sem,simprocAttr]
 cases hk:kindOk x with
 | false=>
   rw [if_neg (fun h=>by rw [hk] at h; exact absurd h.2.2.1 (by decide))] at hq
   subst hq
   simp only [go_sem,simprocAttr]
   exact fQ (aC:=[]) ⟨rfl,rfl⟩ rfl rfl rfl
 | true=>
 have hkk:1≤x∧x≤21:=of_decide_eq_true hk
 have hx0:0≤x:=by omega
 have hx1:x.toNat<22:=by omega
 have hm:=ny x
 have hw:IntKind.i64.wrap ((cq x:Nat)+1:Int)=((cq x+1:Nat):Int):=by rw [aD (by omega) (by omega)]; rfl
 simp only [h0,Ir,hnl,sY,hx0,hx1,Nat.mul_one,Cm x hkk,hw,go_sem,simprocAttr]
 by_cases hlen:xs.length=cq x+1
 case neg=>
  rw [if_neg (fun h=>hlen h.2.2.2.1)] at hq
  subst hq
  simp only [show (((xs.length:Nat):Int) !=((cq x+1:Nat):Int))=true from bne_iff_ne.2 (by omega),go_sem,simprocAttr]
  exact fQ (aC:=[]) ⟨rfl,rfl⟩ rfl rfl rfl
 simp only [show (((xs.length:Nat):Int) !=((cq x+1:Nat):Int))=false by rw [hlen]; simp,h0,Ir,hnl,go_sem,simprocAttr]
 rw [if_pos (show 1≤xs.length∧xs.length≤xs.length by omega)]
 have hdr:(xs.drop 1).length≤6:=by rw [List.length_drop]; omega
 have hrows:List.take (xs.length-1) ((bT xs).drop 1)=bT (xs.drop 1):=by
  rw [List.take_of_length_le (by rw [List.length_drop,hnl]; omega)]
  simp only [bT,List.map_drop]
 have Gx:List.take (xs.length-1) (bT xs).tail=bT xs.tail:=by rw [← List.drop_one,← List.drop_one]; exact hrows
 have XN:1+(xs.length-1)≤xs.length:=by omega
 simp only [go_sem,simprocAttr]
 refine qz [1] (WI x (xs.drop 1) hdr) rfl (by simp [aa,ah,aM,ay,Gx,hnl,XN,go_sem,simprocAttr]) (by simp [ay]) rfl rfl ?_; simp only [go_sem,simprocAttr]
 rw [show (if e=b.length∧0<xs.length∧kindOk x=true∧xs.length=cq x+1∧dX (o5 x (xs.drop 1))=true then some (o5 x (xs.drop 1)) else none)=if dX (o5 x (xs.drop 1))=true then some (o5 x (xs.drop 1)) else none by
  by_cases ho:dX (o5 x (xs.drop 1))=true
  ·rw [if_pos ⟨he,h0,hk,hlen,ho⟩,if_pos ho]
  ·rw [if_neg (fun h=>ho h.2.2.2.2),if_neg ho]] at hq
 generalize o5 x (xs.drop 1)=o at *
 refine az (by decide) ?_
 simp only [go_sem,simprocAttr]
 refine av (oa o) rfl rfl rfl rfl ?_; simp only [go_sem,simprocAttr]
 cases hr:dX o with
 | false=>
   rw [if_neg (by rw [hr]; decide)] at hq
   subst hq
   simp only [go_sem,simprocAttr]
   exact fQ (aC:=[]) ⟨rfl,rfl⟩ rfl rfl rfl
 | true=>
   rw [if_pos hr] at hq
   subst hq
   simp only [go_sem,simprocAttr]
   exact fQ (aC:=[]) ⟨rfl,rfl⟩ rfl rfl rfl
end Dv
