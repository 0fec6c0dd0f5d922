/- The logical machine and its plain laws: parts D9, D10, D11, D12, D13, D14, proved sound. -/
import Derived.Test.YtkalnfkokkjliaaGreatDoorD7
import Derived.Test.YtkalnfkokkjliaaGreatDoorPA
set_option linter.unusedVariables false
set_option linter.unusedSimpArgs false
set_option maxRecDepth 100000
namespace Dv
open Go Go.Proofs
variable {G:Nat→Option (List DV)}
def Uh:=qx Tryz.f219
theorem QM:aq Tryz.prog Tryz.f219=some Uh:=by kernel_rfl
def TS:=qx Tryz.f264
theorem Qm:aq Tryz.prog Tryz.f264=some TS:=by kernel_rfl
def Uf:=qx Tryz.f221
theorem QK:aq Tryz.prog Tryz.f221=some Uf:=by kernel_rfl
def U7:=qx Tryz.f148
theorem RE:aq Tryz.prog Tryz.f148=some U7:=by kernel_rfl
def U6:=qx Tryz.f149
theorem RD:aq Tryz.prog Tryz.f149=some U6:=by kernel_rfl
def U5:=qx Tryz.f150
theorem RC:aq Tryz.prog Tryz.f150=some U5:=by kernel_rfl
def U8:=qx Tryz.f147
theorem RF:aq Tryz.prog Tryz.f147=some U8:=by kernel_rfl
def UP:=qx Tryz.f165
theorem Rn:aq Tryz.prog Tryz.f165=some UP:=by kernel_rfl
def U_:=qx Tryz.f145
theorem RH:aq Tryz.prog Tryz.f145=some U_:=by kernel_rfl
@[reducible] def bZ (c:aI) (s:ai) (o:dH) (jp np:LV):List aG:=
 [.box 133 [.int c.nodes,.int c.bn,.int c.cv,.int c.gJ,.int c.eF,.int c.eE,.int c.deadline,.int c.room,.int c.gq,
  .sl 1 s.nodes.length 5 0 s.nodes.length,.sl 2 s.jobs.length 12 0 s.jobs.length,.int s.goal,.int s.bH,.int s.mode,.int s.term,
  .int o.kind,.int o.a,.int o.b,.int o.c,.int o.d,.int o.e,.int o.f,jp,np],
  .dat 102 5 (s.nodes.map a_),.dat 119 12 (s.jobs.map cQ)]
@[reducible] def gG:LV:=.d (.val (.pointer none))
theorem Dl (ok:Bool) (e:Int):br Tryz.prog G 264 [.bool ok,.int e] [] (.int (if ok=true then 0 else e)) []:=by
 refine b_ Tryz.func264 (by decide) Qm rfl rfl ?_
 simp only [TS,go_sem,simprocAttr]
 cases ok <;> simp only [go_sem,simprocAttr,Bool.false_eq_true]
theorem xI (c:aI) (s:ai) (o:dH) (ok:Bool) (to:Int):br Tryz.prog G 221 [.ptr 0 0,.bool ok,.int to] (bZ c s o gG gG) (.int (gr s ok to).2) (bZ c (gr s ok to).1 o gG gG):=by
 refine aY Tryz.func221 (by decide) QK rfl rfl rfl rfl ?_
 simp only [Uf,go_sem,simprocAttr]
 cases ok with
 | true=>
   simp only [go_sem,simprocAttr]
   refine av (Dl true 5) rfl rfl rfl rfl ?_; simp only [go_sem,simprocAttr]
   simp only [gr,go_sem,simprocAttr]
 | false=>
   simp only [go_sem,simprocAttr]
   refine av (Dl false 5) rfl rfl rfl rfl ?_; simp only [go_sem,simprocAttr]
   simp only [gr,go_sem,simprocAttr,Bool.false_eq_true]
theorem Jy (c:aI) (s:ai) (o:dH):br Tryz.prog G 148 [.ptr 0 0] (bZ c s o gG gG) (.int (gr s (s.mode==0) 1).2) (bZ c (gr s (s.mode==0) 1).1 o gG gG):=by
 refine aY Tryz.func148 (by decide) RE rfl rfl rfl rfl ?_
 simp only [U7,go_sem,simprocAttr]
 refine au [0,1,2] (xI c s o (s.mode==0) 1) rfl ?_ (by decide) ?_ ?_ (by simp) ?_ <;> simp only [aa,ah,go_sem,simprocAttr,bZ,List.length_range]
theorem F1 (c:aI) (s:ai) (o:dH):br Tryz.prog G 149 [.ptr 0 0] (bZ c s o gG gG) (.int (gr s (s.mode==1) 0).2) (bZ c (gr s (s.mode==1) 0).1 o gG gG):=by
 refine aY Tryz.func149 (by decide) RD rfl rfl rfl rfl ?_
 simp only [U6,go_sem,simprocAttr]
 refine au [0,1,2] (xI c s o (s.mode==1) 0) rfl ?_ (by decide) ?_ ?_ (by simp) ?_ <;> simp only [aa,ah,go_sem,simprocAttr,bZ]
theorem Lq (c:aI) (s:ai) (o:dH):br Tryz.prog G 150 [.ptr 0 0] (bZ c s o gG gG) (.int (gr s (s.mode !=2) 2).2) (bZ c (gr s (s.mode !=2) 2).1 o gG gG):=by
 refine aY Tryz.func150 (by decide) RC rfl rfl rfl rfl ?_
 simp only [U5,go_sem,simprocAttr]
 refine au [0,1,2] (xI c s o (s.mode !=2) 2) rfl ?_ (by decide) ?_ ?_ (by simp) ?_ <;> simp only [aa,ah,go_sem,simprocAttr,bZ]
theorem Eb (c:aI) (s:ai) (o:dH) (ht:s.term≤1000000) (h0:0≤s.term):br Tryz.prog G 165 [.ptr 0 0] (bZ c s o gG gG) (.int (iG s).2) (bZ c (iG s).1 o gG gG):=by
 refine aY Tryz.func165 (by decide) Rn rfl rfl rfl rfl ?_
 simp only [UP,go_sem,simprocAttr]
 have hw:IntKind.i64.wrap (s.term+1)=s.term+1:=aD (by omega) (by omega)
 refine aJ (fun h=>?_) (fun h=>?_) <;> simp only [h,go_sem,simprocAttr] <;> (try simp only [beq_iff_eq,beq_eq_false_iff_ne,bne_iff_ne,ne_eq,decide_eq_true_eq,decide_eq_false_iff_not,Bool.not_true,Bool.not_false,Bool.not_eq_true,Bool.not_eq_false,bne_eq_false_iff_eq,Decidable.not_not] at h)
 ·simp only [iG,h,ge_iff_le,go_sem,simprocAttr]
 ·simp only [iG,h,ge_iff_le,hw,go_sem,simprocAttr]
theorem FH (c:aI) (s:ai) (o:dH) (hn:s.nodes.length≤1000) (hj:s.jobs.length≤1000):br Tryz.prog G 147 [.ptr 0 0] (bZ c s o gG gG) (.int (jT s o).2) (bZ c (jT s o).1 o gG gG):=by
 refine aY Tryz.func147 (by decide) RF rfl rfl rfl rfl ?_
 simp only [U8,go_sem,simprocAttr]
 refine av (fk _ _ _) rfl rfl rfl rfl ?_; simp only [go_sem,simprocAttr]
 cases h:aT o.a 1 9 with
 | false=>simp only [jT,h,go_sem,simprocAttr]
 | true=>
   simp only [go_sem,simprocAttr]
   refine qz [1,2] (JN s) rfl (by simp [aa,ah,aM,ay,List.take_of_length_le,go_sem,simprocAttr]) (by simp [ay]) rfl rfl ?_; simp only [go_sem,simprocAttr]
   refine az rfl ?_
   simp only [jT,h,go_sem,simprocAttr,Bool.true_eq_false]
theorem FJ (c:aI) (s:ai) (o:dH) (h0:1≤c.bn∧c.bn≤1000) (hj:s.jobs.length≤1000):br Tryz.prog G 145 [.ptr 0 0] (bZ c s o gG gG) (.int (jf c s o).2) (bZ c (jf c s o).1 o gG gG):=by
 refine aY Tryz.func145 (by decide) RH rfl rfl rfl rfl ?_
 simp only [U_,go_sem,simprocAttr]
 refine bA (BB c (gD o) h0) rfl rfl rfl rfl ?_; simp only [go_sem,simprocAttr]
 cases ha:gV c (gD o) with
 | false=>simp only [jf,ha,go_sem,simprocAttr]
 | true=>
   simp only [go_sem,simprocAttr]
   have hl:(s.jobs.length+1)*96≤70368744177664:=by omega
   refine aJ (fun h=>?_) (fun h=>?_) <;> simp only [h,go_sem,simprocAttr] <;> (try simp only [beq_iff_eq,beq_eq_false_iff_ne,bne_iff_ne,ne_eq,decide_eq_true_eq,decide_eq_false_iff_not,Bool.not_true,Bool.not_false,Bool.not_eq_true,Bool.not_eq_false,bne_eq_false_iff_eq,Decidable.not_not] at h)
   ·simp only [jf,ha,h,ge_iff_le,go_sem,simprocAttr,Bool.true_eq_false,show 24≤s.jobs.length by omega]
   ·have hh:¬ 24≤s.jobs.length:=by omega
    simp only [List.length_append,hl,go_sem,simprocAttr]
    refine az rfl ?_
    simp only [jf,ha,hh,List.map_append,List.length_append,go_sem,simprocAttr,Bool.true_eq_false]
    simp only [gD,go_sem,simprocAttr]
def pN (c:aI) (s:ai) (o:dH) (jp np:LV) (number phase:Int) (k:Nat):St:=⟨[(0,.ptr 0 0),(1,.int number),(2,.int phase),(6,.rp 2 s.jobs.length 12 (number-1).toNat 0),(21,.int s.nodes.length),(22,.int k)],
 [some (.box 133 [.int c.nodes,.int c.bn,.int c.cv,.int c.gJ,.int c.eF,.int c.eE,.int c.deadline,.int c.room,.int c.gq,
  .sl 1 s.nodes.length 5 0 s.nodes.length,.sl 2 s.jobs.length 12 0 s.jobs.length,.int s.goal,.int s.bH,.int s.mode,.int s.term,
  .int o.kind,.int o.a,.int o.b,.int o.c,.int o.d,.int o.e,.int o.f,jp,np]),
  some (.dat 102 5 ((fD (lets number) s.nodes k).map a_)),some (.dat 119 12 (s.jobs.map cQ))]⟩
theorem j8 (c:aI) (s:ai) (o:dH) (jp np:LV) (number phase:Int) (hjp:eU 3 jp=true) (hnp:eU 3 np=true) (h1:1≤number) (h2:number≤s.jobs.length) (hn:s.nodes.length≤1000) (hj:s.jobs.length≤1000) :
  br Tryz.prog G 219 [.ptr 0 0,.int number,.int phase] (bZ c s o jp np) (.dM []) (bZ c (eA s number phase) o jp np):=by
 refine aY Tryz.func219 (by decide) QM rfl rfl (by simp [dQ,eU,eX,hjp,hnp,LV.int]) rfl ?_
 have hw:IntKind.i64.wrap (number-1)=number-1:=aD (by omega) (by omega)
 have h3:0≤number-1:=by omega
 have h4:(number-1).toNat<s.jobs.length:=by omega
 simp only [Uh,hw,h3,h4,go_sem,simprocAttr]
 refine aP [0,1,2,6,21,22] [] (fun k:Nat=>k≤s.nodes.length) (fun k=>s.nodes.length-k) (pN c s o jp np number phase) 0 ?_ (Nat.zero_le _) (fun k hk=>?_)
 ·simp only [pN,go_sem,simprocAttr,nU,Int.natCast_zero]
 simp only [pN,go_sem,simprocAttr]
 refine aJ (fun h=>?_) (fun h=>?_)
 ·have h:=dz h
  have hg:((fD (lets number) s.nodes k).map a_)[k]? = some (a_ s.nodes[k]):=by rw [List.getElem?_map,ta _ _ h]; rfl
  simp only [h,hg,gX,go_sem,simprocAttr]
  refine aJ (fun hq=>?_) (fun hq=>?_) <;> simp only [hq,go_sem,simprocAttr] <;> (try simp only [beq_iff_eq,beq_eq_false_iff_ne,bne_iff_ne,ne_eq,decide_eq_true_eq,decide_eq_false_iff_not,Bool.not_true,Bool.not_false,Bool.not_eq_true,Bool.not_eq_false,bne_eq_false_iff_eq,Decidable.not_not] at hq)
  ·have hs:((fD (lets number) s.nodes k).map a_).set k (a_ { s.nodes[k] with bW:=0 })=(fD (lets number) s.nodes (k+1)).map a_:=by
    rw [← List.map_set,mY _ _ h (by simp only [lets,hq,if_true])]
   simp only [a_] at hs
   simp only [h,hg,gX,go_sem,simprocAttr]
   refine aR (k+1) ?_ ?_ (by omega) (by omega)
   ·simp only [go_sem,simprocAttr,hjp,hnp]
   ·simp only [pN,go_sem,simprocAttr,ax (show k<9223372036854775807 by omega),hs]
  ·have hs:=nV (lets number) s.nodes h (by simp only [lets,hq,if_false])
   refine aR (k+1) ?_ ?_ (by omega) (by omega)
   ·simp only [go_sem,simprocAttr,hjp,hnp]
   ·simp only [pN,go_sem,simprocAttr,ax (show k<9223372036854775807 by omega),hs]
 ·obtain rfl:=dA h hk
  have hg2:=aB (f:=cQ) aK h4
  simp only [hg2,nW,go_sem,simprocAttr]
  simp only [List.getElem?_set_self,h4,List.set_set,List.length_set,go_sem,simprocAttr]
  simp only [eA,bG,List.map_set,List.length_set,List.length_mapIdx,go_sem,simprocAttr]
end Dv
set_option maxRecDepth 100000
namespace Dv
open Go Go.Proofs
variable {G:Nat→Option (List DV)}
def Ue:=qx Tryz.f222
theorem QJ:aq Tryz.prog Tryz.f222=some Ue:=by kernel_rfl
def UU:=qx Tryz.f160
theorem Rs:aq Tryz.prog Tryz.f160=some UU:=by kernel_rfl
def UT:=qx Tryz.f161
theorem Rr:aq Tryz.prog Tryz.f161=some UT:=by kernel_rfl
def US:=qx Tryz.f162
theorem Rq:aq Tryz.prog Tryz.f162=some US:=by kernel_rfl
def UR:=qx Tryz.f163
theorem Rp:aq Tryz.prog Tryz.f163=some UR:=by kernel_rfl
def U3:=qx Tryz.f152
theorem RA:aq Tryz.prog Tryz.f152=some U3:=by kernel_rfl
def U4:=qx Tryz.f151
theorem RB:aq Tryz.prog Tryz.f151=some U4:=by kernel_rfl
def Ud:=qx Tryz.f223
theorem QI:aq Tryz.prog Tryz.f223=some Ud:=by kernel_rfl
def U9:=qx Tryz.f146
theorem RG:aq Tryz.prog Tryz.f146=some U9:=by kernel_rfl
def U1:=qx Tryz.f154
theorem Ry:aq Tryz.prog Tryz.f154=some U1:=by kernel_rfl
def U0:=qx Tryz.f155
theorem Rx:aq Tryz.prog Tryz.f155=some U0:=by kernel_rfl
def UZ:=qx Tryz.f156
theorem Rw:aq Tryz.prog Tryz.f156=some UZ:=by kernel_rfl
def UY:=qx Tryz.f157
theorem Rv:aq Tryz.prog Tryz.f157=some UY:=by kernel_rfl
def UX:=qx Tryz.f158
theorem Ru:aq Tryz.prog Tryz.f158=some UX:=by kernel_rfl
def UW:=qx Tryz.f159
theorem Rt:aq Tryz.prog Tryz.f159=some UW:=by kernel_rfl
def vu (s:ai) (j:ct) (nodes:Int) (f:Nat) (kv:Nat×Int):St:=⟨[(2,.int nodes),(3,.fn (.func f) [] []),(9,.int kv.2),(36,bK s.nodes),(37,.int s.nodes.length),(38,.int kv.1)],[some (.box 30 [bK s.nodes,cA s.jobs,.int s.goal,.int s.bH,.int s.mode,.int s.term]),some (.box 119 [.int j.queue,.int j.prio,.int j.min,.int j.max,.int j.work,.int j.ia,.int j.phase,.int j.inc,.int j.nodes,.int j.since,.int j.mI,.int j.cK])]⟩
theorem KF (s:ai) (j:ct) (nodes:Int) (f:Nat) (takes:bu→Bool) (hn:s.nodes.length≤6) (hT:∀ n,br Tryz.prog G f [yD n] [] (.bool (takes n)) []) :
  br Tryz.prog G 196 [bz s,Gm j,.int nodes,.fn (.func f) [] []] [] (.bool (jE s.nodes j nodes takes)) []:=by
 refine b_ Tryz.func196 (by decide) H8 rfl rfl ?_
 have hp:(2:Int) ^ s.nodes.length≤64∧1≤(2:Int) ^ s.nodes.length:=by
  have:s.nodes.length=0∨s.nodes.length=1∨s.nodes.length=2∨s.nodes.length=3∨s.nodes.length=4∨s.nodes.length=5∨s.nodes.length=6:=by omega
  rcases this with h | h | h | h | h | h | h <;> rw [h] <;> decide
 have hw:=wQ s.nodes.length hn
 simp only [M5,go_sem,simprocAttr,hw]
 unfold jE
 have none:∀ {x y:Prop} [Decidable x] [Decidable y] {b:Bool},x∨y→(if x∨y then false else b)=false:=fun h=>by rw [if_pos h]
 refine i_ (fun h1=>?_) (fun h1=>?_) <;> simp only [h1,go_sem,simprocAttr] <;> (try simp only [beq_iff_eq,beq_eq_false_iff_ne,bne_iff_ne,ne_eq,decide_eq_true_eq,decide_eq_false_iff_not,Bool.not_true,Bool.not_false,Bool.not_eq_true,Bool.not_eq_false,bne_eq_false_iff_eq,Decidable.not_not] at h1)
 ·simp only [hw]
  refine i_ (fun h2=>?_) (fun h2=>?_) <;> simp only [h2,go_sem,simprocAttr] <;> (try simp only [beq_iff_eq,beq_eq_false_iff_ne,bne_iff_ne,ne_eq,decide_eq_true_eq,decide_eq_false_iff_not,Bool.not_true,Bool.not_false,Bool.not_eq_true,Bool.not_eq_false,bne_eq_false_iff_eq,Decidable.not_not] at h2)
  ·obtain ⟨m,rfl⟩:=Int.eq_ofNat_of_zero_le (show 0≤nodes by omega)
   have hm:m<64:=by omega
   have Z0:IntKind.u64.wrap (m:Int)=m:=by simp [IntKind.wrap,IntKind.bits,IntKind.signed]; omega
   rw [if_neg (by omega)]
   simp only [Z0]
   refine bA (yw m hm) rfl rfl rfl rfl ?_; simp only [go_sem,simprocAttr]
   refine bA (fk _ _ _) rfl rfl rfl rfl ?_; simp only [go_sem,simprocAttr]
   cases hb:aT (many m) j.min j.max with
   | false=>simp only [go_sem,simprocAttr]
   | true=>
     simp only [go_sem,simprocAttr]
     generalize hF0:eC m takes s.nodes 0 j.ia=r
     refine aP [2,3,9,36,37,38] [] (fun kv:Nat×Int=>kv.1≤s.nodes.length∧eC m takes (s.nodes.drop kv.1) kv.1 kv.2=r) (fun kv=>s.nodes.length-kv.1) (vu s j m f) (0,j.ia) ?_ ⟨Nat.zero_le _,hF0⟩ ?_
     ·simp only [vu,go_sem,simprocAttr,Int.natCast_zero]
     rintro ⟨k,v⟩ ⟨hk,hF⟩
     dsimp only at hk hF
     simp only [vu,go_sem,simprocAttr]
     refine aJ (fun h=>?_) (fun h=>?_)
     ·have h:=dz h
      rw [List.drop_eq_getElem_cons h] at hF
      unfold eC at hF
      simp only [get_map h,go_sem,simprocAttr,IN (m:Int) k (by omega)]
      have go:∀ v',eC m takes (s.nodes.drop (k+1)) (k+1) v'=r→(k+1,v').1≤s.nodes.length∧eC m takes (s.nodes.drop (k+1,v').1) (k+1,v').1 (k+1,v').2=r:=fun v' h'=>⟨h,h'⟩
      cases EC:hasB (m:Int) k with
      | false=>
        rw [if_pos EC] at hF
        simp only [go_sem,simprocAttr]
        refine aR (k+1,v) ?_ ?_ (go _ hF) (by dsimp only; omega)
        ·simp only [go_sem,simprocAttr]
        ·simp only [vu,go_sem,simprocAttr,ax (show k<9223372036854775807 by omega)]
      | true=>
        rw [if_neg (by simp [EC])] at hF
        simp only [go_sem,simprocAttr]
        refine aJ (fun hv=>?_) (fun hv=>?_) <;> simp only [hv,go_sem,simprocAttr] <;> (try simp only [beq_iff_eq,beq_eq_false_iff_ne,bne_iff_ne,ne_eq,decide_eq_true_eq,decide_eq_false_iff_not,Bool.not_true,Bool.not_false,Bool.not_eq_true,Bool.not_eq_false,bne_eq_false_iff_eq,Decidable.not_not] at hv)
        ·rw [if_pos hv] at hF
         refine av (hT s.nodes[k]) rfl rfl rfl rfl ?_; simp only [go_sem,simprocAttr]
         cases ht:takes s.nodes[k] with
         | false=>
           rw [if_neg (by simp [ht])] at hF
           simp only [go_sem,simprocAttr,← hF]
         | true=>
           by_cases hq:s.nodes[k].version=s.nodes[k].version
           ·rw [if_pos ⟨ht,hq⟩] at hF
            have hq1:(s.nodes[k].version !=s.nodes[k].version)=false:=by simp [← hq]
            simp only [go_sem,simprocAttr,hq1]
            refine aR (k+1,s.nodes[k].version) ?_ ?_ (go _ hF) (by dsimp only; omega)
            ·simp only [go_sem,simprocAttr]
            ·simp only [vu,go_sem,simprocAttr,ax (show k<9223372036854775807 by omega)]
           ·rw [if_neg (fun h'=>hq h'.2)] at hF
            have hq1:(s.nodes[k].version !=s.nodes[k].version)=true:=bne_iff_ne.2 hq
            simp only [go_sem,simprocAttr,hq1,← hF]
        ·rw [if_neg hv] at hF
         refine av (hT s.nodes[k]) rfl rfl rfl rfl ?_; simp only [go_sem,simprocAttr]
         cases ht:takes s.nodes[k] with
         | false=>
           rw [if_neg (by simp [ht])] at hF
           simp only [go_sem,simprocAttr,← hF]
         | true=>
           by_cases hq:s.nodes[k].version=v
           ·rw [if_pos ⟨ht,hq⟩] at hF
            have hq1:(s.nodes[k].version !=v)=false:=by simp [← hq]
            simp only [go_sem,simprocAttr,hq1]
            refine aR (k+1,v) ?_ ?_ (go _ hF) (by dsimp only; omega)
            ·simp only [go_sem,simprocAttr]
            ·simp only [vu,go_sem,simprocAttr,ax (show k<9223372036854775807 by omega)]
           ·rw [if_neg (fun h'=>hq h'.2)] at hF
            have hq1:(s.nodes[k].version !=v)=true:=bne_iff_ne.2 hq
            simp only [go_sem,simprocAttr,hq1,← hF]
     ·obtain rfl:=dA h hk
      rw [List.drop_length] at hF
      simp only [go_sem,simprocAttr,← hF,eC]
  ·rw [if_pos (.inr h2)]
 ·rw [if_pos (.inl h1)]
theorem Oc (n:bu):br Tryz.prog G 222 [yD n] [] (.bool (jr n)) []:=by
 refine b_ Tryz.func222 (by decide) QJ rfl rfl ?_
 simp only [Ue,go_sem,simprocAttr]
 unfold jr
 cases h1:n.up <;> cases h2:n.bV <;> cases h3:n.aU <;> simp only [h1,h2,h3,go_sem,simprocAttr] <;> rfl
section
variable (c:aI) (s:ai) (o:dH) (i:Nat) (hi:i<s.nodes.length) (ha:o.a=i)
include hi ha
theorem GY:br Tryz.prog G 160 [.ptr 0 0] (bZ c s o gG (.rp 1 s.nodes.length 5 i 0)) (.int (kW s o).2) (bZ c (kW s o).1 o gG (.rp 1 s.nodes.length 5 i 0)):=by
 refine aY Tryz.func160 (by decide) Rs rfl rfl rfl rfl ?_
 simp only [UU,go_sem,simprocAttr]
 have hg:=aB (f:=a_) an hi
 have ha2:o.a.toNat=i:=by omega
 have hN:bg s o.a=s.nodes.getD i an:=by unfold bg; rw [ha2]
 generalize s.nodes.getD i an=n at *
 cases hu:n.up <;> cases hc:n.bV <;> simp only [hg,hu,hc,go_sem,simprocAttr] <;> simp only [kW,hu,hc,fo,hN,ha2,List.map_set,List.length_set,List.set_set,go_sem,simprocAttr,Bool.true_eq_false,Bool.false_eq_true,ne_eq,not_true,not_false_eq_true,or_self]
theorem BO:br Tryz.prog G 161 [.ptr 0 0] (bZ c s o gG (.rp 1 s.nodes.length 5 i 0)) (.int (gY s o).2) (bZ c (gY s o).1 o gG (.rp 1 s.nodes.length 5 i 0)):=by
 refine aY Tryz.func161 (by decide) Rr rfl rfl rfl rfl ?_
 simp only [UT,go_sem,simprocAttr]
 have hg:=aB (f:=a_) an hi
 have ha2:o.a.toNat=i:=by omega
 have hN:bg s o.a=s.nodes.getD i an:=by unfold bg; rw [ha2]
 generalize s.nodes.getD i an=n at *
 cases hu:n.aU <;> cases hc:n.bV <;> simp only [hg,hu,hc,go_sem,simprocAttr] <;> simp only [gY,hu,hc,fo,hN,ha2,List.map_set,List.length_set,List.set_set,go_sem,simprocAttr,Bool.true_eq_false,Bool.false_eq_true,ne_eq,not_true,not_false_eq_true,or_self]
theorem MJ:br Tryz.prog G 162 [.ptr 0 0] (bZ c s o gG (.rp 1 s.nodes.length 5 i 0)) (.int (tR s o).2) (bZ c (tR s o).1 o gG (.rp 1 s.nodes.length 5 i 0)):=by
 refine aY Tryz.func162 (by decide) Rq rfl rfl rfl rfl ?_
 simp only [US,go_sem,simprocAttr]
 have hg:=aB (f:=a_) an hi
 have ha2:o.a.toNat=i:=by omega
 have hN:bg s o.a=s.nodes.getD i an:=by unfold bg; rw [ha2]
 generalize s.nodes.getD i an=n at *
 cases hu:n.up <;> cases hc:n.bV <;> cases hm:n.aU <;> cases hj:(n.bW !=0) <;> simp only [hg,hu,hc,hm,hj,go_sem,simprocAttr] <;> (simp only [beq_iff_eq,beq_eq_false_iff_ne,bne_iff_ne,ne_eq,decide_eq_true_eq,decide_eq_false_iff_not,Bool.not_true,Bool.not_false,Bool.not_eq_true,Bool.not_eq_false,bne_eq_false_iff_eq,Decidable.not_not] at hj) <;> simp only [tR,hu,hc,hm,hj,fo,hN,ha2,List.map_set,List.length_set,List.set_set,go_sem,simprocAttr,Bool.true_eq_false,Bool.false_eq_true,ne_eq,not_true,not_false_eq_true,or_self]
theorem JJ:br Tryz.prog G 163 [.ptr 0 0] (bZ c s o gG (.rp 1 s.nodes.length 5 i 0)) (.int (lR s o).2) (bZ c (lR s o).1 o gG (.rp 1 s.nodes.length 5 i 0)):=by
 refine aY Tryz.func163 (by decide) Rp rfl rfl rfl rfl ?_
 simp only [UR,go_sem,simprocAttr]
 have hg:=aB (f:=a_) an hi
 have ha2:o.a.toNat=i:=by omega
 have hN:bg s o.a=s.nodes.getD i an:=by unfold bg; rw [ha2]
 generalize s.nodes.getD i an=n at *
 refine av (fk _ _ _) rfl rfl rfl rfl ?_; simp only [go_sem,simprocAttr]
 cases hw:aT o.b 1 9 with
 | false=>simp only [hg,go_sem,simprocAttr]; simp only [lR,hw,fo,hN,ha2,List.map_set,List.length_set,List.set_set,go_sem,simprocAttr,Bool.true_eq_false,Bool.false_eq_true,ne_eq,not_true,not_false_eq_true,or_self]
 | true=>
   cases hm:n.aU with
   | false=>simp only [hg,hm,go_sem,simprocAttr]; simp only [lR,hw,hm,fo,hN,ha2,List.map_set,List.length_set,List.set_set,go_sem,simprocAttr,Bool.true_eq_false,Bool.false_eq_true,ne_eq,not_true,not_false_eq_true,or_self]
   | true=>
     simp only [hg,hm,hi,List.getElem?_set_self,List.length_set,go_sem,simprocAttr]
     refine az rfl ?_
     simp only [lR,hw,hm,fo,hN,ha2,List.map_set,List.length_set,List.set_set,go_sem,simprocAttr,Bool.true_eq_false,Bool.false_eq_true,ne_eq,not_true,not_false_eq_true,or_self]
theorem Wo:br Tryz.prog G 152 [.ptr 0 0] (bZ c s o gG (.rp 1 s.nodes.length 5 i 0)) (.int (LS s o).2) (bZ c (LS s o).1 o gG (.rp 1 s.nodes.length 5 i 0)):=by
 refine aY Tryz.func152 (by decide) RA rfl rfl rfl rfl ?_
 simp only [U3,go_sem,simprocAttr]
 have hg:=aB (f:=a_) an hi
 have ha2:o.a.toNat=i:=by omega
 have hN:bg s o.a=s.nodes.getD i an:=by unfold bg; rw [ha2]
 generalize s.nodes.getD i an=n at *
 refine av (fk _ _ _) rfl rfl rfl rfl ?_; simp only [go_sem,simprocAttr]
 cases hw:aT o.b 1 9 with
 | false=>simp only [hg,go_sem,simprocAttr]; simp only [LS,hw,fo,hN,ha2,List.map_set,List.length_set,List.set_set,go_sem,simprocAttr,Bool.true_eq_false,Bool.false_eq_true,ne_eq,not_true,not_false_eq_true,or_self]
 | true=>
   cases hm:n.up with
   | true=>simp only [hg,hm,go_sem,simprocAttr]; simp only [LS,hw,hm,fo,hN,ha2,List.map_set,List.length_set,List.set_set,go_sem,simprocAttr,Bool.true_eq_false,Bool.false_eq_true,ne_eq,not_true,not_false_eq_true,or_self]
   | false=>
     simp only [hg,hm,hi,List.getElem?_set_self,List.length_set,go_sem,simprocAttr]
     refine az rfl ?_
     simp only [LS,hw,hm,fo,hN,ha2,List.map_set,List.length_set,List.set_set,go_sem,simprocAttr,Bool.true_eq_false,Bool.false_eq_true,ne_eq,not_true,not_false_eq_true,or_self]
end
end Dv
namespace Dv
open Go Go.Proofs
variable {G:Nat→Option (List DV)}
theorem DC (c:aI) (s:ai) (o:dH) (k:Nat) (hk:k<s.jobs.length) (ha:o.a=k+1):br Tryz.prog G 223 [.ptr 0 0] (bZ c s o (.rp 2 s.jobs.length 12 k 0) gG) (.bool (kG (bG s o.a))) (bZ c s o (.rp 2 s.jobs.length 12 k 0) gG):=by
 refine aY Tryz.func223 (by decide) QI rfl rfl rfl rfl ?_
 simp only [Ud,go_sem,simprocAttr]
 have hg:=aB (f:=cQ) aK hk
 have ha2:(o.a-1).toNat=k:=by omega
 have hJ:bG s o.a=s.jobs.getD k aK:=by unfold bG; rw [ha2]
 generalize s.jobs.getD k aK=j at *
 simp only [hg,go_sem,simprocAttr]
 refine bI (fun h=>?_) (fun h=>?_) <;> simp only [h,go_sem,simprocAttr] <;> (try simp only [beq_iff_eq,beq_eq_false_iff_ne,bne_iff_ne,ne_eq,decide_eq_true_eq,decide_eq_false_iff_not,Bool.not_true,Bool.not_false,Bool.not_eq_true,Bool.not_eq_false,bne_eq_false_iff_eq,Decidable.not_not] at h)
 ·have e1:(j.phase==2)=false:=by simpa using h
  simp only [hg,hJ,kG,h,e1,go_sem,simprocAttr]
  rfl
 ·have e1:(j.phase==2)=true:=by simpa using h
  simp only [hJ,kG,h,e1,go_sem,simprocAttr]
theorem G8 (c:aI) (s:ai) (o:dH) (k:Nat) (hk:k<s.jobs.length) (ha:o.a=k+1) (hn:s.nodes.length≤1000) (hj:s.jobs.length≤1000):br Tryz.prog G 146 [.ptr 0 0] (bZ c s o (.rp 2 s.jobs.length 12 k 0) gG) (.int (jZ s o).2) (bZ c (jZ s o).1 o (.rp 2 s.jobs.length 12 k 0) gG):=by
 refine aY Tryz.func146 (by decide) RG rfl rfl rfl rfl ?_
 simp only [U9,go_sem,simprocAttr]
 have hg:=aB (f:=cQ) aK hk
 have ha2:(o.a-1).toNat=k:=by omega
 have hJ:bG s o.a=s.jobs.getD k aK:=by unfold bG; rw [ha2]
 generalize s.jobs.getD k aK=j at *
 simp only [hg,go_sem,simprocAttr]
 refine aJ (fun h=>?_) (fun h=>?_) <;> simp only [h,go_sem,simprocAttr] <;> (try simp only [beq_iff_eq,beq_eq_false_iff_ne,bne_iff_ne,ne_eq,decide_eq_true_eq,decide_eq_false_iff_not,Bool.not_true,Bool.not_false,Bool.not_eq_true,Bool.not_eq_false,bne_eq_false_iff_eq,Decidable.not_not] at h)
 ·simp only [jZ,h,eN,hJ,ha2,List.map_set,List.length_set,List.set_set,go_sem,simprocAttr,Bool.true_eq_false,Bool.false_eq_true,ne_eq,not_true,not_false_eq_true,or_self]
 ·refine au [0,1,2] (j8 c s o (.rp 2 s.jobs.length 12 k 0) gG o.a 4 rfl rfl (by omega) (by omega) hn hj) rfl ?_ (by decide) ?_ ?_ (by simp) ?_ <;> simp only [aa,ah,go_sem,simprocAttr,bZ]
  simp only [jZ,h,eN,hJ,ha2,List.map_set,List.length_set,List.set_set,go_sem,simprocAttr,Bool.true_eq_false,Bool.false_eq_true,ne_eq,not_true,not_false_eq_true,or_self]
theorem FE (c:aI) (s:ai) (o:dH) (k:Nat) (hk:k<s.jobs.length) (ha:o.a=k+1) (hn:s.nodes.length≤1000) (hj:s.jobs.length≤1000):br Tryz.prog G 155 [.ptr 0 0] (bZ c s o (.rp 2 s.jobs.length 12 k 0) gG) (.int (jS s o).2) (bZ c (jS s o).1 o (.rp 2 s.jobs.length 12 k 0) gG):=by
 refine aY Tryz.func155 (by decide) Rx rfl rfl rfl rfl ?_
 simp only [U0,go_sem,simprocAttr]
 have hg:=aB (f:=cQ) aK hk
 have ha2:(o.a-1).toNat=k:=by omega
 have hJ:bG s o.a=s.jobs.getD k aK:=by unfold bG; rw [ha2]
 generalize s.jobs.getD k aK=j at *
 simp only [hg,go_sem,simprocAttr]
 refine aJ (fun h=>?_) (fun h=>?_) <;> simp only [h,go_sem,simprocAttr] <;> (try simp only [beq_iff_eq,beq_eq_false_iff_ne,bne_iff_ne,ne_eq,decide_eq_true_eq,decide_eq_false_iff_not,Bool.not_true,Bool.not_false,Bool.not_eq_true,Bool.not_eq_false,bne_eq_false_iff_eq,Decidable.not_not] at h)
 ·simp only [jS,h,eN,hJ,ha2,List.map_set,List.length_set,List.set_set,go_sem,simprocAttr,Bool.true_eq_false,Bool.false_eq_true,ne_eq,not_true,not_false_eq_true,or_self]
 ·refine au [0,1,2] (j8 c s o (.rp 2 s.jobs.length 12 k 0) gG o.a 0 rfl rfl (by omega) (by omega) hn hj) rfl ?_ (by decide) ?_ ?_ (by simp) ?_ <;> simp only [aa,ah,go_sem,simprocAttr,bZ]
  simp only [jS,h,eN,hJ,ha2,List.map_set,List.length_set,List.set_set,go_sem,simprocAttr,Bool.true_eq_false,Bool.false_eq_true,ne_eq,not_true,not_false_eq_true,or_self]
theorem KI (c:aI) (s:ai) (o:dH) (k:Nat) (hk:k<s.jobs.length) (ha:o.a=k+1) (hn:s.nodes.length≤1000) (hj:s.jobs.length≤1000):br Tryz.prog G 158 [.ptr 0 0] (bZ c s o (.rp 2 s.jobs.length 12 k 0) gG) (.int (mV s o).2) (bZ c (mV s o).1 o (.rp 2 s.jobs.length 12 k 0) gG):=by
 refine aY Tryz.func158 (by decide) Ru rfl rfl rfl rfl ?_
 simp only [UX,go_sem,simprocAttr]
 have hg:=aB (f:=cQ) aK hk
 have ha2:(o.a-1).toNat=k:=by omega
 have hJ:bG s o.a=s.jobs.getD k aK:=by unfold bG; rw [ha2]
 generalize s.jobs.getD k aK=j at *
 simp only [hg,go_sem,simprocAttr]
 refine aJ (fun h=>?_) (fun h=>?_) <;> simp only [h,go_sem,simprocAttr] <;> (try simp only [beq_iff_eq,beq_eq_false_iff_ne,bne_iff_ne,ne_eq,decide_eq_true_eq,decide_eq_false_iff_not,Bool.not_true,Bool.not_false,Bool.not_eq_true,Bool.not_eq_false,bne_eq_false_iff_eq,Decidable.not_not] at h)
 ·simp only [mV,h,eN,hJ,ha2,List.map_set,List.length_set,List.set_set,go_sem,simprocAttr,Bool.true_eq_false,Bool.false_eq_true,ne_eq,not_true,not_false_eq_true,or_self]
 ·refine au [0,1,2] (j8 c s o (.rp 2 s.jobs.length 12 k 0) gG o.a 0 rfl rfl (by omega) (by omega) hn hj) rfl ?_ (by decide) ?_ ?_ (by simp) ?_ <;> simp only [aa,ah,go_sem,simprocAttr,bZ]
  simp only [mV,h,eN,hJ,ha2,List.map_set,List.length_set,List.set_set,go_sem,simprocAttr,Bool.true_eq_false,Bool.false_eq_true,ne_eq,not_true,not_false_eq_true,or_self]
theorem KO (c:aI) (s:ai) (o:dH) (k:Nat) (hk:k<s.jobs.length) (ha:o.a=k+1) (hn:s.nodes.length≤1000) (hj:s.jobs.length≤1000):br Tryz.prog G 159 [.ptr 0 0] (bZ c s o (.rp 2 s.jobs.length 12 k 0) gG) (.int (rX s o).2) (bZ c (rX s o).1 o (.rp 2 s.jobs.length 12 k 0) gG):=by
 refine aY Tryz.func159 (by decide) Rt rfl rfl rfl rfl ?_
 simp only [UW,go_sem,simprocAttr]
 have hg:=aB (f:=cQ) aK hk
 have ha2:(o.a-1).toNat=k:=by omega
 have hJ:bG s o.a=s.jobs.getD k aK:=by unfold bG; rw [ha2]
 generalize s.jobs.getD k aK=j at *
 refine au [0,1,2] (DC c s o k hk ha) rfl ?_ (by decide) ?_ ?_ (by simp) ?_ <;> simp only [aa,ah,go_sem,simprocAttr,bZ]
 simp only [hJ]
 cases h:kG j with
 | false=>simp only [go_sem,simprocAttr]; simp only [rX,h,eN,hJ,ha2,List.map_set,List.length_set,List.set_set,go_sem,simprocAttr,Bool.true_eq_false,Bool.false_eq_true,ne_eq,not_true,not_false_eq_true,or_self]
 | true=>
   simp only [go_sem,simprocAttr]
   refine au [0,1,2] (j8 c s o (.rp 2 s.jobs.length 12 k 0) gG o.a 4 rfl rfl (by omega) (by omega) hn hj) rfl ?_ (by decide) ?_ ?_ (by simp) ?_ <;> simp only [aa,ah,go_sem,simprocAttr,bZ]
   simp only [rX,h,eN,hJ,ha2,List.map_set,List.length_set,List.set_set,go_sem,simprocAttr,Bool.true_eq_false,Bool.false_eq_true,ne_eq,not_true,not_false_eq_true,or_self]
theorem Jk (c:aI) (s:ai) (o:dH) (k:Nat) (hk:k<s.jobs.length) (ha:o.a=k+1):br Tryz.prog G 154 [.ptr 0 0] (bZ c s o (.rp 2 s.jobs.length 12 k 0) gG) (.int (mJ s o).2) (bZ c (mJ s o).1 o (.rp 2 s.jobs.length 12 k 0) gG):=by
 refine aY Tryz.func154 (by decide) Ry rfl rfl rfl rfl ?_
 simp only [U1,go_sem,simprocAttr]
 have hg:=aB (f:=cQ) aK hk
 have ha2:(o.a-1).toNat=k:=by omega
 have hJ:bG s o.a=s.jobs.getD k aK:=by unfold bG; rw [ha2]
 generalize s.jobs.getD k aK=j at *
 simp only [hg,go_sem,simprocAttr]
 refine aJ (fun h=>?_) (fun h=>?_) <;> simp only [h,go_sem,simprocAttr] <;> (try simp only [beq_iff_eq,beq_eq_false_iff_ne,bne_iff_ne,ne_eq,decide_eq_true_eq,decide_eq_false_iff_not,Bool.not_true,Bool.not_false,Bool.not_eq_true,Bool.not_eq_false,bne_eq_false_iff_eq,Decidable.not_not] at h)
 ·simp only [mJ,h,eN,hJ,ha2,List.map_set,List.length_set,List.set_set,go_sem,simprocAttr,Bool.true_eq_false,Bool.false_eq_true,ne_eq,not_true,not_false_eq_true,or_self]
 ·simp only [hg,hk,List.getElem?_set_self,List.length_set,go_sem,simprocAttr]
  refine az rfl ?_
  simp only [mJ,h,eN,hJ,ha2,List.map_set,List.length_set,List.set_set,go_sem,simprocAttr,Bool.true_eq_false,Bool.false_eq_true,ne_eq,not_true,not_false_eq_true,or_self]
theorem Jr (c:aI) (s:ai) (o:dH) (k:Nat) (hk:k<s.jobs.length) (ha:o.a=k+1):br Tryz.prog G 157 [.ptr 0 0] (bZ c s o (.rp 2 s.jobs.length 12 k 0) gG) (.int (jF s o).2) (bZ c (jF s o).1 o (.rp 2 s.jobs.length 12 k 0) gG):=by
 refine aY Tryz.func157 (by decide) Rv rfl rfl rfl rfl ?_
 simp only [UY,go_sem,simprocAttr]
 have hg:=aB (f:=cQ) aK hk
 have ha2:(o.a-1).toNat=k:=by omega
 have hJ:bG s o.a=s.jobs.getD k aK:=by unfold bG; rw [ha2]
 generalize s.jobs.getD k aK=j at *
 refine au [0,1,2] (DC c s o k hk ha) rfl ?_ (by decide) ?_ ?_ (by simp) ?_ <;> simp only [aa,ah,go_sem,simprocAttr,bZ]
 simp only [hJ]
 cases h:kG j with
 | false=>simp only [go_sem,simprocAttr]; simp only [jF,h,eN,hJ,ha2,List.map_set,List.length_set,List.set_set,go_sem,simprocAttr,Bool.true_eq_false,Bool.false_eq_true,ne_eq,not_true,not_false_eq_true,or_self]
 | true=>
   simp only [hg,go_sem,simprocAttr]
   refine i_ (fun h1=>?_) (fun h1=>?_) <;> simp only [h1,go_sem,simprocAttr] <;> (try simp only [beq_iff_eq,beq_eq_false_iff_ne,bne_iff_ne,ne_eq,decide_eq_true_eq,decide_eq_false_iff_not,Bool.not_true,Bool.not_false,Bool.not_eq_true,Bool.not_eq_false,bne_eq_false_iff_eq,Decidable.not_not] at h1)
   ·simp only [hg,go_sem,simprocAttr]
    rw [h1]
    refine aJ (fun h2=>?_) (fun h2=>?_) <;> simp only [h2,go_sem,simprocAttr] <;> (try simp only [beq_iff_eq,beq_eq_false_iff_ne,bne_iff_ne,ne_eq,decide_eq_true_eq,decide_eq_false_iff_not,Bool.not_true,Bool.not_false,Bool.not_eq_true,Bool.not_eq_false,bne_eq_false_iff_eq,Decidable.not_not] at h2)
    ·simp only [jF,h,h1,h2,eN,hJ,ha2,List.map_set,List.length_set,List.set_set,go_sem,simprocAttr,Bool.true_eq_false,Bool.false_eq_true,ne_eq,not_true,not_false_eq_true,or_self]
    ·simp only [hg,go_sem,simprocAttr]
     refine az rfl ?_
     simp only [jF,h,h1,h2,eN,hJ,ha2,List.map_set,List.length_set,List.set_set,go_sem,simprocAttr,Bool.true_eq_false,Bool.false_eq_true,ne_eq,not_true,not_false_eq_true,or_self]
   ·simp only [jF,h,h1,eN,hJ,ha2,List.map_set,List.length_set,List.set_set,go_sem,simprocAttr,Bool.true_eq_false,Bool.false_eq_true,ne_eq,not_true,not_false_eq_true,or_self]
theorem GS (c:aI) (s:ai) (o:dH) (k:Nat) (hk:k<s.jobs.length) (ha:o.a=k+1) (hj:s.jobs.length≤1000):br Tryz.prog G 156 [.ptr 0 0] (bZ c s o (.rp 2 s.jobs.length 12 k 0) gG) (.int (lX c s o).2) (bZ c (lX c s o).1 o (.rp 2 s.jobs.length 12 k 0) gG):=by
 refine aY Tryz.func156 (by decide) Rw rfl rfl rfl rfl ?_
 simp only [UZ,go_sem,simprocAttr]
 have hg:=aB (f:=cQ) aK hk
 have ha2:(o.a-1).toNat=k:=by omega
 have hJ:bG s o.a=s.jobs.getD k aK:=by unfold bG; rw [ha2]
 generalize s.jobs.getD k aK=j at *
 simp only [hg,go_sem,simprocAttr]
 refine aJ (fun h=>?_) (fun h=>?_) <;> simp only [h,go_sem,simprocAttr] <;> (try simp only [beq_iff_eq,beq_eq_false_iff_ne,bne_iff_ne,ne_eq,decide_eq_true_eq,decide_eq_false_iff_not,Bool.not_true,Bool.not_false,Bool.not_eq_true,Bool.not_eq_false,bne_eq_false_iff_eq,Decidable.not_not] at h)
 ·simp only [lX,h,eN,hJ,ha2,List.map_set,List.length_set,List.set_set,go_sem,simprocAttr,Bool.true_eq_false,Bool.false_eq_true,ne_eq,not_true,not_false_eq_true,or_self]
 ·simp only [hg,go_sem,simprocAttr]
  refine qz [1,2] (zq s j.queue (by omega)) rfl (by simp [aa,ah,aM,ay,List.take_of_length_le,go_sem,simprocAttr]) (by simp [ay]) rfl rfl ?_; simp only [go_sem,simprocAttr]
  refine aJ (fun h2=>?_) (fun h2=>?_) <;> simp only [h2,go_sem,simprocAttr] <;> (try simp only [beq_iff_eq,beq_eq_false_iff_ne,bne_iff_ne,ne_eq,decide_eq_true_eq,decide_eq_false_iff_not,Bool.not_true,Bool.not_false,Bool.not_eq_true,Bool.not_eq_false,bne_eq_false_iff_eq,Decidable.not_not] at h2)
  ·simp only [lX,h,h2,ge_iff_le,eN,hJ,ha2,List.map_set,List.length_set,List.set_set,go_sem,simprocAttr,Bool.true_eq_false,Bool.false_eq_true,ne_eq,not_true,not_false_eq_true,or_self]
  ·simp only [hg,hk,List.getElem?_set_self,List.length_set,go_sem,simprocAttr]
   refine az rfl ?_
   simp only [lX,h,h2,ge_iff_le,eN,hJ,ha2,List.map_set,List.length_set,List.set_set,go_sem,simprocAttr,Bool.true_eq_false,Bool.false_eq_true,ne_eq,not_true,not_false_eq_true,or_self]
theorem Ou (c:aI) (s:ai) (o:dH) (i:Nat) (hi:i<s.nodes.length) (ha:o.a=i) (hn:s.nodes.length≤1000) (hj:s.jobs.length≤1000) (hb:0≤(bg s o.a).bW∧(bg s o.a).bW≤s.jobs.length) :
  br Tryz.prog G 151 [.ptr 0 0] (bZ c s o gG (.rp 1 s.nodes.length 5 i 0)) (.int (qp s o).2) (bZ c (qp s o).1 o gG (.rp 1 s.nodes.length 5 i 0)):=by
 refine aY Tryz.func151 (by decide) RB rfl rfl rfl rfl ?_
 simp only [U4,go_sem,simprocAttr]
 have hg:=aB (f:=a_) an hi
 have ha2:o.a.toNat=i:=by omega
 have hN:bg s o.a=s.nodes.getD i an:=by unfold bg; rw [ha2]
 generalize s.nodes.getD i an=n at *
 rw [hN] at hb
 cases hu:n.up with
 | false=>simp only [hg,hu,go_sem,simprocAttr]; simp only [qp,hu,fo,hN,ha2,List.map_set,List.length_set,List.set_set,go_sem,simprocAttr,Bool.true_eq_false,Bool.false_eq_true,ne_eq,not_true,not_false_eq_true,or_self]
 | true=>
   simp only [hg,hu,go_sem,simprocAttr]
   refine aJ (fun h=>?_) (fun h=>?_) <;> simp only [h,go_sem,simprocAttr] <;> (try simp only [beq_iff_eq,beq_eq_false_iff_ne,bne_iff_ne,ne_eq,decide_eq_true_eq,decide_eq_false_iff_not,Bool.not_true,Bool.not_false,Bool.not_eq_true,Bool.not_eq_false,bne_eq_false_iff_eq,Decidable.not_not] at h)
   ·simp only [hg,go_sem,simprocAttr]
    refine au [0,1,2] (j8 c s o gG (.rp 1 s.nodes.length 5 i 0) n.bW 0 rfl rfl (by omega) (by omega) hn hj) rfl ?_ (by decide) ?_ ?_ (by simp) ?_ <;> simp only [aa,ah,go_sem,simprocAttr,bZ]
    have hg2:((eA s n.bW 0).nodes.map a_)[i]? = some (a_ (bg (eA s n.bW 0) o.a)):=by
     unfold bg; rw [ha2]; exact aB an (by simp [eA]; exact hi)
    have hl:(eA s n.bW 0).nodes.length=s.nodes.length:=by simp [eA]
    have hi2:i<(eA s n.bW 0).nodes.length:=by omega
    generalize hm:bg (eA s n.bW 0) o.a=m at *
    simp only [hg2,hl,hi,List.getElem?_set_self,List.length_set,go_sem,simprocAttr]
    refine az rfl ?_
    simp only [qp,hu,h,hm,hl,fo,hN,ha2,List.map_set,List.length_set,List.set_set,go_sem,simprocAttr,Bool.true_eq_false,Bool.false_eq_true,ne_eq,not_true,not_false_eq_true,or_self]
   ·simp only [hg,hi,List.getElem?_set_self,List.length_set,go_sem,simprocAttr]
    refine az rfl ?_
    simp only [qp,hu,h,fo,hN,ha2,List.map_set,List.length_set,List.set_set,go_sem,simprocAttr,Bool.true_eq_false,Bool.false_eq_true,ne_eq,not_true,not_false_eq_true,or_self]
end Dv
set_option maxRecDepth 100000
namespace Dv
open Go Go.Proofs
variable {G:Nat→Option (List DV)}
def U2:=qx Tryz.f153
theorem Rz:aq Tryz.prog Tryz.f153=some U2:=by kernel_rfl
def UQ:Nat×C×List RV:=(92,
(.seq (.kH [qo 2 (.mv (qk 0))])
 (.seq (.block 0 (.seq (.sC [qm 4 0,
 qd 5 (.yJ (.t 4)) [0],
 qd 6 (.nI 15 (.t 5)) [1,0],
 qd 7 (.nI 2 (.t 6)) [2,1,0],
 qd 8 (.ld1 (.t 7)) [3,2,1,0],
 qm 9 0,
 qd 10 (.yJ (.t 9)) [5],
 qd 11 (.nI 9 (.t 10)) [6,5],
 qd 12 (.nI 0 (.t 11)) [7,6,5],
 qd 13 (.ld1 (.t 12)) [8,7,6,5],
 qd 14 (.len (.t 13)) [9,8,7,6,5],
 qd 15 (.bin .geq (.t 8) (.t 14)) [4,3,2,1,0,10,9,8,7,6,5],
 qd 3 (.mv (.t 15)) [11,4,3,2,1,0,10,9,8,7,6,5]])
 (.cond (.t 3) (.seq (.kH [qo 2 (.mv (qk 4))])
 .ret)
 (.seq (.kH [qm 17 0,
 qo 18 (.yJ (.t 17)),
 qo 19 (.nI 22 (.t 18)),
 qo 20 (.ld1 (.t 19)),
 qo 21 (.yJ (.t 20)),
 qo 22 (.nI 6 (.t 21)),
 qo 23 (.ld1 (.t 22)),
 qo 24 (.bin .neq (.t 23) (qk 2)),
 qm 16 24])
 (.cond (.t 16) (.seq (.kH [qo 2 (.mv (qk 5))])
 .ret)
 (.seq (.sC [qm 26 0,
 qd 27 (.yJ (.t 26)) [0],
 qd 28 (.nI 9 (.t 27)) [1,0],
 qd 29 (.nI 0 (.t 28)) [2,1,0],
 qd 30 (.ld1 (.t 29)) [3,2,1,0],
 qm 31 0,
 qd 32 (.yJ (.t 31)) [5],
 qd 33 (.nI 15 (.t 32)) [6,5],
 qd 34 (.nI 2 (.t 33)) [7,6,5],
 qd 35 (.ld1 (.t 34)) [8,7,6,5],
 qd 36 (.sM 5 (.t 30) (.t 35)) [4,3,2,1,0,9,8,7,6,5],
 qd 37 (.nI 4 (.t 36)) [10,4,3,2,1,0,9,8,7,6,5],
 qd 38 (.ld1 (.t 37)) [11,10,4,3,2,1,0,9,8,7,6,5],
 qm 39 0,
 qd 40 (.yJ (.t 39)) [13],
 qd 41 (.nI 15 (.t 40)) [14,13],
 qd 42 (.nI 1 (.t 41)) [15,14,13],
 qd 43 (.ld1 (.t 42)) [16,15,14,13],
 qd 44 (.bin .neq (.t 38) (.t 43)) [12,11,10,4,3,2,1,0,9,8,7,6,5,17,16,15,14,13],
 qd 45 (.mv (.t 44)) [18,12,11,10,4,3,2,1,0,9,8,7,6,5,17,16,15,14,13],
 qe 46 (.mv (.t 0)) 45 false [19,18,12,11,10,4,3,2,1,0,9,8,7,6,5,17,16,15,14,13],
 qe 47 (.yJ (.t 46)) 45 false [20,19,18,12,11,10,4,3,2,1,0,9,8,7,6,5,17,16,15,14,13],
 qe 48 (.nI 22 (.t 47)) 45 false [21,20,19,18,12,11,10,4,3,2,1,0,9,8,7,6,5,17,16,15,14,13],
 qe 49 (.ld1 (.t 48)) 45 false [22,21,20,19,18,12,11,10,4,3,2,1,0,9,8,7,6,5,17,16,15,14,13],
 qe 50 (.yJ (.t 49)) 45 false [23,22,21,20,19,18,12,11,10,4,3,2,1,0,9,8,7,6,5,17,16,15,14,13],
 qe 51 (.nI 8 (.t 50)) 45 false [24,23,22,21,20,19,18,12,11,10,4,3,2,1,0,9,8,7,6,5,17,16,15,14,13],
 qe 52 (.ld1 (.t 51)) 45 false [25,24,23,22,21,20,19,18,12,11,10,4,3,2,1,0,9,8,7,6,5,17,16,15,14,13],
 qe 53 (.cvt .u64 (.t 52)) 45 false [26,25,24,23,22,21,20,19,18,12,11,10,4,3,2,1,0,9,8,7,6,5,17,16,15,14,13],
 qe 54 (.call (.f 224) [(.t 53)]) 45 false [27,26,25,24,23,22,21,20,19,18,12,11,10,4,3,2,1,0,9,8,7,6,5,17,16,15,14,13],
 qe 55 (.mv (.t 0)) 45 false [19,18,12,11,10,4,3,2,1,0,9,8,7,6,5,17,16,15,14,13],
 qe 56 (.yJ (.t 55)) 45 false [29,19,18,12,11,10,4,3,2,1,0,9,8,7,6,5,17,16,15,14,13],
 qe 57 (.nI 22 (.t 56)) 45 false [30,29,19,18,12,11,10,4,3,2,1,0,9,8,7,6,5,17,16,15,14,13],
 qe 58 (.ld1 (.t 57)) 45 false [31,30,29,19,18,12,11,10,4,3,2,1,0,9,8,7,6,5,17,16,15,14,13],
 qe 59 (.yJ (.t 58)) 45 false [32,31,30,29,19,18,12,11,10,4,3,2,1,0,9,8,7,6,5,17,16,15,14,13],
 qe 60 (.nI 2 (.t 59)) 45 false [33,32,31,30,29,19,18,12,11,10,4,3,2,1,0,9,8,7,6,5,17,16,15,14,13],
 qe 61 (.ld1 (.t 60)) 45 false [34,33,32,31,30,29,19,18,12,11,10,4,3,2,1,0,9,8,7,6,5,17,16,15,14,13],
 qe 62 (.bin .leq (.t 54) (.t 61)) 45 false [28,27,26,25,24,23,22,21,20,19,18,12,11,10,4,3,2,1,0,9,8,7,6,5,17,16,15,14,13,35,34,33,32,31,30,29],
 qd 63 (.pick (.t 45) qt (.t 62)) [19,18,12,11,10,4,3,2,1,0,9,8,7,6,5,17,16,15,14,13,36,28,27,26,25,24,23,22,21,20,35,34,33,32,31,30,29],
 qd 25 (.mv (.t 63)) [37,19,18,12,11,10,4,3,2,1,0,9,8,7,6,5,17,16,15,14,13,36,28,27,26,25,24,23,22,21,20,35,34,33,32,31,30,29]])
 (.cond (.t 25) (.seq (.kH [qo 2 (.mv (qk 8))])
 .ret)
 .skip)))))))
 (.seq (.sC [qm 64 0,
 qd 65 (.yJ (.t 64)) [0],
 qd 66 (.nI 22 (.t 65)) [1,0],
 qd 67 (.ld1 (.t 66)) [2,1,0],
 qd 68 (.yJ (.t 67)) [3,2,1,0],
 qd 69 (.nI 8 (.t 68)) [4,3,2,1,0],
 qd 70 (.ld1 (.t 69)) [5,4,3,2,1,0],
 qm 71 0,
 qd 72 (.yJ (.t 71)) [7],
 qd 73 (.nI 15 (.t 72)) [8,7],
 qd 74 (.nI 2 (.t 73)) [9,8,7],
 qd 75 (.ld1 (.t 74)) [10,9,8,7],
 qd 76 (.bin .shl (qk 1) (.t 75)) [11,10,9,8,7],
 qd 77 (.bin .andNot (.t 70) (.t 76)) [6,5,4,3,2,1,0,12,11,10,9,8,7],
 qd 78 (.yJ (.t 67)) [3,2,1,0,4,5,6,7,8,9,10,11,12,13],
 qd 79 (.nI 8 (.t 78)) [14,3,2,1,0,4,5,6,7,8,9,10,11,12,13],
 ql (.st 1 (.t 79) (.t 77)) [15,14,3,2,1,0,4,5,6,7,8,9,10,11,12,13]])
 (.seq (.sC [qm 80 0,
 qd 81 (.yJ (.t 80)) [0],
 qd 82 (.nI 9 (.t 81)) [1,0],
 qd 83 (.nI 0 (.t 82)) [2,1,0],
 qd 84 (.ld1 (.t 83)) [3,2,1,0],
 qm 85 0,
 qd 86 (.yJ (.t 85)) [5],
 qd 87 (.nI 15 (.t 86)) [6,5],
 qd 88 (.nI 2 (.t 87)) [7,6,5],
 qd 89 (.ld1 (.t 88)) [8,7,6,5],
 qd 90 (.sM 5 (.t 84) (.t 89)) [4,3,2,1,0,9,8,7,6,5],
 qd 91 (.nI 4 (.t 90)) [10,4,3,2,1,0,9,8,7,6,5],
 ql (.st 1 (.t 91) (qk 0)) [11,10,4,3,2,1,0,9,8,7,6,5]])
 (.seq (.kH [qo 2 (.mv (qk 0))])
 .ret))))),
[(.t 2)])
theorem Ro:aq Tryz.prog Tryz.f164=some UQ:=by kernel_rfl
def Ex (c:aI) (s:ai) (o:dH) (k0:Nat) (j':ct) (k:Nat):St:=⟨[(0,.ptr 0 0),(73,.int s.nodes.length),(74,.int k)],
 [some (.box 133 [.int c.nodes,.int c.bn,.int c.cv,.int c.gJ,.int c.eF,.int c.eE,.int c.deadline,.int c.room,.int c.gq,
  .sl 1 s.nodes.length 5 0 s.nodes.length,.sl 2 s.jobs.length 12 0 s.jobs.length,.int s.goal,.int s.bH,.int s.mode,.int s.term,
  .int o.kind,.int o.a,.int o.b,.int o.c,.int o.d,.int o.e,.int o.f,.rp 2 s.jobs.length 12 k0 0,gG]),
  some (.dat 102 5 ((fD (eG o.b o.a) s.nodes k).map a_)),some (.dat 119 12 ((s.jobs.set k0 j').map cQ))]⟩
theorem Np (c:aI) (s:ai) (o:dH) (k:Nat) (hk:k<s.jobs.length) (ha:o.a=k+1) (hn:s.nodes.length≤6) (hj:s.jobs.length≤1000) (abS:0≤(bG s o.a).inc) :
  br Tryz.prog G 153 [.ptr 0 0] (bZ c s o (.rp 2 s.jobs.length 12 k 0) gG) (.int (nE s o).2) (bZ c (nE s o).1 o (.rp 2 s.jobs.length 12 k 0) gG):=by
 refine aY Tryz.func153 (by decide) Rz rfl rfl rfl rfl ?_
 simp only [U2,go_sem,simprocAttr]
 have hg:=aB (f:=cQ) aK hk
 have ha2:(o.a-1).toNat=k:=by omega
 have hJ:bG s o.a=s.jobs.getD k aK:=by unfold bG; rw [ha2]
 generalize s.jobs.getD k aK=j at *
 rw [hJ] at abS
 simp only [hg,go_sem,simprocAttr]
 refine aJ (fun h=>?_) (fun h=>?_) <;> simp only [h,go_sem,simprocAttr] <;> (try simp only [beq_iff_eq,beq_eq_false_iff_ne,bne_iff_ne,ne_eq,decide_eq_true_eq,decide_eq_false_iff_not,Bool.not_true,Bool.not_false,Bool.not_eq_true,Bool.not_eq_false,bne_eq_false_iff_eq,Decidable.not_not] at h)
 ·simp only [nE,h,eN,hJ,ha2,List.map_set,List.length_set,List.set_set,go_sem,simprocAttr,Bool.true_eq_false,Bool.false_eq_true,ne_eq,not_true,not_false_eq_true,or_self]
 ·simp only [hg,go_sem,simprocAttr]
  refine qz [1,2] (KF s j o.b 222 jr hn Oc) rfl (by simp [aa,ah,aM,ay,List.take_of_length_le,go_sem,simprocAttr]) (by simp [ay]) rfl rfl ?_; simp only [go_sem,simprocAttr]
  have fin:(jE s.nodes j o.b jr=false∨1000000≤j.inc)→nE s o=(s,8):=fun h'=>by
   simp only [nE,hJ,h,h',ne_eq,not_true,if_false,if_true]
  cases hf:jE s.nodes j o.b jr with
  | false=>
    simp only [go_sem,simprocAttr,fin (.inl hf)]
  | true=>
    simp only [hg,go_sem,simprocAttr]
    refine aJ (fun hi=>?_) (fun hi=>?_) <;> simp only [hi,go_sem,simprocAttr] <;> (try simp only [beq_iff_eq,beq_eq_false_iff_ne,bne_iff_ne,ne_eq,decide_eq_true_eq,decide_eq_false_iff_not,Bool.not_true,Bool.not_false,Bool.not_eq_true,Bool.not_eq_false,bne_eq_false_iff_eq,Decidable.not_not] at hi)
    ·simp only [go_sem,simprocAttr,fin (.inr hi)]
    ·have hw:IntKind.i64.wrap (j.inc+1)=j.inc+1:=aD (by omega) (by omega)
     have X_:nE s o=({ eN s o.a { j with phase:=1,inc:=j.inc+1,nodes:=o.b } with nodes:=s.nodes.mapIdx (eG o.b o.a) },0):=by
      unfold nE
      rw [hJ,if_neg (by simpa using h),if_neg (by simp [hf]; omega)]
     simp only [hg,hk,List.getElem?_set_self,List.length_set,List.set_set,go_sem,simprocAttr]
     refine az rfl ?_
     simp only [hg,hk,hw,List.getElem?_set_self,List.length_set,List.set_set,go_sem,simprocAttr]
     refine aP [0,73,74] [] (fun q:Nat=>q≤s.nodes.length) (fun q=>s.nodes.length-q) (Ex c s o k { j with phase:=1,inc:=j.inc+1,nodes:=o.b }) 0 ?_ (Nat.zero_le _) (fun q hq=>?_)
     ·simp only [Ex,nU,Int.natCast_zero,eN,ha2,List.map_set,go_sem,simprocAttr]
     simp only [Ex,eN,List.length_set,go_sem,simprocAttr]
     refine aJ (fun h=>?_) (fun h=>?_)
     ·have h:=dz h
      have hg2:((fD (eG o.b o.a) s.nodes q).map a_)[q]? = some (a_ s.nodes[q]):=by rw [List.getElem?_map,ta _ _ h]; rfl
      simp only [Hf o.b q (by omega),go_sem,simprocAttr]
      cases hb:hasB o.b q with
      | true=>
        have hs:((fD (eG o.b o.a) s.nodes q).map a_).set q (a_ { s.nodes[q] with bW:=o.a })=(fD (eG o.b o.a) s.nodes (q+1)).map a_:=by
         rw [← List.map_set,mY _ _ h (by simp only [eG,hb,if_true])]
        simp only [a_] at hs
        simp only [h,hg2,gX,go_sem,simprocAttr]
        refine az rfl ?_
        simp only [go_sem,simprocAttr]
        refine aR (q+1) ?_ ?_ (by omega) (by omega)
        ·simp only [go_sem,simprocAttr]
        ·simp only [Ex,eN,List.length_set,go_sem,simprocAttr,ax (show q<9223372036854775807 by omega),hs]
      | false=>
        have hs:=nV (eG o.b o.a) s.nodes h (by simp only [eG,hb,Bool.false_eq_true,if_false])
        simp only [go_sem,simprocAttr]
        refine aR (q+1) ?_ ?_ (by omega) (by omega)
        ·simp only [go_sem,simprocAttr]
        ·simp only [Ex,eN,List.length_set,go_sem,simprocAttr,ax (show q<9223372036854775807 by omega),hs]
     ·obtain rfl:=dA h hq
      simp only [nW,X_,eN,ha2,List.length_mapIdx,List.length_set,go_sem,simprocAttr]
theorem P8 (m b:Nat) (hm:m<64) (hb:b<6):uE .i64 (m:Int) (2 ^ b)=kI m b:=by
 have:∀ m:Nat,m<64→∀ b:Nat,b<6→uE .i64 (m:Int) (2 ^ b)=kI m b:=by decide +kernel
 exact this m hm b hb
theorem FQ (c:aI) (s:ai) (o:dH) (k:Nat) (hk:k<s.jobs.length) (ha:o.a=k+1) (hn:s.nodes.length≤6) (hj:s.jobs.length≤1000) (hb0:0≤o.b) (hm:0≤(bG s o.a).nodes∧(bG s o.a).nodes<64) :
  br Tryz.prog G 164 [.ptr 0 0] (bZ c s o (.rp 2 s.jobs.length 12 k 0) gG) (.int (gF s o).2) (bZ c (gF s o).1 o (.rp 2 s.jobs.length 12 k 0) gG):=by
 refine aY Tryz.func164 (by decide) Ro rfl rfl rfl rfl ?_
 simp only [UQ,go_sem,simprocAttr]
 have hg:=aB (f:=cQ) aK hk
 have ha2:(o.a-1).toNat=k:=by omega
 have hJ:bG s o.a=s.jobs.getD k aK:=by unfold bG; rw [ha2]
 generalize s.jobs.getD k aK=j at *
 rw [hJ] at hm
 obtain ⟨m,Nu⟩:=Int.eq_ofNat_of_zero_le hm.1
 have hmu:IntKind.u64.wrap (m:Int)=m:=by simp [IntKind.wrap,IntKind.bits,IntKind.signed]; omega
 obtain ⟨b,hb⟩:=Int.eq_ofNat_of_zero_le hb0
 rw [hb]
 refine aJ (fun h1=>?_) (fun h1=>?_) <;> simp only [h1,go_sem,simprocAttr] <;> (try simp only [beq_iff_eq,beq_eq_false_iff_ne,bne_iff_ne,ne_eq,decide_eq_true_eq,decide_eq_false_iff_not,Bool.not_true,Bool.not_false,Bool.not_eq_true,Bool.not_eq_false,bne_eq_false_iff_eq,Decidable.not_not] at h1)
 ·simp only [gF,hb,h1,ge_iff_le,eN,hJ,ha2,List.map_set,List.length_set,List.set_set,go_sem,simprocAttr,Bool.true_eq_false,Bool.false_eq_true,ne_eq,not_true,not_false_eq_true,or_self]
 ·have oO:b<s.nodes.length:=by omega
  simp only [hg,go_sem,simprocAttr]
  refine aJ (fun h2=>?_) (fun h2=>?_) <;> simp only [h2,go_sem,simprocAttr] <;> (try simp only [beq_iff_eq,beq_eq_false_iff_ne,bne_iff_ne,ne_eq,decide_eq_true_eq,decide_eq_false_iff_not,Bool.not_true,Bool.not_false,Bool.not_eq_true,Bool.not_eq_false,bne_eq_false_iff_eq,Decidable.not_not] at h2)
  ·simp only [gF,hb,h1,h2,ge_iff_le,eN,hJ,ha2,List.map_set,List.length_set,List.set_set,go_sem,simprocAttr,Bool.true_eq_false,Bool.false_eq_true,ne_eq,not_true,not_false_eq_true,or_self]
  ·have rE:=aB (f:=a_) an oO
   have hN:bg s o.b=s.nodes.getD b an:=by unfold bg; rw [hb]; rfl
   have hN':bg s (b:Int)=s.nodes.getD b an:=rfl
   generalize s.nodes.getD b an=n at *
   have Aa:¬ ((s.nodes.length:Int)≤b):=by omega
   have fin:(n.bW≠o.a∨many j.nodes≤j.min)→gF s o=(s,8):=fun h'=>by
    unfold gF
    rw [hb,if_neg Aa,hJ,if_neg (by simpa using h2),hN',if_pos h']
   simp only [rE,oO,go_sem,simprocAttr]
   refine i_ (fun h3=>?_) (fun h3=>?_) <;> simp only [h3,go_sem,simprocAttr] <;> (try simp only [beq_iff_eq,beq_eq_false_iff_ne,bne_iff_ne,ne_eq,decide_eq_true_eq,decide_eq_false_iff_not,Bool.not_true,Bool.not_false,Bool.not_eq_true,Bool.not_eq_false,bne_eq_false_iff_eq,Decidable.not_not] at h3)
   ·have NU:n.bW=o.a:=h3
    simp only [hg,Nu,hmu,go_sem,simprocAttr]
    refine bA (yw m (by omega)) rfl rfl rfl rfl ?_; simp only [go_sem,simprocAttr]
    simp only [hg,go_sem,simprocAttr]
    refine aJ (fun h4=>?_) (fun h4=>?_) <;> simp only [h4,go_sem,simprocAttr] <;> (try simp only [beq_iff_eq,beq_eq_false_iff_ne,bne_iff_ne,ne_eq,decide_eq_true_eq,decide_eq_false_iff_not,Bool.not_true,Bool.not_false,Bool.not_eq_true,Bool.not_eq_false,bne_eq_false_iff_eq,Decidable.not_not] at h4)
    ·simp only [go_sem,simprocAttr,fin (.inr (by rw [Nu]; exact h4)),hb]
    ·have X_:gF s o=(fo (eN s o.a { j with nodes:=kI j.nodes o.b }) o.b { n with bW:=0 },0):=by
      unfold gF
      rw [hb,if_neg Aa,hJ,if_neg (by simpa using h2),hN',if_neg (by rw [Nu]; simp [NU]; omega)]
     have hle:uE .i64 (m:Int) (zT .i64 1 b)=kI m b:=by rw [wQ b (by omega),P8 m b (by omega) (by omega)]
     simp only [hg,Nu,hle,go_sem,simprocAttr]
     refine az rfl ?_
     simp only [rE,oO,go_sem,simprocAttr]
     refine az rfl ?_
     simp only [X_,fo,eN,Nu,hb,ha2,List.map_set,List.length_set,go_sem,simprocAttr]
   ·simp only [go_sem,simprocAttr,fin (.inl h3),hb]
end Dv
set_option maxRecDepth 100000
namespace Dv
open Go Go.Proofs
variable {G:Nat→Option (List DV)}
def Vd:=qx Tryz.f141
theorem RL:aq Tryz.prog Tryz.f141=some Vd:=by kernel_rfl
def Vc:=qx Tryz.f142
theorem RK:aq Tryz.prog Tryz.f142=some Vc:=by kernel_rfl
def Zy:=qx Tryz.f72
theorem W6:aq Tryz.prog Tryz.f72=some Zy:=by kernel_rfl
def Ul:=qx Tryz.f212
theorem QT:aq Tryz.prog Tryz.f212=some Ul:=by kernel_rfl
def Um:=qx Tryz.f211
theorem QU:aq Tryz.prog Tryz.f211=some Um:=by kernel_rfl
def Vj:=qx Tryz.f134
theorem RS:aq Tryz.prog Tryz.f134=some Vj:=by kernel_rfl
def Zx:=qx Tryz.f74
theorem W5:aq Tryz.prog Tryz.f74=some Zx:=by kernel_rfl
def bL (o:dH):List Int:=[o.a,o.b,o.c,o.d,o.e,o.f]
def lP (m:Nat):List Int→Nat→Bool
 | [],_=>true
 | n::l,i=>oJ n (decide (i<m))&&lP m l (i+1)
theorem pT (o:dH):dX o=(decide (1≤o.kind∧o.kind≤21)&&lP (cq o.kind) (bL o) 0):=by
 unfold dX bL
 simp only [lP,Bool.and_true,Bool.and_assoc]
def TH:List Int:=[0,6,1,1,0,0,0,1,2,2,2,1,2,2,1,1,1,1,1,2,2,0]
def Cl:List ByteArray:=[⟨#[]⟩,⟨#[115,117,98,109,105,116]⟩,⟨#[99,97,110,99,101,108]⟩,⟨#[116,97,114,103,101,116]⟩,⟨#[112,97,117,115,101]⟩,⟨#[114,101,115,117,109,101]⟩,⟨#[97,98,111,114,116]⟩,⟨#[100,111,119,110]⟩,⟨#[117,112]⟩,⟨#[104,111,108,100]⟩,⟨#[115,116,97,114,116]⟩,⟨#[117,110,104,111,108,100]⟩,⟨#[100,114,97,105,110]⟩,⟨#[115,97,118,101,100]⟩,⟨#[101,118,105,99,116]⟩,⟨#[100,111,110,101]⟩,⟨#[99,111,114,100,111,110]⟩,⟨#[117,110,99,111,114,100,111,110]⟩,⟨#[109,111,118,101]⟩,⟨#[109,111,118,101,100]⟩,⟨#[115,104,114,105,110,107]⟩,⟨#[110,101,119,116,101,114,109]⟩]
def MM:List DV:=TH.map i64
def yK:List DV:=Cl.map fun s=>.val (.string s)
def eD:Nat→Option (List DV):=fun n=>if n=0 then some MM else if n=1 then some yK else none
theorem sY:eD 0=some MM:=rfl
theorem Fe:eD 1=some yK:=rfl
theorem Cm (k:Int) (h:1≤k∧k≤21):MM[k.toNat]? = some (i64 (cq k:Nat)):=by
 have h:k=1∨k=2∨k=3∨k=4∨k=5∨k=6∨k=7∨k=8∨k=9∨k=10∨k=11∨k=12∨k=13∨k=14∨k=15∨k=16∨k=17∨k=18∨k=19∨k=20∨k=21:=by omega
 rcases h with h | h | h | h | h | h | h | h | h | h | h | h | h | h | h | h | h | h | h | h | h <;> subst h <;> rfl
def nameOf (k:Int):ByteArray:=if 1≤k∧k≤21 then Cl.getD k.toNat ⟨#[]⟩ else ⟨#[]⟩
theorem PV (k:Int) (h:0≤k∧k≤21):yK[k.toNat]? = some (.val (.string (nameOf k))):=by
 have h:k=0∨k=1∨k=2∨k=3∨k=4∨k=5∨k=6∨k=7∨k=8∨k=9∨k=10∨k=11∨k=12∨k=13∨k=14∨k=15∨k=16∨k=17∨k=18∨k=19∨k=20∨k=21:=by omega
 rcases h with h | h | h | h | h | h | h | h | h | h | h | h | h | h | h | h | h | h | h | h | h | h <;> subst h <;> rfl
theorem qT (k:Int) (h:¬ (1≤k∧k≤21)):nameOf k=⟨#[]⟩:=by unfold nameOf; rw [if_neg h]
theorem AW (k:Int) (h:1≤k∧k≤21):((nameOf k).toList==(⟨#[]⟩:ByteArray).toList)=false:=by
 have h:k=1∨k=2∨k=3∨k=4∨k=5∨k=6∨k=7∨k=8∨k=9∨k=10∨k=11∨k=12∨k=13∨k=14∨k=15∨k=16∨k=17∨k=18∨k=19∨k=20∨k=21:=by omega
 rcases h with h | h | h | h | h | h | h | h | h | h | h | h | h | h | h | h | h | h | h | h | h <;> subst h <;> decide +kernel
theorem Ee (k:Int):br Tryz.prog eD 141 [.int k] [] (.d (.val (.string (nameOf k)))) []:=by
 refine b_ Tryz.func141 (by decide) RL rfl rfl ?_
 simp only [Vd,go_sem,simprocAttr]
 refine bI (fun h1=>?_) (fun h1=>?_) <;> simp only [h1,go_sem,simprocAttr] <;> (try simp only [beq_iff_eq,beq_eq_false_iff_ne,bne_iff_ne,ne_eq,decide_eq_true_eq,decide_eq_false_iff_not,Bool.not_true,Bool.not_false,Bool.not_eq_true,Bool.not_eq_false,bne_eq_false_iff_eq,Decidable.not_not] at h1)
 ·refine aJ (fun h2=>?_) (fun h2=>?_) <;> simp only [h2,go_sem,simprocAttr] <;> (try simp only [beq_iff_eq,beq_eq_false_iff_ne,bne_iff_ne,ne_eq,decide_eq_true_eq,decide_eq_false_iff_not,Bool.not_true,Bool.not_false,Bool.not_eq_true,Bool.not_eq_false,bne_eq_false_iff_eq,Decidable.not_not] at h2)
  ·rw [qT k (by omega)]
  ·have h3:0≤k:=by omega
   have h4:k.toNat<22:=by omega
   simp only [Fe,h3,h4,Nat.mul_one,PV k (by omega),go_sem,simprocAttr]
 ·rw [qT k (by omega)]
theorem HF (o:dH):br Tryz.prog G 142 [rS o] [] (.agg ((bL o).map LV.int)) []:=by
 refine b_ Tryz.func142 (by decide) RK rfl rfl ?_
 simp only [Vc,go_sem,simprocAttr]
 simp only [bL,go_sem,simprocAttr]
def Mq (o:dH) (k:Nat):St:=⟨[(1,.ptr 0 0),(10,.agg ((bL o).map LV.int)),(11,.int k)],[some (.box 37 [.int o.kind,.int o.a,.int o.b,.int o.c,.int o.d,.int o.e,.int o.f])]⟩
theorem D4 (n:Int) (k m:Nat):oJ n (decide (k<m)) = !(decide (n<0)||decide (n>1000000)||(decide ((k:Int)≥(m:Int))&&(n !=0))):=by
 unfold oJ
 rw [Bool.eq_iff_iff]
 by_cases h4:n=0
 ·subst h4; simp
 ·have e:(n !=0)=true:=by simpa using h4
  simp only [e,h4,Bool.and_eq_true,Bool.or_eq_true,decide_eq_true_eq,Bool.not_eq_true',Bool.or_eq_false_iff,Bool.and_eq_false_iff,decide_eq_false_iff_not,decide_false,Bool.or_false,Bool.and_true]
  omega
theorem oa (o:dH):br Tryz.prog eD 72 [rS o] [] (.bool (dX o)) []:=by
 refine b_ Tryz.func72 (by decide) W6 rfl rfl ?_
 simp only [Zy,go_sem,simprocAttr]
 rw [pT]
 refine av (Ee o.kind) rfl rfl rfl rfl ?_; simp only [go_sem,simprocAttr]
 by_cases hk:1≤o.kind∧o.kind≤21
 ·simp only [AW _ hk,go_sem,simprocAttr]
  refine av (HF o) rfl rfl rfl rfl ?_
  simp only [go_sem,simprocAttr,hk]
  generalize hq:lP (cq o.kind) (bL o) 0=r
  have hl:(bL o).length=6:=rfl
  have VP:0≤o.kind:=by omega
  have NA:o.kind.toNat<22:=by omega
  refine aP [1,10,11] [] (fun k:Nat=>k≤6∧lP (cq o.kind) ((bL o).drop k) k=r) (fun k=>6-k) (Mq o) 0 ?_ ⟨by omega,hq⟩ ?_
  ·simp only [Mq,go_sem,simprocAttr,Int.natCast_zero]
  rintro k ⟨hk6,hF⟩
  simp only [Mq,go_sem,simprocAttr]
  refine aJ (fun h=>?_) (fun h=>?_) <;> simp only [h,go_sem,simprocAttr] <;> (try simp only [beq_iff_eq,beq_eq_false_iff_ne,bne_iff_ne,ne_eq,decide_eq_true_eq,decide_eq_false_iff_not,Bool.not_true,Bool.not_false,Bool.not_eq_true,Bool.not_eq_false,bne_eq_false_iff_eq,Decidable.not_not] at h)
  ·have hkl:k<(bL o).length:=by omega
   have abN:k<6:=by omega
   rw [List.drop_eq_getElem_cons hkl,lP,D4] at hF
   have hg:((bL o).map LV.int)[k]? = some (LV.int (bL o)[k]):=get_map hkl
   simp only [hg,abN,go_sem,simprocAttr]
   generalize (bL o)[k]=n at *
   refine bI (fun h1=>?_) (fun h1=>?_) <;> simp only [h1,go_sem,simprocAttr] <;> (try simp only [beq_iff_eq,beq_eq_false_iff_ne,bne_iff_ne,ne_eq,decide_eq_true_eq,decide_eq_false_iff_not,Bool.not_true,Bool.not_false,Bool.not_eq_true,Bool.not_eq_false,bne_eq_false_iff_eq,Decidable.not_not] at h1)
   ·have Aa:decide (n<0)=false:=by simp; omega
    refine bI (fun h2=>?_) (fun h2=>?_) <;> simp only [h2,go_sem,simprocAttr] <;> (try simp only [beq_iff_eq,beq_eq_false_iff_ne,bne_iff_ne,ne_eq,decide_eq_true_eq,decide_eq_false_iff_not,Bool.not_true,Bool.not_false,Bool.not_eq_true,Bool.not_eq_false,bne_eq_false_iff_eq,Decidable.not_not] at h2)
    ·have NV:decide (n>1000000)=false:=by simp; omega
     simp only [sY,VP,NA,Cm _ hk,Nat.mul_one,go_sem,simprocAttr]
     refine bI (fun h3=>?_) (fun h3=>?_) <;> simp only [h3,go_sem,simprocAttr] <;> (try simp only [beq_iff_eq,beq_eq_false_iff_ne,bne_iff_ne,ne_eq,decide_eq_true_eq,decide_eq_false_iff_not,Bool.not_true,Bool.not_false,Bool.not_eq_true,Bool.not_eq_false,bne_eq_false_iff_eq,Decidable.not_not] at h3)
     ·have NU:decide ((k:Int)≥(cq o.kind:Int))=true:=by simpa using h3
      cases h4:(n !=0) with
      | true=>
        rw [Aa,NV,NU,h4] at hF
        simp only [go_sem,simprocAttr] at hF
        simp only [go_sem,simprocAttr,← hF]
      | false=>
        rw [Aa,NV,NU,h4] at hF
        simp only [go_sem,simprocAttr] at hF
        simp only [go_sem,simprocAttr]
        refine aR (k+1) ?_ ?_ ⟨by omega,hF⟩ (by omega)
        ·simp only [go_sem,simprocAttr]; rfl
        ·simp only [Mq,go_sem,simprocAttr,ax (show k<9223372036854775807 by omega)]
     ·have NU:decide ((k:Int)≥(cq o.kind:Int))=false:=by simpa using h3
      rw [Aa,NV,NU] at hF
      simp only [go_sem,simprocAttr] at hF
      refine aR (k+1) ?_ ?_ ⟨by omega,hF⟩ (by omega)
      ·simp only [go_sem,simprocAttr]; rfl
      ·simp only [Mq,go_sem,simprocAttr,ax (show k<9223372036854775807 by omega)]
    ·have NV:decide (n>1000000)=true:=by simpa using h2
     rw [Aa,NV] at hF
     simp only [go_sem,simprocAttr] at hF
     simp only [go_sem,simprocAttr,← hF]
   ·have Aa:decide (n<0)=true:=by simpa using h1
    rw [Aa] at hF
    simp only [go_sem,simprocAttr] at hF
    simp only [go_sem,simprocAttr,← hF]
  ·obtain rfl:k=6:=by omega
   simp only [bL,List.drop_succ_cons,List.drop_zero,lP] at hF
   simp only [go_sem,simprocAttr,← hF]
 ·simp only [qT _ hk,hk,go_sem,simprocAttr]
theorem A0 (k:Int):br Tryz.prog G 212 [.int k] [] (.int (cq k:Nat)) []:=by
 refine b_ Tryz.func212 (by decide) QT rfl rfl ?_
 simp only [Ul,go_sem,simprocAttr]
 have e:∀ n:Int,(k==n)=decide (k=n):=fun _=>rfl
 unfold cq
 by_cases h1:k=1
 ·subst h1; simp only [go_sem,simprocAttr] <;> rfl
 by_cases h4:k=4
 ·subst h4; simp only [go_sem,simprocAttr] <;> rfl
 by_cases h5:k=5
 ·subst h5; simp only [go_sem,simprocAttr] <;> rfl
 by_cases h6:k=6
 ·subst h6; simp only [go_sem,simprocAttr] <;> rfl
 by_cases h21:k=21
 ·subst h21; simp only [go_sem,simprocAttr] <;> rfl
 by_cases h8:k=8
 ·subst h8; simp only [go_sem,simprocAttr] <;> rfl
 by_cases h9:k=9
 ·subst h9; simp only [go_sem,simprocAttr] <;> rfl
 by_cases h10:k=10
 ·subst h10; simp only [go_sem,simprocAttr] <;> rfl
 by_cases h12:k=12
 ·subst h12; simp only [go_sem,simprocAttr] <;> rfl
 by_cases h13:k=13
 ·subst h13; simp only [go_sem,simprocAttr] <;> rfl
 by_cases h19:k=19
 ·subst h19; simp only [go_sem,simprocAttr] <;> rfl
 by_cases h20:k=20
 ·subst h20; simp only [go_sem,simprocAttr] <;> rfl
 simp only [e,h1,h4,h5,h6,h21,h8,h9,h10,h12,h13,h19,h20,or_self,go_sem,simprocAttr] <;> rfl
def HP (o:dH):List (List DV):=(bL o).map fun n=>[i64 n]
theorem vS (o:dH):br Tryz.prog G 211 [rS o] [] (.d (.dN 1 (HP o))) []:=by
 refine bD Tryz.func211 (by decide) QU rfl ?_
 simp only [Um,go_sem,simprocAttr]
 exact bw [1] rfl (by simp [St.obj,ay]) (by simp [St.obj,ay,aF,St.get,aO,ah,aM,HP,bL])
def DU (o:dH) (k:Nat):St:=⟨[(1,.ptr 0 0),(3,.d (.dN 1 (HP o))),(4,.int k)],[some (.box 37 [.int o.kind,.int o.a,.int o.b,.int o.c,.int o.d,.int o.e,.int o.f])]⟩
theorem rR (o:dH):br Tryz.prog G 134 [rS o] [] (.bool (dX o)) []:=by
 refine b_ Tryz.func134 (by decide) RS rfl rfl ?_
 simp only [Vj,go_sem,simprocAttr]
 rw [pT]
 refine av (vS o) rfl rfl rfl rfl ?_; simp only [go_sem,simprocAttr]
 generalize hq:lP (cq o.kind) (bL o) 0=r
 have hl:(bL o).length=6:=rfl
 refine aP [1,3,4] [] (fun k:Nat=>k≤6∧lP (cq o.kind) ((bL o).drop k) k=r) (fun k=>6-k) (DU o) 0 ?_ ⟨by omega,hq⟩ ?_
 ·simp only [DU,go_sem,simprocAttr,Int.natCast_zero]
 rintro k ⟨hk6,hF⟩
 simp only [DU,go_sem,simprocAttr]
 refine aJ (fun h=>?_) (fun h=>?_) <;> simp only [h,go_sem,simprocAttr] <;> (try simp only [beq_iff_eq,beq_eq_false_iff_ne,bne_iff_ne,ne_eq,decide_eq_true_eq,decide_eq_false_iff_not,Bool.not_true,Bool.not_false,Bool.not_eq_true,Bool.not_eq_false,bne_eq_false_iff_eq,Decidable.not_not] at h)
 ·have hkl:k<(bL o).length:=by omega
  rw [List.drop_eq_getElem_cons hkl,lP,D4] at hF
  have hg:(HP o)[k]? = some [i64 (bL o)[k]]:=get_map hkl
  simp only [hg,go_sem,simprocAttr]
  generalize (bL o)[k]=n at *
  refine bI (fun h1=>?_) (fun h1=>?_) <;> simp only [h1,go_sem,simprocAttr] <;> (try simp only [beq_iff_eq,beq_eq_false_iff_ne,bne_iff_ne,ne_eq,decide_eq_true_eq,decide_eq_false_iff_not,Bool.not_true,Bool.not_false,Bool.not_eq_true,Bool.not_eq_false,bne_eq_false_iff_eq,Decidable.not_not] at h1)
  ·have Aa:decide (n<0)=false:=by simp; omega
   simp only [hg,go_sem,simprocAttr]
   refine bI (fun h2=>?_) (fun h2=>?_) <;> simp only [h2,go_sem,simprocAttr] <;> (try simp only [beq_iff_eq,beq_eq_false_iff_ne,bne_iff_ne,ne_eq,decide_eq_true_eq,decide_eq_false_iff_not,Bool.not_true,Bool.not_false,Bool.not_eq_true,Bool.not_eq_false,bne_eq_false_iff_eq,Decidable.not_not] at h2)
   ·have NV:decide (n>1000000)=false:=by simp; omega
    refine av (A0 o.kind) rfl rfl rfl rfl ?_; simp only [go_sem,simprocAttr]
    refine bI (fun h3=>?_) (fun h3=>?_) <;> simp only [h3,go_sem,simprocAttr] <;> (try simp only [beq_iff_eq,beq_eq_false_iff_ne,bne_iff_ne,ne_eq,decide_eq_true_eq,decide_eq_false_iff_not,Bool.not_true,Bool.not_false,Bool.not_eq_true,Bool.not_eq_false,bne_eq_false_iff_eq,Decidable.not_not] at h3)
    ·have NU:decide ((k:Int)≥(cq o.kind:Int))=true:=by simpa using h3
     simp only [hg,go_sem,simprocAttr]
     cases h4:(n !=0) with
     | true=>
       rw [Aa,NV,NU,h4] at hF
       simp only [go_sem,simprocAttr] at hF
       simp only [go_sem,simprocAttr,← hF]
     | false=>
       rw [Aa,NV,NU,h4] at hF
       simp only [go_sem,simprocAttr] at hF
       simp only [go_sem,simprocAttr]
       refine aR (k+1) ?_ ?_ ⟨by omega,hF⟩ (by omega)
       ·simp only [go_sem,simprocAttr]
       ·simp only [DU,go_sem,simprocAttr,ax (show k<9223372036854775807 by omega)]
    ·have NU:decide ((k:Int)≥(cq o.kind:Int))=false:=by simpa using h3
     rw [Aa,NV,NU] at hF
     simp only [go_sem,simprocAttr] at hF
     refine aR (k+1) ?_ ?_ ⟨by omega,hF⟩ (by omega)
     ·simp only [go_sem,simprocAttr]
     ·simp only [DU,go_sem,simprocAttr,ax (show k<9223372036854775807 by omega)]
   ·have NV:decide (n>1000000)=true:=by simpa using h2
    rw [Aa,NV] at hF
    simp only [go_sem,simprocAttr] at hF
    simp only [go_sem,simprocAttr,← hF]
  ·have Aa:decide (n<0)=true:=by simpa using h1
   rw [Aa] at hF
   simp only [go_sem,simprocAttr] at hF
   simp only [go_sem,simprocAttr,← hF]
 ·obtain rfl:k=6:=by omega
  simp only [bL,List.drop_succ_cons,List.drop_zero,lP] at hF
  subst hF
  rw [Bool.and_true]
  have e:decide (1≤o.kind∧o.kind≤21)=(decide (o.kind≥1)&&decide (o.kind≤21)):=Bool.decide_and ..
  rw [e]
  refine bI (fun h1=>?_) (fun h1=>?_) <;> simp only [h1,go_sem,simprocAttr] <;> (try simp only [beq_iff_eq,beq_eq_false_iff_ne,bne_iff_ne,ne_eq,decide_eq_true_eq,decide_eq_false_iff_not,Bool.not_true,Bool.not_false,Bool.not_eq_true,Bool.not_eq_false,bne_eq_false_iff_eq,Decidable.not_not] at h1)
def iw (f:Option Nat) (j n:Bool):List LV:=[match f with | some k=>.d (.fn (.func k) [] []) | none=>.d (.val .nilFunc),.bool j,.bool n]
def vB:List LV:=iw none false false++iw (some 145) false false++iw (some 146) true false++iw (some 147) false false++iw (some 148) false false++iw (some 149) false false++iw (some 150) false false
 ++iw (some 151) false true++iw (some 152) false true++iw (some 153) true false++iw (some 154) true false++iw (some 155) true false++iw (some 156) true false++iw (some 157) true false
 ++iw (some 158) true false++iw (some 159) true false++iw (some 160) false true++iw (some 161) false true++iw (some 162) false true++iw (some 163) false true++iw (some 164) true false++iw (some 165) false false
theorem KP:br Tryz.prog G 74 [] [] (.agg vB) []:=by
 refine b_ Tryz.func74 (by decide) W5 rfl rfl ?_
 simp only [Zx,go_sem,simprocAttr]
 rfl
end Dv
set_option maxRecDepth 100000
namespace Dv
open Go Go.Proofs
variable {G:Nat→Option (List DV)}
def ZS:=qx Tryz.f24
theorem Xp:aq Tryz.prog Tryz.f24=some ZS:=by kernel_rfl
theorem me {c:aI} {s:ai} {o:dH} (hr:iy c s=true) (h:dX o=true) (h1:iz o.kind=false) (h2:fe o.kind=false):bC c s o=aW c s o:=by
 unfold bC Aj
 rw [if_neg (by simp [hr]),if_neg (by simp [h]),if_neg (by simp [h1]),if_neg (by simp [h2])]
theorem jx {c:aI} {s:ai} {o:dH} (hr:iy c s=true) (h:dX o=true) (h1:iz o.kind=true) (h2:fe o.kind=false):bC c s o=if o.a<1∨(s.jobs.length:Int)<o.a then (s,4) else aW c s o:=by
 unfold bC Aj
 rw [if_neg (by simp [hr]),if_neg (by simp [h])]
 by_cases hq:o.a<1∨(s.jobs.length:Int)<o.a
 ·rw [if_pos ⟨h1,hq⟩,if_pos hq]
 ·rw [if_neg (fun h=>hq h.2),if_neg (by simp [h2]),if_neg hq]
theorem mg {c:aI} {s:ai} {o:dH} (hr:iy c s=true) (h:dX o=true) (h1:iz o.kind=false) (h2:fe o.kind=true):bC c s o=if (s.nodes.length:Int)≤o.a then (s,4) else aW c s o:=by
 unfold bC Aj
 rw [if_neg (by simp [hr]),if_neg (by simp [h]),if_neg (by simp [h1])]
 by_cases hq:(s.nodes.length:Int)≤o.a
 ·rw [if_pos ⟨h2,hq⟩,if_pos hq]
 ·rw [if_neg (fun h=>hq h.2),if_neg hq]
def rA (s:ai) (p:ai×Int):Prop:=p.2≠0→p.1=s
theorem S6 {s:ai} {P:Prop} [Decidable P] {a b:ai×Int} (h1:rA s a) (h2:rA s b):rA s (if P then a else b):=by
 split
 ·exact h1
 ·exact h2
theorem Og (s:ai) (e:Int):rA s (s,e):=fun _=>rfl
theorem Yb (s t:ai):rA s (t,0):=fun h=>absurd rfl h
theorem EV (c:aI) (s:ai) (o:dH):rA s (aW c s o):=by
 unfold aW jf jZ jT gr qp LS nE mJ jS lX jF mV rX kW gY tR lR gF iG
 repeat' (first | exact Og _ _ | exact Yb _ _ | apply S6)
theorem k9 {o:dH} (h:dX o=true):(1≤o.kind∧o.kind≤21)∧(0≤o.a∧o.a≤1000000)∧(0≤o.b∧o.b≤1000000):=by
 unfold dX oJ at h
 simp only [Bool.and_eq_true,decide_eq_true_eq] at h
 exact ⟨h.1.1.1.1.1.1,h.1.1.1.1.1.2.1,h.1.1.1.1.2.1⟩
theorem KS {c:aI} {s:ai} {o:dH} (hp:cm c s) (hcf:1≤c.bn∧c.bn≤1000) (hk:o.kind=1∨o.kind=3∨o.kind=4∨o.kind=5∨o.kind=6∨o.kind=21):∃ f,List.take 3 (List.drop (o.kind.toNat*3) vB)=[.d (.fn (.func f) [] []),.bool false,.bool false]∧br Tryz.prog eD f [.ptr 0 0] (bZ c s o gG gG) (.int (aW c s o).2) (bZ c (aW c s o).1 o gG gG):=by
 have rD:=hp.len
 have hlj:=hp.jobs
 have ht:=hp.term
 rcases hk with hk | hk | hk | hk | hk | hk <;> refine ⟨_,by rw [hk]; rfl,?_⟩ <;> simp only [aW,hk,Int.reduceEq,if_true,if_false]
 ·exact FJ c s o hcf (by omega)
 ·exact FH c s o (by omega) (by omega)
 ·exact Jy c s o
 ·exact F1 c s o
 ·exact Lq c s o
 ·exact Eb c s o (by omega) ht.1
theorem Ov {c:aI} {s:ai} {o:dH} (hp:cm c s) (hb:0≤o.b) (hk:o.kind=2∨o.kind=9∨o.kind=10∨o.kind=11∨o.kind=12∨o.kind=13∨o.kind=14∨o.kind=15∨o.kind=20) {k:Nat} (hkl:k<s.jobs.length) (ha:o.a=k+1) (hJ:bG s o.a=fJ s k) (hm:0≤(fJ s k).nodes∧(fJ s k).nodes<64):∃ f,List.take 3 (List.drop (o.kind.toNat*3) vB)=[.d (.fn (.func f) [] []),.bool true,.bool false]∧br Tryz.prog eD f [.ptr 0 0] (bZ c s o (.rp 2 s.jobs.length 12 k 0) gG) (.int (aW c s o).2) (bZ c (aW c s o).1 o (.rp 2 s.jobs.length 12 k 0) gG):=by
 have rD:=hp.len
 have hlj:=hp.jobs
 rcases hk with hk | hk | hk | hk | hk | hk | hk | hk | hk <;> refine ⟨_,by rw [hk]; rfl,?_⟩ <;> simp only [aW,hk,Int.reduceEq,if_true,if_false]
 ·exact G8 c s o k hkl ha (by omega) (by omega)
 ·exact Np c s o k hkl ha (by omega) (by omega) (by rw [hJ]; exact (hp.num k hkl).inc.1)
 ·exact Jk c s o k hkl ha
 ·exact FE c s o k hkl ha (by omega) (by omega)
 ·exact GS c s o k hkl ha (by omega)
 ·exact Jr c s o k hkl ha
 ·exact KI c s o k hkl ha (by omega) (by omega)
 ·exact KO c s o k hkl ha (by omega) (by omega)
 ·exact FQ c s o k hkl ha (by omega) (by omega) hb (by rw [hJ]; exact hm)
theorem KT {c:aI} {s:ai} {o:dH} (hp:cm c s) (hk:o.kind=7∨o.kind=8∨o.kind=16∨o.kind=17∨o.kind=18∨o.kind=19) {i:Nat} (hil:i<s.nodes.length) (ha:o.a=i) (hN:bg s o.a=eS s i):∃ f,List.take 3 (List.drop (o.kind.toNat*3) vB)=[.d (.fn (.func f) [] []),.bool false,.bool true]∧br Tryz.prog eD f [.ptr 0 0] (bZ c s o gG (.rp 1 s.nodes.length 5 i 0)) (.int (aW c s o).2) (bZ c (aW c s o).1 o gG (.rp 1 s.nodes.length 5 i 0)):=by
 have rD:=hp.len
 have hlj:=hp.jobs
 rcases hk with hk | hk | hk | hk | hk | hk <;> refine ⟨_,by rw [hk]; rfl,?_⟩ <;> simp only [aW,hk,Int.reduceEq,if_true,if_false]
 ·exact Ou c s o i hil ha (by omega) (by omega) (by rw [hN]; exact hp.bW i hil)
 ·exact Wo c s o i hil ha
 ·exact GY c s o i hil ha
 ·exact BO c s o i hil ha
 ·exact MJ c s o i hil ha
 ·exact JJ c s o i hil ha
set_option maxHeartbeats 1600000 in
theorem BE (c:aI) (s:ai) (o:dH):br Tryz.prog eD 24 [f_ c,bz s,rS o] [] (.dM [bz (bC c s o).1,.int (bC c s o).2]) []:=by
 refine bD Tryz.func24 (by decide) Xp rfl ?_
 simp only [ZS,go_sem,simprocAttr]
 refine av (AE c s) rfl rfl rfl rfl ?_; simp only [go_sem,simprocAttr]
 cases hr:iy c s with
 | false=>
   have hA:bC c s o=(kY,1):=by unfold bC; rw [if_pos hr]
   rw [hA]
   simp only [go_sem,simprocAttr]
   exact bw [] rfl (by simp) (by simp [St.obj,ay,aF,St.get,aO,ah,aa,aM,kY,LV.int])
 | true=>
 have hp:=(gA c s).1 hr
 have rD:=hp.len
 have hlj:=hp.jobs
 have hcf:=(yb hr).Ah
 simp only [go_sem,simprocAttr]
 refine av (oa o) rfl rfl rfl rfl ?_; simp only [go_sem,simprocAttr]
 cases ho:dX o with
 | false=>
   have hA:bC c s o=(s,1):=by unfold bC Aj; rw [if_neg (by simp [hr]),if_pos ho]
   rw [hA]
   simp only [go_sem,simprocAttr]
   refine fO (qs s (by omega) (by omega)) rfl rfl rfl ?_
   simp only [go_sem,simprocAttr]
   exact bw [4,5] rfl (by simp [St.obj,ay]) (by simp [St.obj,ay,aF,St.get,aO,ah,aa,aM,LV.int,List.take_of_length_le])
 | true=>
 have hkn:=k9 ho
 obtain ⟨hkk,hka,hkb⟩:=hkn
 simp only [go_sem,simprocAttr]
 refine gz (qs s (by omega) (by omega)) rfl rfl rfl ?_
 simp only [go_sem,simprocAttr]
 refine az rfl ?_
 simp only [go_sem,simprocAttr]
 refine bA KP rfl rfl rfl rfl ?_
 simp only [go_sem,simprocAttr]
 have hE:=EV c s o
 have hK:0≤o.kind∧o.kind.toNat<22:=by omega
 have hkg:(o.kind=1∨o.kind=3∨o.kind=4∨o.kind=5∨o.kind=6∨o.kind=21)∨(o.kind=2∨o.kind=9∨o.kind=10∨o.kind=11∨o.kind=12∨o.kind=13∨o.kind=14∨o.kind=15∨o.kind=20)∨(o.kind=7∨o.kind=8∨o.kind=16∨o.kind=17∨o.kind=18∨o.kind=19):=by omega
 rcases hkg with hk | hk | hk
 ·obtain ⟨f,hx,hT⟩:=KS hp (by omega) hk
  have hA:bC c s o=aW c s o:=by
   rcases hk with hk | hk | hk | hk | hk | hk <;> exact me hr ho (by rw [hk]; rfl) (by rw [hk]; rfl)
  rw [hA]
  simp only [hK,hx,go_sem,simprocAttr]
  refine az rfl ?_
  simp only [go_sem,simprocAttr]
  refine au [6,4,5] (hT) rfl ?_ (by decide) ?_ ?_ (by simp) ?_ <;> simp only [aa,ah,go_sem,simprocAttr,bZ]
  generalize aW c s o=p at *
  cases he:(p.2 !=0) with
  | true=>
    simp only [he,go_sem,simprocAttr]
    refine fO (qs s (by omega) (by omega)) rfl rfl rfl ?_
    simp only [go_sem,simprocAttr]
    have hs:p.1=s:=hE (by simpa using he)
    rw [hs]
    exact bw [8,9] rfl (by simp [St.obj,ay]) (by simp [St.obj,ay,aF,St.get,aO,ah,aa,aM,LV.int,List.take_of_length_le])
  | false=>
    have NJ:p.2=0:=by simpa using he
    simp only [he,go_sem,simprocAttr]
    exact bw [4,5] rfl (by simp [St.obj,ay]) (by simp [St.obj,ay,aF,St.get,aO,ah,aa,aM,LV.int,List.take_of_length_le,NJ])
 ·have hA:bC c s o=if o.a<1∨(s.jobs.length:Int)<o.a then (s,4) else aW c s o:=by
   rcases hk with hk | hk | hk | hk | hk | hk | hk | hk | hk <;> exact jx hr ho (by rw [hk]; rfl) (by rw [hk]; rfl)
  have hx:∃ f,List.take 3 (List.drop (o.kind.toNat*3) vB)=[.d (.fn (.func f) [] []),.bool true,.bool false]:=by
   rcases hk with hk | hk | hk | hk | hk | hk | hk | hk | hk <;> exact ⟨_,by rw [hk]; rfl⟩
  obtain ⟨f,hx⟩:=hx
  rw [hA]
  simp only [hK,hx,go_sem,simprocAttr]
  refine az rfl ?_
  simp only [go_sem,simprocAttr]
  by_cases hq:o.a<1∨(s.jobs.length:Int)<o.a
  ·rw [if_pos hq]
   refine bI (fun h1=>?_) (fun h1=>?_) <;> simp only [h1,go_sem,simprocAttr] <;> (try simp only [beq_iff_eq,beq_eq_false_iff_ne,bne_iff_ne,ne_eq,decide_eq_true_eq,decide_eq_false_iff_not,Bool.not_true,Bool.not_false,Bool.not_eq_true,Bool.not_eq_false,bne_eq_false_iff_eq,Decidable.not_not] at h1)
   ·refine aJ (fun h2=>?_) (fun h2=>?_) <;> simp only [h2,go_sem,simprocAttr] <;> (try simp only [beq_iff_eq,beq_eq_false_iff_ne,bne_iff_ne,ne_eq,decide_eq_true_eq,decide_eq_false_iff_not,Bool.not_true,Bool.not_false,Bool.not_eq_true,Bool.not_eq_false,bne_eq_false_iff_eq,Decidable.not_not] at h2)
    ·exact bw [4,5] rfl (by simp [St.obj,ay]) (by simp [St.obj,ay,aF,St.get,aO,ah,aa,aM,LV.int,List.take_of_length_le])
    ·omega
   ·exact bw [4,5] rfl (by simp [St.obj,ay]) (by simp [St.obj,ay,aF,St.get,aO,ah,aa,aM,LV.int,List.take_of_length_le])
  rw [if_neg hq]
  have q1:decide (o.a<1)=false:=by simp; omega
  have q2:decide (o.a>(s.jobs.length:Int))=false:=by simp; omega
  have hw:IntKind.i64.wrap (o.a-1)=o.a-1:=aD (by omega) (by omega)
  have q3:0≤o.a-1:=by omega
  obtain ⟨k,sO⟩:∃ k:Nat,(o.a-1).toNat=k:=⟨_,rfl⟩
  have hkl:k<s.jobs.length:=by omega
  have abM:o.a=k+1:=by omega
  have hJ:bG s o.a=fJ s k:=by unfold bG fJ; rw [sO]
  obtain ⟨f2,hx2,hT⟩:=Ov hp hkb.1 hk hkl abM hJ ((yb hr).bits hkl)
  rw [hx2] at hx
  simp only [List.cons.injEq,LV.d.injEq,DV.fn.injEq,Fn.func.injEq,and_true] at hx
  obtain rfl:=hx
  simp only [q1,q2,q3,hw,sO,hkl,go_sem,simprocAttr]
  refine az rfl ?_
  simp only [go_sem,simprocAttr]
  refine au [6,4,5] (hT) rfl ?_ (by decide) ?_ ?_ (by simp) ?_ <;> simp only [aa,ah,go_sem,simprocAttr,bZ]
  generalize aW c s o=p at *
  cases he:(p.2 !=0) with
  | true=>
    simp only [he,go_sem,simprocAttr]
    refine fO (qs s (by omega) (by omega)) rfl rfl rfl ?_
    simp only [go_sem,simprocAttr]
    have hs:p.1=s:=hE (by simpa using he)
    rw [hs]
    exact bw [8,9] rfl (by simp [St.obj,ay]) (by simp [St.obj,ay,aF,St.get,aO,ah,aa,aM,LV.int,List.take_of_length_le])
  | false=>
    have NJ:p.2=0:=by simpa using he
    simp only [he,go_sem,simprocAttr]
    exact bw [4,5] rfl (by simp [St.obj,ay]) (by simp [St.obj,ay,aF,St.get,aO,ah,aa,aM,LV.int,List.take_of_length_le,NJ])
 ·have hA:bC c s o=if (s.nodes.length:Int)≤o.a then (s,4) else aW c s o:=by
   rcases hk with hk | hk | hk | hk | hk | hk <;> exact mg hr ho (by rw [hk]; rfl) (by rw [hk]; rfl)
  have hx:∃ f,List.take 3 (List.drop (o.kind.toNat*3) vB)=[.d (.fn (.func f) [] []),.bool false,.bool true]:=by
   rcases hk with hk | hk | hk | hk | hk | hk <;> exact ⟨_,by rw [hk]; rfl⟩
  obtain ⟨f,hx⟩:=hx
  rw [hA]
  simp only [hK,hx,go_sem,simprocAttr]
  refine az rfl ?_
  simp only [go_sem,simprocAttr]
  by_cases hq:(s.nodes.length:Int)≤o.a
  ·rw [if_pos hq]
   have q1:decide (o.a≥(s.nodes.length:Int))=true:=by simpa using hq
   simp only [q1,go_sem,simprocAttr]
   exact bw [4,5] rfl (by simp [St.obj,ay]) (by simp [St.obj,ay,aF,St.get,aO,ah,aa,aM,LV.int,List.take_of_length_le])
  rw [if_neg hq]
  have q1:decide (o.a≥(s.nodes.length:Int))=false:=by simp; omega
  have q3:0≤o.a:=hka.1
  obtain ⟨i,qZ⟩:∃ i:Nat,o.a.toNat=i:=⟨_,rfl⟩
  have hil:i<s.nodes.length:=by omega
  have hia:o.a=i:=by omega
  have hN:bg s o.a=eS s i:=by unfold bg eS; rw [qZ]
  obtain ⟨f2,hx2,hT⟩:=KT hp hk hil hia hN
  rw [hx2] at hx
  simp only [List.cons.injEq,LV.d.injEq,DV.fn.injEq,Fn.func.injEq,and_true] at hx
  obtain rfl:=hx
  simp only [q1,q3,qZ,hil,go_sem,simprocAttr]
  refine az rfl ?_
  simp only [go_sem,simprocAttr]
  refine au [6,4,5] (hT) rfl ?_ (by decide) ?_ ?_ (by simp) ?_ <;> simp only [aa,ah,go_sem,simprocAttr,bZ]
  generalize aW c s o=p at *
  cases he:(p.2 !=0) with
  | true=>
    simp only [he,go_sem,simprocAttr]
    refine fO (qs s (by omega) (by omega)) rfl rfl rfl ?_
    simp only [go_sem,simprocAttr]
    have hs:p.1=s:=hE (by simpa using he)
    rw [hs]
    exact bw [8,9] rfl (by simp [St.obj,ay]) (by simp [St.obj,ay,aF,St.get,aO,ah,aa,aM,LV.int,List.take_of_length_le])
  | false=>
    have NJ:p.2=0:=by simpa using he
    simp only [he,go_sem,simprocAttr]
    exact bw [4,5] rfl (by simp [St.obj,ay]) (by simp [St.obj,ay,aF,St.get,aO,ah,aa,aM,LV.int,List.take_of_length_le,NJ])
end Dv
