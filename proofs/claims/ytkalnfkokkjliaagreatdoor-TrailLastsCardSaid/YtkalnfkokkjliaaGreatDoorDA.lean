/- part -/
import Derived.Test.YtkalnfkokkjliaaGreatDoorD7
import Derived.Test.YtkalnfkokkjliaaGreatDoorPA
set_option linter.all false
set_option maxHeartbeats 1600000
set_option maxRecDepth 100000
namespace Dv
open Go Go.Proofs
variable {G:Nat→Option (List DV)}
def WN:=qx Tryz.f219
theorem Tc:aj Tryz.prog Tryz.f219=some WN:=by kernel_rfl
def Wi:=qx Tryz.f264
theorem SG:aj Tryz.prog Tryz.f264=some Wi:=by kernel_rfl
def WL:=qx Tryz.f221
theorem Ta:aj Tryz.prog Tryz.f221=some WL:=by kernel_rfl
def Xx:=qx Tryz.f148
theorem TR:aj Tryz.prog Tryz.f148=some Xx:=by kernel_rfl
def Xw:=qx Tryz.f149
theorem TQ:aj Tryz.prog Tryz.f149=some Xw:=by kernel_rfl
def Xv:=qx Tryz.f150
theorem TP:aj Tryz.prog Tryz.f150=some Xv:=by kernel_rfl
def Xy:=qx Tryz.f147
theorem TS:aj Tryz.prog Tryz.f147=some Xy:=by kernel_rfl
def Xf:=qx Tryz.f165
theorem TA:aj Tryz.prog Tryz.f165=some Xf:=by kernel_rfl
def XA:=qx Tryz.f145
theorem TU:aj Tryz.prog Tryz.f145=some XA:=by kernel_rfl
@[reducible] def bQ (c:aB) (s:aa) (o:bT) (jp np:LV):List aC:=
 [.box 133 [.int c.nodes,.int c.bI,.int c.cH,.int c.iN,.int c.cr,.int c.eZ,.int c.deadline,.int c.room,.int c.gX,
  .sl 1 s.nodes.length 5 0 s.nodes.length,.sl 2 s.jobs.length 12 0 s.jobs.length,.int s.goal,.int s.prior,.int s.mode,.int s.term,
  .int o.kind,.int o.a,.int o.b,.int o.c,.int o.d,.int o.e,.int o.f,jp,np],
  .dat 102 5 (s.nodes.map bX),.dat 119 12 (s.jobs.map dF)]
@[reducible] def gm:LV:=.d (.val (.pointer none))
theorem D_ (ok:Bool) (e:Int):bh Tryz.prog G 264 [.bool ok,.int e] [] (.int (if ok=true then 0 else e)) []:=by
 refine bn Tryz.func264 (by decide) SG rfl rfl ?_
 simp only [Wi,go_sem]
 cases ok <;> simp only [go_sem,Bool.false_eq_true]
theorem yw (c:aB) (s:aa) (o:bT) (ok:Bool) (to:Int):bh Tryz.prog G 221 [.ptr 0 0,.bool ok,.int to] (bQ c s o gm gm) (.int (gZ s ok to).2) (bQ c (gZ s ok to).1 o gm gm):=by
 refine aQ Tryz.func221 (by decide) Ta rfl rfl rfl rfl ?_
 simp only [WL,go_sem]
 cases ok with
 | true=>
   simp only [go_sem]
   refine ax (D_ true 5) rfl rfl rfl rfl ?_; simp only [go_sem]
   simp only [gZ,go_sem]
 | false=>
   simp only [go_sem]
   refine ax (D_ false 5) rfl rfl rfl rfl ?_; simp only [go_sem]
   simp only [gZ,go_sem,Bool.false_eq_true]
theorem Lb (c:aB) (s:aa) (o:bT):bh Tryz.prog G 148 [.ptr 0 0] (bQ c s o gm gm) (.int (gZ s (s.mode==0) 1).2) (bQ c (gZ s (s.mode==0) 1).1 o gm gm):=by
 refine aQ Tryz.func148 (by decide) TR rfl rfl rfl rfl ?_
 simp only [Xx,go_sem]
 refine av [0,1,2] (yw c s o (s.mode==0) 1) rfl ?_ (by decide) ?_ ?_ (by simp) ?_ <;> simp only [ag,ah,go_sem,bQ,List.length_range]
theorem GO (c:aB) (s:aa) (o:bT):bh Tryz.prog G 149 [.ptr 0 0] (bQ c s o gm gm) (.int (gZ s (s.mode==1) 0).2) (bQ c (gZ s (s.mode==1) 0).1 o gm gm):=by
 refine aQ Tryz.func149 (by decide) TQ rfl rfl rfl rfl ?_
 simp only [Xw,go_sem]
 refine av [0,1,2] (yw c s o (s.mode==1) 0) rfl ?_ (by decide) ?_ ?_ (by simp) ?_ <;> simp only [ag,ah,go_sem,bQ]
theorem MP (c:aB) (s:aa) (o:bT):bh Tryz.prog G 150 [.ptr 0 0] (bQ c s o gm gm) (.int (gZ s (s.mode !=2) 2).2) (bQ c (gZ s (s.mode !=2) 2).1 o gm gm):=by
 refine aQ Tryz.func150 (by decide) TP rfl rfl rfl rfl ?_
 simp only [Xv,go_sem]
 refine av [0,1,2] (yw c s o (s.mode !=2) 2) rfl ?_ (by decide) ?_ ?_ (by simp) ?_ <;> simp only [ag,ah,go_sem,bQ]
theorem ES (c:aB) (s:aa) (o:bT) (ht:s.term≤1000000) (h0:0≤s.term):bh Tryz.prog G 165 [.ptr 0 0] (bQ c s o gm gm) (.int (ij s).2) (bQ c (ij s).1 o gm gm):=by
 refine aQ Tryz.func165 (by decide) TA rfl rfl rfl rfl ?_
 simp only [Xf,go_sem]
 have hw:IntKind.i64.wrap (s.term+1)=s.term+1:=aL (by omega) (by omega)
 refine bp (fun h=>?_) (fun h=>?_) <;> simp only [h,go_sem] <;> (try simp only [qqS] at h)
 ·simp only [ij,h,ge_iff_le,go_sem]
 ·simp only [ij,h,ge_iff_le,hw,go_sem]
theorem Gx (c:aB) (s:aa) (o:bT) (hn:s.nodes.length≤1000) (hj:s.jobs.length≤1000):bh Tryz.prog G 147 [.ptr 0 0] (bQ c s o gm gm) (.int (kD s o).2) (bQ c (kD s o).1 o gm gm):=by
 refine aQ Tryz.func147 (by decide) TS rfl rfl rfl rfl ?_
 simp only [Xy,go_sem]
 refine ax (eW _ _ _) rfl rfl rfl rfl ?_; simp only [go_sem]
 cases h:bJ o.a 1 9 with
 | false=>simp only [kD,h,go_sem]
 | true=>
   simp only [go_sem]
   refine u7 [1,2] (jH s) rfl (by simp [ag,ah,bB,au,List.take_of_length_le,go_sem]) (by simp [au]) rfl rfl ?_; simp only [go_sem]
   refine an rfl ?_
   simp only [kD,h,go_sem,Bool.true_eq_false]
theorem Gz (c:aB) (s:aa) (o:bT) (h0:1≤c.bI∧c.bI≤1000) (hj:s.jobs.length≤1000):bh Tryz.prog G 145 [.ptr 0 0] (bQ c s o gm gm) (.int (jR c s o).2) (bQ c (jR c s o).1 o gm gm):=by
 refine aQ Tryz.func145 (by decide) TU rfl rfl rfl rfl ?_
 simp only [XA,go_sem]
 refine aU (Co c (mW o) h0) rfl rfl rfl rfl ?_; simp only [go_sem]
 cases ha:lQ c (mW o) with
 | false=>simp only [jR,ha,go_sem]
 | true=>
   simp only [go_sem]
   have hl:(s.jobs.length+1)*96≤70368744177664:=by omega
   refine bp (fun h=>?_) (fun h=>?_) <;> simp only [h,go_sem] <;> (try simp only [qqS] at h)
   ·simp only [jR,ha,h,ge_iff_le,go_sem,Bool.true_eq_false,show 24≤s.jobs.length by omega]
   ·have hh:¬ 24≤s.jobs.length:=by omega
    simp only [List.length_append,hl,go_sem]
    refine an rfl ?_
    simp only [jR,ha,hh,List.map_append,List.length_append,go_sem,Bool.true_eq_false]
    simp only [mW,go_sem]
def pZ (c:aB) (s:aa) (o:bT) (jp np:LV) (number phase:Int) (k:Nat):St:=⟨[(0,.ptr 0 0),(1,.int number),(2,.int phase),(6,.rp 2 s.jobs.length 12 (number-1).toNat 0),(21,.int s.nodes.length),(22,.int k)],
 [some (.box 133 [.int c.nodes,.int c.bI,.int c.cH,.int c.iN,.int c.cr,.int c.eZ,.int c.deadline,.int c.room,.int c.gX,
  .sl 1 s.nodes.length 5 0 s.nodes.length,.sl 2 s.jobs.length 12 0 s.jobs.length,.int s.goal,.int s.prior,.int s.mode,.int s.term,
  .int o.kind,.int o.a,.int o.b,.int o.c,.int o.d,.int o.e,.int o.f,jp,np]),
  some (.dat 102 5 ((gO (lets number) s.nodes k).map bX)),some (.dat 119 12 (s.jobs.map dF))]⟩
theorem j5 (c:aB) (s:aa) (o:bT) (jp np:LV) (number phase:Int) (hjp:eB 3 jp=true) (hnp:eB 3 np=true) (h1:1≤number) (h2:number≤s.jobs.length) (hn:s.nodes.length≤1000) (hj:s.jobs.length≤1000) :
  bh Tryz.prog G 219 [.ptr 0 0,.int number,.int phase] (bQ c s o jp np) (.dH []) (bQ c (ec s number phase) o jp np):=by
 refine aQ Tryz.func219 (by decide) Tc rfl rfl (by simp [dV,eB,eu,hjp,hnp,LV.int]) rfl ?_
 have hw:IntKind.i64.wrap (number-1)=number-1:=aL (by omega) (by omega)
 have h3:0≤number-1:=by omega
 have h4:(number-1).toNat<s.jobs.length:=by omega
 simp only [WN,hw,h3,h4,go_sem]
 refine aR [0,1,2,6,21,22] [] (fun k:Nat=>k≤s.nodes.length) (fun k=>s.nodes.length-k) (pZ c s o jp np number phase) 0 ?_ (Nat.zero_le _) (fun k hk=>?_)
 ·simp only [pZ,go_sem,yo,Int.natCast_zero]
 simp only [pZ,go_sem]
 refine bp (fun h=>?_) (fun h=>?_)
 ·have h:=eA h
  have hg:((gO (lets number) s.nodes k).map bX)[k]? = some (bX s.nodes[k]):=by rw [List.getElem?_map,D7 _ _ h]; rfl
  simp only [h,hg,nT,go_sem]
  refine bp (fun hq=>?_) (fun hq=>?_) <;> simp only [hq,go_sem] <;> (try simp only [qqS] at hq)
  ·have hs:((gO (lets number) s.nodes k).map bX).set k (bX { s.nodes[k] with aM:=0 })=(gO (lets number) s.nodes (k+1)).map bX:=by
    rw [← List.map_set,vr _ _ h (by simp only [lets,hq,if_true])]
   simp only [bX] at hs
   simp only [h,hg,nT,go_sem]
   refine bg (k+1) ?_ ?_ (by omega) (by omega)
   ·simp only [go_sem,hjp,hnp]
   ·simp only [pZ,go_sem,aG (show k<9223372036854775807 by omega),hs]
  ·have hs:=yp (lets number) s.nodes h (by simp only [lets,hq,if_false])
   refine bg (k+1) ?_ ?_ (by omega) (by omega)
   ·simp only [go_sem,hjp,hnp]
   ·simp only [pZ,go_sem,aG (show k<9223372036854775807 by omega),hs]
 ·obtain rfl:=eC h hk
  have hg2:=aK (f:=dF) aD h4
  simp only [hg2,yq,go_sem]
  simp only [List.getElem?_set_self,h4,List.set_set,List.length_set,go_sem]
  simp only [ec,ej,List.map_set,List.length_set,List.length_mapIdx,go_sem]
end Dv
namespace Dv
open Go Go.Proofs
variable {G:Nat→Option (List DV)}
def WK:=qx Tryz.f222
theorem S_:aj Tryz.prog Tryz.f222=some WK:=by kernel_rfl
def Xk:=qx Tryz.f160
theorem TF:aj Tryz.prog Tryz.f160=some Xk:=by kernel_rfl
def Xj:=qx Tryz.f161
theorem TE:aj Tryz.prog Tryz.f161=some Xj:=by kernel_rfl
def Xi:=qx Tryz.f162
theorem TD:aj Tryz.prog Tryz.f162=some Xi:=by kernel_rfl
def Xh:=qx Tryz.f163
theorem TC:aj Tryz.prog Tryz.f163=some Xh:=by kernel_rfl
def Xt:=qx Tryz.f152
theorem TN:aj Tryz.prog Tryz.f152=some Xt:=by kernel_rfl
def Xu:=qx Tryz.f151
theorem TO:aj Tryz.prog Tryz.f151=some Xu:=by kernel_rfl
def WJ:=qx Tryz.f223
theorem S9:aj Tryz.prog Tryz.f223=some WJ:=by kernel_rfl
def Xz:=qx Tryz.f146
theorem TT:aj Tryz.prog Tryz.f146=some Xz:=by kernel_rfl
def Xq:=qx Tryz.f154
theorem TL:aj Tryz.prog Tryz.f154=some Xq:=by kernel_rfl
def Xp:=qx Tryz.f155
theorem TK:aj Tryz.prog Tryz.f155=some Xp:=by kernel_rfl
def Xo:=qx Tryz.f156
theorem TJ:aj Tryz.prog Tryz.f156=some Xo:=by kernel_rfl
def Xn:=qx Tryz.f157
theorem TI:aj Tryz.prog Tryz.f157=some Xn:=by kernel_rfl
def Xm:=qx Tryz.f158
theorem TH:aj Tryz.prog Tryz.f158=some Xm:=by kernel_rfl
def Xl:=qx Tryz.f159
theorem TG:aj Tryz.prog Tryz.f159=some Xl:=by kernel_rfl
def vZ (s:aa) (j:bP) (nodes:Int) (f:Nat) (kv:Nat×Int):St:=⟨[(2,.int nodes),(3,.fn (.func f) [] []),(9,.int kv.2),(36,bS s.nodes),(37,.int s.nodes.length),(38,.int kv.1)],[some (.box 30 [bS s.nodes,de s.jobs,.int s.goal,.int s.prior,.int s.mode,.int s.term]),some (.box 119 [.int j.queue,.int j.prio,.int j.min,.int j.max,.int j.work,.int j.pin,.int j.phase,.int j.inc,.int j.nodes,.int j.since,.int j.til,.int j.epoch])]⟩
theorem L7 (s:aa) (j:bP) (nodes:Int) (f:Nat) (takes:a_→Bool) (hn:s.nodes.length≤6) (hT:∀ n,bh Tryz.prog G f [zq n] [] (.bool (takes n)) []) :
  bh Tryz.prog G 196 [aY s,Dg j,.int nodes,.fn (.func f) [] []] [] (.bool (mE s.nodes j nodes takes)) []:=by
 refine bn Tryz.func196 (by decide) JF rfl rfl ?_
 have hp:(2:Int) ^ s.nodes.length≤64∧1≤(2:Int) ^ s.nodes.length:=by
  have:s.nodes.length=0∨s.nodes.length=1∨s.nodes.length=2∨s.nodes.length=3∨s.nodes.length=4∨s.nodes.length=5∨s.nodes.length=6:=by omega
  rcases this with h | h | h | h | h | h | h <;> rw [h] <;> decide
 have hw:=tM s.nodes.length hn
 simp only [OV,go_sem,hw]
 unfold mE
 have none:∀ {x y:Prop} [Decidable x] [Decidable y] {b:Bool},x∨y→(if x∨y then false else b)=false:=fun h=>by rw [if_pos h]
 refine gM (fun h1=>?_) (fun h1=>?_) <;> simp only [h1,go_sem] <;> (try simp only [qqS] at h1)
 ·simp only [hw]
  refine gM (fun h2=>?_) (fun h2=>?_) <;> simp only [h2,go_sem] <;> (try simp only [qqS] at h2)
  ·obtain ⟨m,rfl⟩:=Int.eq_ofNat_of_zero_le (show 0≤nodes by omega)
   have hm:m<64:=by omega
   have hwu:IntKind.u64.wrap (m:Int)=m:=by simp [IntKind.wrap,IntKind.bits,IntKind.signed]; omega
   rw [if_neg (by omega)]
   simp only [hwu]
   refine aU (ug m hm) rfl rfl rfl rfl ?_; simp only [go_sem]
   refine aU (eW _ _ _) rfl rfl rfl rfl ?_; simp only [go_sem]
   cases hb:bJ (many m) j.min j.max with
   | false=>simp only [go_sem]
   | true=>
     simp only [go_sem]
     generalize UE:ee m takes s.nodes 0 j.pin=r
     refine aR [2,3,9,36,37,38] [] (fun kv:Nat×Int=>kv.1≤s.nodes.length∧ee m takes (s.nodes.drop kv.1) kv.1 kv.2=r) (fun kv=>s.nodes.length-kv.1) (vZ s j m f) (0,j.pin) ?_ ⟨Nat.zero_le _,UE⟩ ?_
     ·simp only [vZ,go_sem,Int.natCast_zero]
     rintro ⟨k,v⟩ ⟨hk,hF⟩
     dsimp only at hk hF
     simp only [vZ,go_sem]
     refine bp (fun h=>?_) (fun h=>?_)
     ·have h:=eA h
      rw [List.drop_eq_getElem_cons h] at hF
      unfold ee at hF
      simp only [get_map h,go_sem,Kg (m:Int) k (by omega)]
      have go:∀ v',ee m takes (s.nodes.drop (k+1)) (k+1) v'=r→(k+1,v').1≤s.nodes.length∧ee m takes (s.nodes.drop (k+1,v').1) (k+1,v').1 (k+1,v').2=r:=fun v' h'=>⟨h,h'⟩
      cases hb1:hasB (m:Int) k with
      | false=>
        rw [if_pos hb1] at hF
        simp only [go_sem]
        refine bg (k+1,v) ?_ ?_ (go _ hF) (by dsimp only; omega)
        ·simp only [go_sem]
        ·simp only [vZ,go_sem,aG (show k<9223372036854775807 by omega)]
      | true=>
        rw [if_neg (by simp [hb1])] at hF
        simp only [go_sem]
        refine bp (fun hv=>?_) (fun hv=>?_) <;> simp only [hv,go_sem] <;> (try simp only [qqS] at hv)
        ·rw [if_pos hv] at hF
         refine ax (hT s.nodes[k]) rfl rfl rfl rfl ?_; simp only [go_sem]
         cases ht:takes s.nodes[k] with
         | false=>
           rw [if_neg (by simp [ht])] at hF
           simp only [go_sem,← hF]
         | true=>
           by_cases hq:s.nodes[k].version=s.nodes[k].version
           ·rw [if_pos ⟨ht,hq⟩] at hF
            have hq1:(s.nodes[k].version !=s.nodes[k].version)=false:=by simp [← hq]
            simp only [go_sem,hq1]
            refine bg (k+1,s.nodes[k].version) ?_ ?_ (go _ hF) (by dsimp only; omega)
            ·simp only [go_sem]
            ·simp only [vZ,go_sem,aG (show k<9223372036854775807 by omega)]
           ·rw [if_neg (fun h'=>hq h'.2)] at hF
            have hq1:(s.nodes[k].version !=s.nodes[k].version)=true:=bne_iff_ne.2 hq
            simp only [go_sem,hq1,← hF]
        ·rw [if_neg hv] at hF
         refine ax (hT s.nodes[k]) rfl rfl rfl rfl ?_; simp only [go_sem]
         cases ht:takes s.nodes[k] with
         | false=>
           rw [if_neg (by simp [ht])] at hF
           simp only [go_sem,← hF]
         | true=>
           by_cases hq:s.nodes[k].version=v
           ·rw [if_pos ⟨ht,hq⟩] at hF
            have hq1:(s.nodes[k].version !=v)=false:=by simp [← hq]
            simp only [go_sem,hq1]
            refine bg (k+1,v) ?_ ?_ (go _ hF) (by dsimp only; omega)
            ·simp only [go_sem]
            ·simp only [vZ,go_sem,aG (show k<9223372036854775807 by omega)]
           ·rw [if_neg (fun h'=>hq h'.2)] at hF
            have hq1:(s.nodes[k].version !=v)=true:=bne_iff_ne.2 hq
            simp only [go_sem,hq1,← hF]
     ·obtain rfl:=eC h hk
      rw [List.drop_length] at hF
      simp only [go_sem,← hF,ee]
  ·rw [if_pos (.inr h2)]
 ·rw [if_pos (.inl h1)]
theorem FI (n:a_):bh Tryz.prog G 222 [zq n] [] (.bool (lM n)) []:=by
 refine bn Tryz.func222 (by decide) S_ rfl rfl ?_
 simp only [WK,go_sem]
 unfold lM
 cases h1:n.up <;> cases h2:n.cF <;> cases h3:n.bw <;> simp only [h1,h2,h3,go_sem] <;> rfl
section
variable (c:aB) (s:aa) (o:bT) (i:Nat) (hi:i<s.nodes.length) (ha:o.a=i)
include hi ha
theorem Ip:bh Tryz.prog G 160 [.ptr 0 0] (bQ c s o gm (.rp 1 s.nodes.length 5 i 0)) (.int (mH s o).2) (bQ c (mH s o).1 o gm (.rp 1 s.nodes.length 5 i 0)):=by
 refine aQ Tryz.func160 (by decide) TF rfl rfl rfl rfl ?_
 simp only [Xk,go_sem]
 have hg:=aK (f:=bX) ai hi
 have ha2:o.a.toNat=i:=by omega
 have hN:cO s o.a=s.nodes.getD i ai:=by unfold cO; rw [ha2]
 generalize s.nodes.getD i ai=n at *
 cases hu:n.up <;> cases hc:n.cF <;> simp only [hg,hu,hc,go_sem] <;> simp only [mH,hu,hc,jY,hN,ha2,List.map_set,List.length_set,List.set_set,go_sem,Bool.true_eq_false,Bool.false_eq_true,ne_eq,not_true,not_false_eq_true,or_self]
theorem Cy:bh Tryz.prog G 161 [.ptr 0 0] (bQ c s o gm (.rp 1 s.nodes.length 5 i 0)) (.int (iJ s o).2) (bQ c (iJ s o).1 o gm (.rp 1 s.nodes.length 5 i 0)):=by
 refine aQ Tryz.func161 (by decide) TE rfl rfl rfl rfl ?_
 simp only [Xj,go_sem]
 have hg:=aK (f:=bX) ai hi
 have ha2:o.a.toNat=i:=by omega
 have hN:cO s o.a=s.nodes.getD i ai:=by unfold cO; rw [ha2]
 generalize s.nodes.getD i ai=n at *
 cases hu:n.bw <;> cases hc:n.cF <;> simp only [hg,hu,hc,go_sem] <;> simp only [iJ,hu,hc,jY,hN,ha2,List.map_set,List.length_set,List.set_set,go_sem,Bool.true_eq_false,Bool.false_eq_true,ne_eq,not_true,not_false_eq_true,or_self]
theorem Ou:bh Tryz.prog G 162 [.ptr 0 0] (bQ c s o gm (.rp 1 s.nodes.length 5 i 0)) (.int (wM s o).2) (bQ c (wM s o).1 o gm (.rp 1 s.nodes.length 5 i 0)):=by
 refine aQ Tryz.func162 (by decide) TD rfl rfl rfl rfl ?_
 simp only [Xi,go_sem]
 have hg:=aK (f:=bX) ai hi
 have ha2:o.a.toNat=i:=by omega
 have hN:cO s o.a=s.nodes.getD i ai:=by unfold cO; rw [ha2]
 generalize s.nodes.getD i ai=n at *
 cases hu:n.up <;> cases hc:n.cF <;> cases hm:n.bw <;> cases hj:(n.aM !=0) <;> simp only [hg,hu,hc,hm,hj,go_sem] <;> (simp only [qqS] at hj) <;> simp only [wM,hu,hc,hm,hj,jY,hN,ha2,List.map_set,List.length_set,List.set_set,go_sem,Bool.true_eq_false,Bool.false_eq_true,ne_eq,not_true,not_false_eq_true,or_self]
theorem Lm:bh Tryz.prog G 163 [.ptr 0 0] (bQ c s o gm (.rp 1 s.nodes.length 5 i 0)) (.int (mX s o).2) (bQ c (mX s o).1 o gm (.rp 1 s.nodes.length 5 i 0)):=by
 refine aQ Tryz.func163 (by decide) TC rfl rfl rfl rfl ?_
 simp only [Xh,go_sem]
 have hg:=aK (f:=bX) ai hi
 have ha2:o.a.toNat=i:=by omega
 have hN:cO s o.a=s.nodes.getD i ai:=by unfold cO; rw [ha2]
 generalize s.nodes.getD i ai=n at *
 refine ax (eW _ _ _) rfl rfl rfl rfl ?_; simp only [go_sem]
 cases hw:bJ o.b 1 9 with
 | false=>simp only [hg,go_sem]; simp only [mX,hw,jY,hN,ha2,List.map_set,List.length_set,List.set_set,go_sem,Bool.true_eq_false,Bool.false_eq_true,ne_eq,not_true,not_false_eq_true,or_self]
 | true=>
   cases hm:n.bw with
   | false=>simp only [hg,hm,go_sem]; simp only [mX,hw,hm,jY,hN,ha2,List.map_set,List.length_set,List.set_set,go_sem,Bool.true_eq_false,Bool.false_eq_true,ne_eq,not_true,not_false_eq_true,or_self]
   | true=>
     simp only [hg,hm,hi,List.getElem?_set_self,List.length_set,go_sem]
     refine an rfl ?_
     simp only [mX,hw,hm,jY,hN,ha2,List.map_set,List.length_set,List.set_set,go_sem,Bool.true_eq_false,Bool.false_eq_true,ne_eq,not_true,not_false_eq_true,or_self]
theorem Yq:bh Tryz.prog G 152 [.ptr 0 0] (bQ c s o gm (.rp 1 s.nodes.length 5 i 0)) (.int (QI s o).2) (bQ c (QI s o).1 o gm (.rp 1 s.nodes.length 5 i 0)):=by
 refine aQ Tryz.func152 (by decide) TN rfl rfl rfl rfl ?_
 simp only [Xt,go_sem]
 have hg:=aK (f:=bX) ai hi
 have ha2:o.a.toNat=i:=by omega
 have hN:cO s o.a=s.nodes.getD i ai:=by unfold cO; rw [ha2]
 generalize s.nodes.getD i ai=n at *
 refine ax (eW _ _ _) rfl rfl rfl rfl ?_; simp only [go_sem]
 cases hw:bJ o.b 1 9 with
 | false=>simp only [hg,go_sem]; simp only [QI,hw,jY,hN,ha2,List.map_set,List.length_set,List.set_set,go_sem,Bool.true_eq_false,Bool.false_eq_true,ne_eq,not_true,not_false_eq_true,or_self]
 | true=>
   cases hm:n.up with
   | true=>simp only [hg,hm,go_sem]; simp only [QI,hw,hm,jY,hN,ha2,List.map_set,List.length_set,List.set_set,go_sem,Bool.true_eq_false,Bool.false_eq_true,ne_eq,not_true,not_false_eq_true,or_self]
   | false=>
     simp only [hg,hm,hi,List.getElem?_set_self,List.length_set,go_sem]
     refine an rfl ?_
     simp only [QI,hw,hm,jY,hN,ha2,List.map_set,List.length_set,List.set_set,go_sem,Bool.true_eq_false,Bool.false_eq_true,ne_eq,not_true,not_false_eq_true,or_self]
end
end Dv
namespace Dv
open Go Go.Proofs
variable {G:Nat→Option (List DV)}
theorem Er (c:aB) (s:aa) (o:bT) (k:Nat) (hk:k<s.jobs.length) (ha:o.a=k+1):bh Tryz.prog G 223 [.ptr 0 0] (bQ c s o (.rp 2 s.jobs.length 12 k 0) gm) (.bool (tQ (ej s o.a))) (bQ c s o (.rp 2 s.jobs.length 12 k 0) gm):=by
 refine aQ Tryz.func223 (by decide) S9 rfl rfl rfl rfl ?_
 simp only [WJ,go_sem]
 have hg:=aK (f:=dF) aD hk
 have ha2:(o.a-1).toNat=k:=by omega
 have hJ:ej s o.a=s.jobs.getD k aD:=by unfold ej; rw [ha2]
 generalize s.jobs.getD k aD=j at *
 simp only [hg,go_sem]
 refine di (fun h=>?_) (fun h=>?_) <;> simp only [h,go_sem] <;> (try simp only [qqS] at h)
 ·have e1:(j.phase==2)=false:=by simpa using h
  simp only [hg,hJ,tQ,h,e1,go_sem]
  rfl
 ·have e1:(j.phase==2)=true:=by simpa using h
  simp only [hJ,tQ,h,e1,go_sem]
theorem IC (c:aB) (s:aa) (o:bT) (k:Nat) (hk:k<s.jobs.length) (ha:o.a=k+1) (hn:s.nodes.length≤1000) (hj:s.jobs.length≤1000):bh Tryz.prog G 146 [.ptr 0 0] (bQ c s o (.rp 2 s.jobs.length 12 k 0) gm) (.int (kL s o).2) (bQ c (kL s o).1 o (.rp 2 s.jobs.length 12 k 0) gm):=by
 refine aQ Tryz.func146 (by decide) TT rfl rfl rfl rfl ?_
 simp only [Xz,go_sem]
 have hg:=aK (f:=dF) aD hk
 have ha2:(o.a-1).toNat=k:=by omega
 have hJ:ej s o.a=s.jobs.getD k aD:=by unfold ej; rw [ha2]
 generalize s.jobs.getD k aD=j at *
 simp only [hg,go_sem]
 refine bp (fun h=>?_) (fun h=>?_) <;> simp only [h,go_sem] <;> (try simp only [qqS] at h)
 ·simp only [kL,h,fU,hJ,ha2,List.map_set,List.length_set,List.set_set,go_sem,Bool.true_eq_false,Bool.false_eq_true,ne_eq,not_true,not_false_eq_true,or_self]
 ·refine av [0,1,2] (j5 c s o (.rp 2 s.jobs.length 12 k 0) gm o.a 4 rfl rfl (by omega) (by omega) hn hj) rfl ?_ (by decide) ?_ ?_ (by simp) ?_ <;> simp only [ag,ah,go_sem,bQ]
  simp only [kL,h,fU,hJ,ha2,List.map_set,List.length_set,List.set_set,go_sem,Bool.true_eq_false,Bool.false_eq_true,ne_eq,not_true,not_false_eq_true,or_self]
theorem Gu (c:aB) (s:aa) (o:bT) (k:Nat) (hk:k<s.jobs.length) (ha:o.a=k+1) (hn:s.nodes.length≤1000) (hj:s.jobs.length≤1000):bh Tryz.prog G 155 [.ptr 0 0] (bQ c s o (.rp 2 s.jobs.length 12 k 0) gm) (.int (kC s o).2) (bQ c (kC s o).1 o (.rp 2 s.jobs.length 12 k 0) gm):=by
 refine aQ Tryz.func155 (by decide) TK rfl rfl rfl rfl ?_
 simp only [Xp,go_sem]
 have hg:=aK (f:=dF) aD hk
 have ha2:(o.a-1).toNat=k:=by omega
 have hJ:ej s o.a=s.jobs.getD k aD:=by unfold ej; rw [ha2]
 generalize s.jobs.getD k aD=j at *
 simp only [hg,go_sem]
 refine bp (fun h=>?_) (fun h=>?_) <;> simp only [h,go_sem] <;> (try simp only [qqS] at h)
 ·simp only [kC,h,fU,hJ,ha2,List.map_set,List.length_set,List.set_set,go_sem,Bool.true_eq_false,Bool.false_eq_true,ne_eq,not_true,not_false_eq_true,or_self]
 ·refine av [0,1,2] (j5 c s o (.rp 2 s.jobs.length 12 k 0) gm o.a 0 rfl rfl (by omega) (by omega) hn hj) rfl ?_ (by decide) ?_ ?_ (by simp) ?_ <;> simp only [ag,ah,go_sem,bQ]
  simp only [kC,h,fU,hJ,ha2,List.map_set,List.length_set,List.set_set,go_sem,Bool.true_eq_false,Bool.false_eq_true,ne_eq,not_true,not_false_eq_true,or_self]
theorem Mc (c:aB) (s:aa) (o:bT) (k:Nat) (hk:k<s.jobs.length) (ha:o.a=k+1) (hn:s.nodes.length≤1000) (hj:s.jobs.length≤1000):bh Tryz.prog G 158 [.ptr 0 0] (bQ c s o (.rp 2 s.jobs.length 12 k 0) gm) (.int (oE s o).2) (bQ c (oE s o).1 o (.rp 2 s.jobs.length 12 k 0) gm):=by
 refine aQ Tryz.func158 (by decide) TH rfl rfl rfl rfl ?_
 simp only [Xm,go_sem]
 have hg:=aK (f:=dF) aD hk
 have ha2:(o.a-1).toNat=k:=by omega
 have hJ:ej s o.a=s.jobs.getD k aD:=by unfold ej; rw [ha2]
 generalize s.jobs.getD k aD=j at *
 simp only [hg,go_sem]
 refine bp (fun h=>?_) (fun h=>?_) <;> simp only [h,go_sem] <;> (try simp only [qqS] at h)
 ·simp only [oE,h,fU,hJ,ha2,List.map_set,List.length_set,List.set_set,go_sem,Bool.true_eq_false,Bool.false_eq_true,ne_eq,not_true,not_false_eq_true,or_self]
 ·refine av [0,1,2] (j5 c s o (.rp 2 s.jobs.length 12 k 0) gm o.a 0 rfl rfl (by omega) (by omega) hn hj) rfl ?_ (by decide) ?_ ?_ (by simp) ?_ <;> simp only [ag,ah,go_sem,bQ]
  simp only [oE,h,fU,hJ,ha2,List.map_set,List.length_set,List.set_set,go_sem,Bool.true_eq_false,Bool.false_eq_true,ne_eq,not_true,not_false_eq_true,or_self]
theorem Mj (c:aB) (s:aa) (o:bT) (k:Nat) (hk:k<s.jobs.length) (ha:o.a=k+1) (hn:s.nodes.length≤1000) (hj:s.jobs.length≤1000):bh Tryz.prog G 159 [.ptr 0 0] (bQ c s o (.rp 2 s.jobs.length 12 k 0) gm) (.int (uS s o).2) (bQ c (uS s o).1 o (.rp 2 s.jobs.length 12 k 0) gm):=by
 refine aQ Tryz.func159 (by decide) TG rfl rfl rfl rfl ?_
 simp only [Xl,go_sem]
 have hg:=aK (f:=dF) aD hk
 have ha2:(o.a-1).toNat=k:=by omega
 have hJ:ej s o.a=s.jobs.getD k aD:=by unfold ej; rw [ha2]
 generalize s.jobs.getD k aD=j at *
 refine av [0,1,2] (Er c s o k hk ha) rfl ?_ (by decide) ?_ ?_ (by simp) ?_ <;> simp only [ag,ah,go_sem,bQ]
 simp only [hJ]
 cases h:tQ j with
 | false=>simp only [go_sem]; simp only [uS,h,fU,hJ,ha2,List.map_set,List.length_set,List.set_set,go_sem,Bool.true_eq_false,Bool.false_eq_true,ne_eq,not_true,not_false_eq_true,or_self]
 | true=>
   simp only [go_sem]
   refine av [0,1,2] (j5 c s o (.rp 2 s.jobs.length 12 k 0) gm o.a 4 rfl rfl (by omega) (by omega) hn hj) rfl ?_ (by decide) ?_ ?_ (by simp) ?_ <;> simp only [ag,ah,go_sem,bQ]
   simp only [uS,h,fU,hJ,ha2,List.map_set,List.length_set,List.set_set,go_sem,Bool.true_eq_false,Bool.false_eq_true,ne_eq,not_true,not_false_eq_true,or_self]
theorem KI (c:aB) (s:aa) (o:bT) (k:Nat) (hk:k<s.jobs.length) (ha:o.a=k+1):bh Tryz.prog G 154 [.ptr 0 0] (bQ c s o (.rp 2 s.jobs.length 12 k 0) gm) (.int (nW s o).2) (bQ c (nW s o).1 o (.rp 2 s.jobs.length 12 k 0) gm):=by
 refine aQ Tryz.func154 (by decide) TL rfl rfl rfl rfl ?_
 simp only [Xq,go_sem]
 have hg:=aK (f:=dF) aD hk
 have ha2:(o.a-1).toNat=k:=by omega
 have hJ:ej s o.a=s.jobs.getD k aD:=by unfold ej; rw [ha2]
 generalize s.jobs.getD k aD=j at *
 simp only [hg,go_sem]
 refine bp (fun h=>?_) (fun h=>?_) <;> simp only [h,go_sem] <;> (try simp only [qqS] at h)
 ·simp only [nW,h,fU,hJ,ha2,List.map_set,List.length_set,List.set_set,go_sem,Bool.true_eq_false,Bool.false_eq_true,ne_eq,not_true,not_false_eq_true,or_self]
 ·simp only [hg,hk,List.getElem?_set_self,List.length_set,go_sem]
  refine an rfl ?_
  simp only [nW,h,fU,hJ,ha2,List.map_set,List.length_set,List.set_set,go_sem,Bool.true_eq_false,Bool.false_eq_true,ne_eq,not_true,not_false_eq_true,or_self]
theorem KR (c:aB) (s:aa) (o:bT) (k:Nat) (hk:k<s.jobs.length) (ha:o.a=k+1):bh Tryz.prog G 157 [.ptr 0 0] (bQ c s o (.rp 2 s.jobs.length 12 k 0) gm) (.int (ki s o).2) (bQ c (ki s o).1 o (.rp 2 s.jobs.length 12 k 0) gm):=by
 refine aQ Tryz.func157 (by decide) TI rfl rfl rfl rfl ?_
 simp only [Xn,go_sem]
 have hg:=aK (f:=dF) aD hk
 have ha2:(o.a-1).toNat=k:=by omega
 have hJ:ej s o.a=s.jobs.getD k aD:=by unfold ej; rw [ha2]
 generalize s.jobs.getD k aD=j at *
 refine av [0,1,2] (Er c s o k hk ha) rfl ?_ (by decide) ?_ ?_ (by simp) ?_ <;> simp only [ag,ah,go_sem,bQ]
 simp only [hJ]
 cases h:tQ j with
 | false=>simp only [go_sem]; simp only [ki,h,fU,hJ,ha2,List.map_set,List.length_set,List.set_set,go_sem,Bool.true_eq_false,Bool.false_eq_true,ne_eq,not_true,not_false_eq_true,or_self]
 | true=>
   simp only [hg,go_sem]
   refine gM (fun h1=>?_) (fun h1=>?_) <;> simp only [h1,go_sem] <;> (try simp only [qqS] at h1)
   ·simp only [hg,go_sem]
    rw [h1]
    refine bp (fun h2=>?_) (fun h2=>?_) <;> simp only [h2,go_sem] <;> (try simp only [qqS] at h2)
    ·simp only [ki,h,h1,h2,fU,hJ,ha2,List.map_set,List.length_set,List.set_set,go_sem,Bool.true_eq_false,Bool.false_eq_true,ne_eq,not_true,not_false_eq_true,or_self]
    ·simp only [hg,go_sem]
     refine an rfl ?_
     simp only [ki,h,h1,h2,fU,hJ,ha2,List.map_set,List.length_set,List.set_set,go_sem,Bool.true_eq_false,Bool.false_eq_true,ne_eq,not_true,not_false_eq_true,or_self]
   ·simp only [ki,h,h1,fU,hJ,ha2,List.map_set,List.length_set,List.set_set,go_sem,Bool.true_eq_false,Bool.false_eq_true,ne_eq,not_true,not_false_eq_true,or_self]
theorem Il (c:aB) (s:aa) (o:bT) (k:Nat) (hk:k<s.jobs.length) (ha:o.a=k+1) (hj:s.jobs.length≤1000):bh Tryz.prog G 156 [.ptr 0 0] (bQ c s o (.rp 2 s.jobs.length 12 k 0) gm) (.int (mY c s o).2) (bQ c (mY c s o).1 o (.rp 2 s.jobs.length 12 k 0) gm):=by
 refine aQ Tryz.func156 (by decide) TJ rfl rfl rfl rfl ?_
 simp only [Xo,go_sem]
 have hg:=aK (f:=dF) aD hk
 have ha2:(o.a-1).toNat=k:=by omega
 have hJ:ej s o.a=s.jobs.getD k aD:=by unfold ej; rw [ha2]
 generalize s.jobs.getD k aD=j at *
 simp only [hg,go_sem]
 refine bp (fun h=>?_) (fun h=>?_) <;> simp only [h,go_sem] <;> (try simp only [qqS] at h)
 ·simp only [mY,h,fU,hJ,ha2,List.map_set,List.length_set,List.set_set,go_sem,Bool.true_eq_false,Bool.false_eq_true,ne_eq,not_true,not_false_eq_true,or_self]
 ·simp only [hg,go_sem]
  refine u7 [1,2] (s8 s j.queue (by omega)) rfl (by simp [ag,ah,bB,au,List.take_of_length_le,go_sem]) (by simp [au]) rfl rfl ?_; simp only [go_sem]
  refine bp (fun h2=>?_) (fun h2=>?_) <;> simp only [h2,go_sem] <;> (try simp only [qqS] at h2)
  ·simp only [mY,h,h2,ge_iff_le,fU,hJ,ha2,List.map_set,List.length_set,List.set_set,go_sem,Bool.true_eq_false,Bool.false_eq_true,ne_eq,not_true,not_false_eq_true,or_self]
  ·simp only [hg,hk,List.getElem?_set_self,List.length_set,go_sem]
   refine an rfl ?_
   simp only [mY,h,h2,ge_iff_le,fU,hJ,ha2,List.map_set,List.length_set,List.set_set,go_sem,Bool.true_eq_false,Bool.false_eq_true,ne_eq,not_true,not_false_eq_true,or_self]
theorem Qf (c:aB) (s:aa) (o:bT) (i:Nat) (hi:i<s.nodes.length) (ha:o.a=i) (hn:s.nodes.length≤1000) (hj:s.jobs.length≤1000) (hb:0≤(cO s o.a).aM∧(cO s o.a).aM≤s.jobs.length) :
  bh Tryz.prog G 151 [.ptr 0 0] (bQ c s o gm (.rp 1 s.nodes.length 5 i 0)) (.int (sr s o).2) (bQ c (sr s o).1 o gm (.rp 1 s.nodes.length 5 i 0)):=by
 refine aQ Tryz.func151 (by decide) TO rfl rfl rfl rfl ?_
 simp only [Xu,go_sem]
 have hg:=aK (f:=bX) ai hi
 have ha2:o.a.toNat=i:=by omega
 have hN:cO s o.a=s.nodes.getD i ai:=by unfold cO; rw [ha2]
 generalize s.nodes.getD i ai=n at *
 rw [hN] at hb
 cases hu:n.up with
 | false=>simp only [hg,hu,go_sem]; simp only [sr,hu,jY,hN,ha2,List.map_set,List.length_set,List.set_set,go_sem,Bool.true_eq_false,Bool.false_eq_true,ne_eq,not_true,not_false_eq_true,or_self]
 | true=>
   simp only [hg,hu,go_sem]
   refine bp (fun h=>?_) (fun h=>?_) <;> simp only [h,go_sem] <;> (try simp only [qqS] at h)
   ·simp only [hg,go_sem]
    refine av [0,1,2] (j5 c s o gm (.rp 1 s.nodes.length 5 i 0) n.aM 0 rfl rfl (by omega) (by omega) hn hj) rfl ?_ (by decide) ?_ ?_ (by simp) ?_ <;> simp only [ag,ah,go_sem,bQ]
    have hg2:((ec s n.aM 0).nodes.map bX)[i]? = some (bX (cO (ec s n.aM 0) o.a)):=by
     unfold cO; rw [ha2]; exact aK ai (by simp [ec]; exact hi)
    have hl:(ec s n.aM 0).nodes.length=s.nodes.length:=by simp [ec]
    have hi2:i<(ec s n.aM 0).nodes.length:=by omega
    generalize hm:cO (ec s n.aM 0) o.a=m at *
    simp only [hg2,hl,hi,List.getElem?_set_self,List.length_set,go_sem]
    refine an rfl ?_
    simp only [sr,hu,h,hm,hl,jY,hN,ha2,List.map_set,List.length_set,List.set_set,go_sem,Bool.true_eq_false,Bool.false_eq_true,ne_eq,not_true,not_false_eq_true,or_self]
   ·simp only [hg,hi,List.getElem?_set_self,List.length_set,go_sem]
    refine an rfl ?_
    simp only [sr,hu,h,jY,hN,ha2,List.map_set,List.length_set,List.set_set,go_sem,Bool.true_eq_false,Bool.false_eq_true,ne_eq,not_true,not_false_eq_true,or_self]
end Dv
namespace Dv
open Go Go.Proofs
variable {G:Nat→Option (List DV)}
def Xr:=qx Tryz.f153
theorem TM:aj Tryz.prog Tryz.f153=some Xr:=by kernel_rfl
def Xg:Nat×C×List RV:=(92,
(.seq (.qV [qo 2 (.mv (qk 0))])
 (.seq (.block 0 (.seq (.nq [qm 4 0,
 qd 5 (.nD (.t 4)) [0],
 qd 6 (.iB 15 (.t 5)) [1,0],
 qd 7 (.iB 2 (.t 6)) [2,1,0],
 qd 8 (.ld1 (.t 7)) [3,2,1,0],
 qm 9 0,
 qd 10 (.nD (.t 9)) [5],
 qd 11 (.iB 9 (.t 10)) [6,5],
 qd 12 (.iB 0 (.t 11)) [7,6,5],
 qd 13 (.ld1 (.t 12)) [8,7,6,5],
 qd 14 (.len (.t 13)) [9,8,7,6,5],
 qd 15 (.bin .geq (.t 8) (.t 14)) [4,3,2,1,0,10,9,8,7,6,5],
 qd 3 (.mv (.t 15)) [11,4,3,2,1,0,10,9,8,7,6,5]])
 (.cond (.t 3) (.seq (.qV [qo 2 (.mv (qk 4))])
 .ret)
 (.seq (.qV [qm 17 0,
 qo 18 (.nD (.t 17)),
 qo 19 (.iB 22 (.t 18)),
 qo 20 (.ld1 (.t 19)),
 qo 21 (.nD (.t 20)),
 qo 22 (.iB 6 (.t 21)),
 qo 23 (.ld1 (.t 22)),
 qo 24 (.bin .neq (.t 23) (qk 2)),
 qm 16 24])
 (.cond (.t 16) (.seq (.qV [qo 2 (.mv (qk 5))])
 .ret)
 (.seq (.nq [qm 26 0,
 qd 27 (.nD (.t 26)) [0],
 qd 28 (.iB 9 (.t 27)) [1,0],
 qd 29 (.iB 0 (.t 28)) [2,1,0],
 qd 30 (.ld1 (.t 29)) [3,2,1,0],
 qm 31 0,
 qd 32 (.nD (.t 31)) [5],
 qd 33 (.iB 15 (.t 32)) [6,5],
 qd 34 (.iB 2 (.t 33)) [7,6,5],
 qd 35 (.ld1 (.t 34)) [8,7,6,5],
 qd 36 (.QJ 5 (.t 30) (.t 35)) [4,3,2,1,0,9,8,7,6,5],
 qd 37 (.iB 4 (.t 36)) [10,4,3,2,1,0,9,8,7,6,5],
 qd 38 (.ld1 (.t 37)) [11,10,4,3,2,1,0,9,8,7,6,5],
 qm 39 0,
 qd 40 (.nD (.t 39)) [13],
 qd 41 (.iB 15 (.t 40)) [14,13],
 qd 42 (.iB 1 (.t 41)) [15,14,13],
 qd 43 (.ld1 (.t 42)) [16,15,14,13],
 qd 44 (.bin .neq (.t 38) (.t 43)) [12,11,10,4,3,2,1,0,9,8,7,6,5,17,16,15,14,13],
 qd 45 (.mv (.t 44)) [18,12,11,10,4,3,2,1,0,9,8,7,6,5,17,16,15,14,13],
 qe 46 (.mv (.t 0)) 45 false [19,18,12,11,10,4,3,2,1,0,9,8,7,6,5,17,16,15,14,13],
 qe 47 (.nD (.t 46)) 45 false [20,19,18,12,11,10,4,3,2,1,0,9,8,7,6,5,17,16,15,14,13],
 qe 48 (.iB 22 (.t 47)) 45 false [21,20,19,18,12,11,10,4,3,2,1,0,9,8,7,6,5,17,16,15,14,13],
 qe 49 (.ld1 (.t 48)) 45 false [22,21,20,19,18,12,11,10,4,3,2,1,0,9,8,7,6,5,17,16,15,14,13],
 qe 50 (.nD (.t 49)) 45 false [23,22,21,20,19,18,12,11,10,4,3,2,1,0,9,8,7,6,5,17,16,15,14,13],
 qe 51 (.iB 8 (.t 50)) 45 false [24,23,22,21,20,19,18,12,11,10,4,3,2,1,0,9,8,7,6,5,17,16,15,14,13],
 qe 52 (.ld1 (.t 51)) 45 false [25,24,23,22,21,20,19,18,12,11,10,4,3,2,1,0,9,8,7,6,5,17,16,15,14,13],
 qe 53 (.cvt .u64 (.t 52)) 45 false [26,25,24,23,22,21,20,19,18,12,11,10,4,3,2,1,0,9,8,7,6,5,17,16,15,14,13],
 qe 54 (.call (.f 224) [(.t 53)]) 45 false [27,26,25,24,23,22,21,20,19,18,12,11,10,4,3,2,1,0,9,8,7,6,5,17,16,15,14,13],
 qe 55 (.mv (.t 0)) 45 false [19,18,12,11,10,4,3,2,1,0,9,8,7,6,5,17,16,15,14,13],
 qe 56 (.nD (.t 55)) 45 false [29,19,18,12,11,10,4,3,2,1,0,9,8,7,6,5,17,16,15,14,13],
 qe 57 (.iB 22 (.t 56)) 45 false [30,29,19,18,12,11,10,4,3,2,1,0,9,8,7,6,5,17,16,15,14,13],
 qe 58 (.ld1 (.t 57)) 45 false [31,30,29,19,18,12,11,10,4,3,2,1,0,9,8,7,6,5,17,16,15,14,13],
 qe 59 (.nD (.t 58)) 45 false [32,31,30,29,19,18,12,11,10,4,3,2,1,0,9,8,7,6,5,17,16,15,14,13],
 qe 60 (.iB 2 (.t 59)) 45 false [33,32,31,30,29,19,18,12,11,10,4,3,2,1,0,9,8,7,6,5,17,16,15,14,13],
 qe 61 (.ld1 (.t 60)) 45 false [34,33,32,31,30,29,19,18,12,11,10,4,3,2,1,0,9,8,7,6,5,17,16,15,14,13],
 qe 62 (.bin .leq (.t 54) (.t 61)) 45 false [28,27,26,25,24,23,22,21,20,19,18,12,11,10,4,3,2,1,0,9,8,7,6,5,17,16,15,14,13,35,34,33,32,31,30,29],
 qd 63 (.pick (.t 45) qt (.t 62)) [19,18,12,11,10,4,3,2,1,0,9,8,7,6,5,17,16,15,14,13,36,28,27,26,25,24,23,22,21,20,35,34,33,32,31,30,29],
 qd 25 (.mv (.t 63)) [37,19,18,12,11,10,4,3,2,1,0,9,8,7,6,5,17,16,15,14,13,36,28,27,26,25,24,23,22,21,20,35,34,33,32,31,30,29]])
 (.cond (.t 25) (.seq (.qV [qo 2 (.mv (qk 8))])
 .ret)
 .skip)))))))
 (.seq (.nq [qm 64 0,
 qd 65 (.nD (.t 64)) [0],
 qd 66 (.iB 22 (.t 65)) [1,0],
 qd 67 (.ld1 (.t 66)) [2,1,0],
 qd 68 (.nD (.t 67)) [3,2,1,0],
 qd 69 (.iB 8 (.t 68)) [4,3,2,1,0],
 qd 70 (.ld1 (.t 69)) [5,4,3,2,1,0],
 qm 71 0,
 qd 72 (.nD (.t 71)) [7],
 qd 73 (.iB 15 (.t 72)) [8,7],
 qd 74 (.iB 2 (.t 73)) [9,8,7],
 qd 75 (.ld1 (.t 74)) [10,9,8,7],
 qd 76 (.bin .shl (qk 1) (.t 75)) [11,10,9,8,7],
 qd 77 (.bin .andNot (.t 70) (.t 76)) [6,5,4,3,2,1,0,12,11,10,9,8,7],
 qd 78 (.nD (.t 67)) [3,2,1,0,4,5,6,7,8,9,10,11,12,13],
 qd 79 (.iB 8 (.t 78)) [14,3,2,1,0,4,5,6,7,8,9,10,11,12,13],
 ql (.st 1 (.t 79) (.t 77)) [15,14,3,2,1,0,4,5,6,7,8,9,10,11,12,13]])
 (.seq (.nq [qm 80 0,
 qd 81 (.nD (.t 80)) [0],
 qd 82 (.iB 9 (.t 81)) [1,0],
 qd 83 (.iB 0 (.t 82)) [2,1,0],
 qd 84 (.ld1 (.t 83)) [3,2,1,0],
 qm 85 0,
 qd 86 (.nD (.t 85)) [5],
 qd 87 (.iB 15 (.t 86)) [6,5],
 qd 88 (.iB 2 (.t 87)) [7,6,5],
 qd 89 (.ld1 (.t 88)) [8,7,6,5],
 qd 90 (.QJ 5 (.t 84) (.t 89)) [4,3,2,1,0,9,8,7,6,5],
 qd 91 (.iB 4 (.t 90)) [10,4,3,2,1,0,9,8,7,6,5],
 ql (.st 1 (.t 91) (qk 0)) [11,10,4,3,2,1,0,9,8,7,6,5]])
 (.seq (.qV [qo 2 (.mv (qk 0))])
 .ret))))),
[(.t 2)])
theorem TB:aj Tryz.prog Tryz.f164=some Xg:=by kernel_rfl
def Fm (c:aB) (s:aa) (o:bT) (k0:Nat) (j':bP) (k:Nat):St:=⟨[(0,.ptr 0 0),(73,.int s.nodes.length),(74,.int k)],
 [some (.box 133 [.int c.nodes,.int c.bI,.int c.cH,.int c.iN,.int c.cr,.int c.eZ,.int c.deadline,.int c.room,.int c.gX,
  .sl 1 s.nodes.length 5 0 s.nodes.length,.sl 2 s.jobs.length 12 0 s.jobs.length,.int s.goal,.int s.prior,.int s.mode,.int s.term,
  .int o.kind,.int o.a,.int o.b,.int o.c,.int o.d,.int o.e,.int o.f,.rp 2 s.jobs.length 12 k0 0,gm]),
  some (.dat 102 5 ((gO (gz o.b o.a) s.nodes k).map bX)),some (.dat 119 12 ((s.jobs.set k0 j').map dF))]⟩
theorem Pg (c:aB) (s:aa) (o:bT) (k:Nat) (hk:k<s.jobs.length) (ha:o.a=k+1) (hn:s.nodes.length≤6) (hj:s.jobs.length≤1000) (acU:0≤(ej s o.a).inc) :
  bh Tryz.prog G 153 [.ptr 0 0] (bQ c s o (.rp 2 s.jobs.length 12 k 0) gm) (.int (oV s o).2) (bQ c (oV s o).1 o (.rp 2 s.jobs.length 12 k 0) gm):=by
 refine aQ Tryz.func153 (by decide) TM rfl rfl rfl rfl ?_
 simp only [Xr,go_sem]
 have hg:=aK (f:=dF) aD hk
 have ha2:(o.a-1).toNat=k:=by omega
 have hJ:ej s o.a=s.jobs.getD k aD:=by unfold ej; rw [ha2]
 generalize s.jobs.getD k aD=j at *
 rw [hJ] at acU
 simp only [hg,go_sem]
 refine bp (fun h=>?_) (fun h=>?_) <;> simp only [h,go_sem] <;> (try simp only [qqS] at h)
 ·simp only [oV,h,fU,hJ,ha2,List.map_set,List.length_set,List.set_set,go_sem,Bool.true_eq_false,Bool.false_eq_true,ne_eq,not_true,not_false_eq_true,or_self]
 ·simp only [hg,go_sem]
  refine u7 [1,2] (L7 s j o.b 222 lM hn FI) rfl (by simp [ag,ah,bB,au,List.take_of_length_le,go_sem]) (by simp [au]) rfl rfl ?_; simp only [go_sem]
  have fin:(mE s.nodes j o.b lM=false∨1000000≤j.inc)→oV s o=(s,8):=fun h'=>by
   simp only [oV,hJ,h,h',ne_eq,not_true,if_false,if_true]
  cases hf:mE s.nodes j o.b lM with
  | false=>
    simp only [go_sem,fin (.inl hf)]
  | true=>
    simp only [hg,go_sem]
    refine bp (fun hi=>?_) (fun hi=>?_) <;> simp only [hi,go_sem] <;> (try simp only [qqS] at hi)
    ·simp only [go_sem,fin (.inr hi)]
    ·have hw:IntKind.i64.wrap (j.inc+1)=j.inc+1:=aL (by omega) (by omega)
     have ZV:oV s o=({ fU s o.a { j with phase:=1,inc:=j.inc+1,nodes:=o.b } with nodes:=s.nodes.mapIdx (gz o.b o.a) },0):=by
      unfold oV
      rw [hJ,if_neg (by simpa using h),if_neg (by simp [hf]; omega)]
     simp only [hg,hk,List.getElem?_set_self,List.length_set,List.set_set,go_sem]
     refine an rfl ?_
     simp only [hg,hk,hw,List.getElem?_set_self,List.length_set,List.set_set,go_sem]
     refine aR [0,73,74] [] (fun q:Nat=>q≤s.nodes.length) (fun q=>s.nodes.length-q) (Fm c s o k { j with phase:=1,inc:=j.inc+1,nodes:=o.b }) 0 ?_ (Nat.zero_le _) (fun q hq=>?_)
     ·simp only [Fm,yo,Int.natCast_zero,fU,ha2,List.map_set,go_sem]
     simp only [Fm,fU,List.length_set,go_sem]
     refine bp (fun h=>?_) (fun h=>?_)
     ·have h:=eA h
      have hg2:((gO (gz o.b o.a) s.nodes q).map bX)[q]? = some (bX s.nodes[q]):=by rw [List.getElem?_map,D7 _ _ h]; rfl
      simp only [II o.b q (by omega),go_sem]
      cases hb:hasB o.b q with
      | true=>
        have hs:((gO (gz o.b o.a) s.nodes q).map bX).set q (bX { s.nodes[q] with aM:=o.a })=(gO (gz o.b o.a) s.nodes (q+1)).map bX:=by
         rw [← List.map_set,vr _ _ h (by simp only [gz,hb,if_true])]
        simp only [bX] at hs
        simp only [h,hg2,nT,go_sem]
        refine an rfl ?_
        simp only [go_sem]
        refine bg (q+1) ?_ ?_ (by omega) (by omega)
        ·simp only [go_sem]
        ·simp only [Fm,fU,List.length_set,go_sem,aG (show q<9223372036854775807 by omega),hs]
      | false=>
        have hs:=yp (gz o.b o.a) s.nodes h (by simp only [gz,hb,Bool.false_eq_true,if_false])
        simp only [go_sem]
        refine bg (q+1) ?_ ?_ (by omega) (by omega)
        ·simp only [go_sem]
        ·simp only [Fm,fU,List.length_set,go_sem,aG (show q<9223372036854775807 by omega),hs]
     ·obtain rfl:=eC h hq
      simp only [yq,ZV,fU,ha2,List.length_mapIdx,List.length_set,go_sem]
theorem RW (m b:Nat) (hm:m<64) (hb:b<6):gr .i64 (m:Int) (2 ^ b)=mB m b:=by
 have:∀ m:Nat,m<64→∀ b:Nat,b<6→gr .i64 (m:Int) (2 ^ b)=mB m b:=by decide +kernel
 exact this m hm b hb
theorem GI (c:aB) (s:aa) (o:bT) (k:Nat) (hk:k<s.jobs.length) (ha:o.a=k+1) (hn:s.nodes.length≤6) (hj:s.jobs.length≤1000) (hb0:0≤o.b) (hm:0≤(ej s o.a).nodes∧(ej s o.a).nodes<64) :
  bh Tryz.prog G 164 [.ptr 0 0] (bQ c s o (.rp 2 s.jobs.length 12 k 0) gm) (.int (gF s o).2) (bQ c (gF s o).1 o (.rp 2 s.jobs.length 12 k 0) gm):=by
 refine aQ Tryz.func164 (by decide) TB rfl rfl rfl rfl ?_
 simp only [Xg,go_sem]
 have hg:=aK (f:=dF) aD hk
 have ha2:(o.a-1).toNat=k:=by omega
 have hJ:ej s o.a=s.jobs.getD k aD:=by unfold ej; rw [ha2]
 generalize s.jobs.getD k aD=j at *
 rw [hJ] at hm
 obtain ⟨m,X7⟩:=Int.eq_ofNat_of_zero_le hm.1
 have hmu:IntKind.u64.wrap (m:Int)=m:=by simp [IntKind.wrap,IntKind.bits,IntKind.signed]; omega
 obtain ⟨b,hb⟩:=Int.eq_ofNat_of_zero_le hb0
 rw [hb]
 refine bp (fun h1=>?_) (fun h1=>?_) <;> simp only [h1,go_sem] <;> (try simp only [qqS] at h1)
 ·simp only [gF,hb,h1,ge_iff_le,fU,hJ,ha2,List.map_set,List.length_set,List.set_set,go_sem,Bool.true_eq_false,Bool.false_eq_true,ne_eq,not_true,not_false_eq_true,or_self]
 ·have AQ:b<s.nodes.length:=by omega
  simp only [hg,go_sem]
  refine bp (fun h2=>?_) (fun h2=>?_) <;> simp only [h2,go_sem] <;> (try simp only [qqS] at h2)
  ·simp only [gF,hb,h1,h2,ge_iff_le,fU,hJ,ha2,List.map_set,List.length_set,List.set_set,go_sem,Bool.true_eq_false,Bool.false_eq_true,ne_eq,not_true,not_false_eq_true,or_self]
  ·have LQ:=aK (f:=bX) ai AQ
   have hN:cO s o.b=s.nodes.getD b ai:=by unfold cO; rw [hb]; rfl
   have hN':cO s (b:Int)=s.nodes.getD b ai:=rfl
   generalize s.nodes.getD b ai=n at *
   have vn:¬ ((s.nodes.length:Int)≤b):=by omega
   have fin:(n.aM≠o.a∨many j.nodes≤j.min)→gF s o=(s,8):=fun h'=>by
    unfold gF
    rw [hb,if_neg vn,hJ,if_neg (by simpa using h2),hN',if_pos h']
   simp only [LQ,AQ,go_sem]
   refine gM (fun h3=>?_) (fun h3=>?_) <;> simp only [h3,go_sem] <;> (try simp only [qqS] at h3)
   ·have HV:n.aM=o.a:=h3
    simp only [hg,X7,hmu,go_sem]
    refine aU (ug m (by omega)) rfl rfl rfl rfl ?_; simp only [go_sem]
    simp only [hg,go_sem]
    refine bp (fun h4=>?_) (fun h4=>?_) <;> simp only [h4,go_sem] <;> (try simp only [qqS] at h4)
    ·simp only [go_sem,fin (.inr (by rw [X7]; exact h4)),hb]
    ·have ZV:gF s o=(jY (fU s o.a { j with nodes:=mB j.nodes o.b }) o.b { n with aM:=0 },0):=by
      unfold gF
      rw [hb,if_neg vn,hJ,if_neg (by simpa using h2),hN',if_neg (by rw [X7]; simp [HV]; omega)]
     have hle:gr .i64 (m:Int) (CH .i64 1 b)=mB m b:=by rw [tM b (by omega),RW m b (by omega) (by omega)]
     simp only [hg,X7,hle,go_sem]
     refine an rfl ?_
     simp only [LQ,AQ,go_sem]
     refine an rfl ?_
     simp only [ZV,jY,fU,X7,hb,ha2,List.map_set,List.length_set,go_sem]
   ·simp only [go_sem,fin (.inl h3),hb]
end Dv
namespace Dv
open Go Go.Proofs
variable {G:Nat→Option (List DV)}
def XE:=qx Tryz.f141
theorem TY:aj Tryz.prog Tryz.f141=some XE:=by kernel_rfl
def XD:=qx Tryz.f142
theorem TX:aj Tryz.prog Tryz.f142=some XD:=by kernel_rfl
def aaU:=qx Tryz.f72
theorem YZ:aj Tryz.prog Tryz.f72=some aaU:=by kernel_rfl
def aaT:=qx Tryz.f74
theorem YY:aj Tryz.prog Tryz.f74=some aaT:=by kernel_rfl
def cB (o:bT):List Int:=[o.a,o.b,o.c,o.d,o.e,o.f]
def qh (m:Nat):List Int→Nat→Bool
 | [],_=>true
 | n::l,i=>oS n (decide (i<m))&&qh m l (i+1)
theorem uf (o:bT):eP o=(decide (1≤o.kind∧o.kind≤21)&&qh (dX o.kind) (cB o) 0):=by
 unfold eP cB
 simp only [qh,Bool.and_true,Bool.and_assoc]
def Vv:List Int:=[0,6,1,1,0,0,0,1,2,2,2,1,2,2,1,1,1,1,1,2,2,0]
def Dd:List ByteArray:=[⟨#[]⟩,⟨#[115,117,98,109,105,116]⟩,⟨#[99,97,110,99,101,108]⟩,⟨#[116,97,114,103,101,116]⟩,⟨#[112,97,117,115,101]⟩,⟨#[114,101,115,117,109,101]⟩,⟨#[97,98,111,114,116]⟩,⟨#[100,111,119,110]⟩,⟨#[117,112]⟩,⟨#[104,111,108,100]⟩,⟨#[115,116,97,114,116]⟩,⟨#[117,110,104,111,108,100]⟩,⟨#[100,114,97,105,110]⟩,⟨#[115,97,118,101,100]⟩,⟨#[101,118,105,99,116]⟩,⟨#[100,111,110,101]⟩,⟨#[99,111,114,100,111,110]⟩,⟨#[117,110,99,111,114,100,111,110]⟩,⟨#[109,111,118,101]⟩,⟨#[109,111,118,101,100]⟩,⟨#[115,104,114,105,110,107]⟩,⟨#[110,101,119,116,101,114,109]⟩]
def OD:List DV:=Vv.map i64
def zy:List DV:=Dd.map fun s=>.val (.string s)
def cR:Nat→Option (List DV):=fun n=>if n=0 then some OD else if n=1 then some zy else none
theorem tg:cR 0=some OD:=rfl
theorem F3:cR 1=some zy:=rfl
theorem De (k:Int) (h:1≤k∧k≤21):OD[k.toNat]? = some (i64 (dX k:Nat)):=by
 have h:k=1∨k=2∨k=3∨k=4∨k=5∨k=6∨k=7∨k=8∨k=9∨k=10∨k=11∨k=12∨k=13∨k=14∨k=15∨k=16∨k=17∨k=18∨k=19∨k=20∨k=21:=by omega
 rcases h with h | h | h | h | h | h | h | h | h | h | h | h | h | h | h | h | h | h | h | h | h <;> subst h <;> rfl
def nameOf (k:Int):ByteArray:=if 1≤k∧k≤21 then Dd.getD k.toNat ⟨#[]⟩ else ⟨#[]⟩
theorem RS (k:Int) (h:0≤k∧k≤21):zy[k.toNat]? = some (.val (.string (nameOf k))):=by
 have h:k=0∨k=1∨k=2∨k=3∨k=4∨k=5∨k=6∨k=7∨k=8∨k=9∨k=10∨k=11∨k=12∨k=13∨k=14∨k=15∨k=16∨k=17∨k=18∨k=19∨k=20∨k=21:=by omega
 rcases h with h | h | h | h | h | h | h | h | h | h | h | h | h | h | h | h | h | h | h | h | h | h <;> subst h <;> rfl
theorem q_ (k:Int) (h:¬ (1≤k∧k≤21)):nameOf k=⟨#[]⟩:=by unfold nameOf; rw [if_neg h]
theorem BQ (k:Int) (h:1≤k∧k≤21):((nameOf k).toList==(⟨#[]⟩:ByteArray).toList)=false:=by
 have h:k=1∨k=2∨k=3∨k=4∨k=5∨k=6∨k=7∨k=8∨k=9∨k=10∨k=11∨k=12∨k=13∨k=14∨k=15∨k=16∨k=17∨k=18∨k=19∨k=20∨k=21:=by omega
 rcases h with h | h | h | h | h | h | h | h | h | h | h | h | h | h | h | h | h | h | h | h | h <;> subst h <;> decide +kernel
theorem EX (k:Int):bh Tryz.prog cR 141 [.int k] [] (.d (.val (.string (nameOf k)))) []:=by
 refine bn Tryz.func141 (by decide) TY rfl rfl ?_
 simp only [XE,go_sem]
 refine di (fun h1=>?_) (fun h1=>?_) <;> simp only [h1,go_sem] <;> (try simp only [qqS] at h1)
 ·refine bp (fun h2=>?_) (fun h2=>?_) <;> simp only [h2,go_sem] <;> (try simp only [qqS] at h2)
  ·rw [q_ k (by omega)]
  ·have h3:0≤k:=by omega
   have h4:k.toNat<22:=by omega
   simp only [F3,h3,h4,Nat.mul_one,RS k (by omega),go_sem]
 ·rw [q_ k (by omega)]
theorem Jd (o:bT):bh Tryz.prog G 142 [tA o] [] (.agg ((cB o).map LV.int)) []:=by
 refine bn Tryz.func142 (by decide) TX rfl rfl ?_
 simp only [XD,go_sem]
 simp only [cB,go_sem]
def NS (o:bT) (k:Nat):St:=⟨[(1,.ptr 0 0),(10,.agg ((cB o).map LV.int)),(11,.int k)],[some (.box 37 [.int o.kind,.int o.a,.int o.b,.int o.c,.int o.d,.int o.e,.int o.f])]⟩
theorem Oh (n:Int) (k m:Nat):oS n (decide (k<m)) = !(decide (n<0)||decide (n>1000000)||(decide ((k:Int)≥(m:Int))&&(n !=0))):=by
 unfold oS
 rw [Bool.eq_iff_iff]
 by_cases h4:n=0
 ·subst h4; simp
 ·have e:(n !=0)=true:=by simpa using h4
  simp only [e,h4,Bool.and_eq_true,Bool.or_eq_true,decide_eq_true_eq,Bool.not_eq_true',Bool.or_eq_false_iff,Bool.and_eq_false_iff,decide_eq_false_iff_not,decide_false,Bool.or_false,Bool.and_true]
  omega
theorem oh (o:bT):bh Tryz.prog cR 72 [tA o] [] (.bool (eP o)) []:=by
 refine bn Tryz.func72 (by decide) YZ rfl rfl ?_
 simp only [aaU,go_sem]
 rw [uf]
 refine ax (EX o.kind) rfl rfl rfl rfl ?_; simp only [go_sem]
 by_cases hk:1≤o.kind∧o.kind≤21
 ·simp only [BQ _ hk,go_sem]
  refine ax (Jd o) rfl rfl rfl rfl ?_
  simp only [go_sem,hk]
  generalize hq:qh (dX o.kind) (cB o) 0=r
  have hl:(cB o).length=6:=rfl
  have hk0:0≤o.kind:=by omega
  have vS:o.kind.toNat<22:=by omega
  refine aR [1,10,11] [] (fun k:Nat=>k≤6∧qh (dX o.kind) ((cB o).drop k) k=r) (fun k=>6-k) (NS o) 0 ?_ ⟨by omega,hq⟩ ?_
  ·simp only [NS,go_sem,Int.natCast_zero]
  rintro k ⟨ZG,hF⟩
  simp only [NS,go_sem]
  refine bp (fun h=>?_) (fun h=>?_) <;> simp only [h,go_sem] <;> (try simp only [qqS] at h)
  ·have hkl:k<(cB o).length:=by omega
   have acO:k<6:=by omega
   rw [List.drop_eq_getElem_cons hkl,qh,Oh] at hF
   have hg:((cB o).map LV.int)[k]? = some (LV.int (cB o)[k]):=get_map hkl
   simp only [hg,acO,go_sem]
   generalize (cB o)[k]=n at *
   refine di (fun h1=>?_) (fun h1=>?_) <;> simp only [h1,go_sem] <;> (try simp only [qqS] at h1)
   ·have vn:decide (n<0)=false:=by simp; omega
    refine di (fun h2=>?_) (fun h2=>?_) <;> simp only [h2,go_sem] <;> (try simp only [qqS] at h2)
    ·have Gj:decide (n>1000000)=false:=by simp; omega
     simp only [tg,hk0,vS,De _ hk,Nat.mul_one,go_sem]
     refine di (fun h3=>?_) (fun h3=>?_) <;> simp only [h3,go_sem] <;> (try simp only [qqS] at h3)
     ·have HV:decide ((k:Int)≥(dX o.kind:Int))=true:=by simpa using h3
      cases h4:(n !=0) with
      | true=>
        rw [vn,Gj,HV,h4] at hF
        simp only [go_sem] at hF
        simp only [go_sem,← hF]
      | false=>
        rw [vn,Gj,HV,h4] at hF
        simp only [go_sem] at hF
        simp only [go_sem]
        refine bg (k+1) ?_ ?_ ⟨by omega,hF⟩ (by omega)
        ·simp only [go_sem]; rfl
        ·simp only [NS,go_sem,aG (show k<9223372036854775807 by omega)]
     ·have HV:decide ((k:Int)≥(dX o.kind:Int))=false:=by simpa using h3
      rw [vn,Gj,HV] at hF
      simp only [go_sem] at hF
      refine bg (k+1) ?_ ?_ ⟨by omega,hF⟩ (by omega)
      ·simp only [go_sem]; rfl
      ·simp only [NS,go_sem,aG (show k<9223372036854775807 by omega)]
    ·have Gj:decide (n>1000000)=true:=by simpa using h2
     rw [vn,Gj] at hF
     simp only [go_sem] at hF
     simp only [go_sem,← hF]
   ·have vn:decide (n<0)=true:=by simpa using h1
    rw [vn] at hF
    simp only [go_sem] at hF
    simp only [go_sem,← hF]
  ·obtain rfl:k=6:=by omega
   simp only [cB,List.drop_succ_cons,List.drop_zero,qh] at hF
   simp only [go_sem,← hF]
 ·simp only [q_ _ hk,hk,go_sem]
def gT (f:Option Nat) (j n:Bool):List LV:=[match f with | some k=>.d (.fn (.func k) [] []) | none=>.d (.val .nilFunc),.bool j,.bool n]
def v_:List LV:=gT none false false++gT (some 145) false false++gT (some 146) true false++gT (some 147) false false++gT (some 148) false false++gT (some 149) false false++gT (some 150) false false
 ++gT (some 151) false true++gT (some 152) false true++gT (some 153) true false++gT (some 154) true false++gT (some 155) true false++gT (some 156) true false++gT (some 157) true false
 ++gT (some 158) true false++gT (some 159) true false++gT (some 160) false true++gT (some 161) false true++gT (some 162) false true++gT (some 163) false true++gT (some 164) true false++gT (some 165) false false
theorem Mk:bh Tryz.prog G 74 [] [] (.agg v_) []:=by
 refine bn Tryz.func74 (by decide) YY rfl rfl ?_
 simp only [aaT,go_sem]
 rfl
end Dv
namespace Dv
open Go Go.Proofs
variable {G:Nat→Option (List DV)}
def aa7:=qx Tryz.f24
theorem Zb:aj Tryz.prog Tryz.f24=some aa7:=by kernel_rfl
theorem F7 {c:aB} {s:aa} {o:bT} (hr:iD c s=true) (h:eP o=true) (h1:Hv o.kind=false) (h2:zu o.kind=false):bx c s o=bO c s o:=by
 unfold bx AI
 rw [if_neg (by simp [hr]),if_neg (by simp [h]),if_neg (by simp [h1]),if_neg (by simp [h2])]
theorem Kj {c:aB} {s:aa} {o:bT} (hr:iD c s=true) (h:eP o=true) (h1:Hv o.kind=true) (h2:zu o.kind=false):bx c s o=if o.a<1∨(s.jobs.length:Int)<o.a then (s,4) else bO c s o:=by
 unfold bx AI
 rw [if_neg (by simp [hr]),if_neg (by simp [h])]
 by_cases hq:o.a<1∨(s.jobs.length:Int)<o.a
 ·rw [if_pos ⟨h1,hq⟩,if_pos hq]
 ·rw [if_neg (fun h=>hq h.2),if_neg (by simp [h2]),if_neg hq]
theorem Qs {c:aB} {s:aa} {o:bT} (hr:iD c s=true) (h:eP o=true) (h1:Hv o.kind=false) (h2:zu o.kind=true):bx c s o=if (s.nodes.length:Int)≤o.a then (s,4) else bO c s o:=by
 unfold bx AI
 rw [if_neg (by simp [hr]),if_neg (by simp [h]),if_neg (by simp [h1])]
 by_cases hq:(s.nodes.length:Int)≤o.a
 ·rw [if_pos ⟨h2,hq⟩,if_pos hq]
 ·rw [if_neg (fun h=>hq h.2),if_neg hq]
def rE (s:aa) (p:aa×Int):Prop:=p.2≠0→p.1=s
theorem UT {s:aa} {P:Prop} [Decidable P] {a b:aa×Int} (h1:rE s a) (h2:rE s b):rE s (if P then a else b):=by
 split
 ·exact h1
 ·exact h2
theorem PZ (s:aa) (e:Int):rE s (s,e):=fun _=>rfl
theorem ZX (s t:aa):rE s (t,0):=fun h=>absurd rfl h
theorem FP (c:aB) (s:aa) (o:bT):rE s (bO c s o):=by
 unfold bO jR kL kD gZ sr QI oV nW kC mY ki oE uS mH iJ wM mX gF ij
 repeat' (first | exact PZ _ _ | exact ZX _ _ | apply UT)
theorem vH {o:bT} (h:eP o=true):(1≤o.kind∧o.kind≤21)∧(0≤o.a∧o.a≤1000000)∧(0≤o.b∧o.b≤1000000):=by
 unfold eP oS at h
 simp only [Bool.and_eq_true,decide_eq_true_eq] at h
 exact ⟨h.1.1.1.1.1.1,h.1.1.1.1.1.2.1,h.1.1.1.1.2.1⟩
theorem Mn {c:aB} {s:aa} {o:bT} (hp:bK c s) (hcf:1≤c.bI∧c.bI≤1000) (hk:o.kind=1∨o.kind=3∨o.kind=4∨o.kind=5∨o.kind=6∨o.kind=21):∃ f,List.take 3 (List.drop (o.kind.toNat*3) v_)=[.d (.fn (.func f) [] []),.bool false,.bool false]∧bh Tryz.prog cR f [.ptr 0 0] (bQ c s o gm gm) (.int (bO c s o).2) (bQ c (bO c s o).1 o gm gm):=by
 have vm:=hp.len
 have hlj:=hp.jobs
 have ht:=hp.term
 rcases hk with hk | hk | hk | hk | hk | hk <;> refine ⟨_,by rw [hk]; rfl,?_⟩ <;> simp only [bO,hk,Int.reduceEq,if_true,if_false]
 ·exact Gz c s o hcf (by omega)
 ·exact Gx c s o (by omega) (by omega)
 ·exact Lb c s o
 ·exact GO c s o
 ·exact MP c s o
 ·exact ES c s o (by omega) ht.1
theorem Qg {c:aB} {s:aa} {o:bT} (hp:bK c s) (hb:0≤o.b) (hk:o.kind=2∨o.kind=9∨o.kind=10∨o.kind=11∨o.kind=12∨o.kind=13∨o.kind=14∨o.kind=15∨o.kind=20) {k:Nat} (hkl:k<s.jobs.length) (ha:o.a=k+1) (hJ:ej s o.a=dI s k) (hm:0≤(dI s k).nodes∧(dI s k).nodes<64):∃ f,List.take 3 (List.drop (o.kind.toNat*3) v_)=[.d (.fn (.func f) [] []),.bool true,.bool false]∧bh Tryz.prog cR f [.ptr 0 0] (bQ c s o (.rp 2 s.jobs.length 12 k 0) gm) (.int (bO c s o).2) (bQ c (bO c s o).1 o (.rp 2 s.jobs.length 12 k 0) gm):=by
 have vm:=hp.len
 have hlj:=hp.jobs
 rcases hk with hk | hk | hk | hk | hk | hk | hk | hk | hk <;> refine ⟨_,by rw [hk]; rfl,?_⟩ <;> simp only [bO,hk,Int.reduceEq,if_true,if_false]
 ·exact IC c s o k hkl ha (by omega) (by omega)
 ·exact Pg c s o k hkl ha (by omega) (by omega) (by rw [hJ]; exact (hp.num k hkl).inc.1)
 ·exact KI c s o k hkl ha
 ·exact Gu c s o k hkl ha (by omega) (by omega)
 ·exact Il c s o k hkl ha (by omega)
 ·exact KR c s o k hkl ha
 ·exact Mc c s o k hkl ha (by omega) (by omega)
 ·exact Mj c s o k hkl ha (by omega) (by omega)
 ·exact GI c s o k hkl ha (by omega) (by omega) hb (by rw [hJ]; exact hm)
theorem Mo {c:aB} {s:aa} {o:bT} (hp:bK c s) (hk:o.kind=7∨o.kind=8∨o.kind=16∨o.kind=17∨o.kind=18∨o.kind=19) {i:Nat} (hil:i<s.nodes.length) (ha:o.a=i) (hN:cO s o.a=dW s i):∃ f,List.take 3 (List.drop (o.kind.toNat*3) v_)=[.d (.fn (.func f) [] []),.bool false,.bool true]∧bh Tryz.prog cR f [.ptr 0 0] (bQ c s o gm (.rp 1 s.nodes.length 5 i 0)) (.int (bO c s o).2) (bQ c (bO c s o).1 o gm (.rp 1 s.nodes.length 5 i 0)):=by
 have vm:=hp.len
 have hlj:=hp.jobs
 rcases hk with hk | hk | hk | hk | hk | hk <;> refine ⟨_,by rw [hk]; rfl,?_⟩ <;> simp only [bO,hk,Int.reduceEq,if_true,if_false]
 ·exact Qf c s o i hil ha (by omega) (by omega) (by rw [hN]; exact hp.aM i hil)
 ·exact Yq c s o i hil ha
 ·exact Ip c s o i hil ha
 ·exact Cy c s o i hil ha
 ·exact Ou c s o i hil ha
 ·exact Lm c s o i hil ha
theorem rC (c:aB) (s:aa) (o:bT):bh Tryz.prog cR 24 [fN c,aY s,tA o] [] (.dH [aY (bx c s o).1,.int (bx c s o).2]) []:=by
 refine cA Tryz.func24 (by decide) Zb rfl ?_
 simp only [aa7,go_sem]
 refine ax (Bz c s) rfl rfl rfl rfl ?_; simp only [go_sem]
 cases hr:iD c s with
 | false=>
   have hA:bx c s o=(kO,1):=by unfold bx; rw [if_pos hr]
   rw [hA]
   simp only [go_sem]
   exact dZ [] rfl (by simp) (by simp [St.obj,au,aP,St.get,aW,ah,ag,bB,kO,LV.int])
 | true=>
 have hp:=(fq c s).1 hr
 have vm:=hp.len
 have hlj:=hp.jobs
 have hcf:=(tU hr).uW
 simp only [go_sem]
 refine ax (oh o) rfl rfl rfl rfl ?_; simp only [go_sem]
 cases ho:eP o with
 | false=>
   have hA:bx c s o=(s,1):=by unfold bx AI; rw [if_neg (by simp [hr]),if_pos ho]
   rw [hA]
   simp only [go_sem]
   refine gu (qI s (by omega) (by omega)) rfl rfl rfl ?_
   simp only [go_sem]
   exact dZ [4,5] rfl (by simp [St.obj,au]) (by simp [St.obj,au,aP,St.get,aW,ah,ag,bB,LV.int,List.take_of_length_le])
 | true=>
 have hkn:=vH ho
 obtain ⟨hkk,hka,hkb⟩:=hkn
 simp only [go_sem]
 refine jf (qI s (by omega) (by omega)) rfl rfl rfl ?_
 simp only [go_sem]
 refine an rfl ?_
 simp only [go_sem]
 refine aU Mk rfl rfl rfl rfl ?_
 simp only [go_sem]
 have hE:=FP c s o
 have hK:0≤o.kind∧o.kind.toNat<22:=by omega
 have hkg:(o.kind=1∨o.kind=3∨o.kind=4∨o.kind=5∨o.kind=6∨o.kind=21)∨(o.kind=2∨o.kind=9∨o.kind=10∨o.kind=11∨o.kind=12∨o.kind=13∨o.kind=14∨o.kind=15∨o.kind=20)∨(o.kind=7∨o.kind=8∨o.kind=16∨o.kind=17∨o.kind=18∨o.kind=19):=by omega
 rcases hkg with hk | hk | hk
 ·obtain ⟨f,hx,hT⟩:=Mn hp (by omega) hk
  have hA:bx c s o=bO c s o:=by
   rcases hk with hk | hk | hk | hk | hk | hk <;> exact F7 hr ho (by rw [hk]; rfl) (by rw [hk]; rfl)
  rw [hA]
  simp only [hK,hx,go_sem]
  refine an rfl ?_
  simp only [go_sem]
  refine av [6,4,5] (hT) rfl ?_ (by decide) ?_ ?_ (by simp) ?_ <;> simp only [ag,ah,go_sem,bQ]
  generalize bO c s o=p at *
  cases he:(p.2 !=0) with
  | true=>
    simp only [he,go_sem]
    refine gu (qI s (by omega) (by omega)) rfl rfl rfl ?_
    simp only [go_sem]
    have hs:p.1=s:=hE (by simpa using he)
    rw [hs]
    exact dZ [8,9] rfl (by simp [St.obj,au]) (by simp [St.obj,au,aP,St.get,aW,ah,ag,bB,LV.int,List.take_of_length_le])
  | false=>
    have Py:p.2=0:=by simpa using he
    simp only [he,go_sem]
    exact dZ [4,5] rfl (by simp [St.obj,au]) (by simp [St.obj,au,aP,St.get,aW,ah,ag,bB,LV.int,List.take_of_length_le,Py])
 ·have hA:bx c s o=if o.a<1∨(s.jobs.length:Int)<o.a then (s,4) else bO c s o:=by
   rcases hk with hk | hk | hk | hk | hk | hk | hk | hk | hk <;> exact Kj hr ho (by rw [hk]; rfl) (by rw [hk]; rfl)
  have hx:∃ f,List.take 3 (List.drop (o.kind.toNat*3) v_)=[.d (.fn (.func f) [] []),.bool true,.bool false]:=by
   rcases hk with hk | hk | hk | hk | hk | hk | hk | hk | hk <;> exact ⟨_,by rw [hk]; rfl⟩
  obtain ⟨f,hx⟩:=hx
  rw [hA]
  simp only [hK,hx,go_sem]
  refine an rfl ?_
  simp only [go_sem]
  by_cases hq:o.a<1∨(s.jobs.length:Int)<o.a
  ·rw [if_pos hq]
   refine di (fun h1=>?_) (fun h1=>?_) <;> simp only [h1,go_sem] <;> (try simp only [qqS] at h1)
   ·refine bp (fun h2=>?_) (fun h2=>?_) <;> simp only [h2,go_sem] <;> (try simp only [qqS] at h2)
    ·exact dZ [4,5] rfl (by simp [St.obj,au]) (by simp [St.obj,au,aP,St.get,aW,ah,ag,bB,LV.int,List.take_of_length_le])
    ·omega
   ·exact dZ [4,5] rfl (by simp [St.obj,au]) (by simp [St.obj,au,aP,St.get,aW,ah,ag,bB,LV.int,List.take_of_length_le])
  rw [if_neg hq]
  have q1:decide (o.a<1)=false:=by simp; omega
  have q2:decide (o.a>(s.jobs.length:Int))=false:=by simp; omega
  have hw:IntKind.i64.wrap (o.a-1)=o.a-1:=aL (by omega) (by omega)
  have q3:0≤o.a-1:=by omega
  obtain ⟨k,hkq⟩:∃ k:Nat,(o.a-1).toNat=k:=⟨_,rfl⟩
  have hkl:k<s.jobs.length:=by omega
  have acN:o.a=k+1:=by omega
  have hJ:ej s o.a=dI s k:=by unfold ej dI; rw [hkq]
  obtain ⟨f2,hx2,hT⟩:=Qg hp hkb.1 hk hkl acN hJ ((tU hr).bits hkl)
  rw [hx2] at hx
  simp only [List.cons.injEq,LV.d.injEq,DV.fn.injEq,Fn.func.injEq,and_true] at hx
  obtain rfl:=hx
  simp only [q1,q2,q3,hw,hkq,hkl,go_sem]
  refine an rfl ?_
  simp only [go_sem]
  refine av [6,4,5] (hT) rfl ?_ (by decide) ?_ ?_ (by simp) ?_ <;> simp only [ag,ah,go_sem,bQ]
  generalize bO c s o=p at *
  cases he:(p.2 !=0) with
  | true=>
    simp only [he,go_sem]
    refine gu (qI s (by omega) (by omega)) rfl rfl rfl ?_
    simp only [go_sem]
    have hs:p.1=s:=hE (by simpa using he)
    rw [hs]
    exact dZ [8,9] rfl (by simp [St.obj,au]) (by simp [St.obj,au,aP,St.get,aW,ah,ag,bB,LV.int,List.take_of_length_le])
  | false=>
    have Py:p.2=0:=by simpa using he
    simp only [he,go_sem]
    exact dZ [4,5] rfl (by simp [St.obj,au]) (by simp [St.obj,au,aP,St.get,aW,ah,ag,bB,LV.int,List.take_of_length_le,Py])
 ·have hA:bx c s o=if (s.nodes.length:Int)≤o.a then (s,4) else bO c s o:=by
   rcases hk with hk | hk | hk | hk | hk | hk <;> exact Qs hr ho (by rw [hk]; rfl) (by rw [hk]; rfl)
  have hx:∃ f,List.take 3 (List.drop (o.kind.toNat*3) v_)=[.d (.fn (.func f) [] []),.bool false,.bool true]:=by
   rcases hk with hk | hk | hk | hk | hk | hk <;> exact ⟨_,by rw [hk]; rfl⟩
  obtain ⟨f,hx⟩:=hx
  rw [hA]
  simp only [hK,hx,go_sem]
  refine an rfl ?_
  simp only [go_sem]
  by_cases hq:(s.nodes.length:Int)≤o.a
  ·rw [if_pos hq]
   have q1:decide (o.a≥(s.nodes.length:Int))=true:=by simpa using hq
   simp only [q1,go_sem]
   exact dZ [4,5] rfl (by simp [St.obj,au]) (by simp [St.obj,au,aP,St.get,aW,ah,ag,bB,LV.int,List.take_of_length_le])
  rw [if_neg hq]
  have q1:decide (o.a≥(s.nodes.length:Int))=false:=by simp; omega
  have q3:0≤o.a:=hka.1
  obtain ⟨i,hiq⟩:∃ i:Nat,o.a.toNat=i:=⟨_,rfl⟩
  have hil:i<s.nodes.length:=by omega
  have hia:o.a=i:=by omega
  have hN:cO s o.a=dW s i:=by unfold cO dW; rw [hiq]
  obtain ⟨f2,hx2,hT⟩:=Mo hp hk hil hia hN
  rw [hx2] at hx
  simp only [List.cons.injEq,LV.d.injEq,DV.fn.injEq,Fn.func.injEq,and_true] at hx
  obtain rfl:=hx
  simp only [q1,q3,hiq,hil,go_sem]
  refine an rfl ?_
  simp only [go_sem]
  refine av [6,4,5] (hT) rfl ?_ (by decide) ?_ ?_ (by simp) ?_ <;> simp only [ag,ah,go_sem,bQ]
  generalize bO c s o=p at *
  cases he:(p.2 !=0) with
  | true=>
    simp only [he,go_sem]
    refine gu (qI s (by omega) (by omega)) rfl rfl rfl ?_
    simp only [go_sem]
    have hs:p.1=s:=hE (by simpa using he)
    rw [hs]
    exact dZ [8,9] rfl (by simp [St.obj,au]) (by simp [St.obj,au,aP,St.get,aW,ah,ag,bB,LV.int,List.take_of_length_le])
  | false=>
    have Py:p.2=0:=by simpa using he
    simp only [he,go_sem]
    exact dZ [4,5] rfl (by simp [St.obj,au]) (by simp [St.obj,au,aP,St.get,aW,ah,ag,bB,LV.int,List.take_of_length_le,Py])
end Dv
