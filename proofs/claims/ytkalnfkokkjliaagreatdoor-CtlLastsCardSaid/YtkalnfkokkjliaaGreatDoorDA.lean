/- part -/
import Derived.Test.YtkalnfkokkjliaaGreatDoorD7
import Derived.Test.YtkalnfkokkjliaaGreatDoorPA
set_option linter.all false
set_option maxHeartbeats 1600000
set_option maxRecDepth 100000
namespace Dv
open Go Go.Proofs
variable {G:Nat→Option (List DV)}
def XP:=qx Tryz.f219
theorem T0:aj Tryz.prog Tryz.f219=some XP:=by kernel_rfl
def Xp:=qx Tryz.f264
theorem TB:aj Tryz.prog Tryz.f264=some Xp:=by kernel_rfl
def XN:=qx Tryz.f221
theorem TY:aj Tryz.prog Tryz.f221=some XN:=by kernel_rfl
def Yu:=qx Tryz.f148
theorem UL:aj Tryz.prog Tryz.f148=some Yu:=by kernel_rfl
def Yt:=qx Tryz.f149
theorem UK:aj Tryz.prog Tryz.f149=some Yt:=by kernel_rfl
def Ys:=qx Tryz.f150
theorem UJ:aj Tryz.prog Tryz.f150=some Ys:=by kernel_rfl
def Yv:=qx Tryz.f147
theorem UM:aj Tryz.prog Tryz.f147=some Yv:=by kernel_rfl
def Yd:=qx Tryz.f165
theorem Uu:aj Tryz.prog Tryz.f165=some Yd:=by kernel_rfl
def Yx:=qx Tryz.f145
theorem UO:aj Tryz.prog Tryz.f145=some Yx:=by kernel_rfl
@[reducible] def bY (c:aF) (s:aa) (o:cB) (jp np:LV):List aG:=
 [.box 133 [.int c.nodes,.int c.bL,.int c.cE,.int c.gT,.int c.cc,.int c.eG,.int c.deadline,.int c.room,.int c.ga,
  .sl 1 s.nodes.length 5 0 s.nodes.length,.sl 2 s.jobs.length 12 0 s.jobs.length,.int s.goal,.int s.prior,.int s.mode,.int s.term,
  .int o.kind,.int o.a,.int o.b,.int o.c,.int o.d,.int o.e,.int o.f,jp,np],
  .dat 102 5 (s.nodes.map bZ),.dat 119 12 (s.jobs.map dJ)]
@[reducible] def gA:LV:=.d (.val (.pointer none))
theorem E_ (ok:Bool) (e:Int):bu Tryz.prog G 264 [.bool ok,.int e] [] (.int (if ok=true then 0 else e)) []:=by
 refine bz Tryz.func264 (by decide) TB rfl rfl ?_
 simp only [Xp,go_sem]
 cases ok <;> simp only [go_sem,Bool.false_eq_true]
theorem zf (c:aF) (s:aa) (o:cB) (ok:Bool) (to:Int):bu Tryz.prog G 221 [.ptr 0 0,.bool ok,.int to] (bY c s o gA gA) (.int (iG s ok to).2) (bY c (iG s ok to).1 o gA gA):=by
 refine aT Tryz.func221 (by decide) TY rfl rfl rfl rfl ?_
 simp only [XN,go_sem]
 cases ok with
 | true=>
   simp only [go_sem]
   refine av (E_ true 5) rfl rfl rfl rfl ?_; simp only [go_sem]
   simp only [iG,go_sem]
 | false=>
   simp only [go_sem]
   refine av (E_ false 5) rfl rfl rfl rfl ?_; simp only [go_sem]
   simp only [iG,go_sem,Bool.false_eq_true]
theorem L0 (c:aF) (s:aa) (o:cB):bu Tryz.prog G 148 [.ptr 0 0] (bY c s o gA gA) (.int (iG s (s.mode==0) 1).2) (bY c (iG s (s.mode==0) 1).1 o gA gA):=by
 refine aT Tryz.func148 (by decide) UL rfl rfl rfl rfl ?_
 simp only [Yu,go_sem]
 refine au [0,1,2] (zf c s o (s.mode==0) 1) rfl ?_ (by decide) ?_ ?_ (by simp) ?_ <;> simp only [ag,ah,go_sem,bY,List.length_range]
theorem HS (c:aF) (s:aa) (o:cB):bu Tryz.prog G 149 [.ptr 0 0] (bY c s o gA gA) (.int (iG s (s.mode==1) 0).2) (bY c (iG s (s.mode==1) 0).1 o gA gA):=by
 refine aT Tryz.func149 (by decide) UK rfl rfl rfl rfl ?_
 simp only [Yt,go_sem]
 refine au [0,1,2] (zf c s o (s.mode==1) 0) rfl ?_ (by decide) ?_ ?_ (by simp) ?_ <;> simp only [ag,ah,go_sem,bY]
theorem NI (c:aF) (s:aa) (o:cB):bu Tryz.prog G 150 [.ptr 0 0] (bY c s o gA gA) (.int (iG s (s.mode !=2) 2).2) (bY c (iG s (s.mode !=2) 2).1 o gA gA):=by
 refine aT Tryz.func150 (by decide) UJ rfl rfl rfl rfl ?_
 simp only [Ys,go_sem]
 refine au [0,1,2] (zf c s o (s.mode !=2) 2) rfl ?_ (by decide) ?_ ?_ (by simp) ?_ <;> simp only [ag,ah,go_sem,bY]
theorem FP (c:aF) (s:aa) (o:cB) (ht:s.term≤1000000) (h0:0≤s.term):bu Tryz.prog G 165 [.ptr 0 0] (bY c s o gA gA) (.int (ey s).2) (bY c (ey s).1 o gA gA):=by
 refine aT Tryz.func165 (by decide) Uu rfl rfl rfl rfl ?_
 simp only [Yd,go_sem]
 have hw:IntKind.i64.wrap (s.term+1)=s.term+1:=aO (by omega) (by omega)
 refine bA (fun h=>?_) (fun h=>?_) <;> simp only [h,go_sem] <;> (try simp only [qqS] at h)
 ·simp only [ey,h,ge_iff_le,go_sem]
 ·simp only [ey,h,ge_iff_le,hw,go_sem]
theorem HC (c:aF) (s:aa) (o:cB) (hn:s.nodes.length≤1000) (hj:s.jobs.length≤1000):bu Tryz.prog G 147 [.ptr 0 0] (bY c s o gA gA) (.int (kU s o).2) (bY c (kU s o).1 o gA gA):=by
 refine aT Tryz.func147 (by decide) UM rfl rfl rfl rfl ?_
 simp only [Yv,go_sem]
 refine av (fk _ _ _) rfl rfl rfl rfl ?_; simp only [go_sem]
 cases h:bN o.a 1 9 with
 | false=>simp only [kU,h,go_sem]
 | true=>
   simp only [go_sem]
   refine vK [1,2] (jU s) rfl (by simp [ag,ah,bK,aC,List.take_of_length_le,go_sem]) (by simp [aC]) rfl rfl ?_; simp only [go_sem]
   refine ay rfl ?_
   simp only [kU,h,go_sem,Bool.true_eq_false]
theorem HE (c:aF) (s:aa) (o:cB) (h0:1≤c.bL∧c.bL≤1000) (hj:s.jobs.length≤1000):bu Tryz.prog G 145 [.ptr 0 0] (bY c s o gA gA) (.int (j3 c s o).2) (bY c (j3 c s o).1 o gA gA):=by
 refine aT Tryz.func145 (by decide) UO rfl rfl rfl rfl ?_
 simp only [Yx,go_sem]
 refine bf (Di c (nK o) h0) rfl rfl rfl rfl ?_; simp only [go_sem]
 cases ha:mC c (nK o) with
 | false=>simp only [j3,ha,go_sem]
 | true=>
   simp only [go_sem]
   have hl:(s.jobs.length+1)*96≤70368744177664:=by omega
   refine bA (fun h=>?_) (fun h=>?_) <;> simp only [h,go_sem] <;> (try simp only [qqS] at h)
   ·simp only [j3,ha,h,ge_iff_le,go_sem,Bool.true_eq_false,show 24≤s.jobs.length by omega]
   ·have hh:¬ 24≤s.jobs.length:=by omega
    simp only [List.length_append,hl,go_sem]
    refine ay rfl ?_
    simp only [j3,ha,hh,List.map_append,List.length_append,go_sem,Bool.true_eq_false]
    simp only [nK,go_sem]
def qJ (c:aF) (s:aa) (o:cB) (jp np:LV) (number phase:Int) (k:Nat):St:=⟨[(0,.ptr 0 0),(1,.int number),(2,.int phase),(6,.rp 2 s.jobs.length 12 (number-1).toNat 0),(21,.int s.nodes.length),(22,.int k)],
 [some (.box 133 [.int c.nodes,.int c.bL,.int c.cE,.int c.gT,.int c.cc,.int c.eG,.int c.deadline,.int c.room,.int c.ga,
  .sl 1 s.nodes.length 5 0 s.nodes.length,.sl 2 s.jobs.length 12 0 s.jobs.length,.int s.goal,.int s.prior,.int s.mode,.int s.term,
  .int o.kind,.int o.a,.int o.b,.int o.c,.int o.d,.int o.e,.int o.f,jp,np]),
  some (.dat 102 5 ((iq (lets number) s.nodes k).map bZ)),some (.dat 119 12 (s.jobs.map dJ))]⟩
theorem kn (c:aF) (s:aa) (o:cB) (jp np:LV) (number phase:Int) (hjp:eN 3 jp=true) (hnp:eN 3 np=true) (h1:1≤number) (h2:number≤s.jobs.length) (hn:s.nodes.length≤1000) (hj:s.jobs.length≤1000) :
  bu Tryz.prog G 219 [.ptr 0 0,.int number,.int phase] (bY c s o jp np) (.dM []) (bY c (eu s number phase) o jp np):=by
 refine aT Tryz.func219 (by decide) T0 rfl rfl (by simp [dW,eN,eE,hjp,hnp,LV.int]) rfl ?_
 have hw:IntKind.i64.wrap (number-1)=number-1:=aO (by omega) (by omega)
 have h3:0≤number-1:=by omega
 have h4:(number-1).toNat<s.jobs.length:=by omega
 simp only [XP,hw,h3,h4,go_sem]
 refine aW [0,1,2,6,21,22] [] (fun k:Nat=>k≤s.nodes.length) (fun k=>s.nodes.length-k) (qJ c s o jp np number phase) 0 ?_ (Nat.zero_le _) (fun k hk=>?_)
 ·simp only [qJ,go_sem,y_,Int.natCast_zero]
 simp only [qJ,go_sem]
 refine bA (fun h=>?_) (fun h=>?_)
 ·have h:=eR h
  have hg:((iq (lets number) s.nodes k).map bZ)[k]? = some (bZ s.nodes[k]):=by rw [List.getElem?_map,E7 _ _ h]; rfl
  simp only [h,hg,oF,go_sem]
  refine bA (fun hq=>?_) (fun hq=>?_) <;> simp only [hq,go_sem] <;> (try simp only [qqS] at hq)
  ·have hs:((iq (lets number) s.nodes k).map bZ).set k (bZ { s.nodes[k] with aQ:=0 })=(iq (lets number) s.nodes (k+1)).map bZ:=by
    rw [← List.map_set,vU _ _ h (by simp only [lets,hq,if_true])]
   simp only [bZ] at hs
   simp only [h,hg,oF,go_sem]
   refine bh (k+1) ?_ ?_ (by omega) (by omega)
   ·simp only [go_sem,hjp,hnp]
   ·simp only [qJ,go_sem,aH (show k<9223372036854775807 by omega),hs]
  ·have hs:=za (lets number) s.nodes h (by simp only [lets,hq,if_false])
   refine bh (k+1) ?_ ?_ (by omega) (by omega)
   ·simp only [go_sem,hjp,hnp]
   ·simp only [qJ,go_sem,aH (show k<9223372036854775807 by omega),hs]
 ·obtain rfl:=eS h hk
  have hg2:=aM (f:=dJ) az h4
  simp only [hg2,zb,go_sem]
  simp only [List.getElem?_set_self,h4,List.set_set,List.length_set,go_sem]
  simp only [eu,eC,List.map_set,List.length_set,List.length_mapIdx,go_sem]
end Dv
namespace Dv
open Go Go.Proofs
variable {G:Nat→Option (List DV)}
def XM:=qx Tryz.f222
theorem TX:aj Tryz.prog Tryz.f222=some XM:=by kernel_rfl
def Yi:=qx Tryz.f160
theorem Uz:aj Tryz.prog Tryz.f160=some Yi:=by kernel_rfl
def Yh:=qx Tryz.f161
theorem Uy:aj Tryz.prog Tryz.f161=some Yh:=by kernel_rfl
def Yg:=qx Tryz.f162
theorem Ux:aj Tryz.prog Tryz.f162=some Yg:=by kernel_rfl
def Yf:=qx Tryz.f163
theorem Uw:aj Tryz.prog Tryz.f163=some Yf:=by kernel_rfl
def Yq:=qx Tryz.f152
theorem UH:aj Tryz.prog Tryz.f152=some Yq:=by kernel_rfl
def Yr:=qx Tryz.f151
theorem UI:aj Tryz.prog Tryz.f151=some Yr:=by kernel_rfl
def XL:=qx Tryz.f223
theorem TW:aj Tryz.prog Tryz.f223=some XL:=by kernel_rfl
def Yw:=qx Tryz.f146
theorem UN:aj Tryz.prog Tryz.f146=some Yw:=by kernel_rfl
def Yo:=qx Tryz.f154
theorem UF:aj Tryz.prog Tryz.f154=some Yo:=by kernel_rfl
def Yn:=qx Tryz.f155
theorem UE:aj Tryz.prog Tryz.f155=some Yn:=by kernel_rfl
def Ym:=qx Tryz.f156
theorem UD:aj Tryz.prog Tryz.f156=some Ym:=by kernel_rfl
def Yl:=qx Tryz.f157
theorem UC:aj Tryz.prog Tryz.f157=some Yl:=by kernel_rfl
def Yk:=qx Tryz.f158
theorem UB:aj Tryz.prog Tryz.f158=some Yk:=by kernel_rfl
def Yj:=qx Tryz.f159
theorem UA:aj Tryz.prog Tryz.f159=some Yj:=by kernel_rfl
def wV (s:aa) (j:bQ) (nodes:Int) (f:Nat) (kv:Nat×Int):St:=⟨[(2,.int nodes),(3,.fn (.func f) [] []),(9,.int kv.2),(36,bS s.nodes),(37,.int s.nodes.length),(38,.int kv.1)],[some (.box 30 [bS s.nodes,cZ s.jobs,.int s.goal,.int s.prior,.int s.mode,.int s.term]),some (.box 119 [.int j.queue,.int j.prio,.int j.min,.int j.max,.int j.work,.int j.pin,.int j.phase,.int j.inc,.int j.nodes,.int j.since,.int j.til,.int j.epoch])]⟩
theorem MU (s:aa) (j:bQ) (nodes:Int) (f:Nat) (takes:br→Bool) (hn:s.nodes.length≤6) (hT:∀ n,bu Tryz.prog G f [Ah n] [] (.bool (takes n)) []) :
  bu Tryz.prog G 196 [aX s,Ed j,.int nodes,.fn (.func f) [] []] [] (.bool (mZ s.nodes j nodes takes)) []:=by
 refine bz Tryz.func196 (by decide) Kx rfl rfl ?_
 have hp:(2:Int) ^ s.nodes.length≤64∧1≤(2:Int) ^ s.nodes.length:=by
  have:s.nodes.length=0∨s.nodes.length=1∨s.nodes.length=2∨s.nodes.length=3∨s.nodes.length=4∨s.nodes.length=5∨s.nodes.length=6:=by omega
  rcases this with h | h | h | h | h | h | h <;> rw [h] <;> decide
 have hw:=uu s.nodes.length hn
 simp only [PX,go_sem,hw]
 unfold mZ
 have none:∀ {x y:Prop} [Decidable x] [Decidable y] {b:Bool},x∨y→(if x∨y then false else b)=false:=fun h=>by rw [if_pos h]
 refine ig (fun h1=>?_) (fun h1=>?_) <;> simp only [h1,go_sem] <;> (try simp only [qqS] at h1)
 ·simp only [hw]
  refine ig (fun h2=>?_) (fun h2=>?_) <;> simp only [h2,go_sem] <;> (try simp only [qqS] at h2)
  ·obtain ⟨m,rfl⟩:=Int.eq_ofNat_of_zero_le (show 0≤nodes by omega)
   have hm:m<64:=by omega
   have hwu:IntKind.u64.wrap (m:Int)=m:=by simp [IntKind.wrap,IntKind.bits,IntKind.signed]; omega
   rw [if_neg (by omega)]
   simp only [hwu]
   refine bf (uL m hm) rfl rfl rfl rfl ?_; simp only [go_sem]
   refine bf (fk _ _ _) rfl rfl rfl rfl ?_; simp only [go_sem]
   cases hb:bN (many m) j.min j.max with
   | false=>simp only [go_sem]
   | true=>
     simp only [go_sem]
     generalize Vy:ez m takes s.nodes 0 j.pin=r
     refine aW [2,3,9,36,37,38] [] (fun kv:Nat×Int=>kv.1≤s.nodes.length∧ez m takes (s.nodes.drop kv.1) kv.1 kv.2=r) (fun kv=>s.nodes.length-kv.1) (wV s j m f) (0,j.pin) ?_ ⟨Nat.zero_le _,Vy⟩ ?_
     ·simp only [wV,go_sem,Int.natCast_zero]
     rintro ⟨k,v⟩ ⟨hk,hF⟩
     dsimp only at hk hF
     simp only [wV,go_sem]
     refine bA (fun h=>?_) (fun h=>?_)
     ·have h:=eR h
      rw [List.drop_eq_getElem_cons h] at hF
      unfold ez at hF
      simp only [get_map h,go_sem,K_ (m:Int) k (by omega)]
      have go:∀ v',ez m takes (s.nodes.drop (k+1)) (k+1) v'=r→(k+1,v').1≤s.nodes.length∧ez m takes (s.nodes.drop (k+1,v').1) (k+1,v').1 (k+1,v').2=r:=fun v' h'=>⟨h,h'⟩
      cases hb1:hasB (m:Int) k with
      | false=>
        rw [if_pos hb1] at hF
        simp only [go_sem]
        refine bh (k+1,v) ?_ ?_ (go _ hF) (by dsimp only; omega)
        ·simp only [go_sem]
        ·simp only [wV,go_sem,aH (show k<9223372036854775807 by omega)]
      | true=>
        rw [if_neg (by simp [hb1])] at hF
        simp only [go_sem]
        refine bA (fun hv=>?_) (fun hv=>?_) <;> simp only [hv,go_sem] <;> (try simp only [qqS] at hv)
        ·rw [if_pos hv] at hF
         refine av (hT s.nodes[k]) rfl rfl rfl rfl ?_; simp only [go_sem]
         cases ht:takes s.nodes[k] with
         | false=>
           rw [if_neg (by simp [ht])] at hF
           simp only [go_sem,← hF]
         | true=>
           by_cases hq:s.nodes[k].version=s.nodes[k].version
           ·rw [if_pos ⟨ht,hq⟩] at hF
            have hq1:(s.nodes[k].version !=s.nodes[k].version)=false:=by simp [← hq]
            simp only [go_sem,hq1]
            refine bh (k+1,s.nodes[k].version) ?_ ?_ (go _ hF) (by dsimp only; omega)
            ·simp only [go_sem]
            ·simp only [wV,go_sem,aH (show k<9223372036854775807 by omega)]
           ·rw [if_neg (fun h'=>hq h'.2)] at hF
            have hq1:(s.nodes[k].version !=s.nodes[k].version)=true:=bne_iff_ne.2 hq
            simp only [go_sem,hq1,← hF]
        ·rw [if_neg hv] at hF
         refine av (hT s.nodes[k]) rfl rfl rfl rfl ?_; simp only [go_sem]
         cases ht:takes s.nodes[k] with
         | false=>
           rw [if_neg (by simp [ht])] at hF
           simp only [go_sem,← hF]
         | true=>
           by_cases hq:s.nodes[k].version=v
           ·rw [if_pos ⟨ht,hq⟩] at hF
            have hq1:(s.nodes[k].version !=v)=false:=by simp [← hq]
            simp only [go_sem,hq1]
            refine bh (k+1,v) ?_ ?_ (go _ hF) (by dsimp only; omega)
            ·simp only [go_sem]
            ·simp only [wV,go_sem,aH (show k<9223372036854775807 by omega)]
           ·rw [if_neg (fun h'=>hq h'.2)] at hF
            have hq1:(s.nodes[k].version !=v)=true:=bne_iff_ne.2 hq
            simp only [go_sem,hq1,← hF]
     ·obtain rfl:=eS h hk
      rw [List.drop_length] at hF
      simp only [go_sem,← hF,ez]
  ·rw [if_pos (.inr h2)]
 ·rw [if_pos (.inl h1)]
theorem Gw (n:br):bu Tryz.prog G 222 [Ah n] [] (.bool (mq n)) []:=by
 refine bz Tryz.func222 (by decide) TX rfl rfl ?_
 simp only [XM,go_sem]
 unfold mq
 cases h1:n.up <;> cases h2:n.cQ <;> cases h3:n.bG <;> simp only [h1,h2,h3,go_sem] <;> rfl
section
variable (c:aF) (s:aa) (o:cB) (i:Nat) (hi:i<s.nodes.length) (ha:o.a=i)
include hi ha
theorem Ju:bu Tryz.prog G 160 [.ptr 0 0] (bY c s o gA (.rp 1 s.nodes.length 5 i 0)) (.int (nh s o).2) (bY c (nh s o).1 o gA (.rp 1 s.nodes.length 5 i 0)):=by
 refine aT Tryz.func160 (by decide) Uz rfl rfl rfl rfl ?_
 simp only [Yi,go_sem]
 have hg:=aM (f:=bZ) ai hi
 have ha2:o.a.toNat=i:=by omega
 have hN:dh s o.a=s.nodes.getD i ai:=by unfold dh; rw [ha2]
 generalize s.nodes.getD i ai=n at *
 cases hu:n.up <;> cases hc:n.cQ <;> simp only [hg,hu,hc,go_sem] <;> simp only [nh,hu,hc,ki,hN,ha2,List.map_set,List.length_set,List.set_set,go_sem,Bool.true_eq_false,Bool.false_eq_true,ne_eq,not_true,not_false_eq_true,or_self]
theorem Du:bu Tryz.prog G 161 [.ptr 0 0] (bY c s o gA (.rp 1 s.nodes.length 5 i 0)) (.int (iX s o).2) (bY c (iX s o).1 o gA (.rp 1 s.nodes.length 5 i 0)):=by
 refine aT Tryz.func161 (by decide) Uy rfl rfl rfl rfl ?_
 simp only [Yh,go_sem]
 have hg:=aM (f:=bZ) ai hi
 have ha2:o.a.toNat=i:=by omega
 have hN:dh s o.a=s.nodes.getD i ai:=by unfold dh; rw [ha2]
 generalize s.nodes.getD i ai=n at *
 cases hu:n.bG <;> cases hc:n.cQ <;> simp only [hg,hu,hc,go_sem] <;> simp only [iX,hu,hc,ki,hN,ha2,List.map_set,List.length_set,List.set_set,go_sem,Bool.true_eq_false,Bool.false_eq_true,ne_eq,not_true,not_false_eq_true,or_self]
theorem Pk:bu Tryz.prog G 162 [.ptr 0 0] (bY c s o gA (.rp 1 s.nodes.length 5 i 0)) (.int (xM s o).2) (bY c (xM s o).1 o gA (.rp 1 s.nodes.length 5 i 0)):=by
 refine aT Tryz.func162 (by decide) Ux rfl rfl rfl rfl ?_
 simp only [Yg,go_sem]
 have hg:=aM (f:=bZ) ai hi
 have ha2:o.a.toNat=i:=by omega
 have hN:dh s o.a=s.nodes.getD i ai:=by unfold dh; rw [ha2]
 generalize s.nodes.getD i ai=n at *
 cases hu:n.up <;> cases hc:n.cQ <;> cases hm:n.bG <;> cases hj:(n.aQ !=0) <;> simp only [hg,hu,hc,hm,hj,go_sem] <;> (simp only [qqS] at hj) <;> simp only [xM,hu,hc,hm,hj,ki,hN,ha2,List.map_set,List.length_set,List.set_set,go_sem,Bool.true_eq_false,Bool.false_eq_true,ne_eq,not_true,not_false_eq_true,or_self]
theorem Mc:bu Tryz.prog G 163 [.ptr 0 0] (bY c s o gA (.rp 1 s.nodes.length 5 i 0)) (.int (nM s o).2) (bY c (nM s o).1 o gA (.rp 1 s.nodes.length 5 i 0)):=by
 refine aT Tryz.func163 (by decide) Uw rfl rfl rfl rfl ?_
 simp only [Yf,go_sem]
 have hg:=aM (f:=bZ) ai hi
 have ha2:o.a.toNat=i:=by omega
 have hN:dh s o.a=s.nodes.getD i ai:=by unfold dh; rw [ha2]
 generalize s.nodes.getD i ai=n at *
 refine av (fk _ _ _) rfl rfl rfl rfl ?_; simp only [go_sem]
 cases hw:bN o.b 1 9 with
 | false=>simp only [hg,go_sem]; simp only [nM,hw,ki,hN,ha2,List.map_set,List.length_set,List.set_set,go_sem,Bool.true_eq_false,Bool.false_eq_true,ne_eq,not_true,not_false_eq_true,or_self]
 | true=>
   cases hm:n.bG with
   | false=>simp only [hg,hm,go_sem]; simp only [nM,hw,hm,ki,hN,ha2,List.map_set,List.length_set,List.set_set,go_sem,Bool.true_eq_false,Bool.false_eq_true,ne_eq,not_true,not_false_eq_true,or_self]
   | true=>
     simp only [hg,hm,hi,List.getElem?_set_self,List.length_set,go_sem]
     refine ay rfl ?_
     simp only [nM,hw,hm,ki,hN,ha2,List.map_set,List.length_set,List.set_set,go_sem,Bool.true_eq_false,Bool.false_eq_true,ne_eq,not_true,not_false_eq_true,or_self]
theorem Zm:bu Tryz.prog G 152 [.ptr 0 0] (bY c s o gA (.rp 1 s.nodes.length 5 i 0)) (.int (RJ s o).2) (bY c (RJ s o).1 o gA (.rp 1 s.nodes.length 5 i 0)):=by
 refine aT Tryz.func152 (by decide) UH rfl rfl rfl rfl ?_
 simp only [Yq,go_sem]
 have hg:=aM (f:=bZ) ai hi
 have ha2:o.a.toNat=i:=by omega
 have hN:dh s o.a=s.nodes.getD i ai:=by unfold dh; rw [ha2]
 generalize s.nodes.getD i ai=n at *
 refine av (fk _ _ _) rfl rfl rfl rfl ?_; simp only [go_sem]
 cases hw:bN o.b 1 9 with
 | false=>simp only [hg,go_sem]; simp only [RJ,hw,ki,hN,ha2,List.map_set,List.length_set,List.set_set,go_sem,Bool.true_eq_false,Bool.false_eq_true,ne_eq,not_true,not_false_eq_true,or_self]
 | true=>
   cases hm:n.up with
   | true=>simp only [hg,hm,go_sem]; simp only [RJ,hw,hm,ki,hN,ha2,List.map_set,List.length_set,List.set_set,go_sem,Bool.true_eq_false,Bool.false_eq_true,ne_eq,not_true,not_false_eq_true,or_self]
   | false=>
     simp only [hg,hm,hi,List.getElem?_set_self,List.length_set,go_sem]
     refine ay rfl ?_
     simp only [RJ,hw,hm,ki,hN,ha2,List.map_set,List.length_set,List.set_set,go_sem,Bool.true_eq_false,Bool.false_eq_true,ne_eq,not_true,not_false_eq_true,or_self]
end
end Dv
namespace Dv
open Go Go.Proofs
variable {G:Nat→Option (List DV)}
theorem Fp (c:aF) (s:aa) (o:cB) (k:Nat) (hk:k<s.jobs.length) (ha:o.a=k+1):bu Tryz.prog G 223 [.ptr 0 0] (bY c s o (.rp 2 s.jobs.length 12 k 0) gA) (.bool (ux (eC s o.a))) (bY c s o (.rp 2 s.jobs.length 12 k 0) gA):=by
 refine aT Tryz.func223 (by decide) TW rfl rfl rfl rfl ?_
 simp only [XL,go_sem]
 have hg:=aM (f:=dJ) az hk
 have ha2:(o.a-1).toNat=k:=by omega
 have hJ:eC s o.a=s.jobs.getD k az:=by unfold eC; rw [ha2]
 generalize s.jobs.getD k az=j at *
 simp only [hg,go_sem]
 refine dH (fun h=>?_) (fun h=>?_) <;> simp only [h,go_sem] <;> (try simp only [qqS] at h)
 ·have e1:(j.phase==2)=false:=by simpa using h
  simp only [hg,hJ,ux,h,e1,go_sem]
  rfl
 ·have e1:(j.phase==2)=true:=by simpa using h
  simp only [hJ,ux,h,e1,go_sem]
theorem JF (c:aF) (s:aa) (o:cB) (k:Nat) (hk:k<s.jobs.length) (ha:o.a=k+1) (hn:s.nodes.length≤1000) (hj:s.jobs.length≤1000):bu Tryz.prog G 146 [.ptr 0 0] (bY c s o (.rp 2 s.jobs.length 12 k 0) gA) (.int (k9 s o).2) (bY c (k9 s o).1 o (.rp 2 s.jobs.length 12 k 0) gA):=by
 refine aT Tryz.func146 (by decide) UN rfl rfl rfl rfl ?_
 simp only [Yw,go_sem]
 have hg:=aM (f:=dJ) az hk
 have ha2:(o.a-1).toNat=k:=by omega
 have hJ:eC s o.a=s.jobs.getD k az:=by unfold eC; rw [ha2]
 generalize s.jobs.getD k az=j at *
 simp only [hg,go_sem]
 refine bA (fun h=>?_) (fun h=>?_) <;> simp only [h,go_sem] <;> (try simp only [qqS] at h)
 ·simp only [k9,h,gr,hJ,ha2,List.map_set,List.length_set,List.set_set,go_sem,Bool.true_eq_false,Bool.false_eq_true,ne_eq,not_true,not_false_eq_true,or_self]
 ·refine au [0,1,2] (kn c s o (.rp 2 s.jobs.length 12 k 0) gA o.a 4 rfl rfl (by omega) (by omega) hn hj) rfl ?_ (by decide) ?_ ?_ (by simp) ?_ <;> simp only [ag,ah,go_sem,bY]
  simp only [k9,h,gr,hJ,ha2,List.map_set,List.length_set,List.set_set,go_sem,Bool.true_eq_false,Bool.false_eq_true,ne_eq,not_true,not_false_eq_true,or_self]
theorem Hw (c:aF) (s:aa) (o:cB) (k:Nat) (hk:k<s.jobs.length) (ha:o.a=k+1) (hn:s.nodes.length≤1000) (hj:s.jobs.length≤1000):bu Tryz.prog G 155 [.ptr 0 0] (bY c s o (.rp 2 s.jobs.length 12 k 0) gA) (.int (kT s o).2) (bY c (kT s o).1 o (.rp 2 s.jobs.length 12 k 0) gA):=by
 refine aT Tryz.func155 (by decide) UE rfl rfl rfl rfl ?_
 simp only [Yn,go_sem]
 have hg:=aM (f:=dJ) az hk
 have ha2:(o.a-1).toNat=k:=by omega
 have hJ:eC s o.a=s.jobs.getD k az:=by unfold eC; rw [ha2]
 generalize s.jobs.getD k az=j at *
 simp only [hg,go_sem]
 refine bA (fun h=>?_) (fun h=>?_) <;> simp only [h,go_sem] <;> (try simp only [qqS] at h)
 ·simp only [kT,h,gr,hJ,ha2,List.map_set,List.length_set,List.set_set,go_sem,Bool.true_eq_false,Bool.false_eq_true,ne_eq,not_true,not_false_eq_true,or_self]
 ·refine au [0,1,2] (kn c s o (.rp 2 s.jobs.length 12 k 0) gA o.a 0 rfl rfl (by omega) (by omega) hn hj) rfl ?_ (by decide) ?_ ?_ (by simp) ?_ <;> simp only [ag,ah,go_sem,bY]
  simp only [kT,h,gr,hJ,ha2,List.map_set,List.length_set,List.set_set,go_sem,Bool.true_eq_false,Bool.false_eq_true,ne_eq,not_true,not_false_eq_true,or_self]
theorem M0 (c:aF) (s:aa) (o:cB) (k:Nat) (hk:k<s.jobs.length) (ha:o.a=k+1) (hn:s.nodes.length≤1000) (hj:s.jobs.length≤1000):bu Tryz.prog G 158 [.ptr 0 0] (bY c s o (.rp 2 s.jobs.length 12 k 0) gA) (.int (pF s o).2) (bY c (pF s o).1 o (.rp 2 s.jobs.length 12 k 0) gA):=by
 refine aT Tryz.func158 (by decide) UB rfl rfl rfl rfl ?_
 simp only [Yk,go_sem]
 have hg:=aM (f:=dJ) az hk
 have ha2:(o.a-1).toNat=k:=by omega
 have hJ:eC s o.a=s.jobs.getD k az:=by unfold eC; rw [ha2]
 generalize s.jobs.getD k az=j at *
 simp only [hg,go_sem]
 refine bA (fun h=>?_) (fun h=>?_) <;> simp only [h,go_sem] <;> (try simp only [qqS] at h)
 ·simp only [pF,h,gr,hJ,ha2,List.map_set,List.length_set,List.set_set,go_sem,Bool.true_eq_false,Bool.false_eq_true,ne_eq,not_true,not_false_eq_true,or_self]
 ·refine au [0,1,2] (kn c s o (.rp 2 s.jobs.length 12 k 0) gA o.a 0 rfl rfl (by omega) (by omega) hn hj) rfl ?_ (by decide) ?_ ?_ (by simp) ?_ <;> simp only [ag,ah,go_sem,bY]
  simp only [pF,h,gr,hJ,ha2,List.map_set,List.length_set,List.set_set,go_sem,Bool.true_eq_false,Bool.false_eq_true,ne_eq,not_true,not_false_eq_true,or_self]
theorem M8 (c:aF) (s:aa) (o:cB) (k:Nat) (hk:k<s.jobs.length) (ha:o.a=k+1) (hn:s.nodes.length≤1000) (hj:s.jobs.length≤1000):bu Tryz.prog G 159 [.ptr 0 0] (bY c s o (.rp 2 s.jobs.length 12 k 0) gA) (.int (vz s o).2) (bY c (vz s o).1 o (.rp 2 s.jobs.length 12 k 0) gA):=by
 refine aT Tryz.func159 (by decide) UA rfl rfl rfl rfl ?_
 simp only [Yj,go_sem]
 have hg:=aM (f:=dJ) az hk
 have ha2:(o.a-1).toNat=k:=by omega
 have hJ:eC s o.a=s.jobs.getD k az:=by unfold eC; rw [ha2]
 generalize s.jobs.getD k az=j at *
 refine au [0,1,2] (Fp c s o k hk ha) rfl ?_ (by decide) ?_ ?_ (by simp) ?_ <;> simp only [ag,ah,go_sem,bY]
 simp only [hJ]
 cases h:ux j with
 | false=>simp only [go_sem]; simp only [vz,h,gr,hJ,ha2,List.map_set,List.length_set,List.set_set,go_sem,Bool.true_eq_false,Bool.false_eq_true,ne_eq,not_true,not_false_eq_true,or_self]
 | true=>
   simp only [go_sem]
   refine au [0,1,2] (kn c s o (.rp 2 s.jobs.length 12 k 0) gA o.a 4 rfl rfl (by omega) (by omega) hn hj) rfl ?_ (by decide) ?_ ?_ (by simp) ?_ <;> simp only [ag,ah,go_sem,bY]
   simp only [vz,h,gr,hJ,ha2,List.map_set,List.length_set,List.set_set,go_sem,Bool.true_eq_false,Bool.false_eq_true,ne_eq,not_true,not_false_eq_true,or_self]
theorem LB (c:aF) (s:aa) (o:cB) (k:Nat) (hk:k<s.jobs.length) (ha:o.a=k+1):bu Tryz.prog G 154 [.ptr 0 0] (bY c s o (.rp 2 s.jobs.length 12 k 0) gA) (.int (oI s o).2) (bY c (oI s o).1 o (.rp 2 s.jobs.length 12 k 0) gA):=by
 refine aT Tryz.func154 (by decide) UF rfl rfl rfl rfl ?_
 simp only [Yo,go_sem]
 have hg:=aM (f:=dJ) az hk
 have ha2:(o.a-1).toNat=k:=by omega
 have hJ:eC s o.a=s.jobs.getD k az:=by unfold eC; rw [ha2]
 generalize s.jobs.getD k az=j at *
 simp only [hg,go_sem]
 refine bA (fun h=>?_) (fun h=>?_) <;> simp only [h,go_sem] <;> (try simp only [qqS] at h)
 ·simp only [oI,h,gr,hJ,ha2,List.map_set,List.length_set,List.set_set,go_sem,Bool.true_eq_false,Bool.false_eq_true,ne_eq,not_true,not_false_eq_true,or_self]
 ·simp only [hg,hk,List.getElem?_set_self,List.length_set,go_sem]
  refine ay rfl ?_
  simp only [oI,h,gr,hJ,ha2,List.map_set,List.length_set,List.set_set,go_sem,Bool.true_eq_false,Bool.false_eq_true,ne_eq,not_true,not_false_eq_true,or_self]
theorem LK (c:aF) (s:aa) (o:cB) (k:Nat) (hk:k<s.jobs.length) (ha:o.a=k+1):bu Tryz.prog G 157 [.ptr 0 0] (bY c s o (.rp 2 s.jobs.length 12 k 0) gA) (.int (kD s o).2) (bY c (kD s o).1 o (.rp 2 s.jobs.length 12 k 0) gA):=by
 refine aT Tryz.func157 (by decide) UC rfl rfl rfl rfl ?_
 simp only [Yl,go_sem]
 have hg:=aM (f:=dJ) az hk
 have ha2:(o.a-1).toNat=k:=by omega
 have hJ:eC s o.a=s.jobs.getD k az:=by unfold eC; rw [ha2]
 generalize s.jobs.getD k az=j at *
 refine au [0,1,2] (Fp c s o k hk ha) rfl ?_ (by decide) ?_ ?_ (by simp) ?_ <;> simp only [ag,ah,go_sem,bY]
 simp only [hJ]
 cases h:ux j with
 | false=>simp only [go_sem]; simp only [kD,h,gr,hJ,ha2,List.map_set,List.length_set,List.set_set,go_sem,Bool.true_eq_false,Bool.false_eq_true,ne_eq,not_true,not_false_eq_true,or_self]
 | true=>
   simp only [hg,go_sem]
   refine ig (fun h1=>?_) (fun h1=>?_) <;> simp only [h1,go_sem] <;> (try simp only [qqS] at h1)
   ·simp only [hg,go_sem]
    rw [h1]
    refine bA (fun h2=>?_) (fun h2=>?_) <;> simp only [h2,go_sem] <;> (try simp only [qqS] at h2)
    ·simp only [kD,h,h1,h2,gr,hJ,ha2,List.map_set,List.length_set,List.set_set,go_sem,Bool.true_eq_false,Bool.false_eq_true,ne_eq,not_true,not_false_eq_true,or_self]
    ·simp only [hg,go_sem]
     refine ay rfl ?_
     simp only [kD,h,h1,h2,gr,hJ,ha2,List.map_set,List.length_set,List.set_set,go_sem,Bool.true_eq_false,Bool.false_eq_true,ne_eq,not_true,not_false_eq_true,or_self]
   ·simp only [kD,h,h1,gr,hJ,ha2,List.map_set,List.length_set,List.set_set,go_sem,Bool.true_eq_false,Bool.false_eq_true,ne_eq,not_true,not_false_eq_true,or_self]
theorem Jr (c:aF) (s:aa) (o:cB) (k:Nat) (hk:k<s.jobs.length) (ha:o.a=k+1) (hj:s.jobs.length≤1000):bu Tryz.prog G 156 [.ptr 0 0] (bY c s o (.rp 2 s.jobs.length 12 k 0) gA) (.int (nP c s o).2) (bY c (nP c s o).1 o (.rp 2 s.jobs.length 12 k 0) gA):=by
 refine aT Tryz.func156 (by decide) UD rfl rfl rfl rfl ?_
 simp only [Ym,go_sem]
 have hg:=aM (f:=dJ) az hk
 have ha2:(o.a-1).toNat=k:=by omega
 have hJ:eC s o.a=s.jobs.getD k az:=by unfold eC; rw [ha2]
 generalize s.jobs.getD k az=j at *
 simp only [hg,go_sem]
 refine bA (fun h=>?_) (fun h=>?_) <;> simp only [h,go_sem] <;> (try simp only [qqS] at h)
 ·simp only [nP,h,gr,hJ,ha2,List.map_set,List.length_set,List.set_set,go_sem,Bool.true_eq_false,Bool.false_eq_true,ne_eq,not_true,not_false_eq_true,or_self]
 ·simp only [hg,go_sem]
  refine vK [1,2] (tR s j.queue (by omega)) rfl (by simp [ag,ah,bK,aC,List.take_of_length_le,go_sem]) (by simp [aC]) rfl rfl ?_; simp only [go_sem]
  refine bA (fun h2=>?_) (fun h2=>?_) <;> simp only [h2,go_sem] <;> (try simp only [qqS] at h2)
  ·simp only [nP,h,h2,ge_iff_le,gr,hJ,ha2,List.map_set,List.length_set,List.set_set,go_sem,Bool.true_eq_false,Bool.false_eq_true,ne_eq,not_true,not_false_eq_true,or_self]
  ·simp only [hg,hk,List.getElem?_set_self,List.length_set,go_sem]
   refine ay rfl ?_
   simp only [nP,h,h2,ge_iff_le,gr,hJ,ha2,List.map_set,List.length_set,List.set_set,go_sem,Bool.true_eq_false,Bool.false_eq_true,ne_eq,not_true,not_false_eq_true,or_self]
theorem Rm (c:aF) (s:aa) (o:cB) (i:Nat) (hi:i<s.nodes.length) (ha:o.a=i) (hn:s.nodes.length≤1000) (hj:s.jobs.length≤1000) (hb:0≤(dh s o.a).aQ∧(dh s o.a).aQ≤s.jobs.length) :
  bu Tryz.prog G 151 [.ptr 0 0] (bY c s o gA (.rp 1 s.nodes.length 5 i 0)) (.int (sY s o).2) (bY c (sY s o).1 o gA (.rp 1 s.nodes.length 5 i 0)):=by
 refine aT Tryz.func151 (by decide) UI rfl rfl rfl rfl ?_
 simp only [Yr,go_sem]
 have hg:=aM (f:=bZ) ai hi
 have ha2:o.a.toNat=i:=by omega
 have hN:dh s o.a=s.nodes.getD i ai:=by unfold dh; rw [ha2]
 generalize s.nodes.getD i ai=n at *
 rw [hN] at hb
 cases hu:n.up with
 | false=>simp only [hg,hu,go_sem]; simp only [sY,hu,ki,hN,ha2,List.map_set,List.length_set,List.set_set,go_sem,Bool.true_eq_false,Bool.false_eq_true,ne_eq,not_true,not_false_eq_true,or_self]
 | true=>
   simp only [hg,hu,go_sem]
   refine bA (fun h=>?_) (fun h=>?_) <;> simp only [h,go_sem] <;> (try simp only [qqS] at h)
   ·simp only [hg,go_sem]
    refine au [0,1,2] (kn c s o gA (.rp 1 s.nodes.length 5 i 0) n.aQ 0 rfl rfl (by omega) (by omega) hn hj) rfl ?_ (by decide) ?_ ?_ (by simp) ?_ <;> simp only [ag,ah,go_sem,bY]
    have hg2:((eu s n.aQ 0).nodes.map bZ)[i]? = some (bZ (dh (eu s n.aQ 0) o.a)):=by
     unfold dh; rw [ha2]; exact aM ai (by simp [eu]; exact hi)
    have hl:(eu s n.aQ 0).nodes.length=s.nodes.length:=by simp [eu]
    have hi2:i<(eu s n.aQ 0).nodes.length:=by omega
    generalize hm:dh (eu s n.aQ 0) o.a=m at *
    simp only [hg2,hl,hi,List.getElem?_set_self,List.length_set,go_sem]
    refine ay rfl ?_
    simp only [sY,hu,h,hm,hl,ki,hN,ha2,List.map_set,List.length_set,List.set_set,go_sem,Bool.true_eq_false,Bool.false_eq_true,ne_eq,not_true,not_false_eq_true,or_self]
   ·simp only [hg,hi,List.getElem?_set_self,List.length_set,go_sem]
    refine ay rfl ?_
    simp only [sY,hu,h,ki,hN,ha2,List.map_set,List.length_set,List.set_set,go_sem,Bool.true_eq_false,Bool.false_eq_true,ne_eq,not_true,not_false_eq_true,or_self]
end Dv
namespace Dv
open Go Go.Proofs
variable {G:Nat→Option (List DV)}
def Yp:=qx Tryz.f153
theorem UG:aj Tryz.prog Tryz.f153=some Yp:=by kernel_rfl
def Ye:Nat×C×List RV:=(92,
(.seq (.pZ [qo 2 (.mv (qk 0))])
 (.seq (.block 0 (.seq (.lS [qm 4 0,
 qd 5 (.kX (.t 4)) [0],
 qd 6 (.fS 15 (.t 5)) [1,0],
 qd 7 (.fS 2 (.t 6)) [2,1,0],
 qd 8 (.ld1 (.t 7)) [3,2,1,0],
 qm 9 0,
 qd 10 (.kX (.t 9)) [5],
 qd 11 (.fS 9 (.t 10)) [6,5],
 qd 12 (.fS 0 (.t 11)) [7,6,5],
 qd 13 (.ld1 (.t 12)) [8,7,6,5],
 qd 14 (.len (.t 13)) [9,8,7,6,5],
 qd 15 (.bin .geq (.t 8) (.t 14)) [4,3,2,1,0,10,9,8,7,6,5],
 qd 3 (.mv (.t 15)) [11,4,3,2,1,0,10,9,8,7,6,5]])
 (.cond (.t 3) (.seq (.pZ [qo 2 (.mv (qk 4))])
 .ret)
 (.seq (.pZ [qm 17 0,
 qo 18 (.kX (.t 17)),
 qo 19 (.fS 22 (.t 18)),
 qo 20 (.ld1 (.t 19)),
 qo 21 (.kX (.t 20)),
 qo 22 (.fS 6 (.t 21)),
 qo 23 (.ld1 (.t 22)),
 qo 24 (.bin .neq (.t 23) (qk 2)),
 qm 16 24])
 (.cond (.t 16) (.seq (.pZ [qo 2 (.mv (qk 5))])
 .ret)
 (.seq (.lS [qm 26 0,
 qd 27 (.kX (.t 26)) [0],
 qd 28 (.fS 9 (.t 27)) [1,0],
 qd 29 (.fS 0 (.t 28)) [2,1,0],
 qd 30 (.ld1 (.t 29)) [3,2,1,0],
 qm 31 0,
 qd 32 (.kX (.t 31)) [5],
 qd 33 (.fS 15 (.t 32)) [6,5],
 qd 34 (.fS 2 (.t 33)) [7,6,5],
 qd 35 (.ld1 (.t 34)) [8,7,6,5],
 qd 36 (.NP 5 (.t 30) (.t 35)) [4,3,2,1,0,9,8,7,6,5],
 qd 37 (.fS 4 (.t 36)) [10,4,3,2,1,0,9,8,7,6,5],
 qd 38 (.ld1 (.t 37)) [11,10,4,3,2,1,0,9,8,7,6,5],
 qm 39 0,
 qd 40 (.kX (.t 39)) [13],
 qd 41 (.fS 15 (.t 40)) [14,13],
 qd 42 (.fS 1 (.t 41)) [15,14,13],
 qd 43 (.ld1 (.t 42)) [16,15,14,13],
 qd 44 (.bin .neq (.t 38) (.t 43)) [12,11,10,4,3,2,1,0,9,8,7,6,5,17,16,15,14,13],
 qd 45 (.mv (.t 44)) [18,12,11,10,4,3,2,1,0,9,8,7,6,5,17,16,15,14,13],
 qe 46 (.mv (.t 0)) 45 false [19,18,12,11,10,4,3,2,1,0,9,8,7,6,5,17,16,15,14,13],
 qe 47 (.kX (.t 46)) 45 false [20,19,18,12,11,10,4,3,2,1,0,9,8,7,6,5,17,16,15,14,13],
 qe 48 (.fS 22 (.t 47)) 45 false [21,20,19,18,12,11,10,4,3,2,1,0,9,8,7,6,5,17,16,15,14,13],
 qe 49 (.ld1 (.t 48)) 45 false [22,21,20,19,18,12,11,10,4,3,2,1,0,9,8,7,6,5,17,16,15,14,13],
 qe 50 (.kX (.t 49)) 45 false [23,22,21,20,19,18,12,11,10,4,3,2,1,0,9,8,7,6,5,17,16,15,14,13],
 qe 51 (.fS 8 (.t 50)) 45 false [24,23,22,21,20,19,18,12,11,10,4,3,2,1,0,9,8,7,6,5,17,16,15,14,13],
 qe 52 (.ld1 (.t 51)) 45 false [25,24,23,22,21,20,19,18,12,11,10,4,3,2,1,0,9,8,7,6,5,17,16,15,14,13],
 qe 53 (.cvt .u64 (.t 52)) 45 false [26,25,24,23,22,21,20,19,18,12,11,10,4,3,2,1,0,9,8,7,6,5,17,16,15,14,13],
 qe 54 (.call (.f 224) [(.t 53)]) 45 false [27,26,25,24,23,22,21,20,19,18,12,11,10,4,3,2,1,0,9,8,7,6,5,17,16,15,14,13],
 qe 55 (.mv (.t 0)) 45 false [19,18,12,11,10,4,3,2,1,0,9,8,7,6,5,17,16,15,14,13],
 qe 56 (.kX (.t 55)) 45 false [29,19,18,12,11,10,4,3,2,1,0,9,8,7,6,5,17,16,15,14,13],
 qe 57 (.fS 22 (.t 56)) 45 false [30,29,19,18,12,11,10,4,3,2,1,0,9,8,7,6,5,17,16,15,14,13],
 qe 58 (.ld1 (.t 57)) 45 false [31,30,29,19,18,12,11,10,4,3,2,1,0,9,8,7,6,5,17,16,15,14,13],
 qe 59 (.kX (.t 58)) 45 false [32,31,30,29,19,18,12,11,10,4,3,2,1,0,9,8,7,6,5,17,16,15,14,13],
 qe 60 (.fS 2 (.t 59)) 45 false [33,32,31,30,29,19,18,12,11,10,4,3,2,1,0,9,8,7,6,5,17,16,15,14,13],
 qe 61 (.ld1 (.t 60)) 45 false [34,33,32,31,30,29,19,18,12,11,10,4,3,2,1,0,9,8,7,6,5,17,16,15,14,13],
 qe 62 (.bin .leq (.t 54) (.t 61)) 45 false [28,27,26,25,24,23,22,21,20,19,18,12,11,10,4,3,2,1,0,9,8,7,6,5,17,16,15,14,13,35,34,33,32,31,30,29],
 qd 63 (.pick (.t 45) qt (.t 62)) [19,18,12,11,10,4,3,2,1,0,9,8,7,6,5,17,16,15,14,13,36,28,27,26,25,24,23,22,21,20,35,34,33,32,31,30,29],
 qd 25 (.mv (.t 63)) [37,19,18,12,11,10,4,3,2,1,0,9,8,7,6,5,17,16,15,14,13,36,28,27,26,25,24,23,22,21,20,35,34,33,32,31,30,29]])
 (.cond (.t 25) (.seq (.pZ [qo 2 (.mv (qk 8))])
 .ret)
 .skip)))))))
 (.seq (.lS [qm 64 0,
 qd 65 (.kX (.t 64)) [0],
 qd 66 (.fS 22 (.t 65)) [1,0],
 qd 67 (.ld1 (.t 66)) [2,1,0],
 qd 68 (.kX (.t 67)) [3,2,1,0],
 qd 69 (.fS 8 (.t 68)) [4,3,2,1,0],
 qd 70 (.ld1 (.t 69)) [5,4,3,2,1,0],
 qm 71 0,
 qd 72 (.kX (.t 71)) [7],
 qd 73 (.fS 15 (.t 72)) [8,7],
 qd 74 (.fS 2 (.t 73)) [9,8,7],
 qd 75 (.ld1 (.t 74)) [10,9,8,7],
 qd 76 (.bin .shl (qk 1) (.t 75)) [11,10,9,8,7],
 qd 77 (.bin .andNot (.t 70) (.t 76)) [6,5,4,3,2,1,0,12,11,10,9,8,7],
 qd 78 (.kX (.t 67)) [3,2,1,0,4,5,6,7,8,9,10,11,12,13],
 qd 79 (.fS 8 (.t 78)) [14,3,2,1,0,4,5,6,7,8,9,10,11,12,13],
 ql (.st 1 (.t 79) (.t 77)) [15,14,3,2,1,0,4,5,6,7,8,9,10,11,12,13]])
 (.seq (.lS [qm 80 0,
 qd 81 (.kX (.t 80)) [0],
 qd 82 (.fS 9 (.t 81)) [1,0],
 qd 83 (.fS 0 (.t 82)) [2,1,0],
 qd 84 (.ld1 (.t 83)) [3,2,1,0],
 qm 85 0,
 qd 86 (.kX (.t 85)) [5],
 qd 87 (.fS 15 (.t 86)) [6,5],
 qd 88 (.fS 2 (.t 87)) [7,6,5],
 qd 89 (.ld1 (.t 88)) [8,7,6,5],
 qd 90 (.NP 5 (.t 84) (.t 89)) [4,3,2,1,0,9,8,7,6,5],
 qd 91 (.fS 4 (.t 90)) [10,4,3,2,1,0,9,8,7,6,5],
 ql (.st 1 (.t 91) (qk 0)) [11,10,4,3,2,1,0,9,8,7,6,5]])
 (.seq (.pZ [qo 2 (.mv (qk 0))])
 .ret))))),
[(.t 2)])
theorem Uv:aj Tryz.prog Tryz.f164=some Ye:=by kernel_rfl
def Gd (c:aF) (s:aa) (o:cB) (k0:Nat) (j':bQ) (k:Nat):St:=⟨[(0,.ptr 0 0),(73,.int s.nodes.length),(74,.int k)],
 [some (.box 133 [.int c.nodes,.int c.bL,.int c.cE,.int c.gT,.int c.cc,.int c.eG,.int c.deadline,.int c.room,.int c.ga,
  .sl 1 s.nodes.length 5 0 s.nodes.length,.sl 2 s.jobs.length 12 0 s.jobs.length,.int s.goal,.int s.prior,.int s.mode,.int s.term,
  .int o.kind,.int o.a,.int o.b,.int o.c,.int o.d,.int o.e,.int o.f,.rp 2 s.jobs.length 12 k0 0,gA]),
  some (.dat 102 5 ((iq (gL o.b o.a) s.nodes k).map bZ)),some (.dat 119 12 ((s.jobs.set k0 j').map dJ))]⟩
theorem Qo (c:aF) (s:aa) (o:cB) (k:Nat) (hk:k<s.jobs.length) (ha:o.a=k+1) (hn:s.nodes.length≤6) (hj:s.jobs.length≤1000) (adz:0≤(eC s o.a).inc) :
  bu Tryz.prog G 153 [.ptr 0 0] (bY c s o (.rp 2 s.jobs.length 12 k 0) gA) (.int (pT s o).2) (bY c (pT s o).1 o (.rp 2 s.jobs.length 12 k 0) gA):=by
 refine aT Tryz.func153 (by decide) UG rfl rfl rfl rfl ?_
 simp only [Yp,go_sem]
 have hg:=aM (f:=dJ) az hk
 have ha2:(o.a-1).toNat=k:=by omega
 have hJ:eC s o.a=s.jobs.getD k az:=by unfold eC; rw [ha2]
 generalize s.jobs.getD k az=j at *
 rw [hJ] at adz
 simp only [hg,go_sem]
 refine bA (fun h=>?_) (fun h=>?_) <;> simp only [h,go_sem] <;> (try simp only [qqS] at h)
 ·simp only [pT,h,gr,hJ,ha2,List.map_set,List.length_set,List.set_set,go_sem,Bool.true_eq_false,Bool.false_eq_true,ne_eq,not_true,not_false_eq_true,or_self]
 ·simp only [hg,go_sem]
  refine vK [1,2] (MU s j o.b 222 mq hn Gw) rfl (by simp [ag,ah,bK,aC,List.take_of_length_le,go_sem]) (by simp [aC]) rfl rfl ?_; simp only [go_sem]
  have fin:(mZ s.nodes j o.b mq=false∨1000000≤j.inc)→pT s o=(s,8):=fun h'=>by
   simp only [pT,hJ,h,h',ne_eq,not_true,if_false,if_true]
  cases hf:mZ s.nodes j o.b mq with
  | false=>
    simp only [go_sem,fin (.inl hf)]
  | true=>
    simp only [hg,go_sem]
    refine bA (fun hi=>?_) (fun hi=>?_) <;> simp only [hi,go_sem] <;> (try simp only [qqS] at hi)
    ·simp only [go_sem,fin (.inr hi)]
    ·have hw:IntKind.i64.wrap (j.inc+1)=j.inc+1:=aO (by omega) (by omega)
     have aaG:pT s o=({ gr s o.a { j with phase:=1,inc:=j.inc+1,nodes:=o.b } with nodes:=s.nodes.mapIdx (gL o.b o.a) },0):=by
      unfold pT
      rw [hJ,if_neg (by simpa using h),if_neg (by simp [hf]; omega)]
     simp only [hg,hk,List.getElem?_set_self,List.length_set,List.set_set,go_sem]
     refine ay rfl ?_
     simp only [hg,hk,hw,List.getElem?_set_self,List.length_set,List.set_set,go_sem]
     refine aW [0,73,74] [] (fun q:Nat=>q≤s.nodes.length) (fun q=>s.nodes.length-q) (Gd c s o k { j with phase:=1,inc:=j.inc+1,nodes:=o.b }) 0 ?_ (Nat.zero_le _) (fun q hq=>?_)
     ·simp only [Gd,y_,Int.natCast_zero,gr,ha2,List.map_set,go_sem]
     simp only [Gd,gr,List.length_set,go_sem]
     refine bA (fun h=>?_) (fun h=>?_)
     ·have h:=eR h
      have hg2:((iq (gL o.b o.a) s.nodes q).map bZ)[q]? = some (bZ s.nodes[q]):=by rw [List.getElem?_map,E7 _ _ h]; rfl
      simp only [JJ o.b q (by omega),go_sem]
      cases hb:hasB o.b q with
      | true=>
        have hs:((iq (gL o.b o.a) s.nodes q).map bZ).set q (bZ { s.nodes[q] with aQ:=o.a })=(iq (gL o.b o.a) s.nodes (q+1)).map bZ:=by
         rw [← List.map_set,vU _ _ h (by simp only [gL,hb,if_true])]
        simp only [bZ] at hs
        simp only [h,hg2,oF,go_sem]
        refine ay rfl ?_
        simp only [go_sem]
        refine bh (q+1) ?_ ?_ (by omega) (by omega)
        ·simp only [go_sem]
        ·simp only [Gd,gr,List.length_set,go_sem,aH (show q<9223372036854775807 by omega),hs]
      | false=>
        have hs:=za (gL o.b o.a) s.nodes h (by simp only [gL,hb,Bool.false_eq_true,if_false])
        simp only [go_sem]
        refine bh (q+1) ?_ ?_ (by omega) (by omega)
        ·simp only [go_sem]
        ·simp only [Gd,gr,List.length_set,go_sem,aH (show q<9223372036854775807 by omega),hs]
     ·obtain rfl:=eS h hq
      simp only [zb,aaG,gr,ha2,List.length_mapIdx,List.length_set,go_sem]
theorem SP (m b:Nat) (hm:m<64) (hb:b<6):gF .i64 (m:Int) (2 ^ b)=mW m b:=by
 have:∀ m:Nat,m<64→∀ b:Nat,b<6→gF .i64 (m:Int) (2 ^ b)=mW m b:=by decide +kernel
 exact this m hm b hb
theorem HK (c:aF) (s:aa) (o:cB) (k:Nat) (hk:k<s.jobs.length) (ha:o.a=k+1) (hn:s.nodes.length≤6) (hj:s.jobs.length≤1000) (hb0:0≤o.b) (hm:0≤(eC s o.a).nodes∧(eC s o.a).nodes<64) :
  bu Tryz.prog G 164 [.ptr 0 0] (bY c s o (.rp 2 s.jobs.length 12 k 0) gA) (.int (gX s o).2) (bY c (gX s o).1 o (.rp 2 s.jobs.length 12 k 0) gA):=by
 refine aT Tryz.func164 (by decide) Uv rfl rfl rfl rfl ?_
 simp only [Ye,go_sem]
 have hg:=aM (f:=dJ) az hk
 have ha2:(o.a-1).toNat=k:=by omega
 have hJ:eC s o.a=s.jobs.getD k az:=by unfold eC; rw [ha2]
 generalize s.jobs.getD k az=j at *
 rw [hJ] at hm
 obtain ⟨m,Y1⟩:=Int.eq_ofNat_of_zero_le hm.1
 have hmu:IntKind.u64.wrap (m:Int)=m:=by simp [IntKind.wrap,IntKind.bits,IntKind.signed]; omega
 obtain ⟨b,hb⟩:=Int.eq_ofNat_of_zero_le hb0
 rw [hb]
 refine bA (fun h1=>?_) (fun h1=>?_) <;> simp only [h1,go_sem] <;> (try simp only [qqS] at h1)
 ·simp only [gX,hb,h1,ge_iff_le,gr,hJ,ha2,List.map_set,List.length_set,List.set_set,go_sem,Bool.true_eq_false,Bool.false_eq_true,ne_eq,not_true,not_false_eq_true,or_self]
 ·have yY:b<s.nodes.length:=by omega
  simp only [hg,go_sem]
  refine bA (fun h2=>?_) (fun h2=>?_) <;> simp only [h2,go_sem] <;> (try simp only [qqS] at h2)
  ·simp only [gX,hb,h1,h2,ge_iff_le,gr,hJ,ha2,List.map_set,List.length_set,List.set_set,go_sem,Bool.true_eq_false,Bool.false_eq_true,ne_eq,not_true,not_false_eq_true,or_self]
  ·have wL:=aM (f:=bZ) ai yY
   have hN:dh s o.b=s.nodes.getD b ai:=by unfold dh; rw [hb]; rfl
   have hN':dh s (b:Int)=s.nodes.getD b ai:=rfl
   generalize s.nodes.getD b ai=n at *
   have yZ:¬ ((s.nodes.length:Int)≤b):=by omega
   have fin:(n.aQ≠o.a∨many j.nodes≤j.min)→gX s o=(s,8):=fun h'=>by
    unfold gX
    rw [hb,if_neg yZ,hJ,if_neg (by simpa using h2),hN',if_pos h']
   simp only [wL,yY,go_sem]
   refine ig (fun h3=>?_) (fun h3=>?_) <;> simp only [h3,go_sem] <;> (try simp only [qqS] at h3)
   ·have I9:n.aQ=o.a:=h3
    simp only [hg,Y1,hmu,go_sem]
    refine bf (uL m (by omega)) rfl rfl rfl rfl ?_; simp only [go_sem]
    simp only [hg,go_sem]
    refine bA (fun h4=>?_) (fun h4=>?_) <;> simp only [h4,go_sem] <;> (try simp only [qqS] at h4)
    ·simp only [go_sem,fin (.inr (by rw [Y1]; exact h4)),hb]
    ·have aaG:gX s o=(ki (gr s o.a { j with nodes:=mW j.nodes o.b }) o.b { n with aQ:=0 },0):=by
      unfold gX
      rw [hb,if_neg yZ,hJ,if_neg (by simpa using h2),hN',if_neg (by rw [Y1]; simp [I9]; omega)]
     have hle:gF .i64 (m:Int) (DC .i64 1 b)=mW m b:=by rw [uu b (by omega),SP m b (by omega) (by omega)]
     simp only [hg,Y1,hle,go_sem]
     refine ay rfl ?_
     simp only [wL,yY,go_sem]
     refine ay rfl ?_
     simp only [aaG,ki,gr,Y1,hb,ha2,List.map_set,List.length_set,go_sem]
   ·simp only [go_sem,fin (.inl h3),hb]
end Dv
namespace Dv
open Go Go.Proofs
variable {G:Nat→Option (List DV)}
def YB:=qx Tryz.f141
theorem US:aj Tryz.prog Tryz.f141=some YB:=by kernel_rfl
def YA:=qx Tryz.f142
theorem UR:aj Tryz.prog Tryz.f142=some YA:=by kernel_rfl
def abx:=qx Tryz.f72
theorem ZV:aj Tryz.prog Tryz.f72=some abx:=by kernel_rfl
def abw:=qx Tryz.f74
theorem ZU:aj Tryz.prog Tryz.f74=some abw:=by kernel_rfl
def cL (o:cB):List Int:=[o.a,o.b,o.c,o.d,o.e,o.f]
def qQ (m:Nat):List Int→Nat→Bool
 | [],_=>true
 | n::l,i=>pR n (decide (i<m))&&qQ m l (i+1)
theorem uK (o:cB):fc o=(decide (1≤o.kind∧o.kind≤21)&&qQ (ej o.kind) (cL o) 0):=by
 unfold fc cL
 simp only [qQ,Bool.and_true,Bool.and_assoc]
def WI:List Int:=[0,6,1,1,0,0,0,1,2,2,2,1,2,2,1,1,1,1,1,2,2,0]
def D_:List ByteArray:=[⟨#[]⟩,⟨#[115,117,98,109,105,116]⟩,⟨#[99,97,110,99,101,108]⟩,⟨#[116,97,114,103,101,116]⟩,⟨#[112,97,117,115,101]⟩,⟨#[114,101,115,117,109,101]⟩,⟨#[97,98,111,114,116]⟩,⟨#[100,111,119,110]⟩,⟨#[117,112]⟩,⟨#[104,111,108,100]⟩,⟨#[115,116,97,114,116]⟩,⟨#[117,110,104,111,108,100]⟩,⟨#[100,114,97,105,110]⟩,⟨#[115,97,118,101,100]⟩,⟨#[101,118,105,99,116]⟩,⟨#[100,111,110,101]⟩,⟨#[99,111,114,100,111,110]⟩,⟨#[117,110,99,111,114,100,111,110]⟩,⟨#[109,111,118,101]⟩,⟨#[109,111,118,101,100]⟩,⟨#[115,104,114,105,110,107]⟩,⟨#[110,101,119,116,101,114,109]⟩]
def Pv:List DV:=WI.map i64
def Al:List DV:=D_.map fun s=>.val (.string s)
def cF:Nat→Option (List DV):=fun n=>if n=0 then some Pv else if n=1 then some Al else none
theorem tV:cF 0=some Pv:=rfl
theorem GU:cF 1=some Al:=rfl
theorem Eb (k:Int) (h:1≤k∧k≤21):Pv[k.toNat]? = some (i64 (ej k:Nat)):=by
 have h:k=1∨k=2∨k=3∨k=4∨k=5∨k=6∨k=7∨k=8∨k=9∨k=10∨k=11∨k=12∨k=13∨k=14∨k=15∨k=16∨k=17∨k=18∨k=19∨k=20∨k=21:=by omega
 rcases h with h | h | h | h | h | h | h | h | h | h | h | h | h | h | h | h | h | h | h | h | h <;> subst h <;> rfl
def nameOf (k:Int):ByteArray:=if 1≤k∧k≤21 then D_.getD k.toNat ⟨#[]⟩ else ⟨#[]⟩
theorem SM (k:Int) (h:0≤k∧k≤21):Al[k.toNat]? = some (.val (.string (nameOf k))):=by
 have h:k=0∨k=1∨k=2∨k=3∨k=4∨k=5∨k=6∨k=7∨k=8∨k=9∨k=10∨k=11∨k=12∨k=13∨k=14∨k=15∨k=16∨k=17∨k=18∨k=19∨k=20∨k=21:=by omega
 rcases h with h | h | h | h | h | h | h | h | h | h | h | h | h | h | h | h | h | h | h | h | h | h <;> subst h <;> rfl
theorem rW (k:Int) (h:¬ (1≤k∧k≤21)):nameOf k=⟨#[]⟩:=by unfold nameOf; rw [if_neg h]
theorem Cz (k:Int) (h:1≤k∧k≤21):((nameOf k).toList==(⟨#[]⟩:ByteArray).toList)=false:=by
 have h:k=1∨k=2∨k=3∨k=4∨k=5∨k=6∨k=7∨k=8∨k=9∨k=10∨k=11∨k=12∨k=13∨k=14∨k=15∨k=16∨k=17∨k=18∨k=19∨k=20∨k=21:=by omega
 rcases h with h | h | h | h | h | h | h | h | h | h | h | h | h | h | h | h | h | h | h | h | h <;> subst h <;> decide +kernel
theorem FV (k:Int):bu Tryz.prog cF 141 [.int k] [] (.d (.val (.string (nameOf k)))) []:=by
 refine bz Tryz.func141 (by decide) US rfl rfl ?_
 simp only [YB,go_sem]
 refine dH (fun h1=>?_) (fun h1=>?_) <;> simp only [h1,go_sem] <;> (try simp only [qqS] at h1)
 ·refine bA (fun h2=>?_) (fun h2=>?_) <;> simp only [h2,go_sem] <;> (try simp only [qqS] at h2)
  ·rw [rW k (by omega)]
  ·have h3:0≤k:=by omega
   have h4:k.toNat<22:=by omega
   simp only [GU,h3,h4,Nat.mul_one,SM k (by omega),go_sem]
 ·rw [rW k (by omega)]
theorem J_ (o:cB):bu Tryz.prog G 142 [tF o] [] (.agg ((cL o).map LV.int)) []:=by
 refine bz Tryz.func142 (by decide) UR rfl rfl ?_
 simp only [YA,go_sem]
 simp only [cL,go_sem]
def OS (o:cB) (k:Nat):St:=⟨[(1,.ptr 0 0),(10,.agg ((cL o).map LV.int)),(11,.int k)],[some (.box 37 [.int o.kind,.int o.a,.int o.b,.int o.c,.int o.d,.int o.e,.int o.f])]⟩
theorem Pa (n:Int) (k m:Nat):pR n (decide (k<m)) = !(decide (n<0)||decide (n>1000000)||(decide ((k:Int)≥(m:Int))&&(n !=0))):=by
 unfold pR
 rw [Bool.eq_iff_iff]
 by_cases h4:n=0
 ·subst h4; simp
 ·have e:(n !=0)=true:=by simpa using h4
  simp only [e,h4,Bool.and_eq_true,Bool.or_eq_true,decide_eq_true_eq,Bool.not_eq_true',Bool.or_eq_false_iff,Bool.and_eq_false_iff,decide_eq_false_iff_not,decide_false,Bool.or_false,Bool.and_true]
  omega
theorem oQ (o:cB):bu Tryz.prog cF 72 [tF o] [] (.bool (fc o)) []:=by
 refine bz Tryz.func72 (by decide) ZV rfl rfl ?_
 simp only [abx,go_sem]
 rw [uK]
 refine av (FV o.kind) rfl rfl rfl rfl ?_; simp only [go_sem]
 by_cases hk:1≤o.kind∧o.kind≤21
 ·simp only [Cz _ hk,go_sem]
  refine av (J_ o) rfl rfl rfl rfl ?_
  simp only [go_sem,hk]
  generalize hq:qQ (ej o.kind) (cL o) 0=r
  have hl:(cL o).length=6:=rfl
  have hk0:0≤o.kind:=by omega
  have wJ:o.kind.toNat<22:=by omega
  refine aW [1,10,11] [] (fun k:Nat=>k≤6∧qQ (ej o.kind) ((cL o).drop k) k=r) (fun k=>6-k) (OS o) 0 ?_ ⟨by omega,hq⟩ ?_
  ·simp only [OS,go_sem,Int.natCast_zero]
  rintro k ⟨hk6,hF⟩
  simp only [OS,go_sem]
  refine bA (fun h=>?_) (fun h=>?_) <;> simp only [h,go_sem] <;> (try simp only [qqS] at h)
  ·have hkl:k<(cL o).length:=by omega
   have ads:k<6:=by omega
   rw [List.drop_eq_getElem_cons hkl,qQ,Pa] at hF
   have hg:((cL o).map LV.int)[k]? = some (LV.int (cL o)[k]):=get_map hkl
   simp only [hg,ads,go_sem]
   generalize (cL o)[k]=n at *
   refine dH (fun h1=>?_) (fun h1=>?_) <;> simp only [h1,go_sem] <;> (try simp only [qqS] at h1)
   ·have yZ:decide (n<0)=false:=by simp; omega
    refine dH (fun h2=>?_) (fun h2=>?_) <;> simp only [h2,go_sem] <;> (try simp only [qqS] at h2)
    ·have Hl:decide (n>1000000)=false:=by simp; omega
     simp only [tV,hk0,wJ,Eb _ hk,Nat.mul_one,go_sem]
     refine dH (fun h3=>?_) (fun h3=>?_) <;> simp only [h3,go_sem] <;> (try simp only [qqS] at h3)
     ·have I9:decide ((k:Int)≥(ej o.kind:Int))=true:=by simpa using h3
      cases h4:(n !=0) with
      | true=>
        rw [yZ,Hl,I9,h4] at hF
        simp only [go_sem] at hF
        simp only [go_sem,← hF]
      | false=>
        rw [yZ,Hl,I9,h4] at hF
        simp only [go_sem] at hF
        simp only [go_sem]
        refine bh (k+1) ?_ ?_ ⟨by omega,hF⟩ (by omega)
        ·simp only [go_sem]; rfl
        ·simp only [OS,go_sem,aH (show k<9223372036854775807 by omega)]
     ·have I9:decide ((k:Int)≥(ej o.kind:Int))=false:=by simpa using h3
      rw [yZ,Hl,I9] at hF
      simp only [go_sem] at hF
      refine bh (k+1) ?_ ?_ ⟨by omega,hF⟩ (by omega)
      ·simp only [go_sem]; rfl
      ·simp only [OS,go_sem,aH (show k<9223372036854775807 by omega)]
    ·have Hl:decide (n>1000000)=true:=by simpa using h2
     rw [yZ,Hl] at hF
     simp only [go_sem] at hF
     simp only [go_sem,← hF]
   ·have yZ:decide (n<0)=true:=by simpa using h1
    rw [yZ] at hF
    simp only [go_sem] at hF
    simp only [go_sem,← hF]
  ·obtain rfl:k=6:=by omega
   simp only [cL,List.drop_succ_cons,List.drop_zero,qQ] at hF
   simp only [go_sem,← hF]
 ·simp only [rW _ hk,hk,go_sem]
def iz (f:Option Nat) (j n:Bool):List LV:=[match f with | some k=>.d (.fn (.func k) [] []) | none=>.d (.val .nilFunc),.bool j,.bool n]
def wY:List LV:=iz none false false++iz (some 145) false false++iz (some 146) true false++iz (some 147) false false++iz (some 148) false false++iz (some 149) false false++iz (some 150) false false
 ++iz (some 151) false true++iz (some 152) false true++iz (some 153) true false++iz (some 154) true false++iz (some 155) true false++iz (some 156) true false++iz (some 157) true false
 ++iz (some 158) true false++iz (some 159) true false++iz (some 160) false true++iz (some 161) false true++iz (some 162) false true++iz (some 163) false true++iz (some 164) true false++iz (some 165) false false
theorem M9:bu Tryz.prog G 74 [] [] (.agg wY) []:=by
 refine bz Tryz.func74 (by decide) ZU rfl rfl ?_
 simp only [abw,go_sem]
 rfl
end Dv
namespace Dv
open Go Go.Proofs
variable {G:Nat→Option (List DV)}
def abH:=qx Tryz.f24
theorem Z5:aj Tryz.prog Tryz.f24=some abH:=by kernel_rfl
theorem rF {c:aF} {s:aa} {o:cB} (hr:iR c s=true) (h:fc o=true) (h1:Iy o.kind=false) (h2:Ai o.kind=false):aZ c s o=bV c s o:=by
 unfold aZ Bq
 rw [if_neg (by simp [hr]),if_neg (by simp [h]),if_neg (by simp [h1]),if_neg (by simp [h2])]
theorem Lc {c:aF} {s:aa} {o:cB} (hr:iR c s=true) (h:fc o=true) (h1:Iy o.kind=true) (h2:Ai o.kind=false):aZ c s o=if o.a<1∨(s.jobs.length:Int)<o.a then (s,4) else bV c s o:=by
 unfold aZ Bq
 rw [if_neg (by simp [hr]),if_neg (by simp [h])]
 by_cases hq:o.a<1∨(s.jobs.length:Int)<o.a
 ·rw [if_pos ⟨h1,hq⟩,if_pos hq]
 ·rw [if_neg (fun h=>hq h.2),if_neg (by simp [h2]),if_neg hq]
theorem Ry {c:aF} {s:aa} {o:cB} (hr:iR c s=true) (h:fc o=true) (h1:Iy o.kind=false) (h2:Ai o.kind=true):aZ c s o=if (s.nodes.length:Int)≤o.a then (s,4) else bV c s o:=by
 unfold aZ Bq
 rw [if_neg (by simp [hr]),if_neg (by simp [h]),if_neg (by simp [h1])]
 by_cases hq:(s.nodes.length:Int)≤o.a
 ·rw [if_pos ⟨h2,hq⟩,if_pos hq]
 ·rw [if_neg (fun h=>hq h.2),if_neg hq]
def su (s:aa) (p:aa×Int):Prop:=p.2≠0→p.1=s
theorem VQ {s:aa} {P:Prop} [Decidable P] {a b:aa×Int} (h1:su s a) (h2:su s b):su s (if P then a else b):=by
 split
 ·exact h1
 ·exact h2
theorem Rc (s:aa) (e:Int):su s (s,e):=fun _=>rfl
theorem aaI (s t:aa):su s (t,0):=fun h=>absurd rfl h
theorem GH (c:aF) (s:aa) (o:cB):su s (bV c s o):=by
 unfold bV j3 k9 kU iG sY RJ pT oI kT nP kD pF vz nh iX xM nM gX ey
 repeat' (first | exact Rc _ _ | exact aaI _ _ | apply VQ)
theorem wu {o:cB} (h:fc o=true):(1≤o.kind∧o.kind≤21)∧(0≤o.a∧o.a≤1000000)∧(0≤o.b∧o.b≤1000000):=by
 unfold fc pR at h
 simp only [Bool.and_eq_true,decide_eq_true_eq] at h
 exact ⟨h.1.1.1.1.1.1,h.1.1.1.1.1.2.1,h.1.1.1.1.2.1⟩
theorem Nb {c:aF} {s:aa} {o:cB} (hp:bU c s) (hcf:1≤c.bL∧c.bL≤1000) (hk:o.kind=1∨o.kind=3∨o.kind=4∨o.kind=5∨o.kind=6∨o.kind=21):∃ f,List.take 3 (List.drop (o.kind.toNat*3) wY)=[.d (.fn (.func f) [] []),.bool false,.bool false]∧bu Tryz.prog cF f [.ptr 0 0] (bY c s o gA gA) (.int (bV c s o).2) (bY c (bV c s o).1 o gA gA):=by
 have sP:=hp.len
 have hlj:=hp.jobs
 have ht:=hp.term
 rcases hk with hk | hk | hk | hk | hk | hk <;> refine ⟨_,by rw [hk]; rfl,?_⟩ <;> simp only [bV,hk,Int.reduceEq,if_true,if_false]
 ·exact HE c s o hcf (by omega)
 ·exact HC c s o (by omega) (by omega)
 ·exact L0 c s o
 ·exact HS c s o
 ·exact NI c s o
 ·exact FP c s o (by omega) ht.1
theorem Rn {c:aF} {s:aa} {o:cB} (hp:bU c s) (hb:0≤o.b) (hk:o.kind=2∨o.kind=9∨o.kind=10∨o.kind=11∨o.kind=12∨o.kind=13∨o.kind=14∨o.kind=15∨o.kind=20) {k:Nat} (hkl:k<s.jobs.length) (ha:o.a=k+1) (hJ:eC s o.a=dR s k) (hm:0≤(dR s k).nodes∧(dR s k).nodes<64):∃ f,List.take 3 (List.drop (o.kind.toNat*3) wY)=[.d (.fn (.func f) [] []),.bool true,.bool false]∧bu Tryz.prog cF f [.ptr 0 0] (bY c s o (.rp 2 s.jobs.length 12 k 0) gA) (.int (bV c s o).2) (bY c (bV c s o).1 o (.rp 2 s.jobs.length 12 k 0) gA):=by
 have sP:=hp.len
 have hlj:=hp.jobs
 rcases hk with hk | hk | hk | hk | hk | hk | hk | hk | hk <;> refine ⟨_,by rw [hk]; rfl,?_⟩ <;> simp only [bV,hk,Int.reduceEq,if_true,if_false]
 ·exact JF c s o k hkl ha (by omega) (by omega)
 ·exact Qo c s o k hkl ha (by omega) (by omega) (by rw [hJ]; exact (hp.num k hkl).inc.1)
 ·exact LB c s o k hkl ha
 ·exact Hw c s o k hkl ha (by omega) (by omega)
 ·exact Jr c s o k hkl ha (by omega)
 ·exact LK c s o k hkl ha
 ·exact M0 c s o k hkl ha (by omega) (by omega)
 ·exact M8 c s o k hkl ha (by omega) (by omega)
 ·exact HK c s o k hkl ha (by omega) (by omega) hb (by rw [hJ]; exact hm)
theorem Nc {c:aF} {s:aa} {o:cB} (hp:bU c s) (hk:o.kind=7∨o.kind=8∨o.kind=16∨o.kind=17∨o.kind=18∨o.kind=19) {i:Nat} (hil:i<s.nodes.length) (ha:o.a=i) (hN:dh s o.a=ec s i):∃ f,List.take 3 (List.drop (o.kind.toNat*3) wY)=[.d (.fn (.func f) [] []),.bool false,.bool true]∧bu Tryz.prog cF f [.ptr 0 0] (bY c s o gA (.rp 1 s.nodes.length 5 i 0)) (.int (bV c s o).2) (bY c (bV c s o).1 o gA (.rp 1 s.nodes.length 5 i 0)):=by
 have sP:=hp.len
 have hlj:=hp.jobs
 rcases hk with hk | hk | hk | hk | hk | hk <;> refine ⟨_,by rw [hk]; rfl,?_⟩ <;> simp only [bV,hk,Int.reduceEq,if_true,if_false]
 ·exact Rm c s o i hil ha (by omega) (by omega) (by rw [hN]; exact hp.aQ i hil)
 ·exact Zm c s o i hil ha
 ·exact Ju c s o i hil ha
 ·exact Du c s o i hil ha
 ·exact Pk c s o i hil ha
 ·exact Mc c s o i hil ha
theorem ox (c:aF) (s:aa) (o:cB):bu Tryz.prog cF 24 [fN c,aX s,tF o] [] (.dM [aX (aZ c s o).1,.int (aZ c s o).2]) []:=by
 refine cI Tryz.func24 (by decide) Z5 rfl ?_
 simp only [abH,go_sem]
 refine av (wg c s) rfl rfl rfl rfl ?_; simp only [go_sem]
 cases hr:iR c s with
 | false=>
   have hA:aZ c s o=(nT,1):=by unfold aZ; rw [if_pos hr]
   rw [hA]
   simp only [go_sem]
   exact dQ [] rfl (by simp) (by simp [St.obj,aC,aV,St.get,aY,ah,ag,bK,nT,LV.int])
 | true=>
 have hp:=(d_ c s).1 hr
 have sP:=hp.len
 have hlj:=hp.jobs
 have hcf:=(uB hr).vE
 simp only [go_sem]
 refine av (oQ o) rfl rfl rfl rfl ?_; simp only [go_sem]
 cases ho:fc o with
 | false=>
   have hA:aZ c s o=(s,1):=by unfold aZ Bq; rw [if_neg (by simp [hr]),if_pos ho]
   rw [hA]
   simp only [go_sem]
   refine jD (rC s (by omega) (by omega)) rfl rfl rfl ?_
   simp only [go_sem]
   exact dQ [4,5] rfl (by simp [St.obj,aC]) (by simp [St.obj,aC,aV,St.get,aY,ah,ag,bK,LV.int,List.take_of_length_le])
 | true=>
 have hkn:=wu ho
 obtain ⟨hkk,hka,hkb⟩:=hkn
 simp only [go_sem]
 refine kA (rC s (by omega) (by omega)) rfl rfl rfl ?_
 simp only [go_sem]
 refine ay rfl ?_
 simp only [go_sem]
 refine bf M9 rfl rfl rfl rfl ?_
 simp only [go_sem]
 have hE:=GH c s o
 have hK:0≤o.kind∧o.kind.toNat<22:=by omega
 have hkg:(o.kind=1∨o.kind=3∨o.kind=4∨o.kind=5∨o.kind=6∨o.kind=21)∨(o.kind=2∨o.kind=9∨o.kind=10∨o.kind=11∨o.kind=12∨o.kind=13∨o.kind=14∨o.kind=15∨o.kind=20)∨(o.kind=7∨o.kind=8∨o.kind=16∨o.kind=17∨o.kind=18∨o.kind=19):=by omega
 rcases hkg with hk | hk | hk
 ·obtain ⟨f,hx,hT⟩:=Nb hp (by omega) hk
  have hA:aZ c s o=bV c s o:=by
   rcases hk with hk | hk | hk | hk | hk | hk <;> exact rF hr ho (by rw [hk]; rfl) (by rw [hk]; rfl)
  rw [hA]
  simp only [hK,hx,go_sem]
  refine ay rfl ?_
  simp only [go_sem]
  refine au [6,4,5] (hT) rfl ?_ (by decide) ?_ ?_ (by simp) ?_ <;> simp only [ag,ah,go_sem,bY]
  generalize bV c s o=p at *
  cases he:(p.2 !=0) with
  | true=>
    simp only [he,go_sem]
    refine jD (rC s (by omega) (by omega)) rfl rfl rfl ?_
    simp only [go_sem]
    have hs:p.1=s:=hE (by simpa using he)
    rw [hs]
    exact dQ [8,9] rfl (by simp [St.obj,aC]) (by simp [St.obj,aC,aV,St.get,aY,ah,ag,bK,LV.int,List.take_of_length_le])
  | false=>
    have QH:p.2=0:=by simpa using he
    simp only [he,go_sem]
    exact dQ [4,5] rfl (by simp [St.obj,aC]) (by simp [St.obj,aC,aV,St.get,aY,ah,ag,bK,LV.int,List.take_of_length_le,QH])
 ·have hA:aZ c s o=if o.a<1∨(s.jobs.length:Int)<o.a then (s,4) else bV c s o:=by
   rcases hk with hk | hk | hk | hk | hk | hk | hk | hk | hk <;> exact Lc hr ho (by rw [hk]; rfl) (by rw [hk]; rfl)
  have hx:∃ f,List.take 3 (List.drop (o.kind.toNat*3) wY)=[.d (.fn (.func f) [] []),.bool true,.bool false]:=by
   rcases hk with hk | hk | hk | hk | hk | hk | hk | hk | hk <;> exact ⟨_,by rw [hk]; rfl⟩
  obtain ⟨f,hx⟩:=hx
  rw [hA]
  simp only [hK,hx,go_sem]
  refine ay rfl ?_
  simp only [go_sem]
  by_cases hq:o.a<1∨(s.jobs.length:Int)<o.a
  ·rw [if_pos hq]
   refine dH (fun h1=>?_) (fun h1=>?_) <;> simp only [h1,go_sem] <;> (try simp only [qqS] at h1)
   ·refine bA (fun h2=>?_) (fun h2=>?_) <;> simp only [h2,go_sem] <;> (try simp only [qqS] at h2)
    ·exact dQ [4,5] rfl (by simp [St.obj,aC]) (by simp [St.obj,aC,aV,St.get,aY,ah,ag,bK,LV.int,List.take_of_length_le])
    ·omega
   ·exact dQ [4,5] rfl (by simp [St.obj,aC]) (by simp [St.obj,aC,aV,St.get,aY,ah,ag,bK,LV.int,List.take_of_length_le])
  rw [if_neg hq]
  have q1:decide (o.a<1)=false:=by simp; omega
  have q2:decide (o.a>(s.jobs.length:Int))=false:=by simp; omega
  have hw:IntKind.i64.wrap (o.a-1)=o.a-1:=aO (by omega) (by omega)
  have q3:0≤o.a-1:=by omega
  obtain ⟨k,hkq⟩:∃ k:Nat,(o.a-1).toNat=k:=⟨_,rfl⟩
  have hkl:k<s.jobs.length:=by omega
  have adr:o.a=k+1:=by omega
  have hJ:eC s o.a=dR s k:=by unfold eC dR; rw [hkq]
  obtain ⟨f2,hx2,hT⟩:=Rn hp hkb.1 hk hkl adr hJ ((uB hr).bits hkl)
  rw [hx2] at hx
  simp only [List.cons.injEq,LV.d.injEq,DV.fn.injEq,Fn.func.injEq,and_true] at hx
  obtain rfl:=hx
  simp only [q1,q2,q3,hw,hkq,hkl,go_sem]
  refine ay rfl ?_
  simp only [go_sem]
  refine au [6,4,5] (hT) rfl ?_ (by decide) ?_ ?_ (by simp) ?_ <;> simp only [ag,ah,go_sem,bY]
  generalize bV c s o=p at *
  cases he:(p.2 !=0) with
  | true=>
    simp only [he,go_sem]
    refine jD (rC s (by omega) (by omega)) rfl rfl rfl ?_
    simp only [go_sem]
    have hs:p.1=s:=hE (by simpa using he)
    rw [hs]
    exact dQ [8,9] rfl (by simp [St.obj,aC]) (by simp [St.obj,aC,aV,St.get,aY,ah,ag,bK,LV.int,List.take_of_length_le])
  | false=>
    have QH:p.2=0:=by simpa using he
    simp only [he,go_sem]
    exact dQ [4,5] rfl (by simp [St.obj,aC]) (by simp [St.obj,aC,aV,St.get,aY,ah,ag,bK,LV.int,List.take_of_length_le,QH])
 ·have hA:aZ c s o=if (s.nodes.length:Int)≤o.a then (s,4) else bV c s o:=by
   rcases hk with hk | hk | hk | hk | hk | hk <;> exact Ry hr ho (by rw [hk]; rfl) (by rw [hk]; rfl)
  have hx:∃ f,List.take 3 (List.drop (o.kind.toNat*3) wY)=[.d (.fn (.func f) [] []),.bool false,.bool true]:=by
   rcases hk with hk | hk | hk | hk | hk | hk <;> exact ⟨_,by rw [hk]; rfl⟩
  obtain ⟨f,hx⟩:=hx
  rw [hA]
  simp only [hK,hx,go_sem]
  refine ay rfl ?_
  simp only [go_sem]
  by_cases hq:(s.nodes.length:Int)≤o.a
  ·rw [if_pos hq]
   have q1:decide (o.a≥(s.nodes.length:Int))=true:=by simpa using hq
   simp only [q1,go_sem]
   exact dQ [4,5] rfl (by simp [St.obj,aC]) (by simp [St.obj,aC,aV,St.get,aY,ah,ag,bK,LV.int,List.take_of_length_le])
  rw [if_neg hq]
  have q1:decide (o.a≥(s.nodes.length:Int))=false:=by simp; omega
  have q3:0≤o.a:=hka.1
  obtain ⟨i,hiq⟩:∃ i:Nat,o.a.toNat=i:=⟨_,rfl⟩
  have hil:i<s.nodes.length:=by omega
  have hia:o.a=i:=by omega
  have hN:dh s o.a=ec s i:=by unfold dh ec; rw [hiq]
  obtain ⟨f2,hx2,hT⟩:=Nc hp hk hil hia hN
  rw [hx2] at hx
  simp only [List.cons.injEq,LV.d.injEq,DV.fn.injEq,Fn.func.injEq,and_true] at hx
  obtain rfl:=hx
  simp only [q1,q3,hiq,hil,go_sem]
  refine ay rfl ?_
  simp only [go_sem]
  refine au [6,4,5] (hT) rfl ?_ (by decide) ?_ ?_ (by simp) ?_ <;> simp only [ag,ah,go_sem,bY]
  generalize bV c s o=p at *
  cases he:(p.2 !=0) with
  | true=>
    simp only [he,go_sem]
    refine jD (rC s (by omega) (by omega)) rfl rfl rfl ?_
    simp only [go_sem]
    have hs:p.1=s:=hE (by simpa using he)
    rw [hs]
    exact dQ [8,9] rfl (by simp [St.obj,aC]) (by simp [St.obj,aC,aV,St.get,aY,ah,ag,bK,LV.int,List.take_of_length_le])
  | false=>
    have QH:p.2=0:=by simpa using he
    simp only [he,go_sem]
    exact dQ [4,5] rfl (by simp [St.obj,aC]) (by simp [St.obj,aC,aV,St.get,aY,ah,ag,bK,LV.int,List.take_of_length_le,QH])
end Dv
