/- part -/
import Derived.Test.YtkalnfkokkjliaaGreatDoorD7
import Derived.Test.YtkalnfkokkjliaaGreatDoorPA
set_option linter.all false
set_option maxHeartbeats 1600000
set_option maxRecDepth 100000
namespace Dv
open Go Go.Proofs
variable {G:Nat→Option (List DV)}
def Xq:=qx Tryz.f219
theorem TM:aj Tryz.prog Tryz.f219=some Xq:=by kernel_rfl
def WY:=qx Tryz.f264
theorem Tn:aj Tryz.prog Tryz.f264=some WY:=by kernel_rfl
def Xo:=qx Tryz.f221
theorem TK:aj Tryz.prog Tryz.f221=some Xo:=by kernel_rfl
def X7:=qx Tryz.f148
theorem Ux:aj Tryz.prog Tryz.f148=some X7:=by kernel_rfl
def X6:=qx Tryz.f149
theorem Uw:aj Tryz.prog Tryz.f149=some X6:=by kernel_rfl
def X5:=qx Tryz.f150
theorem Uv:aj Tryz.prog Tryz.f150=some X5:=by kernel_rfl
def X8:=qx Tryz.f147
theorem Uy:aj Tryz.prog Tryz.f147=some X8:=by kernel_rfl
def XQ:=qx Tryz.f165
theorem Ug:aj Tryz.prog Tryz.f165=some XQ:=by kernel_rfl
def X_:=qx Tryz.f145
theorem UA:aj Tryz.prog Tryz.f145=some X_:=by kernel_rfl
@[reducible] def bV (c:aC) (s:aa) (o:cA) (jp np:LV):List aH:=
 [.box 133 [.int c.nodes,.int c.bH,.int c.cB,.int c.gF,.int c.bZ,.int c.eC,.int c.deadline,.int c.room,.int c.fP,
  .sl 1 s.nodes.length 5 0 s.nodes.length,.sl 2 s.jobs.length 12 0 s.jobs.length,.int s.goal,.int s.prior,.int s.mode,.int s.term,
  .int o.kind,.int o.a,.int o.b,.int o.c,.int o.d,.int o.e,.int o.f,jp,np],
  .dat 102 5 (s.nodes.map bY),.dat 119 12 (s.jobs.map dD)]
@[reducible] def gw:LV:=.d (.val (.pointer none))
theorem EL (ok:Bool) (e:Int):bw Tryz.prog G 264 [.bool ok,.int e] [] (.int (if ok=true then 0 else e)) []:=by
 refine br Tryz.func264 (by decide) Tn rfl rfl ?_
 simp only [WY,go_sem]
 cases ok <;> simp only [go_sem,Bool.false_eq_true]
theorem yO (c:aC) (s:aa) (o:cA) (ok:Bool) (to:Int):bw Tryz.prog G 221 [.ptr 0 0,.bool ok,.int to] (bV c s o gw gw) (.int (iy s ok to).2) (bV c (iy s ok to).1 o gw gw):=by
 refine aT Tryz.func221 (by decide) TK rfl rfl rfl rfl ?_
 simp only [Xo,go_sem]
 cases ok with
 | true=>
   simp only [go_sem]
   refine ay (EL true 5) rfl rfl rfl rfl ?_; simp only [go_sem]
   simp only [iy,go_sem]
 | false=>
   simp only [go_sem]
   refine ay (EL false 5) rfl rfl rfl rfl ?_; simp only [go_sem]
   simp only [iy,go_sem,Bool.false_eq_true]
theorem LI (c:aC) (s:aa) (o:cA):bw Tryz.prog G 148 [.ptr 0 0] (bV c s o gw gw) (.int (iy s (s.mode==0) 1).2) (bV c (iy s (s.mode==0) 1).1 o gw gw):=by
 refine aT Tryz.func148 (by decide) Ux rfl rfl rfl rfl ?_
 simp only [X7,go_sem]
 refine av [0,1,2] (yO c s o (s.mode==0) 1) rfl ?_ (by decide) ?_ ?_ (by simp) ?_ <;> simp only [ag,ah,go_sem,bV,List.length_range]
theorem Hz (c:aC) (s:aa) (o:cA):bw Tryz.prog G 149 [.ptr 0 0] (bV c s o gw gw) (.int (iy s (s.mode==1) 0).2) (bV c (iy s (s.mode==1) 0).1 o gw gw):=by
 refine aT Tryz.func149 (by decide) Uw rfl rfl rfl rfl ?_
 simp only [X6,go_sem]
 refine av [0,1,2] (yO c s o (s.mode==1) 0) rfl ?_ (by decide) ?_ ?_ (by simp) ?_ <;> simp only [ag,ah,go_sem,bV]
theorem Nq (c:aC) (s:aa) (o:cA):bw Tryz.prog G 150 [.ptr 0 0] (bV c s o gw gw) (.int (iy s (s.mode !=2) 2).2) (bV c (iy s (s.mode !=2) 2).1 o gw gw):=by
 refine aT Tryz.func150 (by decide) Uv rfl rfl rfl rfl ?_
 simp only [X5,go_sem]
 refine av [0,1,2] (yO c s o (s.mode !=2) 2) rfl ?_ (by decide) ?_ ?_ (by simp) ?_ <;> simp only [ag,ah,go_sem,bV]
theorem FA (c:aC) (s:aa) (o:cA) (ht:s.term≤1000000) (h0:0≤s.term):bw Tryz.prog G 165 [.ptr 0 0] (bV c s o gw gw) (.int (eu s).2) (bV c (eu s).1 o gw gw):=by
 refine aT Tryz.func165 (by decide) Ug rfl rfl rfl rfl ?_
 simp only [XQ,go_sem]
 have hw:IntKind.i64.wrap (s.term+1)=s.term+1:=aN (by omega) (by omega)
 refine bx (fun h=>?_) (fun h=>?_) <;> simp only [h,go_sem] <;> (try simp only [qqS] at h)
 ·simp only [eu,h,ge_iff_le,go_sem]
 ·simp only [eu,h,ge_iff_le,hw,go_sem]
theorem He (c:aC) (s:aa) (o:cA) (hn:s.nodes.length≤1000) (hj:s.jobs.length≤1000):bw Tryz.prog G 147 [.ptr 0 0] (bV c s o gw gw) (.int (kQ s o).2) (bV c (kQ s o).1 o gw gw):=by
 refine aT Tryz.func147 (by decide) Uy rfl rfl rfl rfl ?_
 simp only [X8,go_sem]
 refine ay (fe _ _ _) rfl rfl rfl rfl ?_; simp only [go_sem]
 cases h:bK o.a 1 9 with
 | false=>simp only [kQ,h,go_sem]
 | true=>
   simp only [go_sem]
   refine vn [1,2] (jN s) rfl (by simp [ag,ah,bG,aD,List.take_of_length_le,go_sem]) (by simp [aD]) rfl rfl ?_; simp only [go_sem]
   refine au rfl ?_
   simp only [kQ,h,go_sem,Bool.true_eq_false]
theorem Hh (c:aC) (s:aa) (o:cA) (h0:1≤c.bH∧c.bH≤1000) (hj:s.jobs.length≤1000):bw Tryz.prog G 145 [.ptr 0 0] (bV c s o gw gw) (.int (jV c s o).2) (bV c (jV c s o).1 o gw gw):=by
 refine aT Tryz.func145 (by decide) UA rfl rfl rfl rfl ?_
 simp only [X_,go_sem]
 refine bq (CT c (nB o) h0) rfl rfl rfl rfl ?_; simp only [go_sem]
 cases ha:mj c (nB o) with
 | false=>simp only [jV,ha,go_sem]
 | true=>
   simp only [go_sem]
   have hl:(s.jobs.length+1)*96≤70368744177664:=by omega
   refine bx (fun h=>?_) (fun h=>?_) <;> simp only [h,go_sem] <;> (try simp only [qqS] at h)
   ·simp only [jV,ha,h,ge_iff_le,go_sem,Bool.true_eq_false,show 24≤s.jobs.length by omega]
   ·have hh:¬ 24≤s.jobs.length:=by omega
    simp only [List.length_append,hl,go_sem]
    refine au rfl ?_
    simp only [jV,ha,hh,List.map_append,List.length_append,go_sem,Bool.true_eq_false]
    simp only [nB,go_sem]
def qy (c:aC) (s:aa) (o:cA) (jp np:LV) (number phase:Int) (k:Nat):St:=⟨[(0,.ptr 0 0),(1,.int number),(2,.int phase),(6,.rp 2 s.jobs.length 12 (number-1).toNat 0),(21,.int s.nodes.length),(22,.int k)],
 [some (.box 133 [.int c.nodes,.int c.bH,.int c.cB,.int c.gF,.int c.bZ,.int c.eC,.int c.deadline,.int c.room,.int c.fP,
  .sl 1 s.nodes.length 5 0 s.nodes.length,.sl 2 s.jobs.length 12 0 s.jobs.length,.int s.goal,.int s.prior,.int s.mode,.int s.term,
  .int o.kind,.int o.a,.int o.b,.int o.c,.int o.d,.int o.e,.int o.f,jp,np]),
  some (.dat 102 5 ((gZ (lets number) s.nodes k).map bY)),some (.dat 119 12 (s.jobs.map dD))]⟩
theorem j_ (c:aC) (s:aa) (o:cA) (jp np:LV) (number phase:Int) (hjp:eH 3 jp=true) (hnp:eH 3 np=true) (h1:1≤number) (h2:number≤s.jobs.length) (hn:s.nodes.length≤1000) (hj:s.jobs.length≤1000) :
  bw Tryz.prog G 219 [.ptr 0 0,.int number,.int phase] (bV c s o jp np) (.dJ []) (bV c (eo s number phase) o jp np):=by
 refine aT Tryz.func219 (by decide) TM rfl rfl (by simp [dZ,eH,eD,hjp,hnp,LV.int]) rfl ?_
 have hw:IntKind.i64.wrap (number-1)=number-1:=aN (by omega) (by omega)
 have h3:0≤number-1:=by omega
 have h4:(number-1).toNat<s.jobs.length:=by omega
 simp only [Xq,hw,h3,h4,go_sem]
 refine aW [0,1,2,6,21,22] [] (fun k:Nat=>k≤s.nodes.length) (fun k=>s.nodes.length-k) (qy c s o jp np number phase) 0 ?_ (Nat.zero_le _) (fun k hk=>?_)
 ·simp only [qy,go_sem,yJ,Int.natCast_zero]
 simp only [qy,go_sem]
 refine bx (fun h=>?_) (fun h=>?_)
 ·have h:=eN h
  have hg:((gZ (lets number) s.nodes k).map bY)[k]? = some (bY s.nodes[k]):=by rw [List.getElem?_map,EJ _ _ h]; rfl
  simp only [h,hg,ou,go_sem]
  refine bx (fun hq=>?_) (fun hq=>?_) <;> simp only [hq,go_sem] <;> (try simp only [qqS] at hq)
  ·have hs:((gZ (lets number) s.nodes k).map bY).set k (bY { s.nodes[k] with aQ:=0 })=(gZ (lets number) s.nodes (k+1)).map bY:=by
    rw [← List.map_set,vD _ _ h (by simp only [lets,hq,if_true])]
   simp only [bY] at hs
   simp only [h,hg,ou,go_sem]
   refine a_ (k+1) ?_ ?_ (by omega) (by omega)
   ·simp only [go_sem,hjp,hnp]
   ·simp only [qy,go_sem,aG (show k<9223372036854775807 by omega),hs]
  ·have hs:=yK (lets number) s.nodes h (by simp only [lets,hq,if_false])
   refine a_ (k+1) ?_ ?_ (by omega) (by omega)
   ·simp only [go_sem,hjp,hnp]
   ·simp only [qy,go_sem,aG (show k<9223372036854775807 by omega),hs]
 ·obtain rfl:=eP h hk
  have hg2:=aJ (f:=dD) az h4
  simp only [hg2,yL,go_sem]
  simp only [List.getElem?_set_self,h4,List.set_set,List.length_set,go_sem]
  simp only [eo,eA,List.map_set,List.length_set,List.length_mapIdx,go_sem]
end Dv
namespace Dv
open Go Go.Proofs
variable {G:Nat→Option (List DV)}
def Xn:=qx Tryz.f222
theorem TJ:aj Tryz.prog Tryz.f222=some Xn:=by kernel_rfl
def XV:=qx Tryz.f160
theorem Ul:aj Tryz.prog Tryz.f160=some XV:=by kernel_rfl
def XU:=qx Tryz.f161
theorem Uk:aj Tryz.prog Tryz.f161=some XU:=by kernel_rfl
def XT:=qx Tryz.f162
theorem Uj:aj Tryz.prog Tryz.f162=some XT:=by kernel_rfl
def XS:=qx Tryz.f163
theorem Ui:aj Tryz.prog Tryz.f163=some XS:=by kernel_rfl
def X3:=qx Tryz.f152
theorem Ut:aj Tryz.prog Tryz.f152=some X3:=by kernel_rfl
def X4:=qx Tryz.f151
theorem Uu:aj Tryz.prog Tryz.f151=some X4:=by kernel_rfl
def Xm:=qx Tryz.f223
theorem TI:aj Tryz.prog Tryz.f223=some Xm:=by kernel_rfl
def X9:=qx Tryz.f146
theorem Uz:aj Tryz.prog Tryz.f146=some X9:=by kernel_rfl
def X1:=qx Tryz.f154
theorem Ur:aj Tryz.prog Tryz.f154=some X1:=by kernel_rfl
def X0:=qx Tryz.f155
theorem Uq:aj Tryz.prog Tryz.f155=some X0:=by kernel_rfl
def XZ:=qx Tryz.f156
theorem Up:aj Tryz.prog Tryz.f156=some XZ:=by kernel_rfl
def XY:=qx Tryz.f157
theorem Uo:aj Tryz.prog Tryz.f157=some XY:=by kernel_rfl
def XX:=qx Tryz.f158
theorem Un:aj Tryz.prog Tryz.f158=some XX:=by kernel_rfl
def XW:=qx Tryz.f159
theorem Um:aj Tryz.prog Tryz.f159=some XW:=by kernel_rfl
def wA (s:aa) (j:bP) (nodes:Int) (f:Nat) (kv:Nat×Int):St:=⟨[(2,.int nodes),(3,.fn (.func f) [] []),(9,.int kv.2),(36,bO s.nodes),(37,.int s.nodes.length),(38,.int kv.1)],[some (.box 30 [bO s.nodes,cO s.jobs,.int s.goal,.int s.prior,.int s.mode,.int s.term]),some (.box 119 [.int j.queue,.int j.prio,.int j.min,.int j.max,.int j.work,.int j.pin,.int j.phase,.int j.inc,.int j.nodes,.int j.since,.int j.til,.int j.epoch])]⟩
theorem ME (s:aa) (j:bP) (nodes:Int) (f:Nat) (takes:bp→Bool) (hn:s.nodes.length≤6) (hT:∀ n,bw Tryz.prog G f [zK n] [] (.bool (takes n)) []) :
  bw Tryz.prog G 196 [aY s,DQ j,.int nodes,.fn (.func f) [] []] [] (.bool (mQ s.nodes j nodes takes)) []:=by
 refine br Tryz.func196 (by decide) Ki rfl rfl ?_
 have hp:(2:Int) ^ s.nodes.length≤64∧1≤(2:Int) ^ s.nodes.length:=by
  have:s.nodes.length=0∨s.nodes.length=1∨s.nodes.length=2∨s.nodes.length=3∨s.nodes.length=4∨s.nodes.length=5∨s.nodes.length=6:=by omega
  rcases this with h | h | h | h | h | h | h <;> rw [h] <;> decide
 have hw:=tZ s.nodes.length hn
 simp only [PA,go_sem,hw]
 unfold mQ
 have none:∀ {x y:Prop} [Decidable x] [Decidable y] {b:Bool},x∨y→(if x∨y then false else b)=false:=fun h=>by rw [if_pos h]
 refine gX (fun h1=>?_) (fun h1=>?_) <;> simp only [h1,go_sem] <;> (try simp only [qqS] at h1)
 ·simp only [hw]
  refine gX (fun h2=>?_) (fun h2=>?_) <;> simp only [h2,go_sem] <;> (try simp only [qqS] at h2)
  ·obtain ⟨m,rfl⟩:=Int.eq_ofNat_of_zero_le (show 0≤nodes by omega)
   have hm:m<64:=by omega
   have Yu:IntKind.u64.wrap (m:Int)=m:=by simp [IntKind.wrap,IntKind.bits,IntKind.signed]; omega
   rw [if_neg (by omega)]
   simp only [Yu]
   refine bq (ux m hm) rfl rfl rfl rfl ?_; simp only [go_sem]
   refine bq (fe _ _ _) rfl rfl rfl rfl ?_; simp only [go_sem]
   cases hb:bK (many m) j.min j.max with
   | false=>simp only [go_sem]
   | true=>
     simp only [go_sem]
     generalize Vg:ew m takes s.nodes 0 j.pin=r
     refine aW [2,3,9,36,37,38] [] (fun kv:Nat×Int=>kv.1≤s.nodes.length∧ew m takes (s.nodes.drop kv.1) kv.1 kv.2=r) (fun kv=>s.nodes.length-kv.1) (wA s j m f) (0,j.pin) ?_ ⟨Nat.zero_le _,Vg⟩ ?_
     ·simp only [wA,go_sem,Int.natCast_zero]
     rintro ⟨k,v⟩ ⟨hk,hF⟩
     dsimp only at hk hF
     simp only [wA,go_sem]
     refine bx (fun h=>?_) (fun h=>?_)
     ·have h:=eN h
      rw [List.drop_eq_getElem_cons h] at hF
      unfold ew at hF
      simp only [get_map h,go_sem,KO (m:Int) k (by omega)]
      have go:∀ v',ew m takes (s.nodes.drop (k+1)) (k+1) v'=r→(k+1,v').1≤s.nodes.length∧ew m takes (s.nodes.drop (k+1,v').1) (k+1,v').1 (k+1,v').2=r:=fun v' h'=>⟨h,h'⟩
      cases hb1:hasB (m:Int) k with
      | false=>
        rw [if_pos hb1] at hF
        simp only [go_sem]
        refine a_ (k+1,v) ?_ ?_ (go _ hF) (by dsimp only; omega)
        ·simp only [go_sem]
        ·simp only [wA,go_sem,aG (show k<9223372036854775807 by omega)]
      | true=>
        rw [if_neg (by simp [hb1])] at hF
        simp only [go_sem]
        refine bx (fun hv=>?_) (fun hv=>?_) <;> simp only [hv,go_sem] <;> (try simp only [qqS] at hv)
        ·rw [if_pos hv] at hF
         refine ay (hT s.nodes[k]) rfl rfl rfl rfl ?_; simp only [go_sem]
         cases ht:takes s.nodes[k] with
         | false=>
           rw [if_neg (by simp [ht])] at hF
           simp only [go_sem,← hF]
         | true=>
           by_cases hq:s.nodes[k].version=s.nodes[k].version
           ·rw [if_pos ⟨ht,hq⟩] at hF
            have hq1:(s.nodes[k].version !=s.nodes[k].version)=false:=by simp [← hq]
            simp only [go_sem,hq1]
            refine a_ (k+1,s.nodes[k].version) ?_ ?_ (go _ hF) (by dsimp only; omega)
            ·simp only [go_sem]
            ·simp only [wA,go_sem,aG (show k<9223372036854775807 by omega)]
           ·rw [if_neg (fun h'=>hq h'.2)] at hF
            have hq1:(s.nodes[k].version !=s.nodes[k].version)=true:=bne_iff_ne.2 hq
            simp only [go_sem,hq1,← hF]
        ·rw [if_neg hv] at hF
         refine ay (hT s.nodes[k]) rfl rfl rfl rfl ?_; simp only [go_sem]
         cases ht:takes s.nodes[k] with
         | false=>
           rw [if_neg (by simp [ht])] at hF
           simp only [go_sem,← hF]
         | true=>
           by_cases hq:s.nodes[k].version=v
           ·rw [if_pos ⟨ht,hq⟩] at hF
            have hq1:(s.nodes[k].version !=v)=false:=by simp [← hq]
            simp only [go_sem,hq1]
            refine a_ (k+1,v) ?_ ?_ (go _ hF) (by dsimp only; omega)
            ·simp only [go_sem]
            ·simp only [wA,go_sem,aG (show k<9223372036854775807 by omega)]
           ·rw [if_neg (fun h'=>hq h'.2)] at hF
            have hq1:(s.nodes[k].version !=v)=true:=bne_iff_ne.2 hq
            simp only [go_sem,hq1,← hF]
     ·obtain rfl:=eP h hk
      rw [List.drop_length] at hF
      simp only [go_sem,← hF,ew]
  ·rw [if_pos (.inr h2)]
 ·rw [if_pos (.inl h1)]
theorem Gh (n:bp):bw Tryz.prog G 222 [zK n] [] (.bool (me n)) []:=by
 refine br Tryz.func222 (by decide) TJ rfl rfl ?_
 simp only [Xn,go_sem]
 unfold me
 cases h1:n.up <;> cases h2:n.cL <;> cases h3:n.bC <;> simp only [h1,h2,h3,go_sem] <;> rfl
section
variable (c:aC) (s:aa) (o:cA) (i:Nat) (hi:i<s.nodes.length) (ha:o.a=i)
include hi ha
theorem Ja:bw Tryz.prog G 160 [.ptr 0 0] (bV c s o gw (.rp 1 s.nodes.length 5 i 0)) (.int (mT s o).2) (bV c (mT s o).1 o gw (.rp 1 s.nodes.length 5 i 0)):=by
 refine aT Tryz.func160 (by decide) Ul rfl rfl rfl rfl ?_
 simp only [XV,go_sem]
 have hg:=aJ (f:=bY) ai hi
 have ha2:o.a.toNat=i:=by omega
 have hN:cZ s o.a=s.nodes.getD i ai:=by unfold cZ; rw [ha2]
 generalize s.nodes.getD i ai=n at *
 cases hu:n.up <;> cases hc:n.cL <;> simp only [hg,hu,hc,go_sem] <;> simp only [mT,hu,hc,j8,hN,ha2,List.map_set,List.length_set,List.set_set,go_sem,Bool.true_eq_false,Bool.false_eq_true,ne_eq,not_true,not_false_eq_true,or_self]
theorem Db:bw Tryz.prog G 161 [.ptr 0 0] (bV c s o gw (.rp 1 s.nodes.length 5 i 0)) (.int (iR s o).2) (bV c (iR s o).1 o gw (.rp 1 s.nodes.length 5 i 0)):=by
 refine aT Tryz.func161 (by decide) Uk rfl rfl rfl rfl ?_
 simp only [XU,go_sem]
 have hg:=aJ (f:=bY) ai hi
 have ha2:o.a.toNat=i:=by omega
 have hN:cZ s o.a=s.nodes.getD i ai:=by unfold cZ; rw [ha2]
 generalize s.nodes.getD i ai=n at *
 cases hu:n.bC <;> cases hc:n.cL <;> simp only [hg,hu,hc,go_sem] <;> simp only [iR,hu,hc,j8,hN,ha2,List.map_set,List.length_set,List.set_set,go_sem,Bool.true_eq_false,Bool.false_eq_true,ne_eq,not_true,not_false_eq_true,or_self]
theorem O0:bw Tryz.prog G 162 [.ptr 0 0] (bV c s o gw (.rp 1 s.nodes.length 5 i 0)) (.int (xl s o).2) (bV c (xl s o).1 o gw (.rp 1 s.nodes.length 5 i 0)):=by
 refine aT Tryz.func162 (by decide) Uj rfl rfl rfl rfl ?_
 simp only [XT,go_sem]
 have hg:=aJ (f:=bY) ai hi
 have ha2:o.a.toNat=i:=by omega
 have hN:cZ s o.a=s.nodes.getD i ai:=by unfold cZ; rw [ha2]
 generalize s.nodes.getD i ai=n at *
 cases hu:n.up <;> cases hc:n.cL <;> cases hm:n.bC <;> cases hj:(n.aQ !=0) <;> simp only [hg,hu,hc,hm,hj,go_sem] <;> (simp only [qqS] at hj) <;> simp only [xl,hu,hc,hm,hj,j8,hN,ha2,List.map_set,List.length_set,List.set_set,go_sem,Bool.true_eq_false,Bool.false_eq_true,ne_eq,not_true,not_false_eq_true,or_self]
theorem LR:bw Tryz.prog G 163 [.ptr 0 0] (bV c s o gw (.rp 1 s.nodes.length 5 i 0)) (.int (nC s o).2) (bV c (nC s o).1 o gw (.rp 1 s.nodes.length 5 i 0)):=by
 refine aT Tryz.func163 (by decide) Ui rfl rfl rfl rfl ?_
 simp only [XS,go_sem]
 have hg:=aJ (f:=bY) ai hi
 have ha2:o.a.toNat=i:=by omega
 have hN:cZ s o.a=s.nodes.getD i ai:=by unfold cZ; rw [ha2]
 generalize s.nodes.getD i ai=n at *
 refine ay (fe _ _ _) rfl rfl rfl rfl ?_; simp only [go_sem]
 cases hw:bK o.b 1 9 with
 | false=>simp only [hg,go_sem]; simp only [nC,hw,j8,hN,ha2,List.map_set,List.length_set,List.set_set,go_sem,Bool.true_eq_false,Bool.false_eq_true,ne_eq,not_true,not_false_eq_true,or_self]
 | true=>
   cases hm:n.bC with
   | false=>simp only [hg,hm,go_sem]; simp only [nC,hw,hm,j8,hN,ha2,List.map_set,List.length_set,List.set_set,go_sem,Bool.true_eq_false,Bool.false_eq_true,ne_eq,not_true,not_false_eq_true,or_self]
   | true=>
     simp only [hg,hm,hi,List.getElem?_set_self,List.length_set,go_sem]
     refine au rfl ?_
     simp only [nC,hw,hm,j8,hN,ha2,List.map_set,List.length_set,List.set_set,go_sem,Bool.true_eq_false,Bool.false_eq_true,ne_eq,not_true,not_false_eq_true,or_self]
theorem Y1:bw Tryz.prog G 152 [.ptr 0 0] (bV c s o gw (.rp 1 s.nodes.length 5 i 0)) (.int (Rr s o).2) (bV c (Rr s o).1 o gw (.rp 1 s.nodes.length 5 i 0)):=by
 refine aT Tryz.func152 (by decide) Ut rfl rfl rfl rfl ?_
 simp only [X3,go_sem]
 have hg:=aJ (f:=bY) ai hi
 have ha2:o.a.toNat=i:=by omega
 have hN:cZ s o.a=s.nodes.getD i ai:=by unfold cZ; rw [ha2]
 generalize s.nodes.getD i ai=n at *
 refine ay (fe _ _ _) rfl rfl rfl rfl ?_; simp only [go_sem]
 cases hw:bK o.b 1 9 with
 | false=>simp only [hg,go_sem]; simp only [Rr,hw,j8,hN,ha2,List.map_set,List.length_set,List.set_set,go_sem,Bool.true_eq_false,Bool.false_eq_true,ne_eq,not_true,not_false_eq_true,or_self]
 | true=>
   cases hm:n.up with
   | true=>simp only [hg,hm,go_sem]; simp only [Rr,hw,hm,j8,hN,ha2,List.map_set,List.length_set,List.set_set,go_sem,Bool.true_eq_false,Bool.false_eq_true,ne_eq,not_true,not_false_eq_true,or_self]
   | false=>
     simp only [hg,hm,hi,List.getElem?_set_self,List.length_set,go_sem]
     refine au rfl ?_
     simp only [Rr,hw,hm,j8,hN,ha2,List.map_set,List.length_set,List.set_set,go_sem,Bool.true_eq_false,Bool.false_eq_true,ne_eq,not_true,not_false_eq_true,or_self]
end
end Dv
namespace Dv
open Go Go.Proofs
variable {G:Nat→Option (List DV)}
theorem E6 (c:aC) (s:aa) (o:cA) (k:Nat) (hk:k<s.jobs.length) (ha:o.a=k+1):bw Tryz.prog G 223 [.ptr 0 0] (bV c s o (.rp 2 s.jobs.length 12 k 0) gw) (.bool (ue (eA s o.a))) (bV c s o (.rp 2 s.jobs.length 12 k 0) gw):=by
 refine aT Tryz.func223 (by decide) TI rfl rfl rfl rfl ?_
 simp only [Xm,go_sem]
 have hg:=aJ (f:=dD) az hk
 have ha2:(o.a-1).toNat=k:=by omega
 have hJ:eA s o.a=s.jobs.getD k az:=by unfold eA; rw [ha2]
 generalize s.jobs.getD k az=j at *
 simp only [hg,go_sem]
 refine dz (fun h=>?_) (fun h=>?_) <;> simp only [h,go_sem] <;> (try simp only [qqS] at h)
 ·have e1:(j.phase==2)=false:=by simpa using h
  simp only [hg,hJ,ue,h,e1,go_sem]
  rfl
 ·have e1:(j.phase==2)=true:=by simpa using h
  simp only [hJ,ue,h,e1,go_sem]
theorem Jk (c:aC) (s:aa) (o:cA) (k:Nat) (hk:k<s.jobs.length) (ha:o.a=k+1) (hn:s.nodes.length≤1000) (hj:s.jobs.length≤1000):bw Tryz.prog G 146 [.ptr 0 0] (bV c s o (.rp 2 s.jobs.length 12 k 0) gw) (.int (kX s o).2) (bV c (kX s o).1 o (.rp 2 s.jobs.length 12 k 0) gw):=by
 refine aT Tryz.func146 (by decide) Uz rfl rfl rfl rfl ?_
 simp only [X9,go_sem]
 have hg:=aJ (f:=dD) az hk
 have ha2:(o.a-1).toNat=k:=by omega
 have hJ:eA s o.a=s.jobs.getD k az:=by unfold eA; rw [ha2]
 generalize s.jobs.getD k az=j at *
 simp only [hg,go_sem]
 refine bx (fun h=>?_) (fun h=>?_) <;> simp only [h,go_sem] <;> (try simp only [qqS] at h)
 ·simp only [kX,h,gm,hJ,ha2,List.map_set,List.length_set,List.set_set,go_sem,Bool.true_eq_false,Bool.false_eq_true,ne_eq,not_true,not_false_eq_true,or_self]
 ·refine av [0,1,2] (j_ c s o (.rp 2 s.jobs.length 12 k 0) gw o.a 4 rfl rfl (by omega) (by omega) hn hj) rfl ?_ (by decide) ?_ ?_ (by simp) ?_ <;> simp only [ag,ah,go_sem,bV]
  simp only [kX,h,gm,hJ,ha2,List.map_set,List.length_set,List.set_set,go_sem,Bool.true_eq_false,Bool.false_eq_true,ne_eq,not_true,not_false_eq_true,or_self]
theorem G7 (c:aC) (s:aa) (o:cA) (k:Nat) (hk:k<s.jobs.length) (ha:o.a=k+1) (hn:s.nodes.length≤1000) (hj:s.jobs.length≤1000):bw Tryz.prog G 155 [.ptr 0 0] (bV c s o (.rp 2 s.jobs.length 12 k 0) gw) (.int (kP s o).2) (bV c (kP s o).1 o (.rp 2 s.jobs.length 12 k 0) gw):=by
 refine aT Tryz.func155 (by decide) Uq rfl rfl rfl rfl ?_
 simp only [X0,go_sem]
 have hg:=aJ (f:=dD) az hk
 have ha2:(o.a-1).toNat=k:=by omega
 have hJ:eA s o.a=s.jobs.getD k az:=by unfold eA; rw [ha2]
 generalize s.jobs.getD k az=j at *
 simp only [hg,go_sem]
 refine bx (fun h=>?_) (fun h=>?_) <;> simp only [h,go_sem] <;> (try simp only [qqS] at h)
 ·simp only [kP,h,gm,hJ,ha2,List.map_set,List.length_set,List.set_set,go_sem,Bool.true_eq_false,Bool.false_eq_true,ne_eq,not_true,not_false_eq_true,or_self]
 ·refine av [0,1,2] (j_ c s o (.rp 2 s.jobs.length 12 k 0) gw o.a 0 rfl rfl (by omega) (by omega) hn hj) rfl ?_ (by decide) ?_ ?_ (by simp) ?_ <;> simp only [ag,ah,go_sem,bV]
  simp only [kP,h,gm,hJ,ha2,List.map_set,List.length_set,List.set_set,go_sem,Bool.true_eq_false,Bool.false_eq_true,ne_eq,not_true,not_false_eq_true,or_self]
theorem MK (c:aC) (s:aa) (o:cA) (k:Nat) (hk:k<s.jobs.length) (ha:o.a=k+1) (hn:s.nodes.length≤1000) (hj:s.jobs.length≤1000):bw Tryz.prog G 158 [.ptr 0 0] (bV c s o (.rp 2 s.jobs.length 12 k 0) gw) (.int (oV s o).2) (bV c (oV s o).1 o (.rp 2 s.jobs.length 12 k 0) gw):=by
 refine aT Tryz.func158 (by decide) Un rfl rfl rfl rfl ?_
 simp only [XX,go_sem]
 have hg:=aJ (f:=dD) az hk
 have ha2:(o.a-1).toNat=k:=by omega
 have hJ:eA s o.a=s.jobs.getD k az:=by unfold eA; rw [ha2]
 generalize s.jobs.getD k az=j at *
 simp only [hg,go_sem]
 refine bx (fun h=>?_) (fun h=>?_) <;> simp only [h,go_sem] <;> (try simp only [qqS] at h)
 ·simp only [oV,h,gm,hJ,ha2,List.map_set,List.length_set,List.set_set,go_sem,Bool.true_eq_false,Bool.false_eq_true,ne_eq,not_true,not_false_eq_true,or_self]
 ·refine av [0,1,2] (j_ c s o (.rp 2 s.jobs.length 12 k 0) gw o.a 0 rfl rfl (by omega) (by omega) hn hj) rfl ?_ (by decide) ?_ ?_ (by simp) ?_ <;> simp only [ag,ah,go_sem,bV]
  simp only [oV,h,gm,hJ,ha2,List.map_set,List.length_set,List.set_set,go_sem,Bool.true_eq_false,Bool.false_eq_true,ne_eq,not_true,not_false_eq_true,or_self]
theorem MR (c:aC) (s:aa) (o:cA) (k:Nat) (hk:k<s.jobs.length) (ha:o.a=k+1) (hn:s.nodes.length≤1000) (hj:s.jobs.length≤1000):bw Tryz.prog G 159 [.ptr 0 0] (bV c s o (.rp 2 s.jobs.length 12 k 0) gw) (.int (u7 s o).2) (bV c (u7 s o).1 o (.rp 2 s.jobs.length 12 k 0) gw):=by
 refine aT Tryz.func159 (by decide) Um rfl rfl rfl rfl ?_
 simp only [XW,go_sem]
 have hg:=aJ (f:=dD) az hk
 have ha2:(o.a-1).toNat=k:=by omega
 have hJ:eA s o.a=s.jobs.getD k az:=by unfold eA; rw [ha2]
 generalize s.jobs.getD k az=j at *
 refine av [0,1,2] (E6 c s o k hk ha) rfl ?_ (by decide) ?_ ?_ (by simp) ?_ <;> simp only [ag,ah,go_sem,bV]
 simp only [hJ]
 cases h:ue j with
 | false=>simp only [go_sem]; simp only [u7,h,gm,hJ,ha2,List.map_set,List.length_set,List.set_set,go_sem,Bool.true_eq_false,Bool.false_eq_true,ne_eq,not_true,not_false_eq_true,or_self]
 | true=>
   simp only [go_sem]
   refine av [0,1,2] (j_ c s o (.rp 2 s.jobs.length 12 k 0) gw o.a 4 rfl rfl (by omega) (by omega) hn hj) rfl ?_ (by decide) ?_ ?_ (by simp) ?_ <;> simp only [ag,ah,go_sem,bV]
   simp only [u7,h,gm,hJ,ha2,List.map_set,List.length_set,List.set_set,go_sem,Bool.true_eq_false,Bool.false_eq_true,ne_eq,not_true,not_false_eq_true,or_self]
theorem Lj (c:aC) (s:aa) (o:cA) (k:Nat) (hk:k<s.jobs.length) (ha:o.a=k+1):bw Tryz.prog G 154 [.ptr 0 0] (bV c s o (.rp 2 s.jobs.length 12 k 0) gw) (.int (oz s o).2) (bV c (oz s o).1 o (.rp 2 s.jobs.length 12 k 0) gw):=by
 refine aT Tryz.func154 (by decide) Ur rfl rfl rfl rfl ?_
 simp only [X1,go_sem]
 have hg:=aJ (f:=dD) az hk
 have ha2:(o.a-1).toNat=k:=by omega
 have hJ:eA s o.a=s.jobs.getD k az:=by unfold eA; rw [ha2]
 generalize s.jobs.getD k az=j at *
 simp only [hg,go_sem]
 refine bx (fun h=>?_) (fun h=>?_) <;> simp only [h,go_sem] <;> (try simp only [qqS] at h)
 ·simp only [oz,h,gm,hJ,ha2,List.map_set,List.length_set,List.set_set,go_sem,Bool.true_eq_false,Bool.false_eq_true,ne_eq,not_true,not_false_eq_true,or_self]
 ·simp only [hg,hk,List.getElem?_set_self,List.length_set,go_sem]
  refine au rfl ?_
  simp only [oz,h,gm,hJ,ha2,List.map_set,List.length_set,List.set_set,go_sem,Bool.true_eq_false,Bool.false_eq_true,ne_eq,not_true,not_false_eq_true,or_self]
theorem Ls (c:aC) (s:aa) (o:cA) (k:Nat) (hk:k<s.jobs.length) (ha:o.a=k+1):bw Tryz.prog G 157 [.ptr 0 0] (bV c s o (.rp 2 s.jobs.length 12 k 0) gw) (.int (ku s o).2) (bV c (ku s o).1 o (.rp 2 s.jobs.length 12 k 0) gw):=by
 refine aT Tryz.func157 (by decide) Uo rfl rfl rfl rfl ?_
 simp only [XY,go_sem]
 have hg:=aJ (f:=dD) az hk
 have ha2:(o.a-1).toNat=k:=by omega
 have hJ:eA s o.a=s.jobs.getD k az:=by unfold eA; rw [ha2]
 generalize s.jobs.getD k az=j at *
 refine av [0,1,2] (E6 c s o k hk ha) rfl ?_ (by decide) ?_ ?_ (by simp) ?_ <;> simp only [ag,ah,go_sem,bV]
 simp only [hJ]
 cases h:ue j with
 | false=>simp only [go_sem]; simp only [ku,h,gm,hJ,ha2,List.map_set,List.length_set,List.set_set,go_sem,Bool.true_eq_false,Bool.false_eq_true,ne_eq,not_true,not_false_eq_true,or_self]
 | true=>
   simp only [hg,go_sem]
   refine gX (fun h1=>?_) (fun h1=>?_) <;> simp only [h1,go_sem] <;> (try simp only [qqS] at h1)
   ·simp only [hg,go_sem]
    rw [h1]
    refine bx (fun h2=>?_) (fun h2=>?_) <;> simp only [h2,go_sem] <;> (try simp only [qqS] at h2)
    ·simp only [ku,h,h1,h2,gm,hJ,ha2,List.map_set,List.length_set,List.set_set,go_sem,Bool.true_eq_false,Bool.false_eq_true,ne_eq,not_true,not_false_eq_true,or_self]
    ·simp only [hg,go_sem]
     refine au rfl ?_
     simp only [ku,h,h1,h2,gm,hJ,ha2,List.map_set,List.length_set,List.set_set,go_sem,Bool.true_eq_false,Bool.false_eq_true,ne_eq,not_true,not_false_eq_true,or_self]
   ·simp only [ku,h,h1,gm,hJ,ha2,List.map_set,List.length_set,List.set_set,go_sem,Bool.true_eq_false,Bool.false_eq_true,ne_eq,not_true,not_false_eq_true,or_self]
theorem I9 (c:aC) (s:aa) (o:cA) (k:Nat) (hk:k<s.jobs.length) (ha:o.a=k+1) (hj:s.jobs.length≤1000):bw Tryz.prog G 156 [.ptr 0 0] (bV c s o (.rp 2 s.jobs.length 12 k 0) gw) (.int (nG c s o).2) (bV c (nG c s o).1 o (.rp 2 s.jobs.length 12 k 0) gw):=by
 refine aT Tryz.func156 (by decide) Up rfl rfl rfl rfl ?_
 simp only [XZ,go_sem]
 have hg:=aJ (f:=dD) az hk
 have ha2:(o.a-1).toNat=k:=by omega
 have hJ:eA s o.a=s.jobs.getD k az:=by unfold eA; rw [ha2]
 generalize s.jobs.getD k az=j at *
 simp only [hg,go_sem]
 refine bx (fun h=>?_) (fun h=>?_) <;> simp only [h,go_sem] <;> (try simp only [qqS] at h)
 ·simp only [nG,h,gm,hJ,ha2,List.map_set,List.length_set,List.set_set,go_sem,Bool.true_eq_false,Bool.false_eq_true,ne_eq,not_true,not_false_eq_true,or_self]
 ·simp only [hg,go_sem]
  refine vn [1,2] (tC s j.queue (by omega)) rfl (by simp [ag,ah,bG,aD,List.take_of_length_le,go_sem]) (by simp [aD]) rfl rfl ?_; simp only [go_sem]
  refine bx (fun h2=>?_) (fun h2=>?_) <;> simp only [h2,go_sem] <;> (try simp only [qqS] at h2)
  ·simp only [nG,h,h2,ge_iff_le,gm,hJ,ha2,List.map_set,List.length_set,List.set_set,go_sem,Bool.true_eq_false,Bool.false_eq_true,ne_eq,not_true,not_false_eq_true,or_self]
  ·simp only [hg,hk,List.getElem?_set_self,List.length_set,go_sem]
   refine au rfl ?_
   simp only [nG,h,h2,ge_iff_le,gm,hJ,ha2,List.map_set,List.length_set,List.set_set,go_sem,Bool.true_eq_false,Bool.false_eq_true,ne_eq,not_true,not_false_eq_true,or_self]
theorem QW (c:aC) (s:aa) (o:cA) (i:Nat) (hi:i<s.nodes.length) (ha:o.a=i) (hn:s.nodes.length≤1000) (hj:s.jobs.length≤1000) (hb:0≤(cZ s o.a).aQ∧(cZ s o.a).aQ≤s.jobs.length) :
  bw Tryz.prog G 151 [.ptr 0 0] (bV c s o gw (.rp 1 s.nodes.length 5 i 0)) (.int (sK s o).2) (bV c (sK s o).1 o gw (.rp 1 s.nodes.length 5 i 0)):=by
 refine aT Tryz.func151 (by decide) Uu rfl rfl rfl rfl ?_
 simp only [X4,go_sem]
 have hg:=aJ (f:=bY) ai hi
 have ha2:o.a.toNat=i:=by omega
 have hN:cZ s o.a=s.nodes.getD i ai:=by unfold cZ; rw [ha2]
 generalize s.nodes.getD i ai=n at *
 rw [hN] at hb
 cases hu:n.up with
 | false=>simp only [hg,hu,go_sem]; simp only [sK,hu,j8,hN,ha2,List.map_set,List.length_set,List.set_set,go_sem,Bool.true_eq_false,Bool.false_eq_true,ne_eq,not_true,not_false_eq_true,or_self]
 | true=>
   simp only [hg,hu,go_sem]
   refine bx (fun h=>?_) (fun h=>?_) <;> simp only [h,go_sem] <;> (try simp only [qqS] at h)
   ·simp only [hg,go_sem]
    refine av [0,1,2] (j_ c s o gw (.rp 1 s.nodes.length 5 i 0) n.aQ 0 rfl rfl (by omega) (by omega) hn hj) rfl ?_ (by decide) ?_ ?_ (by simp) ?_ <;> simp only [ag,ah,go_sem,bV]
    have hg2:((eo s n.aQ 0).nodes.map bY)[i]? = some (bY (cZ (eo s n.aQ 0) o.a)):=by
     unfold cZ; rw [ha2]; exact aJ ai (by simp [eo]; exact hi)
    have hl:(eo s n.aQ 0).nodes.length=s.nodes.length:=by simp [eo]
    have hi2:i<(eo s n.aQ 0).nodes.length:=by omega
    generalize hm:cZ (eo s n.aQ 0) o.a=m at *
    simp only [hg2,hl,hi,List.getElem?_set_self,List.length_set,go_sem]
    refine au rfl ?_
    simp only [sK,hu,h,hm,hl,j8,hN,ha2,List.map_set,List.length_set,List.set_set,go_sem,Bool.true_eq_false,Bool.false_eq_true,ne_eq,not_true,not_false_eq_true,or_self]
   ·simp only [hg,hi,List.getElem?_set_self,List.length_set,go_sem]
    refine au rfl ?_
    simp only [sK,hu,h,j8,hN,ha2,List.map_set,List.length_set,List.set_set,go_sem,Bool.true_eq_false,Bool.false_eq_true,ne_eq,not_true,not_false_eq_true,or_self]
end Dv
namespace Dv
open Go Go.Proofs
variable {G:Nat→Option (List DV)}
def X2:=qx Tryz.f153
theorem Us:aj Tryz.prog Tryz.f153=some X2:=by kernel_rfl
def XR:Nat×C×List RV:=(92,
(.seq (.iJ [qo 2 (.mv (qk 0))])
 (.seq (.block 0 (.seq (.jA [qm 4 0,
 qd 5 (.kT (.t 4)) [0],
 qd 6 (.eO 15 (.t 5)) [1,0],
 qd 7 (.eO 2 (.t 6)) [2,1,0],
 qd 8 (.ld1 (.t 7)) [3,2,1,0],
 qm 9 0,
 qd 10 (.kT (.t 9)) [5],
 qd 11 (.eO 9 (.t 10)) [6,5],
 qd 12 (.eO 0 (.t 11)) [7,6,5],
 qd 13 (.ld1 (.t 12)) [8,7,6,5],
 qd 14 (.len (.t 13)) [9,8,7,6,5],
 qd 15 (.bin .geq (.t 8) (.t 14)) [4,3,2,1,0,10,9,8,7,6,5],
 qd 3 (.mv (.t 15)) [11,4,3,2,1,0,10,9,8,7,6,5]])
 (.cond (.t 3) (.seq (.iJ [qo 2 (.mv (qk 4))])
 .ret)
 (.seq (.iJ [qm 17 0,
 qo 18 (.kT (.t 17)),
 qo 19 (.eO 22 (.t 18)),
 qo 20 (.ld1 (.t 19)),
 qo 21 (.kT (.t 20)),
 qo 22 (.eO 6 (.t 21)),
 qo 23 (.ld1 (.t 22)),
 qo 24 (.bin .neq (.t 23) (qk 2)),
 qm 16 24])
 (.cond (.t 16) (.seq (.iJ [qo 2 (.mv (qk 5))])
 .ret)
 (.seq (.jA [qm 26 0,
 qd 27 (.kT (.t 26)) [0],
 qd 28 (.eO 9 (.t 27)) [1,0],
 qd 29 (.eO 0 (.t 28)) [2,1,0],
 qd 30 (.ld1 (.t 29)) [3,2,1,0],
 qm 31 0,
 qd 32 (.kT (.t 31)) [5],
 qd 33 (.eO 15 (.t 32)) [6,5],
 qd 34 (.eO 2 (.t 33)) [7,6,5],
 qd 35 (.ld1 (.t 34)) [8,7,6,5],
 qd 36 (.A3 5 (.t 30) (.t 35)) [4,3,2,1,0,9,8,7,6,5],
 qd 37 (.eO 4 (.t 36)) [10,4,3,2,1,0,9,8,7,6,5],
 qd 38 (.ld1 (.t 37)) [11,10,4,3,2,1,0,9,8,7,6,5],
 qm 39 0,
 qd 40 (.kT (.t 39)) [13],
 qd 41 (.eO 15 (.t 40)) [14,13],
 qd 42 (.eO 1 (.t 41)) [15,14,13],
 qd 43 (.ld1 (.t 42)) [16,15,14,13],
 qd 44 (.bin .neq (.t 38) (.t 43)) [12,11,10,4,3,2,1,0,9,8,7,6,5,17,16,15,14,13],
 qd 45 (.mv (.t 44)) [18,12,11,10,4,3,2,1,0,9,8,7,6,5,17,16,15,14,13],
 qe 46 (.mv (.t 0)) 45 false [19,18,12,11,10,4,3,2,1,0,9,8,7,6,5,17,16,15,14,13],
 qe 47 (.kT (.t 46)) 45 false [20,19,18,12,11,10,4,3,2,1,0,9,8,7,6,5,17,16,15,14,13],
 qe 48 (.eO 22 (.t 47)) 45 false [21,20,19,18,12,11,10,4,3,2,1,0,9,8,7,6,5,17,16,15,14,13],
 qe 49 (.ld1 (.t 48)) 45 false [22,21,20,19,18,12,11,10,4,3,2,1,0,9,8,7,6,5,17,16,15,14,13],
 qe 50 (.kT (.t 49)) 45 false [23,22,21,20,19,18,12,11,10,4,3,2,1,0,9,8,7,6,5,17,16,15,14,13],
 qe 51 (.eO 8 (.t 50)) 45 false [24,23,22,21,20,19,18,12,11,10,4,3,2,1,0,9,8,7,6,5,17,16,15,14,13],
 qe 52 (.ld1 (.t 51)) 45 false [25,24,23,22,21,20,19,18,12,11,10,4,3,2,1,0,9,8,7,6,5,17,16,15,14,13],
 qe 53 (.cvt .u64 (.t 52)) 45 false [26,25,24,23,22,21,20,19,18,12,11,10,4,3,2,1,0,9,8,7,6,5,17,16,15,14,13],
 qe 54 (.call (.f 224) [(.t 53)]) 45 false [27,26,25,24,23,22,21,20,19,18,12,11,10,4,3,2,1,0,9,8,7,6,5,17,16,15,14,13],
 qe 55 (.mv (.t 0)) 45 false [19,18,12,11,10,4,3,2,1,0,9,8,7,6,5,17,16,15,14,13],
 qe 56 (.kT (.t 55)) 45 false [29,19,18,12,11,10,4,3,2,1,0,9,8,7,6,5,17,16,15,14,13],
 qe 57 (.eO 22 (.t 56)) 45 false [30,29,19,18,12,11,10,4,3,2,1,0,9,8,7,6,5,17,16,15,14,13],
 qe 58 (.ld1 (.t 57)) 45 false [31,30,29,19,18,12,11,10,4,3,2,1,0,9,8,7,6,5,17,16,15,14,13],
 qe 59 (.kT (.t 58)) 45 false [32,31,30,29,19,18,12,11,10,4,3,2,1,0,9,8,7,6,5,17,16,15,14,13],
 qe 60 (.eO 2 (.t 59)) 45 false [33,32,31,30,29,19,18,12,11,10,4,3,2,1,0,9,8,7,6,5,17,16,15,14,13],
 qe 61 (.ld1 (.t 60)) 45 false [34,33,32,31,30,29,19,18,12,11,10,4,3,2,1,0,9,8,7,6,5,17,16,15,14,13],
 qe 62 (.bin .leq (.t 54) (.t 61)) 45 false [28,27,26,25,24,23,22,21,20,19,18,12,11,10,4,3,2,1,0,9,8,7,6,5,17,16,15,14,13,35,34,33,32,31,30,29],
 qd 63 (.pick (.t 45) qt (.t 62)) [19,18,12,11,10,4,3,2,1,0,9,8,7,6,5,17,16,15,14,13,36,28,27,26,25,24,23,22,21,20,35,34,33,32,31,30,29],
 qd 25 (.mv (.t 63)) [37,19,18,12,11,10,4,3,2,1,0,9,8,7,6,5,17,16,15,14,13,36,28,27,26,25,24,23,22,21,20,35,34,33,32,31,30,29]])
 (.cond (.t 25) (.seq (.iJ [qo 2 (.mv (qk 8))])
 .ret)
 .skip)))))))
 (.seq (.jA [qm 64 0,
 qd 65 (.kT (.t 64)) [0],
 qd 66 (.eO 22 (.t 65)) [1,0],
 qd 67 (.ld1 (.t 66)) [2,1,0],
 qd 68 (.kT (.t 67)) [3,2,1,0],
 qd 69 (.eO 8 (.t 68)) [4,3,2,1,0],
 qd 70 (.ld1 (.t 69)) [5,4,3,2,1,0],
 qm 71 0,
 qd 72 (.kT (.t 71)) [7],
 qd 73 (.eO 15 (.t 72)) [8,7],
 qd 74 (.eO 2 (.t 73)) [9,8,7],
 qd 75 (.ld1 (.t 74)) [10,9,8,7],
 qd 76 (.bin .shl (qk 1) (.t 75)) [11,10,9,8,7],
 qd 77 (.bin .andNot (.t 70) (.t 76)) [6,5,4,3,2,1,0,12,11,10,9,8,7],
 qd 78 (.kT (.t 67)) [3,2,1,0,4,5,6,7,8,9,10,11,12,13],
 qd 79 (.eO 8 (.t 78)) [14,3,2,1,0,4,5,6,7,8,9,10,11,12,13],
 ql (.st 1 (.t 79) (.t 77)) [15,14,3,2,1,0,4,5,6,7,8,9,10,11,12,13]])
 (.seq (.jA [qm 80 0,
 qd 81 (.kT (.t 80)) [0],
 qd 82 (.eO 9 (.t 81)) [1,0],
 qd 83 (.eO 0 (.t 82)) [2,1,0],
 qd 84 (.ld1 (.t 83)) [3,2,1,0],
 qm 85 0,
 qd 86 (.kT (.t 85)) [5],
 qd 87 (.eO 15 (.t 86)) [6,5],
 qd 88 (.eO 2 (.t 87)) [7,6,5],
 qd 89 (.ld1 (.t 88)) [8,7,6,5],
 qd 90 (.A3 5 (.t 84) (.t 89)) [4,3,2,1,0,9,8,7,6,5],
 qd 91 (.eO 4 (.t 90)) [10,4,3,2,1,0,9,8,7,6,5],
 ql (.st 1 (.t 91) (qk 0)) [11,10,4,3,2,1,0,9,8,7,6,5]])
 (.seq (.iJ [qo 2 (.mv (qk 0))])
 .ret))))),
[(.t 2)])
theorem Uh:aj Tryz.prog Tryz.f164=some XR:=by kernel_rfl
def FZ (c:aC) (s:aa) (o:cA) (k0:Nat) (j':bP) (k:Nat):St:=⟨[(0,.ptr 0 0),(73,.int s.nodes.length),(74,.int k)],
 [some (.box 133 [.int c.nodes,.int c.bH,.int c.cB,.int c.gF,.int c.bZ,.int c.eC,.int c.deadline,.int c.room,.int c.fP,
  .sl 1 s.nodes.length 5 0 s.nodes.length,.sl 2 s.jobs.length 12 0 s.jobs.length,.int s.goal,.int s.prior,.int s.mode,.int s.term,
  .int o.kind,.int o.a,.int o.b,.int o.c,.int o.d,.int o.e,.int o.f,.rp 2 s.jobs.length 12 k0 0,gw]),
  some (.dat 102 5 ((gZ (gH o.b o.a) s.nodes k).map bY)),some (.dat 119 12 ((s.jobs.set k0 j').map dD))]⟩
theorem PW (c:aC) (s:aa) (o:cA) (k:Nat) (hk:k<s.jobs.length) (ha:o.a=k+1) (hn:s.nodes.length≤6) (hj:s.jobs.length≤1000) (adk:0≤(eA s o.a).inc) :
  bw Tryz.prog G 153 [.ptr 0 0] (bV c s o (.rp 2 s.jobs.length 12 k 0) gw) (.int (pM s o).2) (bV c (pM s o).1 o (.rp 2 s.jobs.length 12 k 0) gw):=by
 refine aT Tryz.func153 (by decide) Us rfl rfl rfl rfl ?_
 simp only [X2,go_sem]
 have hg:=aJ (f:=dD) az hk
 have ha2:(o.a-1).toNat=k:=by omega
 have hJ:eA s o.a=s.jobs.getD k az:=by unfold eA; rw [ha2]
 generalize s.jobs.getD k az=j at *
 rw [hJ] at adk
 simp only [hg,go_sem]
 refine bx (fun h=>?_) (fun h=>?_) <;> simp only [h,go_sem] <;> (try simp only [qqS] at h)
 ·simp only [pM,h,gm,hJ,ha2,List.map_set,List.length_set,List.set_set,go_sem,Bool.true_eq_false,Bool.false_eq_true,ne_eq,not_true,not_false_eq_true,or_self]
 ·simp only [hg,go_sem]
  refine vn [1,2] (ME s j o.b 222 me hn Gh) rfl (by simp [ag,ah,bG,aD,List.take_of_length_le,go_sem]) (by simp [aD]) rfl rfl ?_; simp only [go_sem]
  have fin:(mQ s.nodes j o.b me=false∨1000000≤j.inc)→pM s o=(s,8):=fun h'=>by
   simp only [pM,hJ,h,h',ne_eq,not_true,if_false,if_true]
  cases hf:mQ s.nodes j o.b me with
  | false=>
    simp only [go_sem,fin (.inl hf)]
  | true=>
    simp only [hg,go_sem]
    refine bx (fun hi=>?_) (fun hi=>?_) <;> simp only [hi,go_sem] <;> (try simp only [qqS] at hi)
    ·simp only [go_sem,fin (.inr hi)]
    ·have hw:IntKind.i64.wrap (j.inc+1)=j.inc+1:=aN (by omega) (by omega)
     have aan:pM s o=({ gm s o.a { j with phase:=1,inc:=j.inc+1,nodes:=o.b } with nodes:=s.nodes.mapIdx (gH o.b o.a) },0):=by
      unfold pM
      rw [hJ,if_neg (by simpa using h),if_neg (by simp [hf]; omega)]
     simp only [hg,hk,List.getElem?_set_self,List.length_set,List.set_set,go_sem]
     refine au rfl ?_
     simp only [hg,hk,hw,List.getElem?_set_self,List.length_set,List.set_set,go_sem]
     refine aW [0,73,74] [] (fun q:Nat=>q≤s.nodes.length) (fun q=>s.nodes.length-q) (FZ c s o k { j with phase:=1,inc:=j.inc+1,nodes:=o.b }) 0 ?_ (Nat.zero_le _) (fun q hq=>?_)
     ·simp only [FZ,yJ,Int.natCast_zero,gm,ha2,List.map_set,go_sem]
     simp only [FZ,gm,List.length_set,go_sem]
     refine bx (fun h=>?_) (fun h=>?_)
     ·have h:=eN h
      have hg2:((gZ (gH o.b o.a) s.nodes q).map bY)[q]? = some (bY s.nodes[q]):=by rw [List.getElem?_map,EJ _ _ h]; rfl
      simp only [Jq o.b q (by omega),go_sem]
      cases hb:hasB o.b q with
      | true=>
        have hs:((gZ (gH o.b o.a) s.nodes q).map bY).set q (bY { s.nodes[q] with aQ:=o.a })=(gZ (gH o.b o.a) s.nodes (q+1)).map bY:=by
         rw [← List.map_set,vD _ _ h (by simp only [gH,hb,if_true])]
        simp only [bY] at hs
        simp only [h,hg2,ou,go_sem]
        refine au rfl ?_
        simp only [go_sem]
        refine a_ (q+1) ?_ ?_ (by omega) (by omega)
        ·simp only [go_sem]
        ·simp only [FZ,gm,List.length_set,go_sem,aG (show q<9223372036854775807 by omega),hs]
      | false=>
        have hs:=yK (gH o.b o.a) s.nodes h (by simp only [gH,hb,Bool.false_eq_true,if_false])
        simp only [go_sem]
        refine a_ (q+1) ?_ ?_ (by omega) (by omega)
        ·simp only [go_sem]
        ·simp only [FZ,gm,List.length_set,go_sem,aG (show q<9223372036854775807 by omega),hs]
     ·obtain rfl:=eP h hq
      simp only [yL,aan,gm,ha2,List.length_mapIdx,List.length_set,go_sem]
theorem SA (m b:Nat) (hm:m<64) (hb:b<6):gz .i64 (m:Int) (2 ^ b)=mN m b:=by
 have:∀ m:Nat,m<64→∀ b:Nat,b<6→gz .i64 (m:Int) (2 ^ b)=mN m b:=by decide +kernel
 exact this m hm b hb
theorem Hr (c:aC) (s:aa) (o:cA) (k:Nat) (hk:k<s.jobs.length) (ha:o.a=k+1) (hn:s.nodes.length≤6) (hj:s.jobs.length≤1000) (hb0:0≤o.b) (hm:0≤(eA s o.a).nodes∧(eA s o.a).nodes<64) :
  bw Tryz.prog G 164 [.ptr 0 0] (bV c s o (.rp 2 s.jobs.length 12 k 0) gw) (.int (gP s o).2) (bV c (gP s o).1 o (.rp 2 s.jobs.length 12 k 0) gw):=by
 refine aT Tryz.func164 (by decide) Uh rfl rfl rfl rfl ?_
 simp only [XR,go_sem]
 have hg:=aJ (f:=dD) az hk
 have ha2:(o.a-1).toNat=k:=by omega
 have hJ:eA s o.a=s.jobs.getD k az:=by unfold eA; rw [ha2]
 generalize s.jobs.getD k az=j at *
 rw [hJ] at hm
 obtain ⟨m,YD⟩:=Int.eq_ofNat_of_zero_le hm.1
 have hmu:IntKind.u64.wrap (m:Int)=m:=by simp [IntKind.wrap,IntKind.bits,IntKind.signed]; omega
 obtain ⟨b,hb⟩:=Int.eq_ofNat_of_zero_le hb0
 rw [hb]
 refine bx (fun h1=>?_) (fun h1=>?_) <;> simp only [h1,go_sem] <;> (try simp only [qqS] at h1)
 ·simp only [gP,hb,h1,ge_iff_le,gm,hJ,ha2,List.map_set,List.length_set,List.set_set,go_sem,Bool.true_eq_false,Bool.false_eq_true,ne_eq,not_true,not_false_eq_true,or_self]
 ·have yB:b<s.nodes.length:=by omega
  simp only [hg,go_sem]
  refine bx (fun h2=>?_) (fun h2=>?_) <;> simp only [h2,go_sem] <;> (try simp only [qqS] at h2)
  ·simp only [gP,hb,h1,h2,ge_iff_le,gm,hJ,ha2,List.map_set,List.length_set,List.set_set,go_sem,Bool.true_eq_false,Bool.false_eq_true,ne_eq,not_true,not_false_eq_true,or_self]
  ·have tQ:=aJ (f:=bY) ai yB
   have hN:cZ s o.b=s.nodes.getD b ai:=by unfold cZ; rw [hb]; rfl
   have hN':cZ s (b:Int)=s.nodes.getD b ai:=rfl
   generalize s.nodes.getD b ai=n at *
   have yC:¬ ((s.nodes.length:Int)≤b):=by omega
   have fin:(n.aQ≠o.a∨many j.nodes≤j.min)→gP s o=(s,8):=fun h'=>by
    unfold gP
    rw [hb,if_neg yC,hJ,if_neg (by simpa using h2),hN',if_pos h']
   simp only [tQ,yB,go_sem]
   refine gX (fun h3=>?_) (fun h3=>?_) <;> simp only [h3,go_sem] <;> (try simp only [qqS] at h3)
   ·have ID:n.aQ=o.a:=h3
    simp only [hg,YD,hmu,go_sem]
    refine bq (ux m (by omega)) rfl rfl rfl rfl ?_; simp only [go_sem]
    simp only [hg,go_sem]
    refine bx (fun h4=>?_) (fun h4=>?_) <;> simp only [h4,go_sem] <;> (try simp only [qqS] at h4)
    ·simp only [go_sem,fin (.inr (by rw [YD]; exact h4)),hb]
    ·have aan:gP s o=(j8 (gm s o.a { j with nodes:=mN j.nodes o.b }) o.b { n with aQ:=0 },0):=by
      unfold gP
      rw [hb,if_neg yC,hJ,if_neg (by simpa using h2),hN',if_neg (by rw [YD]; simp [ID]; omega)]
     have hle:gz .i64 (m:Int) (Di .i64 1 b)=mN m b:=by rw [tZ b (by omega),SA m b (by omega) (by omega)]
     simp only [hg,YD,hle,go_sem]
     refine au rfl ?_
     simp only [tQ,yB,go_sem]
     refine au rfl ?_
     simp only [aan,j8,gm,YD,hb,ha2,List.map_set,List.length_set,go_sem]
   ·simp only [go_sem,fin (.inl h3),hb]
end Dv
namespace Dv
open Go Go.Proofs
variable {G:Nat→Option (List DV)}
def Yd:=qx Tryz.f141
theorem UE:aj Tryz.prog Tryz.f141=some Yd:=by kernel_rfl
def Yc:=qx Tryz.f142
theorem UD:aj Tryz.prog Tryz.f142=some Yc:=by kernel_rfl
def abe:=qx Tryz.f72
theorem Zy:aj Tryz.prog Tryz.f72=some abe:=by kernel_rfl
def abd:=qx Tryz.f74
theorem Zx:aj Tryz.prog Tryz.f74=some abd:=by kernel_rfl
def cE (o:cA):List Int:=[o.a,o.b,o.c,o.d,o.e,o.f]
def qI (m:Nat):List Int→Nat→Bool
 | [],_=>true
 | n::l,i=>pK n (decide (i<m))&&qI m l (i+1)
theorem uw (o:cA):eY o=(decide (1≤o.kind∧o.kind≤21)&&qI (ec o.kind) (cE o) 0):=by
 unfold eY cE
 simp only [qI,Bool.and_true,Bool.and_assoc]
def We:List Int:=[0,6,1,1,0,0,0,1,2,2,2,1,2,2,1,1,1,1,1,2,2,0]
def DM:List ByteArray:=[⟨#[]⟩,⟨#[115,117,98,109,105,116]⟩,⟨#[99,97,110,99,101,108]⟩,⟨#[116,97,114,103,101,116]⟩,⟨#[112,97,117,115,101]⟩,⟨#[114,101,115,117,109,101]⟩,⟨#[97,98,111,114,116]⟩,⟨#[100,111,119,110]⟩,⟨#[117,112]⟩,⟨#[104,111,108,100]⟩,⟨#[115,116,97,114,116]⟩,⟨#[117,110,104,111,108,100]⟩,⟨#[100,114,97,105,110]⟩,⟨#[115,97,118,101,100]⟩,⟨#[101,118,105,99,116]⟩,⟨#[100,111,110,101]⟩,⟨#[99,111,114,100,111,110]⟩,⟨#[117,110,99,111,114,100,111,110]⟩,⟨#[109,111,118,101]⟩,⟨#[109,111,118,101,100]⟩,⟨#[115,104,114,105,110,107]⟩,⟨#[110,101,119,116,101,114,109]⟩]
def Pb:List DV:=We.map i64
def zO:List DV:=DM.map fun s=>.val (.string s)
def dc:Nat→Option (List DV):=fun n=>if n=0 then some Pb else if n=1 then some zO else none
theorem tF:dc 0=some Pb:=rfl
theorem GD:dc 1=some zO:=rfl
theorem DO (k:Int) (h:1≤k∧k≤21):Pb[k.toNat]? = some (i64 (ec k:Nat)):=by
 have h:k=1∨k=2∨k=3∨k=4∨k=5∨k=6∨k=7∨k=8∨k=9∨k=10∨k=11∨k=12∨k=13∨k=14∨k=15∨k=16∨k=17∨k=18∨k=19∨k=20∨k=21:=by omega
 rcases h with h | h | h | h | h | h | h | h | h | h | h | h | h | h | h | h | h | h | h | h | h <;> subst h <;> rfl
def nameOf (k:Int):ByteArray:=if 1≤k∧k≤21 then DM.getD k.toNat ⟨#[]⟩ else ⟨#[]⟩
theorem Sx (k:Int) (h:0≤k∧k≤21):zO[k.toNat]? = some (.val (.string (nameOf k))):=by
 have h:k=0∨k=1∨k=2∨k=3∨k=4∨k=5∨k=6∨k=7∨k=8∨k=9∨k=10∨k=11∨k=12∨k=13∨k=14∨k=15∨k=16∨k=17∨k=18∨k=19∨k=20∨k=21:=by omega
 rcases h with h | h | h | h | h | h | h | h | h | h | h | h | h | h | h | h | h | h | h | h | h | h <;> subst h <;> rfl
theorem rO (k:Int) (h:¬ (1≤k∧k≤21)):nameOf k=⟨#[]⟩:=by unfold nameOf; rw [if_neg h]
theorem Cg (k:Int) (h:1≤k∧k≤21):((nameOf k).toList==(⟨#[]⟩:ByteArray).toList)=false:=by
 have h:k=1∨k=2∨k=3∨k=4∨k=5∨k=6∨k=7∨k=8∨k=9∨k=10∨k=11∨k=12∨k=13∨k=14∨k=15∨k=16∨k=17∨k=18∨k=19∨k=20∨k=21:=by omega
 rcases h with h | h | h | h | h | h | h | h | h | h | h | h | h | h | h | h | h | h | h | h | h <;> subst h <;> decide +kernel
theorem FF (k:Int):bw Tryz.prog dc 141 [.int k] [] (.d (.val (.string (nameOf k)))) []:=by
 refine br Tryz.func141 (by decide) UE rfl rfl ?_
 simp only [Yd,go_sem]
 refine dz (fun h1=>?_) (fun h1=>?_) <;> simp only [h1,go_sem] <;> (try simp only [qqS] at h1)
 ·refine bx (fun h2=>?_) (fun h2=>?_) <;> simp only [h2,go_sem] <;> (try simp only [qqS] at h2)
  ·rw [rO k (by omega)]
  ·have h3:0≤k:=by omega
   have h4:k.toNat<22:=by omega
   simp only [GD,h3,h4,Nat.mul_one,Sx k (by omega),go_sem]
 ·rw [rO k (by omega)]
theorem JO (o:cA):bw Tryz.prog G 142 [tO o] [] (.agg ((cE o).map LV.int)) []:=by
 refine br Tryz.func142 (by decide) UD rfl rfl ?_
 simp only [Yc,go_sem]
 simp only [cE,go_sem]
def OB (o:cA) (k:Nat):St:=⟨[(1,.ptr 0 0),(10,.agg ((cE o).map LV.int)),(11,.int k)],[some (.box 37 [.int o.kind,.int o.a,.int o.b,.int o.c,.int o.d,.int o.e,.int o.f])]⟩
theorem OR (n:Int) (k m:Nat):pK n (decide (k<m)) = !(decide (n<0)||decide (n>1000000)||(decide ((k:Int)≥(m:Int))&&(n !=0))):=by
 unfold pK
 rw [Bool.eq_iff_iff]
 by_cases h4:n=0
 ·subst h4; simp
 ·have e:(n !=0)=true:=by simpa using h4
  simp only [e,h4,Bool.and_eq_true,Bool.or_eq_true,decide_eq_true_eq,Bool.not_eq_true',Bool.or_eq_false_iff,Bool.and_eq_false_iff,decide_eq_false_iff_not,decide_false,Bool.or_false,Bool.and_true]
  omega
theorem oH (o:cA):bw Tryz.prog dc 72 [tO o] [] (.bool (eY o)) []:=by
 refine br Tryz.func72 (by decide) Zy rfl rfl ?_
 simp only [abe,go_sem]
 rw [uw]
 refine ay (FF o.kind) rfl rfl rfl rfl ?_; simp only [go_sem]
 by_cases hk:1≤o.kind∧o.kind≤21
 ·simp only [Cg _ hk,go_sem]
  refine ay (JO o) rfl rfl rfl rfl ?_
  simp only [go_sem,hk]
  generalize hq:qI (ec o.kind) (cE o) 0=r
  have hl:(cE o).length=6:=rfl
  have hk0:0≤o.kind:=by omega
  have wg:o.kind.toNat<22:=by omega
  refine aW [1,10,11] [] (fun k:Nat=>k≤6∧qI (ec o.kind) ((cE o).drop k) k=r) (fun k=>6-k) (OB o) 0 ?_ ⟨by omega,hq⟩ ?_
  ·simp only [OB,go_sem,Int.natCast_zero]
  rintro k ⟨hk6,hF⟩
  simp only [OB,go_sem]
  refine bx (fun h=>?_) (fun h=>?_) <;> simp only [h,go_sem] <;> (try simp only [qqS] at h)
  ·have hkl:k<(cE o).length:=by omega
   have adb:k<6:=by omega
   rw [List.drop_eq_getElem_cons hkl,qI,OR] at hF
   have hg:((cE o).map LV.int)[k]? = some (LV.int (cE o)[k]):=get_map hkl
   simp only [hg,adb,go_sem]
   generalize (cE o)[k]=n at *
   refine dz (fun h1=>?_) (fun h1=>?_) <;> simp only [h1,go_sem] <;> (try simp only [qqS] at h1)
   ·have yC:decide (n<0)=false:=by simp; omega
    refine dz (fun h2=>?_) (fun h2=>?_) <;> simp only [h2,go_sem] <;> (try simp only [qqS] at h2)
    ·have GX:decide (n>1000000)=false:=by simp; omega
     simp only [tF,hk0,wg,DO _ hk,Nat.mul_one,go_sem]
     refine dz (fun h3=>?_) (fun h3=>?_) <;> simp only [h3,go_sem] <;> (try simp only [qqS] at h3)
     ·have ID:decide ((k:Int)≥(ec o.kind:Int))=true:=by simpa using h3
      cases h4:(n !=0) with
      | true=>
        rw [yC,GX,ID,h4] at hF
        simp only [go_sem] at hF
        simp only [go_sem,← hF]
      | false=>
        rw [yC,GX,ID,h4] at hF
        simp only [go_sem] at hF
        simp only [go_sem]
        refine a_ (k+1) ?_ ?_ ⟨by omega,hF⟩ (by omega)
        ·simp only [go_sem]; rfl
        ·simp only [OB,go_sem,aG (show k<9223372036854775807 by omega)]
     ·have ID:decide ((k:Int)≥(ec o.kind:Int))=false:=by simpa using h3
      rw [yC,GX,ID] at hF
      simp only [go_sem] at hF
      refine a_ (k+1) ?_ ?_ ⟨by omega,hF⟩ (by omega)
      ·simp only [go_sem]; rfl
      ·simp only [OB,go_sem,aG (show k<9223372036854775807 by omega)]
    ·have GX:decide (n>1000000)=true:=by simpa using h2
     rw [yC,GX] at hF
     simp only [go_sem] at hF
     simp only [go_sem,← hF]
   ·have yC:decide (n<0)=true:=by simpa using h1
    rw [yC] at hF
    simp only [go_sem] at hF
    simp only [go_sem,← hF]
  ·obtain rfl:k=6:=by omega
   simp only [cE,List.drop_succ_cons,List.drop_zero,qI] at hF
   simp only [go_sem,← hF]
 ·simp only [rO _ hk,hk,go_sem]
def h_ (f:Option Nat) (j n:Bool):List LV:=[match f with | some k=>.d (.fn (.func k) [] []) | none=>.d (.val .nilFunc),.bool j,.bool n]
def wD:List LV:=h_ none false false++h_ (some 145) false false++h_ (some 146) true false++h_ (some 147) false false++h_ (some 148) false false++h_ (some 149) false false++h_ (some 150) false false
 ++h_ (some 151) false true++h_ (some 152) false true++h_ (some 153) true false++h_ (some 154) true false++h_ (some 155) true false++h_ (some 156) true false++h_ (some 157) true false
 ++h_ (some 158) true false++h_ (some 159) true false++h_ (some 160) false true++h_ (some 161) false true++h_ (some 162) false true++h_ (some 163) false true++h_ (some 164) true false++h_ (some 165) false false
theorem MS:bw Tryz.prog G 74 [] [] (.agg wD) []:=by
 refine br Tryz.func74 (by decide) Zx rfl rfl ?_
 simp only [abd,go_sem]
 rfl
end Dv
namespace Dv
open Go Go.Proofs
variable {G:Nat→Option (List DV)}
def abp:=qx Tryz.f24
theorem ZJ:aj Tryz.prog Tryz.f24=some abp:=by kernel_rfl
theorem rq {c:aC} {s:aa} {o:cA} (hr:iL c s=true) (h:eY o=true) (h1:Ib o.kind=false) (h2:zL o.kind=false):bE c s o=bS c s o:=by
 unfold bE AV
 rw [if_neg (by simp [hr]),if_neg (by simp [h]),if_neg (by simp [h1]),if_neg (by simp [h2])]
theorem KS {c:aC} {s:aa} {o:cA} (hr:iL c s=true) (h:eY o=true) (h1:Ib o.kind=true) (h2:zL o.kind=false):bE c s o=if o.a<1∨(s.jobs.length:Int)<o.a then (s,4) else bS c s o:=by
 unfold bE AV
 rw [if_neg (by simp [hr]),if_neg (by simp [h])]
 by_cases hq:o.a<1∨(s.jobs.length:Int)<o.a
 ·rw [if_pos ⟨h1,hq⟩,if_pos hq]
 ·rw [if_neg (fun h=>hq h.2),if_neg (by simp [h2]),if_neg hq]
theorem Rf {c:aC} {s:aa} {o:cA} (hr:iL c s=true) (h:eY o=true) (h1:Ib o.kind=false) (h2:zL o.kind=true):bE c s o=if (s.nodes.length:Int)≤o.a then (s,4) else bS c s o:=by
 unfold bE AV
 rw [if_neg (by simp [hr]),if_neg (by simp [h]),if_neg (by simp [h1])]
 by_cases hq:(s.nodes.length:Int)≤o.a
 ·rw [if_pos ⟨h2,hq⟩,if_pos hq]
 ·rw [if_neg (fun h=>hq h.2),if_neg hq]
def rW (s:aa) (p:aa×Int):Prop:=p.2≠0→p.1=s
theorem Vx {s:aa} {P:Prop} [Decidable P] {a b:aa×Int} (h1:rW s a) (h2:rW s b):rW s (if P then a else b):=by
 split
 ·exact h1
 ·exact h2
theorem QK (s:aa) (e:Int):rW s (s,e):=fun _=>rfl
theorem aap (s t:aa):rW s (t,0):=fun h=>absurd rfl h
theorem Gr (c:aC) (s:aa) (o:cA):rW s (bS c s o):=by
 unfold bS jV kX kQ iy sK Rr pM oz kP nG ku oV u7 mT iR xl nC gP eu
 repeat' (first | exact QK _ _ | exact aap _ _ | apply Vx)
theorem vR {o:cA} (h:eY o=true):(1≤o.kind∧o.kind≤21)∧(0≤o.a∧o.a≤1000000)∧(0≤o.b∧o.b≤1000000):=by
 unfold eY pK at h
 simp only [Bool.and_eq_true,decide_eq_true_eq] at h
 exact ⟨h.1.1.1.1.1.1,h.1.1.1.1.1.2.1,h.1.1.1.1.2.1⟩
theorem MV {c:aC} {s:aa} {o:cA} (hp:bR c s) (hcf:1≤c.bH∧c.bH≤1000) (hk:o.kind=1∨o.kind=3∨o.kind=4∨o.kind=5∨o.kind=6∨o.kind=21):∃ f,List.take 3 (List.drop (o.kind.toNat*3) wD)=[.d (.fn (.func f) [] []),.bool false,.bool false]∧bw Tryz.prog dc f [.ptr 0 0] (bV c s o gw gw) (.int (bS c s o).2) (bV c (bS c s o).1 o gw gw):=by
 have sE:=hp.len
 have hlj:=hp.jobs
 have ht:=hp.term
 rcases hk with hk | hk | hk | hk | hk | hk <;> refine ⟨_,by rw [hk]; rfl,?_⟩ <;> simp only [bS,hk,Int.reduceEq,if_true,if_false]
 ·exact Hh c s o hcf (by omega)
 ·exact He c s o (by omega) (by omega)
 ·exact LI c s o
 ·exact Hz c s o
 ·exact Nq c s o
 ·exact FA c s o (by omega) ht.1
theorem QX {c:aC} {s:aa} {o:cA} (hp:bR c s) (hb:0≤o.b) (hk:o.kind=2∨o.kind=9∨o.kind=10∨o.kind=11∨o.kind=12∨o.kind=13∨o.kind=14∨o.kind=15∨o.kind=20) {k:Nat} (hkl:k<s.jobs.length) (ha:o.a=k+1) (hJ:eA s o.a=dK s k) (hm:0≤(dK s k).nodes∧(dK s k).nodes<64):∃ f,List.take 3 (List.drop (o.kind.toNat*3) wD)=[.d (.fn (.func f) [] []),.bool true,.bool false]∧bw Tryz.prog dc f [.ptr 0 0] (bV c s o (.rp 2 s.jobs.length 12 k 0) gw) (.int (bS c s o).2) (bV c (bS c s o).1 o (.rp 2 s.jobs.length 12 k 0) gw):=by
 have sE:=hp.len
 have hlj:=hp.jobs
 rcases hk with hk | hk | hk | hk | hk | hk | hk | hk | hk <;> refine ⟨_,by rw [hk]; rfl,?_⟩ <;> simp only [bS,hk,Int.reduceEq,if_true,if_false]
 ·exact Jk c s o k hkl ha (by omega) (by omega)
 ·exact PW c s o k hkl ha (by omega) (by omega) (by rw [hJ]; exact (hp.num k hkl).inc.1)
 ·exact Lj c s o k hkl ha
 ·exact G7 c s o k hkl ha (by omega) (by omega)
 ·exact I9 c s o k hkl ha (by omega)
 ·exact Ls c s o k hkl ha
 ·exact MK c s o k hkl ha (by omega) (by omega)
 ·exact MR c s o k hkl ha (by omega) (by omega)
 ·exact Hr c s o k hkl ha (by omega) (by omega) hb (by rw [hJ]; exact hm)
theorem MW {c:aC} {s:aa} {o:cA} (hp:bR c s) (hk:o.kind=7∨o.kind=8∨o.kind=16∨o.kind=17∨o.kind=18∨o.kind=19) {i:Nat} (hil:i<s.nodes.length) (ha:o.a=i) (hN:cZ s o.a=dR s i):∃ f,List.take 3 (List.drop (o.kind.toNat*3) wD)=[.d (.fn (.func f) [] []),.bool false,.bool true]∧bw Tryz.prog dc f [.ptr 0 0] (bV c s o gw (.rp 1 s.nodes.length 5 i 0)) (.int (bS c s o).2) (bV c (bS c s o).1 o gw (.rp 1 s.nodes.length 5 i 0)):=by
 have sE:=hp.len
 have hlj:=hp.jobs
 rcases hk with hk | hk | hk | hk | hk | hk <;> refine ⟨_,by rw [hk]; rfl,?_⟩ <;> simp only [bS,hk,Int.reduceEq,if_true,if_false]
 ·exact QW c s o i hil ha (by omega) (by omega) (by rw [hN]; exact hp.aQ i hil)
 ·exact Y1 c s o i hil ha
 ·exact Ja c s o i hil ha
 ·exact Db c s o i hil ha
 ·exact O0 c s o i hil ha
 ·exact LR c s o i hil ha
theorem CW (c:aC) (s:aa) (o:cA):bw Tryz.prog dc 24 [fV c,aY s,tO o] [] (.dJ [aY (bE c s o).1,.int (bE c s o).2]) []:=by
 refine cD Tryz.func24 (by decide) ZJ rfl ?_
 simp only [abp,go_sem]
 refine ay (BW c s) rfl rfl rfl rfl ?_; simp only [go_sem]
 cases hr:iL c s with
 | false=>
   have hA:bE c s o=(nJ,1):=by unfold bE; rw [if_pos hr]
   rw [hA]
   simp only [go_sem]
   exact dP [] rfl (by simp) (by simp [St.obj,aD,aU,St.get,aZ,ah,ag,bG,nJ,LV.int])
 | true=>
 have hp:=(ez c s).1 hr
 have sE:=hp.len
 have hlj:=hp.jobs
 have hcf:=(uh hr).vf
 simp only [go_sem]
 refine ay (oH o) rfl rfl rfl rfl ?_; simp only [go_sem]
 cases ho:eY o with
 | false=>
   have hA:bE c s o=(s,1):=by unfold bE AV; rw [if_neg (by simp [hr]),if_pos ho]
   rw [hA]
   simp only [go_sem]
   refine jw (q_ s (by omega) (by omega)) rfl rfl rfl ?_
   simp only [go_sem]
   exact dP [4,5] rfl (by simp [St.obj,aD]) (by simp [St.obj,aD,aU,St.get,aZ,ah,ag,bG,LV.int,List.take_of_length_le])
 | true=>
 have hkn:=vR ho
 obtain ⟨hkk,hka,hkb⟩:=hkn
 simp only [go_sem]
 refine ko (q_ s (by omega) (by omega)) rfl rfl rfl ?_
 simp only [go_sem]
 refine au rfl ?_
 simp only [go_sem]
 refine bq MS rfl rfl rfl rfl ?_
 simp only [go_sem]
 have hE:=Gr c s o
 have hK:0≤o.kind∧o.kind.toNat<22:=by omega
 have hkg:(o.kind=1∨o.kind=3∨o.kind=4∨o.kind=5∨o.kind=6∨o.kind=21)∨(o.kind=2∨o.kind=9∨o.kind=10∨o.kind=11∨o.kind=12∨o.kind=13∨o.kind=14∨o.kind=15∨o.kind=20)∨(o.kind=7∨o.kind=8∨o.kind=16∨o.kind=17∨o.kind=18∨o.kind=19):=by omega
 rcases hkg with hk | hk | hk
 ·obtain ⟨f,hx,hT⟩:=MV hp (by omega) hk
  have hA:bE c s o=bS c s o:=by
   rcases hk with hk | hk | hk | hk | hk | hk <;> exact rq hr ho (by rw [hk]; rfl) (by rw [hk]; rfl)
  rw [hA]
  simp only [hK,hx,go_sem]
  refine au rfl ?_
  simp only [go_sem]
  refine av [6,4,5] (hT) rfl ?_ (by decide) ?_ ?_ (by simp) ?_ <;> simp only [ag,ah,go_sem,bV]
  generalize bS c s o=p at *
  cases he:(p.2 !=0) with
  | true=>
    simp only [he,go_sem]
    refine jw (q_ s (by omega) (by omega)) rfl rfl rfl ?_
    simp only [go_sem]
    have hs:p.1=s:=hE (by simpa using he)
    rw [hs]
    exact dP [8,9] rfl (by simp [St.obj,aD]) (by simp [St.obj,aD,aU,St.get,aZ,ah,ag,bG,LV.int,List.take_of_length_le])
  | false=>
    have Ql:p.2=0:=by simpa using he
    simp only [he,go_sem]
    exact dP [4,5] rfl (by simp [St.obj,aD]) (by simp [St.obj,aD,aU,St.get,aZ,ah,ag,bG,LV.int,List.take_of_length_le,Ql])
 ·have hA:bE c s o=if o.a<1∨(s.jobs.length:Int)<o.a then (s,4) else bS c s o:=by
   rcases hk with hk | hk | hk | hk | hk | hk | hk | hk | hk <;> exact KS hr ho (by rw [hk]; rfl) (by rw [hk]; rfl)
  have hx:∃ f,List.take 3 (List.drop (o.kind.toNat*3) wD)=[.d (.fn (.func f) [] []),.bool true,.bool false]:=by
   rcases hk with hk | hk | hk | hk | hk | hk | hk | hk | hk <;> exact ⟨_,by rw [hk]; rfl⟩
  obtain ⟨f,hx⟩:=hx
  rw [hA]
  simp only [hK,hx,go_sem]
  refine au rfl ?_
  simp only [go_sem]
  by_cases hq:o.a<1∨(s.jobs.length:Int)<o.a
  ·rw [if_pos hq]
   refine dz (fun h1=>?_) (fun h1=>?_) <;> simp only [h1,go_sem] <;> (try simp only [qqS] at h1)
   ·refine bx (fun h2=>?_) (fun h2=>?_) <;> simp only [h2,go_sem] <;> (try simp only [qqS] at h2)
    ·exact dP [4,5] rfl (by simp [St.obj,aD]) (by simp [St.obj,aD,aU,St.get,aZ,ah,ag,bG,LV.int,List.take_of_length_le])
    ·omega
   ·exact dP [4,5] rfl (by simp [St.obj,aD]) (by simp [St.obj,aD,aU,St.get,aZ,ah,ag,bG,LV.int,List.take_of_length_le])
  rw [if_neg hq]
  have q1:decide (o.a<1)=false:=by simp; omega
  have q2:decide (o.a>(s.jobs.length:Int))=false:=by simp; omega
  have hw:IntKind.i64.wrap (o.a-1)=o.a-1:=aN (by omega) (by omega)
  have q3:0≤o.a-1:=by omega
  obtain ⟨k,hkq⟩:∃ k:Nat,(o.a-1).toNat=k:=⟨_,rfl⟩
  have hkl:k<s.jobs.length:=by omega
  have ada:o.a=k+1:=by omega
  have hJ:eA s o.a=dK s k:=by unfold eA dK; rw [hkq]
  obtain ⟨f2,hx2,hT⟩:=QX hp hkb.1 hk hkl ada hJ ((uh hr).bits hkl)
  rw [hx2] at hx
  simp only [List.cons.injEq,LV.d.injEq,DV.fn.injEq,Fn.func.injEq,and_true] at hx
  obtain rfl:=hx
  simp only [q1,q2,q3,hw,hkq,hkl,go_sem]
  refine au rfl ?_
  simp only [go_sem]
  refine av [6,4,5] (hT) rfl ?_ (by decide) ?_ ?_ (by simp) ?_ <;> simp only [ag,ah,go_sem,bV]
  generalize bS c s o=p at *
  cases he:(p.2 !=0) with
  | true=>
    simp only [he,go_sem]
    refine jw (q_ s (by omega) (by omega)) rfl rfl rfl ?_
    simp only [go_sem]
    have hs:p.1=s:=hE (by simpa using he)
    rw [hs]
    exact dP [8,9] rfl (by simp [St.obj,aD]) (by simp [St.obj,aD,aU,St.get,aZ,ah,ag,bG,LV.int,List.take_of_length_le])
  | false=>
    have Ql:p.2=0:=by simpa using he
    simp only [he,go_sem]
    exact dP [4,5] rfl (by simp [St.obj,aD]) (by simp [St.obj,aD,aU,St.get,aZ,ah,ag,bG,LV.int,List.take_of_length_le,Ql])
 ·have hA:bE c s o=if (s.nodes.length:Int)≤o.a then (s,4) else bS c s o:=by
   rcases hk with hk | hk | hk | hk | hk | hk <;> exact Rf hr ho (by rw [hk]; rfl) (by rw [hk]; rfl)
  have hx:∃ f,List.take 3 (List.drop (o.kind.toNat*3) wD)=[.d (.fn (.func f) [] []),.bool false,.bool true]:=by
   rcases hk with hk | hk | hk | hk | hk | hk <;> exact ⟨_,by rw [hk]; rfl⟩
  obtain ⟨f,hx⟩:=hx
  rw [hA]
  simp only [hK,hx,go_sem]
  refine au rfl ?_
  simp only [go_sem]
  by_cases hq:(s.nodes.length:Int)≤o.a
  ·rw [if_pos hq]
   have q1:decide (o.a≥(s.nodes.length:Int))=true:=by simpa using hq
   simp only [q1,go_sem]
   exact dP [4,5] rfl (by simp [St.obj,aD]) (by simp [St.obj,aD,aU,St.get,aZ,ah,ag,bG,LV.int,List.take_of_length_le])
  rw [if_neg hq]
  have q1:decide (o.a≥(s.nodes.length:Int))=false:=by simp; omega
  have q3:0≤o.a:=hka.1
  obtain ⟨i,hiq⟩:∃ i:Nat,o.a.toNat=i:=⟨_,rfl⟩
  have hil:i<s.nodes.length:=by omega
  have hia:o.a=i:=by omega
  have hN:cZ s o.a=dR s i:=by unfold cZ dR; rw [hiq]
  obtain ⟨f2,hx2,hT⟩:=MW hp hk hil hia hN
  rw [hx2] at hx
  simp only [List.cons.injEq,LV.d.injEq,DV.fn.injEq,Fn.func.injEq,and_true] at hx
  obtain rfl:=hx
  simp only [q1,q3,hiq,hil,go_sem]
  refine au rfl ?_
  simp only [go_sem]
  refine av [6,4,5] (hT) rfl ?_ (by decide) ?_ ?_ (by simp) ?_ <;> simp only [ag,ah,go_sem,bV]
  generalize bS c s o=p at *
  cases he:(p.2 !=0) with
  | true=>
    simp only [he,go_sem]
    refine jw (q_ s (by omega) (by omega)) rfl rfl rfl ?_
    simp only [go_sem]
    have hs:p.1=s:=hE (by simpa using he)
    rw [hs]
    exact dP [8,9] rfl (by simp [St.obj,aD]) (by simp [St.obj,aD,aU,St.get,aZ,ah,ag,bG,LV.int,List.take_of_length_le])
  | false=>
    have Ql:p.2=0:=by simpa using he
    simp only [he,go_sem]
    exact dP [4,5] rfl (by simp [St.obj,aD]) (by simp [St.obj,aD,aU,St.get,aZ,ah,ag,bG,LV.int,List.take_of_length_le,Ql])
end Dv
