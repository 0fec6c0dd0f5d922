/- part -/
import Derived.Test.YtkalnfkokkjliaaGreatDoorDF
set_option linter.all false
set_option maxRecDepth 100000
namespace Dv
open Go Go.Proofs
variable {G:Nat→Option (List DV)}
def Ww:=qx Tryz.f308
theorem SX:aj Tryz.prog Tryz.f308=some Ww:=by kernel_rfl
def Wv:=qx Tryz.f309
theorem SV:aj Tryz.prog Tryz.f309=some Wv:=by kernel_rfl
def Wt:=qx Tryz.f311
theorem SS:aj Tryz.prog Tryz.f311=some Wt:=by kernel_rfl
def WK:=qx Tryz.f286
theorem Ta:aj Tryz.prog Tryz.f286=some WK:=by kernel_rfl
def WJ:=qx Tryz.f287
theorem S_:aj Tryz.prog Tryz.f287=some WJ:=by kernel_rfl
def WI:=qx Tryz.f288
theorem S9:aj Tryz.prog Tryz.f288=some WI:=by kernel_rfl
def W_:=qx Tryz.f246
theorem Tv:aj Tryz.prog Tryz.f246=some W_:=by kernel_rfl
theorem tG (s:aa) (n:bp):bw Tryz.prog G 308 [aY s,zK n] [] (.bool (kY s n)) []:=by
 refine br Tryz.func308 (by decide) SX rfl rfl ?_
 simp only [Ww,go_sem]
 have e:kY s n=(n.up&&(!n.bC&&(n.version !=fZ s))):=by unfold kY; rw [Bool.eq_iff_iff]; simp [and_assoc]
 rw [e]
 repeat' (first | ((first | with_reducible refine eB (fun h=>?_) (fun h=>?_) | refine dz (fun h=>?_) (fun h=>?_)) <;> simp only [h,go_sem]) | (refine bq (jN s) rfl rfl rfl rfl ?_; simp only [go_sem]) | (refine ay (jN s) rfl rfl rfl rfl ?_; simp only [go_sem]) | ((first | with_reducible refine AY (fun h=>?_) (fun h=>?_) | refine gX (fun h=>?_) (fun h=>?_)) <;> simp only [h,go_sem]))
structure NJ (s:aa):Prop where
 nodes:s.nodes.length≤1000
 jobs:s.jobs.length≤1000
 aQ:∀ k,k<s.nodes.length→0≤(s.nodes.getD k ai).aQ∧(s.nodes.getD k ai).aQ≤s.jobs.length
theorem Ey.nj {c:aC} {s:aa} (h:Ey c s):NJ s:=by
 have h1:=h.vf
 have h2:=h.nodes
 have h3:=h.jobs
 exact ⟨by omega,by omega,fun k hk=>⟨(h.node hk).2.2.1,(h.node hk).2.2.2⟩⟩
theorem wH (s:aa) (i:Int) (hs:NJ s):bw Tryz.prog G 309 [aY s,.int i] [] (.bool (tI s i)) []:=by
 refine br Tryz.func309 (by decide) SV rfl rfl ?_
 simp only [Wv,go_sem]
 unfold tI
 cases h1:decide (i<0) with
 | true=>
   have yC:i<0:=of_decide_eq_true h1
   simp only [yC,go_sem]
 | false=>
   have yC:¬ i<0:=of_decide_eq_false h1
   simp only [yC,false_or,go_sem]
   cases h2:decide (i≥(s.nodes.length:Int)) with
   | true=>
     have GX:(s.nodes.length:Int)≤i:=of_decide_eq_true h2
     simp only [GX,go_sem]
   | false=>
     have GX:¬ (s.nodes.length:Int)≤i:=of_decide_eq_false h2
     have h0:0≤i:=by omega
     have hk:i.toNat<s.nodes.length:=by omega
     have hg:=aJ (f:=bY) ai hk
     have hjb:=hs.aQ _ hk
     have hjl:=hs.jobs
     unfold mw ur
     generalize s.nodes.getD i.toNat ai=n at *
     simp only [h0,GX,hg,go_sem]
     cases h3:(n.aQ==0) with
     | true=>
       have ID:n.aQ=0:=by simpa using h3
       simp only [ID,go_sem]
     | false=>
       have ID:n.aQ≠0:=by simpa using h3
       have hw:IntKind.i64.wrap (n.aQ-1)=n.aQ-1:=aN (by omega) (by omega)
       have hg2:=aJ (f:=dD) az (show (n.aQ-1).toNat<s.jobs.length by omega)
       have h4:0≤n.aQ-1:=by omega
       generalize s.jobs.getD (n.aQ-1).toNat az=j at *
       have e:(decide (j.pin≠0)&&decide (j.pin≠fZ s))=((j.pin !=0)&&(j.pin !=fZ s)):=by rw [Bool.eq_iff_iff]; simp
       simp only [e,ID,hw,hg,hg2,h0,h4,go_sem]
       repeat' (first | ((first | with_reducible refine eB (fun h=>?_) (fun h=>?_) | refine dz (fun h=>?_) (fun h=>?_)) <;> simp only [h,go_sem]) | (refine ay (jN s) rfl rfl rfl rfl ?_; simp only [go_sem]))
def EE (s:aa) (k:Nat):St:=⟨[(3,.int (pV (s.nodes.take k))),(7,bO s.nodes),(8,.int s.nodes.length),(9,.int k)],[some (.box 30 [bO s.nodes,cO s.jobs,.int s.goal,.int s.prior,.int s.mode,.int s.term])]⟩
theorem Nz (s:aa) (hn:s.nodes.length≤1000):bw Tryz.prog G 311 [aY s] [] (.int (pV s.nodes)) []:=by
 refine br Tryz.func311 (by decide) SS rfl rfl ?_
 simp only [Wt,go_sem]
 refine aW [3,7,8,9] [] (fun k:Nat=>k≤s.nodes.length) (fun k=>s.nodes.length-k) (EE s) 0 ?_ (Nat.zero_le _) (fun k hk=>?_)
 ·simp only [EE,go_sem,pV,List.filter_nil,Int.natCast_zero]
 simp only [EE,go_sem]
 refine bx (fun h=>?_) (fun h=>?_)
 ·have h:=eN h
  have hb:=NA (s.nodes.take k)
  rw [List.length_take] at hb
  have hs:s.nodes.take (k+1)=s.nodes.take k++[s.nodes[k]]:=by rw [List.take_succ_eq_append_getElem h]
  have hd:=G6 (s.nodes.take k) s.nodes[k]
  simp only [get_map h,go_sem]
  cases hc:s.nodes[k].cL <;> simp only [go_sem]
  ·refine a_ (k+1) ?_ ?_ h (by omega)
   ·simp only [go_sem]
   ·simp only [EE,go_sem,aG (show k<9223372036854775807 by omega),hs,hd,hc,Bool.false_eq_true,Int.add_zero]
  ·refine a_ (k+1) ?_ ?_ h (by omega)
   ·simp only [go_sem]
   ·simp only [EE,go_sem,aG (show k<9223372036854775807 by omega),hs,hd,hc,aN (show -9223372036854775808≤pV (s.nodes.take k)+1 by omega) (by omega)]
 ·obtain rfl:=eP h hk
  simp only [go_sem,List.take_length]
def mI (c:aC) (s:aa) (now:Int):LV:=.agg [.int c.nodes,.int c.bH,.int c.cB,.int c.gF,.int c.bZ,.int c.eC,.int c.deadline,.int c.room,.int c.fP,bO s.nodes,cO s.jobs,.int s.goal,.int s.prior,.int s.mode,.int s.term,.int now]
theorem OE (c:aC) (s:aa) (now:Int) (k:Nat) (hs:NJ s) (hk:k<s.nodes.length):bw Tryz.prog G 286 [mI c s now,.int k] [] (.dJ [tO ⟨17,k,0,0,0,0,0⟩,.bool (JU s (s.nodes.getD k ai))]) []:=by
 refine br Tryz.func286 (by decide) Ta rfl rfl ?_
 have hg:=aJ (f:=bY) ai hk
 have ha:=rz s k hk
 generalize s.nodes.getD k ai=n at *
 obtain ⟨up,co,mo,ve,jo⟩:=n
 unfold JU
 simp only [WK,mI,hg,go_sem]
 cases co <;> simp only [go_sem]
 cases up <;> simp only [go_sem]
 cases mo <;> simp only [go_sem]
 refine ay (tG s ⟨true,true,false,ve,jo⟩) rfl rfl rfl rfl ?_; simp only [go_sem]
 cases hb:kY s ⟨true,true,false,ve,jo⟩ <;> simp only [go_sem]
 refine ay (wH s k hs) rfl rfl rfl rfl ?_; simp only [go_sem]
 rw [ha]
def jh (o:Option cA):LV:=.dJ [tO (o.getD ia),.bool o.isSome]
theorem M6 (c:aC) (s:aa) (now:Int) (k:Nat) (hs:NJ s) (hk:k<s.nodes.length) (h1:-1000000000≤now+c.deadline∧now+c.deadline≤1000000000):bw Tryz.prog G 287 [mI c s now,.int k] [] (jh (mh c s now (s.nodes.getD k ai) k)) []:=by
 refine br Tryz.func287 (by decide) S_ rfl rfl ?_
 have hg:=aJ (f:=bY) ai hk
 have ha:=rz s k hk
 have hjb:=hs.aQ _ hk
 have hjl:=hs.jobs
 have hwd:IntKind.i64.wrap (now+c.deadline)=now+c.deadline:=aN (by omega) (by omega)
 generalize s.nodes.getD k ai=n at *
 obtain ⟨up,co,mo,ve,jo⟩:=n
 unfold mh
 simp only [WJ,mI,hg,go_sem]
 cases co with
 | false=>simp only [go_sem,jh,Option.getD_none,Option.isSome_none]
 | true=>
 simp only [Bool.true_eq_false,false_or,go_sem]
 refine ay (tG s ⟨up,true,mo,ve,jo⟩) rfl rfl rfl rfl ?_; simp only [go_sem]
 cases hb:kY s ⟨up,true,mo,ve,jo⟩ with
 | false=>simp only [go_sem,jh,Option.getD_none,Option.isSome_none]
 | true=>
 simp only [Bool.true_eq_false,false_or,go_sem]
 refine ay (wH s k hs) rfl rfl rfl rfl ?_; simp only [go_sem]
 rw [ha]
 cases hal:mw s ⟨up,true,mo,ve,jo⟩ with
 | true=>simp only [go_sem,jh,Option.getD_none,Option.isSome_none]
 | false=>
 simp only [Bool.false_eq_true,go_sem]
 cases hj0:(jo==0) with
 | true=>
   have aab:jo=0:=by simpa using hj0
   simp only [aab,go_sem,jh,Option.getD_some,Option.isSome_some]
 | false=>
 have aab:jo≠0:=by simpa using hj0
 have hw:IntKind.i64.wrap (jo-1)=jo-1:=aN (by dsimp only at hjb; omega) (by dsimp only at hjb; omega)
 have hg2:=aJ (f:=dD) az (show (jo-1).toNat<s.jobs.length by dsimp only at hjb; omega)
 have h4:0≤jo-1:=by dsimp only at hjb; omega
 generalize s.jobs.getD (jo-1).toNat az=j at *
 simp only [hw,hg2,h4,aab,go_sem]
 have e2:(if 1000000≤now+c.deadline then (1000000:Int) else now+c.deadline)=if now+c.deadline<1000000 then now+c.deadline else 1000000:=by split <;> split <;> omega
 rw [e2]
 cases hp1:(j.phase==1) with
 | true=>
   have Is:j.phase=1:=by simpa using hp1
   rw [if_pos Is]
   simp only [go_sem,jh,Option.getD_some,Option.isSome_some]
 | false=>
 have Is:¬ j.phase=1:=by simpa using hp1
 rw [if_neg Is]
 simp only [go_sem]
 cases hp2:(j.phase==2) with
 | false=>
   have hp2':¬ j.phase=2:=by simpa using hp2
   rw [if_neg (fun h=>hp2' h.1),if_neg (fun h=>hp2' h.1)]
   simp only [hp2,go_sem,jh,Option.getD_none,Option.isSome_none]
 | true=>
 have hp2':j.phase=2:=by simpa using hp2
 simp only [hp2',hp2,go_sem]
 refine bq (rT _) rfl rfl rfl rfl ?_; simp only [go_sem]
 cases hq:decide (many (j.nodes % 64)>j.min) with
 | true=>
   have hq':j.min<many (j.nodes % 64):=of_decide_eq_true hq
   rw [if_pos hq']
   simp only [go_sem,jh,Option.getD_some,Option.isSome_some]
 | false=>
 have hq':¬ j.min<many (j.nodes % 64):=of_decide_eq_false hq
 rw [if_neg hq']
 simp only [hp2,go_sem]
 refine bq (tC s j.queue (by omega)) rfl rfl rfl rfl ?_; simp only [go_sem]
 cases hd:decide (cQ s.jobs j.queue<c.cB) with
 | true=>
   have hd':=of_decide_eq_true hd
   rw [if_pos hd']
   simp only [hwd,go_sem,jh,Option.getD_some,Option.isSome_some]
 | false=>
   have hd':=of_decide_eq_false hd
   rw [if_neg hd']
   simp only [go_sem,jh,Option.getD_none,Option.isSome_none]
theorem NV (c:aC) (s:aa) (now:Int) (k:Nat) (hs:NJ s) (hk:k<s.nodes.length):bw Tryz.prog G 288 [mI c s now,.int k] [] (.dJ [tO ⟨16,k,0,0,0,0,0⟩,.bool (ER c s (s.nodes.getD k ai))]) []:=by
 refine br Tryz.func288 (by decide) S9 rfl rfl ?_
 have hg:=aJ (f:=bY) ai hk
 have ha:=rz s k hk
 generalize s.nodes.getD k ai=n at *
 obtain ⟨up,co,mo,ve,jo⟩:=n
 unfold ER
 simp only [WI,mI,hg,go_sem]
 cases co <;> simp only [go_sem]
 refine bq (tG s ⟨up,false,mo,ve,jo⟩) rfl rfl rfl rfl ?_; simp only [go_sem]
 cases hb:kY s ⟨up,false,mo,ve,jo⟩ <;> simp only [go_sem]
 refine bq (wH s k hs) rfl rfl rfl rfl ?_; simp only [go_sem]
 rw [ha]
 cases hal:mw s ⟨up,false,mo,ve,jo⟩ <;> simp only [go_sem]
 refine bq (Nz s hs.nodes) rfl rfl rfl rfl ?_; simp only [go_sem]
end Dv
namespace Dv
open Go Go.Proofs
variable {G:Nat→Option (List DV)}
def NK:Nat→Nat
 | 0=>286
 | 1=>287
 | _=>288
def BG (c:aC) (s:aa) (now:Int):Nat→bp→Int→Option cA
 | 0=>Fp s
 | 1=>mh c s now
 | _=>y8 c s
def tell (c:aC) (s:aa) (now:Int) (i:Nat) (n:bp) (k:Nat):cA×Bool:=match i with
 | 0=>(⟨17,k,0,0,0,0,0⟩,JU s n)
 | 1=>((mh c s now n k).getD ia,(mh c s now n k).isSome)
 | _=>(⟨16,k,0,0,0,0,0⟩,ER c s n)
theorem NI (c:aC) (s:aa) (now:Int) (i:Nat) (n:bp) (k:Nat):BG c s now i n k=if (tell c s now i n k).2=true then some (tell c s now i n k).1 else none:=by
 match i with
 | 0=>rfl
 | 1=>simp only [BG,tell]; cases mh c s now n k <;> rfl
 | i+2=>rfl
theorem NH (c:aC) (s:aa) (now:Int) (i k:Nat) (hs:NJ s) (hk:k<s.nodes.length) (h1:-1000000000≤now+c.deadline∧now+c.deadline≤1000000000) :
  bw Tryz.prog G (NK i) [mI c s now,.int k] [] (.dJ [tO (tell c s now i (s.nodes.getD k ai) k).1,.bool (tell c s now i (s.nodes.getD k ai) k).2]) []:=by
 match i with
 | 0=>exact OE c s now k hs hk
 | 1=>exact M6 c s now k hs hk h1
 | i+2=>exact NV c s now k hs hk
def zg (c:aC) (s:aa) (now:Int):Nat→Option cA
 | 0=>match fL (Fp s) s.nodes 0 with
   | some o=>some o
   | none=>match fL (mh c s now) s.nodes 0 with
     | some o=>some o
     | none=>fL (y8 c s) s.nodes 0
 | 1=>match fL (mh c s now) s.nodes 0 with
   | some o=>some o
   | none=>fL (y8 c s) s.nodes 0
 | 2=>fL (y8 c s) s.nodes 0
 | _=>none
theorem Oi (c:aC) (s:aa) (now:Int) (i:Nat) (hi:i<3):zg c s now i=match fL (BG c s now i) s.nodes 0 with | some o=>some o | none=>zg c s now (i+1):=by
 match i,hi with
 | 0,_=>rfl
 | 1,_=>rfl
 | 2,_=>simp only [zg,BG]; cases fL (y8 c s) s.nodes 0 <;> rfl
def QE (c:aC) (s:aa) (now:Int):List LV:=[.fn (.func 286) [mI c s now] [],.fn (.func 287) [mI c s now] [],.fn (.func 288) [mI c s now] []]
theorem QC (c:aC) (s:aa) (now:Int) (i:Nat) (hi:i<3):((QE c s now).drop (i*1)).take 1=[.fn (.func (NK i)) [mI c s now] []]:=by
 match i,hi with
 | 0,_=>rfl
 | 1,_=>rfl
 | 2,_=>rfl
def NB (c:aC) (s:aa) (now:Int):List LV:=[.int c.nodes,.int c.bH,.int c.cB,.int c.gF,.int c.bZ,.int c.eC,.int c.deadline,.int c.room,.int c.fP,bO s.nodes,cO s.jobs,.int s.goal,.int s.prior,.int s.mode,.int s.term,.int now]
def jE (c:aC) (s:aa) (now:Int):List (Option aH):=[some (.box 23 [.int c.nodes,.int c.bH,.int c.cB,.int c.gF,.int c.bZ,.int c.eC,.int c.deadline,.int c.room,.int c.fP]),some (.box 30 [bO s.nodes,cO s.jobs,.int s.goal,.int s.prior,.int s.mode,.int s.term]),some (.box 37 [.int 0,.int 0,.int 0,.int 0,.int 0,.int 0,.int 0]),some (.box 326 (NB c s now))]
def JZ (c:aC) (s:aa) (now:Int) (i:Nat):St:=⟨[(4,.ptr 1 0),(6,.ptr 2 0),(7,.bool false),(31,.agg (QE c s now)),(32,.int i)],jE c s now⟩
def DL (c:aC) (s:aa) (now:Int) (i k:Nat):St:=⟨[(4,.ptr 1 0),(6,.ptr 2 0),(7,.bool false),(10,.ptr 4 0),(31,.agg (QE c s now)),(32,.int i),(37,.int s.nodes.length),(38,.int k)],jE c s now++[some (.box 328 [.fn (.func (NK i)) [mI c s now] []])]⟩
theorem OY (c:aC) (s:aa) (now:Int) (hs:NJ s) (h1:-1000000000≤now+c.deadline∧now+c.deadline≤1000000000):bw Tryz.prog G 246 [fV c,aY s,.int now] [] (jh (zM c s now)) []:=by
 refine br Tryz.func246 (by decide) Tv rfl rfl ?_
 unfold zM
 simp only [W_,go_sem]
 cases hm:(s.mode==1) with
 | true=>
   have hm':s.mode=1:=by simpa using hm
   simp only [hm',go_sem,jh,Option.getD_none,Option.isSome_none]
 | false=>
 have hm':¬ s.mode=1:=by simpa using hm
 rw [if_neg hm']
 show W Tryz.prog G (Ends [.cn 6 7,.t 7] (jh (zg c s now 0))) _ _
 generalize hr:zg c s now 0=r
 simp only [go_sem]
 have hn:=hs.nodes
 refine aW [4,6,7,31,32] [] (fun i:Nat=>i≤3∧zg c s now i=r) (fun i=>3-i) (JZ c s now) 0 ?_ ⟨by omega,hr⟩ ?_
 ·simp only [JZ,jE,QE,NB,mI,go_sem,Int.natCast_zero]
 clear hr
 rintro i ⟨hi,hr⟩
 simp only [JZ,jE,go_sem]
 cases hlt:decide ((i:Int)<3) with
 | false=>
   have h3:i=3:=by have:=of_decide_eq_false hlt; omega
   subst h3
   simp only [zg] at hr
   simp only [← hr,go_sem,jh,Option.getD_none,Option.isSome_none]
 | true=>
 have h3:i<3:=by have:=of_decide_eq_true hlt; omega
 rw [Oi c s now i h3] at hr
 have hg:=QC c s now i h3
 simp only [go_sem,hg,h3]
 have hv:∀ m,eH m (mI c s now)=true:=fun m=>rfl
 have hl:∀ m,eD m (NB c s now)=true:=fun m=>rfl
 have hf:∀ m,eD m (QE c s now)=true:=fun m=>rfl
 generalize Vg:fL (BG c s now i) s.nodes 0=q at hr
 refine aW [4,6,7,10,31,32,37,38] [] (fun k:Nat=>k≤s.nodes.length∧fL (BG c s now i) (s.nodes.drop k) k=q) (fun k=>s.nodes.length-k) (DL c s now i) 0 ?_ ⟨Nat.zero_le _,Vg⟩ ?_
 ·simp only [DL,jE,go_sem,Int.natCast_zero]
 clear Vg
 rintro k ⟨hk,hF⟩
 simp only [DL,jE,go_sem]
 refine bx (fun h=>?_) (fun h=>?_)
 ·have h:=eN h
  rw [List.drop_eq_getElem_cons h,fL,NI] at hF
  simp only [go_sem]
  refine ay (NH c s now i k hs h h1) rfl rfl (by rfl) rfl ?_
  rw [show s.nodes.getD k ai=s.nodes[k] by simp [List.getD,h]]
  generalize tell c s now i s.nodes[k] k=p at *
  obtain ⟨⟨o1,o2,o3,o4,o5,o6,o7⟩,b⟩:=p
  simp only [go_sem]
  cases b with
  | true=>
    simp only [if_true] at hF
    subst hF
    subst hr
    simp only [go_sem,jh,Option.getD_some,Option.isSome_some]
  | false=>
    simp only [Bool.false_eq_true,if_false] at hF
    simp only [go_sem]
    refine a_ (k+1) ?_ ?_ ⟨h,hF⟩ (by omega)
    ·simp only [go_sem,hv,hl,hf]
    ·simp only [DL,jE,go_sem,aG (show k<9223372036854775807 by omega)]
 ·obtain rfl:=eP h hk
  rw [List.drop_length,fL] at hF
  subst hF
  simp only [go_sem]
  refine a_ (i+1) ?_ ?_ ⟨h3,hr⟩ (by omega)
  ·simp only [go_sem,hv,hl,hf]
  ·simp only [JZ,jE,go_sem,aG (show i<9223372036854775807 by omega)]
end Dv
