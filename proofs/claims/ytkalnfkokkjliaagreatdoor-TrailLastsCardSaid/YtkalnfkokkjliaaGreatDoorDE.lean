/- part -/
import Derived.Test.YtkalnfkokkjliaaGreatDoorDF
set_option linter.all false
set_option maxRecDepth 100000
namespace Dv
open Go Go.Proofs
variable {G:Nat→Option (List DV)}
def VO:=qx Tryz.f308
theorem Sh:aj Tryz.prog Tryz.f308=some VO:=by kernel_rfl
def VN:=qx Tryz.f309
theorem Sg:aj Tryz.prog Tryz.f309=some VN:=by kernel_rfl
def VL:=qx Tryz.f311
theorem Se:aj Tryz.prog Tryz.f311=some VL:=by kernel_rfl
def VW:=qx Tryz.f286
theorem Sr:aj Tryz.prog Tryz.f286=some VW:=by kernel_rfl
def VV:=qx Tryz.f287
theorem Sq:aj Tryz.prog Tryz.f287=some VV:=by kernel_rfl
def VU:=qx Tryz.f288
theorem Sn:aj Tryz.prog Tryz.f288=some VU:=by kernel_rfl
def Wq:=qx Tryz.f246
theorem SO:aj Tryz.prog Tryz.f246=some Wq:=by kernel_rfl
theorem th (s:aa) (n:a_):bh Tryz.prog G 308 [aY s,zq n] [] (.bool (kM s n)) []:=by
 refine bn Tryz.func308 (by decide) Sh rfl rfl ?_
 simp only [VO,go_sem]
 have e:kM s n=(n.up&&(!n.bw&&(n.version !=fM s))):=by unfold kM; rw [Bool.eq_iff_iff]; simp [and_assoc]
 rw [e]
 repeat' (first | ((first | with_reducible refine ek (fun h=>?_) (fun h=>?_) | refine di (fun h=>?_) (fun h=>?_)) <;> simp only [h,go_sem]) | (refine aU (jH s) rfl rfl rfl rfl ?_; simp only [go_sem]) | (refine ax (jH s) rfl rfl rfl rfl ?_; simp only [go_sem]) | ((first | with_reducible refine AL (fun h=>?_) (fun h=>?_) | refine gM (fun h=>?_) (fun h=>?_)) <;> simp only [h,go_sem]))
structure NJ (s:aa):Prop where
 nodes:s.nodes.length≤1000
 jobs:s.jobs.length≤1000
 aM:∀ k,k<s.nodes.length→0≤(s.nodes.getD k ai).aM∧(s.nodes.getD k ai).aM≤s.jobs.length
theorem DP.nj {c:aB} {s:aa} (h:DP c s):NJ s:=by
 have h1:=h.uW
 have h2:=h.nodes
 have h3:=h.jobs
 exact ⟨by omega,by omega,fun k hk=>⟨(h.node hk).2.2.1,(h.node hk).2.2.2⟩⟩
theorem wh (s:aa) (i:Int) (hs:NJ s):bh Tryz.prog G 309 [aY s,.int i] [] (.bool (tj s i)) []:=by
 refine bn Tryz.func309 (by decide) Sg rfl rfl ?_
 simp only [VN,go_sem]
 unfold tj
 cases h1:decide (i<0) with
 | true=>
   have vn:i<0:=of_decide_eq_true h1
   simp only [vn,go_sem]
 | false=>
   have vn:¬ i<0:=of_decide_eq_false h1
   simp only [vn,false_or,go_sem]
   cases h2:decide (i≥(s.nodes.length:Int)) with
   | true=>
     have Gj:(s.nodes.length:Int)≤i:=of_decide_eq_true h2
     simp only [Gj,go_sem]
   | false=>
     have Gj:¬ (s.nodes.length:Int)≤i:=of_decide_eq_false h2
     have h0:0≤i:=by omega
     have hk:i.toNat<s.nodes.length:=by omega
     have hg:=aK (f:=bX) ai hk
     have hjb:=hs.aM _ hk
     have hjl:=hs.jobs
     unfold lU t_
     generalize s.nodes.getD i.toNat ai=n at *
     simp only [h0,Gj,hg,go_sem]
     cases h3:(n.aM==0) with
     | true=>
       have HV:n.aM=0:=by simpa using h3
       simp only [HV,go_sem]
     | false=>
       have HV:n.aM≠0:=by simpa using h3
       have hw:IntKind.i64.wrap (n.aM-1)=n.aM-1:=aL (by omega) (by omega)
       have hg2:=aK (f:=dF) aD (show (n.aM-1).toNat<s.jobs.length by omega)
       have h4:0≤n.aM-1:=by omega
       generalize s.jobs.getD (n.aM-1).toNat aD=j at *
       have e:(decide (j.pin≠0)&&decide (j.pin≠fM s))=((j.pin !=0)&&(j.pin !=fM s)):=by rw [Bool.eq_iff_iff]; simp
       simp only [e,HV,hw,hg,hg2,h0,h4,go_sem]
       repeat' (first | ((first | with_reducible refine ek (fun h=>?_) (fun h=>?_) | refine di (fun h=>?_) (fun h=>?_)) <;> simp only [h,go_sem]) | (refine ax (jH s) rfl rfl rfl rfl ?_; simp only [go_sem]))
def DU (s:aa) (k:Nat):St:=⟨[(3,.int (pH (s.nodes.take k))),(7,bS s.nodes),(8,.int s.nodes.length),(9,.int k)],[some (.box 30 [bS s.nodes,de s.jobs,.int s.goal,.int s.prior,.int s.mode,.int s.term])]⟩
theorem M0 (s:aa) (hn:s.nodes.length≤1000):bh Tryz.prog G 311 [aY s] [] (.int (pH s.nodes)) []:=by
 refine bn Tryz.func311 (by decide) Se rfl rfl ?_
 simp only [VL,go_sem]
 refine aR [3,7,8,9] [] (fun k:Nat=>k≤s.nodes.length) (fun k=>s.nodes.length-k) (DU s) 0 ?_ (Nat.zero_le _) (fun k hk=>?_)
 ·simp only [DU,go_sem,pH,List.filter_nil,Int.natCast_zero]
 simp only [DU,go_sem]
 refine bp (fun h=>?_) (fun h=>?_)
 ·have h:=eA h
  have hb:=M1 (s.nodes.take k)
  rw [List.length_take] at hb
  have hs:s.nodes.take (k+1)=s.nodes.take k++[s.nodes[k]]:=by rw [List.take_succ_eq_append_getElem h]
  have hd:=Gt (s.nodes.take k) s.nodes[k]
  simp only [get_map h,go_sem]
  cases hc:s.nodes[k].cF <;> simp only [go_sem]
  ·refine bg (k+1) ?_ ?_ h (by omega)
   ·simp only [go_sem]
   ·simp only [DU,go_sem,aG (show k<9223372036854775807 by omega),hs,hd,hc,Bool.false_eq_true,Int.add_zero]
  ·refine bg (k+1) ?_ ?_ h (by omega)
   ·simp only [go_sem]
   ·simp only [DU,go_sem,aG (show k<9223372036854775807 by omega),hs,hd,hc,aL (show -9223372036854775808≤pH (s.nodes.take k)+1 by omega) (by omega)]
 ·obtain rfl:=eC h hk
  simp only [go_sem,List.take_length]
def mm (c:aB) (s:aa) (now:Int):LV:=.agg [.int c.nodes,.int c.bI,.int c.cH,.int c.iN,.int c.cr,.int c.eZ,.int c.deadline,.int c.room,.int c.gX,bS s.nodes,de s.jobs,.int s.goal,.int s.prior,.int s.mode,.int s.term,.int now]
theorem NU (c:aB) (s:aa) (now:Int) (k:Nat) (hs:NJ s) (hk:k<s.nodes.length):bh Tryz.prog G 286 [mm c s now,.int k] [] (.dH [tA ⟨17,k,0,0,0,0,0⟩,.bool (Ji s (s.nodes.getD k ai))]) []:=by
 refine bn Tryz.func286 (by decide) Sr rfl rfl ?_
 have hg:=aK (f:=bX) ai hk
 have ha:=qM s k hk
 generalize s.nodes.getD k ai=n at *
 obtain ⟨up,co,mo,ve,jo⟩:=n
 unfold Ji
 simp only [VW,mm,hg,go_sem]
 cases co <;> simp only [go_sem]
 cases up <;> simp only [go_sem]
 cases mo <;> simp only [go_sem]
 refine ax (th s ⟨true,true,false,ve,jo⟩) rfl rfl rfl rfl ?_; simp only [go_sem]
 cases hb:kM s ⟨true,true,false,ve,jo⟩ <;> simp only [go_sem]
 refine ax (wh s k hs) rfl rfl rfl rfl ?_; simp only [go_sem]
 rw [ha]
def iW (o:Option bT):LV:=.dH [tA (o.getD cU),.bool o.isSome]
theorem Mw (c:aB) (s:aa) (now:Int) (k:Nat) (hs:NJ s) (hk:k<s.nodes.length) (h1:-1000000000≤now+c.deadline∧now+c.deadline≤1000000000):bh Tryz.prog G 287 [mm c s now,.int k] [] (iW (lP c s now (s.nodes.getD k ai) k)) []:=by
 refine bn Tryz.func287 (by decide) Sq rfl rfl ?_
 have hg:=aK (f:=bX) ai hk
 have ha:=qM s k hk
 have hjb:=hs.aM _ hk
 have hjl:=hs.jobs
 have hwd:IntKind.i64.wrap (now+c.deadline)=now+c.deadline:=aL (by omega) (by omega)
 generalize s.nodes.getD k ai=n at *
 obtain ⟨up,co,mo,ve,jo⟩:=n
 unfold lP
 simp only [VV,mm,hg,go_sem]
 cases co with
 | false=>simp only [go_sem,iW,Option.getD_none,Option.isSome_none]
 | true=>
 simp only [Bool.true_eq_false,false_or,go_sem]
 refine ax (th s ⟨up,true,mo,ve,jo⟩) rfl rfl rfl rfl ?_; simp only [go_sem]
 cases hb:kM s ⟨up,true,mo,ve,jo⟩ with
 | false=>simp only [go_sem,iW,Option.getD_none,Option.isSome_none]
 | true=>
 simp only [Bool.true_eq_false,false_or,go_sem]
 refine ax (wh s k hs) rfl rfl rfl rfl ?_; simp only [go_sem]
 rw [ha]
 cases hal:lU s ⟨up,true,mo,ve,jo⟩ with
 | true=>simp only [go_sem,iW,Option.getD_none,Option.isSome_none]
 | false=>
 simp only [Bool.false_eq_true,go_sem]
 cases hj0:(jo==0) with
 | true=>
   have ZH:jo=0:=by simpa using hj0
   simp only [ZH,go_sem,iW,Option.getD_some,Option.isSome_some]
 | false=>
 have ZH:jo≠0:=by simpa using hj0
 have hw:IntKind.i64.wrap (jo-1)=jo-1:=aL (by dsimp only at hjb; omega) (by dsimp only at hjb; omega)
 have hg2:=aK (f:=dF) aD (show (jo-1).toNat<s.jobs.length by dsimp only at hjb; omega)
 have h4:0≤jo-1:=by dsimp only at hjb; omega
 generalize s.jobs.getD (jo-1).toNat aD=j at *
 simp only [hw,hg2,h4,ZH,go_sem]
 have e2:(if 1000000≤now+c.deadline then (1000000:Int) else now+c.deadline)=if now+c.deadline<1000000 then now+c.deadline else 1000000:=by split <;> split <;> omega
 rw [e2]
 cases hp1:(j.phase==1) with
 | true=>
   have HL:j.phase=1:=by simpa using hp1
   rw [if_pos HL]
   simp only [go_sem,iW,Option.getD_some,Option.isSome_some]
 | false=>
 have HL:¬ j.phase=1:=by simpa using hp1
 rw [if_neg HL]
 simp only [go_sem]
 cases hp2:(j.phase==2) with
 | false=>
   have hp2':¬ j.phase=2:=by simpa using hp2
   rw [if_neg (fun h=>hp2' h.1),if_neg (fun h=>hp2' h.1)]
   simp only [hp2,go_sem,iW,Option.getD_none,Option.isSome_none]
 | true=>
 have hp2':j.phase=2:=by simpa using hp2
 simp only [hp2',hp2,go_sem]
 refine aU (rz _) rfl rfl rfl rfl ?_; simp only [go_sem]
 cases hq:decide (many (j.nodes % 64)>j.min) with
 | true=>
   have hq':j.min<many (j.nodes % 64):=of_decide_eq_true hq
   rw [if_pos hq']
   simp only [go_sem,iW,Option.getD_some,Option.isSome_some]
 | false=>
 have hq':¬ j.min<many (j.nodes % 64):=of_decide_eq_false hq
 rw [if_neg hq']
 simp only [hp2,go_sem]
 refine aU (s8 s j.queue (by omega)) rfl rfl rfl rfl ?_; simp only [go_sem]
 cases hd:decide (cI s.jobs j.queue<c.cH) with
 | true=>
   have hd':=of_decide_eq_true hd
   rw [if_pos hd']
   simp only [hwd,go_sem,iW,Option.getD_some,Option.isSome_some]
 | false=>
   have hd':=of_decide_eq_false hd
   rw [if_neg hd']
   simp only [go_sem,iW,Option.getD_none,Option.isSome_none]
theorem Nl (c:aB) (s:aa) (now:Int) (k:Nat) (hs:NJ s) (hk:k<s.nodes.length):bh Tryz.prog G 288 [mm c s now,.int k] [] (.dH [tA ⟨16,k,0,0,0,0,0⟩,.bool (Eh c s (s.nodes.getD k ai))]) []:=by
 refine bn Tryz.func288 (by decide) Sn rfl rfl ?_
 have hg:=aK (f:=bX) ai hk
 have ha:=qM s k hk
 generalize s.nodes.getD k ai=n at *
 obtain ⟨up,co,mo,ve,jo⟩:=n
 unfold Eh
 simp only [VU,mm,hg,go_sem]
 cases co <;> simp only [go_sem]
 refine aU (th s ⟨up,false,mo,ve,jo⟩) rfl rfl rfl rfl ?_; simp only [go_sem]
 cases hb:kM s ⟨up,false,mo,ve,jo⟩ <;> simp only [go_sem]
 refine aU (wh s k hs) rfl rfl rfl rfl ?_; simp only [go_sem]
 rw [ha]
 cases hal:lU s ⟨up,false,mo,ve,jo⟩ <;> simp only [go_sem]
 refine aU (M0 s hs.nodes) rfl rfl rfl rfl ?_; simp only [go_sem]
end Dv
namespace Dv
open Go Go.Proofs
variable {G:Nat→Option (List DV)}
def M_:Nat→Nat
 | 0=>286
 | 1=>287
 | _=>288
def Bi (c:aB) (s:aa) (now:Int):Nat→a_→Int→Option bT
 | 0=>EH s
 | 1=>lP c s now
 | _=>yK c s
def tell (c:aB) (s:aa) (now:Int) (i:Nat) (n:a_) (k:Nat):bT×Bool:=match i with
 | 0=>(⟨17,k,0,0,0,0,0⟩,Ji s n)
 | 1=>((lP c s now n k).getD cU,(lP c s now n k).isSome)
 | _=>(⟨16,k,0,0,0,0,0⟩,Eh c s n)
theorem M9 (c:aB) (s:aa) (now:Int) (i:Nat) (n:a_) (k:Nat):Bi c s now i n k=if (tell c s now i n k).2=true then some (tell c s now i n k).1 else none:=by
 match i with
 | 0=>rfl
 | 1=>simp only [Bi,tell]; cases lP c s now n k <;> rfl
 | i+2=>rfl
theorem M8 (c:aB) (s:aa) (now:Int) (i k:Nat) (hs:NJ s) (hk:k<s.nodes.length) (h1:-1000000000≤now+c.deadline∧now+c.deadline≤1000000000) :
  bh Tryz.prog G (M_ i) [mm c s now,.int k] [] (.dH [tA (tell c s now i (s.nodes.getD k ai) k).1,.bool (tell c s now i (s.nodes.getD k ai) k).2]) []:=by
 match i with
 | 0=>exact NU c s now k hs hk
 | 1=>exact Mw c s now k hs hk h1
 | i+2=>exact Nl c s now k hs hk
def yU (c:aB) (s:aa) (now:Int):Nat→Option bT
 | 0=>match fE (EH s) s.nodes 0 with
   | some o=>some o
   | none=>match fE (lP c s now) s.nodes 0 with
     | some o=>some o
     | none=>fE (yK c s) s.nodes 0
 | 1=>match fE (lP c s now) s.nodes 0 with
   | some o=>some o
   | none=>fE (yK c s) s.nodes 0
 | 2=>fE (yK c s) s.nodes 0
 | _=>none
theorem NA (c:aB) (s:aa) (now:Int) (i:Nat) (hi:i<3):yU c s now i=match fE (Bi c s now i) s.nodes 0 with | some o=>some o | none=>yU c s now (i+1):=by
 match i,hi with
 | 0,_=>rfl
 | 1,_=>rfl
 | 2,_=>simp only [yU,Bi]; cases fE (yK c s) s.nodes 0 <;> rfl
def PU (c:aB) (s:aa) (now:Int):List LV:=[.fn (.func 286) [mm c s now] [],.fn (.func 287) [mm c s now] [],.fn (.func 288) [mm c s now] []]
theorem PT (c:aB) (s:aa) (now:Int) (i:Nat) (hi:i<3):((PU c s now).drop (i*1)).take 1=[.fn (.func (M_ i)) [mm c s now] []]:=by
 match i,hi with
 | 0,_=>rfl
 | 1,_=>rfl
 | 2,_=>rfl
def M3 (c:aB) (s:aa) (now:Int):List LV:=[.int c.nodes,.int c.bI,.int c.cH,.int c.iN,.int c.cr,.int c.eZ,.int c.deadline,.int c.room,.int c.gX,bS s.nodes,de s.jobs,.int s.goal,.int s.prior,.int s.mode,.int s.term,.int now]
def jq (c:aB) (s:aa) (now:Int):List (Option aC):=[some (.box 23 [.int c.nodes,.int c.bI,.int c.cH,.int c.iN,.int c.cr,.int c.eZ,.int c.deadline,.int c.room,.int c.gX]),some (.box 30 [bS s.nodes,de s.jobs,.int s.goal,.int s.prior,.int s.mode,.int s.term]),some (.box 37 [.int 0,.int 0,.int 0,.int 0,.int 0,.int 0,.int 0]),some (.box 326 (M3 c s now))]
def Jq (c:aB) (s:aa) (now:Int) (i:Nat):St:=⟨[(4,.ptr 1 0),(6,.ptr 2 0),(7,.bool false),(31,.agg (PU c s now)),(32,.int i)],jq c s now⟩
def Dc (c:aB) (s:aa) (now:Int) (i k:Nat):St:=⟨[(4,.ptr 1 0),(6,.ptr 2 0),(7,.bool false),(10,.ptr 4 0),(31,.agg (PU c s now)),(32,.int i),(37,.int s.nodes.length),(38,.int k)],jq c s now++[some (.box 328 [.fn (.func (M_ i)) [mm c s now] []])]⟩
theorem Oq (c:aB) (s:aa) (now:Int) (hs:NJ s) (h1:-1000000000≤now+c.deadline∧now+c.deadline≤1000000000):bh Tryz.prog G 246 [fN c,aY s,.int now] [] (iW (zw c s now)) []:=by
 refine bn Tryz.func246 (by decide) SO rfl rfl ?_
 unfold zw
 simp only [Wq,go_sem]
 cases hm:(s.mode==1) with
 | true=>
   have hm':s.mode=1:=by simpa using hm
   simp only [hm',go_sem,iW,Option.getD_none,Option.isSome_none]
 | false=>
 have hm':¬ s.mode=1:=by simpa using hm
 rw [if_neg hm']
 show W Tryz.prog G (Ends [.cn 6 7,.t 7] (iW (yU c s now 0))) _ _
 generalize hr:yU c s now 0=r
 simp only [go_sem]
 have hn:=hs.nodes
 refine aR [4,6,7,31,32] [] (fun i:Nat=>i≤3∧yU c s now i=r) (fun i=>3-i) (Jq c s now) 0 ?_ ⟨by omega,hr⟩ ?_
 ·simp only [Jq,jq,PU,M3,mm,go_sem,Int.natCast_zero]
 clear hr
 rintro i ⟨hi,hr⟩
 simp only [Jq,jq,go_sem]
 cases hlt:decide ((i:Int)<3) with
 | false=>
   have h3:i=3:=by have:=of_decide_eq_false hlt; omega
   subst h3
   simp only [yU] at hr
   simp only [← hr,go_sem,iW,Option.getD_none,Option.isSome_none]
 | true=>
 have h3:i<3:=by have:=of_decide_eq_true hlt; omega
 rw [NA c s now i h3] at hr
 have hg:=PT c s now i h3
 simp only [go_sem,hg,h3]
 have hv:∀ m,eB m (mm c s now)=true:=fun m=>rfl
 have hl:∀ m,eu m (M3 c s now)=true:=fun m=>rfl
 have hf:∀ m,eu m (PU c s now)=true:=fun m=>rfl
 generalize UE:fE (Bi c s now i) s.nodes 0=q at hr
 refine aR [4,6,7,10,31,32,37,38] [] (fun k:Nat=>k≤s.nodes.length∧fE (Bi c s now i) (s.nodes.drop k) k=q) (fun k=>s.nodes.length-k) (Dc c s now i) 0 ?_ ⟨Nat.zero_le _,UE⟩ ?_
 ·simp only [Dc,jq,go_sem,Int.natCast_zero]
 clear UE
 rintro k ⟨hk,hF⟩
 simp only [Dc,jq,go_sem]
 refine bp (fun h=>?_) (fun h=>?_)
 ·have h:=eA h
  rw [List.drop_eq_getElem_cons h,fE,M9] at hF
  simp only [go_sem]
  refine ax (M8 c s now i k hs h h1) rfl rfl (by rfl) rfl ?_
  rw [show s.nodes.getD k ai=s.nodes[k] by simp [List.getD,h]]
  generalize tell c s now i s.nodes[k] k=p at *
  obtain ⟨⟨o1,o2,o3,o4,o5,o6,o7⟩,b⟩:=p
  simp only [go_sem]
  cases b with
  | true=>
    simp only [if_true] at hF
    subst hF
    subst hr
    simp only [go_sem,iW,Option.getD_some,Option.isSome_some]
  | false=>
    simp only [Bool.false_eq_true,if_false] at hF
    simp only [go_sem]
    refine bg (k+1) ?_ ?_ ⟨h,hF⟩ (by omega)
    ·simp only [go_sem,hv,hl,hf]
    ·simp only [Dc,jq,go_sem,aG (show k<9223372036854775807 by omega)]
 ·obtain rfl:=eC h hk
  rw [List.drop_length,fE] at hF
  subst hF
  simp only [go_sem]
  refine bg (i+1) ?_ ?_ ⟨h3,hr⟩ (by omega)
  ·simp only [go_sem,hv,hl,hf]
  ·simp only [Jq,jq,go_sem,aG (show i<9223372036854775807 by omega)]
end Dv
