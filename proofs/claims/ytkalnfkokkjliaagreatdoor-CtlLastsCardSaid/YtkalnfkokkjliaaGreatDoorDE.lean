/- part -/
import Derived.Test.YtkalnfkokkjliaaGreatDoorDF
set_option linter.all false
set_option maxRecDepth 100000
namespace Dv
open Go Go.Proofs
variable {G:Nat→Option (List DV)}
def W5:=qx Tryz.f308
theorem Tg:aj Tryz.prog Tryz.f308=some W5:=by kernel_rfl
def W4:=qx Tryz.f309
theorem Tf:aj Tryz.prog Tryz.f309=some W4:=by kernel_rfl
def WY:=qx Tryz.f311
theorem Td:aj Tryz.prog Tryz.f311=some WY:=by kernel_rfl
def Xc:=qx Tryz.f286
theorem To:aj Tryz.prog Tryz.f286=some Xc:=by kernel_rfl
def Xb:=qx Tryz.f287
theorem Tn:aj Tryz.prog Tryz.f287=some Xb:=by kernel_rfl
def Xa:=qx Tryz.f288
theorem Tm:aj Tryz.prog Tryz.f288=some Xa:=by kernel_rfl
def Xy:=qx Tryz.f246
theorem TJ:aj Tryz.prog Tryz.f246=some Xy:=by kernel_rfl
theorem tW (s:aa) (n:br):bu Tryz.prog G 308 [aX s,Ah n] [] (.bool (k_ s n)) []:=by
 refine bz Tryz.func308 (by decide) Tg rfl rfl ?_
 simp only [W5,go_sem]
 have e:k_ s n=(n.up&&(!n.bG&&(n.version !=gh s))):=by unfold k_; rw [Bool.eq_iff_iff]; simp [and_assoc]
 rw [e]
 repeat' (first | ((first | with_reducible refine eD (fun h=>?_) (fun h=>?_) | refine dH (fun h=>?_) (fun h=>?_)) <;> simp only [h,go_sem]) | (refine bf (jU s) rfl rfl rfl rfl ?_; simp only [go_sem]) | (refine av (jU s) rfl rfl rfl rfl ?_; simp only [go_sem]) | ((first | with_reducible refine Bv (fun h=>?_) (fun h=>?_) | refine ig (fun h=>?_) (fun h=>?_)) <;> simp only [h,go_sem]))
structure NJ (s:aa):Prop where
 nodes:s.nodes.length≤1000
 jobs:s.jobs.length≤1000
 aQ:∀ k,k<s.nodes.length→0≤(s.nodes.getD k ai).aQ∧(s.nodes.getD k ai).aQ≤s.jobs.length
theorem EN.nj {c:aF} {s:aa} (h:EN c s):NJ s:=by
 have h1:=h.vE
 have h2:=h.nodes
 have h3:=h.jobs
 exact ⟨by omega,by omega,fun k hk=>⟨(h.node hk).2.2.1,(h.node hk).2.2.2⟩⟩
theorem w_ (s:aa) (i:Int) (hs:NJ s):bu Tryz.prog G 309 [aX s,.int i] [] (.bool (tY s i)) []:=by
 refine bz Tryz.func309 (by decide) Tf rfl rfl ?_
 simp only [W4,go_sem]
 unfold tY
 cases h1:decide (i<0) with
 | true=>
   have yZ:i<0:=of_decide_eq_true h1
   simp only [yZ,go_sem]
 | false=>
   have yZ:¬ i<0:=of_decide_eq_false h1
   simp only [yZ,false_or,go_sem]
   cases h2:decide (i≥(s.nodes.length:Int)) with
   | true=>
     have Hl:(s.nodes.length:Int)≤i:=of_decide_eq_true h2
     simp only [Hl,go_sem]
   | false=>
     have Hl:¬ (s.nodes.length:Int)≤i:=of_decide_eq_false h2
     have h0:0≤i:=by omega
     have hk:i.toNat<s.nodes.length:=by omega
     have hg:=aM (f:=bZ) ai hk
     have hjb:=hs.aQ _ hk
     have hjl:=hs.jobs
     unfold mH uH
     generalize s.nodes.getD i.toNat ai=n at *
     simp only [h0,Hl,hg,go_sem]
     cases h3:(n.aQ==0) with
     | true=>
       have I9:n.aQ=0:=by simpa using h3
       simp only [I9,go_sem]
     | false=>
       have I9:n.aQ≠0:=by simpa using h3
       have hw:IntKind.i64.wrap (n.aQ-1)=n.aQ-1:=aO (by omega) (by omega)
       have hg2:=aM (f:=dJ) az (show (n.aQ-1).toNat<s.jobs.length by omega)
       have h4:0≤n.aQ-1:=by omega
       generalize s.jobs.getD (n.aQ-1).toNat az=j at *
       have e:(decide (j.pin≠0)&&decide (j.pin≠gh s))=((j.pin !=0)&&(j.pin !=gh s)):=by rw [Bool.eq_iff_iff]; simp
       simp only [e,I9,hw,hg,hg2,h0,h4,go_sem]
       repeat' (first | ((first | with_reducible refine eD (fun h=>?_) (fun h=>?_) | refine dH (fun h=>?_) (fun h=>?_)) <;> simp only [h,go_sem]) | (refine av (jU s) rfl rfl rfl rfl ?_; simp only [go_sem]))
def EW (s:aa) (k:Nat):St:=⟨[(3,.int (qb (s.nodes.take k))),(7,bS s.nodes),(8,.int s.nodes.length),(9,.int k)],[some (.box 30 [bS s.nodes,cZ s.jobs,.int s.goal,.int s.prior,.int s.mode,.int s.term])]⟩
theorem NT (s:aa) (hn:s.nodes.length≤1000):bu Tryz.prog G 311 [aX s] [] (.int (qb s.nodes)) []:=by
 refine bz Tryz.func311 (by decide) Td rfl rfl ?_
 simp only [WY,go_sem]
 refine aW [3,7,8,9] [] (fun k:Nat=>k≤s.nodes.length) (fun k=>s.nodes.length-k) (EW s) 0 ?_ (Nat.zero_le _) (fun k hk=>?_)
 ·simp only [EW,go_sem,qb,List.filter_nil,Int.natCast_zero]
 simp only [EW,go_sem]
 refine bA (fun h=>?_) (fun h=>?_)
 ·have h:=eR h
  have hb:=NU (s.nodes.take k)
  rw [List.length_take] at hb
  have hs:s.nodes.take (k+1)=s.nodes.take k++[s.nodes[k]]:=by rw [List.take_succ_eq_append_getElem h]
  have hd:=Hv (s.nodes.take k) s.nodes[k]
  simp only [get_map h,go_sem]
  cases hc:s.nodes[k].cQ <;> simp only [go_sem]
  ·refine bh (k+1) ?_ ?_ h (by omega)
   ·simp only [go_sem]
   ·simp only [EW,go_sem,aH (show k<9223372036854775807 by omega),hs,hd,hc,Bool.false_eq_true,Int.add_zero]
  ·refine bh (k+1) ?_ ?_ h (by omega)
   ·simp only [go_sem]
   ·simp only [EW,go_sem,aH (show k<9223372036854775807 by omega),hs,hd,hc,aO (show -9223372036854775808≤qb (s.nodes.take k)+1 by omega) (by omega)]
 ·obtain rfl:=eS h hk
  simp only [go_sem,List.take_length]
def mP (c:aF) (s:aa) (now:Int):LV:=.agg [.int c.nodes,.int c.bL,.int c.cE,.int c.gT,.int c.cc,.int c.eG,.int c.deadline,.int c.room,.int c.ga,bS s.nodes,cZ s.jobs,.int s.goal,.int s.prior,.int s.mode,.int s.term,.int now]
theorem OV (c:aF) (s:aa) (now:Int) (k:Nat) (hs:NJ s) (hk:k<s.nodes.length):bu Tryz.prog G 286 [mP c s now,.int k] [] (.dM [tF ⟨17,k,0,0,0,0,0⟩,.bool (Kg s (s.nodes.getD k ai))]) []:=by
 refine bz Tryz.func286 (by decide) To rfl rfl ?_
 have hg:=aM (f:=bZ) ai hk
 have ha:=rI s k hk
 generalize s.nodes.getD k ai=n at *
 obtain ⟨up,co,mo,ve,jo⟩:=n
 unfold Kg
 simp only [Xc,mP,hg,go_sem]
 cases co <;> simp only [go_sem]
 cases up <;> simp only [go_sem]
 cases mo <;> simp only [go_sem]
 refine av (tW s ⟨true,true,false,ve,jo⟩) rfl rfl rfl rfl ?_; simp only [go_sem]
 cases hb:k_ s ⟨true,true,false,ve,jo⟩ <;> simp only [go_sem]
 refine av (w_ s k hs) rfl rfl rfl rfl ?_; simp only [go_sem]
 rw [ha]
def jv (o:Option cB):LV:=.dM [tF (o.getD iA),.bool o.isSome]
theorem Nn (c:aF) (s:aa) (now:Int) (k:Nat) (hs:NJ s) (hk:k<s.nodes.length) (h1:-1000000000≤now+c.deadline∧now+c.deadline≤1000000000):bu Tryz.prog G 287 [mP c s now,.int k] [] (jv (mz c s now (s.nodes.getD k ai) k)) []:=by
 refine bz Tryz.func287 (by decide) Tn rfl rfl ?_
 have hg:=aM (f:=bZ) ai hk
 have ha:=rI s k hk
 have hjb:=hs.aQ _ hk
 have hjl:=hs.jobs
 have hwd:IntKind.i64.wrap (now+c.deadline)=now+c.deadline:=aO (by omega) (by omega)
 generalize s.nodes.getD k ai=n at *
 obtain ⟨up,co,mo,ve,jo⟩:=n
 unfold mz
 simp only [Xb,mP,hg,go_sem]
 cases co with
 | false=>simp only [go_sem,jv,Option.getD_none,Option.isSome_none]
 | true=>
 simp only [Bool.true_eq_false,false_or,go_sem]
 refine av (tW s ⟨up,true,mo,ve,jo⟩) rfl rfl rfl rfl ?_; simp only [go_sem]
 cases hb:k_ s ⟨up,true,mo,ve,jo⟩ with
 | false=>simp only [go_sem,jv,Option.getD_none,Option.isSome_none]
 | true=>
 simp only [Bool.true_eq_false,false_or,go_sem]
 refine av (w_ s k hs) rfl rfl rfl rfl ?_; simp only [go_sem]
 rw [ha]
 cases hal:mH s ⟨up,true,mo,ve,jo⟩ with
 | true=>simp only [go_sem,jv,Option.getD_none,Option.isSome_none]
 | false=>
 simp only [Bool.false_eq_true,go_sem]
 cases hj0:(jo==0) with
 | true=>
   have aau:jo=0:=by simpa using hj0
   simp only [aau,go_sem,jv,Option.getD_some,Option.isSome_some]
 | false=>
 have aau:jo≠0:=by simpa using hj0
 have hw:IntKind.i64.wrap (jo-1)=jo-1:=aO (by dsimp only at hjb; omega) (by dsimp only at hjb; omega)
 have hg2:=aM (f:=dJ) az (show (jo-1).toNat<s.jobs.length by dsimp only at hjb; omega)
 have h4:0≤jo-1:=by dsimp only at hjb; omega
 generalize s.jobs.getD (jo-1).toNat az=j at *
 simp only [hw,hg2,h4,aau,go_sem]
 have e2:(if 1000000≤now+c.deadline then (1000000:Int) else now+c.deadline)=if now+c.deadline<1000000 then now+c.deadline else 1000000:=by split <;> split <;> omega
 rw [e2]
 cases hp1:(j.phase==1) with
 | true=>
   have IQ:j.phase=1:=by simpa using hp1
   rw [if_pos IQ]
   simp only [go_sem,jv,Option.getD_some,Option.isSome_some]
 | false=>
 have IQ:¬ j.phase=1:=by simpa using hp1
 rw [if_neg IQ]
 simp only [go_sem]
 cases hp2:(j.phase==2) with
 | false=>
   have hp2':¬ j.phase=2:=by simpa using hp2
   rw [if_neg (fun h=>hp2' h.1),if_neg (fun h=>hp2' h.1)]
   simp only [hp2,go_sem,jv,Option.getD_none,Option.isSome_none]
 | true=>
 have hp2':j.phase=2:=by simpa using hp2
 simp only [hp2',hp2,go_sem]
 refine bf (sn _) rfl rfl rfl rfl ?_; simp only [go_sem]
 cases hq:decide (many (j.nodes % 64)>j.min) with
 | true=>
   have hq':j.min<many (j.nodes % 64):=of_decide_eq_true hq
   rw [if_pos hq']
   simp only [go_sem,jv,Option.getD_some,Option.isSome_some]
 | false=>
 have hq':¬ j.min<many (j.nodes % 64):=of_decide_eq_false hq
 rw [if_neg hq']
 simp only [hp2,go_sem]
 refine bf (tR s j.queue (by omega)) rfl rfl rfl rfl ?_; simp only [go_sem]
 cases hd:decide (cV s.jobs j.queue<c.cE) with
 | true=>
   have hd':=of_decide_eq_true hd
   rw [if_pos hd']
   simp only [hwd,go_sem,jv,Option.getD_some,Option.isSome_some]
 | false=>
   have hd':=of_decide_eq_false hd
   rw [if_neg hd']
   simp only [go_sem,jv,Option.getD_none,Option.isSome_none]
theorem Ol (c:aF) (s:aa) (now:Int) (k:Nat) (hs:NJ s) (hk:k<s.nodes.length):bu Tryz.prog G 288 [mP c s now,.int k] [] (.dM [tF ⟨16,k,0,0,0,0,0⟩,.bool (Ff c s (s.nodes.getD k ai))]) []:=by
 refine bz Tryz.func288 (by decide) Tm rfl rfl ?_
 have hg:=aM (f:=bZ) ai hk
 have ha:=rI s k hk
 generalize s.nodes.getD k ai=n at *
 obtain ⟨up,co,mo,ve,jo⟩:=n
 unfold Ff
 simp only [Xa,mP,hg,go_sem]
 cases co <;> simp only [go_sem]
 refine bf (tW s ⟨up,false,mo,ve,jo⟩) rfl rfl rfl rfl ?_; simp only [go_sem]
 cases hb:k_ s ⟨up,false,mo,ve,jo⟩ <;> simp only [go_sem]
 refine bf (w_ s k hs) rfl rfl rfl rfl ?_; simp only [go_sem]
 rw [ha]
 cases hal:mH s ⟨up,false,mo,ve,jo⟩ <;> simp only [go_sem]
 refine bf (NT s hs.nodes) rfl rfl rfl rfl ?_; simp only [go_sem]
end Dv
namespace Dv
open Go Go.Proofs
variable {G:Nat→Option (List DV)}
def Oa:Nat→Nat
 | 0=>286
 | 1=>287
 | _=>288
def B4 (c:aF) (s:aa) (now:Int):Nat→br→Int→Option cB
 | 0=>FF s
 | 1=>mz c s now
 | _=>zz c s
def tell (c:aF) (s:aa) (now:Int) (i:Nat) (n:br) (k:Nat):cB×Bool:=match i with
 | 0=>(⟨17,k,0,0,0,0,0⟩,Kg s n)
 | 1=>((mz c s now n k).getD iA,(mz c s now n k).isSome)
 | _=>(⟨16,k,0,0,0,0,0⟩,Ff c s n)
theorem N_ (c:aF) (s:aa) (now:Int) (i:Nat) (n:br) (k:Nat):B4 c s now i n k=if (tell c s now i n k).2=true then some (tell c s now i n k).1 else none:=by
 match i with
 | 0=>rfl
 | 1=>simp only [B4,tell]; cases mz c s now n k <;> rfl
 | i+2=>rfl
theorem N0 (c:aF) (s:aa) (now:Int) (i k:Nat) (hs:NJ s) (hk:k<s.nodes.length) (h1:-1000000000≤now+c.deadline∧now+c.deadline≤1000000000) :
  bu Tryz.prog G (Oa i) [mP c s now,.int k] [] (.dM [tF (tell c s now i (s.nodes.getD k ai) k).1,.bool (tell c s now i (s.nodes.getD k ai) k).2]) []:=by
 match i with
 | 0=>exact OV c s now k hs hk
 | 1=>exact Nn c s now k hs hk h1
 | i+2=>exact Ol c s now k hs hk
def zI (c:aF) (s:aa) (now:Int):Nat→Option cB
 | 0=>match fM (FF s) s.nodes 0 with
   | some o=>some o
   | none=>match fM (mz c s now) s.nodes 0 with
     | some o=>some o
     | none=>fM (zz c s) s.nodes 0
 | 1=>match fM (mz c s now) s.nodes 0 with
   | some o=>some o
   | none=>fM (zz c s) s.nodes 0
 | 2=>fM (zz c s) s.nodes 0
 | _=>none
theorem OD (c:aF) (s:aa) (now:Int) (i:Nat) (hi:i<3):zI c s now i=match fM (B4 c s now i) s.nodes 0 with | some o=>some o | none=>zI c s now (i+1):=by
 match i,hi with
 | 0,_=>rfl
 | 1,_=>rfl
 | 2,_=>simp only [zI,B4]; cases fM (zz c s) s.nodes 0 <;> rfl
def Q0 (c:aF) (s:aa) (now:Int):List LV:=[.fn (.func 286) [mP c s now] [],.fn (.func 287) [mP c s now] [],.fn (.func 288) [mP c s now] []]
theorem QZ (c:aF) (s:aa) (now:Int) (i:Nat) (hi:i<3):((Q0 c s now).drop (i*1)).take 1=[.fn (.func (Oa i)) [mP c s now] []]:=by
 match i,hi with
 | 0,_=>rfl
 | 1,_=>rfl
 | 2,_=>rfl
def NV (c:aF) (s:aa) (now:Int):List LV:=[.int c.nodes,.int c.bL,.int c.cE,.int c.gT,.int c.cc,.int c.eG,.int c.deadline,.int c.room,.int c.ga,bS s.nodes,cZ s.jobs,.int s.goal,.int s.prior,.int s.mode,.int s.term,.int now]
def jH (c:aF) (s:aa) (now:Int):List (Option aG):=[some (.box 23 [.int c.nodes,.int c.bL,.int c.cE,.int c.gT,.int c.cc,.int c.eG,.int c.deadline,.int c.room,.int c.ga]),some (.box 30 [bS s.nodes,cZ s.jobs,.int s.goal,.int s.prior,.int s.mode,.int s.term]),some (.box 37 [.int 0,.int 0,.int 0,.int 0,.int 0,.int 0,.int 0]),some (.box 326 (NV c s now))]
def Kl (c:aF) (s:aa) (now:Int) (i:Nat):St:=⟨[(4,.ptr 1 0),(6,.ptr 2 0),(7,.bool false),(31,.agg (Q0 c s now)),(32,.int i)],jH c s now⟩
def D8 (c:aF) (s:aa) (now:Int) (i k:Nat):St:=⟨[(4,.ptr 1 0),(6,.ptr 2 0),(7,.bool false),(10,.ptr 4 0),(31,.agg (Q0 c s now)),(32,.int i),(37,.int s.nodes.length),(38,.int k)],jH c s now++[some (.box 328 [.fn (.func (Oa i)) [mP c s now] []])]⟩
theorem Ph (c:aF) (s:aa) (now:Int) (hs:NJ s) (h1:-1000000000≤now+c.deadline∧now+c.deadline≤1000000000):bu Tryz.prog G 246 [fN c,aX s,.int now] [] (jv (Aj c s now)) []:=by
 refine bz Tryz.func246 (by decide) TJ rfl rfl ?_
 unfold Aj
 simp only [Xy,go_sem]
 cases hm:(s.mode==1) with
 | true=>
   have hm':s.mode=1:=by simpa using hm
   simp only [hm',go_sem,jv,Option.getD_none,Option.isSome_none]
 | false=>
 have hm':¬ s.mode=1:=by simpa using hm
 rw [if_neg hm']
 show W Tryz.prog G (Ends [.cn 6 7,.t 7] (jv (zI c s now 0))) _ _
 generalize hr:zI c s now 0=r
 simp only [go_sem]
 have hn:=hs.nodes
 refine aW [4,6,7,31,32] [] (fun i:Nat=>i≤3∧zI c s now i=r) (fun i=>3-i) (Kl c s now) 0 ?_ ⟨by omega,hr⟩ ?_
 ·simp only [Kl,jH,Q0,NV,mP,go_sem,Int.natCast_zero]
 clear hr
 rintro i ⟨hi,hr⟩
 simp only [Kl,jH,go_sem]
 cases hlt:decide ((i:Int)<3) with
 | false=>
   have h3:i=3:=by have:=of_decide_eq_false hlt; omega
   subst h3
   simp only [zI] at hr
   simp only [← hr,go_sem,jv,Option.getD_none,Option.isSome_none]
 | true=>
 have h3:i<3:=by have:=of_decide_eq_true hlt; omega
 rw [OD c s now i h3] at hr
 have hg:=QZ c s now i h3
 simp only [go_sem,hg,h3]
 have hv:∀ m,eN m (mP c s now)=true:=fun m=>rfl
 have hl:∀ m,eE m (NV c s now)=true:=fun m=>rfl
 have hf:∀ m,eE m (Q0 c s now)=true:=fun m=>rfl
 generalize Vy:fM (B4 c s now i) s.nodes 0=q at hr
 refine aW [4,6,7,10,31,32,37,38] [] (fun k:Nat=>k≤s.nodes.length∧fM (B4 c s now i) (s.nodes.drop k) k=q) (fun k=>s.nodes.length-k) (D8 c s now i) 0 ?_ ⟨Nat.zero_le _,Vy⟩ ?_
 ·simp only [D8,jH,go_sem,Int.natCast_zero]
 clear Vy
 rintro k ⟨hk,hF⟩
 simp only [D8,jH,go_sem]
 refine bA (fun h=>?_) (fun h=>?_)
 ·have h:=eR h
  rw [List.drop_eq_getElem_cons h,fM,N_] at hF
  simp only [go_sem]
  refine av (N0 c s now i k hs h h1) rfl rfl (by rfl) rfl ?_
  rw [show s.nodes.getD k ai=s.nodes[k] by simp [List.getD,h]]
  generalize tell c s now i s.nodes[k] k=p at *
  obtain ⟨⟨o1,o2,o3,o4,o5,o6,o7⟩,b⟩:=p
  simp only [go_sem]
  cases b with
  | true=>
    simp only [if_true] at hF
    subst hF
    subst hr
    simp only [go_sem,jv,Option.getD_some,Option.isSome_some]
  | false=>
    simp only [Bool.false_eq_true,if_false] at hF
    simp only [go_sem]
    refine bh (k+1) ?_ ?_ ⟨h,hF⟩ (by omega)
    ·simp only [go_sem,hv,hl,hf]
    ·simp only [D8,jH,go_sem,aH (show k<9223372036854775807 by omega)]
 ·obtain rfl:=eS h hk
  rw [List.drop_length,fM] at hF
  subst hF
  simp only [go_sem]
  refine bh (i+1) ?_ ?_ ⟨h3,hr⟩ (by omega)
  ·simp only [go_sem,hv,hl,hf]
  ·simp only [Kl,jH,go_sem,aH (show i<9223372036854775807 by omega)]
end Dv
