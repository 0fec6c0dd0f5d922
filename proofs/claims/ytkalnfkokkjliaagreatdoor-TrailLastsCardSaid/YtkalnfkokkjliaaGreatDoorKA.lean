/- part -/
import Derived.Test.YtkalnfkokkjliaaGreatDoorNA
import Derived.Test.YtkalnfkokkjliaaGreatDoorPB
import Derived.Test.YtkalnfkokkjliaaGreatDoorIB
import Derived.Test.YtkalnfkokkjliaaGreatDoorCA
set_option linter.all false
set_option maxRecDepth 100000
namespace Dv
open Go Go.Proofs
variable {G:Nat→Option (List DV)}
end Dv
namespace Dv
open Go Go.Proofs
variable {G:Nat→Option (List DV)}
theorem vv (l:List Int) (i j:Nat):l.take (i+j)=l.take i++(l.drop i).take j:=List.take_add
theorem PR {b:List Int} (hb:∀ c∈b,0≤c∧c≤255) {a fr:Nat} {n:Int} (hlt:a<b.length) (h0:b.getD a 0≠0) (hq:fZ b a=some (n,fr)) :
  1≤n∧(4000<n∨n>(b.length:Int)-fr→dJ b a=([],a,2))∧(n≤4000→n≤(b.length:Int)-fr→∀ p,p=(b.drop fr).take n.toNat→p.length=n.toNat∧dJ b a=if (eT p).length>b.length-a∨eT p≠(b.drop a).take (eT p).length then ([],a,2) else (p,a+(eT p).length,1)):=by
 obtain ⟨hi,hn,hf,hfl⟩:=LY hb hq
 have hr:=fW (fun c hc=>(hb c hc).1) hq
 have hgF:dJ b a=if n>4000∨n+4≥(b.length:Int)-fr then ([],a,2)
   else if rW ((b.drop fr).take (n.toNat+4))=false∨b.getD (fr+n.toNat+4) 0≠1 then ([],a,2)
   else ((b.drop fr).take n.toNat,fr+n.toNat+5,1):=by
  unfold dJ
  rw [if_neg (by omega),if_neg (by omega),hq]
 refine ⟨?_,fun h=>by rw [hgF,if_pos (by omega)],fun h1 h2 p hp=>?_⟩
 ·by_cases hz:n=0
  ·subst hz
   exfalso
   have e:br 0=[0]:=by decide
   rw [e] at hn
   have hh:=congrArg (fun l=>l.head?) hn
   rw [show fr-a=(fr-a-1)+1 by omega,List.drop_eq_getElem_cons hlt,List.take_succ_cons] at hh
   simp only [List.head?_cons,Option.some.injEq] at hh
   exact h0 (by rw [List.getD,List.getElem?_eq_getElem hlt]; exact hh.symm)
  ·have:=hr.1; omega
 ·obtain ⟨m,rfl⟩:=Int.eq_ofNat_of_zero_le hr.1
  rw [Int.toNat_natCast] at hp hgF ⊢
  have lZ:p.length=m:=by rw [hp,List.length_take,List.length_drop]; omega
  refine ⟨lZ,?_⟩
  by_cases hm0:m=0
  ·exfalso
   subst hm0
   have e:br ((0:Nat):Int)=[0]:=by decide
   rw [e] at hn
   have hh:=congrArg (fun l=>l.head?) hn
   rw [show fr-a=(fr-a-1)+1 by omega,List.drop_eq_getElem_cons hlt,List.take_succ_cons] at hh
   simp only [List.head?_cons,Option.some.injEq] at hh
   exact h0 (by rw [List.getD,List.getElem?_eq_getElem hlt]; exact hh.symm)
  have hP:eT p=br m++p++rH (iX 0 p)++[1]:=by unfold eT; rw [if_neg (by omega),lZ]
  have hnl:(br (m:Int)).length=fr-a:=by rw [hn,List.length_take,List.length_drop]; omega
  have hL:(eT p).length=fr-a+m+5:=by
   rw [hP,List.length_append,List.length_append,List.length_append,pP,hnl,lZ]; rfl
  by_cases h5:(m:Int)+4≥(b.length:Int)-fr
  ·rw [hgF,if_pos (.inr h5),if_pos (.inl (by omega))]
  rw [hgF,if_neg (by omega)]
  have hS:(b.drop a).take (eT p).length=br m++p++(b.drop (fr+m)).take 4++[b.getD (fr+m+4) 0]:=by
   rw [hL,show fr-a+m+5=(fr-a)+(m+(4+1)) by omega,vv,List.drop_drop,← hn,show a+(fr-a)=fr by omega,vv,← hp,List.drop_drop,vv,List.drop_drop,
    show fr+m+4=fr+m+4 from rfl,List.drop_eq_getElem_cons (show fr+m+4<b.length by omega),List.take_succ_cons,List.take_zero]
   simp [List.getD,List.getElem?_eq_getElem (show fr+m+4<b.length by omega)]
  have HK:rW ((b.drop fr).take (m+4))=decide (rH (iX 0 p)=(b.drop (fr+m)).take 4):=by
   have DS:((b.drop fr).take (m+4)).length=m+4:=by rw [List.length_take,List.length_drop]; omega
   unfold rW
   rw [DS,decide_eq_true (show 4≤m+4 by omega),Bool.true_and,show m+4-4=m by omega,List.take_take,show min m (m+4)=m by omega,← hp,List.drop_take,List.drop_drop,show m+4-m=4 by omega]
  rw [HK]
  have hiff:(eT p=(b.drop a).take (eT p).length)↔(rH (iX 0 p)=(b.drop (fr+m)).take 4∧b.getD (fr+m+4) 0=1):=by
   rw [hS,hP]
   constructor
   ·intro h
    have h3:=List.append_inj h (by simp [pP]; omega)
    have h4:=List.append_inj h3.1 (by simp)
    exact ⟨h4.2,by have:=h3.2; simp at this; exact this.symm⟩
   ·rintro ⟨h3,h4⟩
    rw [h3,h4]
  by_cases hE:eT p=(b.drop a).take (eT p).length
  ·have hb2:=hiff.1 hE
   rw [if_neg (by rw [hb2.2,decide_eq_true hb2.1]; simp),if_neg (by rintro (h | h); · omega
                                                                    ·exact h hE),hL,← hp]
   rw [show fr+m+5=a+(fr-a+m+5) by omega]
  ·rw [if_pos (by
    by_cases h3:rH (iX 0 p)=(b.drop (fr+m)).take 4
    ·exact .inr fun h4=>hE (hiff.2 ⟨h3,h4⟩)
    ·exact .inl (decide_eq_false h3)),if_pos (.inr hE)]
end Dv
namespace Dv
open Go Go.Proofs
variable {G:Nat→Option (List DV)}
def atR (a k:Nat):List (List DV):=(List.range k).map fun i=>[i64 ((a+i:Nat):Int)]
end Dv
namespace Dv
open Go Go.Proofs
variable {G:Nat→Option (List DV)}
end Dv
namespace Dv
open Go Go.Proofs
variable {G:Nat→Option (List DV)}
def AJ:Option (List Int×Int)→Int
 | none=>-1
 | some q=>q.2
theorem NI {l:List Int} (hb:∀ c∈l,0≤c∧c≤255) {fr sz k:Nat} {q:List Int×Int} (h:ic l fr sz k=some q):0≤q.2∧q.2≤eF:=by
 unfold ic at h
 split at h
 ·rw [Option.map_eq_some_iff] at h
  obtain ⟨⟨n,nx⟩,h1,h2⟩:=h
  subst h2
  have hsb:∀ c∈eo l fr sz k,0≤c∧c≤255:=fun c hc=>hb c (List.mem_of_mem_drop (List.mem_of_mem_take hc))
  have hr:=fW (fun c hc=>(hsb c ((qz (eo l fr sz k) 0).1 c hc)).1) h1
  exact ⟨hr.1,hr.2.1⟩
 ·cases h
def rJ:Option (List Int×Int)→List Int
 | none=>[]
 | some p=>p.1
end Dv
