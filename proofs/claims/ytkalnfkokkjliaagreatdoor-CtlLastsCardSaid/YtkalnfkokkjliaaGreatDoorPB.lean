/- part -/
import Derived.Test.YtkalnfkokkjliaaGreatDoorPA
set_option linter.all false
namespace Dv
def Cy (f v j:Int):br:=⟨hasB f 0,hasB f 1,hasB f 2,v,j⟩
def uJ (ns:List br) (js:List bQ) (p:Nat):List Int→Except Nat aa
 | []=>.error p
 | [_]=>.error (p+1)
 | [_,_]=>.error (p+2)
 | [_,_,_]=>.error (p+3)
 | [g,a,m,t]=>.ok ⟨ns,js,g,a,m,t⟩
 | _::_::_::_::_::_=>.error (p+4)
def qO (ns:List br):Nat→List bQ→Nat→List Int→Except Nat aa
 | 0,js,p,l=>uJ ns js p l
 | n+1,js,p,x0::x1::x2::x3::x4::x5::x6::x7::x8::x9::x10::x11::r=>qO ns n (js++[⟨x0,x1,x2,x3,x4,x5,x6,x7,x8,x9,x10,x11⟩]) (p+12) r
 | _+1,_,p,l=>.error (p+l.length)
def tD (ns:List br) (p:Nat):List Int→Except Nat aa
 | []=>.error p
 | m::r=>if m≤24 then qO ns m.toNat [] (p+1) r else .error (p+1)
def iC:Nat→List br→Nat→List Int→Except Nat aa
 | 0,ns,p,l=>tD ns p l
 | n+1,ns,p,l=>match l with
   | []=>.error p
   | f::r=>if f≤7 then (match r with
     | []=>.error (p+1)
     | [_]=>.error (p+2)
     | v::j::r=>iC n (ns++[Cy f v j]) (p+3) r) else .error (p+1)
def kJ (l:List Int):Except Nat aa:=match l with
 | []=>.error 0
 | n::r=>if n≤6 then iC n.toNat [] 1 r else .error 1
theorem xH (ns:List br) (p:Nat) (l:List Int):iC 0 ns p l=tD ns p l:=by cases l <;> rfl
theorem H6 (n:Nat) (ns:List br) (p:Nat):iC (n+1) ns p []=.error p:=rfl
theorem HZ (n:Nat) (ns:List br) (p:Nat) (f:Int) (r:List Int) (h:¬ f≤7):iC (n+1) ns p (f::r)=.error (p+1):=by
 simp [iC,h]
theorem OM (n:Nat) (ns:List br) (p:Nat) (f:Int) (h:f≤7):iC (n+1) ns p [f]=.error (p+1):=by
 simp [iC,h]
theorem L4 (n:Nat) (ns:List br) (p:Nat) (f v:Int) (h:f≤7):iC (n+1) ns p [f,v]=.error (p+2):=by
 simp [iC,h]
theorem zU (n:Nat) (ns:List br) (p:Nat) (f v j:Int) (r:List Int) (h:f≤7):iC (n+1) ns p (f::v::j::r)=iC n (ns++[Cy f v j]) (p+3) r:=by
 simp [iC,h]
theorem H7 (ns:List br) (p:Nat) (m:Int) (r:List Int) (h:¬ m≤24):tD ns p (m::r)=.error (p+1):=by simp [tD,h]
theorem Cr (ns:List br) (p:Nat) (m:Int) (r:List Int) (h:m≤24):tD ns p (m::r)=qO ns m.toNat [] (p+1) r:=by simp [tD,h]
theorem zV (ns:List br) (js:List bQ) (p:Nat) (l:List Int):qO ns 0 js p l=uJ ns js p l:=by simp [qO]
theorem zW (ns:List br) (n:Nat) (js:List bQ) (p:Nat) (x0 x1 x2 x3 x4 x5 x6 x7 x8 x9 x10 x11:Int) (r:List Int):qO ns (n+1) js p (x0::x1::x2::x3::x4::x5::x6::x7::x8::x9::x10::x11::r)=qO ns n (js++[⟨x0,x1,x2,x3,x4,x5,x6,x7,x8,x9,x10,x11⟩]) (p+12) r:=by simp [qO]
theorem cM {xs:List Int} {k:Nat} (h:xs.drop k=[]) (hk:k≤xs.length):k=xs.length:=by
 have:=List.drop_eq_nil_iff.1 h
 omega
theorem cr {xs:List Int} {k:Nat} {x:Int} {r:List Int} (h:xs.drop k=x::r):k<xs.length∧xs.getD k 0=x∧xs.drop (k+1)=r:=by
 have hk:k<xs.length:=by
  rcases Nat.lt_or_ge k xs.length with h1 | h1
  ·exact h1
  ·rw [List.drop_eq_nil_of_le h1] at h; cases h
 rw [List.drop_eq_getElem_cons hk] at h
 cases h
 exact ⟨hk,by simp [List.getD,hk],rfl⟩
end Dv
namespace Dv
def eV:Int:=9007199254740991
def iM:Nat→Int→List Int
 | 0,n=>[n]
 | f+1,n=>if 128≤n then (n % 128+128)::iM f (n / 128) else [n]
def isNum (n:Int):Bool:=decide (0≤n∧n≤eV)
def bw (n:Int):List Int:=if isNum n=true then iM 8 n else []
def jJ (l:List Int):List Int:=if l.all isNum=true then bw l.length++l.flatMap bw else []
def kj:List Int→Nat→Int→Option (Int×Nat)
 | [],_,_=>none
 | c::r,i,n=>if 8≤i then none
   else if 128≤c then kj r (i+1) (n+c % 128*128 ^ i)
   else if (c=0∧0<i)∨eV<n+c % 128*128 ^ i then none
   else some (n+c % 128*128 ^ i,i+1)
def f_ (b:List Int) (at0:Nat):Option (Int×Nat):=(kj (b.drop at0) 0 0).map fun p=>(p.1,at0+p.2)
def ri (b:List Int):Nat→Nat→Option (List Int×Nat)
 | 0,p=>some ([],p)
 | k+1,p=>match f_ b p with
   | none=>none
   | some (x,p')=>(ri b k p').map fun q=>(x::q.1,q.2)
def wR (b:List Int) (p many:Nat):Option (List Int×Nat):=match f_ b p with
 | none=>none
 | some (n,p')=>if (many:Int)<n then none else ri b n.toNat p'
def vi (c:aF) (b:List Int):Option aa:=match wR b 0 400 with
 | none=>none
 | some (xs,e)=>if e=b.length then (match kJ xs with
   | .error _=>none
   | .ok s=>if iR c s=true then some s else none) else none
def xu:aa:=⟨[],[],0,0,0,0⟩
theorem zB:∀ (l:List Int) (i:Nat) (n:Int),kj (l.take (8-i)) i n=kj l i n
 | [],i,n=>by simp
 | c::r,i,n=>by
   by_cases h:8≤i
   ·rw [show 8-i=0 by omega,List.take_zero]
    unfold kj
    rw [if_pos h]
   ·rw [show 8-i=(8-(i+1))+1 by omega,List.take_succ_cons]
    simp only [kj,if_neg h,zB r (i+1)]
theorem Cd:∀ (l:List Int) (i:Nat) (n x:Int) (k:Nat),(∀ c∈l,0≤c)→0≤n→kj l i n=some (x,k)→0≤x∧x≤eV∧i<k∧k≤i+l.length
 | [],_,_,_,_,_,_,h=>by cases h
 | c::r,i,n,x,k,hc,hn,h=>by
   have h0:0≤c:=hc c (by simp)
   have hp:(0:Int)≤128 ^ i:=Int.le_of_lt (Int.pow_pos (by decide))
   have h1:0≤c % 128*128 ^ i:=Int.mul_nonneg (Int.emod_nonneg _ (by decide)) hp
   unfold kj at h
   split at h
   ·cases h
   split at h
   ·have:=Cd r (i+1) _ x k (fun d hd=>hc d (by simp [hd])) (by omega) h
    simp only [List.length_cons]
    omega
   split at h
   ·cases h
   ·rename_i hne
    cases h
    refine ⟨by omega,?_,by omega,by simp⟩
    simp only [not_or,Int.not_lt] at hne
    exact hne.2
theorem gv {b:List Int} {p p':Nat} {x:Int} (hb:∀ c∈b,0≤c) (h:f_ b p=some (x,p')):0≤x∧x≤eV∧p<p'∧p'≤b.length:=by
 unfold f_ at h
 rw [Option.map_eq_some_iff] at h
 obtain ⟨⟨y,k⟩,h1,h2⟩:=h
 cases h2
 have hr:=Cd _ _ _ _ _ (fun c hc=>hb c (List.mem_of_mem_drop hc)) (Int.le_refl 0) h1
 rw [List.length_drop] at hr
 dsimp only
 omega
theorem CT {b:List Int} (hb:∀ c∈b,0≤c):∀ (k p:Nat) (xs:List Int) (e:Nat),ri b k p=some (xs,e)→p≤b.length→xs.length=k∧(∀ x∈xs,0≤x∧x≤eV)∧p≤e∧e≤b.length
 | 0,p,xs,e,h,hp=>by cases h; exact ⟨rfl,(fun _ h=>absurd h (by simp)),Nat.le_refl _,hp⟩
 | k+1,p,xs,e,h,hp=>by
   unfold ri at h
   split at h
   ·cases h
   ·rename_i x p' hx
    rw [Option.map_eq_some_iff] at h
    obtain ⟨⟨ys,e'⟩,h1,h2⟩:=h
    cases h2
    have hr:=gv hb hx
    obtain ⟨k1,k2,k3,k4⟩:=CT hb k p' ys e' h1 hr.2.2.2
    refine ⟨by simp [k1],fun y hy=>?_,by dsimp only; omega,k4⟩
    rcases List.mem_cons.1 hy with rfl | hy
    ·exact ⟨hr.1,hr.2.1⟩
    ·exact k2 y hy
theorem Gp {b:List Int} (hb:∀ c∈b,0≤c) {p many:Nat} {xs:List Int} {e:Nat} (h:wR b p many=some (xs,e)):xs.length≤many∧(∀ x∈xs,0≤x∧x≤eV)∧e≤b.length:=by
 unfold wR at h
 split at h
 ·cases h
 ·rename_i n p' hn
  have hr:=gv hb hn
  split at h
  ·cases h
  ·obtain ⟨k1,k2,_,k4⟩:=CT hb _ _ _ _ h hr.2.2.2
   exact ⟨by omega,k2,k4⟩
end Dv
namespace Dv
def sD (b:Bool) (n:Int):Int:=if b=true then n else 0
def sV (n:br):Int:=sD n.up 1+sD n.cQ 2+sD n.bG 4
def iS (n:br):List Int:=[sV n,n.version,n.aQ]
def kO (j:bQ):List Int:=[j.queue,j.prio,j.min,j.max,j.work,j.pin,j.phase,j.inc,j.nodes,j.since,j.til,j.epoch]
def nZ (s:aa) (i:Nat):List Int:=(s.nodes.length:Int)::(s.nodes.take i).flatMap iS
def qS (s:aa) (i:Nat):List Int:=nZ s s.nodes.length++(s.jobs.length:Int)::(s.jobs.take i).flatMap kO
def fZ (s:aa):List Int:=qS s s.jobs.length++[s.goal,s.prior,s.mode,s.term]
def jN (s:aa):List Int:=if s.nodes.length≤6∧s.jobs.length≤24 then jJ (fZ s) else []
theorem Ih (l:List br):(l.flatMap iS).length=3*l.length:=by
 induction l with
 | nil=>rfl
 | cons n l ih=>rw [List.flatMap_cons,List.length_append,List.length_cons,ih]; simp [iS]; omega
theorem My (l:List bQ):(l.flatMap kO).length=12*l.length:=by
 induction l with
 | nil=>rfl
 | cons n l ih=>rw [List.flatMap_cons,List.length_append,List.length_cons,ih]; simp [kO]; omega
theorem zo {α:Type} {l:List α} {i:Nat} (z:α) (h:i<l.length):l.take (i+1)=l.take i++[l.getD i z]:=by
 rw [List.take_add_one]; simp [List.getD,h]
theorem Ic (s:aa) {i:Nat} (h:i<s.nodes.length):nZ s (i+1)=nZ s i++iS (s.nodes.getD i ai):=by
 unfold nZ; rw [zo ai h,List.flatMap_append]; simp
theorem Ie (s:aa) {i:Nat} (h:i<s.jobs.length):qS s (i+1)=qS s i++kO (s.jobs.getD i az):=by
 unfold qS; rw [zo az h,List.flatMap_append]; simp
theorem lE (s:aa) {i:Nat} (h:i≤s.nodes.length):(nZ s i).length=1+3*i:=by
 unfold nZ; rw [List.length_cons,Ih,List.length_take]; omega
theorem wv (s:aa) {i:Nat} (h:i≤s.jobs.length):(qS s i).length=2+3*s.nodes.length+12*i:=by
 unfold qS; rw [List.length_append,List.length_cons,My,List.length_take,lE s (Nat.le_refl _)]; omega
end Dv
namespace Dv
end Dv
namespace Dv
theorem A3 (f:Nat) {m:Int} (h:m<128):iM f m=[m]:=by
 cases f with
 | zero=>rfl
 | succ f=>rw [iM,if_neg (by omega)]
theorem VW (f:Nat) (m:Int):1≤(iM f m).length:=by
 cases f with
 | zero=>simp [iM]
 | succ f=>unfold iM; split <;> simp
theorem yR {n:Int} (h:isNum n=true):bw n=iM 8 n:=by unfold bw; rw [if_pos h]
theorem Ae {n:Int} (h:isNum n=true):1≤(bw n).length:=by rw [yR h]; exact VW 8 n
theorem zC:∀ (f:Nat) (m:Int) (i:Nat) (acc:Int) (t:List Int),0≤m→m<128 ^ (f+1)→(0<i→0<m)→0≤acc→acc+m*128 ^ i≤eV→kj (iM f m++t) i acc=some (acc+m*128 ^ i,i+(iM f m).length)
 | f,m,i,acc,t,h0,hf,hi,ha,hs=>by
   have hp:(1:Int)≤128 ^ i:=Int.pow_pos (by decide)
   have hi8:i<8:=by
    rcases Nat.lt_or_ge i 8 with h | h
    ·exact h
    ·exfalso
     have hm:=hi (by omega)
     have h1:(128:Int) ^ 8≤128 ^ i:=by exact_mod_cast Nat.pow_le_pow_right (by decide) h
     have h2:1*128 ^ i≤m*128 ^ i:=Int.mul_le_mul_of_nonneg_right hm (by omega)
     unfold eV at hs
     omega
   by_cases hm:128≤m
   case neg=>
    rw [A3 f (by omega)]
    have e:m % 128=m:=by omega
    simp only [List.cons_append,List.nil_append,kj,if_neg (show ¬ 8≤i by omega),if_neg hm,e]
    rw [if_neg (by omega)]
    rfl
   case pos=>
    cases f with
    | zero=>exfalso; omega
    | succ f=>
      rw [iM,if_pos hm]
      have e:(m % 128+128) % 128=m % 128:=by omega
      have e2:acc+m % 128*128 ^ i+m / 128*128 ^ (i+1)=acc+m*128 ^ i:=by
       rw [Int.pow_succ,Int.mul_comm (128 ^ i) 128,← Int.mul_assoc,Int.add_assoc,← Int.add_mul]
       congr 2; omega
      have h1:m / 128<128 ^ (f+1):=by
       rw [Int.pow_succ] at hf
       exact Int.ediv_lt_of_lt_mul (by decide) hf
      have hmn:0≤m % 128*128 ^ i:=Int.mul_nonneg (by omega) (by omega)
      have ih:=zC f (m / 128) (i+1) (acc+m % 128*128 ^ i) t (by omega) h1 (fun _=>by omega) (by omega) (by rw [e2]; exact hs)
      simp only [List.cons_append,kj,if_neg (show ¬ 8≤i by omega),if_pos (show 128≤m % 128+128 by omega),e]
      rw [ih,e2]
      simp; omega
theorem oh (pre t:List Int) (n:Int) (hn:isNum n=true):f_ (pre++(bw n++t)) pre.length=some (n,pre.length+(bw n).length):=by
 have h:=of_decide_eq_true hn
 unfold f_
 rw [List.drop_left,yR hn,zC 8 n 0 0 t h.1 (by unfold eV at h; omega) (fun h=>absurd h (by decide)) (Int.le_refl 0) (by simpa using h.2)]
 simp
theorem CU:∀ (l pre t:List Int),l.all isNum=true→ri (pre++(l.flatMap bw++t)) l.length pre.length=some (l,pre.length+(l.flatMap bw).length)
 | [],pre,t,_=>by simp [ri]
 | x::l,pre,t,h=>by
   simp only [List.all_cons,Bool.and_eq_true] at h
   rw [List.length_cons,ri,List.flatMap_cons,List.append_assoc,oh pre _ x h.1]
   have ih:=CU l (pre++bw x) t h.2
   rw [List.length_append,List.append_assoc] at ih
   simp only [ih,Option.map_some,List.length_append,Nat.add_assoc]
theorem Gq (l t:List Int) (many:Nat) (h:l.all isNum=true) (hm:l.length≤many) (hl:l.length≤1000000):wR (jJ l++t) 0 many=some (l,(jJ l).length):=by
 have hn:isNum (l.length:Int)=true:=by unfold isNum eV; simp; omega
 unfold jJ
 rw [if_pos h]
 unfold wR
 have h1:=oh [] (l.flatMap bw++t) (l.length:Int) hn
 simp only [List.nil_append,List.length_nil,Nat.zero_add] at h1
 rw [List.append_assoc,h1]
 have h2:=CU l (bw (l.length:Int)) t h
 simp only [Int.toNat_natCast,h2]
 rw [if_neg (by omega),List.length_append]
theorem zD:∀ (l:List Int) (i:Nat) (acc x:Int) (k:Nat),(∀ c∈l,0≤c∧c≤255)→kj l i acc=some (x,k)→∃ m,0≤m∧x=acc+m*128 ^ i∧(0<i→0<m)∧i<k∧k≤8∧k-i≤l.length∧∀ f,k-i≤f+1→iM f m=l.take (k-i)
 | [],_,_,_,_,_,h=>by cases h
 | c::r,i,acc,x,k,hc,h=>by
   have h0:=hc c (by simp)
   unfold kj at h
   split at h
   ·cases h
   rename_i hi8
   split at h
   ·rename_i h128
    obtain ⟨m,hm0,hx,Y1,wJ,hk8,hkl,hd⟩:=zD r (i+1) _ x k (fun d hd=>hc d (by simp [hd])) h
    have Y1:=Y1 (by omega)
    refine ⟨c % 128+128*m,by omega,?_,fun _=>by omega,by omega,hk8,by simp; omega,fun f hf=>?_⟩
    ·rw [hx,Int.pow_succ,Int.mul_comm (128 ^ i) 128,← Int.mul_assoc,Int.add_assoc,← Int.add_mul,Int.mul_comm m 128]
    ·cases f with
     | zero=>exfalso; omega
     | succ f=>
       rw [iM,if_pos (by omega),show (c % 128+128*m) / 128=m by omega,hd f (by omega),show k-i=(k-(i+1))+1 by omega,List.take_succ_cons,show (c % 128+128*m) % 128+128=c by omega]
   split at h
   ·cases h
   ·rename_i hne
    cases h
    refine ⟨c,h0.1,by rw [show c % 128=c by omega],fun hi=>by omega,by omega,by omega,by simp,fun f _=>?_⟩
    rw [A3 f (by omega),show i+1-i=1 by omega]
    simp
theorem MO {b:List Int} (hb:∀ c∈b,0≤c∧c≤255) {p p':Nat} {x:Int} (h:f_ b p=some (x,p')):isNum x=true∧bw x=(b.drop p).take (p'-p)∧p≤p'∧p'≤b.length:=by
 have hr:=gv (fun c hc=>(hb c hc).1) h
 unfold f_ at h
 rw [Option.map_eq_some_iff] at h
 obtain ⟨⟨y,k⟩,h1,h2⟩:=h
 cases h2
 obtain ⟨m,hm0,hx,_,wJ,hk8,hkl,hd⟩:=zD _ _ _ _ _ (fun c hc=>hb c (List.mem_of_mem_drop hc)) h1
 have e:y=m:=by rw [hx]; simp
 subst e
 have hn:isNum y=true:=decide_eq_true ⟨hr.1,hr.2.1⟩
 refine ⟨hn,?_,by omega,by dsimp only; omega⟩
 rw [yR hn,hd 8 (by omega)]
 congr 1; omega
end Dv
namespace Dv
theorem MS (u c m:Bool) (v j:Int):Cy (sD u 1+sD c 2+sD m 4) v j=⟨u,c,m,v,j⟩:=by
 cases u <;> cases c <;> cases m <;> rfl
theorem OL {ns:List br} {js:List bQ} {p:Nat} {l:List Int} {s:aa} : uJ ns js p l=.ok s↔(s.nodes=ns∧s.jobs=js∧l=[s.goal,s.prior,s.mode,s.term]):=by
 match l with
 | []=>simp [uJ]
 | [_]=>simp [uJ]
 | [_,_]=>simp [uJ]
 | [_,_,_]=>simp [uJ]
 | [g,a,m,t]=>
   simp only [uJ,Except.ok.injEq,List.cons.injEq,and_true]
   obtain ⟨n1,j1,g1,a1,m1,t1⟩:=s
   simp only [aa.mk.injEq]
   constructor
   ·rintro ⟨rfl,rfl,rfl,rfl,rfl,rfl⟩; exact ⟨rfl,rfl,rfl,rfl,rfl,rfl⟩
   ·rintro ⟨rfl,rfl,rfl,rfl,rfl,rfl⟩; exact ⟨rfl,rfl,rfl,rfl,rfl,rfl⟩
 | _::_::_::_::_::_=>simp [uJ]
theorem Cq (ns:List br):∀ (ZI:List bQ) (js:List bQ) (p:Nat) (g a m t:Int),qO ns ZI.length js p (ZI.flatMap kO++[g,a,m,t])=.ok ⟨ns,js++ZI,g,a,m,t⟩
 | [],js,p,g,a,m,t=>by rw [List.length_nil,zV]; exact OL.2 ⟨rfl,by simp,rfl⟩
 | j::ZI,js,p,g,a,m,t=>by
   rw [List.length_cons,List.flatMap_cons]
   show qO ns (ZI.length+1) js p (j.queue::j.prio::j.min::j.max::j.work::j.pin::j.phase::j.inc::j.nodes::j.since::j.til::j.epoch::(ZI.flatMap kO++[g,a,m,t]))=_
   rw [zW,Cq ns ZI _ _ g a m t]
   simp
theorem zT:∀ (ns':List br) (ns:List br) (p:Nat) (r:List Int),iC ns'.length ns p (ns'.flatMap iS++r)=tD (ns++ns') (p+3*ns'.length) r
 | [],ns,p,r=>by rw [List.length_nil,xH]; simp
 | n::ns',ns,p,r=>by
   rw [List.length_cons,List.flatMap_cons]
   have h7:sV n≤7:=by unfold sV sD; split <;> split <;> split <;> decide
   show iC (ns'.length+1) ns p (sV n::n.version::n.aQ::(ns'.flatMap iS++r))=_
   rw [zU _ _ _ _ _ _ _ h7,zT ns' _ _ r]
   have:Cy (sV n) n.version n.aQ=n:=by obtain ⟨u,c,m,v,j⟩:=n; exact MS u c m v j
   rw [this]
   simp only [List.append_assoc,List.singleton_append]
   congr 1; omega
theorem HY (s:aa) (hn:s.nodes.length≤6) (hj:s.jobs.length≤24):kJ (fZ s)=.ok s:=by
 have h:fZ s=(s.nodes.length:Int)::(s.nodes.flatMap iS++((s.jobs.length:Int)::(s.jobs.flatMap kO++[s.goal,s.prior,s.mode,s.term]))):=by
  simp [fZ,qS,nZ]
 rw [h]
 unfold kJ
 dsimp only
 rw [if_pos (by omega),Int.toNat_natCast,zT,Cr _ _ _ _ (by omega),Int.toNat_natCast,Cq]
 simp
end Dv
namespace Dv
theorem FJ (s:aa):fZ s=(s.nodes.length:Int)::(s.nodes.flatMap iS++((s.jobs.length:Int)::(s.jobs.flatMap kO++[s.goal,s.prior,s.mode,s.term]))):=by
 simp [fZ,qS,nZ]
theorem wz (s:aa):(fZ s).length=2+3*s.nodes.length+12*s.jobs.length+4:=by
 unfold fZ; rw [List.length_append,wv s (Nat.le_refl _)]; rfl
theorem QW (c:aF) (s:aa) (t:List Int) (hn:s.nodes.length≤6) (hj:s.jobs.length≤24) (ha:(fZ s).all isNum=true):wR (jN s++t) 0 400=some (fZ s,(jN s).length):=by
 unfold jN
 rw [if_pos ⟨hn,hj⟩]
 exact Gq _ _ _ ha (by rw [wz]; omega) (by rw [wz]; omega)
theorem VE {c:aF} {s:aa} (hn:s.nodes.length≤6) (hj:s.jobs.length≤24) (ha:(fZ s).all isNum=true) (hr:iR c s=true):vi c (jN s)=some s:=by
 have h:=QW c s [] hn hj ha
 rw [List.append_nil] at h
 unfold vi
 rw [h]
 dsimp only
 rw [if_pos rfl,HY s hn hj]
 dsimp only
 rw [if_pos hr]
theorem KX:∀ (i f:Nat) (m:Int),m<128 ^ (i+1)→(iM f m).length≤i+1
 | 0,f,m,h=>by rw [A3 f (by simpa using h)]; simp
 | i+1,0,m,h=>by simp [iM]
 | i+1,f+1,m,h=>by
   unfold iM
   split
   ·have h2:m / 128<128 ^ (i+1):=by
     rw [Int.pow_succ] at h
     exact Int.ediv_lt_of_lt_mul (by decide) h
    have:=KX i f (m / 128) h2
    simp; omega
   ·simp
theorem size_le {n:Int} (i:Nat) (h:n<128 ^ (i+1)):(bw n).length≤i+1:=by
 unfold bw
 split
 ·exact KX i 8 n h
 ·simp
theorem dF {n:Int} (h0:0≤n) (h1:n≤9007199254740991):isNum n=true:=decide_eq_true ⟨h0,h1⟩
structure Bx (j:bQ):Prop where
 queue:0≤j.queue∧j.queue<128
 prio:0≤j.prio∧j.prio<128
 min:0≤j.min∧j.min<128
 max:0≤j.max∧j.max<128
 work:0≤j.work∧j.work<16384
 pin:0≤j.pin∧j.pin<128
 phase:0≤j.phase∧j.phase<128
 inc:0≤j.inc∧j.inc<2097152
 nodes:0≤j.nodes∧j.nodes<128
 since:0≤j.since∧j.since<2097152
 til:0≤j.til∧j.til<2097152
 epoch:0≤j.epoch∧j.epoch<2097152
theorem Bx.all {j:bQ} (h:Bx j):(kO j).all isNum=true:=by
 obtain ⟨h1,h2,h3,h4,h5,h6,h7,h8,h9,h10,h11,h12⟩:=h
 simp only [kO,List.all_cons,List.all_nil,Bool.and_true,Bool.and_eq_true]
 exact ⟨dF (by omega) (by omega),dF (by omega) (by omega),dF (by omega) (by omega),dF (by omega) (by omega),dF (by omega) (by omega),dF (by omega) (by omega),dF (by omega) (by omega),dF (by omega) (by omega),dF (by omega) (by omega),dF (by omega) (by omega),dF (by omega) (by omega),dF (by omega) (by omega)⟩
theorem Bx.size {j:bQ} (h:Bx j):((kO j).flatMap bw).length≤21:=by
 obtain ⟨h1,h2,h3,h4,h5,h6,h7,h8,h9,h10,h11,h12⟩:=h
 have a1:=size_le 0 (n:=j.queue) (by omega)
 have a2:=size_le 0 (n:=j.prio) (by omega)
 have a3:=size_le 0 (n:=j.min) (by omega)
 have a4:=size_le 0 (n:=j.max) (by omega)
 have a5:=size_le 1 (n:=j.work) (by omega)
 have a6:=size_le 0 (n:=j.pin) (by omega)
 have a7:=size_le 0 (n:=j.phase) (by omega)
 have a8:=size_le 2 (n:=j.inc) (by omega)
 have a9:=size_le 0 (n:=j.nodes) (by omega)
 have a10:=size_le 2 (n:=j.since) (by omega)
 have a11:=size_le 2 (n:=j.til) (by omega)
 have a12:=size_le 2 (n:=j.epoch) (by omega)
 simp only [kO,List.flatMap_cons,List.flatMap_nil,List.length_append,List.length_nil]
 omega
theorem F3:∀ (l:List bQ),(∀ j∈l,Bx j)→(l.flatMap kO).all isNum=true∧((l.flatMap kO).flatMap bw).length≤21*l.length
 | [],_=>by simp
 | j::l,h=>by
   obtain ⟨h1,h2⟩:=F3 l (fun x hx=>h x (by simp [hx]))
   have hj:=h j (by simp)
   rw [List.flatMap_cons,List.all_append,h1,hj.all,List.flatMap_append,List.length_append,List.length_cons]
   have:=hj.size
   exact ⟨rfl,by omega⟩
theorem Pg {n:br} (h1:0≤n.version∧n.version<128) (h2:0≤n.aQ∧n.aQ<128):(iS n).all isNum=true∧((iS n).flatMap bw).length≤3:=by
 have h7:0≤sV n∧sV n≤7:=by unfold sV sD; split <;> split <;> split <;> decide
 have a1:=size_le 0 (n:=sV n) (by omega)
 have a2:=size_le 0 (n:=n.version) (by omega)
 have a3:=size_le 0 (n:=n.aQ) (by omega)
 simp only [iS,List.all_cons,List.all_nil,Bool.and_true,Bool.and_eq_true,List.flatMap_cons,List.flatMap_nil,List.length_append,List.length_nil]
 exact ⟨⟨dF (by omega) (by omega),dF (by omega) (by omega),dF (by omega) (by omega)⟩,by omega⟩
theorem Cw:∀ (l:List br),(∀ n∈l,(0≤n.version∧n.version<128)∧(0≤n.aQ∧n.aQ<128))→(l.flatMap iS).all isNum=true∧((l.flatMap iS).flatMap bw).length≤3*l.length
 | [],_=>by simp
 | n::l,h=>by
   obtain ⟨h1,h2⟩:=Cw l (fun x hx=>h x (by simp [hx]))
   have hn:=Pg (h n (by simp)).1 (h n (by simp)).2
   rw [List.flatMap_cons,List.all_append,h1,hn.1,List.flatMap_append,List.length_append,List.length_cons]
   have:=hn.2
   exact ⟨rfl,by omega⟩
theorem Gt {α:Type} {l:List α} {x:α} (z:α) (h:x∈l):∃ k,k<l.length∧l.getD k z=x:=by
 obtain ⟨k,hk,rfl⟩:=List.mem_iff_getElem.1 h
 exact ⟨k,hk,by simp [List.getD,hk]⟩
theorem VL (l:List Int) (h:l.all isNum=true):l.length≤(l.flatMap bw).length:=by
 induction l with
 | nil=>simp
 | cons x l ih=>
   simp only [List.all_cons,Bool.and_eq_true] at h
   rw [List.flatMap_cons,List.length_append,List.length_cons]
   have:=Ae h.1
   have:=ih h.2
   omega
theorem Fw {c:aF} {s:aa} (h:iR c s=true):(s.nodes.length≤6∧s.jobs.length≤24)∧(fZ s).all isNum=true∧10≤(jN s).length∧(jN s).length≤900:=by
 have hO:=uB h
 have hc:=hO.vE
 have hn:=hO.nodes
 have hj:=hO.jobs
 have hs:=hO.ac8
 have hN:s.nodes.length≤6:=by omega
 obtain ⟨n1,n2⟩:=Cw s.nodes (fun n hm=>by
  obtain ⟨k,hk,rfl⟩:=Gt ai hm
  have:=hO.node hk
  omega)
 obtain ⟨j1,j2⟩:=F3 s.jobs (fun j hm=>by
  obtain ⟨k,hk,rfl⟩:=Gt az hm
  have h1:=hO.aQ hk
  have h2:=hO.bits hk
  dsimp only at h1
  exact ⟨by omega,by omega,by omega,by omega,by omega,by omega,by omega,by omega,by omega,by omega,by omega,by omega⟩)
 have ha:(fZ s).all isNum=true:=by
  rw [FJ]
  simp only [List.all_cons,List.all_append,n1,j1,List.all_nil,Bool.and_true,Bool.true_and,Bool.and_eq_true]
  exact ⟨dF (by omega) (by omega),dF (by omega) (by omega),dF (by omega) (by omega),dF (by omega) (by omega),dF (by omega) (by omega),dF (by omega) (by omega)⟩
 have hB:jN s=bw (fZ s).length++(fZ s).flatMap bw:=by
  unfold jN; rw [if_pos ⟨hN,hj⟩]; unfold jJ; rw [if_pos ha]
 have hl:=wz s
 have hge:=VL (fZ s) ha
 have hh:=Ae (n:=((fZ s).length:Int)) (dF (by omega) (by omega))
 have hh2:=size_le 1 (n:=((fZ s).length:Int)) (by omega)
 refine ⟨⟨hN,hj⟩,ha,?_,?_⟩
 ·rw [hB,List.length_append]; omega
 ·have a1:=size_le 0 (n:=(s.nodes.length:Int)) (by omega)
  have a2:=size_le 0 (n:=(s.jobs.length:Int)) (by omega)
  have a3:=size_le 0 (n:=s.goal) (by omega)
  have a4:=size_le 0 (n:=s.prior) (by omega)
  have a5:=size_le 0 (n:=s.mode) (by omega)
  have a6:=size_le 2 (n:=s.term) (by omega)
  have e:((fZ s).flatMap bw).length=(bw (s.nodes.length:Int)).length+(((s.nodes.flatMap iS).flatMap bw).length+((bw (s.jobs.length:Int)).length+(((s.jobs.flatMap kO).flatMap bw).length+((bw s.goal).length+((bw s.prior).length+((bw s.mode).length+(bw s.term).length)))))):=by
   rw [FJ]
   simp only [List.flatMap_cons,List.flatMap_append,List.flatMap_nil,List.length_append,List.length_nil]
   omega
  rw [hB,List.length_append,e]
  omega
end Dv
