/- part -/
import Derived.Test.YtkalnfkokkjliaaGreatDoorPA
set_option linter.all false
namespace Dv
def Cf (f v j:Int):bp:=⟨hasB f 0,hasB f 1,hasB f 2,v,j⟩
def uv (ns:List bp) (js:List bP) (p:Nat):List Int→Except Nat aa
 | []=>.error p
 | [_]=>.error (p+1)
 | [_,_]=>.error (p+2)
 | [_,_,_]=>.error (p+3)
 | [g,a,m,t]=>.ok ⟨ns,js,g,a,m,t⟩
 | _::_::_::_::_::_=>.error (p+4)
def qH (ns:List bp):Nat→List bP→Nat→List Int→Except Nat aa
 | 0,js,p,l=>uv ns js p l
 | n+1,js,p,x0::x1::x2::x3::x4::x5::x6::x7::x8::x9::x10::x11::r=>qH ns n (js++[⟨x0,x1,x2,x3,x4,x5,x6,x7,x8,x9,x10,x11⟩]) (p+12) r
 | _+1,_,p,l=>.error (p+l.length)
def tc (ns:List bp) (p:Nat):List Int→Except Nat aa
 | []=>.error p
 | m::r=>if m≤24 then qH ns m.toNat [] (p+1) r else .error (p+1)
def ig:Nat→List bp→Nat→List Int→Except Nat aa
 | 0,ns,p,l=>tc ns p l
 | n+1,ns,p,l=>match l with
   | []=>.error p
   | f::r=>if f≤7 then (match r with
     | []=>.error (p+1)
     | [_]=>.error (p+2)
     | v::j::r=>ig n (ns++[Cf f v j]) (p+3) r) else .error (p+1)
def kC (l:List Int):Except Nat aa:=match l with
 | []=>.error 0
 | n::r=>if n≤6 then ig n.toNat [] 1 r else .error 1
theorem w8 (ns:List bp) (p:Nat) (l:List Int):ig 0 ns p l=tc ns p l:=by cases l <;> rfl
theorem HJ (n:Nat) (ns:List bp) (p:Nat):ig (n+1) ns p []=.error p:=rfl
theorem HI (n:Nat) (ns:List bp) (p:Nat) (f:Int) (r:List Int) (h:¬ f≤7):ig (n+1) ns p (f::r)=.error (p+1):=by
 simp [ig,h]
theorem Ov (n:Nat) (ns:List bp) (p:Nat) (f:Int) (h:f≤7):ig (n+1) ns p [f]=.error (p+1):=by
 simp [ig,h]
theorem LJ (n:Nat) (ns:List bp) (p:Nat) (f v:Int) (h:f≤7):ig (n+1) ns p [f,v]=.error (p+2):=by
 simp [ig,h]
theorem zu (n:Nat) (ns:List bp) (p:Nat) (f v j:Int) (r:List Int) (h:f≤7):ig (n+1) ns p (f::v::j::r)=ig n (ns++[Cf f v j]) (p+3) r:=by
 simp [ig,h]
theorem HK (ns:List bp) (p:Nat) (m:Int) (r:List Int) (h:¬ m≤24):tc ns p (m::r)=.error (p+1):=by simp [tc,h]
theorem B8 (ns:List bp) (p:Nat) (m:Int) (r:List Int) (h:m≤24):tc ns p (m::r)=qH ns m.toNat [] (p+1) r:=by simp [tc,h]
theorem zw (ns:List bp) (js:List bP) (p:Nat) (l:List Int):qH ns 0 js p l=uv ns js p l:=by simp [qH]
theorem zx (ns:List bp) (n:Nat) (js:List bP) (p:Nat) (x0 x1 x2 x3 x4 x5 x6 x7 x8 x9 x10 x11:Int) (r:List Int):qH ns (n+1) js p (x0::x1::x2::x3::x4::x5::x6::x7::x8::x9::x10::x11::r)=qH ns n (js++[⟨x0,x1,x2,x3,x4,x5,x6,x7,x8,x9,x10,x11⟩]) (p+12) r:=by simp [qH]
theorem cG {xs:List Int} {k:Nat} (h:xs.drop k=[]) (hk:k≤xs.length):k=xs.length:=by
 have:=List.drop_eq_nil_iff.1 h
 omega
theorem b_ {xs:List Int} {k:Nat} {x:Int} {r:List Int} (h:xs.drop k=x::r):k<xs.length∧xs.getD k 0=x∧xs.drop (k+1)=r:=by
 have hk:k<xs.length:=by
  rcases Nat.lt_or_ge k xs.length with h1 | h1
  ·exact h1
  ·rw [List.drop_eq_nil_of_le h1] at h; cases h
 rw [List.drop_eq_getElem_cons hk] at h
 cases h
 exact ⟨hk,by simp [List.getD,hk],rfl⟩
end Dv
namespace Dv
def eT:Int:=9007199254740991
def iF:Nat→Int→List Int
 | 0,n=>[n]
 | f+1,n=>if 128≤n then (n % 128+128)::iF f (n / 128) else [n]
def isNum (n:Int):Bool:=decide (0≤n∧n≤eT)
def bz (n:Int):List Int:=if isNum n=true then iF 8 n else []
def jF (l:List Int):List Int:=if l.all isNum=true then bz l.length++l.flatMap bz else []
def j9:List Int→Nat→Int→Option (Int×Nat)
 | [],_,_=>none
 | c::r,i,n=>if 8≤i then none
   else if 128≤c then j9 r (i+1) (n+c % 128*128 ^ i)
   else if (c=0∧0<i)∨eT<n+c % 128*128 ^ i then none
   else some (n+c % 128*128 ^ i,i+1)
def gq (b:List Int) (at0:Nat):Option (Int×Nat):=(j9 (b.drop at0) 0 0).map fun p=>(p.1,at0+p.2)
def qS (b:List Int):Nat→Nat→Option (List Int×Nat)
 | 0,p=>some ([],p)
 | k+1,p=>match gq b p with
   | none=>none
   | some (x,p')=>(qS b k p').map fun q=>(x::q.1,q.2)
def wu (b:List Int) (p many:Nat):Option (List Int×Nat):=match gq b p with
 | none=>none
 | some (n,p')=>if (many:Int)<n then none else qS b n.toNat p'
def uT (c:aC) (b:List Int):Option aa:=match wu b 0 400 with
 | none=>none
 | some (xs,e)=>if e=b.length then (match kC xs with
   | .error _=>none
   | .ok s=>if iL c s=true then some s else none) else none
def wO:aa:=⟨[],[],0,0,0,0⟩
theorem y_:∀ (l:List Int) (i:Nat) (n:Int),j9 (l.take (8-i)) i n=j9 l i n
 | [],i,n=>by simp
 | c::r,i,n=>by
   by_cases h:8≤i
   ·rw [show 8-i=0 by omega,List.take_zero]
    unfold j9
    rw [if_pos h]
   ·rw [show 8-i=(8-(i+1))+1 by omega,List.take_succ_cons]
    simp only [j9,if_neg h,y_ r (i+1)]
theorem BP:∀ (l:List Int) (i:Nat) (n x:Int) (k:Nat),(∀ c∈l,0≤c)→0≤n→j9 l i n=some (x,k)→0≤x∧x≤eT∧i<k∧k≤i+l.length
 | [],_,_,_,_,_,_,h=>by cases h
 | c::r,i,n,x,k,hc,hn,h=>by
   have h0:0≤c:=hc c (by simp)
   have hp:(0:Int)≤128 ^ i:=Int.le_of_lt (Int.pow_pos (by decide))
   have h1:0≤c % 128*128 ^ i:=Int.mul_nonneg (Int.emod_nonneg _ (by decide)) hp
   unfold j9 at h
   split at h
   ·cases h
   split at h
   ·have:=BP r (i+1) _ x k (fun d hd=>hc d (by simp [hd])) (by omega) h
    simp only [List.length_cons]
    omega
   split at h
   ·cases h
   ·rename_i hne
    cases h
    refine ⟨by omega,?_,by omega,by simp⟩
    simp only [not_or,Int.not_lt] at hne
    exact hne.2
theorem gp {b:List Int} {p p':Nat} {x:Int} (hb:∀ c∈b,0≤c) (h:gq b p=some (x,p')):0≤x∧x≤eT∧p<p'∧p'≤b.length:=by
 unfold gq at h
 rw [Option.map_eq_some_iff] at h
 obtain ⟨⟨y,k⟩,h1,h2⟩:=h
 cases h2
 have hr:=BP _ _ _ _ _ (fun c hc=>hb c (List.mem_of_mem_drop hc)) (Int.le_refl 0) h1
 rw [List.length_drop] at hr
 dsimp only
 omega
theorem CB {b:List Int} (hb:∀ c∈b,0≤c):∀ (k p:Nat) (xs:List Int) (e:Nat),qS b k p=some (xs,e)→p≤b.length→xs.length=k∧(∀ x∈xs,0≤x∧x≤eT)∧p≤e∧e≤b.length
 | 0,p,xs,e,h,hp=>by cases h; exact ⟨rfl,(fun _ h=>absurd h (by simp)),Nat.le_refl _,hp⟩
 | k+1,p,xs,e,h,hp=>by
   unfold qS at h
   split at h
   ·cases h
   ·rename_i x p' hx
    rw [Option.map_eq_some_iff] at h
    obtain ⟨⟨ys,e'⟩,h1,h2⟩:=h
    cases h2
    have hr:=gp hb hx
    obtain ⟨k1,k2,k3,k4⟩:=CB hb k p' ys e' h1 hr.2.2.2
    refine ⟨by simp [k1],fun y hy=>?_,by dsimp only; omega,k4⟩
    rcases List.mem_cons.1 hy with rfl | hy
    ·exact ⟨hr.1,hr.2.1⟩
    ·exact k2 y hy
theorem F_ {b:List Int} (hb:∀ c∈b,0≤c) {p many:Nat} {xs:List Int} {e:Nat} (h:wu b p many=some (xs,e)):xs.length≤many∧(∀ x∈xs,0≤x∧x≤eT)∧e≤b.length:=by
 unfold wu at h
 split at h
 ·cases h
 ·rename_i n p' hn
  have hr:=gp hb hn
  split at h
  ·cases h
  ·obtain ⟨k1,k2,_,k4⟩:=CB hb _ _ _ _ h hr.2.2.2
   exact ⟨by omega,k2,k4⟩
end Dv
namespace Dv
def sr (b:Bool) (n:Int):Int:=if b=true then n else 0
def sH (n:bp):Int:=sr n.up 1+sr n.cL 2+sr n.bC 4
def iM (n:bp):List Int:=[sH n,n.version,n.aQ]
def kI (j:bP):List Int:=[j.queue,j.prio,j.min,j.max,j.work,j.pin,j.phase,j.inc,j.nodes,j.since,j.til,j.epoch]
def nS (s:aa) (i:Nat):List Int:=(s.nodes.length:Int)::(s.nodes.take i).flatMap iM
def qK (s:aa) (i:Nat):List Int:=nS s s.nodes.length++(s.jobs.length:Int)::(s.jobs.take i).flatMap kI
def fU (s:aa):List Int:=qK s s.jobs.length++[s.goal,s.prior,s.mode,s.term]
def jJ (s:aa):List Int:=if s.nodes.length≤6∧s.jobs.length≤24 then jF (fU s) else []
theorem HS (l:List bp):(l.flatMap iM).length=3*l.length:=by
 induction l with
 | nil=>rfl
 | cons n l ih=>rw [List.flatMap_cons,List.length_append,List.length_cons,ih]; simp [iM]; omega
theorem Mf (l:List bP):(l.flatMap kI).length=12*l.length:=by
 induction l with
 | nil=>rfl
 | cons n l ih=>rw [List.flatMap_cons,List.length_append,List.length_cons,ih]; simp [kI]; omega
theorem yX {α:Type} {l:List α} {i:Nat} (z:α) (h:i<l.length):l.take (i+1)=l.take i++[l.getD i z]:=by
 rw [List.take_add_one]; simp [List.getD,h]
theorem HP (s:aa) {i:Nat} (h:i<s.nodes.length):nS s (i+1)=nS s i++iM (s.nodes.getD i ai):=by
 unfold nS; rw [yX ai h,List.flatMap_append]; simp
theorem HQ (s:aa) {i:Nat} (h:i<s.jobs.length):qK s (i+1)=qK s i++kI (s.jobs.getD i az):=by
 unfold qK; rw [yX az h,List.flatMap_append]; simp
theorem lB (s:aa) {i:Nat} (h:i≤s.nodes.length):(nS s i).length=1+3*i:=by
 unfold nS; rw [List.length_cons,HS,List.length_take]; omega
theorem vS (s:aa) {i:Nat} (h:i≤s.jobs.length):(qK s i).length=2+3*s.nodes.length+12*i:=by
 unfold qK; rw [List.length_append,List.length_cons,Mf,List.length_take,lB s (Nat.le_refl _)]; omega
end Dv
namespace Dv
end Dv
namespace Dv
theorem AD (f:Nat) {m:Int} (h:m<128):iF f m=[m]:=by
 cases f with
 | zero=>rfl
 | succ f=>rw [iF,if_neg (by omega)]
theorem VC (f:Nat) (m:Int):1≤(iF f m).length:=by
 cases f with
 | zero=>simp [iF]
 | succ f=>unfold iF; split <;> simp
theorem yu {n:Int} (h:isNum n=true):bz n=iF 8 n:=by unfold bz; rw [if_pos h]
theorem zH {n:Int} (h:isNum n=true):1≤(bz n).length:=by rw [yu h]; exact VC 8 n
theorem za:∀ (f:Nat) (m:Int) (i:Nat) (acc:Int) (t:List Int),0≤m→m<128 ^ (f+1)→(0<i→0<m)→0≤acc→acc+m*128 ^ i≤eT→j9 (iF f m++t) i acc=some (acc+m*128 ^ i,i+(iF f m).length)
 | f,m,i,acc,t,h0,hf,hi,ha,hs=>by
   have hp:(1:Int)≤128 ^ i:=Int.pow_pos (by decide)
   have hi8:i<8:=by
    rcases Nat.lt_or_ge i 8 with h | h
    ·exact h
    ·exfalso
     have hm:=hi (by omega)
     have h1:(128:Int) ^ 8≤128 ^ i:=by exact_mod_cast Nat.pow_le_pow_right (by decide) h
     have h2:1*128 ^ i≤m*128 ^ i:=Int.mul_le_mul_of_nonneg_right hm (by omega)
     unfold eT at hs
     omega
   by_cases hm:128≤m
   case neg=>
    rw [AD f (by omega)]
    have e:m % 128=m:=by omega
    simp only [List.cons_append,List.nil_append,j9,if_neg (show ¬ 8≤i by omega),if_neg hm,e]
    rw [if_neg (by omega)]
    rfl
   case pos=>
    cases f with
    | zero=>exfalso; omega
    | succ f=>
      rw [iF,if_pos hm]
      have e:(m % 128+128) % 128=m % 128:=by omega
      have e2:acc+m % 128*128 ^ i+m / 128*128 ^ (i+1)=acc+m*128 ^ i:=by
       rw [Int.pow_succ,Int.mul_comm (128 ^ i) 128,← Int.mul_assoc,Int.add_assoc,← Int.add_mul]
       congr 2; omega
      have h1:m / 128<128 ^ (f+1):=by
       rw [Int.pow_succ] at hf
       exact Int.ediv_lt_of_lt_mul (by decide) hf
      have hmn:0≤m % 128*128 ^ i:=Int.mul_nonneg (by omega) (by omega)
      have ih:=za f (m / 128) (i+1) (acc+m % 128*128 ^ i) t (by omega) h1 (fun _=>by omega) (by omega) (by rw [e2]; exact hs)
      simp only [List.cons_append,j9,if_neg (show ¬ 8≤i by omega),if_pos (show 128≤m % 128+128 by omega),e]
      rw [ih,e2]
      simp; omega
theorem uS (pre t:List Int) (n:Int) (hn:isNum n=true):gq (pre++(bz n++t)) pre.length=some (n,pre.length+(bz n).length):=by
 have h:=of_decide_eq_true hn
 unfold gq
 rw [List.drop_left,yu hn,za 8 n 0 0 t h.1 (by unfold eT at h; omega) (fun h=>absurd h (by decide)) (Int.le_refl 0) (by simpa using h.2)]
 simp
theorem CC:∀ (l pre t:List Int),l.all isNum=true→qS (pre++(l.flatMap bz++t)) l.length pre.length=some (l,pre.length+(l.flatMap bz).length)
 | [],pre,t,_=>by simp [qS]
 | x::l,pre,t,h=>by
   simp only [List.all_cons,Bool.and_eq_true] at h
   rw [List.length_cons,qS,List.flatMap_cons,List.append_assoc,uS pre _ x h.1]
   have ih:=CC l (pre++bz x) t h.2
   rw [List.length_append,List.append_assoc] at ih
   simp only [ih,Option.map_some,List.length_append,Nat.add_assoc]
theorem Ga (l t:List Int) (many:Nat) (h:l.all isNum=true) (hm:l.length≤many) (hl:l.length≤1000000):wu (jF l++t) 0 many=some (l,(jF l).length):=by
 have hn:isNum (l.length:Int)=true:=by unfold isNum eT; simp; omega
 unfold jF
 rw [if_pos h]
 unfold wu
 have h1:=uS [] (l.flatMap bz++t) (l.length:Int) hn
 simp only [List.nil_append,List.length_nil,Nat.zero_add] at h1
 rw [List.append_assoc,h1]
 have h2:=CC l (bz (l.length:Int)) t h
 simp only [Int.toNat_natCast,h2]
 rw [if_neg (by omega),List.length_append]
theorem zb:∀ (l:List Int) (i:Nat) (acc x:Int) (k:Nat),(∀ c∈l,0≤c∧c≤255)→j9 l i acc=some (x,k)→∃ m,0≤m∧x=acc+m*128 ^ i∧(0<i→0<m)∧i<k∧k≤8∧k-i≤l.length∧∀ f,k-i≤f+1→iF f m=l.take (k-i)
 | [],_,_,_,_,_,h=>by cases h
 | c::r,i,acc,x,k,hc,h=>by
   have h0:=hc c (by simp)
   unfold j9 at h
   split at h
   ·cases h
   rename_i hi8
   split at h
   ·rename_i h128
    obtain ⟨m,hm0,hx,YD,wg,hk8,hkl,hd⟩:=zb r (i+1) _ x k (fun d hd=>hc d (by simp [hd])) h
    have YD:=YD (by omega)
    refine ⟨c % 128+128*m,by omega,?_,fun _=>by omega,by omega,hk8,by simp; omega,fun f hf=>?_⟩
    ·rw [hx,Int.pow_succ,Int.mul_comm (128 ^ i) 128,← Int.mul_assoc,Int.add_assoc,← Int.add_mul,Int.mul_comm m 128]
    ·cases f with
     | zero=>exfalso; omega
     | succ f=>
       rw [iF,if_pos (by omega),show (c % 128+128*m) / 128=m by omega,hd f (by omega),show k-i=(k-(i+1))+1 by omega,List.take_succ_cons,show (c % 128+128*m) % 128+128=c by omega]
   split at h
   ·cases h
   ·rename_i hne
    cases h
    refine ⟨c,h0.1,by rw [show c % 128=c by omega],fun hi=>by omega,by omega,by omega,by simp,fun f _=>?_⟩
    rw [AD f (by omega),show i+1-i=1 by omega]
    simp
theorem Mx {b:List Int} (hb:∀ c∈b,0≤c∧c≤255) {p p':Nat} {x:Int} (h:gq b p=some (x,p')):isNum x=true∧bz x=(b.drop p).take (p'-p)∧p≤p'∧p'≤b.length:=by
 have hr:=gp (fun c hc=>(hb c hc).1) h
 unfold gq at h
 rw [Option.map_eq_some_iff] at h
 obtain ⟨⟨y,k⟩,h1,h2⟩:=h
 cases h2
 obtain ⟨m,hm0,hx,_,wg,hk8,hkl,hd⟩:=zb _ _ _ _ _ (fun c hc=>hb c (List.mem_of_mem_drop hc)) h1
 have e:y=m:=by rw [hx]; simp
 subst e
 have hn:isNum y=true:=decide_eq_true ⟨hr.1,hr.2.1⟩
 refine ⟨hn,?_,by omega,by dsimp only; omega⟩
 rw [yu hn,hd 8 (by omega)]
 congr 1; omega
end Dv
namespace Dv
theorem MC (u c m:Bool) (v j:Int):Cf (sr u 1+sr c 2+sr m 4) v j=⟨u,c,m,v,j⟩:=by
 cases u <;> cases c <;> cases m <;> rfl
theorem Ou {ns:List bp} {js:List bP} {p:Nat} {l:List Int} {s:aa} : uv ns js p l=.ok s↔(s.nodes=ns∧s.jobs=js∧l=[s.goal,s.prior,s.mode,s.term]):=by
 match l with
 | []=>simp [uv]
 | [_]=>simp [uv]
 | [_,_]=>simp [uv]
 | [_,_,_]=>simp [uv]
 | [g,a,m,t]=>
   simp only [uv,Except.ok.injEq,List.cons.injEq,and_true]
   obtain ⟨n1,j1,g1,a1,m1,t1⟩:=s
   simp only [aa.mk.injEq]
   constructor
   ·rintro ⟨rfl,rfl,rfl,rfl,rfl,rfl⟩; exact ⟨rfl,rfl,rfl,rfl,rfl,rfl⟩
   ·rintro ⟨rfl,rfl,rfl,rfl,rfl,rfl⟩; exact ⟨rfl,rfl,rfl,rfl,rfl,rfl⟩
 | _::_::_::_::_::_=>simp [uv]
theorem B7 (ns:List bp):∀ (Zl:List bP) (js:List bP) (p:Nat) (g a m t:Int),qH ns Zl.length js p (Zl.flatMap kI++[g,a,m,t])=.ok ⟨ns,js++Zl,g,a,m,t⟩
 | [],js,p,g,a,m,t=>by rw [List.length_nil,zw]; exact Ou.2 ⟨rfl,by simp,rfl⟩
 | j::Zl,js,p,g,a,m,t=>by
   rw [List.length_cons,List.flatMap_cons]
   show qH ns (Zl.length+1) js p (j.queue::j.prio::j.min::j.max::j.work::j.pin::j.phase::j.inc::j.nodes::j.since::j.til::j.epoch::(Zl.flatMap kI++[g,a,m,t]))=_
   rw [zx,B7 ns Zl _ _ g a m t]
   simp
theorem zq:∀ (ns':List bp) (ns:List bp) (p:Nat) (r:List Int),ig ns'.length ns p (ns'.flatMap iM++r)=tc (ns++ns') (p+3*ns'.length) r
 | [],ns,p,r=>by rw [List.length_nil,w8]; simp
 | n::ns',ns,p,r=>by
   rw [List.length_cons,List.flatMap_cons]
   have h7:sH n≤7:=by unfold sH sr; split <;> split <;> split <;> decide
   show ig (ns'.length+1) ns p (sH n::n.version::n.aQ::(ns'.flatMap iM++r))=_
   rw [zu _ _ _ _ _ _ _ h7,zq ns' _ _ r]
   have:Cf (sH n) n.version n.aQ=n:=by obtain ⟨u,c,m,v,j⟩:=n; exact MC u c m v j
   rw [this]
   simp only [List.append_assoc,List.singleton_append]
   congr 1; omega
theorem HH (s:aa) (hn:s.nodes.length≤6) (hj:s.jobs.length≤24):kC (fU s)=.ok s:=by
 have h:fU s=(s.nodes.length:Int)::(s.nodes.flatMap iM++((s.jobs.length:Int)::(s.jobs.flatMap kI++[s.goal,s.prior,s.mode,s.term]))):=by
  simp [fU,qK,nS]
 rw [h]
 unfold kC
 dsimp only
 rw [if_pos (by omega),Int.toNat_natCast,zq,B8 _ _ _ _ (by omega),Int.toNat_natCast,B7]
 simp
end Dv
namespace Dv
theorem Fu (s:aa):fU s=(s.nodes.length:Int)::(s.nodes.flatMap iM++((s.jobs.length:Int)::(s.jobs.flatMap kI++[s.goal,s.prior,s.mode,s.term]))):=by
 simp [fU,qK,nS]
theorem vT (s:aa):(fU s).length=2+3*s.nodes.length+12*s.jobs.length+4:=by
 unfold fU; rw [List.length_append,vS s (Nat.le_refl _)]; rfl
theorem Qy (c:aC) (s:aa) (t:List Int) (hn:s.nodes.length≤6) (hj:s.jobs.length≤24) (ha:(fU s).all isNum=true):wu (jJ s++t) 0 400=some (fU s,(jJ s).length):=by
 unfold jJ
 rw [if_pos ⟨hn,hj⟩]
 exact Ga _ _ _ ha (by rw [vT]; omega) (by rw [vT]; omega)
theorem Vm {c:aC} {s:aa} (hn:s.nodes.length≤6) (hj:s.jobs.length≤24) (ha:(fU s).all isNum=true) (hr:iL c s=true):uT c (jJ s)=some s:=by
 have h:=Qy c s [] hn hj ha
 rw [List.append_nil] at h
 unfold uT
 rw [h]
 dsimp only
 rw [if_pos rfl,HH s hn hj]
 dsimp only
 rw [if_pos hr]
theorem KG:∀ (i f:Nat) (m:Int),m<128 ^ (i+1)→(iF f m).length≤i+1
 | 0,f,m,h=>by rw [AD f (by simpa using h)]; simp
 | i+1,0,m,h=>by simp [iF]
 | i+1,f+1,m,h=>by
   unfold iF
   split
   ·have h2:m / 128<128 ^ (i+1):=by
     rw [Int.pow_succ] at h
     exact Int.ediv_lt_of_lt_mul (by decide) h
    have:=KG i f (m / 128) h2
    simp; omega
   ·simp
theorem size_le {n:Int} (i:Nat) (h:n<128 ^ (i+1)):(bz n).length≤i+1:=by
 unfold bz
 split
 ·exact KG i 8 n h
 ·simp
theorem dw {n:Int} (h0:0≤n) (h1:n≤9007199254740991):isNum n=true:=decide_eq_true ⟨h0,h1⟩
structure A0 (j:bP):Prop where
 queue:0≤j.queue∧j.queue<128
 prio:0≤j.prio∧j.prio<128
 min:0≤j.min∧j.min<128
 max:0≤j.max∧j.max<128
 work:0≤j.work∧j.work<16384
 pin:0≤j.pin∧j.pin<128
 phase:0≤j.phase∧j.phase<128
 inc:0≤j.inc∧j.inc<2097152
 nodes:0≤j.nodes∧j.nodes<128
 since:0≤j.since∧j.since<2097152
 til:0≤j.til∧j.til<2097152
 epoch:0≤j.epoch∧j.epoch<2097152
theorem A0.all {j:bP} (h:A0 j):(kI j).all isNum=true:=by
 obtain ⟨h1,h2,h3,h4,h5,h6,h7,h8,h9,h10,h11,h12⟩:=h
 simp only [kI,List.all_cons,List.all_nil,Bool.and_true,Bool.and_eq_true]
 exact ⟨dw (by omega) (by omega),dw (by omega) (by omega),dw (by omega) (by omega),dw (by omega) (by omega),dw (by omega) (by omega),dw (by omega) (by omega),dw (by omega) (by omega),dw (by omega) (by omega),dw (by omega) (by omega),dw (by omega) (by omega),dw (by omega) (by omega),dw (by omega) (by omega)⟩
theorem A0.size {j:bP} (h:A0 j):((kI j).flatMap bz).length≤21:=by
 obtain ⟨h1,h2,h3,h4,h5,h6,h7,h8,h9,h10,h11,h12⟩:=h
 have a1:=size_le 0 (n:=j.queue) (by omega)
 have a2:=size_le 0 (n:=j.prio) (by omega)
 have a3:=size_le 0 (n:=j.min) (by omega)
 have a4:=size_le 0 (n:=j.max) (by omega)
 have a5:=size_le 1 (n:=j.work) (by omega)
 have a6:=size_le 0 (n:=j.pin) (by omega)
 have a7:=size_le 0 (n:=j.phase) (by omega)
 have a8:=size_le 2 (n:=j.inc) (by omega)
 have a9:=size_le 0 (n:=j.nodes) (by omega)
 have a10:=size_le 2 (n:=j.since) (by omega)
 have a11:=size_le 2 (n:=j.til) (by omega)
 have a12:=size_le 2 (n:=j.epoch) (by omega)
 simp only [kI,List.flatMap_cons,List.flatMap_nil,List.length_append,List.length_nil]
 omega
theorem FN:∀ (l:List bP),(∀ j∈l,A0 j)→(l.flatMap kI).all isNum=true∧((l.flatMap kI).flatMap bz).length≤21*l.length
 | [],_=>by simp
 | j::l,h=>by
   obtain ⟨h1,h2⟩:=FN l (fun x hx=>h x (by simp [hx]))
   have hj:=h j (by simp)
   rw [List.flatMap_cons,List.all_append,h1,hj.all,List.flatMap_append,List.length_append,List.length_cons]
   have:=hj.size
   exact ⟨rfl,by omega⟩
theorem OX {n:bp} (h1:0≤n.version∧n.version<128) (h2:0≤n.aQ∧n.aQ<128):(iM n).all isNum=true∧((iM n).flatMap bz).length≤3:=by
 have h7:0≤sH n∧sH n≤7:=by unfold sH sr; split <;> split <;> split <;> decide
 have a1:=size_le 0 (n:=sH n) (by omega)
 have a2:=size_le 0 (n:=n.version) (by omega)
 have a3:=size_le 0 (n:=n.aQ) (by omega)
 simp only [iM,List.all_cons,List.all_nil,Bool.and_true,Bool.and_eq_true,List.flatMap_cons,List.flatMap_nil,List.length_append,List.length_nil]
 exact ⟨⟨dw (by omega) (by omega),dw (by omega) (by omega),dw (by omega) (by omega)⟩,by omega⟩
theorem Cd:∀ (l:List bp),(∀ n∈l,(0≤n.version∧n.version<128)∧(0≤n.aQ∧n.aQ<128))→(l.flatMap iM).all isNum=true∧((l.flatMap iM).flatMap bz).length≤3*l.length
 | [],_=>by simp
 | n::l,h=>by
   obtain ⟨h1,h2⟩:=Cd l (fun x hx=>h x (by simp [hx]))
   have hn:=OX (h n (by simp)).1 (h n (by simp)).2
   rw [List.flatMap_cons,List.all_append,h1,hn.1,List.flatMap_append,List.length_append,List.length_cons]
   have:=hn.2
   exact ⟨rfl,by omega⟩
theorem Gd {α:Type} {l:List α} {x:α} (z:α) (h:x∈l):∃ k,k<l.length∧l.getD k z=x:=by
 obtain ⟨k,hk,rfl⟩:=List.mem_iff_getElem.1 h
 exact ⟨k,hk,by simp [List.getD,hk]⟩
theorem Vs (l:List Int) (h:l.all isNum=true):l.length≤(l.flatMap bz).length:=by
 induction l with
 | nil=>simp
 | cons x l ih=>
   simp only [List.all_cons,Bool.and_eq_true] at h
   rw [List.flatMap_cons,List.length_append,List.length_cons]
   have:=zH h.1
   have:=ih h.2
   omega
theorem Fe {c:aC} {s:aa} (h:iL c s=true):(s.nodes.length≤6∧s.jobs.length≤24)∧(fU s).all isNum=true∧10≤(jJ s).length∧(jJ s).length≤900:=by
 have hO:=uh h
 have hc:=hO.vf
 have hn:=hO.nodes
 have hj:=hO.jobs
 have hs:=hO.acQ
 have hN:s.nodes.length≤6:=by omega
 obtain ⟨n1,n2⟩:=Cd s.nodes (fun n hm=>by
  obtain ⟨k,hk,rfl⟩:=Gd ai hm
  have:=hO.node hk
  omega)
 obtain ⟨j1,j2⟩:=FN s.jobs (fun j hm=>by
  obtain ⟨k,hk,rfl⟩:=Gd az hm
  have h1:=hO.aQ hk
  have h2:=hO.bits hk
  dsimp only at h1
  exact ⟨by omega,by omega,by omega,by omega,by omega,by omega,by omega,by omega,by omega,by omega,by omega,by omega⟩)
 have ha:(fU s).all isNum=true:=by
  rw [Fu]
  simp only [List.all_cons,List.all_append,n1,j1,List.all_nil,Bool.and_true,Bool.true_and,Bool.and_eq_true]
  exact ⟨dw (by omega) (by omega),dw (by omega) (by omega),dw (by omega) (by omega),dw (by omega) (by omega),dw (by omega) (by omega),dw (by omega) (by omega)⟩
 have hB:jJ s=bz (fU s).length++(fU s).flatMap bz:=by
  unfold jJ; rw [if_pos ⟨hN,hj⟩]; unfold jF; rw [if_pos ha]
 have hl:=vT s
 have hge:=Vs (fU s) ha
 have hh:=zH (n:=((fU s).length:Int)) (dw (by omega) (by omega))
 have hh2:=size_le 1 (n:=((fU s).length:Int)) (by omega)
 refine ⟨⟨hN,hj⟩,ha,?_,?_⟩
 ·rw [hB,List.length_append]; omega
 ·have a1:=size_le 0 (n:=(s.nodes.length:Int)) (by omega)
  have a2:=size_le 0 (n:=(s.jobs.length:Int)) (by omega)
  have a3:=size_le 0 (n:=s.goal) (by omega)
  have a4:=size_le 0 (n:=s.prior) (by omega)
  have a5:=size_le 0 (n:=s.mode) (by omega)
  have a6:=size_le 2 (n:=s.term) (by omega)
  have e:((fU s).flatMap bz).length=(bz (s.nodes.length:Int)).length+(((s.nodes.flatMap iM).flatMap bz).length+((bz (s.jobs.length:Int)).length+(((s.jobs.flatMap kI).flatMap bz).length+((bz s.goal).length+((bz s.prior).length+((bz s.mode).length+(bz s.term).length)))))):=by
   rw [Fu]
   simp only [List.flatMap_cons,List.flatMap_append,List.flatMap_nil,List.length_append,List.length_nil]
   omega
  rw [hB,List.length_append,e]
  omega
end Dv
