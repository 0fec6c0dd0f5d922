/- part -/
import Derived.Test.YtkalnfkokkjliaaGreatDoorPA
set_option linter.all false
namespace Dv
def BP (f v j:Int):a_:=⟨hasB f 0,hasB f 1,hasB f 2,v,j⟩
def ud (ns:List a_) (js:List bP) (p:Nat):List Int→Except Nat aa
 | []=>.error p
 | [_]=>.error (p+1)
 | [_,_]=>.error (p+2)
 | [_,_,_]=>.error (p+3)
 | [g,a,m,t]=>.ok ⟨ns,js,g,a,m,t⟩
 | _::_::_::_::_::_=>.error (p+4)
def qc (ns:List a_):Nat→List bP→Nat→List Int→Except Nat aa
 | 0,js,p,l=>ud ns js p l
 | n+1,js,p,x0::x1::x2::x3::x4::x5::x6::x7::x8::x9::x10::x11::r=>qc ns n (js++[⟨x0,x1,x2,x3,x4,x5,x6,x7,x8,x9,x10,x11⟩]) (p+12) r
 | _+1,_,p,l=>.error (p+l.length)
def sN (ns:List a_) (p:Nat):List Int→Except Nat aa
 | []=>.error p
 | m::r=>if m≤24 then qc ns m.toNat [] (p+1) r else .error (p+1)
def gU:Nat→List a_→Nat→List Int→Except Nat aa
 | 0,ns,p,l=>sN ns p l
 | n+1,ns,p,l=>match l with
   | []=>.error p
   | f::r=>if f≤7 then (match r with
     | []=>.error (p+1)
     | [_]=>.error (p+2)
     | v::j::r=>gU n (ns++[BP f v j]) (p+3) r) else .error (p+1)
def kq (l:List Int):Except Nat aa:=match l with
 | []=>.error 0
 | n::r=>if n≤6 then gU n.toNat [] 1 r else .error 1
theorem wI (ns:List a_) (p:Nat) (l:List Int):gU 0 ns p l=sN ns p l:=by cases l <;> rfl
theorem GY (n:Nat) (ns:List a_) (p:Nat):gU (n+1) ns p []=.error p:=rfl
theorem GX (n:Nat) (ns:List a_) (p:Nat) (f:Int) (r:List Int) (h:¬ f≤7):gU (n+1) ns p (f::r)=.error (p+1):=by
 simp [gU,h]
theorem NM (n:Nat) (ns:List a_) (p:Nat) (f:Int) (h:f≤7):gU (n+1) ns p [f]=.error (p+1):=by
 simp [gU,h]
theorem Lc (n:Nat) (ns:List a_) (p:Nat) (f v:Int) (h:f≤7):gU (n+1) ns p [f,v]=.error (p+2):=by
 simp [gU,h]
theorem y9 (n:Nat) (ns:List a_) (p:Nat) (f v j:Int) (r:List Int) (h:f≤7):gU (n+1) ns p (f::v::j::r)=gU n (ns++[BP f v j]) (p+3) r:=by
 simp [gU,h]
theorem GZ (ns:List a_) (p:Nat) (m:Int) (r:List Int) (h:¬ m≤24):sN ns p (m::r)=.error (p+1):=by simp [sN,h]
theorem BJ (ns:List a_) (p:Nat) (m:Int) (r:List Int) (h:m≤24):sN ns p (m::r)=qc ns m.toNat [] (p+1) r:=by simp [sN,h]
theorem y_ (ns:List a_) (js:List bP) (p:Nat) (l:List Int):qc ns 0 js p l=ud ns js p l:=by simp [qc]
theorem za (ns:List a_) (n:Nat) (js:List bP) (p:Nat) (x0 x1 x2 x3 x4 x5 x6 x7 x8 x9 x10 x11:Int) (r:List Int):qc ns (n+1) js p (x0::x1::x2::x3::x4::x5::x6::x7::x8::x9::x10::x11::r)=qc ns n (js++[⟨x0,x1,x2,x3,x4,x5,x6,x7,x8,x9,x10,x11⟩]) (p+12) r:=by simp [qc]
theorem cC {xs:List Int} {k:Nat} (h:xs.drop k=[]) (hk:k≤xs.length):k=xs.length:=by
 have:=List.drop_eq_nil_iff.1 h
 omega
theorem bW {xs:List Int} {k:Nat} {x:Int} {r:List Int} (h:xs.drop k=x::r):k<xs.length∧xs.getD k 0=x∧xs.drop (k+1)=r:=by
 have hk:k<xs.length:=by
  rcases Nat.lt_or_ge k xs.length with h1 | h1
  ·exact h1
  ·rw [List.drop_eq_nil_of_le h1] at h; cases h
 rw [List.drop_eq_getElem_cons hk] at h
 cases h
 exact ⟨hk,by simp [List.getD,hk],rfl⟩
end Dv
namespace Dv
def eF:Int:=9007199254740991
def iw:Nat→Int→List Int
 | 0,n=>[n]
 | f+1,n=>if 128≤n then (n % 128+128)::iw f (n / 128) else [n]
def isNum (n:Int):Bool:=decide (0≤n∧n≤eF)
def br (n:Int):List Int:=if isNum n=true then iw 8 n else []
def jt (l:List Int):List Int:=if l.all isNum=true then br l.length++l.flatMap br else []
def jZ:List Int→Nat→Int→Option (Int×Nat)
 | [],_,_=>none
 | c::r,i,n=>if 8≤i then none
   else if 128≤c then jZ r (i+1) (n+c % 128*128 ^ i)
   else if (c=0∧0<i)∨eF<n+c % 128*128 ^ i then none
   else some (n+c % 128*128 ^ i,i+1)
def fZ (b:List Int) (at0:Nat):Option (Int×Nat):=(jZ (b.drop at0) 0 0).map fun p=>(p.1,at0+p.2)
def qy (b:List Int):Nat→Nat→Option (List Int×Nat)
 | 0,p=>some ([],p)
 | k+1,p=>match fZ b p with
   | none=>none
   | some (x,p')=>(qy b k p').map fun q=>(x::q.1,q.2)
def vW (b:List Int) (p many:Nat):Option (List Int×Nat):=match fZ b p with
 | none=>none
 | some (n,p')=>if (many:Int)<n then none else qy b n.toNat p'
def sW (c:aB) (b:List Int):Option aa:=match vW b 0 400 with
 | none=>none
 | some (xs,e)=>if e=b.length then (match kq xs with
   | .error _=>none
   | .ok s=>if iD c s=true then some s else none) else none
def Vk:aa:=⟨[],[],0,0,0,0⟩
theorem yM:∀ (l:List Int) (i:Nat) (n:Int),jZ (l.take (8-i)) i n=jZ l i n
 | [],i,n=>by simp
 | c::r,i,n=>by
   by_cases h:8≤i
   ·rw [show 8-i=0 by omega,List.take_zero]
    unfold jZ
    rw [if_pos h]
   ·rw [show 8-i=(8-(i+1))+1 by omega,List.take_succ_cons]
    simp only [jZ,if_neg h,yM r (i+1)]
theorem Bu:∀ (l:List Int) (i:Nat) (n x:Int) (k:Nat),(∀ c∈l,0≤c)→0≤n→jZ l i n=some (x,k)→0≤x∧x≤eF∧i<k∧k≤i+l.length
 | [],_,_,_,_,_,_,h=>by cases h
 | c::r,i,n,x,k,hc,hn,h=>by
   have h0:0≤c:=hc c (by simp)
   have hp:(0:Int)≤128 ^ i:=Int.le_of_lt (Int.pow_pos (by decide))
   have h1:0≤c % 128*128 ^ i:=Int.mul_nonneg (Int.emod_nonneg _ (by decide)) hp
   unfold jZ at h
   split at h
   ·cases h
   split at h
   ·have:=Bu r (i+1) _ x k (fun d hd=>hc d (by simp [hd])) (by omega) h
    simp only [List.length_cons]
    omega
   split at h
   ·cases h
   ·rename_i hne
    cases h
    refine ⟨by omega,?_,by omega,by simp⟩
    simp only [not_or,Int.not_lt] at hne
    exact hne.2
theorem fW {b:List Int} {p p':Nat} {x:Int} (hb:∀ c∈b,0≤c) (h:fZ b p=some (x,p')):0≤x∧x≤eF∧p<p'∧p'≤b.length:=by
 unfold fZ at h
 rw [Option.map_eq_some_iff] at h
 obtain ⟨⟨y,k⟩,h1,h2⟩:=h
 cases h2
 have hr:=Bu _ _ _ _ _ (fun c hc=>hb c (List.mem_of_mem_drop hc)) (Int.le_refl 0) h1
 rw [List.length_drop] at hr
 dsimp only
 omega
theorem B9 {b:List Int} (hb:∀ c∈b,0≤c):∀ (k p:Nat) (xs:List Int) (e:Nat),qy b k p=some (xs,e)→p≤b.length→xs.length=k∧(∀ x∈xs,0≤x∧x≤eF)∧p≤e∧e≤b.length
 | 0,p,xs,e,h,hp=>by cases h; exact ⟨rfl,(fun _ h=>absurd h (by simp)),Nat.le_refl _,hp⟩
 | k+1,p,xs,e,h,hp=>by
   unfold qy at h
   split at h
   ·cases h
   ·rename_i x p' hx
    rw [Option.map_eq_some_iff] at h
    obtain ⟨⟨ys,e'⟩,h1,h2⟩:=h
    cases h2
    have hr:=fW hb hx
    obtain ⟨k1,k2,k3,k4⟩:=B9 hb k p' ys e' h1 hr.2.2.2
    refine ⟨by simp [k1],fun y hy=>?_,by dsimp only; omega,k4⟩
    rcases List.mem_cons.1 hy with rfl | hy
    ·exact ⟨hr.1,hr.2.1⟩
    ·exact k2 y hy
theorem Fz {b:List Int} (hb:∀ c∈b,0≤c) {p many:Nat} {xs:List Int} {e:Nat} (h:vW b p many=some (xs,e)):xs.length≤many∧(∀ x∈xs,0≤x∧x≤eF)∧e≤b.length:=by
 unfold vW at h
 split at h
 ·cases h
 ·rename_i n p' hn
  have hr:=fW hb hn
  split at h
  ·cases h
  ·obtain ⟨k1,k2,_,k4⟩:=B9 hb _ _ _ _ h hr.2.2.2
   exact ⟨by omega,k2,k4⟩
end Dv
namespace Dv
def rN (b:Bool) (n:Int):Int:=if b=true then n else 0
def r_ (n:a_):Int:=rN n.up 1+rN n.cF 2+rN n.bw 4
def iE (n:a_):List Int:=[r_ n,n.version,n.aM]
def kz (j:bP):List Int:=[j.queue,j.prio,j.min,j.max,j.work,j.pin,j.phase,j.inc,j.nodes,j.since,j.til,j.epoch]
def nB (s:aa) (i:Nat):List Int:=(s.nodes.length:Int)::(s.nodes.take i).flatMap iE
def qj (s:aa) (i:Nat):List Int:=nB s s.nodes.length++(s.jobs.length:Int)::(s.jobs.take i).flatMap kz
def fK (s:aa):List Int:=qj s s.jobs.length++[s.goal,s.prior,s.mode,s.term]
def jD (s:aa):List Int:=if s.nodes.length≤6∧s.jobs.length≤24 then jt (fK s) else []
theorem G9 (l:List a_):(l.flatMap iE).length=3*l.length:=by
 induction l with
 | nil=>rfl
 | cons n l ih=>rw [List.flatMap_cons,List.length_append,List.length_cons,ih]; simp [iE]; omega
theorem LF (l:List bP):(l.flatMap kz).length=12*l.length:=by
 induction l with
 | nil=>rfl
 | cons n l ih=>rw [List.flatMap_cons,List.length_append,List.length_cons,ih]; simp [kz]; omega
theorem yC {α:Type} {l:List α} {i:Nat} (z:α) (h:i<l.length):l.take (i+1)=l.take i++[l.getD i z]:=by
 rw [List.take_add_one]; simp [List.getD,h]
theorem G6 (s:aa) {i:Nat} (h:i<s.nodes.length):nB s (i+1)=nB s i++iE (s.nodes.getD i ai):=by
 unfold nB; rw [yC ai h,List.flatMap_append]; simp
theorem G7 (s:aa) {i:Nat} (h:i<s.jobs.length):qj s (i+1)=qj s i++kz (s.jobs.getD i aD):=by
 unfold qj; rw [yC aD h,List.flatMap_append]; simp
theorem kQ (s:aa) {i:Nat} (h:i≤s.nodes.length):(nB s i).length=1+3*i:=by
 unfold nB; rw [List.length_cons,G9,List.length_take]; omega
theorem vJ (s:aa) {i:Nat} (h:i≤s.jobs.length):(qj s i).length=2+3*s.nodes.length+12*i:=by
 unfold qj; rw [List.length_append,List.length_cons,LF,List.length_take,kQ s (Nat.le_refl _)]; omega
end Dv
namespace Dv
end Dv
namespace Dv
theorem Aq (f:Nat) {m:Int} (h:m<128):iw f m=[m]:=by
 cases f with
 | zero=>rfl
 | succ f=>rw [iw,if_neg (by omega)]
theorem UZ (f:Nat) (m:Int):1≤(iw f m).length:=by
 cases f with
 | zero=>simp [iw]
 | succ f=>unfold iw; split <;> simp
theorem xZ {n:Int} (h:isNum n=true):br n=iw 8 n:=by unfold br; rw [if_pos h]
theorem zk {n:Int} (h:isNum n=true):1≤(br n).length:=by rw [xZ h]; exact UZ 8 n
theorem yN:∀ (f:Nat) (m:Int) (i:Nat) (acc:Int) (t:List Int),0≤m→m<128 ^ (f+1)→(0<i→0<m)→0≤acc→acc+m*128 ^ i≤eF→jZ (iw f m++t) i acc=some (acc+m*128 ^ i,i+(iw f m).length)
 | f,m,i,acc,t,h0,hf,hi,ha,hs=>by
   have hp:(1:Int)≤128 ^ i:=Int.pow_pos (by decide)
   have hi8:i<8:=by
    rcases Nat.lt_or_ge i 8 with h | h
    ·exact h
    ·exfalso
     have hm:=hi (by omega)
     have h1:(128:Int) ^ 8≤128 ^ i:=by exact_mod_cast Nat.pow_le_pow_right (by decide) h
     have h2:1*128 ^ i≤m*128 ^ i:=Int.mul_le_mul_of_nonneg_right hm (by omega)
     unfold eF at hs
     omega
   by_cases hm:128≤m
   case neg=>
    rw [Aq f (by omega)]
    have e:m % 128=m:=by omega
    simp only [List.cons_append,List.nil_append,jZ,if_neg (show ¬ 8≤i by omega),if_neg hm,e]
    rw [if_neg (by omega)]
    rfl
   case pos=>
    cases f with
    | zero=>exfalso; omega
    | succ f=>
      rw [iw,if_pos hm]
      have e:(m % 128+128) % 128=m % 128:=by omega
      have e2:acc+m % 128*128 ^ i+m / 128*128 ^ (i+1)=acc+m*128 ^ i:=by
       rw [Int.pow_succ,Int.mul_comm (128 ^ i) 128,← Int.mul_assoc,Int.add_assoc,← Int.add_mul]
       congr 2; omega
      have h1:m / 128<128 ^ (f+1):=by
       rw [Int.pow_succ] at hf
       exact Int.ediv_lt_of_lt_mul (by decide) hf
      have hmn:0≤m % 128*128 ^ i:=Int.mul_nonneg (by omega) (by omega)
      have ih:=yN f (m / 128) (i+1) (acc+m % 128*128 ^ i) t (by omega) h1 (fun _=>by omega) (by omega) (by rw [e2]; exact hs)
      simp only [List.cons_append,jZ,if_neg (show ¬ 8≤i by omega),if_pos (show 128≤m % 128+128 by omega),e]
      rw [ih,e2]
      simp; omega
theorem uJ (pre t:List Int) (n:Int) (hn:isNum n=true):fZ (pre++(br n++t)) pre.length=some (n,pre.length+(br n).length):=by
 have h:=of_decide_eq_true hn
 unfold fZ
 rw [List.drop_left,xZ hn,yN 8 n 0 0 t h.1 (by unfold eF at h; omega) (fun h=>absurd h (by decide)) (Int.le_refl 0) (by simpa using h.2)]
 simp
theorem B_:∀ (l pre t:List Int),l.all isNum=true→qy (pre++(l.flatMap br++t)) l.length pre.length=some (l,pre.length+(l.flatMap br).length)
 | [],pre,t,_=>by simp [qy]
 | x::l,pre,t,h=>by
   simp only [List.all_cons,Bool.and_eq_true] at h
   rw [List.length_cons,qy,List.flatMap_cons,List.append_assoc,uJ pre _ x h.1]
   have ih:=B_ l (pre++br x) t h.2
   rw [List.length_append,List.append_assoc] at ih
   simp only [ih,Option.map_some,List.length_append,Nat.add_assoc]
theorem FA (l t:List Int) (many:Nat) (h:l.all isNum=true) (hm:l.length≤many) (hl:l.length≤1000000):vW (jt l++t) 0 many=some (l,(jt l).length):=by
 have hn:isNum (l.length:Int)=true:=by unfold isNum eF; simp; omega
 unfold jt
 rw [if_pos h]
 unfold vW
 have h1:=uJ [] (l.flatMap br++t) (l.length:Int) hn
 simp only [List.nil_append,List.length_nil,Nat.zero_add] at h1
 rw [List.append_assoc,h1]
 have h2:=B_ l (br (l.length:Int)) t h
 simp only [Int.toNat_natCast,h2]
 rw [if_neg (by omega),List.length_append]
theorem yO:∀ (l:List Int) (i:Nat) (acc x:Int) (k:Nat),(∀ c∈l,0≤c∧c≤255)→jZ l i acc=some (x,k)→∃ m,0≤m∧x=acc+m*128 ^ i∧(0<i→0<m)∧i<k∧k≤8∧k-i≤l.length∧∀ f,k-i≤f+1→iw f m=l.take (k-i)
 | [],_,_,_,_,_,h=>by cases h
 | c::r,i,acc,x,k,hc,h=>by
   have h0:=hc c (by simp)
   unfold jZ at h
   split at h
   ·cases h
   rename_i hi8
   split at h
   ·rename_i h128
    obtain ⟨m,hm0,hx,X7,vS,hk8,hkl,hd⟩:=yO r (i+1) _ x k (fun d hd=>hc d (by simp [hd])) h
    have X7:=X7 (by omega)
    refine ⟨c % 128+128*m,by omega,?_,fun _=>by omega,by omega,hk8,by simp; omega,fun f hf=>?_⟩
    ·rw [hx,Int.pow_succ,Int.mul_comm (128 ^ i) 128,← Int.mul_assoc,Int.add_assoc,← Int.add_mul,Int.mul_comm m 128]
    ·cases f with
     | zero=>exfalso; omega
     | succ f=>
       rw [iw,if_pos (by omega),show (c % 128+128*m) / 128=m by omega,hd f (by omega),show k-i=(k-(i+1))+1 by omega,List.take_succ_cons,show (c % 128+128*m) % 128+128=c by omega]
   split at h
   ·cases h
   ·rename_i hne
    cases h
    refine ⟨c,h0.1,by rw [show c % 128=c by omega],fun hi=>by omega,by omega,by omega,by simp,fun f _=>?_⟩
    rw [Aq f (by omega),show i+1-i=1 by omega]
    simp
theorem LY {b:List Int} (hb:∀ c∈b,0≤c∧c≤255) {p p':Nat} {x:Int} (h:fZ b p=some (x,p')):isNum x=true∧br x=(b.drop p).take (p'-p)∧p≤p'∧p'≤b.length:=by
 have hr:=fW (fun c hc=>(hb c hc).1) h
 unfold fZ at h
 rw [Option.map_eq_some_iff] at h
 obtain ⟨⟨y,k⟩,h1,h2⟩:=h
 cases h2
 obtain ⟨m,hm0,hx,_,vS,hk8,hkl,hd⟩:=yO _ _ _ _ _ (fun c hc=>hb c (List.mem_of_mem_drop hc)) h1
 have e:y=m:=by rw [hx]; simp
 subst e
 have hn:isNum y=true:=decide_eq_true ⟨hr.1,hr.2.1⟩
 refine ⟨hn,?_,by omega,by dsimp only; omega⟩
 rw [xZ hn,hd 8 (by omega)]
 congr 1; omega
end Dv
namespace Dv
theorem L5 (u c m:Bool) (v j:Int):BP (rN u 1+rN c 2+rN m 4) v j=⟨u,c,m,v,j⟩:=by
 cases u <;> cases c <;> cases m <;> rfl
theorem NL {ns:List a_} {js:List bP} {p:Nat} {l:List Int} {s:aa} : ud ns js p l=.ok s↔(s.nodes=ns∧s.jobs=js∧l=[s.goal,s.prior,s.mode,s.term]):=by
 match l with
 | []=>simp [ud]
 | [_]=>simp [ud]
 | [_,_]=>simp [ud]
 | [_,_,_]=>simp [ud]
 | [g,a,m,t]=>
   simp only [ud,Except.ok.injEq,List.cons.injEq,and_true]
   obtain ⟨n1,j1,g1,a1,m1,t1⟩:=s
   simp only [aa.mk.injEq]
   constructor
   ·rintro ⟨rfl,rfl,rfl,rfl,rfl,rfl⟩; exact ⟨rfl,rfl,rfl,rfl,rfl,rfl⟩
   ·rintro ⟨rfl,rfl,rfl,rfl,rfl,rfl⟩; exact ⟨rfl,rfl,rfl,rfl,rfl,rfl⟩
 | _::_::_::_::_::_=>simp [ud]
theorem BI (ns:List a_):∀ (YJ:List bP) (js:List bP) (p:Nat) (g a m t:Int),qc ns YJ.length js p (YJ.flatMap kz++[g,a,m,t])=.ok ⟨ns,js++YJ,g,a,m,t⟩
 | [],js,p,g,a,m,t=>by rw [List.length_nil,y_]; exact NL.2 ⟨rfl,by simp,rfl⟩
 | j::YJ,js,p,g,a,m,t=>by
   rw [List.length_cons,List.flatMap_cons]
   show qc ns (YJ.length+1) js p (j.queue::j.prio::j.min::j.max::j.work::j.pin::j.phase::j.inc::j.nodes::j.since::j.til::j.epoch::(YJ.flatMap kz++[g,a,m,t]))=_
   rw [za,BI ns YJ _ _ g a m t]
   simp
theorem y8:∀ (ns':List a_) (ns:List a_) (p:Nat) (r:List Int),gU ns'.length ns p (ns'.flatMap iE++r)=sN (ns++ns') (p+3*ns'.length) r
 | [],ns,p,r=>by rw [List.length_nil,wI]; simp
 | n::ns',ns,p,r=>by
   rw [List.length_cons,List.flatMap_cons]
   have h7:r_ n≤7:=by unfold r_ rN; split <;> split <;> split <;> decide
   show gU (ns'.length+1) ns p (r_ n::n.version::n.aM::(ns'.flatMap iE++r))=_
   rw [y9 _ _ _ _ _ _ _ h7,y8 ns' _ _ r]
   have:BP (r_ n) n.version n.aM=n:=by obtain ⟨u,c,m,v,j⟩:=n; exact L5 u c m v j
   rw [this]
   simp only [List.append_assoc,List.singleton_append]
   congr 1; omega
theorem GW (s:aa) (hn:s.nodes.length≤6) (hj:s.jobs.length≤24):kq (fK s)=.ok s:=by
 have h:fK s=(s.nodes.length:Int)::(s.nodes.flatMap iE++((s.jobs.length:Int)::(s.jobs.flatMap kz++[s.goal,s.prior,s.mode,s.term]))):=by
  simp [fK,qj,nB]
 rw [h]
 unfold kq
 dsimp only
 rw [if_pos (by omega),Int.toNat_natCast,y8,BJ _ _ _ _ (by omega),Int.toNat_natCast,BI]
 simp
end Dv
namespace Dv
theorem EL (s:aa):fK s=(s.nodes.length:Int)::(s.nodes.flatMap iE++((s.jobs.length:Int)::(s.jobs.flatMap kz++[s.goal,s.prior,s.mode,s.term]))):=by
 simp [fK,qj,nB]
theorem vK (s:aa):(fK s).length=2+3*s.nodes.length+12*s.jobs.length+4:=by
 unfold fK; rw [List.length_append,vJ s (Nat.le_refl _)]; rfl
theorem PN (c:aB) (s:aa) (t:List Int) (hn:s.nodes.length≤6) (hj:s.jobs.length≤24) (ha:(fK s).all isNum=true):vW (jD s++t) 0 400=some (fK s,(jD s).length):=by
 unfold jD
 rw [if_pos ⟨hn,hj⟩]
 exact FA _ _ _ ha (by rw [vK]; omega) (by rw [vK]; omega)
theorem UK {c:aB} {s:aa} (hn:s.nodes.length≤6) (hj:s.jobs.length≤24) (ha:(fK s).all isNum=true) (hr:iD c s=true):sW c (jD s)=some s:=by
 have h:=PN c s [] hn hj ha
 rw [List.append_nil] at h
 unfold sW
 rw [h]
 dsimp only
 rw [if_pos rfl,GW s hn hj]
 dsimp only
 rw [if_pos hr]
theorem J9:∀ (i f:Nat) (m:Int),m<128 ^ (i+1)→(iw f m).length≤i+1
 | 0,f,m,h=>by rw [Aq f (by simpa using h)]; simp
 | i+1,0,m,h=>by simp [iw]
 | i+1,f+1,m,h=>by
   unfold iw
   split
   ·have h2:m / 128<128 ^ (i+1):=by
     rw [Int.pow_succ] at h
     exact Int.ediv_lt_of_lt_mul (by decide) h
    have:=J9 i f (m / 128) h2
    simp; omega
   ·simp
theorem size_le {n:Int} (i:Nat) (h:n<128 ^ (i+1)):(br n).length≤i+1:=by
 unfold br
 split
 ·exact J9 i 8 n h
 ·simp
theorem dg {n:Int} (h0:0≤n) (h1:n≤9007199254740991):isNum n=true:=decide_eq_true ⟨h0,h1⟩
structure AO (j:bP):Prop where
 queue:0≤j.queue∧j.queue<128
 prio:0≤j.prio∧j.prio<128
 min:0≤j.min∧j.min<128
 max:0≤j.max∧j.max<128
 work:0≤j.work∧j.work<16384
 pin:0≤j.pin∧j.pin<128
 phase:0≤j.phase∧j.phase<128
 inc:0≤j.inc∧j.inc<2097152
 nodes:0≤j.nodes∧j.nodes<128
 since:0≤j.since∧j.since<2097152
 til:0≤j.til∧j.til<2097152
 epoch:0≤j.epoch∧j.epoch<2097152
theorem AO.all {j:bP} (h:AO j):(kz j).all isNum=true:=by
 obtain ⟨h1,h2,h3,h4,h5,h6,h7,h8,h9,h10,h11,h12⟩:=h
 simp only [kz,List.all_cons,List.all_nil,Bool.and_true,Bool.and_eq_true]
 exact ⟨dg (by omega) (by omega),dg (by omega) (by omega),dg (by omega) (by omega),dg (by omega) (by omega),dg (by omega) (by omega),dg (by omega) (by omega),dg (by omega) (by omega),dg (by omega) (by omega),dg (by omega) (by omega),dg (by omega) (by omega),dg (by omega) (by omega),dg (by omega) (by omega)⟩
theorem AO.size {j:bP} (h:AO j):((kz j).flatMap br).length≤21:=by
 obtain ⟨h1,h2,h3,h4,h5,h6,h7,h8,h9,h10,h11,h12⟩:=h
 have a1:=size_le 0 (n:=j.queue) (by omega)
 have a2:=size_le 0 (n:=j.prio) (by omega)
 have a3:=size_le 0 (n:=j.min) (by omega)
 have a4:=size_le 0 (n:=j.max) (by omega)
 have a5:=size_le 1 (n:=j.work) (by omega)
 have a6:=size_le 0 (n:=j.pin) (by omega)
 have a7:=size_le 0 (n:=j.phase) (by omega)
 have a8:=size_le 2 (n:=j.inc) (by omega)
 have a9:=size_le 0 (n:=j.nodes) (by omega)
 have a10:=size_le 2 (n:=j.since) (by omega)
 have a11:=size_le 2 (n:=j.til) (by omega)
 have a12:=size_le 2 (n:=j.epoch) (by omega)
 simp only [kz,List.flatMap_cons,List.flatMap_nil,List.length_append,List.length_nil]
 omega
theorem Fb:∀ (l:List bP),(∀ j∈l,AO j)→(l.flatMap kz).all isNum=true∧((l.flatMap kz).flatMap br).length≤21*l.length
 | [],_=>by simp
 | j::l,h=>by
   obtain ⟨h1,h2⟩:=Fb l (fun x hx=>h x (by simp [hx]))
   have hj:=h j (by simp)
   rw [List.flatMap_cons,List.all_append,h1,hj.all,List.flatMap_append,List.length_append,List.length_cons]
   have:=hj.size
   exact ⟨rfl,by omega⟩
theorem Oo {n:a_} (h1:0≤n.version∧n.version<128) (h2:0≤n.aM∧n.aM<128):(iE n).all isNum=true∧((iE n).flatMap br).length≤3:=by
 have h7:0≤r_ n∧r_ n≤7:=by unfold r_ rN; split <;> split <;> split <;> decide
 have a1:=size_le 0 (n:=r_ n) (by omega)
 have a2:=size_le 0 (n:=n.version) (by omega)
 have a3:=size_le 0 (n:=n.aM) (by omega)
 simp only [iE,List.all_cons,List.all_nil,Bool.and_true,Bool.and_eq_true,List.flatMap_cons,List.flatMap_nil,List.length_append,List.length_nil]
 exact ⟨⟨dg (by omega) (by omega),dg (by omega) (by omega),dg (by omega) (by omega)⟩,by omega⟩
theorem BN:∀ (l:List a_),(∀ n∈l,(0≤n.version∧n.version<128)∧(0≤n.aM∧n.aM<128))→(l.flatMap iE).all isNum=true∧((l.flatMap iE).flatMap br).length≤3*l.length
 | [],_=>by simp
 | n::l,h=>by
   obtain ⟨h1,h2⟩:=BN l (fun x hx=>h x (by simp [hx]))
   have hn:=Oo (h n (by simp)).1 (h n (by simp)).2
   rw [List.flatMap_cons,List.all_append,h1,hn.1,List.flatMap_append,List.length_append,List.length_cons]
   have:=hn.2
   exact ⟨rfl,by omega⟩
theorem FD {α:Type} {l:List α} {x:α} (z:α) (h:x∈l):∃ k,k<l.length∧l.getD k z=x:=by
 obtain ⟨k,hk,rfl⟩:=List.mem_iff_getElem.1 h
 exact ⟨k,hk,by simp [List.getD,hk]⟩
theorem UR (l:List Int) (h:l.all isNum=true):l.length≤(l.flatMap br).length:=by
 induction l with
 | nil=>simp
 | cons x l ih=>
   simp only [List.all_cons,Bool.and_eq_true] at h
   rw [List.flatMap_cons,List.length_append,List.length_cons]
   have:=zk h.1
   have:=ih h.2
   omega
theorem Ey {c:aB} {s:aa} (h:iD c s=true):(s.nodes.length≤6∧s.jobs.length≤24)∧(fK s).all isNum=true∧10≤(jD s).length∧(jD s).length≤900:=by
 have hO:=tU h
 have hc:=hO.uW
 have hn:=hO.nodes
 have hj:=hO.jobs
 have hs:=hO.acv
 have hN:s.nodes.length≤6:=by omega
 obtain ⟨n1,n2⟩:=BN s.nodes (fun n hm=>by
  obtain ⟨k,hk,rfl⟩:=FD ai hm
  have:=hO.node hk
  omega)
 obtain ⟨j1,j2⟩:=Fb s.jobs (fun j hm=>by
  obtain ⟨k,hk,rfl⟩:=FD aD hm
  have h1:=hO.aM hk
  have h2:=hO.bits hk
  dsimp only at h1
  exact ⟨by omega,by omega,by omega,by omega,by omega,by omega,by omega,by omega,by omega,by omega,by omega,by omega⟩)
 have ha:(fK s).all isNum=true:=by
  rw [EL]
  simp only [List.all_cons,List.all_append,n1,j1,List.all_nil,Bool.and_true,Bool.true_and,Bool.and_eq_true]
  exact ⟨dg (by omega) (by omega),dg (by omega) (by omega),dg (by omega) (by omega),dg (by omega) (by omega),dg (by omega) (by omega),dg (by omega) (by omega)⟩
 have hB:jD s=br (fK s).length++(fK s).flatMap br:=by
  unfold jD; rw [if_pos ⟨hN,hj⟩]; unfold jt; rw [if_pos ha]
 have hl:=vK s
 have hge:=UR (fK s) ha
 have hh:=zk (n:=((fK s).length:Int)) (dg (by omega) (by omega))
 have hh2:=size_le 1 (n:=((fK s).length:Int)) (by omega)
 refine ⟨⟨hN,hj⟩,ha,?_,?_⟩
 ·rw [hB,List.length_append]; omega
 ·have a1:=size_le 0 (n:=(s.nodes.length:Int)) (by omega)
  have a2:=size_le 0 (n:=(s.jobs.length:Int)) (by omega)
  have a3:=size_le 0 (n:=s.goal) (by omega)
  have a4:=size_le 0 (n:=s.prior) (by omega)
  have a5:=size_le 0 (n:=s.mode) (by omega)
  have a6:=size_le 2 (n:=s.term) (by omega)
  have e:((fK s).flatMap br).length=(br (s.nodes.length:Int)).length+(((s.nodes.flatMap iE).flatMap br).length+((br (s.jobs.length:Int)).length+(((s.jobs.flatMap kz).flatMap br).length+((br s.goal).length+((br s.prior).length+((br s.mode).length+(br s.term).length)))))):=by
   rw [EL]
   simp only [List.flatMap_cons,List.flatMap_append,List.flatMap_nil,List.length_append,List.length_nil]
   omega
  rw [hB,List.length_append,e]
  omega
end Dv
