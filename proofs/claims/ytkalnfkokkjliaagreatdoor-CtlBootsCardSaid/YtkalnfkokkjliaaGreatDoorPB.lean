/- The logical machine and its plain laws: parts P10, P11, P12, P13, P14, P15, P16, proved sound. -/
import Derived.Test.YtkalnfkokkjliaaGreatDoorPA
set_option linter.unusedVariables false
set_option linter.unusedSimpArgs false
namespace Dv
def pX (f v j:Int):bu:=⟨hasB f 0,hasB f 1,hasB f 2,v,j⟩
def tJ (ns:List bu) (js:List ct) (p:Nat):List Int→Except Nat ai
 | []=>.error p
 | [_]=>.error (p+1)
 | [_,_]=>.error (p+2)
 | [_,_,_]=>.error (p+3)
 | [g,a,m,t]=>.ok ⟨ns,js,g,a,m,t⟩
 | _::_::_::_::_::_=>.error (p+4)
def nk (ns:List bu):Nat→List ct→Nat→List Int→Except Nat ai
 | 0,js,p,l=>tJ ns js p l
 | n+1,js,p,x0::x1::x2::x3::x4::x5::x6::x7::x8::x9::O5::O4::r=>nk ns n (js++[⟨x0,x1,x2,x3,x4,x5,x6,x7,x8,x9,O5,O4⟩]) (p+12) r
 | _+1,_,p,l=>.error (p+l.length)
def pS (ns:List bu) (p:Nat):List Int→Except Nat ai
 | []=>.error p
 | m::r=>if m≤24 then nk ns m.toNat [] (p+1) r else .error (p+1)
def gP:Nat→List bu→Nat→List Int→Except Nat ai
 | 0,ns,p,l=>pS ns p l
 | n+1,ns,p,l=>match l with
   | []=>.error p
   | f::r=>if f≤7 then (match r with
     | []=>.error (p+1)
     | [_]=>.error (p+2)
     | v::j::r=>gP n (ns++[pX f v j]) (p+3) r) else .error (p+1)
def jk (l:List Int):Except Nat ai:=match l with
 | []=>.error 0
 | n::r=>if n≤6 then gP n.toNat [] 1 r else .error 1
theorem pR (ns:List bu) (p:Nat) (l:List Int):gP 0 ns p l=pS ns p l:=by cases l <;> rfl
theorem ym (n:Nat) (ns:List bu) (p:Nat):gP (n+1) ns p []=.error p:=rfl
theorem yj (n:Nat) (ns:List bu) (p:Nat) (f:Int) (r:List Int) (h:¬ f≤7):gP (n+1) ns p (f::r)=.error (p+1):=by
 simp [gP,h]
theorem DT (n:Nat) (ns:List bu) (p:Nat) (f:Int) (h:f≤7):gP (n+1) ns p [f]=.error (p+1):=by
 simp [gP,h]
theorem AL (n:Nat) (ns:List bu) (p:Nat) (f v:Int) (h:f≤7):gP (n+1) ns p [f,v]=.error (p+2):=by
 simp [gP,h]
theorem sF (n:Nat) (ns:List bu) (p:Nat) (f v j:Int) (r:List Int) (h:f≤7):gP (n+1) ns p (f::v::j::r)=gP n (ns++[pX f v j]) (p+3) r:=by
 simp [gP,h]
theorem yp (ns:List bu) (p:Nat) (m:Int) (r:List Int) (h:¬ m≤24):pS ns p (m::r)=.error (p+1):=by simp [pS,h]
theorem u6 (ns:List bu) (p:Nat) (m:Int) (r:List Int) (h:m≤24):pS ns p (m::r)=nk ns m.toNat [] (p+1) r:=by simp [pS,h]
theorem sG (ns:List bu) (js:List ct) (p:Nat) (l:List Int):nk ns 0 js p l=tJ ns js p l:=by simp [nk]
theorem sH (ns:List bu) (n:Nat) (js:List ct) (p:Nat) (x0 x1 x2 x3 x4 x5 x6 x7 x8 x9 O5 O4:Int) (r:List Int):nk ns (n+1) js p (x0::x1::x2::x3::x4::x5::x6::x7::x8::x9::O5::O4::r)=nk ns n (js++[⟨x0,x1,x2,x3,x4,x5,x6,x7,x8,x9,O5,O4⟩]) (p+12) r:=by simp [nk]
theorem cM {xs:List Int} {k:Nat} (h:xs.drop k=[]) (hk:k≤xs.length):k=xs.length:=by
 have:=List.drop_eq_nil_iff.1 h
 omega
theorem cB {xs:List Int} {k:Nat} {x:Int} {r:List Int} (h:xs.drop k=x::r):k<xs.length∧xs.getD k 0=x∧xs.drop (k+1)=r:=by
 have hk:k<xs.length:=by
  rcases Nat.lt_or_ge k xs.length with h1 | h1
  ·exact h1
  ·rw [List.drop_eq_nil_of_le h1] at h; cases h
 rw [List.drop_eq_getElem_cons hk] at h
 cases h
 exact ⟨hk,by simp [List.getD,hk],rfl⟩
end Dv
namespace Dv
def dK:Int:=9007199254740991
def fT:Nat→Int→List Int
 | 0,n=>[n]
 | f+1,n=>if 128≤n then (n % 128+128)::fT f (n / 128) else [n]
def isNum (n:Int):Bool:=decide (0≤n∧n≤dK)
def aQ (n:Int):List Int:=if isNum n=true then fT 8 n else []
def fG (l:List Int):List Int:=if l.all isNum=true then aQ l.length++l.flatMap aQ else []
def iU:List Int→Nat→Int→Option (Int×Nat)
 | [],_,_=>none
 | c::r,i,n=>if 8≤i then none
   else if 128≤c then iU r (i+1) (n+c % 128*128 ^ i)
   else if (c=0∧0<i)∨dK<n+c % 128*128 ^ i then none
   else some (n+c % 128*128 ^ i,i+1)
def eZ (b:List Int) (YR:Nat):Option (Int×Nat):=(iU (b.drop YR) 0 0).map fun p=>(p.1,YR+p.2)
def kj (b:List Int):Nat→Nat→Option (List Int×Nat)
 | 0,p=>some ([],p)
 | k+1,p=>match eZ b p with
   | none=>none
   | some (x,p')=>(kj b k p').map fun q=>(x::q.1,q.2)
def kn (b:List Int) (p many:Nat):Option (List Int×Nat):=match eZ b p with
 | none=>none
 | some (n,p')=>if (many:Int)<n then none else kj b n.toNat p'
def nG (c:aI) (b:List Int):Option ai:=match kn b 0 400 with
 | none=>none
 | some (xs,e)=>if e=b.length then (match jk xs with
   | .error _=>none
   | .ok s=>if iy c s=true then some s else none) else none
def j4:ai:=⟨[],[],0,0,0,0⟩
theorem xW:∀ (l:List Int) (i:Nat) (n:Int),iU (l.take (8-i)) i n=iU l i n
 | [],i,n=>by simp
 | c::r,i,n=>by
   by_cases h:8≤i
   ·rw [show 8-i=0 by omega,List.take_zero]
    unfold iU
    rw [if_pos h]
   ·rw [show 8-i=(8-(i+1))+1 by omega,List.take_succ_cons]
    simp only [iU,if_neg h,xW r (i+1)]
theorem Az:∀ (l:List Int) (i:Nat) (n x:Int) (k:Nat),(∀ c∈l,0≤c)→0≤n→iU l i n=some (x,k)→0≤x∧x≤dK∧i<k∧k≤i+l.length
 | [],_,_,_,_,_,_,h=>by cases h
 | c::r,i,n,x,k,hc,hn,h=>by
   have h0:0≤c:=hc c (by simp)
   have hp:(0:Int)≤128 ^ i:=Int.le_of_lt (Int.pow_pos (by decide))
   have h1:0≤c % 128*128 ^ i:=Int.mul_nonneg (Int.emod_nonneg _ (by decide)) hp
   unfold iU at h
   split at h
   ·cases h
   split at h
   ·have:=Az r (i+1) _ x k (fun d hd=>hc d (by simp [hd])) (by omega) h
    simp only [List.length_cons]
    omega
   split at h
   ·cases h
   ·rename_i hne
    cases h
    refine ⟨by omega,?_,by omega,by simp⟩
    simp only [not_or,Int.not_lt] at hne
    exact hne.2
theorem eY {b:List Int} {p p':Nat} {x:Int} (hb:∀ c∈b,0≤c) (h:eZ b p=some (x,p')):0≤x∧x≤dK∧p<p'∧p'≤b.length:=by
 unfold eZ at h
 rw [Option.map_eq_some_iff] at h
 obtain ⟨⟨y,k⟩,h1,h2⟩:=h
 cases h2
 have hr:=Az _ _ _ _ _ (fun c hc=>hb c (List.mem_of_mem_drop hc)) (Int.le_refl 0) h1
 rw [List.length_drop] at hr
 dsimp only
 omega
theorem Bj {b:List Int} (hb:∀ c∈b,0≤c):∀ (k p:Nat) (xs:List Int) (e:Nat),kj b k p=some (xs,e)→p≤b.length→xs.length=k∧(∀ x∈xs,0≤x∧x≤dK)∧p≤e∧e≤b.length
 | 0,p,xs,e,h,hp=>by cases h; exact ⟨rfl,(fun _ h=>absurd h (by simp)),Nat.le_refl _,hp⟩
 | k+1,p,xs,e,h,hp=>by
   unfold kj at h
   split at h
   ·cases h
   ·rename_i x p' hx
    rw [Option.map_eq_some_iff] at h
    obtain ⟨⟨ys,e'⟩,h1,h2⟩:=h
    cases h2
    have hr:=eY hb hx
    obtain ⟨k1,k2,k3,k4⟩:=Bj hb k p' ys e' h1 hr.2.2.2
    refine ⟨by simp [k1],fun y hy=>?_,by dsimp only; omega,k4⟩
    rcases List.mem_cons.1 hy with rfl | hy
    ·exact ⟨hr.1,hr.2.1⟩
    ·exact k2 y hy
theorem ug {b:List Int} (hb:∀ c∈b,0≤c) {p many:Nat} {xs:List Int} {e:Nat} (h:kn b p many=some (xs,e)):xs.length≤many∧(∀ x∈xs,0≤x∧x≤dK)∧e≤b.length:=by
 unfold kn at h
 split at h
 ·cases h
 ·rename_i n p' hn
  have hr:=eY hb hn
  split at h
  ·cases h
  ·obtain ⟨k1,k2,_,k4⟩:=Bj hb _ _ _ _ h hr.2.2.2
   exact ⟨by omega,k2,k4⟩
end Dv
namespace Dv
def rI (b:Bool) (n:Int):Int:=if b=true then n else 0
def uk (n:bu):Int:=rI n.up 1+rI n.bV 2+rI n.aU 4
def iP (n:bu):List Int:=[uk n,n.version,n.bW]
def iV (j:ct):List Int:=[j.queue,j.prio,j.min,j.max,j.work,j.ia,j.phase,j.inc,j.nodes,j.since,j.mI,j.cK]
def jl (s:ai) (i:Nat):List Int:=(s.nodes.length:Int)::(s.nodes.take i).flatMap iP
def lQ (s:ai) (i:Nat):List Int:=jl s s.nodes.length++(s.jobs.length:Int)::(s.jobs.take i).flatMap iV
def c_ (s:ai):List Int:=lQ s s.jobs.length++[s.goal,s.bH,s.mode,s.term]
def e7 (s:ai):List Int:=if s.nodes.length≤6∧s.jobs.length≤24 then fG (c_ s) else []
theorem yF (l:List bu):(l.flatMap iP).length=3*l.length:=by
 induction l with
 | nil=>rfl
 | cons n l ih=>rw [List.flatMap_cons,List.length_append,List.length_cons,ih]; simp [iP]; omega
theorem Bd (l:List ct):(l.flatMap iV).length=12*l.length:=by
 induction l with
 | nil=>rfl
 | cons n l ih=>rw [List.flatMap_cons,List.length_append,List.length_cons,ih]; simp [iV]; omega
theorem sr {α:Type} {l:List α} {i:Nat} (z:α) (h:i<l.length):l.take (i+1)=l.take i++[l.getD i z]:=by
 rw [List.take_add_one]; simp [List.getD,h]
theorem yA (s:ai) {i:Nat} (h:i<s.nodes.length):jl s (i+1)=jl s i++iP (s.nodes.getD i an):=by
 unfold jl; rw [sr an h,List.flatMap_append]; simp
theorem yB (s:ai) {i:Nat} (h:i<s.jobs.length):lQ s (i+1)=lQ s i++iV (s.jobs.getD i aK):=by
 unfold lQ; rw [sr aK h,List.flatMap_append]; simp
theorem gm (s:ai) {i:Nat} (h:i≤s.nodes.length):(jl s i).length=1+3*i:=by
 unfold jl; rw [List.length_cons,yF,List.length_take]; omega
theorem lq (s:ai) {i:Nat} (h:i≤s.jobs.length):(lQ s i).length=2+3*s.nodes.length+12*i:=by
 unfold lQ; rw [List.length_append,List.length_cons,Bd,List.length_take,gm s (Nat.le_refl _)]; omega
end Dv
namespace Dv
def HT (xs:List Int) (i:Nat):bu:=pX (xs.getD (1+3*i) 0) (xs.getD (1+3*i+1) 0) (xs.getD (1+3*i+2) 0)
def Qc (xs:List Int) (p:Nat):ct:=⟨xs.getD p 0,xs.getD (p+1) 0,xs.getD (p+2) 0,xs.getD (p+3) 0,xs.getD (p+4) 0,xs.getD (p+5) 0,xs.getD (p+6) 0,xs.getD (p+7) 0,xs.getD (p+8) 0,xs.getD (p+9) 0,xs.getD (p+10) 0,xs.getD (p+11) 0⟩
def dY (xs:List Int):Nat:=(xs.getD 0 0).toNat
def eB (xs:List Int):Nat:=(xs.getD (1+3*dY xs) 0).toNat
def jL (xs:List Int) (k:Nat):List bu:=(List.range k).map (HT xs)
def oL (xs:List Int) (k:Nat):List ct:=(List.range k).map fun i=>Qc xs (2+3*dY xs+12*i)
def LZ (xs:List Int):ai:=⟨jL xs (dY xs),oL xs (eB xs),xs.getD (2+3*dY xs+12*eB xs) 0,xs.getD (2+3*dY xs+12*eB xs+1) 0,xs.getD (2+3*dY xs+12*eB xs+2) 0,xs.getD (2+3*dY xs+12*eB xs+3) 0⟩
def WH (xs:List Int):Bool:=decide (6≤xs.length∧xs.getD 0 0≤6∧6+3*xs.getD 0 0≤xs.length)
def okB (xs:List Int):Bool:=decide (xs.getD (1+3*dY xs) 0≤24∧(xs.length:Int)=2+3*dY xs+12*xs.getD (1+3*dY xs) 0+4)
def Ky (c:aI) (b:List Int):Option ai:=match kn b 0 400 with
 | none=>none
 | some (xs,_)=>if WH xs=true∧okB xs=true∧e7 (LZ xs)=b∧kP c (LZ xs)=true then some (LZ xs) else none
theorem D_ (xs:List Int) (k:Nat):jL xs (k+1)=jL xs k++[HT xs k]:=by
 unfold jL; rw [List.range_succ,List.map_append]; rfl
theorem Gl (xs:List Int) (k:Nat):oL xs (k+1)=oL xs k++[Qc xs (2+3*dY xs+12*k)]:=by
 unfold oL; rw [List.range_succ,List.map_append]; rfl
theorem yC (xs:List Int) (k:Nat):(jL xs k).length=k:=by simp [jL]
theorem J8 (xs:List Int) (k:Nat):(oL xs k).length=k:=by simp [oL]
end Dv
namespace Dv
theorem zx (f:Nat) {m:Int} (h:m<128):fT f m=[m]:=by
 cases f with
 | zero=>rfl
 | succ f=>rw [fT,if_neg (by omega)]
theorem HS {n:Int} (h:isNum n=true):aQ n=fT 8 n:=by unfold aQ; rw [if_pos h]
theorem xX:∀ (f:Nat) (m:Int) (i:Nat) (acc:Int) (t:List Int),0≤m→m<128 ^ (f+1)→(0<i→0<m)→0≤acc→acc+m*128 ^ i≤dK→iU (fT f m++t) i acc=some (acc+m*128 ^ i,i+(fT f m).length)
 | f,m,i,acc,t,h0,hf,hi,ha,hs=>by
   have hp:(1:Int)≤128 ^ i:=Int.pow_pos (by decide)
   have hi8:i<8:=by
    rcases Nat.lt_or_ge i 8 with h | h
    ·exact h
    ·exfalso
     have hm:=hi (by omega)
     have h1:(128:Int) ^ 8≤128 ^ i:=by exact_mod_cast Nat.pow_le_pow_right (by decide) h
     have h2:1*128 ^ i≤m*128 ^ i:=Int.mul_le_mul_of_nonneg_right hm (by omega)
     unfold dK at hs
     omega
   by_cases hm:128≤m
   case neg=>
    rw [zx f (by omega)]
    have e:m % 128=m:=by omega
    simp only [List.cons_append,List.nil_append,iU,if_neg (show ¬ 8≤i by omega),if_neg hm,e]
    rw [if_neg (by omega)]
    rfl
   case pos=>
    cases f with
    | zero=>exfalso; omega
    | succ f=>
      rw [fT,if_pos hm]
      have e:(m % 128+128) % 128=m % 128:=by omega
      have e2:acc+m % 128*128 ^ i+m / 128*128 ^ (i+1)=acc+m*128 ^ i:=by
       rw [Int.pow_succ,Int.mul_comm (128 ^ i) 128,← Int.mul_assoc,Int.add_assoc,← Int.add_mul]
       congr 2; omega
      have h1:m / 128<128 ^ (f+1):=by
       rw [Int.pow_succ] at hf
       exact Int.ediv_lt_of_lt_mul (by decide) hf
      have hmn:0≤m % 128*128 ^ i:=Int.mul_nonneg (by omega) (by omega)
      have ih:=xX f (m / 128) (i+1) (acc+m % 128*128 ^ i) t (by omega) h1 (fun _=>by omega) (by omega) (by rw [e2]; exact hs)
      simp only [List.cons_append,iU,if_neg (show ¬ 8≤i by omega),if_pos (show 128≤m % 128+128 by omega),e]
      rw [ih,e2]
      simp; omega
theorem EE (pre t:List Int) (n:Int) (hn:isNum n=true):eZ (pre++(aQ n++t)) pre.length=some (n,pre.length+(aQ n).length):=by
 have h:=of_decide_eq_true hn
 unfold eZ
 rw [List.drop_left,HS hn,xX 8 n 0 0 t h.1 (by unfold dK at h; omega) (fun h=>absurd h (by decide)) (Int.le_refl 0) (by simpa using h.2)]
 simp
theorem Bk:∀ (l pre t:List Int),l.all isNum=true→kj (pre++(l.flatMap aQ++t)) l.length pre.length=some (l,pre.length+(l.flatMap aQ).length)
 | [],pre,t,_=>by simp [kj]
 | x::l,pre,t,h=>by
   simp only [List.all_cons,Bool.and_eq_true] at h
   rw [List.length_cons,kj,List.flatMap_cons,List.append_assoc,EE pre _ x h.1]
   have ih:=Bk l (pre++aQ x) t h.2
   rw [List.length_append,List.append_assoc] at ih
   simp only [ih,Option.map_some,List.length_append,Nat.add_assoc]
theorem EG (l t:List Int) (many:Nat) (h:l.all isNum=true) (hm:l.length≤many) (hl:l.length≤1000000):kn (fG l++t) 0 many=some (l,(fG l).length):=by
 have hn:isNum (l.length:Int)=true:=by unfold isNum dK; simp; omega
 unfold fG
 rw [if_pos h]
 unfold kn
 have h1:=EE [] (l.flatMap aQ++t) (l.length:Int) hn
 simp only [List.nil_append,List.length_nil,Nat.zero_add] at h1
 rw [List.append_assoc,h1]
 have h2:=Bk l (aQ (l.length:Int)) t h
 simp only [Int.toNat_natCast,h2]
 rw [if_neg (by omega),List.length_append]
theorem xY:∀ (l:List Int) (i:Nat) (acc x:Int) (k:Nat),(∀ c∈l,0≤c∧c≤255)→iU l i acc=some (x,k)→∃ m,0≤m∧x=acc+m*128 ^ i∧(0<i→0<m)∧i<k∧k≤8∧k-i≤l.length∧∀ f,k-i≤f+1→fT f m=l.take (k-i)
 | [],_,_,_,_,_,h=>by cases h
 | c::r,i,acc,x,k,hc,h=>by
   have h0:=hc c (by simp)
   unfold iU at h
   split at h
   ·cases h
   rename_i hi8
   split at h
   ·rename_i h128
    obtain ⟨m,hm0,hx,Nu,NA,hk8,hkl,hd⟩:=xY r (i+1) _ x k (fun d hd=>hc d (by simp [hd])) h
    have Nu:=Nu (by omega)
    refine ⟨c % 128+128*m,by omega,?_,fun _=>by omega,by omega,hk8,by simp; omega,fun f hf=>?_⟩
    ·rw [hx,Int.pow_succ,Int.mul_comm (128 ^ i) 128,← Int.mul_assoc,Int.add_assoc,← Int.add_mul,Int.mul_comm m 128]
    ·cases f with
     | zero=>exfalso; omega
     | succ f=>
       rw [fT,if_pos (by omega),show (c % 128+128*m) / 128=m by omega,hd f (by omega),show k-i=(k-(i+1))+1 by omega,List.take_succ_cons,show (c % 128+128*m) % 128+128=c by omega]
   split at h
   ·cases h
   ·rename_i hne
    cases h
    refine ⟨c,h0.1,by rw [show c % 128=c by omega],fun hi=>by omega,by omega,by omega,by simp,fun f _=>?_⟩
    rw [zx f (by omega),show i+1-i=1 by omega]
    simp
theorem vq {b:List Int} (hb:∀ c∈b,0≤c∧c≤255) {p p':Nat} {x:Int} (h:eZ b p=some (x,p')):isNum x=true∧aQ x=(b.drop p).take (p'-p)∧p≤p'∧p'≤b.length:=by
 have hr:=eY (fun c hc=>(hb c hc).1) h
 unfold eZ at h
 rw [Option.map_eq_some_iff] at h
 obtain ⟨⟨y,k⟩,h1,h2⟩:=h
 cases h2
 obtain ⟨m,hm0,hx,_,NA,hk8,hkl,hd⟩:=xY _ _ _ _ _ (fun c hc=>hb c (List.mem_of_mem_drop hc)) h1
 have e:y=m:=by rw [hx]; simp
 subst e
 have hn:isNum y=true:=decide_eq_true ⟨hr.1,hr.2.1⟩
 refine ⟨hn,?_,by omega,by dsimp only; omega⟩
 rw [HS hn,hd 8 (by omega)]
 congr 1; omega
theorem za {b:List Int} (hb:∀ c∈b,0≤c∧c≤255):∀ (k p:Nat) (xs:List Int) (e:Nat),p≤b.length→kj b k p=some (xs,e)→xs.length=k∧xs.all isNum=true∧xs.flatMap aQ=(b.drop p).take (e-p)∧p≤e∧e≤b.length
 | 0,p,xs,e,hp,h=>by cases h; simp [hp]
 | k+1,p,xs,e,hp,h=>by
   unfold kj at h
   split at h
   ·cases h
   ·rename_i x p' hx
    rw [Option.map_eq_some_iff] at h
    obtain ⟨⟨ys,e'⟩,h1,h2⟩:=h
    cases h2
    obtain ⟨hn,hB,hp1,hp2⟩:=vq hb hx
    obtain ⟨k1,k2,k3,k4,k5⟩:=za hb k p' ys e' hp2 h1
    refine ⟨by simp [k1],by simp [hn,k2],?_,by dsimp only; omega,k5⟩
    dsimp only
    rw [List.flatMap_cons,hB,k3,show e'-p=(p'-p)+(e'-p') by omega,List.take_add,List.drop_drop,show p+(p'-p)=p' by omega]
theorem Bl {b:List Int} (hb:∀ c∈b,0≤c∧c≤255) {many:Nat} {xs:List Int} {e:Nat} (h:kn b 0 many=some (xs,e)):xs.all isNum=true∧fG xs=b.take e∧xs.length≤many∧e≤b.length:=by
 unfold kn at h
 split at h
 ·cases h
 ·rename_i n p' hn
  split at h
  ·cases h
  ·obtain ⟨h1,h2,h3,h4⟩:=vq hb hn
   obtain ⟨k1,k2,k3,k4,k5⟩:=za hb _ _ _ _ h4 h
   have h0:=of_decide_eq_true h1
   refine ⟨k2,?_,by omega,k5⟩
   unfold fG
   rw [if_pos k2,k3,k1,Int.toNat_of_nonneg h0.1,h2]
   simp only [List.drop_zero,Nat.sub_zero]
   rw [← List.take_add]
   congr 1; omega
end Dv
namespace Dv
theorem Bq (u c m:Bool) (v j:Int):pX (rI u 1+rI c 2+rI m 4) v j=⟨u,c,m,v,j⟩:=by
 cases u <;> cases c <;> cases m <;> rfl
theorem Lf (f v j:Int) (h0:0≤f) (h7:f≤7):uk (pX f v j)=f:=by
 have:f=0∨f=1∨f=2∨f=3∨f=4∨f=5∨f=6∨f=7:=by omega
 rcases this with h | h | h | h | h | h | h | h <;> subst h <;> rfl
theorem DR {ns:List bu} {js:List ct} {p:Nat} {l:List Int} {s:ai} : tJ ns js p l=.ok s↔(s.nodes=ns∧s.jobs=js∧l=[s.goal,s.bH,s.mode,s.term]):=by
 match l with
 | []=>simp [tJ]
 | [_]=>simp [tJ]
 | [_,_]=>simp [tJ]
 | [_,_,_]=>simp [tJ]
 | [g,a,m,t]=>
   simp only [tJ,Except.ok.injEq,List.cons.injEq,and_true]
   obtain ⟨n1,j1,g1,a1,m1,t1⟩:=s
   simp only [ai.mk.injEq]
   constructor
   ·rintro ⟨rfl,rfl,rfl,rfl,rfl,rfl⟩; exact ⟨rfl,rfl,rfl,rfl,rfl,rfl⟩
   ·rintro ⟨rfl,rfl,rfl,rfl,rfl,rfl⟩; exact ⟨rfl,rfl,rfl,rfl,rfl,rfl⟩
 | _::_::_::_::_::_=>simp [tJ]
theorem AM (ns:List bu):∀ (HW:List ct) (js:List ct) (p:Nat) (g a m t:Int),nk ns HW.length js p (HW.flatMap iV++[g,a,m,t])=.ok ⟨ns,js++HW,g,a,m,t⟩
 | [],js,p,g,a,m,t=>by rw [List.length_nil,sG]; exact DR.2 ⟨rfl,by simp,rfl⟩
 | j::HW,js,p,g,a,m,t=>by
   rw [List.length_cons,List.flatMap_cons]
   show nk ns (HW.length+1) js p (j.queue::j.prio::j.min::j.max::j.work::j.ia::j.phase::j.inc::j.nodes::j.since::j.mI::j.cK::(HW.flatMap iV++[g,a,m,t]))=_
   rw [sH,AM ns HW _ _ g a m t]
   simp
theorem yh:∀ (ns':List bu) (ns:List bu) (p:Nat) (r:List Int),gP ns'.length ns p (ns'.flatMap iP++r)=pS (ns++ns') (p+3*ns'.length) r
 | [],ns,p,r=>by rw [List.length_nil,pR]; simp
 | n::ns',ns,p,r=>by
   rw [List.length_cons,List.flatMap_cons]
   have h7:uk n≤7:=by unfold uk rI; split <;> split <;> split <;> decide
   show gP (ns'.length+1) ns p (uk n::n.version::n.bW::(ns'.flatMap iP++r))=_
   rw [sF _ _ _ _ _ _ _ h7,yh ns' _ _ r]
   have:pX (uk n) n.version n.bW=n:=by obtain ⟨u,c,m,v,j⟩:=n; exact Bq u c m v j
   rw [this]
   simp only [List.append_assoc,List.singleton_append]
   congr 1; omega
theorem F6 (s:ai) (hn:s.nodes.length≤6) (hj:s.jobs.length≤24):jk (c_ s)=.ok s:=by
 have h:c_ s=(s.nodes.length:Int)::(s.nodes.flatMap iP++((s.jobs.length:Int)::(s.jobs.flatMap iV++[s.goal,s.bH,s.mode,s.term]))):=by
  simp [c_,lQ,jl]
 rw [h]
 unfold jk
 dsimp only
 rw [if_pos (by omega),Int.toNat_natCast,yh,u6 _ _ _ _ (by omega),Int.toNat_natCast,AM]
 simp
theorem yo (ns:List bu):∀ (n:Nat) (js:List ct) (p:Nat) (l:List Int) (s:ai),nk ns n js p l=.ok s→s.nodes=ns∧∃ HW,s.jobs=js++HW∧HW.length=n∧l=HW.flatMap iV++[s.goal,s.bH,s.mode,s.term]
 | 0,js,p,l,s,h=>by
   rw [sG] at h
   obtain ⟨h1,h2,h3⟩:=DR.1 h
   exact ⟨h1,[],by simp [h2],rfl,by simp [h3]⟩
 | n+1,js,p,l,s,h=>by
   match l with
   | x0::x1::x2::x3::x4::x5::x6::x7::x8::x9::O5::O4::r=>
     rw [sH] at h
     obtain ⟨h1,HW,h2,h3,h4⟩:=yo ns n _ _ r s h
     exact ⟨h1,_::HW,by rw [h2,List.append_assoc]; rfl,by simp [h3],by rw [List.flatMap_cons,List.append_assoc,← h4]; rfl⟩
   | [] | [_] | [_,_] | [_,_,_] | [_,_,_,_] | [_,_,_,_,_] | [_,_,_,_,_,_] | [_,_,_,_,_,_,_] | [_,_,_,_,_,_,_,_] | [_,_,_,_,_,_,_,_,_] | [_,_,_,_,_,_,_,_,_,_] | [_,_,_,_,_,_,_,_,_,_,_]=>simp [nk] at h
theorem vQ:∀ (n:Nat) (ns:List bu) (p:Nat) (l:List Int) (s:ai),(∀ x∈l,0≤x)→gP n ns p l=.ok s→∃ ns' r p',l=ns'.flatMap iP++r∧ns'.length=n∧pS (ns++ns') p' r=.ok s
 | 0,ns,p,l,s,_,h=>by rw [pR] at h; exact ⟨[],l,p,rfl,rfl,by simpa using h⟩
 | n+1,ns,p,l,s,h0,h=>by
   match l with
   | []=>rw [ym] at h; cases h
   | f::r=>
     by_cases h7:f≤7
     case neg=>rw [yj _ _ _ _ _ h7] at h; cases h
     match r with
     | []=>rw [DT _ _ _ _ h7] at h; cases h
     | [v]=>rw [AL _ _ _ _ _ h7] at h; cases h
     | v::j::r=>
       rw [sF _ _ _ _ _ _ _ h7] at h
       obtain ⟨ns',r',p',h1,h2,h3⟩:=vQ n _ _ r s (fun x hx=>h0 x (by simp [hx])) h
       refine ⟨pX f v j::ns',r',p',?_,by simp [h2],by rw [List.append_assoc] at h3; exact h3⟩
       rw [List.flatMap_cons,List.append_assoc,← h1]
       show _=uk (pX f v j)::v::j::r
       rw [Lf f v j (h0 f (by simp)) h7]
theorem DS {xs:List Int} {s:ai} (h0:∀ x∈xs,0≤x) (h:jk xs=.ok s):c_ s=xs∧s.nodes.length≤6∧s.jobs.length≤24:=by
 unfold jk at h
 split at h
 ·cases h
 ·rename_i n r
  split at h
  ·rename_i hn
   obtain ⟨ns',r',p',h1,h2,h3⟩:=vQ _ _ _ r s (fun x hx=>h0 x (by simp [hx])) h
   match r' with
   | []=>cases h3
   | m::r'=>
     by_cases hm:m≤24
     case neg=>rw [yp _ _ _ _ hm] at h3; cases h3
     rw [u6 _ _ _ _ hm] at h3
     obtain ⟨k1,HW,k2,k3,k4⟩:=yo _ _ _ _ _ s h3
     have hn0:=h0 n (by simp)
     have hm0:=h0 m (by rw [h1]; simp)
     simp only [List.nil_append] at k1 k2
     refine ⟨?_,by rw [k1,h2]; omega,by rw [k2,k3]; omega⟩
     have e:c_ s=(s.nodes.length:Int)::(s.nodes.flatMap iP++((s.jobs.length:Int)::(s.jobs.flatMap iV++[s.goal,s.bH,s.mode,s.term]))):=by
      simp [c_,lQ,jl]
     rw [e,k1,k2,h2,k3,Int.toNat_of_nonneg hn0,Int.toNat_of_nonneg hm0,h1,k4]
  ·cases h
end Dv
namespace Dv
theorem chunk {α:Type} (z:α) (f:α→List Int) (n:Nat) (hf:∀ x,(f x).length=n) (t:List Int):∀ (l:List α) (i r:Nat),r<n→i<l.length→(l.flatMap f++t).getD (n*i+r) 0=(f (l.getD i z)).getD r 0
 | [],i,r,_,hi=>by simp at hi
 | x::l,0,r,hr,_=>by
   rw [List.flatMap_cons,Nat.mul_zero,Nat.zero_add,List.append_assoc]
   simp [List.getD,List.getElem?_append_left (show r<(f x).length by rw [hf]; exact hr)]
 | x::l,i+1,r,hr,hi=>by
   have ih:=chunk z f n hf t l i r hr (by simpa using hi)
   rw [List.flatMap_cons,List.append_assoc]
   have e:n*(i+1)+r=(f x).length+(n*i+r):=by rw [hf,Nat.mul_add]; omega
   simp only [List.getD] at ih ⊢
   rw [e,List.getElem?_append_right (by omega),Nat.add_sub_cancel_left,ih]
   rfl
theorem tN (s:ai):c_ s=(s.nodes.length:Int)::(s.nodes.flatMap iP++((s.jobs.length:Int)::(s.jobs.flatMap iV++[s.goal,s.bH,s.mode,s.term]))):=by
 simp [c_,lQ,jl]
theorem u_ (s:ai):(c_ s).length=2+3*s.nodes.length+12*s.jobs.length+4:=by
 unfold c_; rw [List.length_append,lq s (Nat.le_refl _)]; rfl
theorem rj {x:Int} {l:List Int} {k:Nat} : (x::l).getD (k+1) 0=l.getD k 0:=by simp [List.getD]
theorem u9 (s:ai) (i r:Nat) (hr:r<3) (hi:i<s.nodes.length):(c_ s).getD (1+3*i+r) 0=(iP (s.nodes.getD i an)).getD r 0:=by
 rw [tN,show 1+3*i+r=3*i+r+1 by omega,rj,chunk an iP 3 (fun _=>rfl) _ _ i r hr hi]
theorem pV (s:ai) (k:Nat):(c_ s).getD (1+3*s.nodes.length+k) 0=((s.jobs.length:Int)::(s.jobs.flatMap iV++[s.goal,s.bH,s.mode,s.term])).getD k 0:=by
 rw [tN,show 1+3*s.nodes.length+k=(s.nodes.flatMap iP).length+k+1 by rw [yF]; omega,rj]
 simp only [List.getD]
 rw [List.getElem?_append_right (by omega),Nat.add_sub_cancel_left]
theorem gw (s:ai) (i r:Nat) (hr:r<12) (hi:i<s.jobs.length):(c_ s).getD (2+3*s.nodes.length+12*i+r) 0=(iV (s.jobs.getD i aK)).getD r 0:=by
 rw [show 2+3*s.nodes.length+12*i+r=1+3*s.nodes.length+(12*i+r+1) by omega,pV,rj,chunk aK iV 12 (fun _=>rfl) _ _ i r hr hi]
theorem qR (s:ai) (r:Nat):(c_ s).getD (2+3*s.nodes.length+12*s.jobs.length+r) 0=[s.goal,s.bH,s.mode,s.term].getD r 0:=by
 rw [show 2+3*s.nodes.length+12*s.jobs.length+r=1+3*s.nodes.length+((s.jobs.flatMap iV).length+r+1) by rw [Bd]; omega,pV,rj]
 simp only [List.getD]
 rw [List.getElem?_append_right (by omega),Nat.add_sub_cancel_left]
theorem uz (s:ai):dY (c_ s)=s.nodes.length:=by
 unfold dY; rw [tN]; simp
theorem Ej (s:ai):(c_ s).getD (1+3*s.nodes.length) 0=s.jobs.length:=by
 have:=pV s 0
 rw [Nat.add_zero] at this
 rw [this]; simp
theorem J7 (s:ai):eB (c_ s)=s.jobs.length:=by
 unfold eB; rw [uz,Ej]; simp
theorem AG {α:Type} (z:α) (l:List α) (f:Nat→α) (h:∀ i,i<l.length→f i=l.getD i z):(List.range l.length).map f=l:=by
 refine List.ext_getElem (by simp) (fun i h1 h2=>?_)
 rw [List.getElem_map,List.getElem_range,h i h2]
 simp [List.getD,h2]
theorem Pc (s:ai):LZ (c_ s)=s:=by
 have hN:jL (c_ s) s.nodes.length=s.nodes:=AG an _ _ (fun i hi=>by
  unfold HT
  have h0:=u9 s i 0 (by omega) hi
  rw [Nat.add_zero] at h0
  rw [h0,u9 s i 1 (by omega) hi,u9 s i 2 (by omega) hi]
  generalize s.nodes.getD i an=n
  obtain ⟨u,c,m,v,j⟩:=n
  exact Bq u c m v j)
 have hJ:oL (c_ s) s.jobs.length=s.jobs:=AG aK _ _ (fun i hi=>by
  rw [uz]
  unfold Qc
  have h0:=gw s i 0 (by omega) hi
  rw [Nat.add_zero] at h0
  rw [h0,gw s i 1 (by omega) hi,gw s i 2 (by omega) hi,gw s i 3 (by omega) hi,gw s i 4 (by omega) hi,gw s i 5 (by omega) hi,gw s i 6 (by omega) hi,gw s i 7 (by omega) hi,gw s i 8 (by omega) hi,gw s i 9 (by omega) hi,gw s i 10 (by omega) hi,gw s i 11 (by omega) hi]
  generalize s.jobs.getD i aK=j
  obtain ⟨a0,a1,a2,a3,a4,a5,a6,a7,a8,a9,a10,a11⟩:=j
  rfl)
 have h0:=qR s 0
 rw [Nat.add_zero] at h0
 unfold LZ
 rw [uz,J7,hN,hJ,h0,qR s 1,qR s 2,qR s 3]
 rfl
theorem WD (s:ai) (hn:s.nodes.length≤6) (hj:s.jobs.length≤24):WH (c_ s)=true∧okB (c_ s)=true:=by
 have hl:=u_ s
 have h0:(c_ s).getD 0 0=s.nodes.length:=by rw [tN]; simp
 have h1:=Ej s
 constructor
 ·exact decide_eq_true (by rw [h0]; omega)
 ·exact decide_eq_true (by rw [uz,h1]; omega)
theorem JR {l:List Int} (h:fG l≠[]):l.all isNum=true:=by
 unfold fG at h
 split at h
 ·assumption
 ·exact absurd rfl h
theorem N0 (c:aI) (s:ai) (t:List Int) (hn:s.nodes.length≤6) (hj:s.jobs.length≤24) (ha:(c_ s).all isNum=true):kn (e7 s++t) 0 400=some (c_ s,(e7 s).length):=by
 unfold e7
 rw [if_pos ⟨hn,hj⟩]
 exact EG _ _ _ ha (by rw [u_]; omega) (by rw [u_]; omega)
theorem KA {c:aI} {b:List Int} (hb:∀ x∈b,0≤x∧x≤255) {s:ai} (h:nG c b=some s):iy c s=true∧e7 s=b∧s.nodes.length≤6∧s.jobs.length≤24∧kn b 0 400=some (c_ s,b.length):=by
 unfold nG at h
 split at h
 ·cases h
 ·rename_i xs e hL
  obtain ⟨h1,h2,h3,h4⟩:=Bl hb hL
  split at h
  ·rename_i he
   split at h
   ·cases h
   ·rename_i s' hp
    split at h
    ·rename_i hr
     cases h
     have hx0:∀ x∈xs,0≤x:=fun x hx=>by
      rw [List.all_eq_true] at h1
      exact (of_decide_eq_true (h1 x hx)).1
     obtain ⟨k1,k2,k3⟩:=DS hx0 hp
     refine ⟨hr,?_,k2,k3,by rw [k1,hL,he]⟩
     unfold e7
     rw [if_pos ⟨k2,k3⟩,k1,h2,he,List.take_length]
    ·cases h
  ·cases h
theorem SR {c:aI} {s:ai} (hn:s.nodes.length≤6) (hj:s.jobs.length≤24) (ha:(c_ s).all isNum=true) (hr:iy c s=true):nG c (e7 s)=some s:=by
 have h:=N0 c s [] hn hj ha
 rw [List.append_nil] at h
 unfold nG
 rw [h]
 dsimp only
 rw [if_pos rfl,F6 s hn hj]
 dsimp only
 rw [if_pos hr]
theorem SO (c:aI) (b:List Int) (hb:∀ x∈b,0≤x∧x≤255):Ky c b=nG c b:=by
 cases hI:nG c b with
 | some s=>
   obtain ⟨h1,h2,h3,h4,h5⟩:=KA hb hI
   unfold Ky
   rw [h5]
   dsimp only
   have hok:=WD s h3 h4
   rw [Pc,if_pos ⟨hok.1,hok.2,h2,by rw [← AF]; exact h1⟩]
 | none=>
   unfold Ky
   split
   ·rfl
   ·rename_i xs e hL
    split
    ·rename_i hc
     exfalso
     obtain ⟨_,_,h3,h4⟩:=hc
     generalize LZ xs=s at *
     have hne:e7 s≠[]:=by
      rw [h3]; intro he
      rw [he] at hL
      simp [kn,eZ,iU] at hL
     have hlen:s.nodes.length≤6∧s.jobs.length≤24:=by
      refine Classical.byContradiction fun hh=>hne ?_
      unfold e7; rw [if_neg hh]
     have ha:(c_ s).all isNum=true:=JR (by unfold e7 at hne; rw [if_pos hlen] at hne; exact hne)
     have:=SR (c:=c) hlen.1 hlen.2 ha (by rw [AF]; exact h4)
     rw [h3,hI] at this
     cases this
    ·rfl
theorem IF:∀ (i f:Nat) (m:Int),m<128 ^ (i+1)→(fT f m).length≤i+1
 | 0,f,m,h=>by rw [zx f (by simpa using h)]; simp
 | i+1,0,m,h=>by simp [fT]
 | i+1,f+1,m,h=>by
   unfold fT
   split
   ·have h2:m / 128<128 ^ (i+1):=by
     rw [Int.pow_succ] at h
     exact Int.ediv_lt_of_lt_mul (by decide) h
    have:=IF i f (m / 128) h2
    simp; omega
   ·simp
theorem size_le {n:Int} (i:Nat) (h:n<128 ^ (i+1)):(aQ n).length≤i+1:=by
 unfold aQ
 split
 ·exact IF i 8 n h
 ·simp
theorem gy {n:Int} (h0:0≤n) (h1:n≤9007199254740991):isNum n=true:=decide_eq_true ⟨h0,h1⟩
structure C_ (j:ct):Prop where
 queue:0≤j.queue∧j.queue<128
 prio:0≤j.prio∧j.prio<128
 min:0≤j.min∧j.min<128
 max:0≤j.max∧j.max<128
 work:0≤j.work∧j.work<16384
 ia:0≤j.ia∧j.ia<128
 phase:0≤j.phase∧j.phase<128
 inc:0≤j.inc∧j.inc<2097152
 nodes:0≤j.nodes∧j.nodes<128
 since:0≤j.since∧j.since<2097152
 mI:0≤j.mI∧j.mI<2097152
 cK:0≤j.cK∧j.cK<2097152
theorem C_.all {j:ct} (h:C_ j):(iV j).all isNum=true:=by
 obtain ⟨h1,h2,h3,h4,h5,h6,h7,h8,h9,h10,h11,h12⟩:=h
 simp only [iV,List.all_cons,List.all_nil,Bool.and_true,Bool.and_eq_true]
 exact ⟨gy (by omega) (by omega),gy (by omega) (by omega),gy (by omega) (by omega),gy (by omega) (by omega),gy (by omega) (by omega),gy (by omega) (by omega),gy (by omega) (by omega),gy (by omega) (by omega),gy (by omega) (by omega),gy (by omega) (by omega),gy (by omega) (by omega),gy (by omega) (by omega)⟩
theorem C_.size {j:ct} (h:C_ j):((iV j).flatMap aQ).length≤21:=by
 obtain ⟨h1,h2,h3,h4,h5,h6,h7,h8,h9,h10,h11,h12⟩:=h
 have a1:=size_le 0 (n:=j.queue) (by omega)
 have a2:=size_le 0 (n:=j.prio) (by omega)
 have a3:=size_le 0 (n:=j.min) (by omega)
 have a4:=size_le 0 (n:=j.max) (by omega)
 have a5:=size_le 1 (n:=j.work) (by omega)
 have a6:=size_le 0 (n:=j.ia) (by omega)
 have a7:=size_le 0 (n:=j.phase) (by omega)
 have a8:=size_le 2 (n:=j.inc) (by omega)
 have a9:=size_le 0 (n:=j.nodes) (by omega)
 have a10:=size_le 2 (n:=j.since) (by omega)
 have a11:=size_le 2 (n:=j.mI) (by omega)
 have a12:=size_le 2 (n:=j.cK) (by omega)
 simp only [iV,List.flatMap_cons,List.flatMap_nil,List.length_append,List.length_nil]
 omega
end Dv
