/- part -/
import Derived.Test.YtkalnfkokkjliaaGreatDoorQB
import Derived.Test.YtkalnfkokkjliaaGreatDoorCE
import Derived.Test.YtkalnfkokkjliaaGreatDoorQC
set_option linter.all false
namespace Dv
open Go Go.Proofs
structure Reads (l:List Int) (j:jy) (q:Option (List Int×Int)) (bs:List (List Int)):Prop where
 len:l.length=j.n
 My:bE l
 Hs:Cu j q bs
 eO:ji l j.n=q
 ops:ue l j.n=bs
 jn:∀ s,sP l j.n s = { j with s:=IntKind.i64.wrap (s+1) }
theorem Cu.reads {j:jy} {q:Option (List Int×Int)} {bs:List (List Int)} (h:Cu j q bs):Reads j.l j q bs:=⟨h.ok.len,h.ok.My,h,(h.opn 0).1,(h.opn 0).2.1,fun s=>(h.opn s).2.2⟩
end Dv
namespace Dv
open Go Go.Proofs
theorem YL {p:Prop} [Decidable p] {a b:aa×Int} {t:Int} (ha:p→a.1.term=t) (hb:¬ p→b.1.term=t):(if p then a else b).1.term=t:=by
 split
 ·exact ha ‹_›
 ·exact hb ‹_›
theorem YK {p:Prop} [Decidable p] {a b:aa} {t:Int} (ha:a.term=t) (hb:b.term=t):(if p then a else b).term=t:=by
 split
 ·exact ha
 ·exact hb
theorem Ml {c:aB} {s:aa} {o:bT} (hk:o.kind≠21) (hr:1≤o.kind∧o.kind≤21):(bO c s o).1.term=s.term:=by
 unfold bO
 simp only [jR,kL,kD,gZ,sr,QI,oV,nW,kC,mY,ki,oE,uS,mH,iJ,wM,mX,gF,ec,jY,fU]
 repeat' first | rfl | (exfalso; omega) | refine YL (fun _=>?_) (fun _=>?_) | refine YK ?_ ?_
theorem IM {c:aB} {s:aa} (h:bK c s) {o:bT} (hk:o.kind≠21):(bx c s o).1.term=s.term:=by
 unfold bx AI
 rw [if_neg (by rw [(fq c s).2 h]; decide)]
 split
 ·rfl
 rename_i h0
 have:=qY (o:=o) (by simpa using h0)
 split
 ·rfl
 split
 ·rfl
 exact Ml hk this
theorem nU {s:aa} {r:List eH} {up:Bool} {o:bT} : ∀ (l:List a_) (i:Nat),kY s r up l i=some o→o.kind≠21
 | [],i,h=>by cases h
 | n::l,i,h=>by
   unfold kY at h
   split at h
   ·split at h
    ·rename_i p hp
     cases h
     unfold Eb at hp
     split at hp
     ·cases hp
     split at hp
     ·cases hp; show (8:Int)≠21; decide
     split at hp
     ·cases hp; show (19:Int)≠21; decide
     ·cases hp
    ·exact nU l (i+1) h
   ·exact nU l (i+1) h
theorem yB {s:aa} {r:List eH} {now:Int} {o:bT} : ∀ (l:List bP) (k:Nat),rO s r now l k=some o→o.kind≠21
 | [],k,h=>by cases h
 | j::l,k,h=>by
   unfold rO at h
   split at h
   ·rename_i p hp
    cases h
    unfold Nj at hp
    split at hp
    ·cases hp
     unfold Cd
     split
     ·show (10:Int)≠21; decide
     split
     ·show (15:Int)≠21; decide
     split
     ·show (if j.epoch<j.inc then (⟨13,(k:Int)+1,j.inc,0,0,0,0⟩:bT) else ⟨14,(k:Int)+1,0,0,0,0,0⟩).kind≠21
      split
      ·show (13:Int)≠21; decide
      ·show (14:Int)≠21; decide
     ·show (0:Int)≠21; decide
    ·cases hp
   ·exact yB l (k+1) h
theorem Ia {s:aa} {r:List eH} {now:Int} {o:bT} (h:oD s r now=some o):o.kind≠21:=by
 unfold oD at h
 split at h
 ·rename_i p hp; cases h; exact nU _ _ hp
 split at h
 ·rename_i p hp; cases h; exact nU _ _ hp
 ·exact yB _ _ h
theorem Ll {x:aO} {now:Int} {u:Option bT} {o:bT} (h:x.jq now (oD x.s (x.pY x.lines.length) now) (qa x.c x.s now)=some o):o.kind≠21:=by
 unfold aO.jq at h
 split at h
 ·cases h; show (7:Int)≠21; decide
 split at h
 ·rename_i p hp; cases h; exact Ia hp
 ·have:=K9 h
  unfold Vp at this
  have:=of_decide_eq_true this
  omega
structure jx (c:aB) (n k:Nat) (x:aO):Prop where
 fi:jN c k x
 du:∃ q bs,Dur x q bs
 ct:x.j.cnt≤k
 tm:x.term≤x.s.term
 sz:x.j.n=n
 t0:0≤x.s.term∧x.s.term≤1000000
theorem jx.more {c:aB} {n k k':Nat} {x:aO} (h:jx c n k x) (hk:k≤k'):jx c n k' x:=⟨h.fi.more hk,h.du,by have:=h.ct; omega,h.tm,h.sz,h.t0⟩
theorem EN (x:aO) (o:bT) (now:Int):(x.dD o now).j.n=x.j.n:=by
 have h1:(x.eG o).n=x.j.n:=by
  unfold aO.eG aO.Jz
  split
  ·rfl
  split
  ·rfl
  ·exact jy.CX _ _
 unfold aO.dD
 split
 ·exact h1
 ·exact h1
theorem zn (x:aO) (o:bT) (now:Int):(x.dD o now).term=x.term:=by unfold aO.dD; split <;> rfl
theorem Jm {x:aO} {o:bT} {now:Int} : (x.dD o now).s=if x.fQ o=0 then (bx x.c x.s o).1 else x.s:=by unfold aO.dD; split <;> rfl
theorem Lh {x:aO} (hx:Gm x) {o:bT} (hk:o.kind≠21) (now:Int):(x.dD o now).s.term=x.s.term:=by
 rw [Jm]; split
 ·exact IM hx.right hk
 ·rfl
theorem jx.note {c:aB} {n k:Nat} {x:aO} (h:jx c n k x) (hk:k≤1000) {o:bT} (ho:o.kind≠21) {now:Int} (hn:0≤now∧now≤1000000):jx c n (k+1) (x.dD o now):=by
 obtain ⟨q,bs,hd⟩:=h.du
 have hc:=h.ct
 obtain ⟨q',bs',h1,h2⟩:=hd.note h.fi.ok o now (by omega)
 have ht:=Lh h.fi.ok ho now
 exact ⟨h.fi.note hk o hn,⟨q',bs',h1⟩,by omega,by rw [zn,ht]; exact h.tm,by rw [EN]; exact h.sz,by rw [ht]; exact h.t0⟩
theorem jx.IZ {c:aB} {n k:Nat} {y:aO} (h:jx c n k y) (had:Int→Int) (now:Int) (j:Nat):jx c n k (cV y had now j).1:=by
 have ht:=pM y had now j
 obtain ⟨q,bs,hd⟩:=h.du
 exact ⟨h.fi.IZ had now j,⟨q,bs,by rw [ht.j]; exact hd.Hs,by rw [ht.c,ht.s]; exact hd.rd⟩,by rw [ht.j]; exact h.ct,by rw [ht.term,ht.s]; exact h.tm,by rw [ht.j]; exact h.sz,by rw [ht.s]; exact h.t0⟩
theorem Hq {c:aB} (h:iq c=true) {n:Nat} (hn:64≤n∧n≤65536) (room:Int):jx c n 1 (FQ c n 0 room 0 (List.replicate 25 iP) 0 0):=by
 have h0:jx c n 0 (mj c n 0 room 0 (List.replicate 25 iP) 0 0):=by
  have hz:(dz c).term=0:=by unfold dz; rw [if_pos h]
  have hok:=DF h hn 0 room 0 (List.replicate 25 iP) (by rw [List.length_replicate]) 0 0
  refine ⟨⟨hok,rfl,rfl,?_,?_,⟨Int.le_refl _,Int.le_refl _⟩⟩,⟨none,[],⟨hok.jn,zA _ _ _ (by show 0+2*(n / 4)≤n; omega),rfl,rfl,Int.le_refl _,by show (0:Int)≤_; omega,?_,rfl,fun r hr=>(by cases hr),fun r hr=>(by cases hr),fun r hr=>(by cases hr)⟩,rfl⟩,Int.le_refl _,by show (0:Int)≤(dz c).term; omega,rfl,by show 0≤(dz c).term∧(dz c).term≤1000000; omega⟩
  ·intro l hl
   change l∈List.replicate _ (Vw 0) at hl
   rw [List.eq_of_mem_replicate hl]
   exact ⟨Int.le_refl _,by show (0:Int)≤_; omega⟩
  ·intro i hi
   show (List.replicate 25 iP).getD i iP=iP
   rw [List.getD,List.getElem?_replicate,if_pos hi]
   rfl
  ·show pS (List.replicate n 0) (2*(n / 4)) (n-2*(n / 4))=[]++List.replicate (n-2*(n / 4)-0) 0
   unfold pS
   rw [List.drop_replicate,List.take_replicate,Nat.min_self]; rfl
 obtain ⟨q,bs,hd⟩:=h0.du
 have hE:=H6 h hn 0 room 0 (List.replicate 25 iP) 0 0
 obtain ⟨q',bs',h1,h2⟩:=hd.note h0.fi.ok fT 0 (by show (0:Int)+1≤_; omega)
 have hs:((mj c n 0 room 0 (List.replicate 25 iP) 0 0).dD fT 0).s = { dz c with term:=1 }:=by
  rw [Jm,if_pos hE]; show (bx c (dz c) fT).1=_; rw [yA h]
 have ht:(FQ c n 0 room 0 (List.replicate 25 iP) 0 0).term=1:=by
  show (if _>_ then _ else _)=_
  rw [zn,hs]
  exact if_pos (show (1:Int)>0 by decide)
 refine ⟨H_ h hn room,⟨q',bs',h1.Hs,h1.rd⟩,?_,?_,?_,?_⟩
 ·show ((mj c n 0 room 0 (List.replicate 25 iP) 0 0).dD fT 0).j.cnt≤_
  have:(mj c n 0 room 0 (List.replicate 25 iP) 0 0).j.cnt=0:=rfl
  omega
 ·rw [ht]; show (1:Int)≤((mj c n 0 room 0 (List.replicate 25 iP) 0 0).dD fT 0).s.term; rw [hs]; exact Int.le_refl _
 ·show ((mj c n 0 room 0 (List.replicate 25 iP) 0 0).dD fT 0).j.n=n
  rw [EN]; rfl
 ·show 0≤((mj c n 0 room 0 (List.replicate 25 iP) 0 0).dD fT 0).s.term∧((mj c n 0 room 0 (List.replicate 25 iP) 0 0).dD fT 0).s.term≤1000000
  rw [hs]; exact ⟨by show (0:Int)≤1; decide,by show (1:Int)≤1000000; decide⟩
end Dv
