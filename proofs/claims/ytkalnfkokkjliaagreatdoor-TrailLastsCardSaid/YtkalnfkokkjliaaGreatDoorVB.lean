/- part -/
import Derived.Test.YtkalnfkokkjliaaGreatDoorVA
import Derived.Laws.StructEq
set_option linter.all false
set_option maxHeartbeats 1000000
namespace Dv
open Go
inductive tw {α β:Type} (R:α→β→Prop):List α→List β→Prop
 | nil:tw R [] []
 | cons {x y xs ys} : R x y→tw R xs ys→tw R (x::xs) (y::ys)
section
variable {P:Program} {G:Nat→Option (List DV)} {J:Nat→Prop} {w w':World} {ι:Nat→Nat→Option Nat} {obj:Nat→b_} {a:Act} {get:Nat→LV} {base:Nat}
theorem qE (off:Nat):∀ (vs:List Value) (k:Nat) (cells:Array Value),off+k+vs.length≤cells.size→
  ((vs.zipIdx k).foldl (fun cs (p:Value×Nat)=>cs.setIfInBounds (off+p.2) p.1) cells).toList=splice cells.toList (off+k) vs
 | [],k,cells,h=>by simp [splice]
 | v::vs,k,cells,h=>by
   simp only [List.length_cons] at h
   simp only [List.zipIdx_cons,List.foldl_cons]
   rw [qE off vs (k+1) (cells.setIfInBounds (off+k) v) (by simp; omega),Array.toList_setIfInBounds,← Nat.add_assoc,wB _ _ _ _ (by simp; omega)]
theorem sY (S:aF G J w ι obj) (he:∀ t,cT J w ι (get t) (a.tmps.getD t Go.undef)) (place:Nat→Option (Nat×Nat)) :
  ∀ (parts:List (Nat×Operand)) (ps:List (Nat×Nat×bM)) (zD lcs:List LV) (cells:Array Value),
    tw (fun (p:Nat×Operand) (q:Nat×Nat×bM)=>place p.1=some (q.1,q.2.1)∧aI p.2=some q.2.2) parts ps→
    bA J w ι zD cells.toList→sn G get zD ps=some lcs→
    ∃ cs,Instr.fill place cells (parts.map fun p=>(p.1,a.eval p.2))=some cs∧bA J w ι lcs cs.toList
 | [],_,zD,lcs,cells,h,hr,hf=>by
   cases h
   simp only [sn] at hf; cases hf
   exact ⟨cells,rfl,hr⟩
 | p::parts,_,zD,lcs,cells,h,hr,hf=>by
   cases h with
   | cons h1 h2=>
     rename_i q ps
     obtain ⟨hp,hx⟩:=h1
     obtain ⟨off,size,x⟩:=q
     simp only [sn] at hf
     split at hf
     ·rename_i cs hcs
      split at hf
      ·rename_i hle
       have bU:=nL (aT S he hx) hcs
       have hl:=bU.length
       have hcl:=hr.length
       simp only [Array.length_toList] at hl hcl
       have hsz:(a.eval p.2).cells.size=cs.length:=hl.symm
       have hfold:((a.eval p.2).cells.zipIdx.foldl (fun cs (p:Value×Nat)=>cs.setIfInBounds (off+p.2) p.1) cells).toList=splice cells.toList off (a.eval p.2).cells.toList:=by
        have:=qE off (a.eval p.2).cells.toList 0 cells (by simp [hsz]; omega)
        simp only [Nat.add_zero] at this
        rw [← this,← Array.foldl_toList]
        simp
       obtain ⟨cs',k1,k2⟩:=sY S he place parts ps (splice zD off cs) lcs _ h2 (by rw [hfold]; exact hr.splice off bU) hf
       refine ⟨cs',?_,k2⟩
       simp only [List.map_cons,Instr.fill,hp]
       rw [if_neg (by rw [hsz]; simp; exact ⟨hle.1,by omega⟩)]
       exact k1
      ·cases hf
     ·cases hf
theorem tY {fs:Array Field} : ∀ {parts:List (Nat×Operand)} {ps:List (Nat×Nat×bM)},xV P fs parts=some ps→
  tw (fun (p:Nat×Operand) (q:Nat×Nat×bM)=>(∃ f,fs[p.1]? = some f∧q.1=f.offset∧dP P f.type=some q.2.1)∧aI p.2=some q.2.2) parts ps
 | [],ps,h=>by cases h; exact .nil
 | (i,x)::rest,ps,h=>by
   simp only [xV] at h
   split at h
   ·rename_i f y r h1 h2 h3
    split at h
    ·rename_i n hn
     cases h
     exact .cons ⟨⟨f,h1,rfl,hn⟩,h2⟩ (tY h3)
    ·cases h
   ·cases h
theorem tZ {n:Nat} : ∀ {parts:List (Nat×Operand)} {ps:List (Nat×Nat×bM)},xW n parts=some ps→
  tw (fun (p:Nat×Operand) (q:Nat×Nat×bM)=>(some (p.1*n,n)=some (q.1,q.2.1))∧aI p.2=some q.2.2) parts ps
 | [],ps,h=>by cases h; exact .nil
 | (i,x)::rest,ps,h=>by
   simp only [xW] at h
   split at h
   ·rename_i y r h1 h2
    cases h
    exact .cons ⟨rfl,h1⟩ (tZ h2)
   ·cases h
theorem wW {α β:Type} {R T:α→β→Prop} (h:∀ a b,R a b→T a b):∀ {xs:List α} {ys:List β},tw R xs ys→tw T xs ys
 | _,_,.nil=>.nil
 | _,_,.cons h1 h2=>.cons (h _ _ h1) (wW h h2)
theorem pV:∀ (fs:List Field) (w:World),(fs.all fun f=>(dP P f.type).isSome)=true→
  (fs.mapM (fun f=>do pure (f.offset,← sizeOf f.type):Field→Sem (Nat×Nat))).run P w=.ok (fs.map fun f=>(f.offset,(dP P f.type).getD 0)) w
 | [],w,_=>rfl
 | f::fs,w,h=>by
   simp only [List.all_cons,Bool.and_eq_true] at h
   obtain ⟨n,hn⟩:=Option.isSome_iff_exists.1 h.1
   obtain ⟨i,hi,hs⟩:=cc hn
   have ih:=pV fs w h.2
   have hsz:(Go.sizeOf f.type).run P w=.ok n w:=by simp [Go.sizeOf,typeInfo,hi,hs]
   simp only [List.mapM_cons,Sem.run_bind,hsz,Sem.run_pure,Result.andThen_ok,List.map_cons,hn,Option.getD_some]
   rw [ih]
   rfl
theorem xA (fs:Array Field) (w:World) (h:FL P fs=true) :
  (fs.mapM (fun f=>do pure (f.offset,← sizeOf f.type):Field→Sem (Nat×Nat))).run P w=.ok (fs.map fun f=>(f.offset,(dP P f.type).getD 0)) w:=by
 rw [Array.mapM_eq_mapM_toList,Sem.run_map,pV fs.toList w h]
 simp only [Result.andThen_ok]
 congr 1
 apply Array.ext'
 simp
theorem FY (S:aF G J w ι obj) (he:∀ t,cT J w ι (get t) (a.tmps.getD t Go.undef)) {T:TypeId} {parts:Array (Nat×Operand)} {zero:List DV} {ps:List (Nat×Nat×bM)} {cs:List LV}
  (hc:cG P (.build T parts)=some (.build zero ps)) (hf:sn G get (zero.map .d) ps=some cs) :
  ∃ v,(Instr.build T (parts.map fun (i,x)=>(i,a.eval x))).run P w=.ok v w∧cT J w ι (.agg cs) v:=by
 simp only [cG] at hc
 have Pc:(parts.map fun (i,x)=>(i,a.eval x)).toList=parts.toList.map fun p=>(p.1,a.eval p.2):=by simp
 split at hc
 ·rename_i z fs hz hu
  split at hc
  ·rename_i hok
   split at hc
   ·rename_i ps' hps
    cases hc
    obtain ⟨v,hv,dN⟩:=vp (J:=J) (w:=w) (ι:=ι) hz
    obtain ⟨cs',k1,k2⟩:=sY S he (fun i=>(fs.map fun f=>(f.offset,(dP P f.type).getD 0))[i]?) parts.toList ps (zero.map .d) cs v.cells
     (wW (fun p q h=>by
      obtain ⟨⟨f,h1,h2,h3⟩,h4⟩:=h
      exact ⟨by simp [h1,h2,h3],h4⟩) (tY hps)) dN hf
    refine ⟨.agg cs',?_,cs',rfl,k2⟩
    simp only [Instr.build,Sem.run_bind,hv,Result.andThen_ok,run_underlying hu w,Sem.run_map,xA fs w hok,Pc,Sem.run_pure]
    simp only [k1,Sem.run_pure]
   ·cases hc
  ·cases hc
 ·rename_i z e hz hu
  split at hc
  ·rename_i n hn
   split at hc
   ·rename_i ps' hps
    cases hc
    obtain ⟨v,hv,dN⟩:=vp (J:=J) (w:=w) (ι:=ι) hz
    obtain ⟨i,hi,hs⟩:=cc hn
    obtain ⟨cs',k1,k2⟩:=sY S he (fun i=>some (i*n,n)) parts.toList ps (zero.map .d) cs v.cells (tZ hps) dN hf
    refine ⟨.agg cs',?_,cs',rfl,k2⟩
    simp only [Instr.build,Sem.run_bind,hv,Result.andThen_ok,run_underlying hu w,Go.sizeOf,typeInfo,run_program,hi,hs,Sem.run_pure,Pc]
    simp only [k1,Sem.run_pure]
   ·cases hc
  ·cases hc
 ·cases hc
end
end Dv
namespace Dv
open Go
section
variable {P:Program} {G:Nat→Option (List DV)} {J:Nat→Prop} {w w':World} {ι:Nat→Nat→Option Nat} {obj:Nat→b_} {a:Act} {get:Nat→LV} {base:Nat}
theorem Qn {op:BinOp} {x y v:Value} (h:U6 op x y=some v) (T:TypeId) (X Y:Operand) (w:World):(do eqGuard op T X Y x y; Go.binOp op T x y).run P w=.ok v w:=by
 cases x <;> cases y <;> simp only [U6] at h <;> (try (cases h; done))
 ·rename_i k a k' b
  cases op <;> simp only [] at h <;> (split at h <;> first | (cases h; done) | skip) <;> cases h <;>
   rename_i hc <;> first
    | (subst hc; simp [eqGuard,Go.binOp,Op.intArith,Op.intBits,Op.intCmp,qL,BK,xy,gr]; done)
    | (obtain ⟨rfl,hb⟩:=hc; simp [eqGuard,Go.binOp,Op.intDiv,hb]; done)
    | (have hn:¬ b<0:=by omega
       simp [eqGuard,Go.binOp,Op.shift,hn,CH,vC]; done)
    | (have hn:¬ b<0:=by omega
       simp only [eqGuard,Go.binOp,Op.shift,Sem.run_bind,hn,CH,vC]; rfl)
 ·rename_i a b
  cases op <;> simp only [] at h <;> (try (cases h; done)) <;> (try (split at h)) <;> (try (cases h; done)) <;> cases h <;> first
   | (simp [eqGuard,Go.binOp,Op.stringOp]; done)
   | (rename_i hc
      have hm:¬ (((a.size+b.size:Nat):Int)>IntKind.i64.max):=by
       have:IntKind.i64.max=9223372036854775807:=by decide
       rw [this]; omega
      simp only [eqGuard,Go.binOp,Op.stringOp,if_neg hm,Sem.run_bind]
      simp)
theorem Et {T:TypeId} (h:P.underlying T=some .bool) (x y:Bool) (w:World):(Op.equal T (.bool x) (.bool y)).run P w=.ok (x==y) w:=by
 have:Op.equal T (.bool x) (.bool y)=Op.equalIn (9999+1) T (.bool x) (.bool y):=rfl
 rw [this,Op.equalIn,Sem.run_bind,run_underlying h w]
 rfl
def iM:BinOp→Bool
 | .neq=>true
 | _=>false
theorem UU {op:BinOp} (ho:op=.eql∨op=.neq) {T:TypeId} (h:P.underlying T=some .bool) (X Y:Operand) (x y:Bool) (w:World) :
  (do eqGuard op T X Y (.bool x) (.bool y); Go.binOp op T (.bool x) (.bool y)).run P w=.ok (.bool (bif iM op then !(x==y) else x==y)) w:=by
 rcases ho with rfl | rfl <;> simp [eqGuard,Go.binOp,Et h,iM]
theorem Rj {op:BinOp} (ho:op=.eql∨op=.neq) {T e:TypeId} (h:P.underlying T=some (.pointer e)) (X Y:Operand) (x:Option Addr) (w:World) :
  (do eqGuard op T X Y (.pointer x) (.pointer none); Go.binOp op T (.pointer x) (.pointer none)).run P w=.ok (.bool (bif iM op then !x.isNone else x.isNone)) w:=by
 have hq:(Op.equal T (.pointer x) (.pointer none)).run P w=.ok x.isNone w:=by
  have:Op.equal T (.pointer x) (.pointer none)=Op.equalIn (9999+1) T (.pointer x) (.pointer none):=rfl
  rw [this,Op.equalIn,Sem.run_bind,run_underlying h w]
  cases x <;> rfl
 rcases ho with rfl | rfl <;> simp [eqGuard,Go.binOp,hq,iM]
theorem Ri {op:BinOp} (ho:op=.eql∨op=.neq) {T e:TypeId} (h:P.underlying T=some (.slice e)) (X Y:Operand) (x:Option Addr) (n c:Nat) (w:World) :
  (do eqGuard op T X Y (.slice x n c) (.slice none 0 0); Go.binOp op T (.slice x n c) (.slice none 0 0)).run P w=.ok (.bool (bif iM op then !x.isNone else x.isNone)) w:=by
 have hq:(Op.equal T (.slice x n c) (.slice none 0 0)).run P w=.ok x.isNone w:=by
  have:Op.equal T (.slice x n c) (.slice none 0 0)=Op.equalIn (9999+1) T (.slice x n c) (.slice none 0 0):=rfl
  rw [this,Op.equalIn,Sem.run_bind,run_underlying h w]
  cases x <;> rfl
 rcases ho with rfl | rfl <;> simp [eqGuard,Go.binOp,hq,iM]
theorem qH {k:Nat} {ks:List Nat} {l m:List LV} {b:Bool} (h:d_ (k::ks) l m=some b) :
  ∃ va vb p q xs ys,l=.d (.val va)::xs∧m=.d (.val vb)::ys∧Gk k va vb=some p∧d_ ks xs ys=some q∧b=(p&&q):=by
 cases l with
 | nil=>cases m <;> simp [d_] at h
 | cons x xs=>
   cases x with
   | d x=>
     cases x with
     | val va=>
       cases m with
       | nil=>simp [d_] at h
       | cons y ys=>
         cases y with
         | d y=>
           cases y with
           | val vb=>
             simp only [d_] at h
             split at h
             ·rename_i p q h3 h4
              exact ⟨va,vb,p,q,xs,ys,rfl,rfl,h3,h4,(Option.some.inj h).symm⟩
             ·cases h
           | _=>simp [d_] at h
         | _=>simp [d_] at h
     | _=>cases m <;> simp [d_] at h
   | _=>cases m <;> simp [d_] at h
theorem tR (d:Nat) {xs ys:Array Value} {ls ms:List LV} (hx:bA J w ι ls xs.toList) (hy:bA J w ι ms ys.toList):∀ (fs:List Field) (i:Nat) (ks:List Nat) (b:Bool),zF P i fs=some ks→d_ ks (ls.drop i) (ms.drop i)=some b→
  (Op.eqFields (d+1) xs ys fs).run P w=.ok b w
 | [],i,ks,b,hk,he=>by
   simp only [zF] at hk; cases hk
   simp only [Op.eqFields]
   generalize ls.drop i=l at he
   generalize ms.drop i=m at he
   cases l <;> cases m <;> simp only [d_] at he <;> first | (cases he; rfl) | (cases he)
 | f::fs,i,ks,b,hk,he=>by
   simp only [zF] at hk
   split at hk
   ·rename_i k ks' h1 h2
    split at hk
    ·rename_i hc
     cases hk
     obtain ⟨hoff,hname⟩:=hc
     have hdx:=hx.drop i
     have hdy:=hy.drop i
     generalize hl:ls.drop i=l at he hdx
     generalize hm:ms.drop i=m at he hdy
     have:=qH he
     obtain ⟨va,vb,p,q,xs',ys',rfl,rfl,h3,h4,rfl⟩:=this
     have Fq:ls[i]? = some (.d (.val va)):=by
      have:(ls.drop i)[0]? = some (.d (.val va)):=by rw [hl]; rfl
      simpa using this
     have Pj:ms[i]? = some (.d (.val vb)):=by
      have:(ms.drop i)[0]? = some (.d (.val vb)):=by rw [hm]; rfl
      simpa using this
     obtain ⟨ua,hua,_,Us⟩:=hx.get Fq
     obtain ⟨ub,Zo,_,hrb⟩:=hy.get Pj
     have Zs:ua=va:=Us
     have Zr:ub=vb:=hrb
     subst Zs; subst Zr
     have Ur:xs[i]? = some ua:=by simpa using hua
     have hyi:ys[i]? = some ub:=by simpa using Zo
     have qv:=tR d hx hy fs (i+1) ks' q h2 (by
      rw [← List.drop_drop,← List.drop_drop,hl,hm]; exact h4)
     have wH:∀ {v:Value} {cs:Array Value},nO P f.type=some false→cs[i]? = some v→(part f.type cs f.offset).run P w=.ok v w:=fun ha hv=>by
      rw [hoff]; simp [part,lV ha,hv]
     simp only [Op.eqFields]
     rw [if_pos hname]
     have Pn:nO P f.type=some false∧(Op.equalIn (d+1) f.type ua ub).run P w=.ok p w:=by
      unfold zG at h1
      split at h1
      ·rename_i k' hu
       cases h1
       refine ⟨by simp [nO,hu],?_⟩
       clear he hl hm hdx hdy Fq Pj Us hrb Ur hyi hua Zo qv wH
       cases ua <;> cases ub <;> first | (simp [Gk] at h3; done) | skip
       simp only [Gk] at h3
       split at h3
       ·rename_i hk; subst hk; cases h3
        exact run_equalIn_int w d f.type _ k' _ _ hu
       ·cases h3
      ·rename_i hu
       cases h1
       refine ⟨by simp [nO,hu],?_⟩
       clear he hl hm hdx hdy Fq Pj Us hrb Ur hyi hua Zo qv wH
       cases ua <;> cases ub <;> first | (simp [Gk] at h3; done) | skip
       simp only [Gk] at h3
       cases h3
       exact run_equalIn_bool' w d f.type _ _ hu
      ·rename_i hu
       cases h1
       refine ⟨by simp [nO,hu],?_⟩
       clear he hl hm hdx hdy Fq Pj Us hrb Ur hyi hua Zo qv wH
       cases ua <;> cases ub <;> first | (simp [Gk] at h3; done) | skip
       simp only [Gk] at h3
       cases h3
       exact run_equalIn_string w d f.type _ _ hu
      ·cases h1
     simp only [Sem.run_bind,wH Pn.1 Ur,wH Pn.1 hyi,Result.andThen_ok,Pn.2]
     cases p
     ·simp
     ·simp only [Bool.not_true,Bool.false_eq_true,if_false,Bool.true_and]; exact qv
    ·cases hk
   ·cases hk
theorem Lx {t:TypeId} {k:Nat} (h:zG P t=some k):nO P t=some false:=by
 unfold zG at h
 split at h <;> first | (cases h; done) | simp [nO, *]
theorem RX {t:TypeId} {k:Nat} (d:Nat) {ua ub:Value} {p:Bool} (h:zG P t=some k) (h3:Gk k ua ub=some p):(Op.equalIn (d+1) t ua ub).run P w=.ok p w:=by
 unfold zG at h
 split at h
 ·rename_i k' hu
  cases h
  cases ua <;> cases ub <;> first | (simp [Gk] at h3; done) | skip
  simp only [Gk] at h3
  split at h3
  ·rename_i hk; subst hk; cases h3
   exact run_equalIn_int w d t _ k' _ _ hu
  ·cases h3
 ·rename_i hu
  cases h
  cases ua <;> cases ub <;> first | (simp [Gk] at h3; done) | skip
  simp only [Gk] at h3
  cases h3
  exact run_equalIn_bool' w d t _ _ hu
 ·rename_i hu
  cases h
  cases ua <;> cases ub <;> first | (simp [Gk] at h3; done) | skip
  simp only [Gk] at h3
  cases h3
  exact run_equalIn_string w d t _ _ hu
 ·cases h
theorem wZ:∀ (ks ks2:List Nat) (l m:List LV) (b:Bool),d_ (ks++ks2) l m=some b→∃ p q,d_ ks (l.take ks.length) (m.take ks.length)=some p∧d_ ks2 (l.drop ks.length) (m.drop ks.length)=some q∧b=(p&&q)
 | [],ks2,l,m,b,h=>⟨true,b,by simp [d_],by simpa using h,by simp⟩
 | k::ks,ks2,l,m,b,h=>by
   rw [List.cons_append] at h
   obtain ⟨va,vb,p,q,xs,ys,rfl,rfl,h3,h4,rfl⟩:=qH h
   obtain ⟨p2,q2,h5,h6,rfl⟩:=wZ ks ks2 xs ys q h4
   refine ⟨p&&p2,q2,?_,by simpa using h6,by rw [Bool.and_assoc]⟩
   simp only [List.length_cons,List.take_succ_cons,d_,h3,h5]
theorem mR {xs ys:Array Value} {ls ms:List LV} (hx:bA J w ι ls xs.toList) (hy:bA J w ι ms ys.toList):∀ (fs:List Field) (i:Nat) (ks:List Nat) (b:Bool),vP P i fs=some ks→d_ ks (ls.drop i) (ms.drop i)=some b→
  (Op.eqFields 9999 xs ys fs).run P w=.ok b w
 | [],i,ks,b,hk,he=>by
   simp only [vP] at hk; cases hk
   simp only [Op.eqFields]
   generalize ls.drop i=l at he
   generalize ms.drop i=m at he
   cases l <;> cases m <;> simp only [d_] at he <;> first | (cases he; rfl) | (cases he)
 | f::fs,i,ks,b,hk,he=>by
   simp only [vP] at hk
   split at hk
   ·rename_i hc
    obtain ⟨hoff,hname⟩:=hc
    split at hk
    ·rename_i k h1
     split at hk
     ·rename_i ks' h2
      cases hk
      have hdx:=hx.drop i
      have hdy:=hy.drop i
      generalize hl:ls.drop i=l at he hdx
      generalize hm:ms.drop i=m at he hdy
      have:=qH he
      obtain ⟨va,vb,p,q,xs',ys',rfl,rfl,h3,h4,rfl⟩:=this
      have Fq:ls[i]? = some (.d (.val va)):=by
       have:(ls.drop i)[0]? = some (.d (.val va)):=by rw [hl]; rfl
       simpa using this
      have Pj:ms[i]? = some (.d (.val vb)):=by
       have:(ms.drop i)[0]? = some (.d (.val vb)):=by rw [hm]; rfl
       simpa using this
      obtain ⟨ua,hua,_,Us⟩:=hx.get Fq
      obtain ⟨ub,Zo,_,hrb⟩:=hy.get Pj
      have Zs:ua=va:=Us
      have Zr:ub=vb:=hrb
      subst Zs; subst Zr
      have Ur:xs[i]? = some ua:=by simpa using hua
      have hyi:ys[i]? = some ub:=by simpa using Zo
      have qv:=mR hx hy fs (i+1) ks' q h2 (by
       rw [← List.drop_drop,← List.drop_drop,hl,hm]; exact h4)
      have wH:∀ {v:Value} {cs:Array Value},cs[i]? = some v→(part f.type cs f.offset).run P w=.ok v w:=fun hv=>by
       rw [hoff]; simp [part,lV (Lx h1),hv]
      simp only [Op.eqFields]
      rw [if_pos hname]
      simp only [Sem.run_bind,wH Ur,wH hyi,Result.andThen_ok,RX (w:=w) 9998 h1 h3]
      cases p
      ·simp
      ·simp only [Bool.not_true,Bool.false_eq_true,if_false,Bool.true_and]; exact qv
     ·cases hk
    ·split at hk
     ·rename_i gs hu
      split at hk
      ·rename_i MU h1
       split at hk
       ·rename_i lJ
        obtain ⟨g1,g2,g3⟩:=lJ
        split at hk
        ·rename_i ks' h2
         cases hk
         obtain ⟨p,q,e1,e2,rfl⟩:=wZ MU ks' _ _ _ he
         have qv:=mR hx hy fs (i+MU.length) ks' q h2 (by rw [← List.drop_drop,← List.drop_drop]; exact e2)
         have aaC:∀ {cs:Array Value},(part f.type cs f.offset).run P w=.ok (.agg (cs.extract i (i+MU.length))) w:=fun {cs}=>by
          obtain ⟨ti,hi,hn⟩:=cc g2
          rw [hoff]
          simp [part,lV g3,Go.sizeOf,typeInfo,hi,hn]
         have abL:∀ {cs:Array Value},(cs.extract i (i+MU.length)).toList=(cs.toList.drop i).take MU.length:=fun {cs}=>by simp [List.take_drop]
         have hxn:bA J w ι ((ls.drop i).take MU.length) (xs.extract i (i+MU.length)).toList:=by rw [abL]; exact (hx.drop i).take _
         have hyn:bA J w ι ((ms.drop i).take MU.length) (ys.extract i (i+MU.length)).toList:=by rw [abL]; exact (hy.drop i).take _
         have hfo:P.underlying f.type=some (.struct (P.fieldsOf f.type)):=by simp [Program.fieldsOf,hu]
         have hff:P.fieldsOf f.type=gs:=by simp [Program.fieldsOf,hu]
         have heq:(Op.equalIn 9999 f.type (.agg (xs.extract i (i+MU.length))) (.agg (ys.extract i (i+MU.length)))).run P w=.ok p w:=by
          rw [show (9999:Nat)=9998+1 from rfl,run_equalIn_struct w 9998 f.type _ _ hfo g1,hff]
          exact tR 9997 hxn hyn gs.toList 0 MU p h1 (by simpa using e1)
         simp only [Op.eqFields]
         rw [if_pos hname]
         simp only [Sem.run_bind,aaC,Result.andThen_ok,heq]
         cases p
         ·simp
         ·simp only [Bool.not_true,Bool.false_eq_true,if_false,Bool.true_and]; exact qv
        ·cases hk
       ·cases hk
      ·cases hk
     ·cases hk
   ·cases hk
theorem Rk {op:BinOp} (ho:op=.eql∨op=.neq) {T:TypeId} {ks:List Nat} (h:eqT P T=some ks) (X Y:Operand) {xs ys:Array Value} {ls ms:List LV} (hx:bA J w ι ls xs.toList) (hy:bA J w ι ms ys.toList) {b:Bool} (he:d_ ks ls ms=some b) :
  (do eqGuard op T X Y (.agg xs) (.agg ys); Go.binOp op T (.agg xs) (.agg ys)).run P w=.ok (.bool (bif iM op then !b else b)) w:=by
 unfold eqT at h
 split at h
 ·rename_i fs hu
  split at h
  ·rename_i hc
   have hfo:P.underlying T=some (.struct (P.fieldsOf T)):=by simp [Program.fieldsOf,hu]
   have hff:P.fieldsOf T=fs:=by simp [Program.fieldsOf,hu]
   have heq:(Op.equalIn 10000 T (.agg xs) (.agg ys)).run P w=.ok b w:=by
    rw [show (10000:Nat)=9999+1 from rfl,run_equalIn_struct w 9999 T xs ys hfo hc.1,hff]
    exact mR hx hy fs.toList 0 ks b h (by simpa using he)
   have hg:=run_eqGuard_agg (P:=P) w op T X Y xs ys hc.2
   rcases ho with rfl | rfl
   ·rw [Sem.run_bind,hg]; simp only [Result.andThen_ok,run_eql_struct,heq]; rfl
   ·rw [Sem.run_bind,hg]; simp only [Result.andThen_ok,run_neq_struct,heq]; rfl
  ·cases h
 ·cases h
theorem gG {v:Value} {y:Nat} {code:BoundsCode} {k:IntKind} {i:Int} (hv:v=.int k i) (h0:0≤i) (hl:i.toNat≤y) (w:World):(Instr.sliceBound v y code).run P w=.ok i.toNat w:=by
 subst hv
 have:0≤i∧i≤(y:Int):=⟨h0,by omega⟩
 simp [Instr.sliceBound,asIntOf,this]
def BV (o:Option Value) (d v:Nat):Prop:=(o=none∧v=d)∨∃ k i,o=some (.int k i)∧0≤i∧v=i.toNat
theorem kj {b:Bool} {len cap l h m:Nat} {lo hi mx:Option Value} (h1:BV lo 0 l) (h2:BV hi len h) (h3:BV mx len m) (k1:l≤h) (k2:h≤m) (k3:m≤len) (k4:len≤cap) (hm:mx=none∨hi.isSome=true) (w:World) :
  ∃ m',m≤m'∧m'≤cap∧(Instr.sliceBounds b len cap lo hi mx).run P w=.ok (l,h,m') w:=by
 rcases h3 with ⟨rfl,rfl⟩ | ⟨k3',i3,rfl,q3,rfl⟩
 ·refine ⟨cap,k4,Nat.le_refl _,?_⟩
  rcases h2 with ⟨rfl,rfl⟩ | ⟨k2',i2,rfl,q2,rfl⟩ <;> rcases h1 with ⟨rfl,rfl⟩ | ⟨Gh,i1,rfl,q1,rfl⟩
  ·simp [Instr.sliceBounds]
  ·simp [Instr.sliceBounds,gG (P:=P) rfl q1 (y:=h) (by omega) w]
  ·simp [Instr.sliceBounds,gG (P:=P) rfl q2 (y:=cap) (by omega) w]
  ·simp [Instr.sliceBounds,gG (P:=P) rfl q2 (y:=cap) (by omega) w,gG (P:=P) rfl q1 (y:=i2.toNat) (by omega) w]
 ·refine ⟨i3.toNat,Nat.le_refl _,by omega,?_⟩
  rcases h2 with ⟨rfl,rfl⟩ | ⟨k2',i2,rfl,q2,rfl⟩
  ·rcases hm with hm | hm <;> cases hm
  ·rcases h1 with ⟨rfl,rfl⟩ | ⟨Gh,i1,rfl,q1,rfl⟩
   ·simp [Instr.sliceBounds,gG (P:=P) rfl q3 (y:=cap) (by omega) w,gG (P:=P) rfl q2 (y:=i3.toNat) (by omega) w]
   ·simp [Instr.sliceBounds,gG (P:=P) rfl q3 (y:=cap) (by omega) w,gG (P:=P) rfl q2 (y:=i3.toNat) (by omega) w,gG (P:=P) rfl q1 (y:=i2.toNat) (by omega) w]
theorem xQ {T e:TypeId} {n:Nat} (hu:P.underlying T=some (.slice e)) (hs:dP P e=some n) {sa:Option Addr} {len cap l h m:Nat} {lo hi mx:Option Value} (h1:BV lo 0 l) (h2:BV hi len h) (h3:BV mx len m) (k1:l≤h) (k2:h≤m) (k3:m≤len) (k4:len≤cap)
  (hm:mx=none∨hi.isSome=true) (w:World) :
  ∃ m',m≤m'∧m'≤cap∧(Instr.sliceAt T (.slice sa len cap) lo hi mx).run P w=.ok (.slice (if m'=l then sa else sa.map (·.add (l*n))) (h-l) (m'-l)) w:=by
 obtain ⟨i,hi',hn⟩:=cc hs
 obtain ⟨m',p1,p2,hrun⟩:=kj (P:=P) (b:=true) h1 h2 h3 k1 k2 k3 k4 hm w
 refine ⟨m',p1,p2,?_⟩
 have hsz:(Go.sizeOf e).run P w=.ok n w:=by simp [Go.sizeOf,typeInfo,hi',hn]
 simp only [Instr.sliceAt,Instr.slice,Sem.run_bind,run_underlying hu w,Result.andThen_ok,hrun,hsz,Sem.run_pure]
theorem Rf {T:TypeId} (hu:P.underlying T=some .string) {s:ByteArray} {l h:Nat} {lo hi:Option Value} (h1:BV lo 0 l) (h2:BV hi s.size h) (k1:l≤h) (k2:h≤s.size) (w:World) :
  (Instr.sliceAt T (.string s) lo hi none).run P w=.ok (.string (s.extract l h)) w:=by
 obtain ⟨m',_,_,hrun⟩:=kj (P:=P) (b:=false) (mx:=none) (cap:=s.size) h1 h2 (.inl ⟨rfl,rfl⟩) k1 k2 (Nat.le_refl _) (Nat.le_refl _) (.inl rfl) w
 simp only [Instr.sliceAt,Instr.slice,Sem.run_bind,run_underlying hu w,Result.andThen_ok]
 simp [hrun]
theorem kB (S:aF G J w ι obj) (he:∀ t,cT J w ι (get t) (a.tmps.getD t Go.undef)) {o:Option Operand} {o':Option bM} {d v:Nat} (ho:fB o=some o') (hb:gB d (o'.map (·.ev G get))=some v):BV (o.map a.eval) d v:=by
 cases o with
 | none=>simp only [fB] at ho; cases ho; simp only [Option.map_none,gB] at hb; exact .inl ⟨rfl,(Option.some.inj hb).symm⟩
 | some X=>
   simp only [fB] at ho
   split at ho
   ·rename_i y hy
    cases ho
    have hr:=aT S he hy
    simp only [Option.map_some] at hb
    unfold gB at hb
    split at hb
    ·rename_i hq; cases hq
    ·rename_i k i hq
     rw [Option.some.inj hq] at hr
     have hX:a.eval X=.int k i:=hr
     split at hb
     ·rename_i h0
      exact .inr ⟨k,i,by simp [hX],h0,(Option.some.inj hb).symm⟩
     ·cases hb
    ·cases hb
   ·cases ho
theorem KM (S:aF G J w ι obj) (he:∀ t,cT J w ι (get t) (a.tmps.getD t Go.undef)) {X:Operand} {x:bM} (hx:aI X=some x) {lo hi mx:Option Operand} {lo' hi' mx':Option bM} (hl:fB lo=some lo') (hh:fB hi=some hi') (hm:fB mx=some mx')
  (hmh:(mx.isNone||hi.isSome)=true) {T el:TypeId} {n:Nat} (hu:P.underlying T=some (.slice el)) (hs:dP P el=some n) {e:eV} (hE:cE G get obj base (.sli n x lo' hi' mx')=some e) :
  ∃ v,(Instr.sliceAt T (a.eval X) (lo.map a.eval) (hi.map a.eval) (mx.map a.eval)).run P w=.ok v w∧cT J w ι e.r v∧e.nw=[]∧e.wr=[]:=by
 have bU:=aT S he hx
 have ZA:mx.map a.eval=none∨(hi.map a.eval).isSome=true:=by
  cases mx with
  | none=>exact .inl rfl
  | some _=>right; cases hi <;> simp at hmh ⊢
 simp only [cE] at hE
 split at hE
 ·rename_i e' rows dO
  rw [dO] at bU
  split at hE
  ·rename_i l h m b1 b2 b3
   split at hE
   ·rename_i hc
    obtain ⟨rfl,k1,k2,k3⟩:=hc
    cases hE
    obtain ⟨sa,len,cap,hv,hlen,hcap,hr⟩:=bU
    subst hlen
    obtain ⟨m',p1,p2,hrun⟩:=xQ (P:=P) hu hs (sa:=sa) (kB S he hl b1) (kB S he hh b2) (kB S he hm b3) k1 k2 k3 hcap ZA w
    refine ⟨_,by rw [hv]; exact hrun,⟨_,h-l,m'-l,rfl,by simp; omega,by omega,?_⟩,rfl,rfl⟩
    by_cases hz:h=l
    ·left; simp [hz]
    ·right
     rcases hr with hr | ⟨b,off,rfl,hJ,hr⟩
     ·rw [hr] at k3; simp at k3; omega
     ·refine ⟨b,off+l*e',?_,hJ,(hr.drop l).take _⟩
      rw [if_neg (by omega)]
      simp [Addr.add_mid]
   ·cases hE
  ·cases hE
 ·rename_i o on e' slo len dO
  rw [dO] at bU
  split at hE
  ·rename_i l h m b1 b2 b3
   split at hE
   ·rename_i hc
    obtain ⟨rfl,k1,k2,k3⟩:=hc
    cases hE
    rcases bU with ⟨hz,sa,hv⟩ | ⟨b,cap,et,C,hb,hv,hcap,hsh,hC⟩
    ·subst hz
     obtain ⟨m',p1,p2,hrun⟩:=xQ (P:=P) hu hs (sa:=sa) (cap:=0) (kB S he hl b1) (kB S he hh b2) (kB S he hm b3) k1 k2 k3 (Nat.le_refl _) ZA w
     rw [show h-l=0 by omega,show m'-l=0 by omega] at hrun
     exact ⟨_,by rw [hv]; exact hrun,.inl ⟨by omega,_,rfl⟩,rfl,rfl⟩
    ·obtain ⟨m',p1,p2,hrun⟩:=xQ (P:=P) hu hs (sa:=some ⟨b,slo*e',none⟩) (kB S he hl b1) (kB S he hh b2) (kB S he hm b3) k1 k2 k3 hcap ZA w
     refine ⟨_,by rw [hv]; exact hrun,?_,rfl,rfl⟩
     by_cases hz:m'=l
     ·left
      rw [show h-l=0 by omega,show m'-l=0 by omega]
      exact ⟨rfl,_,rfl⟩
     ·right
      refine ⟨b,m'-l,et,C,hb,?_,by omega,hsh,?_⟩
      ·rw [if_neg hz]
       simp [Addr.add_mid,Nat.add_mul]
      ·refine Nat.le_trans (Nat.mul_le_mul_right _ ?_) hC
       omega
   ·cases hE
  ·cases hE
 ·rename_i dO
  rw [dO] at bU
  have hv:a.eval X=.slice none 0 0:=bU
  split at hE
  ·rename_i l h m b1 b2 b3
   split at hE
   ·rename_i hc
    obtain ⟨k1,k2,k3⟩:=hc
    cases hE
    obtain ⟨m',p1,p2,hrun⟩:=xQ (P:=P) hu hs (sa:=none) (len:=0) (cap:=0) (kB S he hl b1) (kB S he hh b2) (kB S he hm b3) k1 k2 k3 (Nat.le_refl _) ZA w
    refine ⟨_,by rw [hv]; exact hrun,?_,rfl,rfl⟩
    show _=_
    rw [show h-l=0 by omega,show m'-l=0 by omega]
    split <;> rfl
   ·cases hE
  ·cases hE
 ·cases hE
theorem pW {T:TypeId} {fs:Array Field} {f:Field} {k n:Nat} (hu:P.underlying T=some (.struct fs)) (hf:fs[k]? = some f) (hs:dP P f.type=some (n+1)) (b o:Nat) (w:World) :
  (Instr.fieldAt T (.pointer (some ⟨b,o,none⟩)) k).run P w=.ok (.pointer (some ⟨b,o+f.offset,none⟩)) w:=by
 obtain ⟨i,hi,hn⟩:=cc hs
 have hz:(Go.sizeOf f.type).run P w=.ok (n+1) w:=by simp [Go.sizeOf,typeInfo,hi,hn]
 simp only [Instr.fieldAt,Sem.run_bind,run_underlying hu w,Result.andThen_ok,hf,Instr.sureAddr,Sem.run_pure,fieldPlace,hz]
 rw [if_neg (by omega)]
 simp [Addr.add_mid]
theorem Jc {T e:TypeId} {n:Nat} (hu:P.underlying T=some (.slice e)) (hs:dP P e=some n) (b o len cap:Nat) (k:IntKind) (i:Int) (h0:0≤i) (hl:i.toNat<len) (w:World) :
  (Instr.indexAt T (.slice (some ⟨b,o,none⟩) len cap) (.int k i)).run P w=.ok (.pointer (some ⟨b,o+i.toNat*n,none⟩)) w:=by
 obtain ⟨j,hj,hn⟩:=cc hs
 have hz:(Go.sizeOf e).run P w=.ok n w:=by simp [Go.sizeOf,typeInfo,hj,hn]
 have hc:0≤i∧i<len:=⟨h0,by omega⟩
 simp only [Instr.indexAt,asIntOf,Sem.run_bind,Sem.run_pure,Result.andThen_ok,run_underlying hu w]
 rw [if_pos hc]
 simp [hz,Addr.add_mid]
theorem CO {T e:TypeId} {n len:Nat} (hu:P.underlying T=some (.array len e)) (hs:dP P e=some n) (b o:Nat) (k:IntKind) (i:Int) (h0:0≤i) (hl:i.toNat<len) (w:World) :
  (Instr.indexAt T (.pointer (some ⟨b,o,none⟩)) (.int k i)).run P w=.ok (.pointer (some ⟨b,o+i.toNat*n,none⟩)) w:=by
 obtain ⟨j,hj,hn⟩:=cc hs
 have hz:(Go.sizeOf e).run P w=.ok n w:=by simp [Go.sizeOf,typeInfo,hj,hn]
 have hc:0≤i∧i<len:=⟨h0,by omega⟩
 simp only [Instr.indexAt,asIntOf,Sem.run_bind,Sem.run_pure,Result.andThen_ok,run_underlying hu w,Instr.sureAddr]
 rw [if_pos hc]
 simp [hz,Addr.add_mid]
theorem qT {T:TypeId} (ha:nO P T=some false) {b o:Nat} {v:Value} (hv:w.cell? ⟨b,o,none⟩=some v) :
  (Instr.loadAt T (.pointer (some ⟨b,o,none⟩))).run P w=.ok v w:=by
 simp [Instr.loadAt,Instr.sureAddr,loadVar,lV ha,hv]
theorem xR {T:TypeId} {n:Nat} (ha:nO P T=some true) (hs:dP P T=some n) {b o:Nat} {vs:List Value} (hv:w.rangeAt b o vs) (hl:vs.length=n) :
  (Instr.loadAt T (.pointer (some ⟨b,o,none⟩))).run P w=.ok (.agg vs.toArray) w:=by
 obtain ⟨i,hi,hn⟩:=cc hs
 have h1:(loadCells ⟨b,o,none⟩ vs.length).run P w=.ok vs.toArray w:=run_loadCells_list (P:=P) w ⟨b,o,none⟩ vs (fun j v h=>by rw [Addr.add_mid]; exact hv j v h)
 rw [hl] at h1
 simp [Instr.loadAt,Instr.sureAddr,loadVar,lV ha,Go.sizeOf,typeInfo,hi,hn,h1]
theorem yP {T:TypeId} {n:Nat} (hs:dP P T=some n) {b o:Nat} {v:Value} (ht:w.there b o v.cells.size) (hl:v.cells.size=n) (h1:∀ u∈v.cells.toList,u.oneCell'=true) :
  (Instr.storeAt T (.pointer (some ⟨b,o,none⟩)) v).run P w=.ok () (w.setCells b o v.cells.toList):=by
 obtain ⟨i,hi,hn⟩:=cc hs
 have:=run_storeCells_cells (P:=P) b o v.cells.toList 0 w (fun j hj=>by simpa using (ht j (by simpa using hj)).1) (fun j hj=>by simpa using (ht j (by simpa using hj)).2) h1
 simp only [Nat.add_zero] at this
 simp [Instr.storeAt,Instr.sureAddr,storeVar,Go.sizeOf,typeInfo,hi,hn,hl,this]
theorem yS (S:aF G J w ι obj) (he:∀ t,cT J w ι (get t) (a.tmps.getD t Go.undef)) {aJ:Nat} : ∀ {xs:List Operand} {ys:List bM} {rows:List (List DV)},dh xs=some ys→rowsOf G get aJ ys=some rows→
  tw (fun (x:Operand) (r:List DV)=>bD J w r (a.eval x).cells.toList∧(∀ v∈(a.eval x).cells.toList,v.oneCell'=true)∧r.length=aJ) xs rows
 | [],ys,rows,h,k=>by
   simp only [dh] at h; cases h
   simp only [rowsOf] at k; cases k
   exact .nil
 | x::xs,ys,rows,h,k=>by
   simp only [dh] at h
   split at h
   ·rename_i y ys' h1 h2
    cases h
    simp only [rowsOf] at k
    split at k
    ·rename_i cs hcs
     split at k
     ·rename_i ds hds
      split at k
      ·rename_i hl
       split at k
       ·rename_i r hr
        cases k
        have bU:=nL (aT S he h1) hcs
        exact .cons ⟨kX hds bU.AP,bU.one,hl⟩ (yS S he h2 hr)
       ·cases k
      ·cases k
     ·cases k
    ·cases k
   ·cases h
theorem Cl (S:aF G J w ι obj) (he:∀ t,cT J w ι (get t) (a.tmps.getD t Go.undef)) {aJ:Nat} : ∀ {xs:List Operand} {ys:List bM} {cs:List LV},dh xs=some ys→uZ G get aJ ys=some cs→
  bA J w ι cs (((xs.map a.eval).map (·.cells.toList)).flatten)∧(∀ v∈xs.map a.eval,v.cells.size=aJ)∧cs.length=xs.length*aJ
 | [],ys,cs,h,k=>by
   simp only [dh] at h; cases h
   simp only [uZ] at k; cases k
   exact ⟨trivial,by simp,by simp⟩
 | x::xs,ys,cs,h,k=>by
   simp only [dh] at h
   split at h
   ·rename_i y ys' h1 h2
    cases h
    simp only [uZ] at k
    split at k
    ·rename_i c hcs
     split at k
     ·rename_i hl
      split at k
      ·rename_i r hr
       cases k
       have bU:=nL (aT S he h1) hcs
       obtain ⟨k1,k2,k3⟩:=Cl S he h2 hr
       have hsz:(a.eval x).cells.size=aJ:=by
        have:=bU.length
        simp at this; omega
       refine ⟨?_,?_,by rw [List.length_append,List.length_cons,k3,hl,Nat.add_mul]; omega⟩
       ·rw [List.map_cons,List.map_cons,List.flatten_cons]
        exact bA.append bU k1
       ·intro v hv
        rw [List.map_cons] at hv
        rcases List.mem_cons.1 hv with rfl | hv
        ·exact hsz
        ·exact k2 v hv
      ·cases k
     ·cases k
    ·cases k
   ·cases h
theorem AU {α:Type} (l:List α) (o:Nat) (xs ys:List α) (h:o+xs.length+ys.length≤l.length):splice (splice l o xs) (o+xs.length) ys=splice l o (xs++ys):=by
 unfold splice
 have h1:(l.take o++xs).length=o+xs.length:=by simp; omega
 rw [List.take_left' h1,← h1,← List.drop_drop,List.drop_left,h1,List.drop_drop,List.length_append,List.append_assoc,List.append_assoc,List.append_assoc,List.append_assoc]
 rw [show o+xs.length+ys.length=o+(xs.length+ys.length) by omega]
theorem v7 (n:Nat):∀ (vals:List Value) (k:Nat) (cells:Array Value),(∀ v∈vals,v.cells.size=n)→(k+vals.length)*n≤cells.size→
  ∃ cs,Instr.fill (fun i=>some (i*n,n)) cells ((List.range' k vals.length).zip vals)=some cs∧cs.toList=splice cells.toList (k*n) (vals.map (·.cells.toList)).flatten
 | [],k,cells,_,_=>⟨cells,by simp [Instr.fill],by simp [splice]⟩
 | v::vals,k,cells,h,hl=>by
   have hv:=h v (by simp)
   simp only [List.length_cons] at hl
   have hle:(k+1)*n≤cells.size:=Nat.le_trans (Nat.mul_le_mul_right _ (by omega)) hl
   rw [Nat.add_mul] at hle
   have hfold:(v.cells.zipIdx.foldl (fun cs (p:Value×Nat)=>cs.setIfInBounds (k*n+p.2) p.1) cells).toList=splice cells.toList (k*n) v.cells.toList:=by
    have:=qE (k*n) v.cells.toList 0 cells (by simp [hv]; omega)
    simp only [Nat.add_zero] at this
    rw [← this,← Array.foldl_toList]
    simp
   generalize hA:v.cells.zipIdx.foldl (fun cs (p:Value×Nat)=>cs.setIfInBounds (k*n+p.2) p.1) cells=A at hfold
   have hAs:A.size=cells.size:=by
    have:=congrArg List.length hfold
    rw [fC _ _ _ (by simp [hv]; omega)] at this
    simpa using this
   obtain ⟨cs,k1,k2⟩:=v7 n vals (k+1) A (fun u hu=>h u (by simp [hu])) (by rw [hAs,show k+1+vals.length=k+(vals.length+1) by omega]; exact hl)
   refine ⟨cs,?_,?_⟩
   ·simp only [List.length_cons,List.range'_succ,List.zip_cons_cons,Instr.fill]
    rw [if_neg (by rw [hv]; simp; omega),hA]
    exact k1
   ·rw [k2,hfold]
    simp only [List.map_cons,List.flatten_cons]
    have hvl:v.cells.toList.length=n:=by simpa using hv
    have hfl:(vals.map (·.cells.toList)).flatten.length=vals.length*n:=by
     have hh:∀ u∈vals,u.cells.size=n:=fun u hu=>h u (by simp [hu])
     clear k1 k2 hl
     induction vals with
     | nil=>simp
     | cons u us ih=>
       simp only [List.map_cons,List.flatten_cons,List.length_append,List.length_cons,Nat.add_mul]
       rw [ih (fun x hx=>h x (by simp at hx ⊢; rcases hx with hx | hx <;> simp [hx])) (fun x hx=>hh x (by simp [hx]))]
       have:=hh u (by simp)
       simp [this]; omega
    have:=AU cells.toList (k*n) v.cells.toList (vals.map (·.cells.toList)).flatten (by
     have hcl:cells.toList.length=cells.size:=Array.length_toList
     rw [hvl,hfl,hcl]
     have e:(k+(vals.length+1))*n=k*n+n+vals.length*n:=by simp only [Nat.add_mul]; omega
     omega)
    rw [hvl] at this
    rw [show (k+1)*n=k*n+n by rw [Nat.add_mul]; omega]
    exact this
end
end Dv
namespace Dv
open Go
section
variable {P:Program} {G:Nat→Option (List DV)} {J:Nat→Prop} {w w':World} {ι:Nat→Nat→Option Nat} {obj:Nat→b_} {a:Act} {get:Nat→LV} {base:Nat}
theorem cw.value {o:Oper} {s:Sem Value} {v:Value} {w':World} {post:Value→World→Prop} (he:execOp a.eval o=(do pure (.value (← s)))) (hr:s.run P w=.ok v w') (hp:post v w'):cw P o a w post:=
 cw.of_run (by rw [he,Sem.run_bind,hr]; rfl) hp
theorem OH (S:aF G J w ι obj) (he:∀ t,cT J w ι (get t) (a.tmps.getD t Go.undef)) {x:bM} {X:Operand} (hx:aI X=some x) {T:TypeId} {e:eV} (ha:nO P T=some false) (hE:cE G get obj base (.ld1 x)=some e) :
  ∃ v,(Instr.loadAt T (a.eval X)).run P w=.ok v w∧cT J w ι e.r v∧e.nw=[]∧e.wr=[]:=by
 have bU:=aT S he hx
 simp only [cE] at hE
 split at hE
 ·rename_i o col dO
  rw [dO] at bU
  split at hE
  ·rename_i et cells ho
   split at hE
   ·rename_i v hv
    cases hE
    obtain ⟨b,hb,hval⟩:=bU
    have h0:=S.rep o
    rw [ho] at h0
    obtain ⟨⟨b',C,h1,h2,h3⟩,_⟩:=h0
    rw [hb] at h1; cases h1
    obtain ⟨u,hu,h1c,Dn⟩:=h3.get hv
    rw [hval]
    exact ⟨u,qT ha (by rw [cell_of_row w b col C et _ h2]; simpa using hu),Dn,rfl,rfl⟩
   ·cases hE
  ·cases hE
 ·rename_i row col dO
  rw [dO] at bU
  split at hE
  ·rename_i v hv
   cases hE
   obtain ⟨b,off,hb,hval,hr⟩:=bU
   obtain ⟨u,hu,h1c,Dn⟩:=hr.get hv
   rw [hval]
   exact ⟨u,qT ha hu,Dn,rfl,rfl⟩
  ·cases hE
 ·rename_i o n aJ row col dO
  rw [dO] at bU
  split at hE
  ·rename_i et oG rows ho
   split at hE
   ·rename_i hc
    obtain ⟨rfl,rfl⟩:=hc
    split at hE
    ·rename_i r hr
     split at hE
     ·rename_i v hv
      cases hE
      obtain ⟨b,hb,hval⟩:=bU
      have h0:=S.rep o
      rw [ho] at h0
      obtain ⟨⟨_,h1⟩,_⟩:=h0
      obtain ⟨_,h2⟩:=h1 b hb
      obtain ⟨_,h3⟩:=h2.get hr
      obtain ⟨u,hu,h1c,Dn⟩:=h3.get hv
      rw [Nat.zero_add] at hu
      rw [hval]
      exact ⟨u,qT ha hu,Dn,rfl,rfl⟩
     ·cases hE
    ·cases hE
   ·cases hE
  ·rename_i et oG v0 cells ho
   split at hE
   ·rename_i hc
    obtain ⟨rfl,rfl⟩:=hc
    split at hE
    ·rename_i v hv
     cases hE
     obtain ⟨b,hb,hval⟩:=bU
     have h0:=S.rep o
     rw [ho] at h0
     obtain ⟨⟨_,h1⟩ | ⟨b',C,h1,h2,hle,h3⟩,_⟩:=h0
     ·rw [hb] at h1; cases h1
     rw [hb] at h1; cases h1
     obtain ⟨u,hu,h1c,Dn⟩:=h3.get hv
     have hk:row*aJ+col<cells.length:=(List.getElem?_eq_some_iff.1 hv).1
     rw [List.getElem?_take_of_lt hk] at hu
     rw [hval]
     exact ⟨u,qT ha (by rw [cell_of_row w b _ C et _ h2]; simpa using hu),Dn,rfl,rfl⟩
    ·cases hE
   ·cases hE
  ·rename_i et bs ho
   split at hE
   ·rename_i hc
    subst hc
    split at hE
    ·rename_i rows hn
     split at hE
     ·rename_i r hr
      split at hE
      ·rename_i v hv
       cases hE
       obtain ⟨b,hb,hval⟩:=bU
       have h0:=S.rep o
       rw [ho] at h0
       obtain ⟨b',C,h1,_,h2⟩:=h0.1.1 n rows hn
       rw [hb] at h1; cases h1
       obtain ⟨_,h3⟩:=h2.get hr
       obtain ⟨u,hu,h1c,Dn⟩:=h3.get hv
       rw [Nat.zero_add] at hu
       rw [hval]
       exact ⟨u,qT ha hu,Dn,rfl,rfl⟩
      ·cases hE
     ·cases hE
    ·cases hE
   ·cases hE
  ·cases hE
 ·cases hE
theorem Lv (S:aF G J w ι obj) (he:∀ t,cT J w ι (get t) (a.tmps.getD t Go.undef)) {x:bM} {X:Operand} (hx:aI X=some x) {T:TypeId} {n:Nat} {e:eV} (ha:nO P T=some true) (hs:dP P T=some n)
  (hE:cE G get obj base (.Jw n x)=some e) :
  ∃ v,(Instr.loadAt T (a.eval X)).run P w=.ok v w∧cT J w ι e.r v∧e.nw=[]∧e.wr=[]:=by
 have bU:=aT S he hx
 have ofRow:∀ {b off:Nat} {row:List DV},dL J w row b off→∀ col,((row.drop col).take n).length=n→
   ∃ v,(Instr.loadAt T (.pointer (some ⟨b,off+col,none⟩))).run P w=.ok v w∧cT J w ι (.agg (((row.drop col).take n).map .d)) v:=by
  intro b off row hr col hl
  obtain ⟨vs,v1,v2,v3⟩:=((hr.drop col).take n).vals
  exact ⟨_,xR ha hs v3 (by rw [← v1.length,hl]),vs.toArray,rfl,bD.xE v1 v2⟩
 simp only [cE] at hE
 split at hE
 ·rename_i o col dO
  rw [dO] at bU
  split at hE
  ·rename_i et cells ho
   split at hE
   ·rename_i hl
    cases hE
    obtain ⟨b,hb,hval⟩:=bU
    have h0:=S.rep o
    rw [ho] at h0
    obtain ⟨⟨b',C,h1,h2,h3⟩,_⟩:=h0
    rw [hb] at h1; cases h1
    have h4:=(h3.drop col).take n
    rw [hval]
    exact ⟨_,xR ha hs (iV h2 col n) (by rw [← h4.length,hl]),⟨_,rfl,by simpa using h4⟩,rfl,rfl⟩
   ·cases hE
  ·cases hE
 ·rename_i row col dO
  rw [dO] at bU
  split at hE
  ·rename_i hl
   cases hE
   obtain ⟨b,off,hb,hval,hr⟩:=bU
   rw [hval]
   obtain ⟨v,k1,k2⟩:=ofRow hr col hl
   exact ⟨v,k1,k2,rfl,rfl⟩
  ·cases hE
 ·rename_i o m aJ row col dO
  rw [dO] at bU
  split at hE
  ·rename_i et oG rows ho
   split at hE
   ·rename_i hc
    obtain ⟨rfl,rfl⟩:=hc
    split at hE
    ·rename_i r hr
     split at hE
     ·rename_i hl
      cases hE
      obtain ⟨b,hb,hval⟩:=bU
      have h0:=S.rep o
      rw [ho] at h0
      obtain ⟨⟨_,h1⟩,_⟩:=h0
      obtain ⟨_,h2⟩:=h1 b hb
      obtain ⟨_,h3⟩:=h2.get hr
      rw [Nat.zero_add] at h3
      rw [hval]
      obtain ⟨v,k1,k2⟩:=ofRow h3 col hl
      exact ⟨v,k1,k2,rfl,rfl⟩
     ·cases hE
    ·cases hE
   ·cases hE
  ·rename_i et oG v0 cells ho
   split at hE
   ·rename_i hc
    obtain ⟨rfl,rfl,hl⟩:=hc
    cases hE
    obtain ⟨b,hb,hval⟩:=bU
    have h0:=S.rep o
    rw [ho] at h0
    obtain ⟨⟨_,h1⟩ | ⟨b',C,h1,h2,hle,h3⟩,_⟩:=h0
    ·rw [hb] at h1; cases h1
    rw [hb] at h1; cases h1
    have h4:=(h3.drop (row*aJ+col)).take n
    have hl2:=hl
    rw [List.length_take,List.length_drop] at hl2
    have hn:n=0∨row*aJ+col+n≤cells.length:=by omega
    rw [List.drop_take,List.take_take,show min n (cells.length-(row*aJ+col))=n by omega] at h4
    rw [hval]
    exact ⟨_,xR ha hs (iV h2 _ n) (by rw [← h4.length,hl]),⟨_,rfl,by simpa using h4⟩,rfl,rfl⟩
   ·cases hE
  ·cases hE
 ·cases hE
theorem Nf (S:aF G J w ι obj) (he:∀ t,cT J w ι (get t) (a.tmps.getD t Go.undef)) {x y:bM} {X Y:Operand} (hx:aI X=some x) (hy:aI Y=some y) {T:TypeId} {n:Nat} {e:eV} (hs:dP P T=some n)
  (hE:cE G get obj base (.st n x y)=some e) :
  ∃ w',(Instr.storeAt T (a.eval X) (a.eval Y)).run P w=.ok () w'∧aN G obj (bG obj base e) J ι w e.r Go.undef w':=by
 have bU:=aT S he hx
 have kI:=aT S he hy
 simp only [cE] at hE
 split at hE
 ·rename_i cs hcs
  have hrc:=nL kI hcs
  split at hE
  ·rename_i hl
   have hvl:(a.eval Y).cells.size=n:=by have:=hrc.length; simp at this; omega
   split at hE
   ·rename_i o col dO
    rw [dO] at bU
    split at hE
    ·rename_i et cells ho
     split at hE
     ·rename_i hle
      cases hE
      obtain ⟨b,hb,ht,hA⟩:=aN.yL S ho hrc hle
      obtain ⟨b',hb',hval⟩:=bU
      rw [hb] at hb'; cases hb'
      rw [hval]
      exact ⟨_,yP hs (by simpa using ht) hvl hrc.one,hA⟩
     ·cases hE
    ·cases hE
   ·rename_i o m aJ row col dO
    rw [dO] at bU
    split at hE
    ·rename_i et oG rows ho
     split at hE
     ·rename_i hc
      obtain ⟨rfl,rfl⟩:=hc
      split at hE
      ·rename_i ds hds
       split at hE
       ·rename_i r hr
        split at hE
        ·rename_i hle
         cases hE
         obtain ⟨b,hb,ht,hA⟩:=aN.Yy S ho hr (kX hds hrc.AP) hrc.one hle
         obtain ⟨b',hb',hval⟩:=bU
         rw [hb] at hb'; cases hb'
         rw [hval]
         exact ⟨_,yP hs (by simpa using ht) hvl hrc.one,hA⟩
        ·cases hE
       ·cases hE
      ·cases hE
     ·cases hE
    ·rename_i et oG v0 cells ho
     split at hE
     ·rename_i hc
      obtain ⟨rfl,rfl,hle⟩:=hc
      cases hE
      obtain ⟨b',hb',hval⟩:=bU
      obtain ⟨b,hb,ht,hA⟩:=aN.aau S ho hrc hle (by rw [hb']; rfl)
      rw [hb] at hb'; cases hb'
      rw [hval]
      exact ⟨_,yP hs (by simpa using ht) hvl hrc.one,hA⟩
     ·cases hE
    ·rename_i et bs ho
     split at hE
     ·rename_i hc
      subst hc
      split at hE
      ·rename_i ds hds
       split at hE
       ·rename_i rows hn
        split at hE
        ·rename_i r hr
         split at hE
         ·rename_i hle
          cases hE
          obtain ⟨b,hb,ht,hA⟩:=aN.Yz S ho hn hr (kX hds hrc.AP) hrc.one hle
          obtain ⟨b',hb',hval⟩:=bU
          rw [hb] at hb'; cases hb'
          rw [hval]
          exact ⟨_,yP hs (by simpa using ht) hvl hrc.one,hA⟩
         ·cases hE
        ·cases hE
       ·cases hE
      ·cases hE
     ·cases hE
    ·cases hE
   ·cases hE
  ·cases hE
 ·cases hE
theorem LH (S:aF G J w ι obj) (he:∀ t,cT J w ι (get t) (a.tmps.getD t Go.undef)) {x i:bM} {X Y:Operand} (hx:aI X=some x) (hy:aI Y=some i) {T el:TypeId} {n:Nat} {e:eV} (hu:P.underlying T=some (.slice el)) (hs:dP P el=some n)
  (hE:cE G get obj base (.QJ n x i)=some e) :
  ∃ v,(Instr.indexAt T (a.eval X) (a.eval Y)).run P w=.ok v w∧cT J w ι e.r v∧e.nw=[]∧e.wr=[]:=by
 have bU:=aT S he hx
 have kI:=aT S he hy
 simp only [cE] at hE
 split at hE
 ·rename_i k j dO
  rw [dO] at kI
  have hY:a.eval Y=.int k j:=kI
  split at hE
  ·rename_i h0
   split at hE
   ·rename_i ZY rows HE
    rw [HE] at bU
    split at hE
    ·rename_i hel
     split at hE
     ·rename_i r hr
      cases hE
      obtain ⟨sa,m,cap,hval,hm,hcap,hrows⟩:=bU
      have hlt:j.toNat<rows.length:=(List.getElem?_eq_some_iff.1 hr).1
      rcases hrows with hrows | ⟨b,off,rfl,hb,hrows⟩
      ·rw [hrows] at hlt; simp at hlt
      ·subst hel
       obtain ⟨_,hrow⟩:=hrows.get hr
       rw [hval,hY]
       exact ⟨_,Jc hu hs b off m cap k j h0 (by omega) w,⟨b,off+j.toNat*ZY,hb,by simp,hrow⟩,rfl,rfl⟩
     ·cases hE
    ·cases hE
   ·rename_i o m ZY lo len HE
    rw [HE] at bU
    have real:∀ {b cap:Nat},a.eval X=.slice (some ⟨b,lo*ZY,none⟩) len cap→ZY=n→j.toNat<len→
      (Instr.indexAt T (a.eval X) (a.eval Y)).run P w=.ok (.pointer (some ⟨b,(lo+j.toNat)*ZY,none⟩)) w:=by
     intro b cap hval hel hlt
     rw [hval,hY]
     have:=Jc (P:=P) hu hs b (lo*ZY) len cap k j h0 hlt w
     rw [← hel] at this
     rw [this,Nat.add_mul]
    split at hE
    ·rename_i et adv rows ho
     split at hE
     ·rename_i hc
      obtain ⟨hel,acW,hm,hlt⟩:=hc
      split at hE
      ·rename_i r hr
       cases hE
       rcases bU with ⟨h1,_⟩ | ⟨b,cap,et',C,hb,hval,hcap,_⟩
       ·omega
       ·have h0':=S.rep o
        rw [ho] at h0'
        obtain ⟨⟨_,h1⟩,_⟩:=h0'
        rw [hm] at hb
        obtain ⟨hJ,hrows⟩:=h1 b hb
        obtain ⟨_,hrow⟩:=hrows.get hr
        refine ⟨_,real hval hel hlt,⟨b,(lo+j.toNat)*ZY,hJ,by simp,?_⟩,rfl,rfl⟩
        rw [Nat.zero_add,acW,← hel] at hrow
        exact hrow
      ·cases hE
     ·cases hE
    ·split at hE
     ·rename_i hc
      obtain ⟨hel,he1,hm,hlt⟩:=hc
      cases hE
      rcases bU with ⟨h1,_⟩ | ⟨b,cap,et',C,hb,hval,hcap,_⟩
      ·omega
      ·rw [hm] at hb
       exact ⟨_,real hval hel hlt,⟨b,hb,by rw [he1]; simp⟩,rfl,rfl⟩
     ·cases hE
    ·split at hE
     ·rename_i hc
      obtain ⟨hel,hlt⟩:=hc
      cases hE
      rcases bU with ⟨h1,_⟩ | ⟨b,cap,et',C,hb,hval,hcap,_⟩
      ·omega
      ·exact ⟨_,real hval hel hlt,⟨b,hb,by simp⟩,rfl,rfl⟩
     ·cases hE
   ·cases hE
  ·cases hE
 ·cases hE
theorem LG (S:aF G J w ι obj) (he:∀ t,cT J w ι (get t) (a.tmps.getD t Go.undef)) {x i:bM} {X Y:Operand} (hx:aI X=some x) (hy:aI Y=some i) {T el:TypeId} {n len:Nat} {e:eV} (hu:P.underlying T=some (.array len el)) (hs:dP P el=some n)
  (hE:cE G get obj base (.ixr len n x i)=some e) :
  ∃ v,(Instr.indexAt T (a.eval X) (a.eval Y)).run P w=.ok v w∧cT J w ι e.r v∧e.nw=[]∧e.wr=[]:=by
 have bU:=aT S he hx
 have kI:=aT S he hy
 simp only [cE] at hE
 split at hE
 ·rename_i k j dO
  rw [dO] at kI
  have hY:a.eval Y=.int k j:=kI
  split at hE
  ·rename_i h0
   split at hE
   ·rename_i o col HE
    rw [HE] at bU
    cases hE
    obtain ⟨b,hb,hval⟩:=bU
    rw [hval,hY]
    exact ⟨_,CO hu hs b col k j h0.1 h0.2 w,⟨b,hb,rfl⟩,rfl,rfl⟩
   ·rename_i o m es r c HE
    rw [HE] at bU
    cases hE
    obtain ⟨b,hb,hval⟩:=bU
    rw [hval,hY]
    exact ⟨_,CO hu hs b _ k j h0.1 h0.2 w,⟨b,hb,by simp; omega⟩,rfl,rfl⟩
   ·rename_i r c HE
    rw [HE] at bU
    cases hE
    obtain ⟨b,off,hb,hval,hr⟩:=bU
    rw [hval,hY]
    exact ⟨_,CO hu hs b _ k j h0.1 h0.2 w,⟨b,off,hb,by simp; omega,hr⟩,rfl,rfl⟩
   ·cases hE
  ·cases hE
 ·cases hE
theorem Es {t:TypeId} {cs:Array Value} {off:Nat} {v:Value} (ha:nO P t=some false) (hv:cs[off]? = some v):(part t cs off).run P w=.ok v w:=by
 simp [part,lV ha,hv]
theorem Bw {t:TypeId} {cs:Array Value} {off n:Nat} (ha:nO P t=some true) (hs:dP P t=some n):(part t cs off).run P w=.ok (.agg (cs.extract off (off+n))) w:=by
 obtain ⟨i,hi,hn⟩:=cc hs
 simp [part,lV ha,Go.sizeOf,typeInfo,hi,hn]
theorem tw.map_eq {α β:Type} {xs:List α} {ys:List β} {R:α→β→Prop} (h:tw R xs ys):xs.length=ys.length:=by
 induction h with
 | nil=>rfl
 | cons _ _ ih=>simp [ih]
theorem lN {e:TypeId} {n b:Nat} (h:w8 P e=some (n,b)):∃ i z,P.info? e=some i∧i.zero=some z∧i.size=n∧i.bytes=b∧z.cells.size=i.size∧0<i.bytes∧0<i.size:=by
 unfold w8 at h
 split at h
 ·rename_i i hi
  split at h
  ·rename_i z hz
   split at h
   ·rename_i hc
    cases h
    exact ⟨i,z,hi,hz,rfl,rfl,hc.1,hc.2.1,hc.2.2⟩
   ·cases h
  ·cases h
 ·cases h
theorem vo {β γ:Type} (f:β→γ):∀ (l:List (Nat×β)) (k:Nat),l.map (·.1)=List.range' k l.length→l.map (fun p=>(p.1,f p.2))=(List.range' k (l.map (fun p=>f p.2)).length).zip (l.map (fun p=>f p.2))
 | [],k,_=>rfl
 | p::l,k,h=>by
   simp only [List.map_cons,List.length_cons,List.range'_succ,List.cons.injEq] at h
   simp only [List.map_cons,List.length_cons,List.range'_succ,List.zip_cons_cons]
   rw [← vo f l (k+1) h.2,h.1]
theorem tw.flat {aJ:Nat} : ∀ {xs:List Operand} {rows:List (List DV)},tw (fun (x:Operand) (r:List DV)=>bD J w r (a.eval x).cells.toList∧(∀ v∈(a.eval x).cells.toList,v.oneCell'=true)∧r.length=aJ) xs rows→
  bD J w rows.flatten ((xs.map a.eval).map (·.cells.toList)).flatten∧(∀ v∈((xs.map a.eval).map (·.cells.toList)).flatten,v.oneCell'=true)∧(∀ r∈rows,r.length=aJ)∧(∀ v∈xs.map a.eval,v.cells.size=aJ)
 | _,_,.nil=>⟨trivial,(fun _ h=>by cases h),(fun _ h=>by cases h),(fun _ h=>by cases h)⟩
 | _,_,.cons h1 h2=>by
   obtain ⟨k1,k2,k3,k4⟩:=tw.flat h2
   obtain ⟨h3,h4,h5⟩:=h1
   simp only [List.map_cons,List.flatten_cons]
   refine ⟨bD.append h3 k1,fun v hv=>?_,fun r hr=>?_,fun v hv=>?_⟩
   ·rcases List.mem_append.1 hv with hv | hv
    ·exact h4 v hv
    ·exact k2 v hv
   ·rcases List.mem_cons.1 hr with rfl | hr
    ·exact h5
    ·exact k3 r hr
   ·rcases List.mem_cons.1 hv with rfl | hv
    ·have:=h3.length
     simp at this; omega
    ·exact k4 v hv
theorem FZ (S:aF G J w ι obj) {T:TypeId} {n:Nat} {parts:Array (Nat×Operand)} {et aJ bs:Nat} {rows:List (List DV)} (hu:P.underlying T=some (.slice et)) (h1:w8 P et=some (aJ,bs)) (hfit:n*aJ≤16777216) (hidx:parts.toList.map (·.1)=List.range n) (hb:obj base=.free)
  (hA:tw (fun (x:Operand) (r:List DV)=>bD J w r (a.eval x).cells.toList∧(∀ v∈(a.eval x).cells.toList,v.oneCell'=true)∧r.length=aJ) (parts.toList.map (·.2)) rows) :
  ∃ v w',(Instr.buildSlice T n (parts.map fun (i,x)=>(i,a.eval x))).run P w=.ok v w'∧aN G obj (fun o=>if o=base then .live (.dat et aJ rows) else obj o) J ι w (.sl base rows.length aJ 0 rows.length) v w':=by
 obtain ⟨i,z,hi,hz,hsz,_,XX,_,hpos⟩:=lN h1
 have hlen:=hA.map_eq
 have lZ:parts.toList.length=n:=by have:=congrArg List.length hidx; simpa using this
 rw [List.length_map,lZ] at hlen
 obtain ⟨f1,f2,f3,f4⟩:=hA.flat
 have Fj:(parts.map fun (i,x)=>(i,a.eval x)).toList=(List.range' 0 ((parts.toList.map (·.2)).map a.eval).length).zip ((parts.toList.map (·.2)).map a.eval):=by
  have:=vo a.eval parts.toList 0 (by rw [hidx,lZ,List.range_eq_range'])
  rw [Array.toList_map,List.map_map]
  exact this
 let C0:Array Value:=(Array.range (n*aJ)).map ((if n*aJ=0 then #[] else z.cells)[· % (if n*aJ=0 then #[] else z.cells).size]!)
 have hC0:C0.size=n*aJ:=by simp [C0]
 have hvl:((parts.toList.map (·.2)).map a.eval).length=n:=by simpa using lZ
 obtain ⟨cs,k1,k2⟩:=v7 aJ ((parts.toList.map (·.2)).map a.eval) 0 C0 f4 (by rw [hvl,Nat.zero_add,hC0]; exact Nat.le_refl _)
 have hrun:(Instr.buildSlice T n (parts.map fun (i,x)=>(i,a.eval x))).run P w=.ok (.slice (some ⟨w.heap.size,0,none⟩) n n) (w.alloc (.cells cs et)):=by
  have Fs:¬ n*aJ>2 ^ 24:=by omega
  have JQ:∀ w:World,(Go.sizeOf et).run P w=.ok aJ w:=fun w=>by simp [Go.sizeOf,typeInfo,hi,hsz]
  have XW:∀ w:World,(zeroValue et).run P w=.ok z w:=fun w=>by simp [zeroValue,typeInfo,hi,hz]
  by_cases h0:n*aJ=0
  ·have Gh:=k1
   simp only [C0,if_pos h0] at Gh
   simp only [Instr.buildSlice,Sem.run_bind,run_underlying hu w,Result.andThen_ok,JQ,if_neg Fs,Sem.run_pure,if_pos h0,Fj,Gh]
   simp [newRow]
  ·have Gh:=k1
   simp only [C0,if_neg h0] at Gh
   simp only [Instr.buildSlice,Sem.run_bind,run_underlying hu w,Result.andThen_ok,JQ,if_neg Fs,Sem.run_pure,if_neg h0,XW,Fj,Gh]
   simp [newRow]
 have hcl:cs.toList=((parts.toList.map (·.2)).map a.eval |>.map (·.cells.toList)).flatten:=by
  rw [k2]
  have hfl:(((parts.toList.map (·.2)).map a.eval).map (·.cells.toList)).flatten.length=C0.toList.length:=by
   have ac2:C0.toList.length=n*aJ:=by rw [← hC0]; exact Array.length_toList
   rw [← f1.length,mD f3,ac2,← hlen]
  simp only [Nat.zero_mul]
  unfold splice
  rw [Nat.zero_add,hfl]
  simp
 refine ⟨_,_,hrun,?_⟩
 have HT:cs.size=n*aJ:=by
  have:cs.toList.length=cs.size:=Array.length_toList
  rw [← this,hcl,← f1.length,mD f3,← hlen]
 have:=aN.dat (G:=G) (J:=J) (w:=w) (ι:=ι) S hb et aJ rows cs w.drawn n (by omega) (by rw [HT]; exact Nat.le_refl _) (fun ι' E=>by
  refine bq.uh (bD.mono (fun _ h=>h) (S.same E) _ _ f1) f2 f3 (bY { w with drawn:=w.drawn } _) (fun j u hu=>?_)
  rw [← hcl] at hu
  simpa using hu)
 rw [← hlen] at this ⊢
 exact this
theorem uU:∀ {xs:List Operand} {ys:List bM},dh xs=some ys→ys.length=xs.length
 | [],ys,h=>by simp only [dh] at h; cases h; rfl
 | x::xs,ys,h=>by
   simp only [dh] at h
   split at h
   ·rename_i h1 h2
    cases h
    simp [uU h2]
   ·cases h
theorem Mz (S:aF G J w ι obj) (he:∀ t,cT J w ι (get t) (a.tmps.getD t Go.undef)) {T:TypeId} {n:Nat} {parts:Array (Nat×Operand)} {et aJ:Nat} {ys:List bM} {e:eV} (hc:cG P (.buildSlice T n parts)=some (.Yh et aJ ys))
  (hb:obj base=.free) (hE:cE G get obj base (.Yh et aJ ys)=some e) :
  ∃ v w',(Instr.buildSlice T n (parts.map fun (i,x)=>(i,a.eval x))).run P w=.ok v w'∧aN G obj (bG obj base e) J ι w e.r v w':=by
 simp only [cG] at hc
 split at hc
 ·rename_i el hu
  split at hc
  ·rename_i size bs xs h1 h2
   split at hc
   ·rename_i lJ
    cases hc
    obtain ⟨hfit,hidx⟩:=lJ
    obtain ⟨i,z,hi,hz,hsz,_,XX,_,hpos⟩:=lN h1
    simp only [cE] at hE
    split at hE
    ·rename_i rows hrows
     cases hE
     have hA:=yS S he h2 hrows
     exact FZ S hu h1 hfit hidx hb hA
    ·split at hE
     ·rename_i x hx
      split at hE
      ·rename_i ZL
       subst ZL
       split at hE
       ·rename_i o ob d hfr
        cases hE
        obtain ⟨X,hxs,dO⟩:∃ X,parts.toList.map (·.2)=[X]∧cT J w ι x (a.eval X):=by
         unfold zh at hx
         split at hx
         ·rename_i p
          cases hXs:parts.toList.map (·.2) with
          | nil=>rw [hXs] at h2; simp only [dh] at h2; cases h2
          | cons X Xs=>
            rw [hXs] at h2
            simp only [dh] at h2
            split at h2
            ·rename_i y ys' g1 g2
             cases h2
             cases Xs with
             | nil=>
               refine ⟨X,rfl,?_⟩
               have:=aT S he g1
               split at hx
               ·rename_i dO
                cases hx
                rw [dO] at this
                exact this
               ·cases hx
             | cons X' Xs'=>
               simp only [dh] at g2
               split at g2 <;> cases g2
            ·cases h2
         ·cases hx
        unfold qC at hfr
        split at hfr
        ·rename_i o' m e0 lo len
         split at hfr
         ·rename_i t e' rows ho
          split at hfr
          ·rename_i zT
           obtain ⟨rfl,rfl,hle⟩:=zT
           cases hfr
           obtain ⟨S1,E1⟩:=S.freeze ho
           obtain ⟨r1,r2,r3⟩:=KO S ho hle dO
           have hne:base≠o:=fun e=>by subst e; rw [hb] at ho; cases ho
           obtain ⟨v,w',hv,J2,xK,S2,R2,E2⟩:=FZ (rows:=[[.dK e0 ((rows.drop lo).take len)]]) S1 hu h1 hfit hidx (base:=base) (by rw [if_neg hne]; exact hb) (by
            rw [hxs]
            refine .cons ⟨?_,?_,rfl⟩ .nil
            ·rw [r2]; exact ⟨r1,trivial⟩
            ·rw [r2]; intro u hu; simp at hu; rw [hu]; exact r3)
           exact ⟨v,w',hv,J2,xK,S2,R2,E1.trans E2⟩
          ·cases hfr
         ·cases hfr
        ·cases hfr
       ·cases hE
      ·cases hE
     ·split at hE
      ·rename_i cl hcl
       obtain ⟨b1,b2,b3⟩:=Cl S he h2 hcl
       have lZ:parts.toList.length=n:=by have:=congrArg List.length hidx; simpa using this
       have hyl:ys.length=n:=by rw [← lZ]; have:=uU h2; simpa using this
       rw [List.length_map,lZ] at b3
       have Fj:(parts.map fun (i,x)=>(i,a.eval x)).toList=(List.range' 0 ((parts.toList.map (·.2)).map a.eval).length).zip ((parts.toList.map (·.2)).map a.eval):=by
        have:=vo a.eval parts.toList 0 (by rw [hidx,lZ,List.range_eq_range'])
        rw [Array.toList_map,List.map_map]
        exact this
       let C0:Array Value:=(Array.range (n*aJ)).map ((if n*aJ=0 then #[] else z.cells)[· % (if n*aJ=0 then #[] else z.cells).size]!)
       have hC0:C0.size=n*aJ:=by simp [C0]
       have hvl:((parts.toList.map (·.2)).map a.eval).length=n:=by simpa using lZ
       obtain ⟨cs,k1,k2⟩:=v7 aJ ((parts.toList.map (·.2)).map a.eval) 0 C0 b2 (by rw [hvl,Nat.zero_add,hC0]; exact Nat.le_refl _)
       have hrun:(Instr.buildSlice T n (parts.map fun (i,x)=>(i,a.eval x))).run P w=.ok (.slice (some ⟨w.heap.size,0,none⟩) n n) (w.alloc (.cells cs et)):=by
        have Fs:¬ n*aJ>2 ^ 24:=by omega
        have JQ:∀ w:World,(Go.sizeOf et).run P w=.ok aJ w:=fun w=>by simp [Go.sizeOf,typeInfo,hi,hsz]
        have XW:∀ w:World,(zeroValue et).run P w=.ok z w:=fun w=>by simp [zeroValue,typeInfo,hi,hz]
        by_cases h0:n*aJ=0
        ·have Gh:=k1
         simp only [C0,if_pos h0] at Gh
         simp only [Instr.buildSlice,Sem.run_bind,run_underlying hu w,Result.andThen_ok,JQ,if_neg Fs,Sem.run_pure,if_pos h0,Fj,Gh]
         simp [newRow]
        ·have Gh:=k1
         simp only [C0,if_neg h0] at Gh
         simp only [Instr.buildSlice,Sem.run_bind,run_underlying hu w,Result.andThen_ok,JQ,if_neg Fs,Sem.run_pure,if_neg h0,XW,Fj,Gh]
         simp [newRow]
       have hfl:(((parts.toList.map (·.2)).map a.eval).map (·.cells.toList)).flatten.length=n*aJ:=by rw [← b1.length,b3]
       have ac6:C0.toList.length=n*aJ:=by rw [Array.length_toList,hC0]
       have PE:cs.toList=(((parts.toList.map (·.2)).map a.eval).map (·.cells.toList)).flatten:=by
        rw [k2]
        simp only [Nat.zero_mul]
        unfold splice
        rw [Nat.zero_add,hfl,← ac6]
        simp
       have HT:cs.size=n*aJ:=by
        have:cs.toList.length=cs.size:=Array.length_toList
        rw [← this,PE,hfl]
       split at hE
       ·rename_i ZL
        cases hE
        subst ZL
        rw [Nat.mul_one] at b3 HT
        have hA:=aN.box (G:=G) (J:=J) (w:=w) (ι:=ι) S hb et cl cs (by rw [PE]; exact b1)
        obtain ⟨J',ι',q1,⟨b,q2,q3⟩,q4⟩:=hA
        have hbe:b=w.heap.size:=by
         have:=q3
         simp at this
         exact this.symm
        subst hbe
        refine ⟨_,_,hrun,J',ι',q1,.inr ⟨_,n,et,n,q2,?_,?_,?_,?_⟩,q4⟩
        ·rw [Nat.zero_mul,b3]
        ·rw [b3]; exact Nat.le_refl _
        ·simp only [World.shape?,bY]
         rw [HT]
        ·omega
       ·cases hE
        have hA:=aN.lr (G:=G) (J:=J) (w:=w) (ι:=ι) S hb et aJ cl cs w.drawn n n (Nat.le_refl _) (by rw [HT]; exact Nat.le_refl _) (by rw [b3,HT]; exact Nat.le_refl _) (by rw [b3,← HT,← Array.length_toList,List.take_length,PE]; exact b1)
        rw [hyl]
        exact ⟨_,_,hrun,hA⟩
      ·cases hE
   ·cases hc
  ·cases hc
 ·cases hc
theorem Mi (S:aF G J w ι obj) (he:∀ t,cT J w ι (get t) (a.tmps.getD t Go.undef)) {i:I} {e:eV} (hE:cE G get obj base i=some e) (hfree:∀ j,j<e.nw.length→obj (base+j)=.free) {o:Oper} (hc:cG P o.op=some i) :
  cw P o a w (aN G obj (bG obj base e) J ι w e.r):=by
 obtain ⟨dst,op,type,pos,after,guard⟩:=o
 dsimp only at hc
 have stay:∀ {e:eV} {v:Value},e.nw=[]→e.wr=[]→cT J w ι e.r v→aN G obj (bG obj base e) J ι w e.r v w:=by
  intro e v h1 h2 h3
  simp only [bG,h1,h2,pq,cL]
  exact aN.stay S h3
 cases op with
 | move x=>
   simp only [cG] at hc
   split at hc
   ·rename_i y hy; cases hc
    simp only [cE] at hE; cases hE
    exact cw.of_run rfl (stay rfl rfl (aT S he hy))
   ·cases hc
 | assign x=>
   simp only [cG] at hc
   split at hc
   ·rename_i y hy; cases hc
    simp only [cE] at hE; cases hE
    exact cw.of_run rfl (stay rfl rfl (aT S he hy))
   ·cases hc
 | pick c x y=>
   simp only [cG] at hc
   split at hc
   ·rename_i c' x' y' h1 h2 h3; cases hc
    simp only [cE] at hE
    split at hE
    ·rename_i b hb
     cases hE
     have hrc:=aT S he h1
     rw [hb] at hrc
     have gR:a.eval c=.bool b:=hrc
     refine cw.of_run (v:=if b then a.eval x else a.eval y) (by simp [execOp,gR,asBool]) (stay rfl rfl ?_)
     cases b
     ·exact aT S he h3
     ·exact aT S he h2
    ·cases hE
   ·cases hc
 | alloc T=>
   simp only [cG] at hc
   split at hc
   ·rename_i z hz; cases hc
    simp only [cE] at hE; cases hE
    obtain ⟨v,hv,hr⟩:=vp (J:=J) (w:=w) (ι:=ι) hz
    have hb:obj base=.free:=by simpa using hfree 0 (by simp)
    have:=aN.box S hb T (z.map .d) v.cells hr
    exact cw.value (s:=Instr.alloc T true (.tuple #[])) rfl (by simp [Instr.alloc,hv,newVar,newRow]) this
   ·cases hc
 | box T x=>
   simp only [cG] at hc
   split at hc
   ·rename_i y hy; cases hc
    simp only [cE] at hE
    split at hE
    ·rename_i cs hcs
     cases hE
     have hb:obj base=.free:=by simpa using hfree 0 (by simp)
     have:=aN.box S hb T cs (a.eval x).cells (nL (aT S he hy) hcs)
     exact cw.value (s:=Instr.box T (a.eval x)) rfl (by simp [Instr.box,newVar,newRow]) this
    ·cases hE
   ·cases hc
 | build T parts=>
   have zU:=hc
   obtain ⟨zero,ps,rfl⟩:∃ zero ps,i=.build zero ps:=by
    simp only [cG] at hc
    split at hc
    ·split at hc
     ·split at hc
      ·cases hc; exact ⟨_,_,rfl⟩
      ·cases hc
     ·cases hc
    ·split at hc
     ·split at hc
      ·cases hc; exact ⟨_,_,rfl⟩
      ·cases hc
     ·cases hc
    ·cases hc
   simp only [cE] at hE
   split at hE
   ·rename_i cs hcs
    cases hE
    obtain ⟨v,hv,hr⟩:=FY S he zU hcs
    exact cw.value (s:=Instr.build T (parts.map fun (i,x)=>(i,a.eval x))) rfl hv (stay rfl rfl hr)
   ·cases hE
 | buildSlice T n parts=>
   have zU:=hc
   obtain ⟨et,aJ,ys,rfl⟩:∃ et aJ ys,i=.Yh et aJ ys:=by
    simp only [cG] at hc
    split at hc
    ·split at hc
     ·split at hc
      ·cases hc; exact ⟨_,_,_,rfl⟩
      ·cases hc
     ·cases hc
    ·cases hc
   have hb:obj base=.free:=by
    have hlen:0<e.nw.length:=by
     simp only [cE] at hE
     (repeat' split at hE) <;> first | (cases hE; simp; done) | cases hE
    simpa using hfree 0 hlen
   obtain ⟨v,w',hv,hA⟩:=Mz S he zU hb hE
   refine cw.of_run (v:=v) (w':=w') ?_ hA
   simp only [execOp,Sem.run_bind]
   rw [hv]
   rfl
 | load T x=>
   simp only [cG] at hc
   split at hc
   ·rename_i y n h1 h2 h3; cases hc
    obtain ⟨v,hv,hr,h4,h5⟩:=Lv S he h1 h2 h3 hE
    exact cw.value (s:=Instr.loadAt T (a.eval x)) rfl hv (stay h4 h5 hr)
   ·rename_i y n h1 h2 h3; cases hc
    obtain ⟨v,hv,hr,h4,h5⟩:=OH S he h1 h2 hE
    exact cw.value (s:=Instr.loadAt T (a.eval x)) rfl hv (stay h4 h5 hr)
   ·cases hc
 | store T x y=>
   simp only [cG] at hc
   split at hc
   ·rename_i x' y' n h1 h2 h3; cases hc
    obtain ⟨w',hv,hA⟩:=Nf S he h1 h2 h3 hE
    refine cw.xX (w':=w') ?_ hA
    simp [execOp,hv]
   ·cases hc
 | nilCheck x=>
   simp only [cG] at hc
   split at hc
   ·rename_i y hy; cases hc
    have bU:=aT S he hy
    simp only [cE] at hE
    split at hE <;> first | (cases hE; done) | skip
    ·rename_i o col dO
     cases hE
     rw [dO] at bU
     obtain ⟨b,hb,hv⟩:=bU
     exact cw.of_run (v:=a.eval x) (by simp [execOp,hv]) (stay rfl rfl ⟨b,hb,hv⟩)
    ·rename_i o n e r c dO
     cases hE
     rw [dO] at bU
     obtain ⟨b,hb,hv⟩:=bU
     exact cw.of_run (v:=a.eval x) (by simp [execOp,hv]) (stay rfl rfl ⟨b,hb,hv⟩)
    ·rename_i r c dO
     cases hE
     rw [dO] at bU
     obtain ⟨b,off,hb,hv,h⟩:=bU
     exact cw.of_run (v:=a.eval x) (by simp [execOp,hv]) (stay rfl rfl ⟨b,off,hb,hv,h⟩)
   ·cases hc
 | binOp l_ T x y T2=>
   have two:∀ {x' y':bM},aI x=some x'→aI y=some y'→cE G get obj base (.bin l_ x' y')=some e→cw P ⟨dst,.binOp l_ T x y T2,type,pos,after,guard⟩ a w (aN G obj (bG obj base e) J ι w e.r):=by
    intro x' y' h1 h2 hE
    have bU:=aT S he h1
    have kI:=aT S he h2
    simp only [cE] at hE
    split at hE
    ·rename_i p q hp hq
     rw [hp] at bU; rw [hq] at kI
     split at hE
     ·rename_i v hv
      cases hE
      have e1:a.eval x=p:=bU
      have e2:a.eval y=q:=kI
      exact cw.value (s:=(do eqGuard l_ T x y (a.eval x) (a.eval y); Go.binOp l_ T (a.eval x) (a.eval y))) rfl (by rw [e1,e2]; exact Qn hv T x y w) (stay rfl rfl rfl)
     ·cases hE
    ·cases hE
   have bl:∀ {x' y':bM} {neg:Bool},(l_=.eql∨l_=.neq)→neg=iM l_→P.underlying T=some .bool→aI x=some x'→aI y=some y'→cE G get obj base (.eqb neg x' y')=some e→
     cw P ⟨dst,.binOp l_ T x y T2,type,pos,after,guard⟩ a w (aN G obj (bG obj base e) J ι w e.r):=by
    intro x' y' neg ho hneg hu h1 h2 hE
    have bU:=aT S he h1
    have kI:=aT S he h2
    simp only [cE] at hE
    split at hE
    ·rename_i p q hp hq
     rw [hp] at bU; rw [hq] at kI
     cases hE
     have e1:a.eval x=.bool p:=bU
     have e2:a.eval y=.bool q:=kI
     exact cw.value (s:=(do eqGuard l_ T x y (a.eval x) (a.eval y); Go.binOp l_ T (a.eval x) (a.eval y))) rfl (by rw [e1,e2,hneg]; exact UU ho hu x y p q w) (stay rfl rfl rfl)
    ·cases hE
   simp only [cG] at hc
   split at hc
   ·rename_i x' y' h1 h2
    cases hU:P.underlying T with
    | none=>simp [hU] at hc
    | some d=>
      rw [hU] at hc
      cases d with
      | bool=>
        cases l_ <;> dsimp only at hc <;> first | (cases hc; done) | skip
        ·cases hc; exact bl (.inl rfl) rfl hU h1 h2 hE
        ·cases hc; exact bl (.inr rfl) rfl hU h1 h2 hE
      | int k=>cases l_ <;> (dsimp only at hc; cases hc; exact two h1 h2 hE)
      | string=>cases l_ <;> (dsimp only at hc; cases hc; exact two h1 h2 hE)
      | struct fs=>
        have go:∀ {neg:Bool},(l_=.eql∨l_=.neq)→neg=iM l_→(match eqT P T with | some ks=>some (I.eqs neg ks x' y') | none=>none)=some i→cw P ⟨dst,.binOp l_ T x y T2,type,pos,after,guard⟩ a w (aN G obj (bG obj base e) J ι w e.r):=by
         intro neg ho hneg hc
         split at hc
         ·rename_i ks hks
          cases hc
          have bU:=aT S he h1
          have kI:=aT S he h2
          simp only [cE] at hE
          split at hE
          ·rename_i p q hp hq
           rw [hp] at bU; rw [hq] at kI
           split at hE
           ·rename_i b hb
            cases hE
            obtain ⟨xs,e1,hxs⟩:=bU
            obtain ⟨ys,e2,hys⟩:=kI
            exact cw.value (s:=(do eqGuard l_ T x y (a.eval x) (a.eval y); Go.binOp l_ T (a.eval x) (a.eval y))) rfl (by rw [e1,e2,hneg]; exact Rk ho hks x y hxs hys hb) (stay rfl rfl rfl)
           ·cases hE
          ·cases hE
         ·cases hc
        cases l_ <;> dsimp only at hc <;> first | (cases hc; done) | skip
        ·exact go (.inl rfl) rfl hc
        ·exact go (.inr rfl) rfl hc
      | pointer pe=>
        have go:∀ {neg:Bool},(l_=.eql∨l_=.neq)→neg=iM l_→(if RP y=true then some (I.LJ neg x') else none)=some i→cw P ⟨dst,.binOp l_ T x y T2,type,pos,after,guard⟩ a w (aN G obj (bG obj base e) J ι w e.r):=by
         intro neg ho hneg hc
         split at hc
         ·rename_i lH
          cases hc
          have hy:a.eval y=.pointer none:=by
           unfold RP at lH
           split at lH
           ·rfl
           ·cases lH
          have bU:=aT S he h1
          have fin:∀ {v:Option Addr} {r:Bool},a.eval x=.pointer v→r=(bif iM l_ then !v.isNone else v.isNone)→e = { r:=.bool r }→cw P ⟨dst,.binOp l_ T x y T2,type,pos,after,guard⟩ a w (aN G obj (bG obj base e) J ι w e.r):=by
           intro v r hv hr he'
           subst he'
           exact cw.value (s:=(do eqGuard l_ T x y (a.eval x) (a.eval y); Go.binOp l_ T (a.eval x) (a.eval y))) rfl (by rw [hv,hy]; exact Rj ho hU x y v w) (stay rfl rfl (by rw [hr]; rfl))
          simp only [cE] at hE
          split at hE <;> first | (cases hE; done) | skip
          ·rename_i dO
           rw [dO] at bU
           obtain ⟨b,_,hv⟩:=bU
           exact fin hv (by rw [hneg]; cases iM l_ <;> rfl) (Option.some.inj hE).symm
          ·rename_i dO
           rw [dO] at bU
           obtain ⟨b,_,hv⟩:=bU
           exact fin hv (by rw [hneg]; cases iM l_ <;> rfl) (Option.some.inj hE).symm
          ·rename_i dO
           rw [dO] at bU
           obtain ⟨b,off,_,hv,_⟩:=bU
           exact fin hv (by rw [hneg]; cases iM l_ <;> rfl) (Option.some.inj hE).symm
          ·rename_i dO
           rw [dO] at bU
           have hv:a.eval x=.pointer none:=bU
           exact fin hv (by rw [hneg]; cases iM l_ <;> rfl) (Option.some.inj hE).symm
         ·cases hc
        cases l_ <;> dsimp only at hc <;> first | (cases hc; done) | skip
        ·exact go (.inl rfl) rfl hc
        ·exact go (.inr rfl) rfl hc
      | slice se=>
        have go:∀ {neg:Bool},(l_=.eql∨l_=.neq)→neg=iM l_→(if RO y=true then some (I.LI neg x') else none)=some i→cw P ⟨dst,.binOp l_ T x y T2,type,pos,after,guard⟩ a w (aN G obj (bG obj base e) J ι w e.r):=by
         intro neg ho hneg hc
         split at hc
         ·rename_i lH
          cases hc
          have hy:a.eval y=.slice none 0 0:=by
           unfold RO at lH
           split at lH
           ·rfl
           ·cases lH
          have bU:=aT S he h1
          have fin:∀ {v:Option Addr} {n c:Nat},a.eval x=.slice v n c→(e.nw=[]∧e.wr=[]∧cT J w ι e.r (.bool (bif iM l_ then !v.isNone else v.isNone)))→cw P ⟨dst,.binOp l_ T x y T2,type,pos,after,guard⟩ a w (aN G obj (bG obj base e) J ι w e.r):=by
           intro v n c hv hr
           exact cw.value (s:=(do eqGuard l_ T x y (a.eval x) (a.eval y); Go.binOp l_ T (a.eval x) (a.eval y))) rfl (by rw [hv,hy]; exact Ri ho hU x y v n c w) (stay hr.1 hr.2.1 hr.2.2)
          simp only [cE] at hE
          split at hE <;> first | (cases hE; done) | skip
          ·rename_i dO
           cases hE
           rw [dO] at bU
           have hv:a.eval x=.slice none 0 0:=bU
           exact fin hv ⟨rfl,rfl,by rw [hneg]; cases iM l_ <;> rfl⟩
          ·rename_i dO
           cases hE
           rw [dO] at bU
           obtain ⟨sa,n,cap,hv,_,_,hr⟩:=bU
           refine fin hv ⟨rfl,rfl,?_⟩
           dsimp only
           split
           ·exact ⟨_,rfl⟩
           ·rename_i hne
            rcases hr with hr | ⟨b,off,hsa,_⟩
            ·exact absurd (by rw [hr]; rfl) hne
            ·rw [hneg,hsa]; cases iM l_ <;> rfl
          ·rename_i dO
           cases hE
           rw [dO] at bU
           rcases bU with ⟨hz,sa,hv⟩ | ⟨b,cap,et',C,hb,hv,_⟩
           ·refine fin hv ⟨rfl,rfl,?_⟩
            dsimp only
            rw [if_pos hz]
            exact ⟨_,rfl⟩
           ·refine fin hv ⟨rfl,rfl,?_⟩
            dsimp only
            split
            ·exact ⟨_,rfl⟩
            ·rw [hneg]; cases iM l_ <;> rfl
         ·cases hc
        cases l_ <;> dsimp only at hc <;> first | (cases hc; done) | skip
        ·exact go (.inl rfl) rfl hc
        ·exact go (.inr rfl) rfl hc
      | _=>cases l_ <;> (dsimp only at hc; cases hc)
   ·cases hc
 | unOp uop T x=>
   cases uop <;> simp only [cG] at hc <;> first | (cases hc; done) | skip
   ·split at hc
    ·rename_i y hy; cases hc
     have bU:=aT S he hy
     simp only [cE] at hE
     split at hE
     ·rename_i k p hp
      rw [hp] at bU
      cases hE
      have e1:a.eval x=.int k p:=bU
      exact cw.value (s:=Op.unary .neg (a.eval x)) rfl (by rw [e1]; rfl) (stay rfl rfl rfl)
     ·cases hE
    ·cases hc
   ·split at hc
    ·rename_i y hy; cases hc
     have bU:=aT S he hy
     simp only [cE] at hE
     split at hE
     ·rename_i p hp
      rw [hp] at bU
      cases hE
      have e1:a.eval x=.bool p:=bU
      exact cw.value (s:=Op.unary .not (a.eval x)) rfl (by rw [e1]; rfl) (stay rfl rfl rfl)
     ·cases hE
    ·cases hc
 | convert S' T x=>
   simp only [cG] at hc
   split at hc
   ·rename_i y k k' h1 h2 h3; cases hc
    have bU:=aT S he h1
    simp only [cE] at hE
    split at hE
    ·rename_i kk n hp
     rw [hp] at bU
     cases hE
     have e1:a.eval x=.int kk n:=bU
     refine cw.value (s:=Go.convert S' T (a.eval x)) rfl ?_ (stay rfl rfl rfl)
     rw [e1]
     simp only [Go.convert,Sem.run_bind,run_underlying h2 w,run_underlying h3 w,Result.andThen_ok]
     rfl
    ·cases hE
   ·cases hc
 | fieldAddr T x f=>
   simp only [cG] at hc
   split at hc
   ·rename_i y fs h1 h2
    split at hc
    ·rename_i fd h3
     split at hc
     ·rename_i n h4
      cases hc
      have bU:=aT S he h1
      simp only [cE] at hE
      split at hE <;> first | (cases hE; done) | skip
      ·rename_i o col dO
       cases hE
       rw [dO] at bU
       obtain ⟨b,hb,hv⟩:=bU
       exact cw.value (s:=Instr.fieldAt T (a.eval x) f) rfl (by rw [hv]; exact pW h2 h3 h4 b col w) (stay rfl rfl ⟨b,hb,rfl⟩)
      ·rename_i o n' e' r c dO
       cases hE
       rw [dO] at bU
       obtain ⟨b,hb,hv⟩:=bU
       exact cw.value (s:=Instr.fieldAt T (a.eval x) f) rfl (by rw [hv]; exact pW h2 h3 h4 b _ w) (stay rfl rfl ⟨b,hb,by simp; omega⟩)
      ·rename_i r c dO
       cases hE
       rw [dO] at bU
       obtain ⟨b,off,hb,hv,h⟩:=bU
       exact cw.value (s:=Instr.fieldAt T (a.eval x) f) rfl (by rw [hv]; exact pW h2 h3 h4 b _ w) (stay rfl rfl ⟨b,off,hb,by simp; omega,h⟩)
     ·cases hc
    ·cases hc
   ·cases hc
 | field T x f=>
   simp only [cG] at hc
   split at hc
   ·rename_i y fs h1 h2
    split at hc
    ·rename_i fd h3
     split at hc
     ·rename_i n h4 h5
      cases hc
      have bU:=aT S he h1
      simp only [cE] at hE
      split at hE
      ·rename_i cs dO
       rw [dO] at bU
       obtain ⟨xs,hv,hcs⟩:=bU
       split at hE
       ·rename_i hl
        cases hE
        refine cw.value (s:=Instr.field T (a.eval x) f) rfl (v:=.agg (xs.extract fd.offset (fd.offset+n))) (by
         rw [hv]
         simp only [Instr.field,Sem.run_bind,run_underlying h2 w,Result.andThen_ok,h3,asAgg,Sem.run_pure,Bw h4 h5]) (stay rfl rfl ⟨_,rfl,?_⟩)
        have:=(hcs.drop fd.offset).take n
        simpa [Array.toList_extract,List.extract_eq_take_drop] using this
       ·cases hE
      ·cases hE
     ·rename_i n h4 h5
      cases hc
      have bU:=aT S he h1
      simp only [cE] at hE
      split at hE
      ·rename_i cs dO
       rw [dO] at bU
       obtain ⟨xs,hv,hcs⟩:=bU
       split at hE
       ·rename_i v hl
        cases hE
        obtain ⟨u,hu,_,Dn⟩:=hcs.get hl
        refine cw.value (s:=Instr.field T (a.eval x) f) rfl (v:=u) (by
         rw [hv]
         simp only [Instr.field,Sem.run_bind,run_underlying h2 w,Result.andThen_ok,h3,asAgg,Sem.run_pure]
         exact Es h4 (by simpa using hu)) (stay rfl rfl Dn)
       ·cases hE
      ·cases hE
     ·cases hc
    ·cases hc
   ·cases hc
 | indexAddr T x y=>
   simp only [cG] at hc
   split at hc
   ·rename_i x' y' el h1 h2 h3
    split at hc
    ·rename_i n h4; cases hc
     obtain ⟨v,hv,hr,h5,h6⟩:=LH S he h1 h2 h3 h4 hE
     exact cw.value (s:=Instr.indexAt T (a.eval x) (a.eval y)) rfl hv (stay h5 h6 hr)
    ·cases hc
   ·rename_i x' y' len el h1 h2 h3
    split at hc
    ·rename_i n h4; cases hc
     obtain ⟨v,hv,hr,h5,h6⟩:=LG S he h1 h2 h3 h4 hE
     exact cw.value (s:=Instr.indexAt T (a.eval x) (a.eval y)) rfl hv (stay h5 h6 hr)
    ·cases hc
   ·cases hc
 | index T x y=>
   simp only [cG] at hc
   split at hc
   ·rename_i x' y' len el h1 h2 h3
    split at hc
    ·rename_i h4 h5; cases hc
     have bU:=aT S he h1
     have kI:=aT S he h2
     simp only [cE] at hE
     split at hE
     ·rename_i k j dO
      rw [dO] at kI
      have hY:a.eval y=.int k j:=kI
      split at hE
      ·rename_i h0
       split at hE
       ·rename_i cs HE
        rw [HE] at bU
        obtain ⟨xs,hv,hcs⟩:=bU
        split at hE
        ·rename_i v hl
         cases hE
         obtain ⟨u,hu,_,Dn⟩:=hcs.get hl
         obtain ⟨ii,hii,hn⟩:=cc h5
         have zT:0≤j∧j<(len:Int):=⟨h0.1,by omega⟩
         refine cw.value (s:=Instr.index T (a.eval x) (a.eval y)) rfl (v:=u) (by
          rw [hv,hY]
          have hsz:(Go.sizeOf el).run P w=.ok 1 w:=by simp [Go.sizeOf,typeInfo,hii,hn]
          simp only [Instr.index,asIntOf,Sem.run_bind,Sem.run_pure,Result.andThen_ok,run_underlying h3 w]
          rw [if_pos zT]
          simp only [Sem.run_bind,hsz,Result.andThen_ok]
          exact Es h4 (by simpa using hu)) (stay rfl rfl Dn)
        ·cases hE
       ·cases hE
      ·cases hE
     ·cases hE
    ·rename_i n h4 h5; cases hc
     have bU:=aT S he h1
     have kI:=aT S he h2
     simp only [cE] at hE
     split at hE
     ·rename_i k j dO
      rw [dO] at kI
      have hY:a.eval y=.int k j:=kI
      split at hE
      ·rename_i h0
       split at hE
       ·rename_i cs HE
        rw [HE] at bU
        obtain ⟨xs,hv,hcs⟩:=bU
        split at hE
        ·rename_i hl
         cases hE
         obtain ⟨ii,hii,hn⟩:=cc h5
         have zT:0≤j∧j<(len:Int):=⟨h0.1,by omega⟩
         refine cw.value (s:=Instr.index T (a.eval x) (a.eval y)) rfl (v:=.agg (xs.extract (j.toNat*n) (j.toNat*n+n))) (by
          rw [hv,hY]
          have hsz:(Go.sizeOf el).run P w=.ok n w:=by simp [Go.sizeOf,typeInfo,hii,hn]
          simp only [Instr.index,asIntOf,Sem.run_bind,Sem.run_pure,Result.andThen_ok,run_underlying h3 w]
          rw [if_pos zT]
          simp only [Sem.run_bind,hsz,Result.andThen_ok]
          exact Bw h4 h5) (stay rfl rfl ⟨_,rfl,?_⟩)
         have:=(hcs.drop (j.toNat*n)).take n
         simpa [Array.toList_extract,List.extract_eq_take_drop] using this
        ·cases hE
       ·cases hE
      ·cases hE
     ·cases hE
    ·cases hc
   ·rename_i x' y' h1 h2 h3
    cases hc
    have bU:=aT S he h1
    have kI:=aT S he h2
    simp only [cE] at hE
    split at hE
    ·rename_i k j s dO HE
     rw [dO] at kI; rw [HE] at bU
     have hY:a.eval y=.int k j:=kI
     have hX:a.eval x=.string s:=bU
     split at hE
     ·rename_i h0
      split at hE
      ·rename_i b hb
       cases hE
       refine cw.value (s:=Instr.index T (a.eval x) (a.eval y)) rfl (v:=.int .u8 b.toNat) (by
        rw [hX,hY]
        simp only [Instr.index,asIntOf,Sem.run_bind,Sem.run_pure,Result.andThen_ok,run_underlying h3 w]
        rw [if_pos h0]
        have:s[j.toNat]? = some b:=by
         have hlt:j.toNat<s.data.toList.length:=(List.getElem?_eq_some_iff.1 hb).1
         have hlt':j.toNat<s.size:=by simpa using hlt
         rw [getElem?_pos s j.toNat hlt']
         have:=(List.getElem?_eq_some_iff.1 hb).2
         rw [← this]; rfl
        rw [this]; rfl) (stay rfl rfl rfl)
      ·cases hE
     ·cases hE
    ·cases hE
   ·cases hc
 | slice T x lo hi mx=>
   simp only [cG] at hc
   split at hc
   ·rename_i x' lo' hi' mx' el h1 h2 h3 h4 hu
    split at hc
    ·rename_i n h5
     split at hc
     ·rename_i hmh
      cases hc
      obtain ⟨v,hv,hr,h6,h7⟩:=KM S he h1 h2 h3 h4 hmh hu h5 hE
      exact cw.value (s:=Instr.sliceAt T (a.eval x) (lo.map a.eval) (hi.map a.eval) (mx.map a.eval)) rfl hv (stay h6 h7 hr)
     ·cases hc
    ·cases hc
   ·rename_i x' lo' hi' h1 h2 h3 h4 hu
    cases hc
    have hmx:mx=none:=by
     cases mx with
     | none=>rfl
     | some X=>simp only [fB] at h4; split at h4 <;> cases h4
    subst hmx
    have bU:=aT S he h1
    simp only [cE] at hE
    split at hE
    ·rename_i s dO
     rw [dO] at bU
     have hv:a.eval x=.string s:=bU
     split at hE
     ·rename_i l h b1 b2
      split at hE
      ·rename_i zT
       cases hE
       exact cw.value (s:=Instr.sliceAt T (a.eval x) (lo.map a.eval) (hi.map a.eval) none) rfl (v:=.string (s.extract l h)) (by rw [hv]; exact Rf hu (kB S he h2 b1) (kB S he h3 b2) zT.1 zT.2 w) (stay rfl rfl rfl)
      ·cases hE
     ·cases hE
    ·cases hE
   ·cases hc
 | makeFunc f p q=>
   simp only [cG] at hc
   split at hc
   ·rename_i p' q' h1 h2; cases hc
    simp only [cE] at hE; cases hE
    refine cw.of_run (v:=.func f (p.map a.eval) (q.map a.eval)) rfl (stay rfl rfl ⟨_,_,rfl,?_,?_⟩)
    ·have:=qU S he h1; simpa using this
    ·have:=qU S he h2; simpa using this
   ·cases hc
 | extract x k=>
   simp only [cG] at hc
   split at hc
   ·rename_i y hy; cases hc
    have bU:=aT S he hy
    simp only [cE] at hE
    split at hE
    ·rename_i vs dO
     rw [dO] at bU
     obtain ⟨xs,hv,hvs⟩:=bU
     split at hE
     ·rename_i v hl
      cases hE
      obtain ⟨u,hu,Dn⟩:=hvs.get hl
      exact cw.value (s:=Instr.extract (a.eval x) k) rfl (v:=u) (by
       rw [hv]
       have:xs[k]? = some u:=by simpa using hu
       simp [Instr.extract,this]) (stay rfl rfl Dn)
     ·cases hE
    ·cases hE
   ·cases hc
 | call c=>
   obtain ⟨callee,args,ts⟩:=c
   cases callee with
   | value f=>
     simp only [cG] at hc
     split at hc
     ·cases hc; simp [cE] at hE
     ·cases hc
   | invoke r m=>simp [cG] at hc
   | builtin b=>
     cases b with
     | len=>
       simp only [cG] at hc
       split at hc
       ·rename_i x T hargs hT
        have ha:args=#[x]:=by apply Array.ext'; simpa using hargs
        subst ha
        have hx:execOp a.eval ⟨dst,.call ⟨.builtin .len,#[x],ts⟩,type,pos,after,guard⟩=(do pure (.value (← Builtin.len_ ts type #[a.eval x]))):=by simp [execOp,resolve,invoke,builtin]
        split at hc
        ·rename_i y h1 h2; cases hc
         have bU:=aT S he h1
         simp only [cE] at hE
         split at hE
         ·rename_i s dO
          cases hE
          rw [dO] at bU
          have hv:a.eval x=.string s:=bU
          exact cw.value hx (v:=.int .i64 s.size) (by simp [Builtin.len_,hT,run_underlying h2,hv,goInt]) (stay rfl rfl rfl)
         ·cases hE
        ·rename_i y el h1 h2; cases hc
         have bU:=aT S he h1
         have sl:∀ {sa:Option Addr} {n cap:Nat},a.eval x=.slice sa n cap→(Builtin.len_ ts type #[a.eval x]).run P w=.ok (.int .i64 n) w:=by
          intro sa n cap hv
          simp [Builtin.len_,hT,run_underlying h2,hv,goInt]
         simp only [cE] at hE
         split at hE
         ·rename_i e' rows dO
          cases hE
          rw [dO] at bU
          obtain ⟨sa,n,cap,hv,hn,_⟩:=bU
          exact cw.value hx (sl hv) (stay rfl rfl (by rw [hn]; rfl))
         ·rename_i dO
          cases hE
          rw [dO] at bU
          have hv:a.eval x=.slice none 0 0:=bU
          exact cw.value hx (sl hv) (stay rfl rfl rfl)
         ·rename_i o n e' lo len dO
          cases hE
          rw [dO] at bU
          rcases bU with ⟨h0,sa,hv⟩ | ⟨b,cap,et',C,hb,hv,_⟩
          ·exact cw.value hx (sl hv) (stay rfl rfl (by rw [h0]; rfl))
          ·exact cw.value hx (sl hv) (stay rfl rfl rfl)
         ·cases hE
        ·cases hc
       ·cases hc
     | append=>
       simp only [cG] at hc
       split at hc
       ·rename_i x y tx ty hargs hts
        have ha:args=#[x,y]:=by apply Array.ext'; simpa using hargs
        have ht:ts=#[tx,ty]:=by apply Array.ext'; simpa using hts
        subst ha; subst ht
        split at hc
        ·rename_i x' y' el h1 h2 h3 h4
         split at hc
         ·rename_i n b h5
          cases hc
          obtain ⟨i,z,hi,hz,rfl,rfl,XX,hb0,hs0⟩:=lN h5
          have hk:(∃ e',P.underlying ty=some (.slice e'))∨P.underlying ty=some .string:=by
           unfold Ng at h4
           split at h4
           ·rename_i e' hq; exact .inl ⟨e',hq⟩
           ·rename_i hq; exact .inr hq
           ·cases h4
          have bU:=aT S he h1
          have kI:=aT S he h2
          simp only [cE] at hE
          split at hE
          ·rename_i new rd hsrc
           obtain ⟨news,s1,s2,s3⟩:=vB (P:=P) (tx:=ty) S hk hsrc kI
           split at hE
           ·rename_i dO
            rw [dO] at bU
            have hv:a.eval x=.slice none 0 0:=bU
            split at hE
            ·rename_i hfit
             cases hE
             have hb:obj base=.free:=by simpa using hfree 0 (by simp)
             obtain ⟨u,w',hrun,hA⟩:=aN.Z4 (P:=P) (t:=tx) (ty:=type) S hb h3 hi hz XX hb0 s1 s2 s3 hfit
             exact cw.value (s:=Builtin.append_ #[tx,ty] type #[a.eval x,a.eval y]) (by simp [execOp,resolve,invoke,builtin]) (by rw [hv]; exact hrun) hA
            ·cases hE
           ·rename_i o n e' lo len dO
            rw [dO] at bU
            split at hE
            ·rename_i et' e'' rows ho
             split at hE
             ·rename_i lJ
              obtain ⟨rfl,rfl,rfl,rfl,rfl,rfl,hfit⟩:=lJ
              cases hE
              obtain ⟨u,w',hrun,hA⟩:=aN.Z3 (P:=P) (t:=tx) (ty:=type) S ho bU h3 hi hz XX hb0 s1 s2 s3 hfit
              exact cw.value (s:=Builtin.append_ #[tx,ty] type #[a.eval x,a.eval y]) (by simp [execOp,resolve,invoke,builtin]) hrun hA
             ·cases hE
            ·cases hE
           ·cases hE
          ·unfold Qu at hE
           split at hE
           ·rename_i new m s hsrc
            obtain ⟨news,s1,s2⟩:=GD (P:=P) (tx:=ty) S hk hsrc kI
            split at hE
            ·rename_i dO
             rw [dO] at bU
             have hv:a.eval x=.slice none 0 0:=bU
             split at hE
             ·rename_i zT
              cases hE
              have hb:obj base=.free:=by simpa using hfree 0 (by simp)
              obtain ⟨u,w',hrun,hA⟩:=aN.Qt (P:=P) (t:=tx) (ty:=type) S hb h3 hi hz XX hb0 s1 s2 zT.2 zT.1
              exact cw.value (s:=Builtin.append_ #[tx,ty] type #[a.eval x,a.eval y]) (by simp [execOp,resolve,invoke,builtin]) (by rw [hv]; exact hrun) hA
             ·cases hE
            ·rename_i o n e' lo len dO
             rw [dO] at bU
             split at hE
             ·rename_i et' e'' v0 cells ho
              split at hE
              ·rename_i lJ
               obtain ⟨rfl,rfl,rfl,rfl,rfl,hle,hfit⟩:=lJ
               cases hE
               obtain ⟨u,w',hrun,hA⟩:=aN.abY (P:=P) (t:=tx) (ty:=type) S ho hle bU h3 hi hz XX hb0 s1 s2 hfit
               exact cw.value (s:=Builtin.append_ #[tx,ty] type #[a.eval x,a.eval y]) (by simp [execOp,resolve,invoke,builtin]) hrun hA
              ·cases hE
             ·cases hE
            ·cases hE
           ·cases hE
         ·cases hc
        ·cases hc
       ·cases hc
     | min=>
       simp only [cG] at hc
       split at hc
       ·rename_i x y hargs
        have ha:args=#[x,y]:=by apply Array.ext'; simpa using hargs
        subst ha
        split at hc
        ·rename_i x' y' h1 h2
         cases hc
         have bU:=aT S he h1
         have kI:=aT S he h2
         simp only [cE] at hE
         split at hE
         ·rename_i k p k' q hp hq
          cases hE
          rw [hp] at bU; rw [hq] at kI
          have hx:a.eval x=.int k p:=bU
          have hy:a.eval y=.int k' q:=kI
          exact cw.value (s:=Builtin.min_ ts type #[a.eval x,a.eval y]) (by simp [execOp,resolve,invoke,builtin]) (v:=.int k (if q<p then q else p)) (by rw [hx,hy]; simp [Builtin.min_,Builtin.min2]) (stay rfl rfl rfl)
         ·cases hE
        ·cases hc
       ·cases hc
     | max=>
       simp only [cG] at hc
       split at hc
       ·rename_i x y hargs
        have ha:args=#[x,y]:=by apply Array.ext'; simpa using hargs
        subst ha
        split at hc
        ·rename_i x' y' h1 h2
         cases hc
         have bU:=aT S he h1
         have kI:=aT S he h2
         simp only [cE] at hE
         split at hE
         ·rename_i k p k' q hp hq
          cases hE
          rw [hp] at bU; rw [hq] at kI
          have hx:a.eval x=.int k p:=bU
          have hy:a.eval y=.int k' q:=kI
          exact cw.value (s:=Builtin.max_ ts type #[a.eval x,a.eval y]) (by simp [execOp,resolve,invoke,builtin]) (v:=.int k (if q>p then q else p)) (by rw [hx,hy]; simp [Builtin.max_,Builtin.max2]) (stay rfl rfl rfl)
         ·cases hE
        ·cases hc
       ·cases hc
     | _=>simp [cG] at hc
 | _=>simp [cG] at hc
end
end Dv
namespace Dv
open Go
mutual
def rn (π:Nat→Nat):LV→LV
 | .top=>.top
 | .dM=>.dM
 | .d x=>.d x
 | .ptr o c=>.ptr (π o) c
 | .rp o n e r c=>.rp (π o) n e r c
 | .ip r c=>.ip r c
 | .sl o n e l k=>.sl (π o) n e l k
 | .fn f a b=>.fn f (mw π a) (mw π b)
 | .agg cs=>.agg (mw π cs)
 | .dH vs=>.dH (mw π vs)
 | .fL t v=>.fL t (rn π v)
 | .yl o=>.yl (π o)
 | .mr o=>.mr (π o)
def mw (π:Nat→Nat):List LV→List LV
 | []=>[]
 | x::xs=>rn π x::mw π xs
end
theorem tT (π:Nat→Nat):∀ xs:List LV,(mw π xs).length=xs.length
 | []=>rfl
 | x::xs=>by simp only [mw,List.length_cons,tT π xs]
def ff (π:Nat→Nat):aC→aC
 | .box et cells=>.box et (mw π cells)
 | .dat et e rows=>.dat et e rows
 | .kK et e rows=>.kK et e rows
 | .mp es=>.mp (es.map fun p=>(p.1,rn π p.2))
 | .lr et e v cells=>.lr et e v (mw π cells)
 | .mZ et bs=>.mZ et bs
mutual
def eB (k:Nat):LV→Bool
 | .top=>true
 | .dM=>true
 | .d _=>true
 | .ptr o _=>decide (o<k)
 | .rp o _ _ _ _=>decide (o<k)
 | .ip _ _=>true
 | .sl o _ _ _ _=>decide (o<k)
 | .fn _ a b=>eu k a&&eu k b
 | .agg cs=>eu k cs
 | .dH vs=>eu k vs
 | .fL _ v=>eB k v
 | .yl o=>decide (o<k)
 | .mr o=>decide (o<k)
def eu (k:Nat):List LV→Bool
 | []=>true
 | x::xs=>eB k x&&eu k xs
end
def dV (k:Nat):aC→Bool
 | .box _ cells=>eu k cells
 | .dat ..=>true
 | .kK ..=>true
 | .mp es=>es.all fun p=>eB k p.2
 | .lr _ _ _ cells=>eu k cells
 | .mZ _ _=>true
section
variable {J J':Nat→Prop} {w:World} {ι ι':Nat→Nat→Option Nat} {π:Nat→Nat} {k0:Nat}
mutual
theorem cT.rn (h:∀ o n b,o<k0→ι (π o) n=some b→ι' o n=some b):∀ (x:LV) (v:Value),eB k0 x=true→cT J w ι (rn π x) v→cT J w ι' x v
 | .top,_,_,_=>trivial
 | .dM,_,_,k=>k
 | .d x,v,_,k=>k
 | .ptr o col,v,q,k=>by simp only [eB,decide_eq_true_eq] at q; obtain ⟨b,hb,rfl⟩:=k; exact ⟨b,h _ _ _ q hb,rfl⟩
 | .rp o n e r c,v,q,k=>by simp only [eB,decide_eq_true_eq] at q; obtain ⟨b,hb,rfl⟩:=k; exact ⟨b,h _ _ _ q hb,rfl⟩
 | .ip r c,v,_,k=>k
 | .sl o n e l m,v,q,k=>by
   simp only [eB,decide_eq_true_eq] at q
   rcases k with k | ⟨b,cap,et,C,hb,k⟩
   ·exact .inl k
   ·exact .inr ⟨b,cap,et,C,h _ _ _ q hb,k⟩
 | .fn f a b,v,q,k=>by simp only [eB,Bool.and_eq_true] at q; obtain ⟨fs,cs,rfl,k1,k2⟩:=k; exact ⟨fs,cs,rfl,ck.rn h a _ q.1 k1,ck.rn h b _ q.2 k2⟩
 | .agg cs,v,q,k=>by simp only [eB] at q; obtain ⟨xs,rfl,k1⟩:=k; exact ⟨xs,rfl,bA.rn h cs _ q k1⟩
 | .dH vs,v,q,k=>by simp only [eB] at q; obtain ⟨xs,rfl,k1⟩:=k; exact ⟨xs,rfl,ck.rn h vs _ q k1⟩
 | .fL t x,v,q,k=>by simp only [eB] at q; obtain ⟨y,rfl,k1⟩:=k; exact ⟨y,rfl,cT.rn h x y q k1⟩
 | .yl o,v,q,k=>by simp only [eB,decide_eq_true_eq] at q; obtain ⟨b,hb,rfl⟩:=k; exact ⟨b,h _ _ _ q hb,rfl⟩
 | .mr o,v,q,k=>by simp only [eB,decide_eq_true_eq] at q; obtain ⟨b,hb,rfl⟩:=k; exact ⟨b,h _ _ _ q hb,rfl⟩
theorem ck.rn (h:∀ o n b,o<k0→ι (π o) n=some b→ι' o n=some b):∀ (xs:List LV) (vs:List Value),eu k0 xs=true→ck J w ι (mw π xs) vs→ck J w ι' xs vs
 | [],[],_,_=>trivial
 | x::xs,v::vs,q,k=>by
   simp only [eu,Bool.and_eq_true] at q
   exact ⟨cT.rn h x v q.1 k.1,ck.rn h xs vs q.2 k.2⟩
 | [],_::_,_,k=>k.elim
 | _::_,[],_,k=>k.elim
theorem bA.rn (h:∀ o n b,o<k0→ι (π o) n=some b→ι' o n=some b):∀ (xs:List LV) (vs:List Value),eu k0 xs=true→bA J w ι (mw π xs) vs→bA J w ι' xs vs
 | [],[],_,_=>trivial
 | x::xs,v::vs,q,k=>by
   simp only [eu,Bool.and_eq_true] at q
   exact ⟨k.1,cT.rn h x v q.1 k.2.1,bA.rn h xs vs q.2 k.2.2⟩
 | [],_::_,_,k=>k.elim
 | _::_,[],_,k=>k.elim
end
mutual
theorem cT.pg (h:∀ o n b,ι o n=some b→ι' (π o) n=some b):∀ (x:LV) (v:Value),cT J w ι x v→cT J w ι' (Dv.rn π x) v
 | .top,_,_=>trivial
 | .dM,_,k=>k
 | .d x,v,k=>k
 | .ptr o col,v,k=>by obtain ⟨b,hb,rfl⟩:=k; exact ⟨b,h _ _ _ hb,rfl⟩
 | .rp o n e r c,v,k=>by obtain ⟨b,hb,rfl⟩:=k; exact ⟨b,h _ _ _ hb,rfl⟩
 | .ip r c,v,k=>k
 | .sl o n e l q,v,k=>by
   rcases k with k | ⟨b,cap,et,C,hb,k⟩
   ·exact .inl k
   ·exact .inr ⟨b,cap,et,C,h _ _ _ hb,k⟩
 | .fn f a b,v,k=>by obtain ⟨fs,cs,rfl,k1,k2⟩:=k; exact ⟨fs,cs,rfl,ck.pg h a _ k1,ck.pg h b _ k2⟩
 | .agg cs,v,k=>by obtain ⟨xs,rfl,k1⟩:=k; exact ⟨xs,rfl,bA.pg h cs _ k1⟩
 | .dH vs,v,k=>by obtain ⟨xs,rfl,k1⟩:=k; exact ⟨xs,rfl,ck.pg h vs _ k1⟩
 | .fL t x,v,k=>by obtain ⟨y,rfl,k1⟩:=k; exact ⟨y,rfl,cT.pg h x y k1⟩
 | .yl o,v,k=>by obtain ⟨b,hb,rfl⟩:=k; exact ⟨b,h _ _ _ hb,rfl⟩
 | .mr o,v,k=>by obtain ⟨b,hb,rfl⟩:=k; exact ⟨b,h _ _ _ hb,rfl⟩
theorem ck.pg (h:∀ o n b,ι o n=some b→ι' (π o) n=some b):∀ (xs:List LV) (vs:List Value),ck J w ι xs vs→ck J w ι' (mw π xs) vs
 | [],[],_=>trivial
 | x::xs,v::vs,k=>⟨cT.pg h x v k.1,ck.pg h xs vs k.2⟩
 | [],_::_,k=>k.elim
 | _::_,[],k=>k.elim
theorem bA.pg (h:∀ o n b,ι o n=some b→ι' (π o) n=some b):∀ (xs:List LV) (vs:List Value),bA J w ι xs vs→bA J w ι' (mw π xs) vs
 | [],[],_=>trivial
 | x::xs,v::vs,k=>⟨k.1,cT.pg h x v k.2.1,bA.pg h xs vs k.2.2⟩
 | [],_::_,k=>k.elim
 | _::_,[],k=>k.elim
end
theorem iO.rn (h:∀ o n b,o<k0→ι (π o) n=some b→ι' o n=some b):∀ (xs:List (Int×LV)) (vs:List MapEntry),(xs.all fun p=>eB k0 p.2)=true→iO J w ι (xs.map fun p=>(p.1,Dv.rn π p.2)) vs→iO J w ι' xs vs
 | [],[],_,_=>trivial
 | (i,x)::xs,v::vs,q,k=>by
   simp only [List.all_cons,Bool.and_eq_true] at q
   exact ⟨k.1,cT.rn h x _ q.1 k.2.1,iO.rn h xs vs q.2 k.2.2⟩
 | [],_::_,_,k=>k.elim
 | _::_,[],_,k=>k.elim
theorem iO.pg (h:∀ o n b,ι o n=some b→ι' (π o) n=some b):∀ (xs:List (Int×LV)) (vs:List MapEntry),iO J w ι xs vs→iO J w ι' (xs.map fun p=>(p.1,Dv.rn π p.2)) vs
 | [],[],_=>trivial
 | (i,x)::xs,v::vs,k=>⟨k.1,cT.pg h x _ k.2.1,iO.pg h xs vs k.2.2⟩
 | [],_::_,k=>k.elim
 | _::_,[],k=>k.elim
end
def au (af:List (Option aC)) (o:Nat):b_:=
 match af[o]? with
 | none=>.free
 | some none=>.dead
 | some (some ob)=>.live ob
def mG (P:Program) (f:Nat):Bool:=match P.funcs[f]? with
 | some fn=>fn.name != "runtime.NumGoroutine" &&fn.body.isSome
 | none=>false
def bh (P:Program) (G:Nat→Option (List DV)) (f:Nat) (args:List LV) (af:List aC) (r:LV) (ay:List aC):Prop:=
 mG P f=true∧∀ J ι w (vs:Array Value),aF G J w ι (au (af.map some))→ck J w ι args vs.toList→
  Calls P f vs w (fun e w'=>∃ v,e=.returned v∧aN G (au (af.map some)) (au (ay.map some)) J ι w r v w')
def bB (obj:Nat→b_) (Z:List Nat) (o n aJ lo len:Nat) (rs:List (List DV)):Prop:=
 match obj o with
 | .live (.kK _ e rows)=>o∈Z∧e=aJ∧n=rows.length∧lo+len≤rows.length∧rs=(rows.drop lo).take len
 | .live (.dat _ e rows)=>o∈Z∧e=aJ∧n=rows.length∧lo+len≤rows.length∧rs=(rows.drop lo).take len
 | .live (.box _ cells)=>o∈Z∧aJ=1∧n=0∧lo+len≤cells.length∧∃ ds,LV.pL ((cells.drop lo).take len)=some ds∧rs=ds.map fun x=>[x]
 | .live (.mZ _ bs)=>o∈Z∧aJ=1∧∃ rows,bs[n]? = some rows∧lo+len≤rows.length∧rs=(rows.drop lo).take len
 | _=>False
mutual
def ah (obj:Nat→b_) (ρ Z:List Nat):LV→LV→Prop
 | _,.top=>True
 | .dM,.dM=>True
 | .d x,.d y=>x=y∨(x=.val (.slice none 0 0)∧∃ aJ,y=.dK aJ [])
 | .ptr o c,.ptr i c'=>ρ[i]? = some o∧c=c'
 | .yl o,.yl i=>ρ[i]? = some o
 | .mr o,.mr i=>ρ[i]? = some o
 | .rp o n e r c,.rp i n' e' r' c'=>ρ[i]? = some o∧n=n'∧e=e'∧r=r'∧c=c'
 | .ip r c,.ip r' c'=>r=r'∧c=c'
 | .sl o n e l k,.sl i n' e' l' k'=>ρ[i]? = some o∧n=n'∧e=e'∧l=l'∧k=k'
 | .sl o n e l k,.d (.dK e' rs)=>e=e'∧bB obj Z o n e l k rs
 | .agg xs,.agg ys=>ag obj ρ Z xs ys
 | .dH xs,.dH ys=>ag obj ρ Z xs ys
 | .fn f a b,.fn f' a' b'=>f=f'∧ag obj ρ Z a a'∧ag obj ρ Z b b'
 | .d (.fn f a b),.fn f' a' b'=>f=f'∧a'=a.map .d∧b'=b.map .d
 | .fL t x,.fL t' y=>t=t'∧ah obj ρ Z x y
 | _,_=>False
def ag (obj:Nat→b_) (ρ Z:List Nat):List LV→List LV→Prop
 | [],[]=>True
 | x::xs,y::ys=>ah obj ρ Z x y∧ag obj ρ Z xs ys
 | _,_=>False
end
mutual
def oU:LV→Bool
 | .top=>true
 | .dM=>true
 | .d (.val _)=>true
 | .d (.dK _ rows)=>rows.isEmpty
 | .d _=>false
 | .ptr _ _=>true
 | .rp _ _ _ _ _=>true
 | .ip _ _=>false
 | .sl _ _ _ _ _=>true
 | .fn _ a b=>uo a&&uo b
 | .agg cs=>uo cs
 | .dH vs=>uo vs
 | .fL _ v=>oU v
 | .yl _=>true
 | .mr _=>true
def uo:List LV→Bool
 | []=>true
 | x::xs=>oU x&&uo xs
end
section
variable {J J':Nat→Prop} {w:World} {ι:Nat→Nat→Option Nat}
mutual
theorem cT.oU (hh:True):∀ (x:LV) (v:Value),oU x=true→cT J w ι x v→cT J' w ι x v
 | .top,_,_,_=>trivial
 | .dM,_,_,k=>k
 | .d (.val u),v,_,k=>k
 | .d (.dK e rows),v,h,k=>by
   simp only [Dv.oU,List.isEmpty_iff] at h
   subst h
   obtain ⟨a,n,cap,rfl,hn,hc,_⟩:=k
   exact ⟨a,n,cap,rfl,hn,hc,.inl rfl⟩
 | .d (.fn _ _ _),v,h,k=>by simp [Dv.oU] at h
 | .d (.fL _ _),v,h,k=>by simp [Dv.oU] at h
 | .d (.agg _),v,h,k=>by simp [Dv.oU] at h
 | .ptr o col,v,_,k=>k
 | .rp o n e r c,v,_,k=>k
 | .ip r c,v,h,k=>by simp [Dv.oU] at h
 | .sl o n e l q,v,_,k=>k
 | .fn f a b,v,h,k=>by
   simp only [Dv.oU,Bool.and_eq_true] at h
   obtain ⟨fs,cs,rfl,k1,k2⟩:=k; exact ⟨fs,cs,rfl,ck.oU hh a _ h.1 k1,ck.oU hh b _ h.2 k2⟩
 | .agg cs,v,h,k=>by
   simp only [Dv.oU] at h
   obtain ⟨xs,rfl,k1⟩:=k; exact ⟨xs,rfl,bA.oU hh cs _ h k1⟩
 | .dH vs,v,h,k=>by
   simp only [Dv.oU] at h
   obtain ⟨xs,rfl,k1⟩:=k; exact ⟨xs,rfl,ck.oU hh vs _ h k1⟩
 | .fL t x,v,h,k=>by
   simp only [Dv.oU] at h
   obtain ⟨y,rfl,k1⟩:=k; exact ⟨y,rfl,cT.oU hh x y h k1⟩
 | .yl o,v,_,k=>k
 | .mr o,v,_,k=>k
theorem ck.oU (hh:True):∀ (xs:List LV) (vs:List Value),uo xs=true→ck J w ι xs vs→ck J' w ι xs vs
 | [],[],_,_=>trivial
 | x::xs,v::vs,h,k=>by
   simp only [Dv.uo,Bool.and_eq_true] at h
   exact ⟨cT.oU hh x v h.1 k.1,ck.oU hh xs vs h.2 k.2⟩
 | [],_::_,_,k=>k.elim
 | _::_,[],_,k=>k.elim
theorem bA.oU (hh:True):∀ (xs:List LV) (vs:List Value),uo xs=true→bA J w ι xs vs→bA J' w ι xs vs
 | [],[],_,_=>trivial
 | x::xs,v::vs,h,k=>by
   simp only [Dv.uo,Bool.and_eq_true] at h
   exact ⟨k.1,cT.oU hh x v h.1 k.2.1,bA.oU hh xs vs h.2 k.2.2⟩
 | [],_::_,_,k=>k.elim
 | _::_,[],_,k=>k.elim
end
end
end Dv
namespace Dv
open Go
section
variable {P:Program} {G:Nat→Option (List DV)} {J J':Nat→Prop} {w w':World} {ι ι':Nat→Nat→Option Nat} {obj:Nat→b_}
def Bb (ι:Nat→Nat→Option Nat) (obj:Nat→b_) (Z:List Nat) (b:Nat):Prop:=∃ z∈Z,(obj z).own ι z b
def iK (ι:Nat→Nat→Option Nat) (ρ:List Nat) (i n:Nat):Option Nat:=match ρ[i]? with
 | some o=>ι o n
 | none=>none
theorem CP (S:aF G J w ι obj) {Z:List Nat} {o n aJ lo len:Nat} {rs:List (List DV)} (h:bB obj Z o n aJ lo len rs) {v:Value} (hv:cT J w ι (.sl o n aJ lo len) v) (acn:Nat→Nat→Option Nat) :
  cT (fun b=>J b∨Bb ι obj Z b) w acn (.d (.dK aJ rs)) v:=by
 unfold bB at h
 have dN:=S.rep o
 split at h
 ·rename_i et e rows ho
  obtain ⟨_,rfl,rfl,hle,rfl⟩:=h
  rw [ho] at dN
  obtain ⟨⟨_,hd⟩,_⟩:=dN
  have sV:((rows.drop lo).take len).length=len:=by simp; omega
  rcases hv with ⟨rfl,a,rfl⟩ | ⟨b,cap,et',C,hb,rfl,hcap,_⟩
  ·exact ⟨a,0,0,rfl,by simp,Nat.le_refl _,.inl (by simp)⟩
  ·obtain ⟨hJ,hrows⟩:=hd b hb
   have:=bq.mono (J':=fun b=>J b∨Bb ι obj Z b) (w':=w) (fun b h=>.inl h) (fun _ _=>rfl) e _ _ _ rfl ((hrows.drop lo).take len)
   exact ⟨_,len,cap,rfl,sV.symm,hcap,.inr ⟨b,lo*e,rfl,.inl hJ,by simpa using this⟩⟩
 ·rename_i et e rows ho
  obtain ⟨hz,rfl,rfl,hle,rfl⟩:=h
  rw [ho] at dN
  obtain ⟨⟨_,hd⟩,_⟩:=dN
  have sV:((rows.drop lo).take len).length=len:=by simp; omega
  rcases hv with ⟨rfl,a,rfl⟩ | ⟨b,cap,et',C,hb,rfl,hcap,_⟩
  ·exact ⟨a,0,0,rfl,by simp,Nat.le_refl _,.inl (by simp)⟩
  ·obtain ⟨_,hrows⟩:=hd b hb
   have:=bq.mono (J':=fun b=>J b∨Bb ι obj Z b) (w':=w) (fun b h=>.inl h) (fun _ _=>rfl) e _ _ _ rfl ((hrows.drop lo).take len)
   exact ⟨_,len,cap,rfl,sV.symm,hcap,.inr ⟨b,lo*e,rfl,.inr ⟨o,hz,by rw [ho]; exact hb⟩,by simpa using this⟩⟩
 ·rename_i et cells ho
  obtain ⟨hz,rfl,rfl,hle,ds,hds,rfl⟩:=h
  rw [ho] at dN
  obtain ⟨⟨b',C,h1,h2,h3⟩,_⟩:=dN
  have sV:(ds.map fun x=>[x]).length=len:=by rw [List.length_map,tH hds]; simp; omega
  rcases hv with ⟨rfl,a,rfl⟩ | ⟨b,cap,et',C',hb,rfl,hcap,_⟩
  ·exact ⟨a,0,0,rfl,by omega,Nat.le_refl _,.inl (List.eq_nil_of_length_eq_zero sV)⟩
  ·rw [h1] at hb; cases hb
   have:=bq.mono (J':=fun b=>J b∨Bb ι obj Z b) (w':=w) (fun b h=>.inl h) (fun _ _=>rfl) 1 _ _ _ rfl (F0 h3 h2 hds)
   exact ⟨_,len,cap,rfl,sV.symm,hcap,.inr ⟨b',lo*1,rfl,.inr ⟨o,hz,by rw [ho]; exact h1⟩,by rw [Nat.mul_one]; exact this⟩⟩
 ·rename_i et bs ho
  obtain ⟨hz,rfl,rows,hn,hle,rfl⟩:=h
  rw [ho] at dN
  have sV:((rows.drop lo).take len).length=len:=by simp; omega
  rcases hv with ⟨rfl,a,rfl⟩ | ⟨b,cap,et',C,hb,rfl,hcap,_⟩
  ·exact ⟨a,0,0,rfl,by simp,Nat.le_refl _,.inl (by simp)⟩
  ·obtain ⟨b',C',h1,_,hrows⟩:=dN.1.1 n rows hn
   rw [hb] at h1; cases h1
   have:=bq.mono (J':=fun b=>J b∨Bb ι obj Z b) (w':=w) (fun b h=>.inl h) (fun _ _=>rfl) 1 _ _ _ rfl ((hrows.drop lo).take len)
   exact ⟨_,len,cap,rfl,sV.symm,hcap,.inr ⟨b,lo*1,rfl,.inr ⟨o,hz,by rw [ho]; exact ⟨n,(List.getElem?_eq_some_iff.1 hn).1,hb⟩⟩,by simpa using this⟩⟩
 ·exact h.elim
theorem kZ {ρ:List Nat} {i o n b:Nat} (h:ρ[i]? = some o) (hb:ι o n=some b):iK ι ρ i n=some b:=by simp only [iK,h,hb]
mutual
theorem oN (S:aF G J w ι obj) {ρ Z:List Nat} : ∀ (x y:LV) (v:Value),ah obj ρ Z x y→cT J w ι x v→cT (fun b=>J b∨Bb ι obj Z b) w (iK ι ρ) y v
 | x,.top,_,_,_=>trivial
 | .dM,.dM,_,_,k=>k
 | .d x,.d y,v,h,k=>by
   have h':x=y∨(x=.val (.slice none 0 0)∧∃ aJ,y=.dK aJ []):=by simpa only [ah] using h
   rcases h' with rfl | ⟨rfl,aJ,rfl⟩
   ·exact jM.mono (fun b h=>.inl h) (fun _ _=>rfl) _ _ k
   ·have hv:v=.slice none 0 0:=k
    subst hv
    exact ⟨none,0,0,rfl,by simp,Nat.le_refl _,.inl rfl⟩
 | .ptr o c,.ptr i c',v,h,k=>by
   obtain ⟨h1,rfl⟩:ρ[i]? = some o∧c=c':=by simpa only [ah] using h
   obtain ⟨b,hb,rfl⟩:=k
   exact ⟨b,kZ h1 hb,rfl⟩
 | .yl o,.yl i,v,h,k=>by
   have h1:ρ[i]? = some o:=by simpa only [ah] using h
   obtain ⟨b,hb,rfl⟩:=k
   exact ⟨b,kZ h1 hb,rfl⟩
 | .mr o,.mr i,v,h,k=>by
   have h1:ρ[i]? = some o:=by simpa only [ah] using h
   obtain ⟨b,hb,rfl⟩:=k
   exact ⟨b,kZ h1 hb,rfl⟩
 | .rp o n e r c,.rp i n' e' r' c',v,h,k=>by
   obtain ⟨h1,rfl,rfl,rfl,rfl⟩:ρ[i]? = some o∧n=n'∧e=e'∧r=r'∧c=c':=by simpa only [ah] using h
   obtain ⟨b,hb,rfl⟩:=k
   exact ⟨b,kZ h1 hb,rfl⟩
 | .ip r c,.ip r' c',v,h,k=>by
   obtain ⟨rfl,rfl⟩:r=r'∧c=c':=by simpa only [ah] using h
   obtain ⟨b,off,hb,rfl,hr⟩:=k
   exact ⟨b,off,.inl hb,rfl,dL.mono (fun b h=>.inl h) (fun _ _=>rfl) _ _ _ rfl hr⟩
 | .sl o n e l m,.sl i n' e' l' m',v,h,k=>by
   obtain ⟨h1,rfl,rfl,rfl,rfl⟩:ρ[i]? = some o∧n=n'∧e=e'∧l=l'∧m=m':=by simpa only [ah] using h
   rcases k with k | ⟨b,cap,et,C,hb,k⟩
   ·exact .inl k
   ·exact .inr ⟨b,cap,et,C,kZ h1 hb,k⟩
 | .sl o n e l m,.d (.dK e' rs),v,h,k=>by
   obtain ⟨rfl,h1⟩:e=e'∧bB obj Z o n e l m rs:=by simpa only [ah] using h
   exact CP S h1 k _
 | .agg xs,.agg ys,v,h,k=>by
   have h':ag obj ρ Z xs ys:=by simpa only [ah] using h
   obtain ⟨us,rfl,k1⟩:=k
   exact ⟨us,rfl,bA.ofL (gC S xs ys _ h' k1.AP) k1.one⟩
 | .dH xs,.dH ys,v,h,k=>by
   have h':ag obj ρ Z xs ys:=by simpa only [ah] using h
   obtain ⟨us,rfl,k1⟩:=k
   exact ⟨us,rfl,gC S xs ys _ h' k1⟩
 | .fn f a b,.fn f' a' b',v,h,k=>by
   obtain ⟨rfl,h1,h2⟩:f=f'∧ag obj ρ Z a a'∧ag obj ρ Z b b':=by simpa only [ah] using h
   obtain ⟨fs,cs,rfl,k1,k2⟩:=k
   exact ⟨fs,cs,rfl,gC S a a' _ h1 k1,gC S b b' _ h2 k2⟩
 | .d (.fn f a b),.fn f' a' b',v,h,k=>by
   obtain ⟨rfl,rfl,rfl⟩:f=f'∧a'=a.map .d∧b'=b.map .d:=by simpa only [ah] using h
   obtain ⟨fs,cs,rfl,k1,k2⟩:=k
   exact ⟨fs,cs,rfl,(bD.mono (fun b h=>.inl h) (fun _ _=>rfl) _ _ k1).AP,(bD.mono (fun b h=>.inl h) (fun _ _=>rfl) _ _ k2).AP⟩
 | .fL t x,.fL t' y,v,h,k=>by
   obtain ⟨rfl,h1⟩:t=t'∧ah obj ρ Z x y:=by simpa only [ah] using h
   obtain ⟨z,rfl,k1⟩:=k
   exact ⟨z,rfl,oN S x y z h1 k1⟩
 | .mr _,.d _,_,h,_ | .mr _,.ptr ..,_,h,_ | .mr _,.rp ..,_,h,_ | .mr _,.ip ..,_,h,_ | .mr _,.sl ..,_,h,_ | .mr _,.fn ..,_,h,_ | .mr _,.agg _,_,h,_ | .mr _,.dH _,_,h,_ | .mr _,.fL ..,_,h,_ | .mr _,.dM,_,h,_ | .mr _,.yl _,_,h,_ | .d _,.mr _,_,h,_ | .ptr ..,.mr _,_,h,_ | .rp ..,.mr _,_,h,_ | .ip ..,.mr _,_,h,_ | .sl ..,.mr _,_,h,_ | .fn ..,.mr _,_,h,_ | .agg _,.mr _,_,h,_ | .dH _,.mr _,_,h,_ | .fL ..,.mr _,_,h,_ | .dM,.mr _,_,h,_ | .yl _,.mr _,_,h,_ | .top,.mr _,_,h,_=>by simp [ah] at h
 | .yl _,.d _,_,h,_ | .yl _,.ptr ..,_,h,_ | .yl _,.rp ..,_,h,_ | .yl _,.ip ..,_,h,_ | .yl _,.sl ..,_,h,_ | .yl _,.fn ..,_,h,_ | .yl _,.agg _,_,h,_ | .yl _,.dH _,_,h,_ | .yl _,.fL ..,_,h,_ | .yl _,.dM,_,h,_=>by simp [ah] at h
 | .d _,.yl _,_,h,_ | .ptr ..,.yl _,_,h,_ | .rp ..,.yl _,_,h,_ | .ip ..,.yl _,_,h,_ | .sl ..,.yl _,_,h,_ | .fn ..,.yl _,_,h,_ | .agg _,.yl _,_,h,_ | .dH _,.yl _,_,h,_ | .fL ..,.yl _,_,h,_ | .dM,.yl _,_,h,_ | .top,.yl _,_,h,_=>by simp [ah] at h
 | .top,.d _,_,h,_ | .top,.ptr ..,_,h,_ | .top,.rp ..,_,h,_ | .top,.ip ..,_,h,_ | .top,.sl ..,_,h,_ | .top,.fn ..,_,h,_ | .top,.agg _,_,h,_ | .top,.dH _,_,h,_ | .top,.fL ..,_,h,_=>by simp [ah] at h
 | .ptr ..,.d _,_,h,_ | .ptr ..,.rp ..,_,h,_ | .ptr ..,.ip ..,_,h,_ | .ptr ..,.sl ..,_,h,_ | .ptr ..,.fn ..,_,h,_ | .ptr ..,.agg _,_,h,_ | .ptr ..,.dH _,_,h,_ | .ptr ..,.fL ..,_,h,_=>by simp [ah] at h
 | .rp ..,.d _,_,h,_ | .rp ..,.ptr ..,_,h,_ | .rp ..,.ip ..,_,h,_ | .rp ..,.sl ..,_,h,_ | .rp ..,.fn ..,_,h,_ | .rp ..,.agg _,_,h,_ | .rp ..,.dH _,_,h,_ | .rp ..,.fL ..,_,h,_=>by simp [ah] at h
 | .ip ..,.d _,_,h,_ | .ip ..,.ptr ..,_,h,_ | .ip ..,.rp ..,_,h,_ | .ip ..,.sl ..,_,h,_ | .ip ..,.fn ..,_,h,_ | .ip ..,.agg _,_,h,_ | .ip ..,.dH _,_,h,_ | .ip ..,.fL ..,_,h,_=>by simp [ah] at h
 | .sl ..,.d (.val _),_,h,_ | .sl ..,.d (.fn ..),_,h,_ | .sl ..,.d (.fL ..),_,h,_ | .sl ..,.d (.agg _),_,h,_ | .sl ..,.ptr ..,_,h,_ | .sl ..,.rp ..,_,h,_ | .sl ..,.ip ..,_,h,_ | .sl ..,.fn ..,_,h,_ | .sl ..,.agg _,_,h,_ | .sl ..,.dH _,_,h,_ | .sl ..,.fL ..,_,h,_=>by simp [ah] at h
 | .agg _,.d _,_,h,_ | .agg _,.ptr ..,_,h,_ | .agg _,.rp ..,_,h,_ | .agg _,.ip ..,_,h,_ | .agg _,.sl ..,_,h,_ | .agg _,.fn ..,_,h,_ | .agg _,.dH _,_,h,_ | .agg _,.fL ..,_,h,_=>by simp [ah] at h
 | .dH _,.d _,_,h,_ | .dH _,.ptr ..,_,h,_ | .dH _,.rp ..,_,h,_ | .dH _,.ip ..,_,h,_ | .dH _,.sl ..,_,h,_ | .dH _,.fn ..,_,h,_ | .dH _,.agg _,_,h,_ | .dH _,.fL ..,_,h,_=>by simp [ah] at h
 | .fn ..,.d _,_,h,_ | .fn ..,.ptr ..,_,h,_ | .fn ..,.rp ..,_,h,_ | .fn ..,.ip ..,_,h,_ | .fn ..,.sl ..,_,h,_ | .fn ..,.agg _,_,h,_ | .fn ..,.dH _,_,h,_ | .fn ..,.fL ..,_,h,_=>by simp [ah] at h
 | .fL ..,.d _,_,h,_ | .fL ..,.ptr ..,_,h,_ | .fL ..,.rp ..,_,h,_ | .fL ..,.ip ..,_,h,_ | .fL ..,.sl ..,_,h,_ | .fL ..,.fn ..,_,h,_ | .fL ..,.agg _,_,h,_ | .fL ..,.dH _,_,h,_=>by simp [ah] at h
 | .d (.val _),.ptr ..,_,h,_ | .d (.val _),.rp ..,_,h,_ | .d (.val _),.ip ..,_,h,_ | .d (.val _),.sl ..,_,h,_ | .d (.val _),.fn ..,_,h,_ | .d (.val _),.agg _,_,h,_ | .d (.val _),.dH _,_,h,_ | .d (.val _),.fL ..,_,h,_=>by simp [ah] at h
 | .d (.dK ..),.ptr ..,_,h,_ | .d (.dK ..),.rp ..,_,h,_ | .d (.dK ..),.ip ..,_,h,_ | .d (.dK ..),.sl ..,_,h,_ | .d (.dK ..),.fn ..,_,h,_ | .d (.dK ..),.agg _,_,h,_ | .d (.dK ..),.dH _,_,h,_ | .d (.dK ..),.fL ..,_,h,_=>by simp [ah] at h
 | .d (.fn ..),.ptr ..,_,h,_ | .d (.fn ..),.rp ..,_,h,_ | .d (.fn ..),.ip ..,_,h,_ | .d (.fn ..),.sl ..,_,h,_ | .d (.fn ..),.agg _,_,h,_ | .d (.fn ..),.dH _,_,h,_ | .d (.fn ..),.fL ..,_,h,_=>by simp [ah] at h
 | .d (.fL ..),.ptr ..,_,h,_ | .d (.fL ..),.rp ..,_,h,_ | .d (.fL ..),.ip ..,_,h,_ | .d (.fL ..),.sl ..,_,h,_ | .d (.fL ..),.fn ..,_,h,_ | .d (.fL ..),.agg _,_,h,_ | .d (.fL ..),.dH _,_,h,_ | .d (.fL ..),.fL ..,_,h,_=>by simp [ah] at h
 | .d (.agg _),.ptr ..,_,h,_ | .d (.agg _),.rp ..,_,h,_ | .d (.agg _),.ip ..,_,h,_ | .d (.agg _),.sl ..,_,h,_ | .d (.agg _),.fn ..,_,h,_ | .d (.agg _),.agg _,_,h,_ | .d (.agg _),.dH _,_,h,_ | .d (.agg _),.fL ..,_,h,_=>by simp [ah] at h
 | .dM,.d _,_,h,_ | .dM,.ptr ..,_,h,_ | .dM,.rp ..,_,h,_ | .dM,.ip ..,_,h,_ | .dM,.sl ..,_,h,_ | .dM,.fn ..,_,h,_ | .dM,.agg _,_,h,_ | .dM,.dH _,_,h,_ | .dM,.fL ..,_,h,_=>by simp [ah] at h
 | .top,.dM,_,h,_ | .d (.val _),.dM,_,h,_ | .d (.dK ..),.dM,_,h,_ | .d (.fn ..),.dM,_,h,_ | .d (.fL ..),.dM,_,h,_ | .d (.agg _),.dM,_,h,_ | .ptr ..,.dM,_,h,_ | .rp ..,.dM,_,h,_ | .ip ..,.dM,_,h,_ | .sl ..,.dM,_,h,_ | .fn ..,.dM,_,h,_ | .agg _,.dM,_,h,_ | .dH _,.dM,_,h,_ | .fL ..,.dM,_,h,_=>by simp [ah] at h
theorem gC (S:aF G J w ι obj) {ρ Z:List Nat} : ∀ (xs ys:List LV) (vs:List Value),ag obj ρ Z xs ys→ck J w ι xs vs→ck (fun b=>J b∨Bb ι obj Z b) w (iK ι ρ) ys vs
 | [],[],[],_,_=>trivial
 | x::xs,y::ys,v::vs,h,k=>by
   have h':ah obj ρ Z x y∧ag obj ρ Z xs ys:=by simpa only [ag] using h
   exact ⟨oN S x y v h'.1 k.1,gC S xs ys vs h'.2 k.2⟩
 | [],_::_,_,h,_=>by simp [ag] at h
 | _::_,[],_,h,_=>by simp [ag] at h
 | [],[],_::_,_,k=>k.elim
 | _::_,_::_,[],_,k=>k.elim
end
end
end Dv
namespace Dv
open Go
def bu (ρ:List Nat) (base i:Nat):Nat:=match ρ[i]? with
 | some o=>o
 | none=>base+(i-ρ.length)
def gh (obj:Nat→b_):List Nat→List (Nat×aC)
 | []=>[]
 | z::Z=>match obj z with
   | .live (.dat et e rows)=>(z,.kK et e rows)::gh obj Z
   | .live (.box et _)=>(z,.kK et 1 [])::gh obj Z
   | _=>gh obj Z
def FH:b_→Option aC
 | .live (.dat et e rows)=>some (.kK et e rows)
 | .live (.box et _)=>some (.kK et 1 [])
 | _=>none
theorem ru (obj:Nat→b_) (z:Nat) (Z:List Nat):gh obj (z::Z)=match FH (obj z) with | some x=>(z,x)::gh obj Z | none=>gh obj Z:=by
 rw [gh]
 cases obj z with
 | live ob=>cases ob <;> rfl
 | _=>rfl
structure cm (P:Program) (G:Nat→Option (List DV)) (f:Nat) (args:List LV) (obj:Nat→b_) (base:Nat) (e:eV):Prop where
 mk::
 ex:∃ (ρ Z:List Nat) (tmp:Bool) (aS:List LV) (aH:List aC) (r:LV) (aq:List aC) (keep:Nat→Bool),(∀ (i o:Nat),ρ[i]? = some o→keep o=false→aq[i]? = aH[i]?)∧
  ρ.Nodup∧(∀ z∈Z,z∉ρ)∧(∀ z∈Z,ZR tmp (obj z))∧aH.length=ρ.length∧(∀ (i o:Nat),ρ[i]? = some o→∃ ob,aH[i]? = some ob∧obj o=.live (ff (bu ρ base) ob))∧aH.all (dV ρ.length)=true∧
  ag obj ρ Z args aS∧(tmp=true→oU r=true∧aq=[]∧ρ=[])∧aH.length≤aq.length∧
  bh P G f aS aH r aq∧
  e = { r:=rn (bu ρ base) r,rd:=ρ++Z,wr:=((ρ.zip (aq.map (ff (bu ρ base)))).filter fun p=>keep p.1)++(if tmp then [] else gh obj Z),nw:=(aq.drop ρ.length).map (ff (bu ρ base)) }
def wm (P:Program) (G:Nat→Option (List DV)) (f:Nat) (args:List LV) (af:List aC) (p:Value) (ay:List aC):Prop:=
 mG P f=true∧∀ J ι w (vs:Array Value),aF G J w ι (au (af.map some))→ck J w ι args vs.toList→
  Calls P f vs w (fun e w'=>e=.panicked [{ v:=p,recovered:=false }]∧aN G (au (af.map some)) (au (ay.map some)) J ι w .top Go.undef w')
structure fe (P:Program) (G:Nat→Option (List DV)) (f:Nat) (args:List LV) (obj:Nat→b_) (base:Nat) (p:Value) (e:eV):Prop where
 mk::
 ex:∃ (ρ Z:List Nat) (aS:List LV) (aH aq:List aC),
  ρ.Nodup∧(∀ z∈Z,z∉ρ)∧(∀ z∈Z,∃ et e rows,obj z=.live (.dat et e rows)∨obj z=.live (.kK et e rows))∧aH.length=ρ.length∧(∀ (i o:Nat),ρ[i]? = some o→∃ ob,aH[i]? = some ob∧obj o=.live (ff (bu ρ base) ob))∧aH.all (dV ρ.length)=true∧
  ag obj ρ Z args aS∧aH.length≤aq.length∧
  wm P G f aS aH p aq∧
  e = { r:=.top,rd:=ρ++Z,wr:=(ρ.zip (aq.map (ff (bu ρ base))))++gh obj Z,nw:=(aq.drop ρ.length).map (ff (bu ρ base)) }
section
variable {P:Program} {G:Nat→Option (List DV)} {J J':Nat→Prop} {w w':World} {ι ι':Nat→Nat→Option Nat} {obj:Nat→b_}
theorem YH (π:Nat→Nat):(∀ x:LV,oU x=true→oU (rn π x)=true)∧(∀ xs:List LV,uo xs=true→uo (mw π xs)=true):=by
 have one:∀ n,(∀ x:LV,sizeOf x<n→oU x=true→oU (rn π x)=true)∧(∀ xs:List LV,sizeOf xs<n→uo xs=true→uo (mw π xs)=true):=by
  intro n
  induction n with
  | zero=>exact ⟨fun _ h=>absurd h (by omega),fun _ h=>absurd h (by omega)⟩
  | succ n ih=>
    refine ⟨fun x hs h=>?_,fun xs hs h=>?_⟩
    ·cases x <;> simp only [rn] <;> (try exact h) <;> simp only [oU,Bool.and_eq_true] at h ⊢ <;> simp at hs
     ·exact ⟨ih.2 _ (by omega) h.1,ih.2 _ (by omega) h.2⟩
     ·exact ih.2 _ (by omega) h
     ·exact ih.2 _ (by omega) h
     ·exact ih.1 _ (by omega) h
    ·cases xs with
     | nil=>rfl
     | cons x xs=>
       simp only [mw,uo,Bool.and_eq_true] at h ⊢
       simp at hs
       exact ⟨ih.1 _ (by omega) h.1,ih.2 _ (by omega) h.2⟩
 exact ⟨fun x=>(one (sizeOf x+1)).1 x (by omega),fun xs=>(one (sizeOf xs+1)).2 xs (by omega)⟩
theorem uq:∀ (l:List aC) (base:Nat) (obj:Nat→b_) (o:Nat),pq base l obj o=if base≤o then (match l[o-base]? with | some ob=>.live ob | none=>obj o) else obj o
 | [],base,obj,o=>by simp [pq]
 | ob::r,base,obj,o=>by
   simp only [pq]
   by_cases h:o=base
   ·subst h; simp
   ·rw [if_neg h,uq r (base+1) obj o]
    by_cases h2:base+1≤o
    ·rw [if_pos h2,if_pos (by omega)]
     have:o-base=(o-(base+1))+1:=by omega
     rw [this]; simp
    ·rw [if_neg h2,if_neg (by omega)]
theorem iI:∀ (l m:List (Nat×aC)) (obj:Nat→b_),cL (l++m) obj=cL l (cL m obj)
 | [],_,_=>rfl
 | (k,ob)::r,m,obj=>by simp only [List.cons_append,cL,iI r m obj]
theorem yt:∀ (ρ:List Nat) (l:List aC) (obj:Nat→b_) (o:Nat),ρ.Nodup→ρ.length≤l.length→
  (∀ (i:Nat),ρ[i]? = some o→∃ ob,l[i]? = some ob∧cL (ρ.zip l) obj o=.live ob)∧(o∉ρ→cL (ρ.zip l) obj o=obj o)
 | [],l,obj,o,_,_=>⟨fun i h=>by simp at h,fun _=>rfl⟩
 | k::ρ,[],obj,o,_,h=>by simp at h
 | k::ρ,x::l,obj,o,hn,h=>by
   have hn':=List.nodup_cons.1 hn
   obtain ⟨h1,h2⟩:=yt ρ l obj o hn'.2 (by simpa using h)
   refine ⟨fun i hi=>?_,fun ho=>?_⟩
   ·cases i with
    | zero=>
      simp at hi; subst hi
      exact ⟨x,by simp,by simp [cL]⟩
    | succ i=>
      have hi':ρ[i]? = some o:=by simpa using hi
      obtain ⟨ob,k1,k2⟩:=h1 i hi'
      refine ⟨ob,by simpa using k1,?_⟩
      simp only [List.zip_cons_cons,cL]
      have hok:o≠k:=fun e=>hn'.1 (by rw [← e]; exact List.mem_of_getElem? hi')
      rw [if_neg hok]
      exact k2
   ·simp only [List.mem_cons,not_or] at ho
    simp only [List.zip_cons_cons,cL]
    rw [if_neg ho.1]; exact h2 ho.2
theorem jB (bf:Nat→b_):∀ (Z:List Nat) (obj:Nat→b_) (o:Nat),
  (o∈Z→∀ x,FH (bf o)=some x→cL (gh bf Z) obj o=.live x)∧((o∉Z∨FH (bf o)=none)→cL (gh bf Z) obj o=obj o)
 | [],obj,o=>⟨(fun h=>by cases h),(fun _=>rfl)⟩
 | z::Z,obj,o=>by
   obtain ⟨h1,h2⟩:=jB bf Z obj o
   refine ⟨fun ho x en=>?_,fun ho=>?_⟩
   ·rw [ru]
    by_cases hz:o=z
    ·subst hz; rw [en]; simp [cL]
    ·have hoZ:o∈Z:=(List.mem_cons.1 ho).resolve_left hz
     split
     ·simp only [cL]; rw [if_neg hz]; exact h1 hoZ x en
     ·exact h1 hoZ x en
   ·rw [ru]
    have hr:cL (gh bf Z) obj o=obj o:=h2 (ho.imp (fun h hm=>h (by simp [hm])) id)
    split
    ·rename_i x en
     simp only [cL]
     by_cases hz:o=z
     ·subst hz
      rcases ho with ho | ho
      ·exact absurd (by simp) ho
      ·rw [ho] at en; cases en
     ·rw [if_neg hz]; exact hr
    ·exact hr
theorem qi (l:List aC) (o:Nat):au (l.map some) o=(match l[o]? with | some ob=>.live ob | none=>.free):=by
 unfold au
 rw [List.getElem?_map]
 cases l[o]? <;> rfl
theorem vL:∀ {l:List Nat} {i j:Nat},l.Nodup→(hi:i<l.length)→(hj:j<l.length)→l[i]=l[j]→i=j
 | [],i,_,_,hi,_,_=>by simp at hi
 | x::l,0,0,_,_,_,_=>rfl
 | x::l,0,j+1,hn,_,hj,h=>by
   have:=(List.nodup_cons.1 hn).1
   simp at h hj
   exact absurd (by rw [h]; exact List.getElem_mem _) this
 | x::l,i+1,0,hn,hi,_,h=>by
   have:=(List.nodup_cons.1 hn).1
   simp at h hi
   exact absurd (by rw [← h]; exact List.getElem_mem _) this
 | x::l,i+1,j+1,hn,hi,hj,h=>by
   simp at h hi hj
   rw [vL (List.nodup_cons.1 hn).2 hi hj h]
theorem ig {ρ:List Nat} {base i o:Nat} (h:ρ[i]? = some o):bu ρ base i=o:=by simp [bu,h]
theorem k_ {ρ:List Nat} {base i:Nat} (h:ρ.length≤i):bu ρ base i=base+(i-ρ.length):=by
 simp [bu,List.getElem?_eq_none h]
theorem nK {f:Nat} (h:mG P f=true) (args:Array Value) (w:World):(callFunc f args).run P w=.ok (.enter f args) w:=by
 unfold mG at h
 split at h
 ·rename_i fn hfn
  simp only [Bool.and_eq_true,bne_iff_ne,ne_eq] at h
  obtain ⟨h1,h2⟩:=h
  have h3:fn.body.isNone=false:=by cases hb:fn.body <;> simp_all
  simp only [callFunc,Sem.run_bind,run_program,Result.andThen_ok,hfn,h3]
  rw [if_neg (by simpa using h1)]
  rfl
 ·cases h
theorem aF.sub (S:aF G J w ι obj) {ρ Z:List Nat} {aH:List aC} {base:Nat} (hn:ρ.Nodup) (hz:∀ z∈Z,z∉ρ) (hl:aH.length=ρ.length)
  (ho:∀ (i o:Nat),ρ[i]? = some o→∃ ob,aH[i]? = some ob∧obj o=.live (ff (bu ρ base) ob)) (hid:aH.all (dV ρ.length)=true) (Ds:∀ z∈Z,ZR true (obj z)) :
  aF G (fun b=>J b∨Bb ι obj Z b) w (iK ι ρ) (au (aH.map some))∧(∀ i b,(au (aH.map some) i).own (iK ι ρ) i b→∃ o,ρ[i]? = some o∧(obj o).own ι o b):=by
 have hown:∀ i b,(au (aH.map some) i).own (iK ι ρ) i b→∃ o,ρ[i]? = some o∧(obj o).own ι o b:=by
  intro i b h
  rw [qi] at h
  cases hi:aH[i]? with
  | none=>rw [hi] at h; exact h.elim
  | some ob=>
    rw [hi] at h
    have hlt:i<ρ.length:=by rw [← hl]; exact (List.getElem?_eq_some_iff.1 hi).1
    obtain ⟨ob',k1,k2⟩:=ho i _ (List.getElem?_eq_getElem hlt)
    rw [hi] at k1; cases k1
    refine ⟨ρ[i],List.getElem?_eq_getElem hlt,?_⟩
    rw [k2]
    cases ob <;> (simp [b_.own,aC.own,ff,iK,List.getElem?_eq_getElem hlt] at h ⊢; try exact h)
 refine ⟨⟨fun i=>?_,?_,?_,?_,?_⟩,hown⟩
 ·rw [qi]
  cases hi:aH[i]? with
  | none=>
    intro n
    have:ρ[i]? = none:=List.getElem?_eq_none (by rw [← hl]; exact List.getElem?_eq_none_iff.1 hi)
    simp [iK,this]
  | some ob=>
    have hlt:i<ρ.length:=by rw [← hl]; exact (List.getElem?_eq_some_iff.1 hi).1
    have hρ:=List.getElem?_eq_getElem hlt
    obtain ⟨ob',k1,k2⟩:=ho i _ hρ
    rw [hi] at k1; cases k1
    have dN:=S.rep ρ[i]
    rw [k2] at dN
    have hsub:∀ n,iK ι ρ i n=ι ρ[i] n:=fun n=>by simp [iK,hρ]
    have ZK:dV ρ.length ob=true:=(List.all_eq_true.1 hid) ob (List.mem_of_getElem? hi)
    cases ob with
    | box et cells=>
      obtain ⟨⟨b,C,h1,h2,h3⟩,_⟩:=dN
      refine ⟨⟨b,C,by rw [hsub]; exact h1,h2,?_⟩,trivial⟩
      have h4:bA J w (iK ι ρ) cells C.toList:=bA.rn (k0:=ρ.length) (π:=bu ρ base) (fun o n b ho hb=>by
       have hq:=List.getElem?_eq_getElem ho
       rw [ig hq] at hb
       simp [iK,hq,hb]) cells _ (by simpa [dV] using ZK) h3
      exact bA.mono (fun _ h=>.inl h) (fun _ _=>rfl) (fun _ _ _ h=>h) (fun _ _=>rfl) _ _ h4
    | mp es=>
      obtain ⟨⟨b,C,c,h1,h2,h3⟩,_⟩:=dN
      refine ⟨⟨b,C,c,by rw [hsub]; exact h1,h2,?_⟩,trivial⟩
      have h4:iO J w (iK ι ρ) es C.toList:=iO.rn (k0:=ρ.length) (π:=bu ρ base) (fun o n b ho hb=>by
       have hq:=List.getElem?_eq_getElem ho
       rw [ig hq] at hb
       simp [iK,hq,hb]) es _ (by simpa [dV] using ZK) h3
      exact iO.mono (fun _ h=>.inl h) (fun _ _=>rfl) (fun _ _ _ h=>h) (fun _ _=>rfl) _ _ h4
    | mZ et bs=>
      obtain ⟨⟨h1,h2⟩,hkey⟩:=dN
      refine ⟨⟨fun k rows hk=>?_,fun k k' b=>by rw [hsub,hsub]; exact h2 k k' b⟩,fun n hn=>by rw [hsub]; exact hkey n hn⟩
      obtain ⟨b,C,h3,h4,h5⟩:=h1 k rows hk
      exact ⟨b,C,by rw [hsub]; exact h3,h4,bq.mono (fun _ h=>.inl h) (fun _ _=>rfl) _ _ _ _ rfl h5⟩
    | lr et e v cells=>
      obtain ⟨⟨e1,e2⟩ | ⟨b,C,h1,h2,h0,h3⟩,hkey⟩:=dN
      ·refine ⟨.inl ⟨?_,by rw [hsub]; exact e2⟩,fun n hn=>by rw [hsub]; exact hkey n hn⟩
       have:=tT (bu ρ base) cells
       rw [e1] at this
       exact List.eq_nil_of_length_eq_zero this.symm
      have hl0:(mw (bu ρ base) cells).length=cells.length:=tT _ _
      refine ⟨.inr ⟨b,C,by rw [hsub]; exact h1,h2,by rw [← hl0]; exact h0,?_⟩,fun n hn=>by rw [hsub]; exact hkey n hn⟩
      rw [hl0] at h3
      have h4:bA J w (iK ι ρ) cells (C.toList.take cells.length):=bA.rn (k0:=ρ.length) (π:=bu ρ base) (fun o n b ho hb=>by
       have hq:=List.getElem?_eq_getElem ho
       rw [ig hq] at hb
       simp [iK,hq,hb]) cells _ (by simpa [dV] using ZK) h3
      exact bA.mono (fun _ h=>.inl h) (fun _ _=>rfl) (fun _ _ _ h=>h) (fun _ _=>rfl) _ _ h4
    | dat et e rows=>
      obtain ⟨⟨h1,h2⟩,h3⟩:=dN
      refine ⟨⟨by rw [hsub]; exact h1,fun b hb=>?_⟩,fun n hn=>by rw [hsub]; exact h3 n hn⟩
      rw [hsub] at hb
      obtain ⟨h4,h5⟩:=h2 b hb
      exact ⟨h4,bq.mono (fun _ h=>.inl h) (fun _ _=>rfl) _ _ _ _ rfl h5⟩
    | kK et e rows=>
      obtain ⟨⟨h1,h2⟩,h3⟩:=dN
      refine ⟨⟨by rw [hsub]; exact h1,fun b hb=>?_⟩,trivial⟩
      rw [hsub] at hb
      obtain ⟨h4,h5⟩:=h2 b hb
      exact ⟨.inl h4,bq.mono (fun _ h=>.inl h) (fun _ _=>rfl) _ _ _ _ rfl h5⟩
 ·intro i i' b h h'
  obtain ⟨o,k1,k2⟩:=hown i b h
  obtain ⟨o',Gh,k2'⟩:=hown i' b h'
  have:=S.inj o o' b k2 k2'
  subst this
  have hi:=(List.getElem?_eq_some_iff.1 k1).1
  have hi':=(List.getElem?_eq_some_iff.1 Gh).1
  have e1:=(List.getElem?_eq_some_iff.1 k1).2
  have e2:=(List.getElem?_eq_some_iff.1 Gh).2
  exact vL hn hi hi' (e1.trans e2.symm)
 ·rintro i b h hJ
  obtain ⟨o,k1,k2⟩:=hown i b h
  rcases hJ with hJ | ⟨z,Zn,MV⟩
  ·exact S.oH o b k2 hJ
  ·have:=S.inj o z b k2 MV
   subst this
   exact hz o Zn (List.mem_of_getElem? k1)
 ·rintro b (h | ⟨z,_,h⟩)
  ·exact S.jcell b h
  ·rename_i hz
   exact S.Ry (Ds z hz) h
 ·intro g row hg
  obtain ⟨h1,h2,h3⟩:=S.uI g row hg
  exact ⟨.inl h1,dL.mono (fun _ h=>.inl h) (fun _ _=>rfl) _ _ _ rfl h2,h3⟩
theorem aN.call (S:aF G J w ι obj) {ρ Z:List Nat} {tmp:Bool} {aH aq:List aC} {base:Nat} {r:LV} {v:Value} (hn:ρ.Nodup) (hz:∀ z∈Z,z∉ρ) (hl:aH.length=ρ.length)
  (ho:∀ (i o:Nat),ρ[i]? = some o→∃ ob,aH[i]? = some ob∧obj o=.live (ff (bu ρ base) ob)) (hid:aH.all (dV ρ.length)=true)
  (Ds:∀ z∈Z,ZR tmp (obj z)) (Fk:tmp=true→oU r=true∧aq=[]∧ρ=[]) (hle:aH.length≤aq.length) (hfree:∀ j,j<aq.length-ρ.length→obj (base+j)=.free)
  (hA:aN G (au (aH.map some)) (au (aq.map some)) (fun b=>J b∨Bb ι obj Z b) (iK ι ρ) w r v w') :
  aN G obj (bG obj base { r:=rn (bu ρ base) r,rd:=ρ++Z,wr:=(ρ.zip (aq.map (ff (bu ρ base))))++(if tmp then [] else gh obj Z),nw:=(aq.drop ρ.length).map (ff (bu ρ base)) }) J ι w (rn (bu ρ base) r) v w':=by
 obtain ⟨SF,abq⟩:=S.sub (base:=base) hn hz hl ho hid (fun z hz=>(Ds z hz).up)
 obtain ⟨J2,xK,S2,hr,E2⟩:=hA
 -- names
 generalize hm:aq.length=m at *
 have hkm:ρ.length≤m:=by omega
 have hnew:∀ j,j<m-ρ.length→∀ n,ι (base+j) n=none:=fun j hj=>by
  have:=S.rep (base+j); rw [hfree j hj] at this; exact this
 have Dm:∀ {i o:Nat},ρ[i]? = some o→∃ ob,obj o=.live ob:=fun h=>by obtain ⟨ob,_,k⟩:=ho _ _ h; exact ⟨_,k⟩
 have hinj:∀ i i',i<m→i'<m→bu ρ base i=bu ρ base i'→i=i':=by
  intro i i' hi hi' h
  rcases Nat.lt_or_ge i ρ.length with h1 | h1 <;> rcases Nat.lt_or_ge i' ρ.length with h2 | h2
  ·rw [ig (List.getElem?_eq_getElem h1),ig (List.getElem?_eq_getElem h2)] at h
   exact vL hn h1 h2 h
  ·rw [ig (List.getElem?_eq_getElem h1),k_ h2] at h
   obtain ⟨ob,k⟩:=Dm (List.getElem?_eq_getElem h1)
   rw [h,hfree _ (by omega)] at k; cases k
  ·rw [k_ h1,ig (List.getElem?_eq_getElem h2)] at h
   obtain ⟨ob,k⟩:=Dm (List.getElem?_eq_getElem h2)
   rw [← h,hfree _ (by omega)] at k; cases k
  ·rw [k_ h1,k_ h2] at h; omega
 let idx:Nat→Option Nat:=fun o=>(List.range m).find? (fun i=>bu ρ base i==o)
 have hidx:∀ i,i<m→idx (bu ρ base i)=some i:=by
  intro i hi
  cases hx:idx (bu ρ base i) with
  | none=>
    have:=List.find?_eq_none.1 hx i (by simpa using hi)
    simp at this
  | some i'=>
    have h1:=List.find?_some hx
    have h2:i'<m:=by simpa using List.mem_of_find?_eq_some hx
    simp only [beq_iff_eq] at h1
    rw [hinj i' i h2 hi h1]
 have Pt:∀ o i,idx o=some i→i<m∧bu ρ base i=o:=by
  intro o i hx
  have h1:=List.find?_some hx
  have h2:i<m:=by simpa using List.mem_of_find?_eq_some hx
  exact ⟨h2,by simpa using h1⟩
 let ι':Nat→Nat→Option Nat:=fun o n=>match idx o with | some i=>xK i n | none=>ι o n
 have pz:∀ i n,i<m→ι' (bu ρ base i) n=xK i n:=fun i n hi=>by simp only [ι',hidx i hi]
 have Zm:∀ o n,idx o=none→ι' o n=ι o n:=fun o n h=>by simp only [ι',h]
 have O6:∀ i n,m≤i→xK i n=none:=fun i n hi=>by
  have:=S2.rep i
  rw [qi,List.getElem?_eq_none (by rw [hm]; exact hi)] at this
  exact this n
 have ZJ:∀ o n b,ι o n=some b→ι' o n=some b:=by
  intro o n b hb
  cases hx:idx o with
  | none=>rw [Zm o n hx]; exact hb
  | some i=>
    obtain ⟨hi,hpi⟩:=Pt o i hx
    rw [← hpi,pz i n hi]
    rcases Nat.lt_or_ge i ρ.length with h1 | h1
    ·rw [ig (List.getElem?_eq_getElem h1)] at hpi
     exact E2.ev.gQ i n b (by simp [iK,List.getElem?_eq_getElem h1,hpi,hb])
    ·rw [k_ h1] at hpi
     rw [← hpi,hnew _ (by omega)] at hb; cases hb
 have hun:∀ o n b,xK o n=some b→ι' (bu ρ base o) n=some b:=by
  intro o n b hb
  rcases Nat.lt_or_ge o m with h1 | h1
  ·rw [pz o n h1]; exact hb
  ·rw [O6 o n h1] at hb; cases hb
 let J':Nat→Prop:=fun b=>if tmp=true then J b else J2 b
 have abU:∀ b,J b→J' b:=fun b hb=>by
  simp only [J']; split
  ·exact hb
  ·exact E2.ev.gP b (.inl hb)
 have uC:∀ b,Own (iK ι ρ) (au (aH.map some)) b→∃ o,o∈ρ∧(obj o).own ι o b:=fun b ⟨i,hi⟩=>by
  obtain ⟨o,k1,k2⟩:=abq i b hi
  exact ⟨o,List.mem_of_getElem? k1,k2⟩
 have E:Ev (Own ι obj) J J' ι ι' w w':=by
  refine ⟨E2.ev.os,E2.ev.tape,E2.ev.output,E2.ev.size,fun b hb hno=>E2.ev.same b hb (fun h=>?_),E2.ev.shape,abU,fun b hb=>?_,ZJ⟩
  ·obtain ⟨o,_,k⟩:=uC b h; exact hno ⟨o,k⟩
  ·simp only [J'] at hb
   split at hb
   ·exact .inl hb
   ·rcases E2.ev.vQ b hb with (h | ⟨z,_,h⟩) | h | h
    ·exact .inl h
    ·exact .inr (.inr ⟨z,h⟩)
    ·exact .inr (.inl h)
    ·obtain ⟨o,_,k⟩:=uC b h; exact .inr (.inr ⟨o,k⟩)
 -- what the objects are
 generalize X5:bG obj base { r:=rn (bu ρ base) r,rd:=ρ++Z,wr:=(ρ.zip (aq.map (ff (bu ρ base))))++(if tmp then [] else gh obj Z),nw:=(aq.drop ρ.length).map (ff (bu ρ base)) } = obj'
 have zR:∀ i ob,aq[i]? = some ob→obj' (bu ρ base i)=.live (ff (bu ρ base) ob):=by
  intro i ob hi
  have him:i<m:=by rw [← hm]; exact (List.getElem?_eq_some_iff.1 hi).1
  rw [← X5]
  simp only [bG,uq]
  rcases Nat.lt_or_ge i ρ.length with h1 | h1
  ·have Zl:=List.getElem?_eq_getElem h1
   rw [ig Zl]
   have acE:=((yt ρ (aq.map (ff (bu ρ base))) (cL (if tmp then [] else gh obj Z) obj) ρ[i] hn (by simp; omega)).1 i Zl)
   obtain ⟨ob',k1,k2⟩:=acE
   rw [List.getElem?_map,hi] at k1
   simp only [Option.map_some,Option.some.injEq] at k1
   subst k1
   rw [iI,k2]
   split
   ·rename_i hb
    split
    ·rename_i ob2 acK
     obtain ⟨ob3,k3⟩:=Dm Zl
     have hlt:ρ[i]-base<m-ρ.length:=by
      have:=(List.getElem?_eq_some_iff.1 acK).1
      simp at this; omega
     have:=hfree _ hlt
     rw [show base+(ρ[i]-base)=ρ[i] by omega,k3] at this
     cases this
    ·rfl
   ·rfl
  ·rw [k_ h1,if_pos (by omega)]
   have:base+(i-ρ.length)-base=i-ρ.length:=by omega
   rw [this,List.getElem?_map,List.getElem?_drop,show ρ.length+(i-ρ.length)=i by omega,hi]
   rfl
 have Yc:∀ {o:Nat},o∉ρ→cL ((ρ.zip (aq.map (ff (bu ρ base))))++(if tmp then [] else gh obj Z)) obj o=cL (if tmp then [] else gh obj Z) obj o:=fun h=>by
  rw [iI]
  exact (yt ρ _ _ _ hn (by simp; omega)).2 h
 have HN:∀ o,idx o=none→o∉ρ∧obj' o=cL (if tmp then [] else gh obj Z) obj o:=by
  intro o hx
  have hno:∀ i,i<m→bu ρ base i≠o:=fun i hi h=>by rw [← h,hidx i hi] at hx; cases hx
  have hρ:o∉ρ:=fun h=>by
   obtain ⟨i,hi,he⟩:=List.mem_iff_getElem.1 h
   exact hno i (by omega) (by rw [ig (List.getElem?_eq_getElem hi)]; exact he)
  refine ⟨hρ,?_⟩
  rw [← X5]
  simp only [bG,uq]
  split
  ·rename_i hb
   split
   ·rename_i ob en
    have hlt:=(List.getElem?_eq_some_iff.1 en).1
    simp at hlt
    exact absurd (by rw [k_ (by omega)]; omega) (hno (ρ.length+(o-base)) (by omega))
   ·exact Yc hρ
  ·exact Yc hρ
 -- what is owned
 have hown2:∀ o b,(obj' o).own ι' o b→(∃ i,i<m∧bu ρ base i=o∧(au (aq.map some) i).own xK i b)∨(idx o=none∧obj' o=obj o∧(obj o).own ι o b∧(tmp=false→o∉Z)):=by
  intro o b h
  cases hx:idx o with
  | some i=>
    obtain ⟨hi,hpi⟩:=Pt o i hx
    left
    refine ⟨i,hi,hpi,?_⟩
    have lI:=List.getElem?_eq_getElem (l:=aq) (i:=i) (by omega)
    rw [qi,lI]
    rw [← hpi,zR i _ lI] at h
    have:∀ ob:aC,(b_.live (ff (bu ρ base) ob)).own ι' (bu ρ base i) b→(b_.live ob).own xK i b:=fun ob h=>by
     cases ob <;> (simp [b_.own,aC.own,ff,pz i _ hi] at h ⊢; try exact h)
    exact this _ h
  | none=>
    right
    obtain ⟨hρ,en⟩:=HN o hx
    have hk:∀ n,ι' o n=ι o n:=fun n=>Zm o n hx
    by_cases ht:tmp=true
    ·rw [if_pos ht] at en
     simp only [cL] at en
     rw [en] at h
     exact ⟨rfl,en,(b_.j6 hk).1 h,fun hf=>by rw [ht] at hf; cases hf⟩
    ·rw [if_neg ht] at en
     by_cases hd:o∈Z∧∃ x,FH (obj o)=some x
     ·obtain ⟨hZ,x,hd⟩:=hd
      rw [(jB obj Z obj o).1 hZ x hd] at en
      rw [en] at h
      have:∃ et e rows,x=.kK et e rows:=by
       unfold FH at hd
       split at hd
       ·cases hd; exact ⟨_,_,_,rfl⟩
       ·cases hd; exact ⟨_,_,_,rfl⟩
       ·cases hd
      obtain ⟨_,_,_,rfl⟩:=this
      exact h.elim
     ·have hn:o∈Z→FH (obj o)=none:=fun hZ=>by
       cases hx:FH (obj o) with
       | none=>rfl
       | some x=>exact absurd ⟨hZ,x,hx⟩ hd
      have abx:obj' o=obj o:=by
       rw [en]
       refine (jB obj Z obj o).2 ?_
       rcases Classical.em (o∈Z) with hZ | hZ
       ·exact .inr (hn hZ)
       ·exact .inl hZ
      rw [abx] at h
      refine ⟨rfl,abx,(b_.j6 hk).1 h,fun _ hZ=>?_⟩
      have hf:=hn hZ
      obtain ⟨et,e,rows,hh | hh⟩ | ⟨et,cells,hh⟩ | ⟨h2,_⟩:=Ds o hZ
      ·rw [hh] at hf; cases hf
      ·rw [hh] at h; exact h
      ·rw [hh] at hf; cases hf
      ·exact ht h2
 have hlt:∀ o b,(obj o).own ι o b→b<w.heap.size:=fun o b h=>S.mU ⟨o,h⟩
 have Dr:∀ i b,(au (aq.map some) i).own xK i b→(∃ o,o∈ρ∧(obj o).own ι o b)∨w.heap.size≤b:=fun i b h=>(E2.own b ⟨i,h⟩).imp (uC b) id
 have HD:∀ o,o∈ρ→idx o≠none:=fun o ho' hx=>(HN o hx).1 ho'
 have S':aF G J' w' ι' obj':=by
  refine ⟨fun o=>?_,?_,?_,?_,?_⟩
  ·cases hx:idx o with
   | some i=>
     obtain ⟨hi,hpi⟩:=Pt o i hx
     have lI:=List.getElem?_eq_getElem (l:=aq) (i:=i) (by omega)
     have h2:=S2.rep i
     rw [qi,lI] at h2
     rw [← hpi,zR i _ lI]
     have htf:tmp≠true:=fun ht=>by
      have:=(Fk ht).2.1
      rw [this] at hm; simp at hm; omega
     have Fw:∀ b,J2 b→J' b:=fun b hb=>by simp only [J']; rw [if_neg htf]; exact hb
     generalize aq[i]=ob at h2 ⊢
     cases ob with
     | box et cells=>
       obtain ⟨⟨b,C,h3,h4,h5⟩,_⟩:=h2
       exact ⟨⟨b,C,by rw [pz i 0 hi]; exact h3,h4,bA.mono Fw (fun _ _=>rfl) (fun _ _ _ h=>h) (fun _ _=>rfl) _ _ (bA.pg hun _ _ h5)⟩,trivial⟩
     | mp es=>
       obtain ⟨⟨b,C,c,h3,h4,h5⟩,_⟩:=h2
       exact ⟨⟨b,C,c,by rw [pz i 0 hi]; exact h3,h4,iO.mono Fw (fun _ _=>rfl) (fun _ _ _ h=>h) (fun _ _=>rfl) _ _ (iO.pg hun _ _ h5)⟩,trivial⟩
     | mZ et bs=>
       obtain ⟨⟨h3,h4⟩,hkey⟩:=h2
       refine ⟨⟨fun k rows hk=>?_,fun k k' b=>by rw [pz i k hi,pz i k' hi]; exact h4 k k' b⟩,fun n hn'=>by rw [pz i n hi]; exact hkey n hn'⟩
       obtain ⟨b,C,h5,h6,h7⟩:=h3 k rows hk
       exact ⟨b,C,by rw [pz i k hi]; exact h5,h6,bq.mono Fw (fun _ _=>rfl) _ _ _ _ rfl h7⟩
     | lr et e v cells=>
       obtain ⟨⟨e1,e2⟩ | ⟨b,C,h3,h4,h0,h5⟩,hkey⟩:=h2
       ·subst e1
        exact ⟨.inl ⟨rfl,by rw [pz i v hi]; exact e2⟩,fun n hn'=>by rw [pz i n hi]; exact hkey n hn'⟩
       have h6:=bA.mono Fw (fun _ _=>rfl) (fun _ _ _ h=>h) (fun _ _=>rfl) _ _ (bA.pg hun _ _ h5)
       exact ⟨.inr ⟨b,C,by rw [pz i v hi]; exact h3,h4,by rw [tT]; exact h0,by rw [tT]; exact h6⟩,fun n hn'=>by rw [pz i n hi]; exact hkey n hn'⟩
     | dat et e rows=>
       obtain ⟨⟨h3,h4⟩,h5⟩:=h2
       refine ⟨⟨by rw [pz i _ hi]; exact h3,fun b hb=>?_⟩,fun n hn'=>by rw [pz i n hi]; exact h5 n hn'⟩
       rw [pz i _ hi] at hb
       obtain ⟨h6,h7⟩:=h4 b hb
       exact ⟨h6,bq.mono Fw (fun _ _=>rfl) _ _ _ _ rfl h7⟩
     | kK et e rows=>
       obtain ⟨⟨h3,h4⟩,h5⟩:=h2
       refine ⟨⟨by rw [pz i _ hi]; exact h3,fun b hb=>?_⟩,trivial⟩
       rw [pz i _ hi] at hb
       obtain ⟨h6,h7⟩:=h4 b hb
       exact ⟨Fw b h6,bq.mono Fw (fun _ _=>rfl) _ _ _ _ rfl h7⟩
   | none=>
     obtain ⟨hρ,en⟩:=HN o hx
     have hk:∀ n,ι' o n=ι o n:=fun n=>Zm o n hx
     have hblk:∀ b,(obj o).own ι o b→w'.heap[b]? = w.heap[b]?:=fun b hb=>E2.ev.same b (hlt o b hb) (fun h=>by
      obtain ⟨o',h1,h2⟩:=uC b h
      have:=S.inj o o' b hb h2
      subst this; exact hρ h1)
     have keep:=jg.keep S E hk hblk
     by_cases ht:tmp=true
     ·rw [if_pos ht] at en
      simp only [cL] at en
      rw [en]; exact keep
     ·rw [if_neg ht] at en
      by_cases hZ:o∈Z
      ·obtain ⟨et,e,rows,hd | hd⟩ | ⟨et,cells,hd⟩ | ⟨h,_⟩:=Ds o hZ
       rotate_left 3
       ·exact absurd h ht
       rotate_left 1
       ·rw [(jB obj Z obj o).2 (.inr (by rw [hd]; rfl))] at en
        rw [en]; exact keep
       ·rw [(jB obj Z obj o).1 hZ (.kK et 1 []) (by rw [hd]; rfl)] at en
        rw [en]
        refine ⟨⟨.inl rfl,fun b hb=>⟨?_,trivial⟩⟩,trivial⟩
        simp only [J']; rw [if_neg ht]
        refine E2.ev.gP b (.inr ⟨o,hZ,?_⟩)
        rw [hd]
        rw [hk] at hb; exact hb
       rw [(jB obj Z obj o).1 hZ (.kK et e rows) (by rw [hd]; rfl)] at en
       rw [en]
       rw [hd] at keep
       obtain ⟨⟨h1,h2⟩,_⟩:=keep
       refine ⟨⟨h1,fun b hb=>?_⟩,trivial⟩
       obtain ⟨_,h3⟩:=h2 b hb
       refine ⟨?_,h3⟩
       simp only [J']; rw [if_neg ht]
       refine E2.ev.gP b (.inr ⟨o,hZ,?_⟩)
       rw [hd]
       rw [hk] at hb; exact hb
      ·rw [(jB obj Z obj o).2 (.inl hZ)] at en
       rw [en]; exact keep
  ·intro o o' b h h'
   rcases hown2 o b h with ⟨i,hi,hpi,k⟩ | ⟨hx,_,k,_⟩ <;> rcases hown2 o' b h' with ⟨i',hi',acG,k'⟩ | ⟨hx',_,k',_⟩
   ·rw [← hpi,← acG,S2.inj i i' b k k']
   ·rcases Dr i b k with ⟨o2,h1,h2⟩ | h1
    ·have:=S.inj _ _ _ h2 k'
     subst this
     exact absurd hx' (HD _ h1)
    ·have:=hlt _ _ k'; omega
   ·rcases Dr i' b k' with ⟨o2,h1,h2⟩ | h1
    ·have:=S.inj _ _ _ h2 k
     subst this
     exact absurd hx (HD _ h1)
    ·have:=hlt _ _ k; omega
   ·exact S.inj _ _ _ k k'
  ·intro o b h ZS
   rcases hown2 o b h with ⟨i,hi,hpi,k⟩ | ⟨hx,_,k,hZ⟩
   ·have htf:tmp≠true:=fun ht=>by
     have:=(Fk ht).2.1
     rw [this] at hm; simp at hm; omega
    simp only [J'] at ZS
    rw [if_neg htf] at ZS
    exact S2.oH i b k ZS
   ·simp only [J'] at ZS
    split at ZS
    ·exact S.oH o b k ZS
    ·rename_i htf
     rcases E2.ev.vQ b ZS with (h1 | ⟨z,Zn,MV⟩) | h1 | h1
     ·exact S.oH o b k h1
     ·have:=S.inj _ _ _ k MV
      subst this
      exact hZ (by simpa using htf) Zn
     ·have:=hlt _ _ k; omega
     ·obtain ⟨o2,h3,h4⟩:=uC b h1
      have:=S.inj _ _ _ k h4
      subst this
      exact HD _ h3 hx
  ·intro b hb
   simp only [J'] at hb
   split at hb
   ·rw [S.same E b hb]; exact S.jcell b hb
   ·exact S2.jcell b hb
  ·intro g row hg
   obtain ⟨h1,h2,t,h3⟩:=S.uI g row hg
   exact ⟨abU g h1,h2.ev S E h1,t,by rw [E.shape g (S.BY g h1)]; exact h3⟩
 refine ⟨J',ι',S',?_,E,?_⟩
 ·have h1:=cT.pg hun r v hr
  by_cases ht:tmp=true
  ·have HM:oU (rn (bu ρ base) r)=true:=by
    have:∀ (x:LV),oU x=true→oU (rn (bu ρ base) x)=true:=by
     intro x
     exact (YH (bu ρ base)).1 x
    exact this r (Fk ht).1
   exact cT.oU trivial _ _ HM h1
  ·have:J'=J2:=by funext b; simp only [J']; rw [if_neg ht]
   rw [this]; exact h1
 ·rintro b ⟨o,h⟩
  rcases hown2 o b h with ⟨i,hi,hpi,k⟩ | ⟨hx,_,k,_⟩
  ·rcases Dr i b k with ⟨o2,h1,h2⟩ | h1
   ·exact .inl ⟨o2,h2⟩
   ·exact .inr h1
  ·exact .inl ⟨o,k⟩
end
end Dv
