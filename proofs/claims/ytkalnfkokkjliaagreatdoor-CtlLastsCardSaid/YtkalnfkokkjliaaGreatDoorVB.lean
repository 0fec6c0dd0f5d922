/- part -/
import Derived.Test.YtkalnfkokkjliaaGreatDoorVA
import Derived.Laws.StructEq
set_option linter.all false
set_option maxHeartbeats 1000000
namespace Dv
open Go
inductive ue {α β:Type} (R:α→β→Prop):List α→List β→Prop
 | nil:ue R [] []
 | cons {x y xs ys} : R x y→ue R xs ys→ue R (x::xs) (y::ys)
section
variable {P:Program} {G:Nat→Option (List DV)} {J:Nat→Prop} {w w':World} {ι:Nat→Nat→Option Nat} {obj:Nat→cG} {a:Act} {get:Nat→LV} {base:Nat}
theorem rz (off:Nat):∀ (vs:List Value) (k:Nat) (cells:Array Value),off+k+vs.length≤cells.size→
  ((vs.zipIdx k).foldl (fun cs (p:Value×Nat)=>cs.setIfInBounds (off+p.2) p.1) cells).toList=splice cells.toList (off+k) vs
 | [],k,cells,h=>by simp [splice]
 | v::vs,k,cells,h=>by
   simp only [List.length_cons] at h
   simp only [List.zipIdx_cons,List.foldl_cons]
   rw [rz off vs (k+1) (cells.setIfInBounds (off+k) v) (by simp; omega),Array.toList_setIfInBounds,← Nat.add_assoc,xz _ _ _ _ (by simp; omega)]
theorem tM (S:aJ G J w ι obj) (he:∀ t,dz J w ι (get t) (a.tmps.getD t Go.undef)) (place:Nat→Option (Nat×Nat)) :
  ∀ (parts:List (Nat×Operand)) (ps:List (Nat×Nat×bX)) (Aq lcs:List LV) (cells:Array Value),
    ue (fun (p:Nat×Operand) (q:Nat×Nat×bX)=>place p.1=some (q.1,q.2.1)∧aL p.2=some q.2.2) parts ps→
    bP J w ι Aq cells.toList→sW G get Aq ps=some lcs→
    ∃ cs,Instr.fill place cells (parts.map fun p=>(p.1,a.eval p.2))=some cs∧bP J w ι lcs cs.toList
 | [],_,Aq,lcs,cells,h,hr,hf=>by
   cases h
   simp only [sW] at hf; cases hf
   exact ⟨cells,rfl,hr⟩
 | p::parts,_,Aq,lcs,cells,h,hr,hf=>by
   cases h with
   | cons h1 h2=>
     rename_i q ps
     obtain ⟨hp,hx⟩:=h1
     obtain ⟨off,size,x⟩:=q
     simp only [sW] at hf
     split at hf
     ·rename_i cs hcs
      split at hf
      ·rename_i hle
       have cC:=ot (bg S he hx) hcs
       have hl:=cC.length
       have hcl:=hr.length
       simp only [Array.length_toList] at hl hcl
       have hsz:(a.eval p.2).cells.size=cs.length:=hl.symm
       have hfold:((a.eval p.2).cells.zipIdx.foldl (fun cs (p:Value×Nat)=>cs.setIfInBounds (off+p.2) p.1) cells).toList=splice cells.toList off (a.eval p.2).cells.toList:=by
        have:=rz off (a.eval p.2).cells.toList 0 cells (by simp [hsz]; omega)
        simp only [Nat.add_zero] at this
        rw [← this,← Array.foldl_toList]
        simp
       obtain ⟨cs',k1,k2⟩:=tM S he place parts ps (splice Aq off cs) lcs _ h2 (by rw [hfold]; exact hr.splice off cC) hf
       refine ⟨cs',?_,k2⟩
       simp only [List.map_cons,Instr.fill,hp]
       rw [if_neg (by rw [hsz]; simp; exact ⟨hle.1,by omega⟩)]
       exact k1
      ·cases hf
     ·cases hf
theorem uF {fs:Array Field} : ∀ {parts:List (Nat×Operand)} {ps:List (Nat×Nat×bX)},yN P fs parts=some ps→
  ue (fun (p:Nat×Operand) (q:Nat×Nat×bX)=>(∃ f,fs[p.1]? = some f∧q.1=f.offset∧dX P f.type=some q.2.1)∧aL p.2=some q.2.2) parts ps
 | [],ps,h=>by cases h; exact .nil
 | (i,x)::rest,ps,h=>by
   simp only [yN] at h
   split at h
   ·rename_i f y r h1 h2 h3
    split at h
    ·rename_i n hn
     cases h
     exact .cons ⟨⟨f,h1,rfl,hn⟩,h2⟩ (uF h3)
    ·cases h
   ·cases h
theorem uG {n:Nat} : ∀ {parts:List (Nat×Operand)} {ps:List (Nat×Nat×bX)},yO n parts=some ps→
  ue (fun (p:Nat×Operand) (q:Nat×Nat×bX)=>(some (p.1*n,n)=some (q.1,q.2.1))∧aL p.2=some q.2.2) parts ps
 | [],ps,h=>by cases h; exact .nil
 | (i,x)::rest,ps,h=>by
   simp only [yO] at h
   split at h
   ·rename_i y r h1 h2
    cases h
    exact .cons ⟨rfl,h1⟩ (uG h2)
   ·cases h
theorem xU {α β:Type} {R T:α→β→Prop} (h:∀ a b,R a b→T a b):∀ {xs:List α} {ys:List β},ue R xs ys→ue T xs ys
 | _,_,.nil=>.nil
 | _,_,.cons h1 h2=>.cons (h _ _ h1) (xU h h2)
theorem qE:∀ (fs:List Field) (w:World),(fs.all fun f=>(dX P f.type).isSome)=true→
  (fs.mapM (fun f=>do pure (f.offset,← sizeOf f.type):Field→Sem (Nat×Nat))).run P w=.ok (fs.map fun f=>(f.offset,(dX P f.type).getD 0)) w
 | [],w,_=>rfl
 | f::fs,w,h=>by
   simp only [List.all_cons,Bool.and_eq_true] at h
   obtain ⟨n,hn⟩:=Option.isSome_iff_exists.1 h.1
   obtain ⟨i,hi,hs⟩:=cw hn
   have ih:=qE fs w h.2
   have hsz:(Go.sizeOf f.type).run P w=.ok n w:=by simp [Go.sizeOf,typeInfo,hi,hs]
   simp only [List.mapM_cons,Sem.run_bind,hsz,Sem.run_pure,Result.andThen_ok,List.map_cons,hn,Option.getD_some]
   rw [ih]
   rfl
theorem yj (fs:Array Field) (w:World) (h:GA P fs=true) :
  (fs.mapM (fun f=>do pure (f.offset,← sizeOf f.type):Field→Sem (Nat×Nat))).run P w=.ok (fs.map fun f=>(f.offset,(dX P f.type).getD 0)) w:=by
 rw [Array.mapM_eq_mapM_toList,Sem.run_map,qE fs.toList w h]
 simp only [Result.andThen_ok]
 congr 1
 apply Array.ext'
 simp
theorem GP (S:aJ G J w ι obj) (he:∀ t,dz J w ι (get t) (a.tmps.getD t Go.undef)) {T:TypeId} {parts:Array (Nat×Operand)} {zero:List DV} {ps:List (Nat×Nat×bX)} {cs:List LV}
  (hc:cT P (.build T parts)=some (.build zero ps)) (hf:sW G get (zero.map .d) ps=some cs) :
  ∃ v,(Instr.build T (parts.map fun (i,x)=>(i,a.eval x))).run P w=.ok v w∧dz J w ι (.agg cs) v:=by
 simp only [cT] at hc
 have Ql:(parts.map fun (i,x)=>(i,a.eval x)).toList=parts.toList.map fun p=>(p.1,a.eval p.2):=by simp
 split at hc
 ·rename_i z fs hz hu
  split at hc
  ·rename_i hok
   split at hc
   ·rename_i ps' hps
    cases hc
    obtain ⟨v,hv,gm⟩:=vS (J:=J) (w:=w) (ι:=ι) hz
    obtain ⟨cs',k1,k2⟩:=tM S he (fun i=>(fs.map fun f=>(f.offset,(dX P f.type).getD 0))[i]?) parts.toList ps (zero.map .d) cs v.cells
     (xU (fun p q h=>by
      obtain ⟨⟨f,h1,h2,h3⟩,h4⟩:=h
      exact ⟨by simp [h1,h2,h3],h4⟩) (uF hps)) gm hf
    refine ⟨.agg cs',?_,cs',rfl,k2⟩
    simp only [Instr.build,Sem.run_bind,hv,Result.andThen_ok,run_underlying hu w,Sem.run_map,yj fs w hok,Ql,Sem.run_pure]
    simp only [k1,Sem.run_pure]
   ·cases hc
  ·cases hc
 ·rename_i z e hz hu
  split at hc
  ·rename_i n hn
   split at hc
   ·rename_i ps' hps
    cases hc
    obtain ⟨v,hv,gm⟩:=vS (J:=J) (w:=w) (ι:=ι) hz
    obtain ⟨i,hi,hs⟩:=cw hn
    obtain ⟨cs',k1,k2⟩:=tM S he (fun i=>some (i*n,n)) parts.toList ps (zero.map .d) cs v.cells (uG hps) gm hf
    refine ⟨.agg cs',?_,cs',rfl,k2⟩
    simp only [Instr.build,Sem.run_bind,hv,Result.andThen_ok,run_underlying hu w,Go.sizeOf,typeInfo,run_program,hi,hs,Sem.run_pure,Ql]
    simp only [k1,Sem.run_pure]
   ·cases hc
  ·cases hc
 ·cases hc
end
end Dv
namespace Dv
open Go
section
variable {P:Program} {G:Nat→Option (List DV)} {J:Nat→Prop} {w w':World} {ι:Nat→Nat→Option Nat} {obj:Nat→cG} {a:Act} {get:Nat→LV} {base:Nat}
theorem Rw {op:BinOp} {x y v:Value} (h:Wd op x y=some v) (T:TypeId) (X Y:Operand) (w:World):(do eqGuard op T X Y x y; Go.binOp op T x y).run P w=.ok v w:=by
 cases x <;> cases y <;> simp only [Wd] at h <;> (try (cases h; done))
 ·rename_i k a k' b
  cases op <;> simp only [] at h <;> (split at h <;> first | (cases h; done) | skip) <;> cases h <;>
   rename_i hc <;> first
    | (subst hc; simp [eqGuard,Go.binOp,Op.intArith,Op.intBits,Op.intCmp,rH,Cs,yh,gF]; done)
    | (obtain ⟨rfl,hb⟩:=hc; simp [eqGuard,Go.binOp,Op.intDiv,hb]; done)
    | (have hn:¬ b<0:=by omega
       simp [eqGuard,Go.binOp,Op.shift,hn,DC,v8]; done)
    | (have hn:¬ b<0:=by omega
       simp only [eqGuard,Go.binOp,Op.shift,Sem.run_bind,hn,DC,v8]; rfl)
 ·rename_i a b
  cases op <;> simp only [] at h <;> (try (cases h; done)) <;> (try (split at h)) <;> (try (cases h; done)) <;> cases h <;> first
   | (simp [eqGuard,Go.binOp,Op.stringOp]; done)
   | (rename_i hc
      have hm:¬ (((a.size+b.size:Nat):Int)>IntKind.i64.max):=by
       have:IntKind.i64.max=9223372036854775807:=by decide
       rw [this]; omega
      simp only [eqGuard,Go.binOp,Op.stringOp,if_neg hm,Sem.run_bind]
      simp)
theorem Fs {T:TypeId} (h:P.underlying T=some .bool) (x y:Bool) (w:World):(Op.equal T (.bool x) (.bool y)).run P w=.ok (x==y) w:=by
 have:Op.equal T (.bool x) (.bool y)=Op.equalIn (9999+1) T (.bool x) (.bool y):=rfl
 rw [this,Op.equalIn,Sem.run_bind,run_underlying h w]
 rfl
def iZ:BinOp→Bool
 | .neq=>true
 | _=>false
theorem VR {op:BinOp} (ho:op=.eql∨op=.neq) {T:TypeId} (h:P.underlying T=some .bool) (X Y:Operand) (x y:Bool) (w:World) :
  (do eqGuard op T X Y (.bool x) (.bool y); Go.binOp op T (.bool x) (.bool y)).run P w=.ok (.bool (bif iZ op then !(x==y) else x==y)) w:=by
 rcases ho with rfl | rfl <;> simp [eqGuard,Go.binOp,Fs h,iZ]
theorem R_ {op:BinOp} (ho:op=.eql∨op=.neq) {T e:TypeId} (h:P.underlying T=some (.pointer e)) (X Y:Operand) (x:Option Addr) (w:World) :
  (do eqGuard op T X Y (.pointer x) (.pointer none); Go.binOp op T (.pointer x) (.pointer none)).run P w=.ok (.bool (bif iZ op then !x.isNone else x.isNone)) w:=by
 have hq:(Op.equal T (.pointer x) (.pointer none)).run P w=.ok x.isNone w:=by
  have:Op.equal T (.pointer x) (.pointer none)=Op.equalIn (9999+1) T (.pointer x) (.pointer none):=rfl
  rw [this,Op.equalIn,Sem.run_bind,run_underlying h w]
  cases x <;> rfl
 rcases ho with rfl | rfl <;> simp [eqGuard,Go.binOp,hq,iZ]
theorem R9 {op:BinOp} (ho:op=.eql∨op=.neq) {T e:TypeId} (h:P.underlying T=some (.slice e)) (X Y:Operand) (x:Option Addr) (n c:Nat) (w:World) :
  (do eqGuard op T X Y (.slice x n c) (.slice none 0 0); Go.binOp op T (.slice x n c) (.slice none 0 0)).run P w=.ok (.bool (bif iZ op then !x.isNone else x.isNone)) w:=by
 have hq:(Op.equal T (.slice x n c) (.slice none 0 0)).run P w=.ok x.isNone w:=by
  have:Op.equal T (.slice x n c) (.slice none 0 0)=Op.equalIn (9999+1) T (.slice x n c) (.slice none 0 0):=rfl
  rw [this,Op.equalIn,Sem.run_bind,run_underlying h w]
  cases x <;> rfl
 rcases ho with rfl | rfl <;> simp [eqGuard,Go.binOp,hq,iZ]
theorem rA {k:Nat} {ks:List Nat} {l m:List LV} {b:Bool} (h:er (k::ks) l m=some b) :
  ∃ va vb p q xs ys,l=.d (.val va)::xs∧m=.d (.val vb)::ys∧Ho k va vb=some p∧er ks xs ys=some q∧b=(p&&q):=by
 cases l with
 | nil=>cases m <;> simp [er] at h
 | cons x xs=>
   cases x with
   | d x=>
     cases x with
     | val va=>
       cases m with
       | nil=>simp [er] at h
       | cons y ys=>
         cases y with
         | d y=>
           cases y with
           | val vb=>
             simp only [er] at h
             split at h
             ·rename_i p q h3 h4
              exact ⟨va,vb,p,q,xs,ys,rfl,rfl,h3,h4,(Option.some.inj h).symm⟩
             ·cases h
           | _=>simp [er] at h
         | _=>simp [er] at h
     | _=>cases m <;> simp [er] at h
   | _=>cases m <;> simp [er] at h
theorem uy (d:Nat) {xs ys:Array Value} {ls ms:List LV} (hx:bP J w ι ls xs.toList) (hy:bP J w ι ms ys.toList):∀ (fs:List Field) (i:Nat) (ks:List Nat) (b:Bool),Ar P i fs=some ks→er ks (ls.drop i) (ms.drop i)=some b→
  (Op.eqFields (d+1) xs ys fs).run P w=.ok b w
 | [],i,ks,b,hk,he=>by
   simp only [Ar] at hk; cases hk
   simp only [Op.eqFields]
   generalize ls.drop i=l at he
   generalize ms.drop i=m at he
   cases l <;> cases m <;> simp only [er] at he <;> first | (cases he; rfl) | (cases he)
 | f::fs,i,ks,b,hk,he=>by
   simp only [Ar] at hk
   split at hk
   ·rename_i k ks' h1 h2
    split at hk
    ·rename_i hc
     cases hk
     obtain ⟨hoff,hname⟩:=hc
     have hdx:=hx.drop i
     have hdy:=hy.drop i
     generalize hl:ls.drop i=l at he hdx
     generalize hm:ms.drop i=m at he hdy
     have:=rA he
     obtain ⟨va,vb,p,q,xs',ys',rfl,rfl,h3,h4,rfl⟩:=this
     have Gf:ls[i]? = some (.d (.val va)):=by
      have:(ls.drop i)[0]? = some (.d (.val va)):=by rw [hl]; rfl
      simpa using this
     have Qr:ms[i]? = some (.d (.val vb)):=by
      have:(ms.drop i)[0]? = some (.d (.val vb)):=by rw [hm]; rfl
      simpa using this
     obtain ⟨ua,hua,_,Vf⟩:=hx.get Gf
     obtain ⟨ub,hub,_,hrb⟩:=hy.get Qr
     have aal:ua=va:=Vf
     have aak:ub=vb:=hrb
     subst aal; subst aak
     have Vd:xs[i]? = some ua:=by simpa using hua
     have hyi:ys[i]? = some ub:=by simpa using hub
     have qY:=uy d hx hy fs (i+1) ks' q h2 (by
      rw [← List.drop_drop,← List.drop_drop,hl,hm]; exact h4)
     have xG:∀ {v:Value} {cs:Array Value},oz P f.type=some false→cs[i]? = some v→(part f.type cs f.offset).run P w=.ok v w:=fun ha hv=>by
      rw [hoff]; simp [part,mI ha,hv]
     simp only [Op.eqFields]
     rw [if_pos hname]
     have Qv:oz P f.type=some false∧(Op.equalIn (d+1) f.type ua ub).run P w=.ok p w:=by
      unfold As at h1
      split at h1
      ·rename_i k' hu
       cases h1
       refine ⟨by simp [oz,hu],?_⟩
       clear he hl hm hdx hdy Gf Qr Vf hrb Vd hyi hua hub qY xG
       cases ua <;> cases ub <;> first | (simp [Ho] at h3; done) | skip
       simp only [Ho] at h3
       split at h3
       ·rename_i hk; subst hk; cases h3
        exact run_equalIn_int w d f.type _ k' _ _ hu
       ·cases h3
      ·rename_i hu
       cases h1
       refine ⟨by simp [oz,hu],?_⟩
       clear he hl hm hdx hdy Gf Qr Vf hrb Vd hyi hua hub qY xG
       cases ua <;> cases ub <;> first | (simp [Ho] at h3; done) | skip
       simp only [Ho] at h3
       cases h3
       exact run_equalIn_bool' w d f.type _ _ hu
      ·rename_i hu
       cases h1
       refine ⟨by simp [oz,hu],?_⟩
       clear he hl hm hdx hdy Gf Qr Vf hrb Vd hyi hua hub qY xG
       cases ua <;> cases ub <;> first | (simp [Ho] at h3; done) | skip
       simp only [Ho] at h3
       cases h3
       exact run_equalIn_string w d f.type _ _ hu
      ·cases h1
     simp only [Sem.run_bind,xG Qv.1 Vd,xG Qv.1 hyi,Result.andThen_ok,Qv.2]
     cases p
     ·simp
     ·simp only [Bool.not_true,Bool.false_eq_true,if_false,Bool.true_and]; exact qY
    ·cases hk
   ·cases hk
theorem Mp {t:TypeId} {k:Nat} (h:As P t=some k):oz P t=some false:=by
 unfold As at h
 split at h <;> first | (cases h; done) | simp [oz, *]
theorem SR {t:TypeId} {k:Nat} (d:Nat) {ua ub:Value} {p:Bool} (h:As P t=some k) (h3:Ho k ua ub=some p):(Op.equalIn (d+1) t ua ub).run P w=.ok p w:=by
 unfold As at h
 split at h
 ·rename_i k' hu
  cases h
  cases ua <;> cases ub <;> first | (simp [Ho] at h3; done) | skip
  simp only [Ho] at h3
  split at h3
  ·rename_i hk; subst hk; cases h3
   exact run_equalIn_int w d t _ k' _ _ hu
  ·cases h3
 ·rename_i hu
  cases h
  cases ua <;> cases ub <;> first | (simp [Ho] at h3; done) | skip
  simp only [Ho] at h3
  cases h3
  exact run_equalIn_bool' w d t _ _ hu
 ·rename_i hu
  cases h
  cases ua <;> cases ub <;> first | (simp [Ho] at h3; done) | skip
  simp only [Ho] at h3
  cases h3
  exact run_equalIn_string w d t _ _ hu
 ·cases h
theorem xX:∀ (ks ks2:List Nat) (l m:List LV) (b:Bool),er (ks++ks2) l m=some b→∃ p q,er ks (l.take ks.length) (m.take ks.length)=some p∧er ks2 (l.drop ks.length) (m.drop ks.length)=some q∧b=(p&&q)
 | [],ks2,l,m,b,h=>⟨true,b,by simp [er],by simpa using h,by simp⟩
 | k::ks,ks2,l,m,b,h=>by
   rw [List.cons_append] at h
   obtain ⟨va,vb,p,q,xs,ys,rfl,rfl,h3,h4,rfl⟩:=rA h
   obtain ⟨p2,q2,h5,h6,rfl⟩:=xX ks ks2 xs ys q h4
   refine ⟨p&&p2,q2,?_,by simpa using h6,by rw [Bool.and_assoc]⟩
   simp only [List.length_cons,List.take_succ_cons,er,h3,h5]
theorem nE {xs ys:Array Value} {ls ms:List LV} (hx:bP J w ι ls xs.toList) (hy:bP J w ι ms ys.toList):∀ (fs:List Field) (i:Nat) (ks:List Nat) (b:Bool),wD P i fs=some ks→er ks (ls.drop i) (ms.drop i)=some b→
  (Op.eqFields 9999 xs ys fs).run P w=.ok b w
 | [],i,ks,b,hk,he=>by
   simp only [wD] at hk; cases hk
   simp only [Op.eqFields]
   generalize ls.drop i=l at he
   generalize ms.drop i=m at he
   cases l <;> cases m <;> simp only [er] at he <;> first | (cases he; rfl) | (cases he)
 | f::fs,i,ks,b,hk,he=>by
   simp only [wD] at hk
   split at hk
   ·rename_i hc
    obtain ⟨hoff,hname⟩:=hc
    split at hk
    ·rename_i k h1
     split at hk
     ·rename_i ks' h2
      cases hk
      have hdx:=hx.drop i
      have hdy:=hy.drop i
      generalize hl:ls.drop i=l at he hdx
      generalize hm:ms.drop i=m at he hdy
      have:=rA he
      obtain ⟨va,vb,p,q,xs',ys',rfl,rfl,h3,h4,rfl⟩:=this
      have Gf:ls[i]? = some (.d (.val va)):=by
       have:(ls.drop i)[0]? = some (.d (.val va)):=by rw [hl]; rfl
       simpa using this
      have Qr:ms[i]? = some (.d (.val vb)):=by
       have:(ms.drop i)[0]? = some (.d (.val vb)):=by rw [hm]; rfl
       simpa using this
      obtain ⟨ua,hua,_,Vf⟩:=hx.get Gf
      obtain ⟨ub,hub,_,hrb⟩:=hy.get Qr
      have aal:ua=va:=Vf
      have aak:ub=vb:=hrb
      subst aal; subst aak
      have Vd:xs[i]? = some ua:=by simpa using hua
      have hyi:ys[i]? = some ub:=by simpa using hub
      have qY:=nE hx hy fs (i+1) ks' q h2 (by
       rw [← List.drop_drop,← List.drop_drop,hl,hm]; exact h4)
      have xG:∀ {v:Value} {cs:Array Value},cs[i]? = some v→(part f.type cs f.offset).run P w=.ok v w:=fun hv=>by
       rw [hoff]; simp [part,mI (Mp h1),hv]
      simp only [Op.eqFields]
      rw [if_pos hname]
      simp only [Sem.run_bind,xG Vd,xG hyi,Result.andThen_ok,SR (w:=w) 9998 h1 h3]
      cases p
      ·simp
      ·simp only [Bool.not_true,Bool.false_eq_true,if_false,Bool.true_and]; exact qY
     ·cases hk
    ·split at hk
     ·rename_i gs hu
      split at hk
      ·rename_i NO h1
       split at hk
       ·rename_i oe
        obtain ⟨g1,g2,g3⟩:=oe
        split at hk
        ·rename_i ks' h2
         cases hk
         obtain ⟨p,q,e1,e2,rfl⟩:=xX NO ks' _ _ _ he
         have qY:=nE hx hy fs (i+NO.length) ks' q h2 (by rw [← List.drop_drop,← List.drop_drop]; exact e2)
         have abf:∀ {cs:Array Value},(part f.type cs f.offset).run P w=.ok (.agg (cs.extract i (i+NO.length))) w:=fun {cs}=>by
          obtain ⟨ti,hi,hn⟩:=cw g2
          rw [hoff]
          simp [part,mI g3,Go.sizeOf,typeInfo,hi,hn]
         have aco:∀ {cs:Array Value},(cs.extract i (i+NO.length)).toList=(cs.toList.drop i).take NO.length:=fun {cs}=>by simp [List.take_drop]
         have hxn:bP J w ι ((ls.drop i).take NO.length) (xs.extract i (i+NO.length)).toList:=by rw [aco]; exact (hx.drop i).take _
         have hyn:bP J w ι ((ms.drop i).take NO.length) (ys.extract i (i+NO.length)).toList:=by rw [aco]; exact (hy.drop i).take _
         have hfo:P.underlying f.type=some (.struct (P.fieldsOf f.type)):=by simp [Program.fieldsOf,hu]
         have hff:P.fieldsOf f.type=gs:=by simp [Program.fieldsOf,hu]
         have heq:(Op.equalIn 9999 f.type (.agg (xs.extract i (i+NO.length))) (.agg (ys.extract i (i+NO.length)))).run P w=.ok p w:=by
          rw [show (9999:Nat)=9998+1 from rfl,run_equalIn_struct w 9998 f.type _ _ hfo g1,hff]
          exact uy 9997 hxn hyn gs.toList 0 NO p h1 (by simpa using e1)
         simp only [Op.eqFields]
         rw [if_pos hname]
         simp only [Sem.run_bind,abf,Result.andThen_ok,heq]
         cases p
         ·simp
         ·simp only [Bool.not_true,Bool.false_eq_true,if_false,Bool.true_and]; exact qY
        ·cases hk
       ·cases hk
      ·cases hk
     ·cases hk
   ·cases hk
theorem Sa {op:BinOp} (ho:op=.eql∨op=.neq) {T:TypeId} {ks:List Nat} (h:eqT P T=some ks) (X Y:Operand) {xs ys:Array Value} {ls ms:List LV} (hx:bP J w ι ls xs.toList) (hy:bP J w ι ms ys.toList) {b:Bool} (he:er ks ls ms=some b) :
  (do eqGuard op T X Y (.agg xs) (.agg ys); Go.binOp op T (.agg xs) (.agg ys)).run P w=.ok (.bool (bif iZ op then !b else b)) w:=by
 unfold eqT at h
 split at h
 ·rename_i fs hu
  split at h
  ·rename_i hc
   have hfo:P.underlying T=some (.struct (P.fieldsOf T)):=by simp [Program.fieldsOf,hu]
   have hff:P.fieldsOf T=fs:=by simp [Program.fieldsOf,hu]
   have heq:(Op.equalIn 10000 T (.agg xs) (.agg ys)).run P w=.ok b w:=by
    rw [show (10000:Nat)=9999+1 from rfl,run_equalIn_struct w 9999 T xs ys hfo hc.1,hff]
    exact nE hx hy fs.toList 0 ks b h (by simpa using he)
   have hg:=run_eqGuard_agg (P:=P) w op T X Y xs ys hc.2
   rcases ho with rfl | rfl
   ·rw [Sem.run_bind,hg]; simp only [Result.andThen_ok,run_eql_struct,heq]; rfl
   ·rw [Sem.run_bind,hg]; simp only [Result.andThen_ok,run_neq_struct,heq]; rfl
  ·cases h
 ·cases h
theorem gY {v:Value} {y:Nat} {code:BoundsCode} {k:IntKind} {i:Int} (hv:v=.int k i) (h0:0≤i) (hl:i.toNat≤y) (w:World):(Instr.sliceBound v y code).run P w=.ok i.toNat w:=by
 subst hv
 have:0≤i∧i≤(y:Int):=⟨h0,by omega⟩
 simp [Instr.sliceBound,asIntOf,this]
def BV (o:Option Value) (d v:Nat):Prop:=(o=none∧v=d)∨∃ k i,o=some (.int k i)∧0≤i∧v=i.toNat
theorem kG {b:Bool} {len cap l h m:Nat} {lo hi mx:Option Value} (h1:BV lo 0 l) (h2:BV hi len h) (h3:BV mx len m) (k1:l≤h) (k2:h≤m) (k3:m≤len) (k4:len≤cap) (hm:mx=none∨hi.isSome=true) (w:World) :
  ∃ m',m≤m'∧m'≤cap∧(Instr.sliceBounds b len cap lo hi mx).run P w=.ok (l,h,m') w:=by
 rcases h3 with ⟨rfl,rfl⟩ | ⟨k3',i3,rfl,q3,rfl⟩
 ·refine ⟨cap,k4,Nat.le_refl _,?_⟩
  rcases h2 with ⟨rfl,rfl⟩ | ⟨k2',i2,rfl,q2,rfl⟩ <;> rcases h1 with ⟨rfl,rfl⟩ | ⟨Hh,i1,rfl,q1,rfl⟩
  ·simp [Instr.sliceBounds]
  ·simp [Instr.sliceBounds,gY (P:=P) rfl q1 (y:=h) (by omega) w]
  ·simp [Instr.sliceBounds,gY (P:=P) rfl q2 (y:=cap) (by omega) w]
  ·simp [Instr.sliceBounds,gY (P:=P) rfl q2 (y:=cap) (by omega) w,gY (P:=P) rfl q1 (y:=i2.toNat) (by omega) w]
 ·refine ⟨i3.toNat,Nat.le_refl _,by omega,?_⟩
  rcases h2 with ⟨rfl,rfl⟩ | ⟨k2',i2,rfl,q2,rfl⟩
  ·rcases hm with hm | hm <;> cases hm
  ·rcases h1 with ⟨rfl,rfl⟩ | ⟨Hh,i1,rfl,q1,rfl⟩
   ·simp [Instr.sliceBounds,gY (P:=P) rfl q3 (y:=cap) (by omega) w,gY (P:=P) rfl q2 (y:=i3.toNat) (by omega) w]
   ·simp [Instr.sliceBounds,gY (P:=P) rfl q3 (y:=cap) (by omega) w,gY (P:=P) rfl q2 (y:=i3.toNat) (by omega) w,gY (P:=P) rfl q1 (y:=i2.toNat) (by omega) w]
theorem yH {T e:TypeId} {n:Nat} (hu:P.underlying T=some (.slice e)) (hs:dX P e=some n) {sa:Option Addr} {len cap l h m:Nat} {lo hi mx:Option Value} (h1:BV lo 0 l) (h2:BV hi len h) (h3:BV mx len m) (k1:l≤h) (k2:h≤m) (k3:m≤len) (k4:len≤cap)
  (hm:mx=none∨hi.isSome=true) (w:World) :
  ∃ m',m≤m'∧m'≤cap∧(Instr.sliceAt T (.slice sa len cap) lo hi mx).run P w=.ok (.slice (if m'=l then sa else sa.map (·.add (l*n))) (h-l) (m'-l)) w:=by
 obtain ⟨i,hi',hn⟩:=cw hs
 obtain ⟨m',p1,p2,hrun⟩:=kG (P:=P) (b:=true) h1 h2 h3 k1 k2 k3 k4 hm w
 refine ⟨m',p1,p2,?_⟩
 have hsz:(Go.sizeOf e).run P w=.ok n w:=by simp [Go.sizeOf,typeInfo,hi',hn]
 simp only [Instr.sliceAt,Instr.slice,Sem.run_bind,run_underlying hu w,Result.andThen_ok,hrun,hsz,Sem.run_pure]
theorem R6 {T:TypeId} (hu:P.underlying T=some .string) {s:ByteArray} {l h:Nat} {lo hi:Option Value} (h1:BV lo 0 l) (h2:BV hi s.size h) (k1:l≤h) (k2:h≤s.size) (w:World) :
  (Instr.sliceAt T (.string s) lo hi none).run P w=.ok (.string (s.extract l h)) w:=by
 obtain ⟨m',_,_,hrun⟩:=kG (P:=P) (b:=false) (mx:=none) (cap:=s.size) h1 h2 (.inl ⟨rfl,rfl⟩) k1 k2 (Nat.le_refl _) (Nat.le_refl _) (.inl rfl) w
 simp only [Instr.sliceAt,Instr.slice,Sem.run_bind,run_underlying hu w,Result.andThen_ok]
 simp [hrun]
theorem kS (S:aJ G J w ι obj) (he:∀ t,dz J w ι (get t) (a.tmps.getD t Go.undef)) {o:Option Operand} {o':Option bX} {d v:Nat} (ho:fK o=some o') (hb:gN d (o'.map (·.ev G get))=some v):BV (o.map a.eval) d v:=by
 cases o with
 | none=>simp only [fK] at ho; cases ho; simp only [Option.map_none,gN] at hb; exact .inl ⟨rfl,(Option.some.inj hb).symm⟩
 | some X=>
   simp only [fK] at ho
   split at ho
   ·rename_i y hy
    cases ho
    have hr:=bg S he hy
    simp only [Option.map_some] at hb
    unfold gN at hb
    split at hb
    ·rename_i hq; cases hq
    ·rename_i k i hq
     rw [Option.some.inj hq] at hr
     have hX:a.eval X=.int k i:=hr
     split at hb
     ·rename_i h0
      exact .inr ⟨k,i,by simp [hX],h0,(Option.some.inj hb).symm⟩
     ·cases hb
    ·cases hb
   ·cases ho
theorem LG (S:aJ G J w ι obj) (he:∀ t,dz J w ι (get t) (a.tmps.getD t Go.undef)) {X:Operand} {x:bX} (hx:aL X=some x) {lo hi mx:Option Operand} {lo' hi' mx':Option bX} (hl:fK lo=some lo') (hh:fK hi=some hi') (hm:fK mx=some mx')
  (hmh:(mx.isNone||hi.isSome)=true) {T el:TypeId} {n:Nat} (hu:P.underlying T=some (.slice el)) (hs:dX P el=some n) {e:fC} (hE:cO G get obj base (.sli n x lo' hi' mx')=some e) :
  ∃ v,(Instr.sliceAt T (a.eval X) (lo.map a.eval) (hi.map a.eval) (mx.map a.eval)).run P w=.ok v w∧dz J w ι e.r v∧e.nw=[]∧e.wr=[]:=by
 have cC:=bg S he hx
 have Vi:mx.map a.eval=none∨(hi.map a.eval).isSome=true:=by
  cases mx with
  | none=>exact .inl rfl
  | some _=>right; cases hi <;> simp at hmh ⊢
 simp only [cO] at hE
 split at hE
 ·rename_i e' rows eo
  rw [eo] at cC
  split at hE
  ·rename_i l h m b1 b2 b3
   split at hE
   ·rename_i hc
    obtain ⟨rfl,k1,k2,k3⟩:=hc
    cases hE
    obtain ⟨sa,len,cap,hv,hlen,hcap,hr⟩:=cC
    subst hlen
    obtain ⟨m',p1,p2,hrun⟩:=yH (P:=P) hu hs (sa:=sa) (kS S he hl b1) (kS S he hh b2) (kS S he hm b3) k1 k2 k3 hcap Vi w
    refine ⟨_,by rw [hv]; exact hrun,⟨_,h-l,m'-l,rfl,by simp; omega,by omega,?_⟩,rfl,rfl⟩
    by_cases hz:h=l
    ·left; simp [hz]
    ·right
     rcases hr with hr | ⟨b,off,rfl,hJ,hr⟩
     ·rw [hr] at k3; simp at k3; omega
     ·refine ⟨b,off+l*e',?_,hJ,(hr.drop l).take _⟩
      rw [if_neg (by omega)]
      simp [Addr.add_mid]
   ·cases hE
  ·cases hE
 ·rename_i o on e' slo len eo
  rw [eo] at cC
  split at hE
  ·rename_i l h m b1 b2 b3
   split at hE
   ·rename_i hc
    obtain ⟨rfl,k1,k2,k3⟩:=hc
    cases hE
    rcases cC with ⟨hz,sa,hv⟩ | ⟨b,cap,et,C,hb,hv,hcap,hsh,hC⟩
    ·subst hz
     obtain ⟨m',p1,p2,hrun⟩:=yH (P:=P) hu hs (sa:=sa) (cap:=0) (kS S he hl b1) (kS S he hh b2) (kS S he hm b3) k1 k2 k3 (Nat.le_refl _) Vi w
     rw [show h-l=0 by omega,show m'-l=0 by omega] at hrun
     exact ⟨_,by rw [hv]; exact hrun,.inl ⟨by omega,_,rfl⟩,rfl,rfl⟩
    ·obtain ⟨m',p1,p2,hrun⟩:=yH (P:=P) hu hs (sa:=some ⟨b,slo*e',none⟩) (kS S he hl b1) (kS S he hh b2) (kS S he hm b3) k1 k2 k3 hcap Vi w
     refine ⟨_,by rw [hv]; exact hrun,?_,rfl,rfl⟩
     by_cases hz:m'=l
     ·left
      rw [show h-l=0 by omega,show m'-l=0 by omega]
      exact ⟨rfl,_,rfl⟩
     ·right
      refine ⟨b,m'-l,et,C,hb,?_,by omega,hsh,?_⟩
      ·rw [if_neg hz]
       simp [Addr.add_mid,Nat.add_mul]
      ·refine Nat.le_trans (Nat.mul_le_mul_right _ ?_) hC
       omega
   ·cases hE
  ·cases hE
 ·rename_i eo
  rw [eo] at cC
  have hv:a.eval X=.slice none 0 0:=cC
  split at hE
  ·rename_i l h m b1 b2 b3
   split at hE
   ·rename_i hc
    obtain ⟨k1,k2,k3⟩:=hc
    cases hE
    obtain ⟨m',p1,p2,hrun⟩:=yH (P:=P) hu hs (sa:=none) (len:=0) (cap:=0) (kS S he hl b1) (kS S he hh b2) (kS S he hm b3) k1 k2 k3 (Nat.le_refl _) Vi w
    refine ⟨_,by rw [hv]; exact hrun,?_,rfl,rfl⟩
    show _=_
    rw [show h-l=0 by omega,show m'-l=0 by omega]
    split <;> rfl
   ·cases hE
  ·cases hE
 ·cases hE
theorem qG {T:TypeId} {fs:Array Field} {f:Field} {k n:Nat} (hu:P.underlying T=some (.struct fs)) (hf:fs[k]? = some f) (hs:dX P f.type=some (n+1)) (b o:Nat) (w:World) :
  (Instr.fieldAt T (.pointer (some ⟨b,o,none⟩)) k).run P w=.ok (.pointer (some ⟨b,o+f.offset,none⟩)) w:=by
 obtain ⟨i,hi,hn⟩:=cw hs
 have hz:(Go.sizeOf f.type).run P w=.ok (n+1) w:=by simp [Go.sizeOf,typeInfo,hi,hn]
 simp only [Instr.fieldAt,Sem.run_bind,run_underlying hu w,Result.andThen_ok,hf,Instr.sureAddr,Sem.run_pure,fieldPlace,hz]
 rw [if_neg (by omega)]
 simp [Addr.add_mid]
theorem J9 {T e:TypeId} {n:Nat} (hu:P.underlying T=some (.slice e)) (hs:dX P e=some n) (b o len cap:Nat) (k:IntKind) (i:Int) (h0:0≤i) (hl:i.toNat<len) (w:World) :
  (Instr.indexAt T (.slice (some ⟨b,o,none⟩) len cap) (.int k i)).run P w=.ok (.pointer (some ⟨b,o+i.toNat*n,none⟩)) w:=by
 obtain ⟨j,hj,hn⟩:=cw hs
 have hz:(Go.sizeOf e).run P w=.ok n w:=by simp [Go.sizeOf,typeInfo,hj,hn]
 have hc:0≤i∧i<len:=⟨h0,by omega⟩
 simp only [Instr.indexAt,asIntOf,Sem.run_bind,Sem.run_pure,Result.andThen_ok,run_underlying hu w]
 rw [if_pos hc]
 simp [hz,Addr.add_mid]
theorem DJ {T e:TypeId} {n len:Nat} (hu:P.underlying T=some (.array len e)) (hs:dX P e=some n) (b o:Nat) (k:IntKind) (i:Int) (h0:0≤i) (hl:i.toNat<len) (w:World) :
  (Instr.indexAt T (.pointer (some ⟨b,o,none⟩)) (.int k i)).run P w=.ok (.pointer (some ⟨b,o+i.toNat*n,none⟩)) w:=by
 obtain ⟨j,hj,hn⟩:=cw hs
 have hz:(Go.sizeOf e).run P w=.ok n w:=by simp [Go.sizeOf,typeInfo,hj,hn]
 have hc:0≤i∧i<len:=⟨h0,by omega⟩
 simp only [Instr.indexAt,asIntOf,Sem.run_bind,Sem.run_pure,Result.andThen_ok,run_underlying hu w,Instr.sureAddr]
 rw [if_pos hc]
 simp [hz,Addr.add_mid]
theorem yI {T:TypeId} (ha:oz P T=some false) {b o:Nat} {v:Value} (hv:w.cell? ⟨b,o,none⟩=some v) :
  (Instr.loadAt T (.pointer (some ⟨b,o,none⟩))).run P w=.ok v w:=by
 simp [Instr.loadAt,Instr.sureAddr,loadVar,mI ha,hv]
theorem DI {T:TypeId} {n:Nat} (ha:oz P T=some true) (hs:dX P T=some n) {b o:Nat} {vs:List Value} (hv:w.rangeAt b o vs) (hl:vs.length=n) :
  (Instr.loadAt T (.pointer (some ⟨b,o,none⟩))).run P w=.ok (.agg vs.toArray) w:=by
 obtain ⟨i,hi,hn⟩:=cw hs
 have h1:(loadCells ⟨b,o,none⟩ vs.length).run P w=.ok vs.toArray w:=run_loadCells_list (P:=P) w ⟨b,o,none⟩ vs (fun j v h=>by rw [Addr.add_mid]; exact hv j v h)
 rw [hl] at h1
 simp [Instr.loadAt,Instr.sureAddr,loadVar,mI ha,Go.sizeOf,typeInfo,hi,hn,h1]
theorem HM {T:TypeId} {n:Nat} (hs:dX P T=some n) {b o:Nat} {v:Value} (ht:w.there b o v.cells.size) (hl:v.cells.size=n) (h1:∀ u∈v.cells.toList,u.oneCell'=true) :
  (Instr.storeAt T (.pointer (some ⟨b,o,none⟩)) v).run P w=.ok () (w.setCells b o v.cells.toList):=by
 obtain ⟨i,hi,hn⟩:=cw hs
 have:=run_storeCells_cells (P:=P) b o v.cells.toList 0 w (fun j hj=>by simpa using (ht j (by simpa using hj)).1) (fun j hj=>by simpa using (ht j (by simpa using hj)).2) h1
 simp only [Nat.add_zero] at this
 simp [Instr.storeAt,Instr.sureAddr,storeVar,Go.sizeOf,typeInfo,hi,hn,hl,this]
theorem zG (S:aJ G J w ι obj) (he:∀ t,dz J w ι (get t) (a.tmps.getD t Go.undef)) {aS:Nat} : ∀ {xs:List Operand} {ys:List bX} {rows:List (List DV)},dY xs=some ys→rowsOf G get aS ys=some rows→
  ue (fun (x:Operand) (r:List DV)=>bD J w r (a.eval x).cells.toList∧(∀ v∈(a.eval x).cells.toList,v.oneCell'=true)∧r.length=aS) xs rows
 | [],ys,rows,h,k=>by
   simp only [dY] at h; cases h
   simp only [rowsOf] at k; cases k
   exact .nil
 | x::xs,ys,rows,h,k=>by
   simp only [dY] at h
   split at h
   ·rename_i y ys' h1 h2
    cases h
    simp only [rowsOf] at k
    split at k
    ·rename_i cs hcs
     split at k
     ·rename_i ds hds
      split at k
      ·rename_i hl
       split at k
       ·rename_i r hr
        cases k
        have cC:=ot (bg S he h1) hcs
        exact .cons ⟨nV hds cC.BA,cC.one,hl⟩ (zG S he h2 hr)
       ·cases k
      ·cases k
     ·cases k
    ·cases k
   ·cases h
theorem De (S:aJ G J w ι obj) (he:∀ t,dz J w ι (get t) (a.tmps.getD t Go.undef)):∀ {xs:List Operand} {ys:List bX} {cs:List LV},dY xs=some ys→vG G get ys=some cs→
  bP J w ι cs (((xs.map a.eval).map (·.cells.toList)).flatten)∧(∀ v∈xs.map a.eval,v.cells.size=1)∧cs.length=xs.length
 | [],ys,cs,h,k=>by
   simp only [dY] at h; cases h
   simp only [vG] at k; cases k
   exact ⟨trivial,by simp,rfl⟩
 | x::xs,ys,cs,h,k=>by
   simp only [dY] at h
   split at h
   ·rename_i y ys' h1 h2
    cases h
    simp only [vG] at k
    split at k
    ·rename_i c hcs
     split at k
     ·rename_i hl
      split at k
      ·rename_i r hr
       cases k
       have cC:=ot (bg S he h1) hcs
       obtain ⟨k1,k2,k3⟩:=De S he h2 hr
       have hsz:(a.eval x).cells.size=1:=by
        have:=cC.length
        simp at this; omega
       refine ⟨?_,?_,by rw [List.length_append,List.length_cons,k3,hl]; omega⟩
       ·rw [List.map_cons,List.map_cons,List.flatten_cons]
        exact bP.append cC k1
       ·intro v hv
        rw [List.map_cons] at hv
        rcases List.mem_cons.1 hv with rfl | hv
        ·exact hsz
        ·exact k2 v hv
      ·cases k
     ·cases k
    ·cases k
   ·cases h
theorem BC {α:Type} (l:List α) (o:Nat) (xs ys:List α) (h:o+xs.length+ys.length≤l.length):splice (splice l o xs) (o+xs.length) ys=splice l o (xs++ys):=by
 unfold splice
 have h1:(l.take o++xs).length=o+xs.length:=by simp; omega
 rw [List.take_left' h1,← h1,← List.drop_drop,List.drop_left,h1,List.drop_drop,List.length_append,List.append_assoc,List.append_assoc,List.append_assoc,List.append_assoc]
 rw [show o+xs.length+ys.length=o+(xs.length+ys.length) by omega]
theorem wW (n:Nat):∀ (vals:List Value) (k:Nat) (cells:Array Value),(∀ v∈vals,v.cells.size=n)→(k+vals.length)*n≤cells.size→
  ∃ cs,Instr.fill (fun i=>some (i*n,n)) cells ((List.range' k vals.length).zip vals)=some cs∧cs.toList=splice cells.toList (k*n) (vals.map (·.cells.toList)).flatten
 | [],k,cells,_,_=>⟨cells,by simp [Instr.fill],by simp [splice]⟩
 | v::vals,k,cells,h,hl=>by
   have hv:=h v (by simp)
   simp only [List.length_cons] at hl
   have hle:(k+1)*n≤cells.size:=Nat.le_trans (Nat.mul_le_mul_right _ (by omega)) hl
   rw [Nat.add_mul] at hle
   have hfold:(v.cells.zipIdx.foldl (fun cs (p:Value×Nat)=>cs.setIfInBounds (k*n+p.2) p.1) cells).toList=splice cells.toList (k*n) v.cells.toList:=by
    have:=rz (k*n) v.cells.toList 0 cells (by simp [hv]; omega)
    simp only [Nat.add_zero] at this
    rw [← this,← Array.foldl_toList]
    simp
   generalize hA:v.cells.zipIdx.foldl (fun cs (p:Value×Nat)=>cs.setIfInBounds (k*n+p.2) p.1) cells=A at hfold
   have hAs:A.size=cells.size:=by
    have:=congrArg List.length hfold
    rw [j5 _ _ _ (by simp [hv]; omega)] at this
    simpa using this
   obtain ⟨cs,k1,k2⟩:=wW n vals (k+1) A (fun u hu=>h u (by simp [hu])) (by rw [hAs,show k+1+vals.length=k+(vals.length+1) by omega]; exact hl)
   refine ⟨cs,?_,?_⟩
   ·simp only [List.length_cons,List.range'_succ,List.zip_cons_cons,Instr.fill]
    rw [if_neg (by rw [hv]; simp; omega),hA]
    exact k1
   ·rw [k2,hfold]
    simp only [List.map_cons,List.flatten_cons]
    have hvl:v.cells.toList.length=n:=by simpa using hv
    have hfl:(vals.map (·.cells.toList)).flatten.length=vals.length*n:=by
     have hh:∀ u∈vals,u.cells.size=n:=fun u hu=>h u (by simp [hu])
     clear k1 k2 hl
     induction vals with
     | nil=>simp
     | cons u us ih=>
       simp only [List.map_cons,List.flatten_cons,List.length_append,List.length_cons,Nat.add_mul]
       rw [ih (fun x hx=>h x (by simp at hx ⊢; rcases hx with hx | hx <;> simp [hx])) (fun x hx=>hh x (by simp [hx]))]
       have:=hh u (by simp)
       simp [this]; omega
    have:=BC cells.toList (k*n) v.cells.toList (vals.map (·.cells.toList)).flatten (by
     have hcl:cells.toList.length=cells.size:=Array.length_toList
     rw [hvl,hfl,hcl]
     have e:(k+(vals.length+1))*n=k*n+n+vals.length*n:=by simp only [Nat.add_mul]; omega
     omega)
    rw [hvl] at this
    rw [show (k+1)*n=k*n+n by rw [Nat.add_mul]; omega]
    exact this
end
end Dv
namespace Dv
open Go
section
variable {P:Program} {G:Nat→Option (List DV)} {J:Nat→Prop} {w w':World} {ι:Nat→Nat→Option Nat} {obj:Nat→cG} {a:Act} {get:Nat→LV} {base:Nat}
theorem cR.value {o:Oper} {s:Sem Value} {v:Value} {w':World} {post:Value→World→Prop} (he:execOp a.eval o=(do pure (.value (← s)))) (hr:s.run P w=.ok v w') (hp:post v w'):cR P o a w post:=
 cR.of_run (by rw [he,Sem.run_bind,hr]; rfl) hp
theorem Pz (S:aJ G J w ι obj) (he:∀ t,dz J w ι (get t) (a.tmps.getD t Go.undef)) {x:bX} {X:Operand} (hx:aL X=some x) {T:TypeId} {e:fC} (ha:oz P T=some false) (hE:cO G get obj base (.ld1 x)=some e) :
  ∃ v,(Instr.loadAt T (a.eval X)).run P w=.ok v w∧dz J w ι e.r v∧e.nw=[]∧e.wr=[]:=by
 have cC:=bg S he hx
 simp only [cO] at hE
 split at hE
 ·rename_i o col eo
  rw [eo] at cC
  split at hE
  ·rename_i et cells ho
   split at hE
   ·rename_i v hv
    cases hE
    obtain ⟨b,hb,hval⟩:=cC
    have h0:=S.rep o
    rw [ho] at h0
    obtain ⟨⟨b',C,h1,h2,h3⟩,_⟩:=h0
    rw [hb] at h1; cases h1
    obtain ⟨u,hu,h1c,IK⟩:=h3.get hv
    rw [hval]
    exact ⟨u,yI ha (by rw [cell_of_row w b col C et _ h2]; simpa using hu),IK,rfl,rfl⟩
   ·cases hE
  ·cases hE
 ·rename_i row col eo
  rw [eo] at cC
  split at hE
  ·rename_i v hv
   cases hE
   obtain ⟨b,off,hb,hval,hr⟩:=cC
   obtain ⟨u,hu,h1c,IK⟩:=hr.get hv
   rw [hval]
   exact ⟨u,yI ha hu,IK,rfl,rfl⟩
  ·cases hE
 ·rename_i o n aS row col eo
  rw [eo] at cC
  split at hE
  ·rename_i et Ez rows ho
   split at hE
   ·rename_i hc
    obtain ⟨rfl,rfl⟩:=hc
    split at hE
    ·rename_i r hr
     split at hE
     ·rename_i v hv
      cases hE
      obtain ⟨b,hb,hval⟩:=cC
      have h0:=S.rep o
      rw [ho] at h0
      obtain ⟨⟨_,h1⟩,_⟩:=h0
      obtain ⟨_,h2⟩:=h1 b hb
      obtain ⟨_,h3⟩:=h2.get hr
      obtain ⟨u,hu,h1c,IK⟩:=h3.get hv
      rw [Nat.zero_add] at hu
      rw [hval]
      exact ⟨u,yI ha hu,IK,rfl,rfl⟩
     ·cases hE
    ·cases hE
   ·cases hE
  ·cases hE
 ·cases hE
theorem Ml (S:aJ G J w ι obj) (he:∀ t,dz J w ι (get t) (a.tmps.getD t Go.undef)) {x:bX} {X:Operand} (hx:aL X=some x) {T:TypeId} {n:Nat} {e:fC} (ha:oz P T=some true) (hs:dX P T=some n)
  (hE:cO G get obj base (.Ir n x)=some e) :
  ∃ v,(Instr.loadAt T (a.eval X)).run P w=.ok v w∧dz J w ι e.r v∧e.nw=[]∧e.wr=[]:=by
 have cC:=bg S he hx
 have ofRow:∀ {b off:Nat} {row:List DV},dP J w row b off→∀ col,((row.drop col).take n).length=n→
   ∃ v,(Instr.loadAt T (.pointer (some ⟨b,off+col,none⟩))).run P w=.ok v w∧dz J w ι (.agg (((row.drop col).take n).map .d)) v:=by
  intro b off row hr col hl
  obtain ⟨vs,v1,v2,v3⟩:=((hr.drop col).take n).vals
  exact ⟨_,DI ha hs v3 (by rw [← v1.length,hl]),vs.toArray,rfl,bD.yu v1 v2⟩
 simp only [cO] at hE
 split at hE
 ·rename_i o col eo
  rw [eo] at cC
  split at hE
  ·rename_i et cells ho
   split at hE
   ·rename_i hl
    cases hE
    obtain ⟨b,hb,hval⟩:=cC
    have h0:=S.rep o
    rw [ho] at h0
    obtain ⟨⟨b',C,h1,h2,h3⟩,_⟩:=h0
    rw [hb] at h1; cases h1
    have h4:=(h3.drop col).take n
    rw [hval]
    exact ⟨_,DI ha hs (lT h2 col n) (by rw [← h4.length,hl]),⟨_,rfl,by simpa using h4⟩,rfl,rfl⟩
   ·cases hE
  ·cases hE
 ·rename_i row col eo
  rw [eo] at cC
  split at hE
  ·rename_i hl
   cases hE
   obtain ⟨b,off,hb,hval,hr⟩:=cC
   rw [hval]
   obtain ⟨v,k1,k2⟩:=ofRow hr col hl
   exact ⟨v,k1,k2,rfl,rfl⟩
  ·cases hE
 ·rename_i o m aS row col eo
  rw [eo] at cC
  split at hE
  ·rename_i et Ez rows ho
   split at hE
   ·rename_i hc
    obtain ⟨rfl,rfl⟩:=hc
    split at hE
    ·rename_i r hr
     split at hE
     ·rename_i hl
      cases hE
      obtain ⟨b,hb,hval⟩:=cC
      have h0:=S.rep o
      rw [ho] at h0
      obtain ⟨⟨_,h1⟩,_⟩:=h0
      obtain ⟨_,h2⟩:=h1 b hb
      obtain ⟨_,h3⟩:=h2.get hr
      rw [Nat.zero_add] at h3
      rw [hval]
      obtain ⟨v,k1,k2⟩:=ofRow h3 col hl
      exact ⟨v,k1,k2,rfl,rfl⟩
     ·cases hE
    ·cases hE
   ·cases hE
  ·cases hE
 ·cases hE
theorem Of (S:aJ G J w ι obj) (he:∀ t,dz J w ι (get t) (a.tmps.getD t Go.undef)) {x y:bX} {X Y:Operand} (hx:aL X=some x) (hy:aL Y=some y) {T:TypeId} {n:Nat} {e:fC} (hs:dX P T=some n)
  (hE:cO G get obj base (.st n x y)=some e) :
  ∃ w',(Instr.storeAt T (a.eval X) (a.eval Y)).run P w=.ok () w'∧bn G obj (bO obj base e) J ι w e.r Go.undef w':=by
 have cC:=bg S he hx
 have lH:=bg S he hy
 simp only [cO] at hE
 split at hE
 ·rename_i cs hcs
  have hrc:=ot lH hcs
  split at hE
  ·rename_i hl
   have hvl:(a.eval Y).cells.size=n:=by have:=hrc.length; simp at this; omega
   split at hE
   ·rename_i o col eo
    rw [eo] at cC
    split at hE
    ·rename_i et cells ho
     split at hE
     ·rename_i hle
      cases hE
      obtain ⟨b,hb,ht,hA⟩:=bn.zA S ho hrc hle
      obtain ⟨b',hb',hval⟩:=cC
      rw [hb] at hb'; cases hb'
      rw [hval]
      exact ⟨_,HM hs (by simpa using ht) hvl hrc.one,hA⟩
     ·cases hE
    ·cases hE
   ·rename_i o m aS row col eo
    rw [eo] at cC
    split at hE
    ·rename_i et Ez rows ho
     split at hE
     ·rename_i hc
      obtain ⟨rfl,rfl⟩:=hc
      split at hE
      ·rename_i ds hds
       split at hE
       ·rename_i r hr
        split at hE
        ·rename_i hle
         cases hE
         obtain ⟨b,hb,ht,hA⟩:=bn.Zw S ho hr (nV hds hrc.BA) hrc.one hle
         obtain ⟨b',hb',hval⟩:=cC
         rw [hb] at hb'; cases hb'
         rw [hval]
         exact ⟨_,HM hs (by simpa using ht) hvl hrc.one,hA⟩
        ·cases hE
       ·cases hE
      ·cases hE
     ·cases hE
    ·cases hE
   ·cases hE
  ·cases hE
 ·cases hE
theorem MA (S:aJ G J w ι obj) (he:∀ t,dz J w ι (get t) (a.tmps.getD t Go.undef)) {x i:bX} {X Y:Operand} (hx:aL X=some x) (hy:aL Y=some i) {T el:TypeId} {n:Nat} {e:fC} (hu:P.underlying T=some (.slice el)) (hs:dX P el=some n)
  (hE:cO G get obj base (.NP n x i)=some e) :
  ∃ v,(Instr.indexAt T (a.eval X) (a.eval Y)).run P w=.ok v w∧dz J w ι e.r v∧e.nw=[]∧e.wr=[]:=by
 have cC:=bg S he hx
 have lH:=bg S he hy
 simp only [cO] at hE
 split at hE
 ·rename_i k j eo
  rw [eo] at lH
  have hY:a.eval Y=.int k j:=lH
  split at hE
  ·rename_i h0
   split at hE
   ·rename_i el' rows IF
    rw [IF] at cC
    split at hE
    ·rename_i hel
     split at hE
     ·rename_i r hr
      cases hE
      obtain ⟨sa,m,cap,hval,hm,hcap,hrows⟩:=cC
      have hlt:j.toNat<rows.length:=(List.getElem?_eq_some_iff.1 hr).1
      rcases hrows with hrows | ⟨b,off,rfl,hb,hrows⟩
      ·rw [hrows] at hlt; simp at hlt
      ·subst hel
       obtain ⟨_,hrow⟩:=hrows.get hr
       rw [hval,hY]
       exact ⟨_,J9 hu hs b off m cap k j h0 (by omega) w,⟨b,off+j.toNat*el',hb,by simp,hrow⟩,rfl,rfl⟩
     ·cases hE
    ·cases hE
   ·rename_i o m el' lo len IF
    rw [IF] at cC
    have real:∀ {b cap:Nat},a.eval X=.slice (some ⟨b,lo*el',none⟩) len cap→el'=n→j.toNat<len→
      (Instr.indexAt T (a.eval X) (a.eval Y)).run P w=.ok (.pointer (some ⟨b,(lo+j.toNat)*el',none⟩)) w:=by
     intro b cap hval hel hlt
     rw [hval,hY]
     have:=J9 (P:=P) hu hs b (lo*el') len cap k j h0 hlt w
     rw [← hel] at this
     rw [this,Nat.add_mul]
    split at hE
    ·rename_i et ad8 rows ho
     split at hE
     ·rename_i hc
      obtain ⟨hel,adD,hm,hlt⟩:=hc
      split at hE
      ·rename_i r hr
       cases hE
       rcases cC with ⟨h1,_⟩ | ⟨b,cap,et',C,hb,hval,hcap,_⟩
       ·omega
       ·have h0':=S.rep o
        rw [ho] at h0'
        obtain ⟨⟨_,h1⟩,_⟩:=h0'
        rw [hm] at hb
        obtain ⟨hJ,hrows⟩:=h1 b hb
        obtain ⟨_,hrow⟩:=hrows.get hr
        refine ⟨_,real hval hel hlt,⟨b,(lo+j.toNat)*el',hJ,by simp,?_⟩,rfl,rfl⟩
        rw [Nat.zero_add,adD,← hel] at hrow
        exact hrow
      ·cases hE
     ·cases hE
    ·split at hE
     ·rename_i hc
      obtain ⟨hel,he1,hm,hlt⟩:=hc
      cases hE
      rcases cC with ⟨h1,_⟩ | ⟨b,cap,et',C,hb,hval,hcap,_⟩
      ·omega
      ·rw [hm] at hb
       exact ⟨_,real hval hel hlt,⟨b,hb,by rw [he1]; simp⟩,rfl,rfl⟩
     ·cases hE
    ·split at hE
     ·rename_i hc
      obtain ⟨hel,hlt⟩:=hc
      cases hE
      rcases cC with ⟨h1,_⟩ | ⟨b,cap,et',C,hb,hval,hcap,_⟩
      ·omega
      ·exact ⟨_,real hval hel hlt,⟨b,hb,by simp⟩,rfl,rfl⟩
     ·cases hE
   ·cases hE
  ·cases hE
 ·cases hE
theorem Mz (S:aJ G J w ι obj) (he:∀ t,dz J w ι (get t) (a.tmps.getD t Go.undef)) {x i:bX} {X Y:Operand} (hx:aL X=some x) (hy:aL Y=some i) {T el:TypeId} {n len:Nat} {e:fC} (hu:P.underlying T=some (.array len el)) (hs:dX P el=some n)
  (hE:cO G get obj base (.ixr len n x i)=some e) :
  ∃ v,(Instr.indexAt T (a.eval X) (a.eval Y)).run P w=.ok v w∧dz J w ι e.r v∧e.nw=[]∧e.wr=[]:=by
 have cC:=bg S he hx
 have lH:=bg S he hy
 simp only [cO] at hE
 split at hE
 ·rename_i k j eo
  rw [eo] at lH
  have hY:a.eval Y=.int k j:=lH
  split at hE
  ·rename_i h0
   split at hE
   ·rename_i o col IF
    rw [IF] at cC
    cases hE
    obtain ⟨b,hb,hval⟩:=cC
    rw [hval,hY]
    exact ⟨_,DJ hu hs b col k j h0.1 h0.2 w,⟨b,hb,rfl⟩,rfl,rfl⟩
   ·rename_i o m es r c IF
    rw [IF] at cC
    cases hE
    obtain ⟨b,hb,hval⟩:=cC
    rw [hval,hY]
    exact ⟨_,DJ hu hs b _ k j h0.1 h0.2 w,⟨b,hb,by simp; omega⟩,rfl,rfl⟩
   ·rename_i r c IF
    rw [IF] at cC
    cases hE
    obtain ⟨b,off,hb,hval,hr⟩:=cC
    rw [hval,hY]
    exact ⟨_,DJ hu hs b _ k j h0.1 h0.2 w,⟨b,off,hb,by simp; omega,hr⟩,rfl,rfl⟩
   ·cases hE
  ·cases hE
 ·cases hE
theorem Fq {t:TypeId} {cs:Array Value} {off:Nat} {v:Value} (ha:oz P t=some false) (hv:cs[off]? = some v):(part t cs off).run P w=.ok v w:=by
 simp [part,mI ha,hv]
theorem Cg {t:TypeId} {cs:Array Value} {off n:Nat} (ha:oz P t=some true) (hs:dX P t=some n):(part t cs off).run P w=.ok (.agg (cs.extract off (off+n))) w:=by
 obtain ⟨i,hi,hn⟩:=cw hs
 simp [part,mI ha,Go.sizeOf,typeInfo,hi,hn]
theorem ue.map_eq {α β:Type} {xs:List α} {ys:List β} {R:α→β→Prop} (h:ue R xs ys):xs.length=ys.length:=by
 induction h with
 | nil=>rfl
 | cons _ _ ih=>simp [ih]
theorem mu {e:TypeId} {n b:Nat} (h:xY P e=some (n,b)):∃ i z,P.info? e=some i∧i.zero=some z∧i.size=n∧i.bytes=b∧z.cells.size=i.size∧0<i.bytes∧0<i.size:=by
 unfold xY at h
 split at h
 ·rename_i i hi
  split at h
  ·rename_i z hz
   split at h
   ·rename_i hc
    cases h
    exact ⟨i,z,hi,hz,rfl,rfl,hc.1,hc.2.1,hc.2.2⟩
   ·cases h
  ·cases h
 ·cases h
theorem vR {β γ:Type} (f:β→γ):∀ (l:List (Nat×β)) (k:Nat),l.map (·.1)=List.range' k l.length→l.map (fun p=>(p.1,f p.2))=(List.range' k (l.map (fun p=>f p.2)).length).zip (l.map (fun p=>f p.2))
 | [],k,_=>rfl
 | p::l,k,h=>by
   simp only [List.map_cons,List.length_cons,List.range'_succ,List.cons.injEq] at h
   simp only [List.map_cons,List.length_cons,List.range'_succ,List.zip_cons_cons]
   rw [← vR f l (k+1) h.2,h.1]
theorem ue.flat {aS:Nat} : ∀ {xs:List Operand} {rows:List (List DV)},ue (fun (x:Operand) (r:List DV)=>bD J w r (a.eval x).cells.toList∧(∀ v∈(a.eval x).cells.toList,v.oneCell'=true)∧r.length=aS) xs rows→
  bD J w rows.flatten ((xs.map a.eval).map (·.cells.toList)).flatten∧(∀ v∈((xs.map a.eval).map (·.cells.toList)).flatten,v.oneCell'=true)∧(∀ r∈rows,r.length=aS)∧(∀ v∈xs.map a.eval,v.cells.size=aS)
 | _,_,.nil=>⟨trivial,(fun _ h=>by cases h),(fun _ h=>by cases h),(fun _ h=>by cases h)⟩
 | _,_,.cons h1 h2=>by
   obtain ⟨k1,k2,k3,k4⟩:=ue.flat h2
   obtain ⟨h3,h4,h5⟩:=h1
   simp only [List.map_cons,List.flatten_cons]
   refine ⟨bD.append h3 k1,fun v hv=>?_,fun r hr=>?_,fun v hv=>?_⟩
   ·rcases List.mem_append.1 hv with hv | hv
    ·exact h4 v hv
    ·exact k2 v hv
   ·rcases List.mem_cons.1 hr with rfl | hr
    ·exact h5
    ·exact k3 r hr
   ·rcases List.mem_cons.1 hv with rfl | hv
    ·have:=h3.length
     simp at this; omega
    ·exact k4 v hv
theorem GQ (S:aJ G J w ι obj) {T:TypeId} {n:Nat} {parts:Array (Nat×Operand)} {et aS bs:Nat} {rows:List (List DV)} (hu:P.underlying T=some (.slice et)) (h1:xY P et=some (aS,bs)) (hfit:n*aS≤16777216) (hidx:parts.toList.map (·.1)=List.range n) (hb:obj base=.free)
  (hA:ue (fun (x:Operand) (r:List DV)=>bD J w r (a.eval x).cells.toList∧(∀ v∈(a.eval x).cells.toList,v.oneCell'=true)∧r.length=aS) (parts.toList.map (·.2)) rows) :
  ∃ v w',(Instr.buildSlice T n (parts.map fun (i,x)=>(i,a.eval x))).run P w=.ok v w'∧bn G obj (fun o=>if o=base then .live (.dat et aS rows) else obj o) J ι w (.sl base rows.length aS 0 rows.length) v w':=by
 obtain ⟨i,z,hi,hz,hsz,_,hzc,_,hpos⟩:=mu h1
 have hlen:=hA.map_eq
 have mg:parts.toList.length=n:=by have:=congrArg List.length hidx; simpa using this
 rw [List.length_map,mg] at hlen
 obtain ⟨f1,f2,f3,f4⟩:=hA.flat
 have Ga:(parts.map fun (i,x)=>(i,a.eval x)).toList=(List.range' 0 ((parts.toList.map (·.2)).map a.eval).length).zip ((parts.toList.map (·.2)).map a.eval):=by
  have:=vR a.eval parts.toList 0 (by rw [hidx,mg,List.range_eq_range'])
  rw [Array.toList_map,List.map_map]
  exact this
 let C0:Array Value:=(Array.range (n*aS)).map ((if n*aS=0 then #[] else z.cells)[· % (if n*aS=0 then #[] else z.cells).size]!)
 have hC0:C0.size=n*aS:=by simp [C0]
 have hvl:((parts.toList.map (·.2)).map a.eval).length=n:=by simpa using mg
 obtain ⟨cs,k1,k2⟩:=wW aS ((parts.toList.map (·.2)).map a.eval) 0 C0 f4 (by rw [hvl,Nat.zero_add,hC0]; exact Nat.le_refl _)
 have hrun:(Instr.buildSlice T n (parts.map fun (i,x)=>(i,a.eval x))).run P w=.ok (.slice (some ⟨w.heap.size,0,none⟩) n n) (w.alloc (.cells cs et)):=by
  have Gg:¬ n*aS>2 ^ 24:=by omega
  have KK:∀ w:World,(Go.sizeOf et).run P w=.ok aS w:=fun w=>by simp [Go.sizeOf,typeInfo,hi,hsz]
  have YR:∀ w:World,(zeroValue et).run P w=.ok z w:=fun w=>by simp [zeroValue,typeInfo,hi,hz]
  by_cases h0:n*aS=0
  ·have Hh:=k1
   simp only [C0,if_pos h0] at Hh
   simp only [Instr.buildSlice,Sem.run_bind,run_underlying hu w,Result.andThen_ok,KK,if_neg Gg,Sem.run_pure,if_pos h0,Ga,Hh]
   simp [newRow]
  ·have Hh:=k1
   simp only [C0,if_neg h0] at Hh
   simp only [Instr.buildSlice,Sem.run_bind,run_underlying hu w,Result.andThen_ok,KK,if_neg Gg,Sem.run_pure,if_neg h0,YR,Ga,Hh]
   simp [newRow]
 have hcl:cs.toList=((parts.toList.map (·.2)).map a.eval |>.map (·.cells.toList)).flatten:=by
  rw [k2]
  have hfl:(((parts.toList.map (·.2)).map a.eval).map (·.cells.toList)).flatten.length=C0.toList.length:=by
   have adK:C0.toList.length=n*aS:=by rw [← hC0]; exact Array.length_toList
   rw [← f1.length,mY f3,adK,← hlen]
  simp only [Nat.zero_mul]
  unfold splice
  rw [Nat.zero_add,hfl]
  simp
 refine ⟨_,_,hrun,?_⟩
 have aaz:cs.size=n*aS:=by
  have:cs.toList.length=cs.size:=Array.length_toList
  rw [← this,hcl,← f1.length,mY f3,← hlen]
 have:=bn.dat (G:=G) (J:=J) (w:=w) (ι:=ι) S hb et aS rows cs w.drawn n (by omega) (by rw [aaz]; exact Nat.le_refl _) (fun ι' E=>by
  refine bJ.uM (bD.mono (fun _ h=>h) (S.same E) _ _ f1) f2 f3 (ek { w with drawn:=w.drawn } _) (fun j u hu=>?_)
  rw [← hcl] at hu
  simpa using hu)
 rw [← hlen] at this ⊢
 exact this
theorem Np (S:aJ G J w ι obj) (he:∀ t,dz J w ι (get t) (a.tmps.getD t Go.undef)) {T:TypeId} {n:Nat} {parts:Array (Nat×Operand)} {et aS:Nat} {ys:List bX} {e:fC} (hc:cT P (.buildSlice T n parts)=some (.Zc et aS ys))
  (hb:obj base=.free) (hE:cO G get obj base (.Zc et aS ys)=some e) :
  ∃ v w',(Instr.buildSlice T n (parts.map fun (i,x)=>(i,a.eval x))).run P w=.ok v w'∧bn G obj (bO obj base e) J ι w e.r v w':=by
 simp only [cT] at hc
 split at hc
 ·rename_i el hu
  split at hc
  ·rename_i size bs xs h1 h2
   split at hc
   ·rename_i oe
    cases hc
    obtain ⟨hfit,hidx⟩:=oe
    obtain ⟨i,z,hi,hz,hsz,_,hzc,_,hpos⟩:=mu h1
    simp only [cO] at hE
    split at hE
    ·rename_i rows hrows
     cases hE
     have hA:=zG S he h2 hrows
     exact GQ S hu h1 hfit hidx hb hA
    ·split at hE
     ·rename_i x hx
      split at hE
      ·rename_i aax
       subst aax
       split at hE
       ·rename_i o ob d hfr
        cases hE
        obtain ⟨X,hxs,eo⟩:∃ X,parts.toList.map (·.2)=[X]∧dz J w ι x (a.eval X):=by
         unfold Aa at hx
         split at hx
         ·rename_i p
          cases hXs:parts.toList.map (·.2) with
          | nil=>rw [hXs] at h2; simp only [dY] at h2; cases h2
          | cons X Xs=>
            rw [hXs] at h2
            simp only [dY] at h2
            split at h2
            ·rename_i y ys' g1 g2
             cases h2
             cases Xs with
             | nil=>
               refine ⟨X,rfl,?_⟩
               have:=bg S he g1
               split at hx
               ·rename_i eo
                cases hx
                rw [eo] at this
                exact this
               ·cases hx
             | cons X' Xs'=>
               simp only [dY] at g2
               split at g2 <;> cases g2
            ·cases h2
         ·cases hx
        unfold ru at hfr
        split at hfr
        ·rename_i o' m e0 lo len
         split at hfr
         ·rename_i t e' rows ho
          split at hfr
          ·rename_i Gi
           obtain ⟨rfl,rfl,hle⟩:=Gi
           cases hfr
           obtain ⟨S1,E1⟩:=S.freeze ho
           obtain ⟨r1,r2,r3⟩:=LI S ho hle eo
           have hne:base≠o:=fun e=>by subst e; rw [hb] at ho; cases ho
           obtain ⟨v,w',hv,J2,yC,S2,R2,E2⟩:=GQ (rows:=[[.dO e0 ((rows.drop lo).take len)]]) S1 hu h1 hfit hidx (base:=base) (by rw [if_neg hne]; exact hb) (by
            rw [hxs]
            refine .cons ⟨?_,?_,rfl⟩ .nil
            ·rw [r2]; exact ⟨r1,trivial⟩
            ·rw [r2]; intro u hu; simp at hu; rw [hu]; exact r3)
           exact ⟨v,w',hv,J2,yC,S2,R2,E1.trans E2⟩
          ·cases hfr
         ·cases hfr
        ·cases hfr
       ·cases hE
      ·cases hE
     ·split at hE
      ·rename_i aax
       split at hE
       ·rename_i cl hcl
        cases hE
        subst aax
        obtain ⟨b1,b2,b3⟩:=De S he h2 hcl
        have mg:parts.toList.length=n:=by have:=congrArg List.length hidx; simpa using this
        rw [List.length_map,mg] at b3
        have Ga:(parts.map fun (i,x)=>(i,a.eval x)).toList=(List.range' 0 ((parts.toList.map (·.2)).map a.eval).length).zip ((parts.toList.map (·.2)).map a.eval):=by
         have:=vR a.eval parts.toList 0 (by rw [hidx,mg,List.range_eq_range'])
         rw [Array.toList_map,List.map_map]
         exact this
        let C0:Array Value:=(Array.range (n*1)).map ((if n*1=0 then #[] else z.cells)[· % (if n*1=0 then #[] else z.cells).size]!)
        have hC0:C0.size=n*1:=by simp [C0]
        have hvl:((parts.toList.map (·.2)).map a.eval).length=n:=by simpa using mg
        obtain ⟨cs,k1,k2⟩:=wW 1 ((parts.toList.map (·.2)).map a.eval) 0 C0 b2 (by rw [hvl,Nat.zero_add,hC0]; exact Nat.le_refl _)
        have hrun:(Instr.buildSlice T n (parts.map fun (i,x)=>(i,a.eval x))).run P w=.ok (.slice (some ⟨w.heap.size,0,none⟩) n n) (w.alloc (.cells cs et)):=by
         have Gg:¬ n*1>2 ^ 24:=by omega
         have KK:∀ w:World,(Go.sizeOf et).run P w=.ok 1 w:=fun w=>by simp [Go.sizeOf,typeInfo,hi,hsz]
         have YR:∀ w:World,(zeroValue et).run P w=.ok z w:=fun w=>by simp [zeroValue,typeInfo,hi,hz]
         by_cases h0:n*1=0
         ·have Hh:=k1
          simp only [C0,if_pos h0] at Hh
          simp only [Instr.buildSlice,Sem.run_bind,run_underlying hu w,Result.andThen_ok,KK,if_neg Gg,Sem.run_pure,if_pos h0,Ga,Hh]
          simp [newRow]
         ·have Hh:=k1
          simp only [C0,if_neg h0] at Hh
          simp only [Instr.buildSlice,Sem.run_bind,run_underlying hu w,Result.andThen_ok,KK,if_neg Gg,Sem.run_pure,if_neg h0,YR,Ga,Hh]
          simp [newRow]
        have hfl:(((parts.toList.map (·.2)).map a.eval).map (·.cells.toList)).flatten.length=n:=by rw [← b1.length,b3]
        have adN:C0.toList.length=n:=by rw [Array.length_toList,hC0,Nat.mul_one]
        have Vr:cs.toList=(((parts.toList.map (·.2)).map a.eval).map (·.cells.toList)).flatten:=by
         rw [k2]
         simp only [Nat.zero_mul]
         unfold splice
         rw [Nat.zero_add,hfl,← adN]
         simp
        have aaz:cs.size=n:=by
         have:cs.toList.length=cs.size:=Array.length_toList
         rw [← this,Vr,hfl]
        have hA:=bn.box (G:=G) (J:=J) (w:=w) (ι:=ι) S hb et cl cs (by rw [Vr]; exact b1)
        obtain ⟨J',ι',q1,⟨b,q2,q3⟩,q4⟩:=hA
        have hbe:b=w.heap.size:=by
         have:=q3
         simp at this
         exact this.symm
        subst hbe
        refine ⟨_,_,hrun,J',ι',q1,.inr ⟨_,n,et,n,q2,?_,?_,?_,?_⟩,q4⟩
        ·rw [Nat.zero_mul,b3]
        ·rw [b3]; exact Nat.le_refl _
        ·simp only [World.shape?,ek]
         rw [aaz]
        ·omega
       ·cases hE
      ·cases hE
   ·cases hc
  ·cases hc
 ·cases hc
theorem M7 (S:aJ G J w ι obj) (he:∀ t,dz J w ι (get t) (a.tmps.getD t Go.undef)) {i:I} {e:fC} (hE:cO G get obj base i=some e) (hfree:∀ j,j<e.nw.length→obj (base+j)=.free) {o:Oper} (hc:cT P o.op=some i) :
  cR P o a w (bn G obj (bO obj base e) J ι w e.r):=by
 obtain ⟨dst,op,type,pos,after,guard⟩:=o
 dsimp only at hc
 have stay:∀ {e:fC} {v:Value},e.nw=[]→e.wr=[]→dz J w ι e.r v→bn G obj (bO obj base e) J ι w e.r v w:=by
  intro e v h1 h2 h3
  simp only [bO,h1,h2,qU,de]
  exact bn.stay S h3
 cases op with
 | move x=>
   simp only [cT] at hc
   split at hc
   ·rename_i y hy; cases hc
    simp only [cO] at hE; cases hE
    exact cR.of_run rfl (stay rfl rfl (bg S he hy))
   ·cases hc
 | assign x=>
   simp only [cT] at hc
   split at hc
   ·rename_i y hy; cases hc
    simp only [cO] at hE; cases hE
    exact cR.of_run rfl (stay rfl rfl (bg S he hy))
   ·cases hc
 | pick c x y=>
   simp only [cT] at hc
   split at hc
   ·rename_i c' x' y' h1 h2 h3; cases hc
    simp only [cO] at hE
    split at hE
    ·rename_i b hb
     cases hE
     have hrc:=bg S he h1
     rw [hb] at hrc
     have gR:a.eval c=.bool b:=hrc
     refine cR.of_run (v:=if b then a.eval x else a.eval y) (by simp [execOp,gR,asBool]) (stay rfl rfl ?_)
     cases b
     ·exact bg S he h3
     ·exact bg S he h2
    ·cases hE
   ·cases hc
 | alloc T=>
   simp only [cT] at hc
   split at hc
   ·rename_i z hz; cases hc
    simp only [cO] at hE; cases hE
    obtain ⟨v,hv,hr⟩:=vS (J:=J) (w:=w) (ι:=ι) hz
    have hb:obj base=.free:=by simpa using hfree 0 (by simp)
    have:=bn.box S hb T (z.map .d) v.cells hr
    exact cR.value (s:=Instr.alloc T true (.tuple #[])) rfl (by simp [Instr.alloc,hv,newVar,newRow]) this
   ·cases hc
 | box T x=>
   simp only [cT] at hc
   split at hc
   ·rename_i y hy; cases hc
    simp only [cO] at hE
    split at hE
    ·rename_i cs hcs
     cases hE
     have hb:obj base=.free:=by simpa using hfree 0 (by simp)
     have:=bn.box S hb T cs (a.eval x).cells (ot (bg S he hy) hcs)
     exact cR.value (s:=Instr.box T (a.eval x)) rfl (by simp [Instr.box,newVar,newRow]) this
    ·cases hE
   ·cases hc
 | build T parts=>
   have wM:=hc
   obtain ⟨zero,ps,rfl⟩:∃ zero ps,i=.build zero ps:=by
    simp only [cT] at hc
    split at hc
    ·split at hc
     ·split at hc
      ·cases hc; exact ⟨_,_,rfl⟩
      ·cases hc
     ·cases hc
    ·split at hc
     ·split at hc
      ·cases hc; exact ⟨_,_,rfl⟩
      ·cases hc
     ·cases hc
    ·cases hc
   simp only [cO] at hE
   split at hE
   ·rename_i cs hcs
    cases hE
    obtain ⟨v,hv,hr⟩:=GP S he wM hcs
    exact cR.value (s:=Instr.build T (parts.map fun (i,x)=>(i,a.eval x))) rfl hv (stay rfl rfl hr)
   ·cases hE
 | buildSlice T n parts=>
   have wM:=hc
   obtain ⟨et,aS,ys,rfl⟩:∃ et aS ys,i=.Zc et aS ys:=by
    simp only [cT] at hc
    split at hc
    ·split at hc
     ·split at hc
      ·cases hc; exact ⟨_,_,_,rfl⟩
      ·cases hc
     ·cases hc
    ·cases hc
   have hb:obj base=.free:=by
    have hlen:0<e.nw.length:=by
     simp only [cO] at hE
     (repeat' split at hE) <;> first | (cases hE; simp; done) | cases hE
    simpa using hfree 0 hlen
   obtain ⟨v,w',hv,hA⟩:=Np S he wM hb hE
   refine cR.of_run (v:=v) (w':=w') ?_ hA
   simp only [execOp,Sem.run_bind]
   rw [hv]
   rfl
 | load T x=>
   simp only [cT] at hc
   split at hc
   ·rename_i y n h1 h2 h3; cases hc
    obtain ⟨v,hv,hr,h4,h5⟩:=Ml S he h1 h2 h3 hE
    exact cR.value (s:=Instr.loadAt T (a.eval x)) rfl hv (stay h4 h5 hr)
   ·rename_i y n h1 h2 h3; cases hc
    obtain ⟨v,hv,hr,h4,h5⟩:=Pz S he h1 h2 hE
    exact cR.value (s:=Instr.loadAt T (a.eval x)) rfl hv (stay h4 h5 hr)
   ·cases hc
 | store T x y=>
   simp only [cT] at hc
   split at hc
   ·rename_i x' y' n h1 h2 h3; cases hc
    obtain ⟨w',hv,hA⟩:=Of S he h1 h2 h3 hE
    refine cR.yP (w':=w') ?_ hA
    simp [execOp,hv]
   ·cases hc
 | nilCheck x=>
   simp only [cT] at hc
   split at hc
   ·rename_i y hy; cases hc
    have cC:=bg S he hy
    simp only [cO] at hE
    split at hE <;> first | (cases hE; done) | skip
    ·rename_i o col eo
     cases hE
     rw [eo] at cC
     obtain ⟨b,hb,hv⟩:=cC
     exact cR.of_run (v:=a.eval x) (by simp [execOp,hv]) (stay rfl rfl ⟨b,hb,hv⟩)
    ·rename_i o n e r c eo
     cases hE
     rw [eo] at cC
     obtain ⟨b,hb,hv⟩:=cC
     exact cR.of_run (v:=a.eval x) (by simp [execOp,hv]) (stay rfl rfl ⟨b,hb,hv⟩)
    ·rename_i r c eo
     cases hE
     rw [eo] at cC
     obtain ⟨b,off,hb,hv,h⟩:=cC
     exact cR.of_run (v:=a.eval x) (by simp [execOp,hv]) (stay rfl rfl ⟨b,off,hb,hv,h⟩)
   ·cases hc
 | binOp mL T x y T2=>
   have two:∀ {x' y':bX},aL x=some x'→aL y=some y'→cO G get obj base (.bin mL x' y')=some e→cR P ⟨dst,.binOp mL T x y T2,type,pos,after,guard⟩ a w (bn G obj (bO obj base e) J ι w e.r):=by
    intro x' y' h1 h2 hE
    have cC:=bg S he h1
    have lH:=bg S he h2
    simp only [cO] at hE
    split at hE
    ·rename_i p q hp hq
     rw [hp] at cC; rw [hq] at lH
     split at hE
     ·rename_i v hv
      cases hE
      have e1:a.eval x=p:=cC
      have e2:a.eval y=q:=lH
      exact cR.value (s:=(do eqGuard mL T x y (a.eval x) (a.eval y); Go.binOp mL T (a.eval x) (a.eval y))) rfl (by rw [e1,e2]; exact Rw hv T x y w) (stay rfl rfl rfl)
     ·cases hE
    ·cases hE
   have bl:∀ {x' y':bX} {neg:Bool},(mL=.eql∨mL=.neq)→neg=iZ mL→P.underlying T=some .bool→aL x=some x'→aL y=some y'→cO G get obj base (.eqb neg x' y')=some e→
     cR P ⟨dst,.binOp mL T x y T2,type,pos,after,guard⟩ a w (bn G obj (bO obj base e) J ι w e.r):=by
    intro x' y' neg ho hneg hu h1 h2 hE
    have cC:=bg S he h1
    have lH:=bg S he h2
    simp only [cO] at hE
    split at hE
    ·rename_i p q hp hq
     rw [hp] at cC; rw [hq] at lH
     cases hE
     have e1:a.eval x=.bool p:=cC
     have e2:a.eval y=.bool q:=lH
     exact cR.value (s:=(do eqGuard mL T x y (a.eval x) (a.eval y); Go.binOp mL T (a.eval x) (a.eval y))) rfl (by rw [e1,e2,hneg]; exact VR ho hu x y p q w) (stay rfl rfl rfl)
    ·cases hE
   simp only [cT] at hc
   split at hc
   ·rename_i x' y' h1 h2
    cases hU:P.underlying T with
    | none=>simp [hU] at hc
    | some d=>
      rw [hU] at hc
      cases d with
      | bool=>
        cases mL <;> dsimp only at hc <;> first | (cases hc; done) | skip
        ·cases hc; exact bl (.inl rfl) rfl hU h1 h2 hE
        ·cases hc; exact bl (.inr rfl) rfl hU h1 h2 hE
      | int k=>cases mL <;> (dsimp only at hc; cases hc; exact two h1 h2 hE)
      | string=>cases mL <;> (dsimp only at hc; cases hc; exact two h1 h2 hE)
      | struct fs=>
        have go:∀ {neg:Bool},(mL=.eql∨mL=.neq)→neg=iZ mL→(match eqT P T with | some ks=>some (I.eqs neg ks x' y') | none=>none)=some i→cR P ⟨dst,.binOp mL T x y T2,type,pos,after,guard⟩ a w (bn G obj (bO obj base e) J ι w e.r):=by
         intro neg ho hneg hc
         split at hc
         ·rename_i ks hks
          cases hc
          have cC:=bg S he h1
          have lH:=bg S he h2
          simp only [cO] at hE
          split at hE
          ·rename_i p q hp hq
           rw [hp] at cC; rw [hq] at lH
           split at hE
           ·rename_i b hb
            cases hE
            obtain ⟨xs,e1,hxs⟩:=cC
            obtain ⟨ys,e2,hys⟩:=lH
            exact cR.value (s:=(do eqGuard mL T x y (a.eval x) (a.eval y); Go.binOp mL T (a.eval x) (a.eval y))) rfl (by rw [e1,e2,hneg]; exact Sa ho hks x y hxs hys hb) (stay rfl rfl rfl)
           ·cases hE
          ·cases hE
         ·cases hc
        cases mL <;> dsimp only at hc <;> first | (cases hc; done) | skip
        ·exact go (.inl rfl) rfl hc
        ·exact go (.inr rfl) rfl hc
      | pointer pe=>
        have go:∀ {neg:Bool},(mL=.eql∨mL=.neq)→neg=iZ mL→(if SJ y=true then some (I.MC neg x') else none)=some i→cR P ⟨dst,.binOp mL T x y T2,type,pos,after,guard⟩ a w (bn G obj (bO obj base e) J ι w e.r):=by
         intro neg ho hneg hc
         split at hc
         ·rename_i nN
          cases hc
          have hy:a.eval y=.pointer none:=by
           unfold SJ at nN
           split at nN
           ·rfl
           ·cases nN
          have cC:=bg S he h1
          have fin:∀ {v:Option Addr} {r:Bool},a.eval x=.pointer v→r=(bif iZ mL then !v.isNone else v.isNone)→e = { r:=.bool r }→cR P ⟨dst,.binOp mL T x y T2,type,pos,after,guard⟩ a w (bn G obj (bO obj base e) J ι w e.r):=by
           intro v r hv hr he'
           subst he'
           exact cR.value (s:=(do eqGuard mL T x y (a.eval x) (a.eval y); Go.binOp mL T (a.eval x) (a.eval y))) rfl (by rw [hv,hy]; exact R_ ho hU x y v w) (stay rfl rfl (by rw [hr]; rfl))
          simp only [cO] at hE
          split at hE <;> first | (cases hE; done) | skip
          ·rename_i eo
           rw [eo] at cC
           obtain ⟨b,_,hv⟩:=cC
           exact fin hv (by rw [hneg]; cases iZ mL <;> rfl) (Option.some.inj hE).symm
          ·rename_i eo
           rw [eo] at cC
           obtain ⟨b,_,hv⟩:=cC
           exact fin hv (by rw [hneg]; cases iZ mL <;> rfl) (Option.some.inj hE).symm
          ·rename_i eo
           rw [eo] at cC
           obtain ⟨b,off,_,hv,_⟩:=cC
           exact fin hv (by rw [hneg]; cases iZ mL <;> rfl) (Option.some.inj hE).symm
          ·rename_i eo
           rw [eo] at cC
           have hv:a.eval x=.pointer none:=cC
           exact fin hv (by rw [hneg]; cases iZ mL <;> rfl) (Option.some.inj hE).symm
         ·cases hc
        cases mL <;> dsimp only at hc <;> first | (cases hc; done) | skip
        ·exact go (.inl rfl) rfl hc
        ·exact go (.inr rfl) rfl hc
      | slice se=>
        have go:∀ {neg:Bool},(mL=.eql∨mL=.neq)→neg=iZ mL→(if SI y=true then some (I.MB neg x') else none)=some i→cR P ⟨dst,.binOp mL T x y T2,type,pos,after,guard⟩ a w (bn G obj (bO obj base e) J ι w e.r):=by
         intro neg ho hneg hc
         split at hc
         ·rename_i nN
          cases hc
          have hy:a.eval y=.slice none 0 0:=by
           unfold SI at nN
           split at nN
           ·rfl
           ·cases nN
          have cC:=bg S he h1
          have fin:∀ {v:Option Addr} {n c:Nat},a.eval x=.slice v n c→(e.nw=[]∧e.wr=[]∧dz J w ι e.r (.bool (bif iZ mL then !v.isNone else v.isNone)))→cR P ⟨dst,.binOp mL T x y T2,type,pos,after,guard⟩ a w (bn G obj (bO obj base e) J ι w e.r):=by
           intro v n c hv hr
           exact cR.value (s:=(do eqGuard mL T x y (a.eval x) (a.eval y); Go.binOp mL T (a.eval x) (a.eval y))) rfl (by rw [hv,hy]; exact R9 ho hU x y v n c w) (stay hr.1 hr.2.1 hr.2.2)
          simp only [cO] at hE
          split at hE <;> first | (cases hE; done) | skip
          ·rename_i eo
           cases hE
           rw [eo] at cC
           have hv:a.eval x=.slice none 0 0:=cC
           exact fin hv ⟨rfl,rfl,by rw [hneg]; cases iZ mL <;> rfl⟩
          ·rename_i eo
           cases hE
           rw [eo] at cC
           obtain ⟨sa,n,cap,hv,_,_,hr⟩:=cC
           refine fin hv ⟨rfl,rfl,?_⟩
           dsimp only
           split
           ·exact ⟨_,rfl⟩
           ·rename_i hne
            rcases hr with hr | ⟨b,off,hsa,_⟩
            ·exact absurd (by rw [hr]; rfl) hne
            ·rw [hneg,hsa]; cases iZ mL <;> rfl
          ·rename_i eo
           cases hE
           rw [eo] at cC
           rcases cC with ⟨hz,sa,hv⟩ | ⟨b,cap,et',C,hb,hv,_⟩
           ·refine fin hv ⟨rfl,rfl,?_⟩
            dsimp only
            rw [if_pos hz]
            exact ⟨_,rfl⟩
           ·refine fin hv ⟨rfl,rfl,?_⟩
            dsimp only
            split
            ·exact ⟨_,rfl⟩
            ·rw [hneg]; cases iZ mL <;> rfl
         ·cases hc
        cases mL <;> dsimp only at hc <;> first | (cases hc; done) | skip
        ·exact go (.inl rfl) rfl hc
        ·exact go (.inr rfl) rfl hc
      | _=>cases mL <;> (dsimp only at hc; cases hc)
   ·cases hc
 | unOp uop T x=>
   cases uop <;> simp only [cT] at hc <;> first | (cases hc; done) | skip
   ·split at hc
    ·rename_i y hy; cases hc
     have cC:=bg S he hy
     simp only [cO] at hE
     split at hE
     ·rename_i k p hp
      rw [hp] at cC
      cases hE
      have e1:a.eval x=.int k p:=cC
      exact cR.value (s:=Op.unary .neg (a.eval x)) rfl (by rw [e1]; rfl) (stay rfl rfl rfl)
     ·cases hE
    ·cases hc
   ·split at hc
    ·rename_i y hy; cases hc
     have cC:=bg S he hy
     simp only [cO] at hE
     split at hE
     ·rename_i p hp
      rw [hp] at cC
      cases hE
      have e1:a.eval x=.bool p:=cC
      exact cR.value (s:=Op.unary .not (a.eval x)) rfl (by rw [e1]; rfl) (stay rfl rfl rfl)
     ·cases hE
    ·cases hc
 | convert S' T x=>
   simp only [cT] at hc
   split at hc
   ·rename_i y k k' h1 h2 h3; cases hc
    have cC:=bg S he h1
    simp only [cO] at hE
    split at hE
    ·rename_i kk n hp
     rw [hp] at cC
     cases hE
     have e1:a.eval x=.int kk n:=cC
     refine cR.value (s:=Go.convert S' T (a.eval x)) rfl ?_ (stay rfl rfl rfl)
     rw [e1]
     simp only [Go.convert,Sem.run_bind,run_underlying h2 w,run_underlying h3 w,Result.andThen_ok]
     rfl
    ·cases hE
   ·cases hc
 | fieldAddr T x f=>
   simp only [cT] at hc
   split at hc
   ·rename_i y fs h1 h2
    split at hc
    ·rename_i fd h3
     split at hc
     ·rename_i n h4
      cases hc
      have cC:=bg S he h1
      simp only [cO] at hE
      split at hE <;> first | (cases hE; done) | skip
      ·rename_i o col eo
       cases hE
       rw [eo] at cC
       obtain ⟨b,hb,hv⟩:=cC
       exact cR.value (s:=Instr.fieldAt T (a.eval x) f) rfl (by rw [hv]; exact qG h2 h3 h4 b col w) (stay rfl rfl ⟨b,hb,rfl⟩)
      ·rename_i o n' e' r c eo
       cases hE
       rw [eo] at cC
       obtain ⟨b,hb,hv⟩:=cC
       exact cR.value (s:=Instr.fieldAt T (a.eval x) f) rfl (by rw [hv]; exact qG h2 h3 h4 b _ w) (stay rfl rfl ⟨b,hb,by simp; omega⟩)
      ·rename_i r c eo
       cases hE
       rw [eo] at cC
       obtain ⟨b,off,hb,hv,h⟩:=cC
       exact cR.value (s:=Instr.fieldAt T (a.eval x) f) rfl (by rw [hv]; exact qG h2 h3 h4 b _ w) (stay rfl rfl ⟨b,off,hb,by simp; omega,h⟩)
     ·cases hc
    ·cases hc
   ·cases hc
 | field T x f=>
   simp only [cT] at hc
   split at hc
   ·rename_i y fs h1 h2
    split at hc
    ·rename_i fd h3
     split at hc
     ·rename_i n h4 h5
      cases hc
      have cC:=bg S he h1
      simp only [cO] at hE
      split at hE
      ·rename_i cs eo
       rw [eo] at cC
       obtain ⟨xs,hv,hcs⟩:=cC
       split at hE
       ·rename_i hl
        cases hE
        refine cR.value (s:=Instr.field T (a.eval x) f) rfl (v:=.agg (xs.extract fd.offset (fd.offset+n))) (by
         rw [hv]
         simp only [Instr.field,Sem.run_bind,run_underlying h2 w,Result.andThen_ok,h3,asAgg,Sem.run_pure,Cg h4 h5]) (stay rfl rfl ⟨_,rfl,?_⟩)
        have:=(hcs.drop fd.offset).take n
        simpa [Array.toList_extract,List.extract_eq_take_drop] using this
       ·cases hE
      ·cases hE
     ·rename_i n h4 h5
      cases hc
      have cC:=bg S he h1
      simp only [cO] at hE
      split at hE
      ·rename_i cs eo
       rw [eo] at cC
       obtain ⟨xs,hv,hcs⟩:=cC
       split at hE
       ·rename_i v hl
        cases hE
        obtain ⟨u,hu,_,IK⟩:=hcs.get hl
        refine cR.value (s:=Instr.field T (a.eval x) f) rfl (v:=u) (by
         rw [hv]
         simp only [Instr.field,Sem.run_bind,run_underlying h2 w,Result.andThen_ok,h3,asAgg,Sem.run_pure]
         exact Fq h4 (by simpa using hu)) (stay rfl rfl IK)
       ·cases hE
      ·cases hE
     ·cases hc
    ·cases hc
   ·cases hc
 | indexAddr T x y=>
   simp only [cT] at hc
   split at hc
   ·rename_i x' y' el h1 h2 h3
    split at hc
    ·rename_i n h4; cases hc
     obtain ⟨v,hv,hr,h5,h6⟩:=MA S he h1 h2 h3 h4 hE
     exact cR.value (s:=Instr.indexAt T (a.eval x) (a.eval y)) rfl hv (stay h5 h6 hr)
    ·cases hc
   ·rename_i x' y' len el h1 h2 h3
    split at hc
    ·rename_i n h4; cases hc
     obtain ⟨v,hv,hr,h5,h6⟩:=Mz S he h1 h2 h3 h4 hE
     exact cR.value (s:=Instr.indexAt T (a.eval x) (a.eval y)) rfl hv (stay h5 h6 hr)
    ·cases hc
   ·cases hc
 | index T x y=>
   simp only [cT] at hc
   split at hc
   ·rename_i x' y' len el h1 h2 h3
    split at hc
    ·rename_i h4 h5; cases hc
     have cC:=bg S he h1
     have lH:=bg S he h2
     simp only [cO] at hE
     split at hE
     ·rename_i k j eo
      rw [eo] at lH
      have hY:a.eval y=.int k j:=lH
      split at hE
      ·rename_i h0
       split at hE
       ·rename_i cs IF
        rw [IF] at cC
        obtain ⟨xs,hv,hcs⟩:=cC
        split at hE
        ·rename_i v hl
         cases hE
         obtain ⟨u,hu,_,IK⟩:=hcs.get hl
         obtain ⟨ii,hii,hn⟩:=cw h5
         have Gi:0≤j∧j<(len:Int):=⟨h0.1,by omega⟩
         refine cR.value (s:=Instr.index T (a.eval x) (a.eval y)) rfl (v:=u) (by
          rw [hv,hY]
          have hsz:(Go.sizeOf el).run P w=.ok 1 w:=by simp [Go.sizeOf,typeInfo,hii,hn]
          simp only [Instr.index,asIntOf,Sem.run_bind,Sem.run_pure,Result.andThen_ok,run_underlying h3 w]
          rw [if_pos Gi]
          simp only [Sem.run_bind,hsz,Result.andThen_ok]
          exact Fq h4 (by simpa using hu)) (stay rfl rfl IK)
        ·cases hE
       ·cases hE
      ·cases hE
     ·cases hE
    ·rename_i n h4 h5; cases hc
     have cC:=bg S he h1
     have lH:=bg S he h2
     simp only [cO] at hE
     split at hE
     ·rename_i k j eo
      rw [eo] at lH
      have hY:a.eval y=.int k j:=lH
      split at hE
      ·rename_i h0
       split at hE
       ·rename_i cs IF
        rw [IF] at cC
        obtain ⟨xs,hv,hcs⟩:=cC
        split at hE
        ·rename_i hl
         cases hE
         obtain ⟨ii,hii,hn⟩:=cw h5
         have Gi:0≤j∧j<(len:Int):=⟨h0.1,by omega⟩
         refine cR.value (s:=Instr.index T (a.eval x) (a.eval y)) rfl (v:=.agg (xs.extract (j.toNat*n) (j.toNat*n+n))) (by
          rw [hv,hY]
          have hsz:(Go.sizeOf el).run P w=.ok n w:=by simp [Go.sizeOf,typeInfo,hii,hn]
          simp only [Instr.index,asIntOf,Sem.run_bind,Sem.run_pure,Result.andThen_ok,run_underlying h3 w]
          rw [if_pos Gi]
          simp only [Sem.run_bind,hsz,Result.andThen_ok]
          exact Cg h4 h5) (stay rfl rfl ⟨_,rfl,?_⟩)
         have:=(hcs.drop (j.toNat*n)).take n
         simpa [Array.toList_extract,List.extract_eq_take_drop] using this
        ·cases hE
       ·cases hE
      ·cases hE
     ·cases hE
    ·cases hc
   ·rename_i x' y' h1 h2 h3
    cases hc
    have cC:=bg S he h1
    have lH:=bg S he h2
    simp only [cO] at hE
    split at hE
    ·rename_i k j s eo IF
     rw [eo] at lH; rw [IF] at cC
     have hY:a.eval y=.int k j:=lH
     have hX:a.eval x=.string s:=cC
     split at hE
     ·rename_i h0
      split at hE
      ·rename_i b hb
       cases hE
       refine cR.value (s:=Instr.index T (a.eval x) (a.eval y)) rfl (v:=.int .u8 b.toNat) (by
        rw [hX,hY]
        simp only [Instr.index,asIntOf,Sem.run_bind,Sem.run_pure,Result.andThen_ok,run_underlying h3 w]
        rw [if_pos h0]
        have:s[j.toNat]? = some b:=by
         have hlt:j.toNat<s.data.toList.length:=(List.getElem?_eq_some_iff.1 hb).1
         have hlt':j.toNat<s.size:=by simpa using hlt
         rw [getElem?_pos s j.toNat hlt']
         have:=(List.getElem?_eq_some_iff.1 hb).2
         rw [← this]; rfl
        rw [this]; rfl) (stay rfl rfl rfl)
      ·cases hE
     ·cases hE
    ·cases hE
   ·cases hc
 | slice T x lo hi mx=>
   simp only [cT] at hc
   split at hc
   ·rename_i x' lo' hi' mx' el h1 h2 h3 h4 hu
    split at hc
    ·rename_i n h5
     split at hc
     ·rename_i hmh
      cases hc
      obtain ⟨v,hv,hr,h6,h7⟩:=LG S he h1 h2 h3 h4 hmh hu h5 hE
      exact cR.value (s:=Instr.sliceAt T (a.eval x) (lo.map a.eval) (hi.map a.eval) (mx.map a.eval)) rfl hv (stay h6 h7 hr)
     ·cases hc
    ·cases hc
   ·rename_i x' lo' hi' h1 h2 h3 h4 hu
    cases hc
    have hmx:mx=none:=by
     cases mx with
     | none=>rfl
     | some X=>simp only [fK] at h4; split at h4 <;> cases h4
    subst hmx
    have cC:=bg S he h1
    simp only [cO] at hE
    split at hE
    ·rename_i s eo
     rw [eo] at cC
     have hv:a.eval x=.string s:=cC
     split at hE
     ·rename_i l h b1 b2
      split at hE
      ·rename_i Gi
       cases hE
       exact cR.value (s:=Instr.sliceAt T (a.eval x) (lo.map a.eval) (hi.map a.eval) none) rfl (v:=.string (s.extract l h)) (by rw [hv]; exact R6 hu (kS S he h2 b1) (kS S he h3 b2) Gi.1 Gi.2 w) (stay rfl rfl rfl)
      ·cases hE
     ·cases hE
    ·cases hE
   ·cases hc
 | makeFunc f p q=>
   simp only [cT] at hc
   split at hc
   ·rename_i p' q' h1 h2; cases hc
    simp only [cO] at hE; cases hE
    refine cR.of_run (v:=.func f (p.map a.eval) (q.map a.eval)) rfl (stay rfl rfl ⟨_,_,rfl,?_,?_⟩)
    ·have:=rQ S he h1; simpa using this
    ·have:=rQ S he h2; simpa using this
   ·cases hc
 | extract x k=>
   simp only [cT] at hc
   split at hc
   ·rename_i y hy; cases hc
    have cC:=bg S he hy
    simp only [cO] at hE
    split at hE
    ·rename_i vs eo
     rw [eo] at cC
     obtain ⟨xs,hv,hvs⟩:=cC
     split at hE
     ·rename_i v hl
      cases hE
      obtain ⟨u,hu,IK⟩:=hvs.get hl
      exact cR.value (s:=Instr.extract (a.eval x) k) rfl (v:=u) (by
       rw [hv]
       have:xs[k]? = some u:=by simpa using hu
       simp [Instr.extract,this]) (stay rfl rfl IK)
     ·cases hE
    ·cases hE
   ·cases hc
 | call c=>
   obtain ⟨callee,args,ts⟩:=c
   cases callee with
   | value f=>
     simp only [cT] at hc
     split at hc
     ·cases hc; simp [cO] at hE
     ·cases hc
   | invoke r m=>simp [cT] at hc
   | builtin b=>
     cases b with
     | len=>
       simp only [cT] at hc
       split at hc
       ·rename_i x T hargs hT
        have ha:args=#[x]:=by apply Array.ext'; simpa using hargs
        subst ha
        have hx:execOp a.eval ⟨dst,.call ⟨.builtin .len,#[x],ts⟩,type,pos,after,guard⟩=(do pure (.value (← Builtin.len_ ts type #[a.eval x]))):=by simp [execOp,resolve,invoke,builtin]
        split at hc
        ·rename_i y h1 h2; cases hc
         have cC:=bg S he h1
         simp only [cO] at hE
         split at hE
         ·rename_i s eo
          cases hE
          rw [eo] at cC
          have hv:a.eval x=.string s:=cC
          exact cR.value hx (v:=.int .i64 s.size) (by simp [Builtin.len_,hT,run_underlying h2,hv,goInt]) (stay rfl rfl rfl)
         ·cases hE
        ·rename_i y el h1 h2; cases hc
         have cC:=bg S he h1
         have sl:∀ {sa:Option Addr} {n cap:Nat},a.eval x=.slice sa n cap→(Builtin.len_ ts type #[a.eval x]).run P w=.ok (.int .i64 n) w:=by
          intro sa n cap hv
          simp [Builtin.len_,hT,run_underlying h2,hv,goInt]
         simp only [cO] at hE
         split at hE
         ·rename_i e' rows eo
          cases hE
          rw [eo] at cC
          obtain ⟨sa,n,cap,hv,hn,_⟩:=cC
          exact cR.value hx (sl hv) (stay rfl rfl (by rw [hn]; rfl))
         ·rename_i eo
          cases hE
          rw [eo] at cC
          have hv:a.eval x=.slice none 0 0:=cC
          exact cR.value hx (sl hv) (stay rfl rfl rfl)
         ·rename_i o n e' lo len eo
          cases hE
          rw [eo] at cC
          rcases cC with ⟨h0,sa,hv⟩ | ⟨b,cap,et',C,hb,hv,_⟩
          ·exact cR.value hx (sl hv) (stay rfl rfl (by rw [h0]; rfl))
          ·exact cR.value hx (sl hv) (stay rfl rfl rfl)
         ·cases hE
        ·cases hc
       ·cases hc
     | append=>
       simp only [cT] at hc
       split at hc
       ·rename_i x y tx ty hargs hts
        have ha:args=#[x,y]:=by apply Array.ext'; simpa using hargs
        have ht:ts=#[tx,ty]:=by apply Array.ext'; simpa using hts
        subst ha; subst ht
        split at hc
        ·rename_i x' y' el h1 h2 h3 h4
         split at hc
         ·rename_i n b h5
          cases hc
          obtain ⟨i,z,hi,hz,rfl,rfl,hzc,hb0,hs0⟩:=mu h5
          have hk:(∃ e',P.underlying ty=some (.slice e'))∨P.underlying ty=some .string:=by
           unfold Og at h4
           split at h4
           ·rename_i e' hq; exact .inl ⟨e',hq⟩
           ·rename_i hq; exact .inr hq
           ·cases h4
          have cC:=bg S he h1
          have lH:=bg S he h2
          simp only [cO] at hE
          split at hE
          ·rename_i new rd hsrc
           obtain ⟨news,s1,s2,s3⟩:=v7 (P:=P) (tx:=ty) S hk hsrc lH
           split at hE
           ·rename_i eo
            rw [eo] at cC
            have hv:a.eval x=.slice none 0 0:=cC
            split at hE
            ·rename_i hfit
             cases hE
             have hb:obj base=.free:=by simpa using hfree 0 (by simp)
             obtain ⟨u,w',hrun,hA⟩:=bn.aaO (P:=P) (t:=tx) (ty:=type) S hb h3 hi hz hzc hb0 s1 s2 s3 hfit
             exact cR.value (s:=Builtin.append_ #[tx,ty] type #[a.eval x,a.eval y]) (by simp [execOp,resolve,invoke,builtin]) (by rw [hv]; exact hrun) hA
            ·cases hE
           ·rename_i o n e' lo len eo
            rw [eo] at cC
            split at hE
            ·rename_i et' e'' rows ho
             split at hE
             ·rename_i oe
              obtain ⟨rfl,rfl,rfl,rfl,rfl,rfl,hfit⟩:=oe
              cases hE
              obtain ⟨u,w',hrun,hA⟩:=bn.aaN (P:=P) (t:=tx) (ty:=type) S ho cC h3 hi hz hzc hb0 s1 s2 s3 hfit
              exact cR.value (s:=Builtin.append_ #[tx,ty] type #[a.eval x,a.eval y]) (by simp [execOp,resolve,invoke,builtin]) hrun hA
             ·cases hE
            ·cases hE
           ·cases hE
          ·cases hE
         ·cases hc
        ·cases hc
       ·cases hc
     | min=>
       simp only [cT] at hc
       split at hc
       ·rename_i x y hargs
        have ha:args=#[x,y]:=by apply Array.ext'; simpa using hargs
        subst ha
        split at hc
        ·rename_i x' y' h1 h2
         cases hc
         have cC:=bg S he h1
         have lH:=bg S he h2
         simp only [cO] at hE
         split at hE
         ·rename_i k p k' q hp hq
          cases hE
          rw [hp] at cC; rw [hq] at lH
          have hx:a.eval x=.int k p:=cC
          have hy:a.eval y=.int k' q:=lH
          exact cR.value (s:=Builtin.min_ ts type #[a.eval x,a.eval y]) (by simp [execOp,resolve,invoke,builtin]) (v:=.int k (if q<p then q else p)) (by rw [hx,hy]; simp [Builtin.min_,Builtin.min2]) (stay rfl rfl rfl)
         ·cases hE
        ·cases hc
       ·cases hc
     | max=>
       simp only [cT] at hc
       split at hc
       ·rename_i x y hargs
        have ha:args=#[x,y]:=by apply Array.ext'; simpa using hargs
        subst ha
        split at hc
        ·rename_i x' y' h1 h2
         cases hc
         have cC:=bg S he h1
         have lH:=bg S he h2
         simp only [cO] at hE
         split at hE
         ·rename_i k p k' q hp hq
          cases hE
          rw [hp] at cC; rw [hq] at lH
          have hx:a.eval x=.int k p:=cC
          have hy:a.eval y=.int k' q:=lH
          exact cR.value (s:=Builtin.max_ ts type #[a.eval x,a.eval y]) (by simp [execOp,resolve,invoke,builtin]) (v:=.int k (if q>p then q else p)) (by rw [hx,hy]; simp [Builtin.max_,Builtin.max2]) (stay rfl rfl rfl)
         ·cases hE
        ·cases hc
       ·cases hc
     | _=>simp [cT] at hc
 | _=>simp [cT] at hc
end
end Dv
namespace Dv
open Go
mutual
def rn (π:Nat→Nat):LV→LV
 | .top=>.top
 | .dV=>.dV
 | .d x=>.d x
 | .ptr o c=>.ptr (π o) c
 | .rp o n e r c=>.rp (π o) n e r c
 | .ip r c=>.ip r c
 | .sl o n e l k=>.sl (π o) n e l k
 | .fn f a b=>.fn f (mT π a) (mT π b)
 | .agg cs=>.agg (mT π cs)
 | .dM vs=>.dM (mT π vs)
 | .gd t v=>.gd t (rn π v)
 | .yl o=>.yl (π o)
 | .mr o=>.mr (π o)
def mT (π:Nat→Nat):List LV→List LV
 | []=>[]
 | x::xs=>rn π x::mT π xs
end
def fq (π:Nat→Nat):aG→aG
 | .box et cells=>.box et (mT π cells)
 | .dat et e rows=>.dat et e rows
 | .kK et e rows=>.kK et e rows
 | .mp es=>.mp (es.map fun p=>(p.1,rn π p.2))
mutual
def eN (k:Nat):LV→Bool
 | .top=>true
 | .dV=>true
 | .d _=>true
 | .ptr o _=>decide (o<k)
 | .rp o _ _ _ _=>decide (o<k)
 | .ip _ _=>true
 | .sl o _ _ _ _=>decide (o<k)
 | .fn _ a b=>eE k a&&eE k b
 | .agg cs=>eE k cs
 | .dM vs=>eE k vs
 | .gd _ v=>eN k v
 | .yl o=>decide (o<k)
 | .mr o=>decide (o<k)
def eE (k:Nat):List LV→Bool
 | []=>true
 | x::xs=>eN k x&&eE k xs
end
def dW (k:Nat):aG→Bool
 | .box _ cells=>eE k cells
 | .dat ..=>true
 | .kK ..=>true
 | .mp es=>es.all fun p=>eN k p.2
section
variable {J J':Nat→Prop} {w:World} {ι ι':Nat→Nat→Option Nat} {π:Nat→Nat} {k0:Nat}
mutual
theorem dz.rn (h:∀ o n b,o<k0→ι (π o) n=some b→ι' o n=some b):∀ (x:LV) (v:Value),eN k0 x=true→dz J w ι (rn π x) v→dz J w ι' x v
 | .top,_,_,_=>trivial
 | .dV,_,_,k=>k
 | .d x,v,_,k=>k
 | .ptr o col,v,q,k=>by simp only [eN,decide_eq_true_eq] at q; obtain ⟨b,hb,rfl⟩:=k; exact ⟨b,h _ _ _ q hb,rfl⟩
 | .rp o n e r c,v,q,k=>by simp only [eN,decide_eq_true_eq] at q; obtain ⟨b,hb,rfl⟩:=k; exact ⟨b,h _ _ _ q hb,rfl⟩
 | .ip r c,v,_,k=>k
 | .sl o n e l m,v,q,k=>by
   simp only [eN,decide_eq_true_eq] at q
   rcases k with k | ⟨b,cap,et,C,hb,k⟩
   ·exact .inl k
   ·exact .inr ⟨b,cap,et,C,h _ _ _ q hb,k⟩
 | .fn f a b,v,q,k=>by simp only [eN,Bool.and_eq_true] at q; obtain ⟨fs,cs,rfl,k1,k2⟩:=k; exact ⟨fs,cs,rfl,cA.rn h a _ q.1 k1,cA.rn h b _ q.2 k2⟩
 | .agg cs,v,q,k=>by simp only [eN] at q; obtain ⟨xs,rfl,k1⟩:=k; exact ⟨xs,rfl,bP.rn h cs _ q k1⟩
 | .dM vs,v,q,k=>by simp only [eN] at q; obtain ⟨xs,rfl,k1⟩:=k; exact ⟨xs,rfl,cA.rn h vs _ q k1⟩
 | .gd t x,v,q,k=>by simp only [eN] at q; obtain ⟨y,rfl,k1⟩:=k; exact ⟨y,rfl,dz.rn h x y q k1⟩
 | .yl o,v,q,k=>by simp only [eN,decide_eq_true_eq] at q; obtain ⟨b,hb,rfl⟩:=k; exact ⟨b,h _ _ _ q hb,rfl⟩
 | .mr o,v,q,k=>by simp only [eN,decide_eq_true_eq] at q; obtain ⟨b,hb,rfl⟩:=k; exact ⟨b,h _ _ _ q hb,rfl⟩
theorem cA.rn (h:∀ o n b,o<k0→ι (π o) n=some b→ι' o n=some b):∀ (xs:List LV) (vs:List Value),eE k0 xs=true→cA J w ι (mT π xs) vs→cA J w ι' xs vs
 | [],[],_,_=>trivial
 | x::xs,v::vs,q,k=>by
   simp only [eE,Bool.and_eq_true] at q
   exact ⟨dz.rn h x v q.1 k.1,cA.rn h xs vs q.2 k.2⟩
 | [],_::_,_,k=>k.elim
 | _::_,[],_,k=>k.elim
theorem bP.rn (h:∀ o n b,o<k0→ι (π o) n=some b→ι' o n=some b):∀ (xs:List LV) (vs:List Value),eE k0 xs=true→bP J w ι (mT π xs) vs→bP J w ι' xs vs
 | [],[],_,_=>trivial
 | x::xs,v::vs,q,k=>by
   simp only [eE,Bool.and_eq_true] at q
   exact ⟨k.1,dz.rn h x v q.1 k.2.1,bP.rn h xs vs q.2 k.2.2⟩
 | [],_::_,_,k=>k.elim
 | _::_,[],_,k=>k.elim
end
mutual
theorem dz.qj (h:∀ o n b,ι o n=some b→ι' (π o) n=some b):∀ (x:LV) (v:Value),dz J w ι x v→dz J w ι' (Dv.rn π x) v
 | .top,_,_=>trivial
 | .dV,_,k=>k
 | .d x,v,k=>k
 | .ptr o col,v,k=>by obtain ⟨b,hb,rfl⟩:=k; exact ⟨b,h _ _ _ hb,rfl⟩
 | .rp o n e r c,v,k=>by obtain ⟨b,hb,rfl⟩:=k; exact ⟨b,h _ _ _ hb,rfl⟩
 | .ip r c,v,k=>k
 | .sl o n e l q,v,k=>by
   rcases k with k | ⟨b,cap,et,C,hb,k⟩
   ·exact .inl k
   ·exact .inr ⟨b,cap,et,C,h _ _ _ hb,k⟩
 | .fn f a b,v,k=>by obtain ⟨fs,cs,rfl,k1,k2⟩:=k; exact ⟨fs,cs,rfl,cA.qj h a _ k1,cA.qj h b _ k2⟩
 | .agg cs,v,k=>by obtain ⟨xs,rfl,k1⟩:=k; exact ⟨xs,rfl,bP.qj h cs _ k1⟩
 | .dM vs,v,k=>by obtain ⟨xs,rfl,k1⟩:=k; exact ⟨xs,rfl,cA.qj h vs _ k1⟩
 | .gd t x,v,k=>by obtain ⟨y,rfl,k1⟩:=k; exact ⟨y,rfl,dz.qj h x y k1⟩
 | .yl o,v,k=>by obtain ⟨b,hb,rfl⟩:=k; exact ⟨b,h _ _ _ hb,rfl⟩
 | .mr o,v,k=>by obtain ⟨b,hb,rfl⟩:=k; exact ⟨b,h _ _ _ hb,rfl⟩
theorem cA.qj (h:∀ o n b,ι o n=some b→ι' (π o) n=some b):∀ (xs:List LV) (vs:List Value),cA J w ι xs vs→cA J w ι' (mT π xs) vs
 | [],[],_=>trivial
 | x::xs,v::vs,k=>⟨dz.qj h x v k.1,cA.qj h xs vs k.2⟩
 | [],_::_,k=>k.elim
 | _::_,[],k=>k.elim
theorem bP.qj (h:∀ o n b,ι o n=some b→ι' (π o) n=some b):∀ (xs:List LV) (vs:List Value),bP J w ι xs vs→bP J w ι' (mT π xs) vs
 | [],[],_=>trivial
 | x::xs,v::vs,k=>⟨k.1,dz.qj h x v k.2.1,bP.qj h xs vs k.2.2⟩
 | [],_::_,k=>k.elim
 | _::_,[],k=>k.elim
end
theorem jd.rn (h:∀ o n b,o<k0→ι (π o) n=some b→ι' o n=some b):∀ (xs:List (Int×LV)) (vs:List MapEntry),(xs.all fun p=>eN k0 p.2)=true→jd J w ι (xs.map fun p=>(p.1,Dv.rn π p.2)) vs→jd J w ι' xs vs
 | [],[],_,_=>trivial
 | (i,x)::xs,v::vs,q,k=>by
   simp only [List.all_cons,Bool.and_eq_true] at q
   exact ⟨k.1,dz.rn h x _ q.1 k.2.1,jd.rn h xs vs q.2 k.2.2⟩
 | [],_::_,_,k=>k.elim
 | _::_,[],_,k=>k.elim
theorem jd.qj (h:∀ o n b,ι o n=some b→ι' (π o) n=some b):∀ (xs:List (Int×LV)) (vs:List MapEntry),jd J w ι xs vs→jd J w ι' (xs.map fun p=>(p.1,Dv.rn π p.2)) vs
 | [],[],_=>trivial
 | (i,x)::xs,v::vs,k=>⟨k.1,dz.qj h x _ k.2.1,jd.qj h xs vs k.2.2⟩
 | [],_::_,k=>k.elim
 | _::_,[],k=>k.elim
end
def aC (af:List (Option aG)) (o:Nat):cG:=
 match af[o]? with
 | none=>.free
 | some none=>.dead
 | some (some ob)=>.live ob
def ng (P:Program) (f:Nat):Bool:=match P.funcs[f]? with
 | some fn=>fn.name != "runtime.NumGoroutine" &&fn.body.isSome
 | none=>false
def bu (P:Program) (G:Nat→Option (List DV)) (f:Nat) (args:List LV) (af:List aG) (r:LV) (aA:List aG):Prop:=
 ng P f=true∧∀ J ι w (vs:Array Value),aJ G J w ι (aC (af.map some))→cA J w ι args vs.toList→
  Calls P f vs w (fun e w'=>∃ v,e=.returned v∧bn G (aC (af.map some)) (aC (aA.map some)) J ι w r v w')
def bK (obj:Nat→cG) (Z:List Nat) (o n aS lo len:Nat) (rs:List (List DV)):Prop:=
 match obj o with
 | .live (.kK _ e rows)=>o∈Z∧e=aS∧n=rows.length∧lo+len≤rows.length∧rs=(rows.drop lo).take len
 | .live (.dat _ e rows)=>o∈Z∧e=aS∧n=rows.length∧lo+len≤rows.length∧rs=(rows.drop lo).take len
 | _=>False
mutual
def ah (obj:Nat→cG) (ρ Z:List Nat):LV→LV→Prop
 | _,.top=>True
 | .dV,.dV=>True
 | .d x,.d y=>x=y∨(x=.val (.slice none 0 0)∧∃ aS,y=.dO aS [])
 | .ptr o c,.ptr i c'=>ρ[i]? = some o∧c=c'
 | .yl o,.yl i=>ρ[i]? = some o
 | .mr o,.mr i=>ρ[i]? = some o
 | .rp o n e r c,.rp i n' e' r' c'=>ρ[i]? = some o∧n=n'∧e=e'∧r=r'∧c=c'
 | .ip r c,.ip r' c'=>r=r'∧c=c'
 | .sl o n e l k,.sl i n' e' l' k'=>ρ[i]? = some o∧n=n'∧e=e'∧l=l'∧k=k'
 | .sl o n e l k,.d (.dO e' rs)=>e=e'∧bK obj Z o n e l k rs
 | .agg xs,.agg ys=>ag obj ρ Z xs ys
 | .dM xs,.dM ys=>ag obj ρ Z xs ys
 | .fn f a b,.fn f' a' b'=>f=f'∧ag obj ρ Z a a'∧ag obj ρ Z b b'
 | .d (.fn f a b),.fn f' a' b'=>f=f'∧a'=a.map .d∧b'=b.map .d
 | .gd t x,.gd t' y=>t=t'∧ah obj ρ Z x y
 | _,_=>False
def ag (obj:Nat→cG) (ρ Z:List Nat):List LV→List LV→Prop
 | [],[]=>True
 | x::xs,y::ys=>ah obj ρ Z x y∧ag obj ρ Z xs ys
 | _,_=>False
end
mutual
def pS:LV→Bool
 | .top=>true
 | .dV=>true
 | .d (.val _)=>true
 | .d (.dO _ rows)=>rows.isEmpty
 | .d _=>false
 | .ptr _ _=>true
 | .rp _ _ _ _ _=>true
 | .ip _ _=>false
 | .sl _ _ _ _ _=>true
 | .fn _ a b=>uR a&&uR b
 | .agg cs=>uR cs
 | .dM vs=>uR vs
 | .gd _ v=>pS v
 | .yl _=>true
 | .mr _=>true
def uR:List LV→Bool
 | []=>true
 | x::xs=>pS x&&uR xs
end
section
variable {J J':Nat→Prop} {w:World} {ι:Nat→Nat→Option Nat}
mutual
theorem dz.pS (hh:True):∀ (x:LV) (v:Value),pS x=true→dz J w ι x v→dz J' w ι x v
 | .top,_,_,_=>trivial
 | .dV,_,_,k=>k
 | .d (.val u),v,_,k=>k
 | .d (.dO e rows),v,h,k=>by
   simp only [Dv.pS,List.isEmpty_iff] at h
   subst h
   obtain ⟨a,n,cap,rfl,hn,hc,_⟩:=k
   exact ⟨a,n,cap,rfl,hn,hc,.inl rfl⟩
 | .d (.fn _ _ _),v,h,k=>by simp [Dv.pS] at h
 | .d (.gd _ _),v,h,k=>by simp [Dv.pS] at h
 | .d (.agg _),v,h,k=>by simp [Dv.pS] at h
 | .ptr o col,v,_,k=>k
 | .rp o n e r c,v,_,k=>k
 | .ip r c,v,h,k=>by simp [Dv.pS] at h
 | .sl o n e l q,v,_,k=>k
 | .fn f a b,v,h,k=>by
   simp only [Dv.pS,Bool.and_eq_true] at h
   obtain ⟨fs,cs,rfl,k1,k2⟩:=k; exact ⟨fs,cs,rfl,cA.pS hh a _ h.1 k1,cA.pS hh b _ h.2 k2⟩
 | .agg cs,v,h,k=>by
   simp only [Dv.pS] at h
   obtain ⟨xs,rfl,k1⟩:=k; exact ⟨xs,rfl,bP.pS hh cs _ h k1⟩
 | .dM vs,v,h,k=>by
   simp only [Dv.pS] at h
   obtain ⟨xs,rfl,k1⟩:=k; exact ⟨xs,rfl,cA.pS hh vs _ h k1⟩
 | .gd t x,v,h,k=>by
   simp only [Dv.pS] at h
   obtain ⟨y,rfl,k1⟩:=k; exact ⟨y,rfl,dz.pS hh x y h k1⟩
 | .yl o,v,_,k=>k
 | .mr o,v,_,k=>k
theorem cA.pS (hh:True):∀ (xs:List LV) (vs:List Value),uR xs=true→cA J w ι xs vs→cA J' w ι xs vs
 | [],[],_,_=>trivial
 | x::xs,v::vs,h,k=>by
   simp only [Dv.uR,Bool.and_eq_true] at h
   exact ⟨dz.pS hh x v h.1 k.1,cA.pS hh xs vs h.2 k.2⟩
 | [],_::_,_,k=>k.elim
 | _::_,[],_,k=>k.elim
theorem bP.pS (hh:True):∀ (xs:List LV) (vs:List Value),uR xs=true→bP J w ι xs vs→bP J' w ι xs vs
 | [],[],_,_=>trivial
 | x::xs,v::vs,h,k=>by
   simp only [Dv.uR,Bool.and_eq_true] at h
   exact ⟨k.1,dz.pS hh x v h.1 k.2.1,bP.pS hh xs vs h.2 k.2.2⟩
 | [],_::_,_,k=>k.elim
 | _::_,[],_,k=>k.elim
end
end
end Dv
namespace Dv
open Go
section
variable {P:Program} {G:Nat→Option (List DV)} {J J':Nat→Prop} {w w':World} {ι ι':Nat→Nat→Option Nat} {obj:Nat→cG}
def G8 (ι:Nat→Nat→Option Nat) (obj:Nat→cG) (Z:List Nat) (b:Nat):Prop:=∃ z∈Z,(obj z).own ι z b
def jh (ι:Nat→Nat→Option Nat) (ρ:List Nat) (i n:Nat):Option Nat:=match ρ[i]? with
 | some o=>ι o n
 | none=>none
theorem DK (S:aJ G J w ι obj) {Z:List Nat} {o n aS lo len:Nat} {rs:List (List DV)} (h:bK obj Z o n aS lo len rs) {v:Value} (hv:dz J w ι (.sl o n aS lo len) v) (ac1:Nat→Nat→Option Nat) :
  dz (fun b=>J b∨G8 ι obj Z b) w ac1 (.d (.dO aS rs)) v:=by
 unfold bK at h
 have gm:=S.rep o
 split at h
 ·rename_i et e rows ho
  obtain ⟨_,rfl,rfl,hle,rfl⟩:=h
  rw [ho] at gm
  obtain ⟨⟨_,hd⟩,_⟩:=gm
  have wI:((rows.drop lo).take len).length=len:=by simp; omega
  rcases hv with ⟨rfl,a,rfl⟩ | ⟨b,cap,et',C,hb,rfl,hcap,_⟩
  ·exact ⟨a,0,0,rfl,by simp,Nat.le_refl _,.inl (by simp)⟩
  ·obtain ⟨hJ,hrows⟩:=hd b hb
   have:=bJ.mono (J':=fun b=>J b∨G8 ι obj Z b) (w':=w) (fun b h=>.inl h) (fun _ _=>rfl) e _ _ _ rfl ((hrows.drop lo).take len)
   exact ⟨_,len,cap,rfl,wI.symm,hcap,.inr ⟨b,lo*e,rfl,.inl hJ,by simpa using this⟩⟩
 ·rename_i et e rows ho
  obtain ⟨hz,rfl,rfl,hle,rfl⟩:=h
  rw [ho] at gm
  obtain ⟨⟨_,hd⟩,_⟩:=gm
  have wI:((rows.drop lo).take len).length=len:=by simp; omega
  rcases hv with ⟨rfl,a,rfl⟩ | ⟨b,cap,et',C,hb,rfl,hcap,_⟩
  ·exact ⟨a,0,0,rfl,by simp,Nat.le_refl _,.inl (by simp)⟩
  ·obtain ⟨_,hrows⟩:=hd b hb
   have:=bJ.mono (J':=fun b=>J b∨G8 ι obj Z b) (w':=w) (fun b h=>.inl h) (fun _ _=>rfl) e _ _ _ rfl ((hrows.drop lo).take len)
   exact ⟨_,len,cap,rfl,wI.symm,hcap,.inr ⟨b,lo*e,rfl,.inr ⟨o,hz,by rw [ho]; exact hb⟩,by simpa using this⟩⟩
 ·exact h.elim
theorem lP {ρ:List Nat} {i o n b:Nat} (h:ρ[i]? = some o) (hb:ι o n=some b):jh ι ρ i n=some b:=by simp only [jh,h,hb]
mutual
theorem mF (S:aJ G J w ι obj) {ρ Z:List Nat} : ∀ (x y:LV) (v:Value),ah obj ρ Z x y→dz J w ι x v→dz (fun b=>J b∨G8 ι obj Z b) w (jh ι ρ) y v
 | x,.top,_,_,_=>trivial
 | .dV,.dV,_,_,k=>k
 | .d x,.d y,v,h,k=>by
   have h':x=y∨(x=.val (.slice none 0 0)∧∃ aS,y=.dO aS []):=by simpa only [ah] using h
   rcases h' with rfl | ⟨rfl,aS,rfl⟩
   ·exact iO.mono (fun b h=>.inl h) (fun _ _=>rfl) _ _ k
   ·have hv:v=.slice none 0 0:=k
    subst hv
    exact ⟨none,0,0,rfl,by simp,Nat.le_refl _,.inl rfl⟩
 | .ptr o c,.ptr i c',v,h,k=>by
   obtain ⟨h1,rfl⟩:ρ[i]? = some o∧c=c':=by simpa only [ah] using h
   obtain ⟨b,hb,rfl⟩:=k
   exact ⟨b,lP h1 hb,rfl⟩
 | .yl o,.yl i,v,h,k=>by
   have h1:ρ[i]? = some o:=by simpa only [ah] using h
   obtain ⟨b,hb,rfl⟩:=k
   exact ⟨b,lP h1 hb,rfl⟩
 | .mr o,.mr i,v,h,k=>by
   have h1:ρ[i]? = some o:=by simpa only [ah] using h
   obtain ⟨b,hb,rfl⟩:=k
   exact ⟨b,lP h1 hb,rfl⟩
 | .rp o n e r c,.rp i n' e' r' c',v,h,k=>by
   obtain ⟨h1,rfl,rfl,rfl,rfl⟩:ρ[i]? = some o∧n=n'∧e=e'∧r=r'∧c=c':=by simpa only [ah] using h
   obtain ⟨b,hb,rfl⟩:=k
   exact ⟨b,lP h1 hb,rfl⟩
 | .ip r c,.ip r' c',v,h,k=>by
   obtain ⟨rfl,rfl⟩:r=r'∧c=c':=by simpa only [ah] using h
   obtain ⟨b,off,hb,rfl,hr⟩:=k
   exact ⟨b,off,.inl hb,rfl,dP.mono (fun b h=>.inl h) (fun _ _=>rfl) _ _ _ rfl hr⟩
 | .sl o n e l m,.sl i n' e' l' m',v,h,k=>by
   obtain ⟨h1,rfl,rfl,rfl,rfl⟩:ρ[i]? = some o∧n=n'∧e=e'∧l=l'∧m=m':=by simpa only [ah] using h
   rcases k with k | ⟨b,cap,et,C,hb,k⟩
   ·exact .inl k
   ·exact .inr ⟨b,cap,et,C,lP h1 hb,k⟩
 | .sl o n e l m,.d (.dO e' rs),v,h,k=>by
   obtain ⟨rfl,h1⟩:e=e'∧bK obj Z o n e l m rs:=by simpa only [ah] using h
   exact DK S h1 k _
 | .agg xs,.agg ys,v,h,k=>by
   have h':ag obj ρ Z xs ys:=by simpa only [ah] using h
   obtain ⟨us,rfl,k1⟩:=k
   exact ⟨us,rfl,bP.ofL (gO S xs ys _ h' k1.BA) k1.one⟩
 | .dM xs,.dM ys,v,h,k=>by
   have h':ag obj ρ Z xs ys:=by simpa only [ah] using h
   obtain ⟨us,rfl,k1⟩:=k
   exact ⟨us,rfl,gO S xs ys _ h' k1⟩
 | .fn f a b,.fn f' a' b',v,h,k=>by
   obtain ⟨rfl,h1,h2⟩:f=f'∧ag obj ρ Z a a'∧ag obj ρ Z b b':=by simpa only [ah] using h
   obtain ⟨fs,cs,rfl,k1,k2⟩:=k
   exact ⟨fs,cs,rfl,gO S a a' _ h1 k1,gO S b b' _ h2 k2⟩
 | .d (.fn f a b),.fn f' a' b',v,h,k=>by
   obtain ⟨rfl,rfl,rfl⟩:f=f'∧a'=a.map .d∧b'=b.map .d:=by simpa only [ah] using h
   obtain ⟨fs,cs,rfl,k1,k2⟩:=k
   exact ⟨fs,cs,rfl,(bD.mono (fun b h=>.inl h) (fun _ _=>rfl) _ _ k1).BA,(bD.mono (fun b h=>.inl h) (fun _ _=>rfl) _ _ k2).BA⟩
 | .gd t x,.gd t' y,v,h,k=>by
   obtain ⟨rfl,h1⟩:t=t'∧ah obj ρ Z x y:=by simpa only [ah] using h
   obtain ⟨z,rfl,k1⟩:=k
   exact ⟨z,rfl,mF S x y z h1 k1⟩
 | .mr _,.d _,_,h,_ | .mr _,.ptr ..,_,h,_ | .mr _,.rp ..,_,h,_ | .mr _,.ip ..,_,h,_ | .mr _,.sl ..,_,h,_ | .mr _,.fn ..,_,h,_ | .mr _,.agg _,_,h,_ | .mr _,.dM _,_,h,_ | .mr _,.gd ..,_,h,_ | .mr _,.dV,_,h,_ | .mr _,.yl _,_,h,_ | .d _,.mr _,_,h,_ | .ptr ..,.mr _,_,h,_ | .rp ..,.mr _,_,h,_ | .ip ..,.mr _,_,h,_ | .sl ..,.mr _,_,h,_ | .fn ..,.mr _,_,h,_ | .agg _,.mr _,_,h,_ | .dM _,.mr _,_,h,_ | .gd ..,.mr _,_,h,_ | .dV,.mr _,_,h,_ | .yl _,.mr _,_,h,_ | .top,.mr _,_,h,_=>by simp [ah] at h
 | .yl _,.d _,_,h,_ | .yl _,.ptr ..,_,h,_ | .yl _,.rp ..,_,h,_ | .yl _,.ip ..,_,h,_ | .yl _,.sl ..,_,h,_ | .yl _,.fn ..,_,h,_ | .yl _,.agg _,_,h,_ | .yl _,.dM _,_,h,_ | .yl _,.gd ..,_,h,_ | .yl _,.dV,_,h,_=>by simp [ah] at h
 | .d _,.yl _,_,h,_ | .ptr ..,.yl _,_,h,_ | .rp ..,.yl _,_,h,_ | .ip ..,.yl _,_,h,_ | .sl ..,.yl _,_,h,_ | .fn ..,.yl _,_,h,_ | .agg _,.yl _,_,h,_ | .dM _,.yl _,_,h,_ | .gd ..,.yl _,_,h,_ | .dV,.yl _,_,h,_ | .top,.yl _,_,h,_=>by simp [ah] at h
 | .top,.d _,_,h,_ | .top,.ptr ..,_,h,_ | .top,.rp ..,_,h,_ | .top,.ip ..,_,h,_ | .top,.sl ..,_,h,_ | .top,.fn ..,_,h,_ | .top,.agg _,_,h,_ | .top,.dM _,_,h,_ | .top,.gd ..,_,h,_=>by simp [ah] at h
 | .ptr ..,.d _,_,h,_ | .ptr ..,.rp ..,_,h,_ | .ptr ..,.ip ..,_,h,_ | .ptr ..,.sl ..,_,h,_ | .ptr ..,.fn ..,_,h,_ | .ptr ..,.agg _,_,h,_ | .ptr ..,.dM _,_,h,_ | .ptr ..,.gd ..,_,h,_=>by simp [ah] at h
 | .rp ..,.d _,_,h,_ | .rp ..,.ptr ..,_,h,_ | .rp ..,.ip ..,_,h,_ | .rp ..,.sl ..,_,h,_ | .rp ..,.fn ..,_,h,_ | .rp ..,.agg _,_,h,_ | .rp ..,.dM _,_,h,_ | .rp ..,.gd ..,_,h,_=>by simp [ah] at h
 | .ip ..,.d _,_,h,_ | .ip ..,.ptr ..,_,h,_ | .ip ..,.rp ..,_,h,_ | .ip ..,.sl ..,_,h,_ | .ip ..,.fn ..,_,h,_ | .ip ..,.agg _,_,h,_ | .ip ..,.dM _,_,h,_ | .ip ..,.gd ..,_,h,_=>by simp [ah] at h
 | .sl ..,.d (.val _),_,h,_ | .sl ..,.d (.fn ..),_,h,_ | .sl ..,.d (.gd ..),_,h,_ | .sl ..,.d (.agg _),_,h,_ | .sl ..,.ptr ..,_,h,_ | .sl ..,.rp ..,_,h,_ | .sl ..,.ip ..,_,h,_ | .sl ..,.fn ..,_,h,_ | .sl ..,.agg _,_,h,_ | .sl ..,.dM _,_,h,_ | .sl ..,.gd ..,_,h,_=>by simp [ah] at h
 | .agg _,.d _,_,h,_ | .agg _,.ptr ..,_,h,_ | .agg _,.rp ..,_,h,_ | .agg _,.ip ..,_,h,_ | .agg _,.sl ..,_,h,_ | .agg _,.fn ..,_,h,_ | .agg _,.dM _,_,h,_ | .agg _,.gd ..,_,h,_=>by simp [ah] at h
 | .dM _,.d _,_,h,_ | .dM _,.ptr ..,_,h,_ | .dM _,.rp ..,_,h,_ | .dM _,.ip ..,_,h,_ | .dM _,.sl ..,_,h,_ | .dM _,.fn ..,_,h,_ | .dM _,.agg _,_,h,_ | .dM _,.gd ..,_,h,_=>by simp [ah] at h
 | .fn ..,.d _,_,h,_ | .fn ..,.ptr ..,_,h,_ | .fn ..,.rp ..,_,h,_ | .fn ..,.ip ..,_,h,_ | .fn ..,.sl ..,_,h,_ | .fn ..,.agg _,_,h,_ | .fn ..,.dM _,_,h,_ | .fn ..,.gd ..,_,h,_=>by simp [ah] at h
 | .gd ..,.d _,_,h,_ | .gd ..,.ptr ..,_,h,_ | .gd ..,.rp ..,_,h,_ | .gd ..,.ip ..,_,h,_ | .gd ..,.sl ..,_,h,_ | .gd ..,.fn ..,_,h,_ | .gd ..,.agg _,_,h,_ | .gd ..,.dM _,_,h,_=>by simp [ah] at h
 | .d (.val _),.ptr ..,_,h,_ | .d (.val _),.rp ..,_,h,_ | .d (.val _),.ip ..,_,h,_ | .d (.val _),.sl ..,_,h,_ | .d (.val _),.fn ..,_,h,_ | .d (.val _),.agg _,_,h,_ | .d (.val _),.dM _,_,h,_ | .d (.val _),.gd ..,_,h,_=>by simp [ah] at h
 | .d (.dO ..),.ptr ..,_,h,_ | .d (.dO ..),.rp ..,_,h,_ | .d (.dO ..),.ip ..,_,h,_ | .d (.dO ..),.sl ..,_,h,_ | .d (.dO ..),.fn ..,_,h,_ | .d (.dO ..),.agg _,_,h,_ | .d (.dO ..),.dM _,_,h,_ | .d (.dO ..),.gd ..,_,h,_=>by simp [ah] at h
 | .d (.fn ..),.ptr ..,_,h,_ | .d (.fn ..),.rp ..,_,h,_ | .d (.fn ..),.ip ..,_,h,_ | .d (.fn ..),.sl ..,_,h,_ | .d (.fn ..),.agg _,_,h,_ | .d (.fn ..),.dM _,_,h,_ | .d (.fn ..),.gd ..,_,h,_=>by simp [ah] at h
 | .d (.gd ..),.ptr ..,_,h,_ | .d (.gd ..),.rp ..,_,h,_ | .d (.gd ..),.ip ..,_,h,_ | .d (.gd ..),.sl ..,_,h,_ | .d (.gd ..),.fn ..,_,h,_ | .d (.gd ..),.agg _,_,h,_ | .d (.gd ..),.dM _,_,h,_ | .d (.gd ..),.gd ..,_,h,_=>by simp [ah] at h
 | .d (.agg _),.ptr ..,_,h,_ | .d (.agg _),.rp ..,_,h,_ | .d (.agg _),.ip ..,_,h,_ | .d (.agg _),.sl ..,_,h,_ | .d (.agg _),.fn ..,_,h,_ | .d (.agg _),.agg _,_,h,_ | .d (.agg _),.dM _,_,h,_ | .d (.agg _),.gd ..,_,h,_=>by simp [ah] at h
 | .dV,.d _,_,h,_ | .dV,.ptr ..,_,h,_ | .dV,.rp ..,_,h,_ | .dV,.ip ..,_,h,_ | .dV,.sl ..,_,h,_ | .dV,.fn ..,_,h,_ | .dV,.agg _,_,h,_ | .dV,.dM _,_,h,_ | .dV,.gd ..,_,h,_=>by simp [ah] at h
 | .top,.dV,_,h,_ | .d (.val _),.dV,_,h,_ | .d (.dO ..),.dV,_,h,_ | .d (.fn ..),.dV,_,h,_ | .d (.gd ..),.dV,_,h,_ | .d (.agg _),.dV,_,h,_ | .ptr ..,.dV,_,h,_ | .rp ..,.dV,_,h,_ | .ip ..,.dV,_,h,_ | .sl ..,.dV,_,h,_ | .fn ..,.dV,_,h,_ | .agg _,.dV,_,h,_ | .dM _,.dV,_,h,_ | .gd ..,.dV,_,h,_=>by simp [ah] at h
theorem gO (S:aJ G J w ι obj) {ρ Z:List Nat} : ∀ (xs ys:List LV) (vs:List Value),ag obj ρ Z xs ys→cA J w ι xs vs→cA (fun b=>J b∨G8 ι obj Z b) w (jh ι ρ) ys vs
 | [],[],[],_,_=>trivial
 | x::xs,y::ys,v::vs,h,k=>by
   have h':ah obj ρ Z x y∧ag obj ρ Z xs ys:=by simpa only [ag] using h
   exact ⟨mF S x y v h'.1 k.1,gO S xs ys vs h'.2 k.2⟩
 | [],_::_,_,h,_=>by simp [ag] at h
 | _::_,[],_,h,_=>by simp [ag] at h
 | [],[],_::_,_,k=>k.elim
 | _::_,_::_,[],_,k=>k.elim
end
end
end Dv
namespace Dv
open Go
def bC (ρ:List Nat) (base i:Nat):Nat:=match ρ[i]? with
 | some o=>o
 | none=>base+(i-ρ.length)
def gJ (obj:Nat→cG):List Nat→List (Nat×aG)
 | []=>[]
 | z::Z=>match obj z with
   | .live (.dat et e rows)=>(z,.kK et e rows)::gJ obj Z
   | _=>gJ obj Z
structure cD (P:Program) (G:Nat→Option (List DV)) (f:Nat) (args:List LV) (obj:Nat→cG) (base:Nat) (e:fC):Prop where
 mk::
 ex:∃ (ρ Z:List Nat) (tmp:Bool) (a_:List LV) (aI:List aG) (r:LV) (ax:List aG) (keep:Nat→Bool),(∀ (i o:Nat),ρ[i]? = some o→keep o=false→ax[i]? = aI[i]?)∧
  ρ.Nodup∧(∀ z∈Z,z∉ρ)∧(∀ z∈Z,∃ et e rows,obj z=.live (.dat et e rows)∨obj z=.live (.kK et e rows))∧aI.length=ρ.length∧(∀ (i o:Nat),ρ[i]? = some o→∃ ob,aI[i]? = some ob∧obj o=.live (fq (bC ρ base) ob))∧aI.all (dW ρ.length)=true∧
  ag obj ρ Z args a_∧(tmp=true→pS r=true∧ax=[]∧ρ=[])∧aI.length≤ax.length∧
  bu P G f a_ aI r ax∧
  e = { r:=rn (bC ρ base) r,rd:=ρ++Z,wr:=((ρ.zip (ax.map (fq (bC ρ base)))).filter fun p=>keep p.1)++(if tmp then [] else gJ obj Z),nw:=(ax.drop ρ.length).map (fq (bC ρ base)) }
def xl (P:Program) (G:Nat→Option (List DV)) (f:Nat) (args:List LV) (af:List aG) (p:Value) (aA:List aG):Prop:=
 ng P f=true∧∀ J ι w (vs:Array Value),aJ G J w ι (aC (af.map some))→cA J w ι args vs.toList→
  Calls P f vs w (fun e w'=>e=.panicked [{ v:=p,recovered:=false }]∧bn G (aC (af.map some)) (aC (aA.map some)) J ι w .top Go.undef w')
structure fD (P:Program) (G:Nat→Option (List DV)) (f:Nat) (args:List LV) (obj:Nat→cG) (base:Nat) (p:Value) (e:fC):Prop where
 mk::
 ex:∃ (ρ Z:List Nat) (a_:List LV) (aI ax:List aG),
  ρ.Nodup∧(∀ z∈Z,z∉ρ)∧(∀ z∈Z,∃ et e rows,obj z=.live (.dat et e rows)∨obj z=.live (.kK et e rows))∧aI.length=ρ.length∧(∀ (i o:Nat),ρ[i]? = some o→∃ ob,aI[i]? = some ob∧obj o=.live (fq (bC ρ base) ob))∧aI.all (dW ρ.length)=true∧
  ag obj ρ Z args a_∧aI.length≤ax.length∧
  xl P G f a_ aI p ax∧
  e = { r:=.top,rd:=ρ++Z,wr:=(ρ.zip (ax.map (fq (bC ρ base))))++gJ obj Z,nw:=(ax.drop ρ.length).map (fq (bC ρ base)) }
section
variable {P:Program} {G:Nat→Option (List DV)} {J J':Nat→Prop} {w w':World} {ι ι':Nat→Nat→Option Nat} {obj:Nat→cG}
theorem ZF (π:Nat→Nat):(∀ x:LV,pS x=true→pS (rn π x)=true)∧(∀ xs:List LV,uR xs=true→uR (mT π xs)=true):=by
 have one:∀ n,(∀ x:LV,sizeOf x<n→pS x=true→pS (rn π x)=true)∧(∀ xs:List LV,sizeOf xs<n→uR xs=true→uR (mT π xs)=true):=by
  intro n
  induction n with
  | zero=>exact ⟨fun _ h=>absurd h (by omega),fun _ h=>absurd h (by omega)⟩
  | succ n ih=>
    refine ⟨fun x hs h=>?_,fun xs hs h=>?_⟩
    ·cases x <;> simp only [rn] <;> (try exact h) <;> simp only [pS,Bool.and_eq_true] at h ⊢ <;> simp at hs
     ·exact ⟨ih.2 _ (by omega) h.1,ih.2 _ (by omega) h.2⟩
     ·exact ih.2 _ (by omega) h
     ·exact ih.2 _ (by omega) h
     ·exact ih.1 _ (by omega) h
    ·cases xs with
     | nil=>rfl
     | cons x xs=>
       simp only [mT,uR,Bool.and_eq_true] at h ⊢
       simp at hs
       exact ⟨ih.1 _ (by omega) h.1,ih.2 _ (by omega) h.2⟩
 exact ⟨fun x=>(one (sizeOf x+1)).1 x (by omega),fun xs=>(one (sizeOf xs+1)).2 xs (by omega)⟩
theorem uS:∀ (l:List aG) (base:Nat) (obj:Nat→cG) (o:Nat),qU base l obj o=if base≤o then (match l[o-base]? with | some ob=>.live ob | none=>obj o) else obj o
 | [],base,obj,o=>by simp [qU]
 | ob::r,base,obj,o=>by
   simp only [qU]
   by_cases h:o=base
   ·subst h; simp
   ·rw [if_neg h,uS r (base+1) obj o]
    by_cases h2:base+1≤o
    ·rw [if_pos h2,if_pos (by omega)]
     have:o-base=(o-(base+1))+1:=by omega
     rw [this]; simp
    ·rw [if_neg h2,if_neg (by omega)]
theorem iW:∀ (l m:List (Nat×aG)) (obj:Nat→cG),de (l++m) obj=de l (de m obj)
 | [],_,_=>rfl
 | (k,ob)::r,m,obj=>by simp only [List.cons_append,de,iW r m obj]
theorem zc:∀ (ρ:List Nat) (l:List aG) (obj:Nat→cG) (o:Nat),ρ.Nodup→ρ.length≤l.length→
  (∀ (i:Nat),ρ[i]? = some o→∃ ob,l[i]? = some ob∧de (ρ.zip l) obj o=.live ob)∧(o∉ρ→de (ρ.zip l) obj o=obj o)
 | [],l,obj,o,_,_=>⟨fun i h=>by simp at h,fun _=>rfl⟩
 | k::ρ,[],obj,o,_,h=>by simp at h
 | k::ρ,x::l,obj,o,hn,h=>by
   have hn':=List.nodup_cons.1 hn
   obtain ⟨h1,h2⟩:=zc ρ l obj o hn'.2 (by simpa using h)
   refine ⟨fun i hi=>?_,fun ho=>?_⟩
   ·cases i with
    | zero=>
      simp at hi; subst hi
      exact ⟨x,by simp,by simp [de]⟩
    | succ i=>
      have hi':ρ[i]? = some o:=by simpa using hi
      obtain ⟨ob,k1,k2⟩:=h1 i hi'
      refine ⟨ob,by simpa using k1,?_⟩
      simp only [List.zip_cons_cons,de]
      have hok:o≠k:=fun e=>hn'.1 (by rw [← e]; exact List.mem_of_getElem? hi')
      rw [if_neg hok]
      exact k2
   ·simp only [List.mem_cons,not_or] at ho
    simp only [List.zip_cons_cons,de]
    rw [if_neg ho.1]; exact h2 ho.2
theorem lC (bx:Nat→cG):∀ (Z:List Nat) (obj:Nat→cG) (o:Nat),
  (o∈Z→∀ et e rows,bx o=.live (.dat et e rows)→de (gJ bx Z) obj o=.live (.kK et e rows))∧((o∉Z∨∀ et e rows,bx o≠.live (.dat et e rows))→de (gJ bx Z) obj o=obj o)
 | [],obj,o=>⟨(fun h=>by cases h),(fun _=>rfl)⟩
 | z::Z,obj,o=>by
   obtain ⟨h1,h2⟩:=lC bx Z obj o
   refine ⟨fun ho et e rows e_=>?_,fun ho=>?_⟩
   ·simp only [gJ]
    by_cases hz:o=z
    ·subst hz; rw [e_]; simp [de]
    ·have hoZ:o∈Z:=(List.mem_cons.1 ho).resolve_left hz
     split
     ·simp only [de]; rw [if_neg hz]; exact h1 hoZ et e rows e_
     ·exact h1 hoZ et e rows e_
   ·simp only [gJ]
    have hr:de (gJ bx Z) obj o=obj o:=h2 (ho.imp (fun h hm=>h (by simp [hm])) id)
    split
    ·rename_i et e rows e_
     simp only [de]
     by_cases hz:o=z
     ·subst hz
      rcases ho with ho | ho
      ·exact absurd (by simp) ho
      ·exact absurd e_ (ho et e rows)
     ·rw [if_neg hz]; exact hr
    ·exact hr
theorem qR (l:List aG) (o:Nat):aC (l.map some) o=(match l[o]? with | some ob=>.live ob | none=>.free):=by
 unfold aC
 rw [List.getElem?_map]
 cases l[o]? <;> rfl
theorem wA:∀ {l:List Nat} {i j:Nat},l.Nodup→(hi:i<l.length)→(hj:j<l.length)→l[i]=l[j]→i=j
 | [],i,_,_,hi,_,_=>by simp at hi
 | x::l,0,0,_,_,_,_=>rfl
 | x::l,0,j+1,hn,_,hj,h=>by
   have:=(List.nodup_cons.1 hn).1
   simp at h hj
   exact absurd (by rw [h]; exact List.getElem_mem _) this
 | x::l,i+1,0,hn,hi,_,h=>by
   have:=(List.nodup_cons.1 hn).1
   simp at h hi
   exact absurd (by rw [← h]; exact List.getElem_mem _) this
 | x::l,i+1,j+1,hn,hi,hj,h=>by
   simp at h hi hj
   rw [wA (List.nodup_cons.1 hn).2 hi hj h]
theorem jt {ρ:List Nat} {base i o:Nat} (h:ρ[i]? = some o):bC ρ base i=o:=by simp [bC,h]
theorem lW {ρ:List Nat} {base i:Nat} (h:ρ.length≤i):bC ρ base i=base+(i-ρ.length):=by
 simp [bC,List.getElem?_eq_none h]
theorem oq {f:Nat} (h:ng P f=true) (args:Array Value) (w:World):(callFunc f args).run P w=.ok (.enter f args) w:=by
 unfold ng at h
 split at h
 ·rename_i fn hfn
  simp only [Bool.and_eq_true,bne_iff_ne,ne_eq] at h
  obtain ⟨h1,h2⟩:=h
  have h3:fn.body.isNone=false:=by cases hb:fn.body <;> simp_all
  simp only [callFunc,Sem.run_bind,run_program,Result.andThen_ok,hfn,h3]
  rw [if_neg (by simpa using h1)]
  rfl
 ·cases h
theorem aJ.sub (S:aJ G J w ι obj) {ρ Z:List Nat} {aI:List aG} {base:Nat} (hn:ρ.Nodup) (hz:∀ z∈Z,z∉ρ) (hl:aI.length=ρ.length)
  (ho:∀ (i o:Nat),ρ[i]? = some o→∃ ob,aI[i]? = some ob∧obj o=.live (fq (bC ρ base) ob)) (hid:aI.all (dW ρ.length)=true) (yw:∀ z∈Z,∃ et e rows,obj z=.live (.dat et e rows)∨obj z=.live (.kK et e rows)) :
  aJ G (fun b=>J b∨G8 ι obj Z b) w (jh ι ρ) (aC (aI.map some))∧(∀ i b,(aC (aI.map some) i).own (jh ι ρ) i b→∃ o,ρ[i]? = some o∧(obj o).own ι o b):=by
 have hown:∀ i b,(aC (aI.map some) i).own (jh ι ρ) i b→∃ o,ρ[i]? = some o∧(obj o).own ι o b:=by
  intro i b h
  rw [qR] at h
  cases hi:aI[i]? with
  | none=>rw [hi] at h; exact h.elim
  | some ob=>
    rw [hi] at h
    have hlt:i<ρ.length:=by rw [← hl]; exact (List.getElem?_eq_some_iff.1 hi).1
    obtain ⟨ob',k1,k2⟩:=ho i _ (List.getElem?_eq_getElem hlt)
    rw [hi] at k1; cases k1
    refine ⟨ρ[i],List.getElem?_eq_getElem hlt,?_⟩
    rw [k2]
    cases ob <;> (simp [cG.own,aG.own,fq,jh,List.getElem?_eq_getElem hlt] at h ⊢; try exact h)
 refine ⟨⟨fun i=>?_,?_,?_,?_,?_⟩,hown⟩
 ·rw [qR]
  cases hi:aI[i]? with
  | none=>
    intro n
    have:ρ[i]? = none:=List.getElem?_eq_none (by rw [← hl]; exact List.getElem?_eq_none_iff.1 hi)
    simp [jh,this]
  | some ob=>
    have hlt:i<ρ.length:=by rw [← hl]; exact (List.getElem?_eq_some_iff.1 hi).1
    have hρ:=List.getElem?_eq_getElem hlt
    obtain ⟨ob',k1,k2⟩:=ho i _ hρ
    rw [hi] at k1; cases k1
    have gm:=S.rep ρ[i]
    rw [k2] at gm
    have hsub:∀ n,jh ι ρ i n=ι ρ[i] n:=fun n=>by simp [jh,hρ]
    have ach:dW ρ.length ob=true:=(List.all_eq_true.1 hid) ob (List.mem_of_getElem? hi)
    cases ob with
    | box et cells=>
      obtain ⟨⟨b,C,h1,h2,h3⟩,_⟩:=gm
      refine ⟨⟨b,C,by rw [hsub]; exact h1,h2,?_⟩,trivial⟩
      have h4:bP J w (jh ι ρ) cells C.toList:=bP.rn (k0:=ρ.length) (π:=bC ρ base) (fun o n b ho hb=>by
       have hq:=List.getElem?_eq_getElem ho
       rw [jt hq] at hb
       simp [jh,hq,hb]) cells _ (by simpa [dW] using ach) h3
      exact bP.mono (fun _ h=>.inl h) (fun _ _=>rfl) (fun _ _ _ h=>h) (fun _ _=>rfl) _ _ h4
    | mp es=>
      obtain ⟨⟨b,C,c,h1,h2,h3⟩,_⟩:=gm
      refine ⟨⟨b,C,c,by rw [hsub]; exact h1,h2,?_⟩,trivial⟩
      have h4:jd J w (jh ι ρ) es C.toList:=jd.rn (k0:=ρ.length) (π:=bC ρ base) (fun o n b ho hb=>by
       have hq:=List.getElem?_eq_getElem ho
       rw [jt hq] at hb
       simp [jh,hq,hb]) es _ (by simpa [dW] using ach) h3
      exact jd.mono (fun _ h=>.inl h) (fun _ _=>rfl) (fun _ _ _ h=>h) (fun _ _=>rfl) _ _ h4
    | dat et e rows=>
      obtain ⟨⟨h1,h2⟩,h3⟩:=gm
      refine ⟨⟨by rw [hsub]; exact h1,fun b hb=>?_⟩,fun n hn=>by rw [hsub]; exact h3 n hn⟩
      rw [hsub] at hb
      obtain ⟨h4,h5⟩:=h2 b hb
      exact ⟨h4,bJ.mono (fun _ h=>.inl h) (fun _ _=>rfl) _ _ _ _ rfl h5⟩
    | kK et e rows=>
      obtain ⟨⟨h1,h2⟩,h3⟩:=gm
      refine ⟨⟨by rw [hsub]; exact h1,fun b hb=>?_⟩,trivial⟩
      rw [hsub] at hb
      obtain ⟨h4,h5⟩:=h2 b hb
      exact ⟨.inl h4,bJ.mono (fun _ h=>.inl h) (fun _ _=>rfl) _ _ _ _ rfl h5⟩
 ·intro i i' b h h'
  obtain ⟨o,k1,k2⟩:=hown i b h
  obtain ⟨o',Hh,k2'⟩:=hown i' b h'
  have:=S.inj o o' b k2 k2'
  subst this
  have hi:=(List.getElem?_eq_some_iff.1 k1).1
  have hi':=(List.getElem?_eq_some_iff.1 Hh).1
  have e1:=(List.getElem?_eq_some_iff.1 k1).2
  have e2:=(List.getElem?_eq_some_iff.1 Hh).2
  exact wA hn hi hi' (e1.trans e2.symm)
 ·rintro i b h hJ
  obtain ⟨o,k1,k2⟩:=hown i b h
  rcases hJ with hJ | ⟨z,YT,KJ⟩
  ·exact S.sB o b k2 hJ
  ·have:=S.inj o z b k2 KJ
   subst this
   exact hz o YT (List.mem_of_getElem? k1)
 ·rintro b (h | ⟨z,_,h⟩)
  ·exact S.jcell b h
  ·rename_i hz
   exact S.Ss (yw z hz) h
 ·intro g row hg
  obtain ⟨h1,h2,h3⟩:=S.yx g row hg
  exact ⟨.inl h1,dP.mono (fun _ h=>.inl h) (fun _ _=>rfl) _ _ _ rfl h2,h3⟩
theorem bn.call (S:aJ G J w ι obj) {ρ Z:List Nat} {tmp:Bool} {aI ax:List aG} {base:Nat} {r:LV} {v:Value} (hn:ρ.Nodup) (hz:∀ z∈Z,z∉ρ) (hl:aI.length=ρ.length)
  (ho:∀ (i o:Nat),ρ[i]? = some o→∃ ob,aI[i]? = some ob∧obj o=.live (fq (bC ρ base) ob)) (hid:aI.all (dW ρ.length)=true)
  (yw:∀ z∈Z,∃ et e rows,obj z=.live (.dat et e rows)∨obj z=.live (.kK et e rows)) (Gb:tmp=true→pS r=true∧ax=[]∧ρ=[]) (hle:aI.length≤ax.length) (hfree:∀ j,j<ax.length-ρ.length→obj (base+j)=.free)
  (hA:bn G (aC (aI.map some)) (aC (ax.map some)) (fun b=>J b∨G8 ι obj Z b) (jh ι ρ) w r v w') :
  bn G obj (bO obj base { r:=rn (bC ρ base) r,rd:=ρ++Z,wr:=(ρ.zip (ax.map (fq (bC ρ base))))++(if tmp then [] else gJ obj Z),nw:=(ax.drop ρ.length).map (fq (bC ρ base)) }) J ι w (rn (bC ρ base) r) v w':=by
 obtain ⟨SF,ab0⟩:=S.sub (base:=base) hn hz hl ho hid yw
 obtain ⟨J2,yC,S2,hr,E2⟩:=hA
 -- names
 generalize hm:ax.length=m at *
 have hkm:ρ.length≤m:=by omega
 have hnew:∀ j,j<m-ρ.length→∀ n,ι (base+j) n=none:=fun j hj=>by
  have:=S.rep (base+j); rw [hfree j hj] at this; exact this
 have Ej:∀ {i o:Nat},ρ[i]? = some o→∃ ob,obj o=.live ob:=fun h=>by obtain ⟨ob,_,k⟩:=ho _ _ h; exact ⟨_,k⟩
 have hinj:∀ i i',i<m→i'<m→bC ρ base i=bC ρ base i'→i=i':=by
  intro i i' hi hi' h
  rcases Nat.lt_or_ge i ρ.length with h1 | h1 <;> rcases Nat.lt_or_ge i' ρ.length with h2 | h2
  ·rw [jt (List.getElem?_eq_getElem h1),jt (List.getElem?_eq_getElem h2)] at h
   exact wA hn h1 h2 h
  ·rw [jt (List.getElem?_eq_getElem h1),lW h2] at h
   obtain ⟨ob,k⟩:=Ej (List.getElem?_eq_getElem h1)
   rw [h,hfree _ (by omega)] at k; cases k
  ·rw [lW h1,jt (List.getElem?_eq_getElem h2)] at h
   obtain ⟨ob,k⟩:=Ej (List.getElem?_eq_getElem h2)
   rw [← h,hfree _ (by omega)] at k; cases k
  ·rw [lW h1,lW h2] at h; omega
 let idx:Nat→Option Nat:=fun o=>(List.range m).find? (fun i=>bC ρ base i==o)
 have hidx:∀ i,i<m→idx (bC ρ base i)=some i:=by
  intro i hi
  cases hx:idx (bC ρ base i) with
  | none=>
    have:=List.find?_eq_none.1 hx i (by simpa using hi)
    simp at this
  | some i'=>
    have h1:=List.find?_some hx
    have h2:i'<m:=by simpa using List.mem_of_find?_eq_some hx
    simp only [beq_iff_eq] at h1
    rw [hinj i' i h2 hi h1]
 have Qz:∀ o i,idx o=some i→i<m∧bC ρ base i=o:=by
  intro o i hx
  have h1:=List.find?_some hx
  have h2:i<m:=by simpa using List.mem_of_find?_eq_some hx
  exact ⟨h2,by simpa using h1⟩
 let ι':Nat→Nat→Option Nat:=fun o n=>match idx o with | some i=>yC i n | none=>ι o n
 have BG:∀ i n,i<m→ι' (bC ρ base i) n=yC i n:=fun i n hi=>by simp only [ι',hidx i hi]
 have aah:∀ o n,idx o=none→ι' o n=ι o n:=fun o n h=>by simp only [ι',h]
 have Qd:∀ i n,m≤i→yC i n=none:=fun i n hi=>by
  have:=S2.rep i
  rw [qR,List.getElem?_eq_none (by rw [hm]; exact hi)] at this
  exact this n
 have aaw:∀ o n b,ι o n=some b→ι' o n=some b:=by
  intro o n b hb
  cases hx:idx o with
  | none=>rw [aah o n hx]; exact hb
  | some i=>
    obtain ⟨hi,hpi⟩:=Qz o i hx
    rw [← hpi,BG i n hi]
    rcases Nat.lt_or_ge i ρ.length with h1 | h1
    ·rw [jt (List.getElem?_eq_getElem h1)] at hpi
     exact E2.ev.iy i n b (by simp [jh,List.getElem?_eq_getElem h1,hpi,hb])
    ·rw [lW h1] at hpi
     rw [← hpi,hnew _ (by omega)] at hb; cases hb
 have hun:∀ o n b,yC o n=some b→ι' (bC ρ base o) n=some b:=by
  intro o n b hb
  rcases Nat.lt_or_ge o m with h1 | h1
  ·rw [BG o n h1]; exact hb
  ·rw [Qd o n h1] at hb; cases hb
 let J':Nat→Prop:=fun b=>if tmp=true then J b else J2 b
 have acA:∀ b,J b→J' b:=fun b hb=>by
  simp only [J']; split
  ·exact hb
  ·exact E2.ev.iw b (.inl hb)
 have u6:∀ b,Own (jh ι ρ) (aC (aI.map some)) b→∃ o,o∈ρ∧(obj o).own ι o b:=fun b ⟨i,hi⟩=>by
  obtain ⟨o,k1,k2⟩:=ab0 i b hi
  exact ⟨o,List.mem_of_getElem? k1,k2⟩
 have E:Ev (Own ι obj) J J' ι ι' w w':=by
  refine ⟨E2.ev.os,E2.ev.tape,E2.ev.output,E2.ev.size,fun b hb hno=>E2.ev.same b hb (fun h=>?_),E2.ev.shape,acA,fun b hb=>?_,aaw⟩
  ·obtain ⟨o,_,k⟩:=u6 b h; exact hno ⟨o,k⟩
  ·simp only [J'] at hb
   split at hb
   ·exact .inl hb
   ·rcases E2.ev.uY b hb with (h | ⟨z,_,h⟩) | h | h
    ·exact .inl h
    ·exact .inr (.inr ⟨z,h⟩)
    ·exact .inr (.inl h)
    ·obtain ⟨o,_,k⟩:=u6 b h; exact .inr (.inr ⟨o,k⟩)
 -- what the objects are
 generalize YZ:bO obj base { r:=rn (bC ρ base) r,rd:=ρ++Z,wr:=(ρ.zip (ax.map (fq (bC ρ base))))++(if tmp then [] else gJ obj Z),nw:=(ax.drop ρ.length).map (fq (bC ρ base)) } = obj'
 have Qp:∀ i ob,ax[i]? = some ob→obj' (bC ρ base i)=.live (fq (bC ρ base) ob):=by
  intro i ob hi
  have him:i<m:=by rw [← hm]; exact (List.getElem?_eq_some_iff.1 hi).1
  rw [← YZ]
  simp only [bO,uS]
  rcases Nat.lt_or_ge i ρ.length with h1 | h1
  ·have aag:=List.getElem?_eq_getElem h1
   rw [jt aag]
   have adh:=((zc ρ (ax.map (fq (bC ρ base))) (de (if tmp then [] else gJ obj Z) obj) ρ[i] hn (by simp; omega)).1 i aag)
   obtain ⟨ob',k1,k2⟩:=adh
   rw [List.getElem?_map,hi] at k1
   simp only [Option.map_some,Option.some.injEq] at k1
   subst k1
   rw [iW,k2]
   split
   ·rename_i hb
    split
    ·rename_i ob2 ado
     obtain ⟨ob3,k3⟩:=Ej aag
     have hlt:ρ[i]-base<m-ρ.length:=by
      have:=(List.getElem?_eq_some_iff.1 ado).1
      simp at this; omega
     have:=hfree _ hlt
     rw [show base+(ρ[i]-base)=ρ[i] by omega,k3] at this
     cases this
    ·rfl
   ·rfl
  ·rw [lW h1,if_pos (by omega)]
   have:base+(i-ρ.length)-base=i-ρ.length:=by omega
   rw [this,List.getElem?_map,List.getElem?_drop,show ρ.length+(i-ρ.length)=i by omega,hi]
   rfl
 have Y8:∀ {o:Nat},o∉ρ→de ((ρ.zip (ax.map (fq (bC ρ base))))++(if tmp then [] else gJ obj Z)) obj o=de (if tmp then [] else gJ obj Z) obj o:=fun h=>by
  rw [iW]
  exact (zc ρ _ _ _ hn (by simp; omega)).2 h
 have IU:∀ o,idx o=none→o∉ρ∧obj' o=de (if tmp then [] else gJ obj Z) obj o:=by
  intro o hx
  have hno:∀ i,i<m→bC ρ base i≠o:=fun i hi h=>by rw [← h,hidx i hi] at hx; cases hx
  have hρ:o∉ρ:=fun h=>by
   obtain ⟨i,hi,he⟩:=List.mem_iff_getElem.1 h
   exact hno i (by omega) (by rw [jt (List.getElem?_eq_getElem hi)]; exact he)
  refine ⟨hρ,?_⟩
  rw [← YZ]
  simp only [bO,uS]
  split
  ·rename_i hb
   split
   ·rename_i ob e_
    have hlt:=(List.getElem?_eq_some_iff.1 e_).1
    simp at hlt
    exact absurd (by rw [lW (by omega)]; omega) (hno (ρ.length+(o-base)) (by omega))
   ·exact Y8 hρ
  ·exact Y8 hρ
 -- what is owned
 have hown2:∀ o b,(obj' o).own ι' o b→(∃ i,i<m∧bC ρ base i=o∧(aC (ax.map some) i).own yC i b)∨(idx o=none∧obj' o=obj o∧(obj o).own ι o b∧(tmp=false→o∉Z)):=by
  intro o b h
  cases hx:idx o with
  | some i=>
    obtain ⟨hi,hpi⟩:=Qz o i hx
    left
    refine ⟨i,hi,hpi,?_⟩
    have mh:=List.getElem?_eq_getElem (l:=ax) (i:=i) (by omega)
    rw [qR,mh]
    rw [← hpi,Qp i _ mh] at h
    have:∀ ob:aG,(cG.live (fq (bC ρ base) ob)).own ι' (bC ρ base i) b→(cG.live ob).own yC i b:=fun ob h=>by
     cases ob <;> (simp [cG.own,aG.own,fq,BG i _ hi] at h ⊢; try exact h)
    exact this _ h
  | none=>
    right
    obtain ⟨hρ,e_⟩:=IU o hx
    have hk:∀ n,ι' o n=ι o n:=fun n=>aah o n hx
    by_cases ht:tmp=true
    ·rw [if_pos ht] at e_
     simp only [de] at e_
     rw [e_] at h
     exact ⟨rfl,e_,(cG.lX hk).1 h,fun hf=>by rw [ht] at hf; cases hf⟩
    ·rw [if_neg ht] at e_
     by_cases hd:o∈Z∧∃ et e rows,obj o=.live (.dat et e rows)
     ·obtain ⟨hZ,et,e,rows,hd⟩:=hd
      rw [(lC obj Z obj o).1 hZ et e rows hd] at e_
      rw [e_] at h
      exact h.elim
     ·have ab6:obj' o=obj o:=by
       rw [e_]
       refine (lC obj Z obj o).2 ?_
       rcases Classical.em (o∈Z) with hZ | hZ
       ·exact .inr (fun et e rows hh=>hd ⟨hZ,et,e,rows,hh⟩)
       ·exact .inl hZ
      rw [ab6] at h
      refine ⟨rfl,ab6,(cG.lX hk).1 h,fun _ hZ=>?_⟩
      obtain ⟨et,e,rows,hh | hh⟩:=yw o hZ
      ·exact hd ⟨hZ,et,e,rows,hh⟩
      ·rw [hh] at h; exact h
 have hlt:∀ o b,(obj o).own ι o b→b<w.heap.size:=fun o b h=>S.nI ⟨o,h⟩
 have En:∀ i b,(aC (ax.map some) i).own yC i b→(∃ o,o∈ρ∧(obj o).own ι o b)∨w.heap.size≤b:=fun i b h=>(E2.own b ⟨i,h⟩).imp (u6 b) id
 have IE:∀ o,o∈ρ→idx o≠none:=fun o ho' hx=>(IU o hx).1 ho'
 have S':aJ G J' w' ι' obj':=by
  refine ⟨fun o=>?_,?_,?_,?_,?_⟩
  ·cases hx:idx o with
   | some i=>
     obtain ⟨hi,hpi⟩:=Qz o i hx
     have mh:=List.getElem?_eq_getElem (l:=ax) (i:=i) (by omega)
     have h2:=S2.rep i
     rw [qR,mh] at h2
     rw [← hpi,Qp i _ mh]
     have htf:tmp≠true:=fun ht=>by
      have:=(Gb ht).2.1
      rw [this] at hm; simp at hm; omega
     have I8:∀ b,J2 b→J' b:=fun b hb=>by simp only [J']; rw [if_neg htf]; exact hb
     generalize ax[i]=ob at h2 ⊢
     cases ob with
     | box et cells=>
       obtain ⟨⟨b,C,h3,h4,h5⟩,_⟩:=h2
       exact ⟨⟨b,C,by rw [BG i 0 hi]; exact h3,h4,bP.mono I8 (fun _ _=>rfl) (fun _ _ _ h=>h) (fun _ _=>rfl) _ _ (bP.qj hun _ _ h5)⟩,trivial⟩
     | mp es=>
       obtain ⟨⟨b,C,c,h3,h4,h5⟩,_⟩:=h2
       exact ⟨⟨b,C,c,by rw [BG i 0 hi]; exact h3,h4,jd.mono I8 (fun _ _=>rfl) (fun _ _ _ h=>h) (fun _ _=>rfl) _ _ (jd.qj hun _ _ h5)⟩,trivial⟩
     | dat et e rows=>
       obtain ⟨⟨h3,h4⟩,h5⟩:=h2
       refine ⟨⟨by rw [BG i _ hi]; exact h3,fun b hb=>?_⟩,fun n hn'=>by rw [BG i n hi]; exact h5 n hn'⟩
       rw [BG i _ hi] at hb
       obtain ⟨h6,h7⟩:=h4 b hb
       exact ⟨h6,bJ.mono I8 (fun _ _=>rfl) _ _ _ _ rfl h7⟩
     | kK et e rows=>
       obtain ⟨⟨h3,h4⟩,h5⟩:=h2
       refine ⟨⟨by rw [BG i _ hi]; exact h3,fun b hb=>?_⟩,trivial⟩
       rw [BG i _ hi] at hb
       obtain ⟨h6,h7⟩:=h4 b hb
       exact ⟨I8 b h6,bJ.mono I8 (fun _ _=>rfl) _ _ _ _ rfl h7⟩
   | none=>
     obtain ⟨hρ,e_⟩:=IU o hx
     have hk:∀ n,ι' o n=ι o n:=fun n=>aah o n hx
     have hblk:∀ b,(obj o).own ι o b→w'.heap[b]? = w.heap[b]?:=fun b hb=>E2.ev.same b (hlt o b hb) (fun h=>by
      obtain ⟨o',h1,h2⟩:=u6 b h
      have:=S.inj o o' b hb h2
      subst this; exact hρ h1)
     have keep:=nS.keep S E hk hblk
     by_cases ht:tmp=true
     ·rw [if_pos ht] at e_
      simp only [de] at e_
      rw [e_]; exact keep
     ·rw [if_neg ht] at e_
      by_cases hZ:o∈Z
      ·obtain ⟨et,e,rows,hd | hd⟩:=yw o hZ
       rotate_left 1
       ·rw [(lC obj Z obj o).2 (.inr (fun _ _ _ hh=>by rw [hd] at hh; cases hh))] at e_
        rw [e_]; exact keep
       rw [(lC obj Z obj o).1 hZ et e rows hd] at e_
       rw [e_]
       rw [hd] at keep
       obtain ⟨⟨h1,h2⟩,_⟩:=keep
       refine ⟨⟨h1,fun b hb=>?_⟩,trivial⟩
       obtain ⟨_,h3⟩:=h2 b hb
       refine ⟨?_,h3⟩
       simp only [J']; rw [if_neg ht]
       refine E2.ev.iw b (.inr ⟨o,hZ,?_⟩)
       rw [hd]
       rw [hk] at hb; exact hb
      ·rw [(lC obj Z obj o).2 (.inl hZ)] at e_
       rw [e_]; exact keep
  ·intro o o' b h h'
   rcases hown2 o b h with ⟨i,hi,hpi,k⟩ | ⟨hx,_,k,_⟩ <;> rcases hown2 o' b h' with ⟨i',hi',adj,k'⟩ | ⟨hx',_,k',_⟩
   ·rw [← hpi,← adj,S2.inj i i' b k k']
   ·rcases En i b k with ⟨o2,h1,h2⟩ | h1
    ·have:=S.inj _ _ _ h2 k'
     subst this
     exact absurd hx' (IE _ h1)
    ·have:=hlt _ _ k'; omega
   ·rcases En i' b k' with ⟨o2,h1,h2⟩ | h1
    ·have:=S.inj _ _ _ h2 k
     subst this
     exact absurd hx (IE _ h1)
    ·have:=hlt _ _ k; omega
   ·exact S.inj _ _ _ k k'
  ·intro o b h hJb
   rcases hown2 o b h with ⟨i,hi,hpi,k⟩ | ⟨hx,_,k,hZ⟩
   ·have htf:tmp≠true:=fun ht=>by
     have:=(Gb ht).2.1
     rw [this] at hm; simp at hm; omega
    simp only [J'] at hJb
    rw [if_neg htf] at hJb
    exact S2.sB i b k hJb
   ·simp only [J'] at hJb
    split at hJb
    ·exact S.sB o b k hJb
    ·rename_i htf
     rcases E2.ev.uY b hJb with (h1 | ⟨z,YT,KJ⟩) | h1 | h1
     ·exact S.sB o b k h1
     ·have:=S.inj _ _ _ k KJ
      subst this
      exact hZ (by simpa using htf) YT
     ·have:=hlt _ _ k; omega
     ·obtain ⟨o2,h3,h4⟩:=u6 b h1
      have:=S.inj _ _ _ k h4
      subst this
      exact IE _ h3 hx
  ·intro b hb
   simp only [J'] at hb
   split at hb
   ·rw [S.same E b hb]; exact S.jcell b hb
   ·exact S2.jcell b hb
  ·intro g row hg
   obtain ⟨h1,h2,t,h3⟩:=S.yx g row hg
   exact ⟨acA g h1,h2.ev S E h1,t,by rw [E.shape g (S.ER g h1)]; exact h3⟩
 refine ⟨J',ι',S',?_,E,?_⟩
 ·have h1:=dz.qj hun r v hr
  by_cases ht:tmp=true
  ·have IT:pS (rn (bC ρ base) r)=true:=by
    have:∀ (x:LV),pS x=true→pS (rn (bC ρ base) x)=true:=by
     intro x
     exact (ZF (bC ρ base)).1 x
    exact this r (Gb ht).1
   exact dz.pS trivial _ _ IT h1
  ·have:J'=J2:=by funext b; simp only [J']; rw [if_neg ht]
   rw [this]; exact h1
 ·rintro b ⟨o,h⟩
  rcases hown2 o b h with ⟨i,hi,hpi,k⟩ | ⟨hx,_,k,_⟩
  ·rcases En i b k with ⟨o2,h1,h2⟩ | h1
   ·exact .inl ⟨o2,h2⟩
   ·exact .inr h1
  ·exact .inl ⟨o,k⟩
end
end Dv
