/- The logical machine and its plain laws: parts V6, V7, V8, V9, V10, V11, proved sound. -/
import Derived.Test.YtkalnfkokkjliaaGreatDoorVA
import Derived.Laws.StructEq
set_option linter.unusedVariables false
set_option linter.unusedSimpArgs false
namespace Dv
open Go
inductive sw {α β:Type} (R:α→β→Prop):List α→List β→Prop
 | nil:sw R [] []
 | cons {x y xs ys} : R x y→sw R xs ys→sw R (x::xs) (y::ys)
section
variable {P:Program} {G:Nat→Option (List DV)} {J:Nat→Prop} {w w':World} {ι:Nat→Nat→Option Nat} {obj:Nat→cv} {a:Act} {get:Nat→LV} {base:Nat}
theorem oa (off:Nat):∀ (vs:List Value) (k:Nat) (cells:Array Value),off+k+vs.length≤cells.size→
  ((vs.zipIdx k).foldl (fun cs (p:Value×Nat)=>cs.setIfInBounds (off+p.2) p.1) cells).toList=splice cells.toList (off+k) vs
 | [],k,cells,h=>by simp [splice]
 | v::vs,k,cells,h=>by
   simp only [List.length_cons] at h
   simp only [List.zipIdx_cons,List.foldl_cons]
   rw [oa off vs (k+1) (cells.setIfInBounds (off+k) v) (by simp; omega),Array.toList_setIfInBounds,← Nat.add_assoc,tL _ _ _ _ (by simp; omega)]
theorem qc (S:aJ G J w ι obj) (he:∀ t,cQ J w ι (get t) (a.tmps.getD t Go.undef)) (place:Nat→Option (Nat×Nat)) :
  ∀ (parts:List (Nat×Operand)) (ps:List (Nat×Nat×bR)) (vY lcs:List LV) (cells:Array Value),
    sw (fun (p:Nat×Operand) (q:Nat×Nat×bR)=>place p.1=some (q.1,q.2.1)∧aI p.2=some q.2.2) parts ps→
    bI J w ι vY cells.toList→pF G get vY ps=some lcs→
    ∃ cs,Instr.fill place cells (parts.map fun p=>(p.1,a.eval p.2))=some cs∧bI J w ι lcs cs.toList
 | [],_,vY,lcs,cells,h,hr,hf=>by
   cases h
   simp only [pF] at hf; cases hf
   exact ⟨cells,rfl,hr⟩
 | p::parts,_,vY,lcs,cells,h,hr,hf=>by
   cases h with
   | cons h1 h2=>
     rename_i q ps
     obtain ⟨hp,hx⟩:=h1
     obtain ⟨off,size,x⟩:=q
     simp only [pF] at hf
     split at hf
     ·rename_i cs hcs
      split at hf
      ·rename_i hle
       have bY:=lN (aT S he hx) hcs
       have hl:=bY.length
       have hcl:=hr.length
       simp only [Array.length_toList] at hl hcl
       have hsz:(a.eval p.2).cells.size=cs.length:=hl.symm
       have hfold:((a.eval p.2).cells.zipIdx.foldl (fun cs (p:Value×Nat)=>cs.setIfInBounds (off+p.2) p.1) cells).toList=splice cells.toList off (a.eval p.2).cells.toList:=by
        have:=oa off (a.eval p.2).cells.toList 0 cells (by simp [hsz]; omega)
        simp only [Nat.add_zero] at this
        rw [← this,← Array.foldl_toList]
        simp
       obtain ⟨cs',k1,k2⟩:=qc S he place parts ps (splice vY off cs) lcs _ h2 (by rw [hfold]; exact hr.splice off bY) hf
       refine ⟨cs',?_,k2⟩
       simp only [List.map_cons,Instr.fill,hp]
       rw [if_neg (by rw [hsz]; simp; exact ⟨hle.1,by omega⟩)]
       exact k1
      ·cases hf
     ·cases hf
theorem qY {fs:Array Field} : ∀ {parts:List (Nat×Operand)} {ps:List (Nat×Nat×bR)},uL P fs parts=some ps→
  sw (fun (p:Nat×Operand) (q:Nat×Nat×bR)=>(∃ f,fs[p.1]? = some f∧q.1=f.offset∧dA P f.type=some q.2.1)∧aI p.2=some q.2.2) parts ps
 | [],ps,h=>by cases h; exact .nil
 | (i,x)::rest,ps,h=>by
   simp only [uL] at h
   split at h
   ·rename_i f y r h1 h2 h3
    split at h
    ·rename_i n hn
     cases h
     exact .cons ⟨⟨f,h1,rfl,hn⟩,h2⟩ (qY h3)
    ·cases h
   ·cases h
theorem qZ {n:Nat} : ∀ {parts:List (Nat×Operand)} {ps:List (Nat×Nat×bR)},uM n parts=some ps→
  sw (fun (p:Nat×Operand) (q:Nat×Nat×bR)=>(some (p.1*n,n)=some (q.1,q.2.1))∧aI p.2=some q.2.2) parts ps
 | [],ps,h=>by cases h; exact .nil
 | (i,x)::rest,ps,h=>by
   simp only [uM] at h
   split at h
   ·rename_i y r h1 h2
    cases h
    exact .cons ⟨rfl,h1⟩ (qZ h2)
   ·cases h
theorem t_ {α β:Type} {R T:α→β→Prop} (h:∀ a b,R a b→T a b):∀ {xs:List α} {ys:List β},sw R xs ys→sw T xs ys
 | _,_,.nil=>.nil
 | _,_,.cons h1 h2=>.cons (h _ _ h1) (t_ h h2)
theorem nK:∀ (fs:List Field) (w:World),(fs.all fun f=>(dA P f.type).isSome)=true→
  (fs.mapM (fun f=>do pure (f.offset,← sizeOf f.type):Field→Sem (Nat×Nat))).run P w=.ok (fs.map fun f=>(f.offset,(dA P f.type).getD 0)) w
 | [],w,_=>rfl
 | f::fs,w,h=>by
   simp only [List.all_cons,Bool.and_eq_true] at h
   obtain ⟨n,hn⟩:=Option.isSome_iff_exists.1 h.1
   obtain ⟨i,hi,hs⟩:=bV hn
   have ih:=nK fs w h.2
   have hsz:(Go.sizeOf f.type).run P w=.ok n w:=by simp [Go.sizeOf,typeInfo,hi,hs]
   simp only [List.mapM_cons,Sem.run_bind,hsz,Sem.run_pure,Result.andThen_ok,List.map_cons,hn,Option.getD_some]
   rw [ih]
   rfl
theorem ur (fs:Array Field) (w:World) (h:B6 P fs=true) :
  (fs.mapM (fun f=>do pure (f.offset,← sizeOf f.type):Field→Sem (Nat×Nat))).run P w=.ok (fs.map fun f=>(f.offset,(dA P f.type).getD 0)) w:=by
 rw [Array.mapM_eq_mapM_toList,Sem.run_map,nK fs.toList w h]
 simp only [Result.andThen_ok]
 congr 1
 apply Array.ext'
 simp
theorem Ck (S:aJ G J w ι obj) (he:∀ t,cQ J w ι (get t) (a.tmps.getD t Go.undef)) {T:TypeId} {parts:Array (Nat×Operand)} {zero:List DV} {ps:List (Nat×Nat×bR)} {cs:List LV}
  (hc:cu P (.build T parts)=some (.build zero ps)) (hf:pF G get (zero.map .d) ps=some cs) :
  ∃ v,(Instr.build T (parts.map fun (i,x)=>(i,a.eval x))).run P w=.ok v w∧cQ J w ι (.agg cs) v:=by
 simp only [cu] at hc
 have Kr:(parts.map fun (i,x)=>(i,a.eval x)).toList=parts.toList.map fun p=>(p.1,a.eval p.2):=by simp
 split at hc
 ·rename_i z fs hz hu
  split at hc
  ·rename_i hok
   split at hc
   ·rename_i ps' hps
    cases hc
    obtain ⟨v,hv,fU⟩:=sy (J:=J) (w:=w) (ι:=ι) hz
    obtain ⟨cs',k1,k2⟩:=qc S he (fun i=>(fs.map fun f=>(f.offset,(dA P f.type).getD 0))[i]?) parts.toList ps (zero.map .d) cs v.cells
     (t_ (fun p q h=>by
      obtain ⟨⟨f,h1,h2,h3⟩,h4⟩:=h
      exact ⟨by simp [h1,h2,h3],h4⟩) (qY hps)) fU hf
    refine ⟨.agg cs',?_,cs',rfl,k2⟩
    simp only [Instr.build,Sem.run_bind,hv,Result.andThen_ok,run_underlying hu w,ur fs w hok,Kr]
    simp only [k1,Sem.run_pure]
   ·cases hc
  ·cases hc
 ·rename_i z e hz hu
  split at hc
  ·rename_i n hn
   split at hc
   ·rename_i ps' hps
    cases hc
    obtain ⟨v,hv,fU⟩:=sy (J:=J) (w:=w) (ι:=ι) hz
    obtain ⟨i,hi,hs⟩:=bV hn
    obtain ⟨cs',k1,k2⟩:=qc S he (fun i=>some (i*n,n)) parts.toList ps (zero.map .d) cs v.cells (qZ hps) fU hf
    refine ⟨.agg cs',?_,cs',rfl,k2⟩
    simp only [Instr.build,Sem.run_bind,hv,Result.andThen_ok,run_underlying hu w,Go.sizeOf,typeInfo,run_program,hi,hs,Sem.run_pure,Kr]
    simp only [k1,Sem.run_pure]
   ·cases hc
  ·cases hc
 ·cases hc
end
end Dv
namespace Dv
open Go
section
variable {P:Program} {G:Nat→Option (List DV)} {J:Nat→Prop} {w w':World} {ι:Nat→Nat→Option Nat} {obj:Nat→cv} {a:Act} {get:Nat→LV} {base:Nat}
theorem Lm {op:BinOp} {x y v:Value} (h:Pm op x y=some v) (T:TypeId) (X Y:Operand) (w:World):(do eqGuard op T X Y x y; Go.binOp op T x y).run P w=.ok v w:=by
 cases x <;> cases y <;> simp only [Pm] at h <;> (try (cases h; done))
 ·rename_i k a k' b
  cases op <;> simp only [] at h <;> (split at h <;> first | (cases h; done) | skip) <;> cases h <;>
   rename_i hc <;> first
    | (subst hc; simp [eqGuard,Go.binOp,Op.intArith,Op.intBits,Op.intCmp,rY,yA,uo,fC]; done)
    | (obtain ⟨rfl,hb⟩:=hc; simp [eqGuard,Go.binOp,Op.intDiv,hb]; done)
    | (have hn:¬ b<0:=by omega
       simp [eqGuard,Go.binOp,Op.shift,hn,zo,sG]; done)
    | (have hn:¬ b<0:=by omega
       simp only [eqGuard,Go.binOp,Op.shift,Sem.run_bind,hn,zo,sG]; rfl)
 ·rename_i a b
  cases op <;> simp only [] at h <;> (try (cases h; done)) <;> (try (split at h)) <;> (try (cases h; done)) <;> cases h <;> first
   | (simp [eqGuard,Go.binOp,Op.stringOp]; done)
   | (rename_i hc
      have hm:¬ (((a.size+b.size:Nat):Int)>IntKind.i64.max):=by
       have:IntKind.i64.max=9223372036854775807:=by decide
       rw [this]; omega
      simp only [eqGuard,Go.binOp,Op.stringOp,if_neg hm,Sem.run_bind]
      simp)
theorem A_ {T:TypeId} (h:P.underlying T=some .bool) (x y:Bool) (w:World):(Op.equal T (.bool x) (.bool y)).run P w=.ok (x==y) w:=by
 have:Op.equal T (.bool x) (.bool y)=Op.equalIn (9999+1) T (.bool x) (.bool y):=rfl
 rw [this,Op.equalIn,Sem.run_bind,run_underlying h w]
 rfl
def gJ:BinOp→Bool
 | .neq=>true
 | _=>false
theorem O9 {op:BinOp} (ho:op=.eql∨op=.neq) {T:TypeId} (h:P.underlying T=some .bool) (X Y:Operand) (x y:Bool) (w:World) :
  (do eqGuard op T X Y (.bool x) (.bool y); Go.binOp op T (.bool x) (.bool y)).run P w=.ok (.bool (bif gJ op then !(x==y) else x==y)) w:=by
 rcases ho with rfl | rfl <;> simp [eqGuard,Go.binOp,A_ h,gJ]
theorem LW {op:BinOp} (ho:op=.eql∨op=.neq) {T e:TypeId} (h:P.underlying T=some (.pointer e)) (X Y:Operand) (x:Option Addr) (w:World) :
  (do eqGuard op T X Y (.pointer x) (.pointer none); Go.binOp op T (.pointer x) (.pointer none)).run P w=.ok (.bool (bif gJ op then !x.isNone else x.isNone)) w:=by
 have hq:(Op.equal T (.pointer x) (.pointer none)).run P w=.ok x.isNone w:=by
  have:Op.equal T (.pointer x) (.pointer none)=Op.equalIn (9999+1) T (.pointer x) (.pointer none):=rfl
  rw [this,Op.equalIn,Sem.run_bind,run_underlying h w]
  cases x <;> rfl
 rcases ho with rfl | rfl <;> simp [eqGuard,Go.binOp,hq,gJ]
theorem LU {op:BinOp} (ho:op=.eql∨op=.neq) {T e:TypeId} (h:P.underlying T=some (.slice e)) (X Y:Operand) (x:Option Addr) (n c:Nat) (w:World) :
  (do eqGuard op T X Y (.slice x n c) (.slice none 0 0); Go.binOp op T (.slice x n c) (.slice none 0 0)).run P w=.ok (.bool (bif gJ op then !x.isNone else x.isNone)) w:=by
 have hq:(Op.equal T (.slice x n c) (.slice none 0 0)).run P w=.ok x.isNone w:=by
  have:Op.equal T (.slice x n c) (.slice none 0 0)=Op.equalIn (9999+1) T (.slice x n c) (.slice none 0 0):=rfl
  rw [this,Op.equalIn,Sem.run_bind,run_underlying h w]
  cases x <;> rfl
 rcases ho with rfl | rfl <;> simp [eqGuard,Go.binOp,hq,gJ]
theorem od {k:Nat} {ks:List Nat} {l m:List LV} {b:Bool} (h:dH (k::ks) l m=some b) :
  ∃ va vb p q xs ys,l=.d (.val va)::xs∧m=.d (.val vb)::ys∧CI k va vb=some p∧dH ks xs ys=some q∧b=(p&&q):=by
 cases l with
 | nil=>cases m <;> simp [dH] at h
 | cons x xs=>
   cases x with
   | d x=>
     cases x with
     | val va=>
       cases m with
       | nil=>simp [dH] at h
       | cons y ys=>
         cases y with
         | d y=>
           cases y with
           | val vb=>
             simp only [dH] at h
             split at h
             ·rename_i p q h3 h4
              exact ⟨va,vb,p,q,xs,ys,rfl,rfl,h3,h4,(Option.some.inj h).symm⟩
             ·cases h
           | _=>simp [dH] at h
         | _=>simp [dH] at h
     | _=>cases m <;> simp [dH] at h
   | _=>cases m <;> simp [dH] at h
theorem qR (d:Nat) {xs ys:Array Value} {ls ms:List LV} (hx:bI J w ι ls xs.toList) (hy:bI J w ι ms ys.toList):∀ (fs:List Field) (i:Nat) (ks:List Nat) (b:Bool),vZ P i fs=some ks→dH ks (ls.drop i) (ms.drop i)=some b→
  (Op.eqFields (d+1) xs ys fs).run P w=.ok b w
 | [],i,ks,b,hk,he=>by
   simp only [vZ] at hk; cases hk
   simp only [Op.eqFields]
   generalize ls.drop i=l at he
   generalize ms.drop i=m at he
   cases l <;> cases m <;> simp only [dH] at he <;> first | (cases he; rfl) | (cases he)
 | f::fs,i,ks,b,hk,he=>by
   simp only [vZ] at hk
   split at hk
   ·rename_i k ks' h1 h2
    split at hk
    ·rename_i hc
     cases hk
     obtain ⟨hoff,hname⟩:=hc
     have UH:=hx.drop i
     have UG:=hy.drop i
     generalize hl:ls.drop i=l at he UH
     generalize hm:ms.drop i=m at he UG
     have:=od he
     obtain ⟨va,vb,p,q,xs',ys',rfl,rfl,h3,h4,rfl⟩:=this
     have Ky:ls[i]? = some (.d (.val va)):=by
      have:(ls.drop i)[0]? = some (.d (.val va)):=by rw [hl]; rfl
      simpa using this
     have Kx:ms[i]? = some (.d (.val vb)):=by
      have:(ms.drop i)[0]? = some (.d (.val vb)):=by rw [hm]; rfl
      simpa using this
     obtain ⟨ua,UE,_,OP⟩:=hx.get Ky
     obtain ⟨ub,TB,_,hrb⟩:=hy.get Kx
     have TE:ua=va:=OP
     have TD:ub=vb:=hrb
     subst TE; subst TD
     have OO:xs[i]? = some ua:=by simpa using UE
     have UD:ys[i]? = some ub:=by simpa using TB
     have nW:=qR d hx hy fs (i+1) ks' q h2 (by
      rw [← List.drop_drop,← List.drop_drop,hl,hm]; exact h4)
     have tR:∀ {v:Value} {cs:Array Value},lR P f.type=some false→cs[i]? = some v→(part f.type cs f.offset).run P w=.ok v w:=fun ha hv=>by
      rw [hoff]; simp [part,j3 ha,hv]
     simp only [Op.eqFields]
     rw [if_pos hname]
     have KA:lR P f.type=some false∧(Op.equalIn (d+1) f.type ua ub).run P w=.ok p w:=by
      unfold v7 at h1
      split at h1
      ·rename_i k' hu
       cases h1
       refine ⟨by simp [lR,hu],?_⟩
       clear he hl hm UH UG Ky Kx OP hrb OO UD UE TB nW tR
       cases ua <;> cases ub <;> first | (simp [CI] at h3; done) | skip
       simp only [CI] at h3
       split at h3
       ·rename_i hk; subst hk; cases h3
        exact run_equalIn_int w d f.type _ k' _ _ hu
       ·cases h3
      ·rename_i hu
       cases h1
       refine ⟨by simp [lR,hu],?_⟩
       clear he hl hm UH UG Ky Kx OP hrb OO UD UE TB nW tR
       cases ua <;> cases ub <;> first | (simp [CI] at h3; done) | skip
       simp only [CI] at h3
       cases h3
       exact run_equalIn_bool' w d f.type _ _ hu
      ·rename_i hu
       cases h1
       refine ⟨by simp [lR,hu],?_⟩
       clear he hl hm UH UG Ky Kx OP hrb OO UD UE TB nW tR
       cases ua <;> cases ub <;> first | (simp [CI] at h3; done) | skip
       simp only [CI] at h3
       cases h3
       exact run_equalIn_string w d f.type _ _ hu
      ·cases h1
     simp only [Sem.run_bind,tR KA.1 OO,tR KA.1 UD,Result.andThen_ok,KA.2]
     cases p
     ·simp
     ·simp only [Bool.not_true,Bool.false_eq_true,if_false,Bool.true_and]; exact nW
    ·cases hk
   ·cases hk
theorem GQ {t:TypeId} {k:Nat} (h:v7 P t=some k):lR P t=some false:=by
 unfold v7 at h
 split at h <;> first | (cases h; done) | simp [lR, *]
theorem Ms {t:TypeId} {k:Nat} (d:Nat) {ua ub:Value} {p:Bool} (h:v7 P t=some k) (h3:CI k ua ub=some p):(Op.equalIn (d+1) t ua ub).run P w=.ok p w:=by
 unfold v7 at h
 split at h
 ·rename_i k' hu
  cases h
  cases ua <;> cases ub <;> first | (simp [CI] at h3; done) | skip
  simp only [CI] at h3
  split at h3
  ·rename_i hk; subst hk; cases h3
   exact run_equalIn_int w d t _ k' _ _ hu
  ·cases h3
 ·rename_i hu
  cases h
  cases ua <;> cases ub <;> first | (simp [CI] at h3; done) | skip
  simp only [CI] at h3
  cases h3
  exact run_equalIn_bool' w d t _ _ hu
 ·rename_i hu
  cases h
  cases ua <;> cases ub <;> first | (simp [CI] at h3; done) | skip
  simp only [CI] at h3
  cases h3
  exact run_equalIn_string w d t _ _ hu
 ·cases h
theorem ue:∀ (ks Vd:List Nat) (l m:List LV) (b:Bool),dH (ks++Vd) l m=some b→∃ p q,dH ks (l.take ks.length) (m.take ks.length)=some p∧dH Vd (l.drop ks.length) (m.drop ks.length)=some q∧b=(p&&q)
 | [],Vd,l,m,b,h=>⟨true,b,by simp [dH],by simpa using h,by simp⟩
 | k::ks,Vd,l,m,b,h=>by
   rw [List.cons_append] at h
   obtain ⟨va,vb,p,q,xs,ys,rfl,rfl,h3,h4,rfl⟩:=od h
   obtain ⟨p2,q2,h5,h6,rfl⟩:=ue ks Vd xs ys q h4
   refine ⟨p&&p2,q2,?_,by simpa using h6,by rw [Bool.and_assoc]⟩
   simp only [List.length_cons,List.take_succ_cons,dH,h3,h5]
theorem kP {xs ys:Array Value} {ls ms:List LV} (hx:bI J w ι ls xs.toList) (hy:bI J w ι ms ys.toList):∀ (fs:List Field) (i:Nat) (ks:List Nat) (b:Bool),sX P i fs=some ks→dH ks (ls.drop i) (ms.drop i)=some b→
  (Op.eqFields 9999 xs ys fs).run P w=.ok b w
 | [],i,ks,b,hk,he=>by
   simp only [sX] at hk; cases hk
   simp only [Op.eqFields]
   generalize ls.drop i=l at he
   generalize ms.drop i=m at he
   cases l <;> cases m <;> simp only [dH] at he <;> first | (cases he; rfl) | (cases he)
 | f::fs,i,ks,b,hk,he=>by
   simp only [sX] at hk
   split at hk
   ·rename_i hc
    obtain ⟨hoff,hname⟩:=hc
    split at hk
    ·rename_i k h1
     split at hk
     ·rename_i ks' h2
      cases hk
      have UH:=hx.drop i
      have UG:=hy.drop i
      generalize hl:ls.drop i=l at he UH
      generalize hm:ms.drop i=m at he UG
      have:=od he
      obtain ⟨va,vb,p,q,xs',ys',rfl,rfl,h3,h4,rfl⟩:=this
      have Ky:ls[i]? = some (.d (.val va)):=by
       have:(ls.drop i)[0]? = some (.d (.val va)):=by rw [hl]; rfl
       simpa using this
      have Kx:ms[i]? = some (.d (.val vb)):=by
       have:(ms.drop i)[0]? = some (.d (.val vb)):=by rw [hm]; rfl
       simpa using this
      obtain ⟨ua,UE,_,OP⟩:=hx.get Ky
      obtain ⟨ub,TB,_,hrb⟩:=hy.get Kx
      have TE:ua=va:=OP
      have TD:ub=vb:=hrb
      subst TE; subst TD
      have OO:xs[i]? = some ua:=by simpa using UE
      have UD:ys[i]? = some ub:=by simpa using TB
      have nW:=kP hx hy fs (i+1) ks' q h2 (by
       rw [← List.drop_drop,← List.drop_drop,hl,hm]; exact h4)
      have tR:∀ {v:Value} {cs:Array Value},cs[i]? = some v→(part f.type cs f.offset).run P w=.ok v w:=fun hv=>by
       rw [hoff]; simp [part,j3 (GQ h1),hv]
      simp only [Op.eqFields]
      rw [if_pos hname]
      simp only [Sem.run_bind,tR OO,tR UD,Result.andThen_ok,Ms (w:=w) 9998 h1 h3]
      cases p
      ·simp
      ·simp only [Bool.not_true,Bool.false_eq_true,if_false,Bool.true_and]; exact nW
     ·cases hk
    ·split at hk
     ·rename_i gs hu
      split at hk
      ·rename_i Ik h1
       split at hk
       ·rename_i lJ
        obtain ⟨g1,g2,g3⟩:=lJ
        split at hk
        ·rename_i ks' h2
         cases hk
         obtain ⟨p,q,e1,e2,rfl⟩:=ue Ik ks' _ _ _ he
         have nW:=kP hx hy fs (i+Ik.length) ks' q h2 (by rw [← List.drop_drop,← List.drop_drop]; exact e2)
         have U5:∀ {cs:Array Value},(part f.type cs f.offset).run P w=.ok (.agg (cs.extract i (i+Ik.length))) w:=fun {cs}=>by
          obtain ⟨ti,hi,hn⟩:=bV g2
          rw [hoff]
          simp [part,j3 g3,Go.sizeOf,typeInfo,hi,hn]
         have WD:∀ {cs:Array Value},(cs.extract i (i+Ik.length)).toList=(cs.toList.drop i).take Ik.length:=fun {cs}=>by simp [List.take_drop]
         have hxn:bI J w ι ((ls.drop i).take Ik.length) (xs.extract i (i+Ik.length)).toList:=by rw [WD]; exact (hx.drop i).take _
         have Tz:bI J w ι ((ms.drop i).take Ik.length) (ys.extract i (i+Ik.length)).toList:=by rw [WD]; exact (hy.drop i).take _
         have hfo:P.underlying f.type=some (.struct (P.fieldsOf f.type)):=by simp [Program.fieldsOf,hu]
         have YJ:P.fieldsOf f.type=gs:=by simp [Program.fieldsOf,hu]
         have heq:(Op.equalIn 9999 f.type (.agg (xs.extract i (i+Ik.length))) (.agg (ys.extract i (i+Ik.length)))).run P w=.ok p w:=by
          rw [show (9999:Nat)=9998+1 from rfl,run_equalIn_struct w 9998 f.type _ _ hfo g1,YJ]
          exact qR 9997 hxn Tz gs.toList 0 Ik p h1 (by simpa using e1)
         simp only [Op.eqFields]
         rw [if_pos hname]
         simp only [Sem.run_bind,U5,Result.andThen_ok,heq]
         cases p
         ·simp
         ·simp only [Bool.not_true,Bool.false_eq_true,if_false,Bool.true_and]; exact nW
        ·cases hk
       ·cases hk
      ·cases hk
     ·cases hk
   ·cases hk
theorem LX {op:BinOp} (ho:op=.eql∨op=.neq) {T:TypeId} {ks:List Nat} (h:WX P T=some ks) (X Y:Operand) {xs ys:Array Value} {ls ms:List LV} (hx:bI J w ι ls xs.toList) (hy:bI J w ι ms ys.toList) {b:Bool} (he:dH ks ls ms=some b) :
  (do eqGuard op T X Y (.agg xs) (.agg ys); Go.binOp op T (.agg xs) (.agg ys)).run P w=.ok (.bool (bif gJ op then !b else b)) w:=by
 unfold WX at h
 split at h
 ·rename_i fs hu
  split at h
  ·rename_i hc
   have hfo:P.underlying T=some (.struct (P.fieldsOf T)):=by simp [Program.fieldsOf,hu]
   have YJ:P.fieldsOf T=fs:=by simp [Program.fieldsOf,hu]
   have heq:(Op.equalIn 10000 T (.agg xs) (.agg ys)).run P w=.ok b w:=by
    rw [show (10000:Nat)=9999+1 from rfl,run_equalIn_struct w 9999 T xs ys hfo hc.1,YJ]
    exact kP hx hy fs.toList 0 ks b h (by simpa using he)
   have hg:=run_eqGuard_agg (P:=P) w op T X Y xs ys hc.2
   rcases ho with rfl | rfl
   ·rw [Sem.run_bind,hg]; simp only [Result.andThen_ok,run_eql_struct,heq]; rfl
   ·rw [Sem.run_bind,hg]; simp only [Result.andThen_ok,run_neq_struct,heq]; rfl
  ·cases h
 ·cases h
theorem fQ {v:Value} {y:Nat} {code:BoundsCode} {k:IntKind} {i:Int} (hv:v=.int k i) (h0:0≤i) (hl:i.toNat≤y) (w:World):(Instr.sliceBound v y code).run P w=.ok i.toNat w:=by
 subst hv
 have:0≤i∧i≤(y:Int):=⟨h0,by omega⟩
 simp [Instr.sliceBound,asIntOf,this]
def BV (o:Option Value) (d v:Nat):Prop:=(o=none∧v=d)∨∃ k i,o=some (.int k i)∧0≤i∧v=i.toNat
theorem iX {b:Bool} {len cap l h m:Nat} {lo hi mx:Option Value} (h1:BV lo 0 l) (h2:BV hi len h) (h3:BV mx len m) (k1:l≤h) (k2:h≤m) (k3:m≤len) (k4:len≤cap) (hm:mx=none∨hi.isSome=true) (w:World) :
  ∃ m',m≤m'∧m'≤cap∧(Instr.sliceBounds b len cap lo hi mx).run P w=.ok (l,h,m') w:=by
 rcases h3 with ⟨rfl,rfl⟩ | ⟨k3',i3,rfl,q3,rfl⟩
 ·refine ⟨cap,k4,Nat.le_refl _,?_⟩
  rcases h2 with ⟨rfl,rfl⟩ | ⟨Ya,i2,rfl,q2,rfl⟩ <;> rcases h1 with ⟨rfl,rfl⟩ | ⟨CF,i1,rfl,q1,rfl⟩
  ·simp [Instr.sliceBounds]
  ·simp [Instr.sliceBounds,fQ (P:=P) rfl q1 (y:=h) (by omega) w]
  ·simp [Instr.sliceBounds,fQ (P:=P) rfl q2 (y:=cap) (by omega) w]
  ·simp [Instr.sliceBounds,fQ (P:=P) rfl q2 (y:=cap) (by omega) w,fQ (P:=P) rfl q1 (y:=i2.toNat) (by omega) w]
 ·refine ⟨i3.toNat,Nat.le_refl _,by omega,?_⟩
  rcases h2 with ⟨rfl,rfl⟩ | ⟨Ya,i2,rfl,q2,rfl⟩
  ·rcases hm with hm | hm <;> cases hm
  ·rcases h1 with ⟨rfl,rfl⟩ | ⟨CF,i1,rfl,q1,rfl⟩
   ·simp [Instr.sliceBounds,fQ (P:=P) rfl q3 (y:=cap) (by omega) w,fQ (P:=P) rfl q2 (y:=i3.toNat) (by omega) w]
   ·simp [Instr.sliceBounds,fQ (P:=P) rfl q3 (y:=cap) (by omega) w,fQ (P:=P) rfl q2 (y:=i3.toNat) (by omega) w,fQ (P:=P) rfl q1 (y:=i2.toNat) (by omega) w]
theorem uG {T e:TypeId} {n:Nat} (hu:P.underlying T=some (.slice e)) (hs:dA P e=some n) {sa:Option Addr} {len cap l h m:Nat} {lo hi mx:Option Value} (h1:BV lo 0 l) (h2:BV hi len h) (h3:BV mx len m) (k1:l≤h) (k2:h≤m) (k3:m≤len) (k4:len≤cap)
  (hm:mx=none∨hi.isSome=true) (w:World) :
  ∃ m',m≤m'∧m'≤cap∧(Instr.sliceAt T (.slice sa len cap) lo hi mx).run P w=.ok (.slice (if m'=l then sa else sa.map (·.add (l*n))) (h-l) (m'-l)) w:=by
 obtain ⟨i,hi',hn⟩:=bV hs
 obtain ⟨m',p1,p2,hrun⟩:=iX (P:=P) (b:=true) h1 h2 h3 k1 k2 k3 k4 hm w
 refine ⟨m',p1,p2,?_⟩
 have hsz:(Go.sizeOf e).run P w=.ok n w:=by simp [Go.sizeOf,typeInfo,hi',hn]
 simp only [Instr.sliceAt,Instr.slice,Sem.run_bind,run_underlying hu w,Result.andThen_ok,hrun,hsz,Sem.run_pure]
theorem LQ {T:TypeId} (hu:P.underlying T=some .string) {s:ByteArray} {l h:Nat} {lo hi:Option Value} (h1:BV lo 0 l) (h2:BV hi s.size h) (k1:l≤h) (k2:h≤s.size) (w:World) :
  (Instr.sliceAt T (.string s) lo hi none).run P w=.ok (.string (s.extract l h)) w:=by
 obtain ⟨m',_,_,hrun⟩:=iX (P:=P) (b:=false) (mx:=none) (cap:=s.size) h1 h2 (.inl ⟨rfl,rfl⟩) k1 k2 (Nat.le_refl _) (Nat.le_refl _) (.inl rfl) w
 simp only [Instr.sliceAt,Instr.slice,Sem.run_bind,run_underlying hu w,Result.andThen_ok]
 simp [hrun]
theorem jh (S:aJ G J w ι obj) (he:∀ t,cQ J w ι (get t) (a.tmps.getD t Go.undef)) {o:Option Operand} {o':Option bR} {d v:Nat} (ho:eR o=some o') (hb:fK d (o'.map (·.ev G get))=some v):BV (o.map a.eval) d v:=by
 cases o with
 | none=>simp only [eR] at ho; cases ho; simp only [Option.map_none,fK] at hb; exact .inl ⟨rfl,(Option.some.inj hb).symm⟩
 | some X=>
   simp only [eR] at ho
   split at ho
   ·rename_i y hy
    cases ho
    have hr:=aT S he hy
    simp only [Option.map_some] at hb
    unfold fK at hb
    split at hb
    ·rename_i hq; cases hq
    ·rename_i k i hq
     rw [Option.some.inj hq] at hr
     have hX:a.eval X=.int k i:=hr
     split at hb
     ·rename_i h0
      exact .inr ⟨k,i,by simp [hX],h0,(Option.some.inj hb).symm⟩
     ·cases hb
    ·cases hb
   ·cases ho
theorem Gc (S:aJ G J w ι obj) (he:∀ t,cQ J w ι (get t) (a.tmps.getD t Go.undef)) {X:Operand} {x:bR} (hx:aI X=some x) {lo hi mx:Option Operand} {lo' hi' U_:Option bR} (hl:eR lo=some lo') (hh:eR hi=some hi') (hm:eR mx=some U_)
  (YB:(mx.isNone||hi.isSome)=true) {T el:TypeId} {n:Nat} (hu:P.underlying T=some (.slice el)) (hs:dA P el=some n) {e:eN} (hE:cB G get obj base (.zm n x lo' hi' U_)=some e) :
  ∃ v,(Instr.sliceAt T (a.eval X) (lo.map a.eval) (hi.map a.eval) (mx.map a.eval)).run P w=.ok v w∧cQ J w ι e.r v∧e.nw=[]∧e.wr=[]:=by
 have bY:=aT S he hx
 have OS:mx.map a.eval=none∨(hi.map a.eval).isSome=true:=by
  cases mx with
  | none=>exact .inl rfl
  | some _=>right; cases hi <;> simp at YB ⊢
 simp only [cB] at hE
 split at hE
 ·rename_i e' rows dR
  rw [dR] at bY
  split at hE
  ·rename_i l h m b1 b2 b3
   split at hE
   ·rename_i hc
    obtain ⟨rfl,k1,k2,k3⟩:=hc
    cases hE
    obtain ⟨sa,len,cap,hv,hlen,hcap,hr⟩:=bY
    subst hlen
    obtain ⟨m',p1,p2,hrun⟩:=uG (P:=P) hu hs (sa:=sa) (jh S he hl b1) (jh S he hh b2) (jh S he hm b3) k1 k2 k3 hcap OS w
    refine ⟨_,by rw [hv]; exact hrun,⟨_,h-l,m'-l,rfl,by simp; omega,by omega,?_⟩,rfl,rfl⟩
    by_cases hz:h=l
    ·left; simp [hz]
    ·right
     rcases hr with hr | ⟨b,off,rfl,hJ,hr⟩
     ·rw [hr] at k3; simp at k3; omega
     ·refine ⟨b,off+l*e',?_,hJ,(hr.drop l).take _⟩
      rw [if_neg (by omega)]
      simp [Addr.add_mid]
   ·cases hE
  ·cases hE
 ·rename_i o on e' XZ len dR
  rw [dR] at bY
  split at hE
  ·rename_i l h m b1 b2 b3
   split at hE
   ·rename_i hc
    obtain ⟨rfl,k1,k2,k3⟩:=hc
    cases hE
    rcases bY with ⟨hz,sa,hv⟩ | ⟨b,cap,et,C,hb,hv,hcap,hsh,hC⟩
    ·subst hz
     obtain ⟨m',p1,p2,hrun⟩:=uG (P:=P) hu hs (sa:=sa) (cap:=0) (jh S he hl b1) (jh S he hh b2) (jh S he hm b3) k1 k2 k3 (Nat.le_refl _) OS w
     rw [show h-l=0 by omega,show m'-l=0 by omega] at hrun
     exact ⟨_,by rw [hv]; exact hrun,.inl ⟨by omega,_,rfl⟩,rfl,rfl⟩
    ·obtain ⟨m',p1,p2,hrun⟩:=uG (P:=P) hu hs (sa:=some ⟨b,XZ*e',none⟩) (jh S he hl b1) (jh S he hh b2) (jh S he hm b3) k1 k2 k3 hcap OS w
     refine ⟨_,by rw [hv]; exact hrun,?_,rfl,rfl⟩
     by_cases hz:m'=l
     ·left
      rw [show h-l=0 by omega,show m'-l=0 by omega]
      exact ⟨rfl,_,rfl⟩
     ·right
      refine ⟨b,m'-l,et,C,hb,?_,by omega,hsh,?_⟩
      ·rw [if_neg hz]
       simp [Addr.add_mid,Nat.add_mul]
      ·refine Nat.le_trans (Nat.mul_le_mul_right _ ?_) hC
       omega
   ·cases hE
  ·cases hE
 ·rename_i dR
  rw [dR] at bY
  have hv:a.eval X=.slice none 0 0:=bY
  split at hE
  ·rename_i l h m b1 b2 b3
   split at hE
   ·rename_i hc
    obtain ⟨k1,k2,k3⟩:=hc
    cases hE
    obtain ⟨m',p1,p2,hrun⟩:=uG (P:=P) hu hs (sa:=none) (len:=0) (cap:=0) (jh S he hl b1) (jh S he hh b2) (jh S he hm b3) k1 k2 k3 (Nat.le_refl _) OS w
    refine ⟨_,by rw [hv]; exact hrun,?_,rfl,rfl⟩
    show _=_
    rw [show h-l=0 by omega,show m'-l=0 by omega]
    split <;> rfl
   ·cases hE
  ·cases hE
 ·cases hE
theorem nL {T:TypeId} {fs:Array Field} {f:Field} {k n:Nat} (hu:P.underlying T=some (.struct fs)) (hf:fs[k]? = some f) (hs:dA P f.type=some (n+1)) (b o:Nat) (w:World) :
  (Instr.fieldAt T (.pointer (some ⟨b,o,none⟩)) k).run P w=.ok (.pointer (some ⟨b,o+f.offset,none⟩)) w:=by
 obtain ⟨i,hi,hn⟩:=bV hs
 have hz:(Go.sizeOf f.type).run P w=.ok (n+1) w:=by simp [Go.sizeOf,typeInfo,hi,hn]
 simp only [Instr.fieldAt,Sem.run_bind,run_underlying hu w,Result.andThen_ok,hf,Instr.sureAddr,Sem.run_pure,fieldPlace,hz]
 rw [if_neg (by omega)]
 simp [Addr.add_mid]
theorem ER {T e:TypeId} {n:Nat} (hu:P.underlying T=some (.slice e)) (hs:dA P e=some n) (b o len cap:Nat) (k:IntKind) (i:Int) (h0:0≤i) (hl:i.toNat<len) (w:World) :
  (Instr.indexAt T (.slice (some ⟨b,o,none⟩) len cap) (.int k i)).run P w=.ok (.pointer (some ⟨b,o+i.toNat*n,none⟩)) w:=by
 obtain ⟨j,hj,hn⟩:=bV hs
 have hz:(Go.sizeOf e).run P w=.ok n w:=by simp [Go.sizeOf,typeInfo,hj,hn]
 have hc:0≤i∧i<len:=⟨h0,by omega⟩
 simp only [Instr.indexAt,asIntOf,Sem.run_bind,Sem.run_pure,Result.andThen_ok,run_underlying hu w]
 rw [if_pos hc]
 simp [hz,Addr.add_mid]
theorem zA {T e:TypeId} {n len:Nat} (hu:P.underlying T=some (.array len e)) (hs:dA P e=some n) (b o:Nat) (k:IntKind) (i:Int) (h0:0≤i) (hl:i.toNat<len) (w:World) :
  (Instr.indexAt T (.pointer (some ⟨b,o,none⟩)) (.int k i)).run P w=.ok (.pointer (some ⟨b,o+i.toNat*n,none⟩)) w:=by
 obtain ⟨j,hj,hn⟩:=bV hs
 have hz:(Go.sizeOf e).run P w=.ok n w:=by simp [Go.sizeOf,typeInfo,hj,hn]
 have hc:0≤i∧i<len:=⟨h0,by omega⟩
 simp only [Instr.indexAt,asIntOf,Sem.run_bind,Sem.run_pure,Result.andThen_ok,run_underlying hu w,Instr.sureAddr]
 rw [if_pos hc]
 simp [hz,Addr.add_mid]
theorem uH {T:TypeId} (ha:lR P T=some false) {b o:Nat} {v:Value} (hv:w.cell? ⟨b,o,none⟩=some v) :
  (Instr.loadAt T (.pointer (some ⟨b,o,none⟩))).run P w=.ok v w:=by
 simp [Instr.loadAt,Instr.sureAddr,loadVar,j3 ha,hv]
theorem zz {T:TypeId} {n:Nat} (ha:lR P T=some true) (hs:dA P T=some n) {b o:Nat} {vs:List Value} (hv:w.rangeAt b o vs) (hl:vs.length=n) :
  (Instr.loadAt T (.pointer (some ⟨b,o,none⟩))).run P w=.ok (.agg vs.toArray) w:=by
 obtain ⟨i,hi,hn⟩:=bV hs
 have h1:(loadCells ⟨b,o,none⟩ vs.length).run P w=.ok vs.toArray w:=run_loadCells_list (P:=P) w ⟨b,o,none⟩ vs (fun j v h=>by rw [Addr.add_mid]; exact hv j v h)
 rw [hl] at h1
 simp [Instr.loadAt,Instr.sureAddr,loadVar,j3 ha,Go.sizeOf,typeInfo,hi,hn,h1]
theorem IY {T:TypeId} {n:Nat} (hs:dA P T=some n) {b o:Nat} {v:Value} (ht:w.there b o v.cells.size) (hl:v.cells.size=n) (h1:∀ u∈v.cells.toList,u.oneCell'=true) :
  (Instr.storeAt T (.pointer (some ⟨b,o,none⟩)) v).run P w=.ok () (w.setCells b o v.cells.toList):=by
 obtain ⟨i,hi,hn⟩:=bV hs
 have:=run_storeCells_cells (P:=P) b o v.cells.toList 0 w (fun j hj=>by simpa using (ht j (by simpa using hj)).1) (fun j hj=>by simpa using (ht j (by simpa using hj)).2) h1
 simp only [Nat.add_zero] at this
 simp [Instr.storeAt,Instr.sureAddr,storeVar,Go.sizeOf,typeInfo,hi,hn,hl,this]
theorem vu (S:aJ G J w ι obj) (he:∀ t,cQ J w ι (get t) (a.tmps.getD t Go.undef)) {esz:Nat} : ∀ {xs:List Operand} {ys:List bR} {rows:List (List DV)},eo xs=some ys→rowsOf G get esz ys=some rows→
  sw (fun (x:Operand) (r:List DV)=>bq J w r (a.eval x).cells.toList∧(∀ v∈(a.eval x).cells.toList,v.oneCell'=true)∧r.length=esz) xs rows
 | [],ys,rows,h,k=>by
   simp only [eo] at h; cases h
   simp only [rowsOf] at k; cases k
   exact .nil
 | x::xs,ys,rows,h,k=>by
   simp only [eo] at h
   split at h
   ·rename_i y ys' h1 h2
    cases h
    simp only [rowsOf] at k
    split at k
    ·rename_i cs hcs
     split at k
     ·rename_i ds hds
      split at k
      ·rename_i hl
       split at k
       ·rename_i r hr
        cases k
        have bY:=lN (aT S he h1) hcs
        exact .cons ⟨k9 hds bY.xC,bY.one,hl⟩ (vu S he h2 hr)
       ·cases k
      ·cases k
     ·cases k
    ·cases k
   ·cases h
theorem y7 (S:aJ G J w ι obj) (he:∀ t,cQ J w ι (get t) (a.tmps.getD t Go.undef)):∀ {xs:List Operand} {ys:List bR} {cs:List LV},eo xs=some ys→rW G get ys=some cs→
  bI J w ι cs (((xs.map a.eval).map (·.cells.toList)).flatten)∧(∀ v∈xs.map a.eval,v.cells.size=1)∧cs.length=xs.length
 | [],ys,cs,h,k=>by
   simp only [eo] at h; cases h
   simp only [rW] at k; cases k
   exact ⟨trivial,by simp,rfl⟩
 | x::xs,ys,cs,h,k=>by
   simp only [eo] at h
   split at h
   ·rename_i y ys' h1 h2
    cases h
    simp only [rW] at k
    split at k
    ·rename_i c hcs
     split at k
     ·rename_i hl
      split at k
      ·rename_i r hr
       cases k
       have bY:=lN (aT S he h1) hcs
       obtain ⟨k1,k2,k3⟩:=y7 S he h2 hr
       have hsz:(a.eval x).cells.size=1:=by
        have:=bY.length
        simp at this; omega
       refine ⟨?_,?_,by rw [List.length_append,List.length_cons,k3,hl]; omega⟩
       ·rw [List.map_cons,List.map_cons,List.flatten_cons]
        exact bI.append bY k1
       ·intro v hv
        rw [List.map_cons] at hv
        rcases List.mem_cons.1 hv with rfl | hv
        ·exact hsz
        ·exact k2 v hv
      ·cases k
     ·cases k
    ·cases k
   ·cases h
theorem xD {α:Type} (l:List α) (o:Nat) (xs ys:List α) (h:o+xs.length+ys.length≤l.length):splice (splice l o xs) (o+xs.length) ys=splice l o (xs++ys):=by
 unfold splice
 have h1:(l.take o++xs).length=o+xs.length:=by simp; omega
 rw [List.take_left' h1,← h1,← List.drop_drop,List.drop_left,h1,List.drop_drop,List.length_append,List.append_assoc,List.append_assoc,List.append_assoc,List.append_assoc]
 rw [show o+xs.length+ys.length=o+(xs.length+ys.length) by omega]
theorem tc (n:Nat):∀ (vals:List Value) (k:Nat) (cells:Array Value),(∀ v∈vals,v.cells.size=n)→(k+vals.length)*n≤cells.size→
  ∃ cs,Instr.fill (fun i=>some (i*n,n)) cells ((List.range' k vals.length).zip vals)=some cs∧cs.toList=splice cells.toList (k*n) (vals.map (·.cells.toList)).flatten
 | [],k,cells,_,_=>⟨cells,by simp [Instr.fill],by simp [splice]⟩
 | v::vals,k,cells,h,hl=>by
   have hv:=h v (by simp)
   simp only [List.length_cons] at hl
   have hle:(k+1)*n≤cells.size:=Nat.le_trans (Nat.mul_le_mul_right _ (by omega)) hl
   rw [Nat.add_mul] at hle
   have hfold:(v.cells.zipIdx.foldl (fun cs (p:Value×Nat)=>cs.setIfInBounds (k*n+p.2) p.1) cells).toList=splice cells.toList (k*n) v.cells.toList:=by
    have:=oa (k*n) v.cells.toList 0 cells (by simp [hv]; omega)
    simp only [Nat.add_zero] at this
    rw [← this,← Array.foldl_toList]
    simp
   generalize hA:v.cells.zipIdx.foldl (fun cs (p:Value×Nat)=>cs.setIfInBounds (k*n+p.2) p.1) cells=A at hfold
   have hAs:A.size=cells.size:=by
    have:=congrArg List.length hfold
    rw [iL _ _ _ (by simp [hv]; omega)] at this
    simpa using this
   obtain ⟨cs,k1,k2⟩:=tc n vals (k+1) A (fun u hu=>h u (by simp [hu])) (by rw [hAs,show k+1+vals.length=k+(vals.length+1) by omega]; exact hl)
   refine ⟨cs,?_,?_⟩
   ·simp only [List.length_cons,List.range'_succ,List.zip_cons_cons,Instr.fill]
    rw [if_neg (by rw [hv]; simp; omega),hA]
    exact k1
   ·rw [k2,hfold]
    simp only [List.map_cons,List.flatten_cons]
    have hvl:v.cells.toList.length=n:=by simpa using hv
    have hfl:(vals.map (·.cells.toList)).flatten.length=vals.length*n:=by
     have hh:∀ u∈vals,u.cells.size=n:=fun u hu=>h u (by simp [hu])
     clear k1 k2 hl
     induction vals with
     | nil=>simp
     | cons u us ih=>
       simp only [List.map_cons,List.flatten_cons,List.length_append,List.length_cons,Nat.add_mul]
       rw [ih (fun x hx=>h x (by simp at hx ⊢; rcases hx with hx | hx <;> simp [hx])) (fun x hx=>hh x (by simp [hx]))]
       have:=hh u (by simp)
       simp [this]; omega
    have:=xD cells.toList (k*n) v.cells.toList (vals.map (·.cells.toList)).flatten (by
     have hcl:cells.toList.length=cells.size:=Array.length_toList
     rw [hvl,hfl,hcl]
     have e:(k+(vals.length+1))*n=k*n+n+vals.length*n:=by simp only [Nat.add_mul]; omega
     omega)
    rw [hvl] at this
    rw [show (k+1)*n=k*n+n by rw [Nat.add_mul]; omega]
    exact this
end
end Dv
namespace Dv
open Go
section
variable {P:Program} {G:Nat→Option (List DV)} {J:Nat→Prop} {w w':World} {ι:Nat→Nat→Option Nat} {obj:Nat→cv} {a:Act} {get:Nat→LV} {base:Nat}
theorem cC.value {o:Oper} {s:Sem Value} {v:Value} {w':World} {post:Value→World→Prop} (he:execOp a.eval o=(do pure (.value (← s)))) (hr:s.run P w=.ok v w') (hp:post v w'):cC P o a w post:=
 cC.of_run (by rw [he,Sem.run_bind,hr]; rfl) hp
theorem JT (S:aJ G J w ι obj) (he:∀ t,cQ J w ι (get t) (a.tmps.getD t Go.undef)) {x:bR} {X:Operand} (hx:aI X=some x) {T:TypeId} {e:eN} (ha:lR P T=some false) (hE:cB G get obj base (.ld1 x)=some e) :
  ∃ v,(Instr.loadAt T (a.eval X)).run P w=.ok v w∧cQ J w ι e.r v∧e.nw=[]∧e.wr=[]:=by
 have bY:=aT S he hx
 simp only [cB] at hE
 split at hE
 ·rename_i o col dR
  rw [dR] at bY
  split at hE
  ·rename_i et cells ho
   split at hE
   ·rename_i v hv
    cases hE
    obtain ⟨b,hb,hval⟩:=bY
    have h0:=S.rep o
    rw [ho] at h0
    obtain ⟨⟨b',C,h1,h2,h3⟩,_⟩:=h0
    rw [hb] at h1; cases h1
    obtain ⟨u,hu,h1c,DP⟩:=h3.get hv
    rw [hval]
    exact ⟨u,uH ha (by rw [cell_of_row w b col C et _ h2]; simpa using hu),DP,rfl,rfl⟩
   ·cases hE
  ·cases hE
 ·rename_i row col dR
  rw [dR] at bY
  split at hE
  ·rename_i v hv
   cases hE
   obtain ⟨b,off,hb,hval,hr⟩:=bY
   obtain ⟨u,hu,h1c,DP⟩:=hr.get hv
   rw [hval]
   exact ⟨u,uH ha hu,DP,rfl,rfl⟩
  ·cases hE
 ·rename_i o n esz row col dR
  rw [dR] at bY
  split at hE
  ·rename_i et Ar rows ho
   split at hE
   ·rename_i hc
    obtain ⟨rfl,rfl⟩:=hc
    split at hE
    ·rename_i r hr
     split at hE
     ·rename_i v hv
      cases hE
      obtain ⟨b,hb,hval⟩:=bY
      have h0:=S.rep o
      rw [ho] at h0
      obtain ⟨⟨_,h1⟩,_⟩:=h0
      obtain ⟨_,h2⟩:=h1 b hb
      obtain ⟨_,h3⟩:=h2.get hr
      obtain ⟨u,hu,h1c,DP⟩:=h3.get hv
      rw [Nat.zero_add] at hu
      rw [hval]
      exact ⟨u,uH ha hu,DP,rfl,rfl⟩
     ·cases hE
    ·cases hE
   ·cases hE
  ·cases hE
 ·cases hE
theorem GO (S:aJ G J w ι obj) (he:∀ t,cQ J w ι (get t) (a.tmps.getD t Go.undef)) {x:bR} {X:Operand} (hx:aI X=some x) {T:TypeId} {n:Nat} {e:eN} (ha:lR P T=some true) (hs:dA P T=some n)
  (hE:cB G get obj base (.bP n x)=some e) :
  ∃ v,(Instr.loadAt T (a.eval X)).run P w=.ok v w∧cQ J w ι e.r v∧e.nw=[]∧e.wr=[]:=by
 have bY:=aT S he hx
 have ofRow:∀ {b off:Nat} {row:List DV},cU J w row b off→∀ col,((row.drop col).take n).length=n→
   ∃ v,(Instr.loadAt T (.pointer (some ⟨b,off+col,none⟩))).run P w=.ok v w∧cQ J w ι (.agg (((row.drop col).take n).map .d)) v:=by
  intro b off row hr col hl
  obtain ⟨vs,v1,v2,v3⟩:=((hr.drop col).take n).vals
  exact ⟨_,zz ha hs v3 (by rw [← v1.length,hl]),vs.toArray,rfl,bq.ux v1 v2⟩
 simp only [cB] at hE
 split at hE
 ·rename_i o col dR
  rw [dR] at bY
  split at hE
  ·rename_i et cells ho
   split at hE
   ·rename_i hl
    cases hE
    obtain ⟨b,hb,hval⟩:=bY
    have h0:=S.rep o
    rw [ho] at h0
    obtain ⟨⟨b',C,h1,h2,h3⟩,_⟩:=h0
    rw [hb] at h1; cases h1
    have h4:=(h3.drop col).take n
    rw [hval]
    exact ⟨_,zz ha hs (jL h2 col n) (by rw [← h4.length,hl]),⟨_,rfl,by simpa using h4⟩,rfl,rfl⟩
   ·cases hE
  ·cases hE
 ·rename_i row col dR
  rw [dR] at bY
  split at hE
  ·rename_i hl
   cases hE
   obtain ⟨b,off,hb,hval,hr⟩:=bY
   rw [hval]
   obtain ⟨v,k1,k2⟩:=ofRow hr col hl
   exact ⟨v,k1,k2,rfl,rfl⟩
  ·cases hE
 ·rename_i o m esz row col dR
  rw [dR] at bY
  split at hE
  ·rename_i et Ar rows ho
   split at hE
   ·rename_i hc
    obtain ⟨rfl,rfl⟩:=hc
    split at hE
    ·rename_i r hr
     split at hE
     ·rename_i hl
      cases hE
      obtain ⟨b,hb,hval⟩:=bY
      have h0:=S.rep o
      rw [ho] at h0
      obtain ⟨⟨_,h1⟩,_⟩:=h0
      obtain ⟨_,h2⟩:=h1 b hb
      obtain ⟨_,h3⟩:=h2.get hr
      rw [Nat.zero_add] at h3
      rw [hval]
      obtain ⟨v,k1,k2⟩:=ofRow h3 col hl
      exact ⟨v,k1,k2,rfl,rfl⟩
     ·cases hE
    ·cases hE
   ·cases hE
  ·cases hE
 ·cases hE
theorem ID (S:aJ G J w ι obj) (he:∀ t,cQ J w ι (get t) (a.tmps.getD t Go.undef)) {x y:bR} {X Y:Operand} (hx:aI X=some x) (hy:aI Y=some y) {T:TypeId} {n:Nat} {e:eN} (hs:dA P T=some n)
  (hE:cB G get obj base (.st n x y)=some e) :
  ∃ w',(Instr.storeAt T (a.eval X) (a.eval Y)).run P w=.ok () w'∧a_ G obj (bJ obj base e) J ι w e.r Go.undef w':=by
 have bY:=aT S he hx
 have jD:=aT S he hy
 simp only [cB] at hE
 split at hE
 ·rename_i cs hcs
  have hrc:=lN jD hcs
  split at hE
  ·rename_i hl
   have hvl:(a.eval Y).cells.size=n:=by have:=hrc.length; simp at this; omega
   split at hE
   ·rename_i o col dR
    rw [dR] at bY
    split at hE
    ·rename_i et cells ho
     split at hE
     ·rename_i hle
      cases hE
      obtain ⟨b,hb,ht,hA⟩:=a_.C_ S ho hrc hle
      obtain ⟨b',hb',hval⟩:=bY
      rw [hb] at hb'; cases hb'
      rw [hval]
      exact ⟨_,IY hs (by simpa using ht) hvl hrc.one,hA⟩
     ·cases hE
    ·cases hE
   ·rename_i o m esz row col dR
    rw [dR] at bY
    split at hE
    ·rename_i et Ar rows ho
     split at hE
     ·rename_i hc
      obtain ⟨rfl,rfl⟩:=hc
      split at hE
      ·rename_i ds hds
       split at hE
       ·rename_i r hr
        split at hE
        ·rename_i hle
         cases hE
         obtain ⟨b,hb,ht,hA⟩:=a_.SG S ho hr (k9 hds hrc.xC) hrc.one hle
         obtain ⟨b',hb',hval⟩:=bY
         rw [hb] at hb'; cases hb'
         rw [hval]
         exact ⟨_,IY hs (by simpa using ht) hvl hrc.one,hA⟩
        ·cases hE
       ·cases hE
      ·cases hE
     ·cases hE
    ·cases hE
   ·cases hE
  ·cases hE
 ·cases hE
theorem GZ (S:aJ G J w ι obj) (he:∀ t,cQ J w ι (get t) (a.tmps.getD t Go.undef)) {x i:bR} {X Y:Operand} (hx:aI X=some x) (hy:aI Y=some i) {T el:TypeId} {n:Nat} {e:eN} (hu:P.underlying T=some (.slice el)) (hs:dA P el=some n)
  (hE:cB G get obj base (.eG n x i)=some e) :
  ∃ v,(Instr.indexAt T (a.eval X) (a.eval Y)).run P w=.ok v w∧cQ J w ι e.r v∧e.nw=[]∧e.wr=[]:=by
 have bY:=aT S he hx
 have jD:=aT S he hy
 simp only [cB] at hE
 split at hE
 ·rename_i k j dR
  rw [dR] at jD
  have hY:a.eval Y=.int k j:=jD
  split at hE
  ·rename_i h0
   split at hE
   ·rename_i T9 rows DN
    rw [DN] at bY
    split at hE
    ·rename_i hel
     split at hE
     ·rename_i r hr
      cases hE
      obtain ⟨sa,m,cap,hval,hm,hcap,hrows⟩:=bY
      have hlt:j.toNat<rows.length:=(List.getElem?_eq_some_iff.1 hr).1
      rcases hrows with hrows | ⟨b,off,rfl,hb,hrows⟩
      ·rw [hrows] at hlt; simp at hlt
      ·subst hel
       obtain ⟨_,hrow⟩:=hrows.get hr
       rw [hval,hY]
       exact ⟨_,ER hu hs b off m cap k j h0 (by omega) w,⟨b,off+j.toNat*T9,hb,by simp,hrow⟩,rfl,rfl⟩
     ·cases hE
    ·cases hE
   ·rename_i o m T9 lo len DN
    rw [DN] at bY
    have real:∀ {b cap:Nat},a.eval X=.slice (some ⟨b,lo*T9,none⟩) len cap→T9=n→j.toNat<len→
      (Instr.indexAt T (a.eval X) (a.eval Y)).run P w=.ok (.pointer (some ⟨b,(lo+j.toNat)*T9,none⟩)) w:=by
     intro b cap hval hel hlt
     rw [hval,hY]
     have:=ER (P:=P) hu hs b (lo*T9) len cap k j h0 hlt w
     rw [← hel] at this
     rw [this,Nat.add_mul]
    split at hE
    ·rename_i et aaf rows ho
     split at hE
     ·rename_i hc
      obtain ⟨hel,YN,hm,hlt⟩:=hc
      split at hE
      ·rename_i r hr
       cases hE
       rcases bY with ⟨h1,_⟩ | ⟨b,cap,et',C,hb,hval,hcap,_⟩
       ·omega
       ·have XL:=S.rep o
        rw [ho] at XL
        obtain ⟨⟨_,h1⟩,_⟩:=XL
        rw [hm] at hb
        obtain ⟨hJ,hrows⟩:=h1 b hb
        obtain ⟨_,hrow⟩:=hrows.get hr
        refine ⟨_,real hval hel hlt,⟨b,(lo+j.toNat)*T9,hJ,by simp,?_⟩,rfl,rfl⟩
        rw [Nat.zero_add,YN,← hel] at hrow
        exact hrow
      ·cases hE
     ·cases hE
    ·split at hE
     ·rename_i hc
      obtain ⟨hel,he1,hm,hlt⟩:=hc
      cases hE
      rcases bY with ⟨h1,_⟩ | ⟨b,cap,et',C,hb,hval,hcap,_⟩
      ·omega
      ·rw [hm] at hb
       exact ⟨_,real hval hel hlt,⟨b,hb,by rw [he1]; simp⟩,rfl,rfl⟩
     ·cases hE
    ·split at hE
     ·rename_i hc
      obtain ⟨hel,hlt⟩:=hc
      cases hE
      rcases bY with ⟨h1,_⟩ | ⟨b,cap,et',C,hb,hval,hcap,_⟩
      ·omega
      ·exact ⟨_,real hval hel hlt,⟨b,hb,by simp⟩,rfl,rfl⟩
     ·cases hE
   ·cases hE
  ·cases hE
 ·cases hE
theorem GY (S:aJ G J w ι obj) (he:∀ t,cQ J w ι (get t) (a.tmps.getD t Go.undef)) {x i:bR} {X Y:Operand} (hx:aI X=some x) (hy:aI Y=some i) {T el:TypeId} {n len:Nat} {e:eN} (hu:P.underlying T=some (.array len el)) (hs:dA P el=some n)
  (hE:cB G get obj base (.Mv len n x i)=some e) :
  ∃ v,(Instr.indexAt T (a.eval X) (a.eval Y)).run P w=.ok v w∧cQ J w ι e.r v∧e.nw=[]∧e.wr=[]:=by
 have bY:=aT S he hx
 have jD:=aT S he hy
 simp only [cB] at hE
 split at hE
 ·rename_i k j dR
  rw [dR] at jD
  have hY:a.eval Y=.int k j:=jD
  split at hE
  ·rename_i h0
   split at hE
   ·rename_i o col DN
    rw [DN] at bY
    cases hE
    obtain ⟨b,hb,hval⟩:=bY
    rw [hval,hY]
    exact ⟨_,zA hu hs b col k j h0.1 h0.2 w,⟨b,hb,rfl⟩,rfl,rfl⟩
   ·rename_i o m es r c DN
    rw [DN] at bY
    cases hE
    obtain ⟨b,hb,hval⟩:=bY
    rw [hval,hY]
    exact ⟨_,zA hu hs b _ k j h0.1 h0.2 w,⟨b,hb,by simp; omega⟩,rfl,rfl⟩
   ·rename_i r c DN
    rw [DN] at bY
    cases hE
    obtain ⟨b,off,hb,hval,hr⟩:=bY
    rw [hval,hY]
    exact ⟨_,zA hu hs b _ k j h0.1 h0.2 w,⟨b,off,hb,by simp; omega,hr⟩,rfl,rfl⟩
   ·cases hE
  ·cases hE
 ·cases hE
theorem A9 {t:TypeId} {cs:Array Value} {off:Nat} {v:Value} (ha:lR P t=some false) (hv:cs[off]? = some v):(part t cs off).run P w=.ok v w:=by
 simp [part,j3 ha,hv]
theorem ym {t:TypeId} {cs:Array Value} {off n:Nat} (ha:lR P t=some true) (hs:dA P t=some n):(part t cs off).run P w=.ok (.agg (cs.extract off (off+n))) w:=by
 obtain ⟨i,hi,hn⟩:=bV hs
 simp [part,j3 ha,Go.sizeOf,typeInfo,hi,hn]
theorem sw.map_eq {α β:Type} {xs:List α} {ys:List β} {R:α→β→Prop} (h:sw R xs ys):xs.length=ys.length:=by
 induction h with
 | nil=>rfl
 | cons _ _ ih=>simp [ih]
theorem mC {e:TypeId} {n b:Nat} (h:wK P e=some (n,b)):∃ i z,P.info? e=some i∧i.zero=some z∧i.size=n∧i.bytes=b∧z.cells.size=i.size∧0<i.bytes∧0<i.size:=by
 unfold wK at h
 split at h
 ·rename_i i hi
  split at h
  ·rename_i z hz
   split at h
   ·rename_i hc
    cases h
    exact ⟨i,z,hi,hz,rfl,rfl,hc.1,hc.2.1,hc.2.2⟩
   ·cases h
  ·cases h
 ·cases h
theorem sx {β γ:Type} (f:β→γ):∀ (l:List (Nat×β)) (k:Nat),l.map (·.1)=List.range' k l.length→l.map (fun p=>(p.1,f p.2))=(List.range' k (l.map (fun p=>f p.2)).length).zip (l.map (fun p=>f p.2))
 | [],k,_=>rfl
 | p::l,k,h=>by
   simp only [List.map_cons,List.length_cons,List.range'_succ,List.cons.injEq] at h
   simp only [List.map_cons,List.length_cons,List.range'_succ,List.zip_cons_cons]
   rw [← sx f l (k+1) h.2,h.1]
theorem sw.flat {esz:Nat} : ∀ {xs:List Operand} {rows:List (List DV)},sw (fun (x:Operand) (r:List DV)=>bq J w r (a.eval x).cells.toList∧(∀ v∈(a.eval x).cells.toList,v.oneCell'=true)∧r.length=esz) xs rows→
  bq J w rows.flatten ((xs.map a.eval).map (·.cells.toList)).flatten∧(∀ v∈((xs.map a.eval).map (·.cells.toList)).flatten,v.oneCell'=true)∧(∀ r∈rows,r.length=esz)∧(∀ v∈xs.map a.eval,v.cells.size=esz)
 | _,_,.nil=>⟨trivial,(fun _ h=>by cases h),(fun _ h=>by cases h),(fun _ h=>by cases h)⟩
 | _,_,.cons h1 h2=>by
   obtain ⟨k1,k2,k3,k4⟩:=sw.flat h2
   obtain ⟨h3,h4,h5⟩:=h1
   simp only [List.map_cons,List.flatten_cons]
   refine ⟨bq.append h3 k1,fun v hv=>?_,fun r hr=>?_,fun v hv=>?_⟩
   ·rcases List.mem_append.1 hv with hv | hv
    ·exact h4 v hv
    ·exact k2 v hv
   ·rcases List.mem_cons.1 hr with rfl | hr
    ·exact h5
    ·exact k3 r hr
   ·rcases List.mem_cons.1 hv with rfl | hv
    ·have:=h3.length
     simp at this; omega
    ·exact k4 v hv
theorem HO (S:aJ G J w ι obj) (he:∀ t,cQ J w ι (get t) (a.tmps.getD t Go.undef)) {T:TypeId} {n:Nat} {parts:Array (Nat×Operand)} {et esz:Nat} {ys:List bR} {e:eN} (hc:cu P (.buildSlice T n parts)=some (.nh et esz ys))
  (hb:obj base=.free) (hE:cB G get obj base (.nh et esz ys)=some e) :
  ∃ v w',(Instr.buildSlice T n (parts.map fun (i,x)=>(i,a.eval x))).run P w=.ok v w'∧a_ G obj (bJ obj base e) J ι w e.r v w':=by
 simp only [cu] at hc
 split at hc
 ·rename_i el hu
  split at hc
  ·rename_i size bs xs h1 h2
   split at hc
   ·rename_i lJ
    cases hc
    obtain ⟨hfit,hidx⟩:=lJ
    obtain ⟨i,z,hi,hz,hsz,_,VL,_,hpos⟩:=mC h1
    simp only [cB] at hE
    split at hE
    ·rename_i rows hrows
     cases hE
     have hA:=vu S he h2 hrows
     have hlen:=hA.map_eq
     have mq:parts.toList.length=n:=by have:=congrArg List.length hidx; simpa using this
     rw [List.length_map,mq] at hlen
     obtain ⟨f1,f2,f3,f4⟩:=hA.flat
     have BP:(parts.map fun (i,x)=>(i,a.eval x)).toList=(List.range' 0 ((parts.toList.map (·.2)).map a.eval).length).zip ((parts.toList.map (·.2)).map a.eval):=by
      have:=sx a.eval parts.toList 0 (by rw [hidx,mq,List.range_eq_range'])
      rw [Array.toList_map,List.map_map]
      exact this
     let C0:Array Value:=(Array.range (n*esz)).map ((if n*esz=0 then #[] else z.cells)[· % (if n*esz=0 then #[] else z.cells).size]!)
     have hC0:C0.size=n*esz:=by simp [C0]
     have hvl:((parts.toList.map (·.2)).map a.eval).length=n:=by simpa using mq
     obtain ⟨cs,k1,k2⟩:=tc esz ((parts.toList.map (·.2)).map a.eval) 0 C0 f4 (by rw [hvl,Nat.zero_add,hC0]; exact Nat.le_refl _)
     have hrun:(Instr.buildSlice T n (parts.map fun (i,x)=>(i,a.eval x))).run P w=.ok (.slice (some ⟨w.heap.size,0,none⟩) n n) (w.alloc (.cells cs et)):=by
      have BU:¬ n*esz>2 ^ 24:=by omega
      have Kl:∀ w:World,(Go.sizeOf et).run P w=.ok esz w:=fun w=>by simp [Go.sizeOf,typeInfo,hi,hsz]
      have R8:∀ w:World,(zeroValue et).run P w=.ok z w:=fun w=>by simp [zeroValue,typeInfo,hi,hz]
      by_cases h0:n*esz=0
      ·have CF:=k1
       simp only [C0,if_pos h0] at CF
       simp only [Instr.buildSlice,Sem.run_bind,run_underlying hu w,Result.andThen_ok,Kl,if_neg BU,Sem.run_pure,if_pos h0,BP,CF]
       simp [newRow]
      ·have CF:=k1
       simp only [C0,if_neg h0] at CF
       simp only [Instr.buildSlice,Sem.run_bind,run_underlying hu w,Result.andThen_ok,Kl,if_neg BU,Sem.run_pure,if_neg h0,R8,BP,CF]
       simp [newRow]
     have hcl:cs.toList=((parts.toList.map (·.2)).map a.eval |>.map (·.cells.toList)).flatten:=by
      rw [k2]
      have hfl:(((parts.toList.map (·.2)).map a.eval).map (·.cells.toList)).flatten.length=C0.toList.length:=by
       have YX:C0.toList.length=n*esz:=by rw [← hC0]; exact Array.length_toList
       rw [← f1.length,kB f3,YX,← hlen]
      simp only [Nat.zero_mul]
      unfold splice
      rw [Nat.zero_add,hfl]
      simp
     refine ⟨_,_,hrun,?_⟩
     have TQ:cs.size=n*esz:=by
      have:cs.toList.length=cs.size:=Array.length_toList
      rw [← this,hcl,← f1.length,kB f3,← hlen]
     have:=a_.dat (G:=G) (J:=J) (w:=w) (ι:=ι) S hb et esz rows cs w.drawn n (by omega) (by rw [TQ]; exact Nat.le_refl _) (fun ι' E=>by
      refine bC.ru (bq.mono (fun _ h=>h) (S.same E) _ _ f1) f2 f3 (dB { w with drawn:=w.drawn } _) (fun j u hu=>?_)
      rw [← hcl] at hu
      simpa using hu)
     rw [← hlen] at this ⊢
     exact this
    ·split at hE
     ·rename_i YM
      split at hE
      ·rename_i cl hcl
       cases hE
       subst YM
       obtain ⟨b1,b2,b3⟩:=y7 S he h2 hcl
       have mq:parts.toList.length=n:=by have:=congrArg List.length hidx; simpa using this
       rw [List.length_map,mq] at b3
       have BP:(parts.map fun (i,x)=>(i,a.eval x)).toList=(List.range' 0 ((parts.toList.map (·.2)).map a.eval).length).zip ((parts.toList.map (·.2)).map a.eval):=by
        have:=sx a.eval parts.toList 0 (by rw [hidx,mq,List.range_eq_range'])
        rw [Array.toList_map,List.map_map]
        exact this
       let C0:Array Value:=(Array.range (n*1)).map ((if n*1=0 then #[] else z.cells)[· % (if n*1=0 then #[] else z.cells).size]!)
       have hC0:C0.size=n*1:=by simp [C0]
       have hvl:((parts.toList.map (·.2)).map a.eval).length=n:=by simpa using mq
       obtain ⟨cs,k1,k2⟩:=tc 1 ((parts.toList.map (·.2)).map a.eval) 0 C0 b2 (by rw [hvl,Nat.zero_add,hC0]; exact Nat.le_refl _)
       have hrun:(Instr.buildSlice T n (parts.map fun (i,x)=>(i,a.eval x))).run P w=.ok (.slice (some ⟨w.heap.size,0,none⟩) n n) (w.alloc (.cells cs et)):=by
        have BU:¬ n*1>2 ^ 24:=by omega
        have Kl:∀ w:World,(Go.sizeOf et).run P w=.ok 1 w:=fun w=>by simp [Go.sizeOf,typeInfo,hi,hsz]
        have R8:∀ w:World,(zeroValue et).run P w=.ok z w:=fun w=>by simp [zeroValue,typeInfo,hi,hz]
        by_cases h0:n*1=0
        ·have CF:=k1
         simp only [C0,if_pos h0] at CF
         simp only [Instr.buildSlice,Sem.run_bind,run_underlying hu w,Result.andThen_ok,Kl,if_neg BU,Sem.run_pure,if_pos h0,BP,CF]
         simp [newRow]
        ·have CF:=k1
         simp only [C0,if_neg h0] at CF
         simp only [Instr.buildSlice,Sem.run_bind,run_underlying hu w,Result.andThen_ok,Kl,if_neg BU,Sem.run_pure,if_neg h0,R8,BP,CF]
         simp [newRow]
       have hfl:(((parts.toList.map (·.2)).map a.eval).map (·.cells.toList)).flatten.length=n:=by rw [← b1.length,b3]
       have Y5:C0.toList.length=n:=by rw [Array.length_toList,hC0,Nat.mul_one]
       have OW:cs.toList=(((parts.toList.map (·.2)).map a.eval).map (·.cells.toList)).flatten:=by
        rw [k2]
        simp only [Nat.zero_mul]
        unfold splice
        rw [Nat.zero_add,hfl,← Y5]
        simp
       have TQ:cs.size=n:=by
        have:cs.toList.length=cs.size:=Array.length_toList
        rw [← this,OW,hfl]
       have hA:=a_.box (G:=G) (J:=J) (w:=w) (ι:=ι) S hb et cl cs (by rw [OW]; exact b1)
       obtain ⟨J',ι',q1,⟨b,q2,q3⟩,q4⟩:=hA
       have hbe:b=w.heap.size:=by
        have:=q3
        simp at this
        exact this.symm
       subst hbe
       refine ⟨_,_,hrun,J',ι',q1,.inr ⟨_,n,et,n,q2,?_,?_,?_,?_⟩,q4⟩
       ·rw [Nat.zero_mul,b3]
       ·rw [b3]; exact Nat.le_refl _
       ·simp only [World.shape?,dB]
        rw [TQ]
       ·omega
      ·cases hE
     ·cases hE
   ·cases hc
  ·cases hc
 ·cases hc
set_option maxHeartbeats 1000000 in
theorem HA (S:aJ G J w ι obj) (he:∀ t,cQ J w ι (get t) (a.tmps.getD t Go.undef)) {i:I} {e:eN} (hE:cB G get obj base i=some e) (hfree:∀ j,j<e.nw.length→obj (base+j)=.free) {o:Oper} (hc:cu P o.op=some i) :
  cC P o a w (a_ G obj (bJ obj base e) J ι w e.r):=by
 obtain ⟨dst,op,type,pos,after,guard⟩:=o
 dsimp only at hc
 have stay:∀ {e:eN} {v:Value},e.nw=[]→e.wr=[]→cQ J w ι e.r v→a_ G obj (bJ obj base e) J ι w e.r v w:=by
  intro e v h1 h2 h3
  simp only [bJ,h1,h2,oU,cF]
  exact a_.stay S h3
 cases op with
 | move x=>
   simp only [cu] at hc
   split at hc
   ·rename_i y hy; cases hc
    simp only [cB] at hE; cases hE
    exact cC.of_run rfl (stay rfl rfl (aT S he hy))
   ·cases hc
 | assign x=>
   simp only [cu] at hc
   split at hc
   ·rename_i y hy; cases hc
    simp only [cB] at hE; cases hE
    exact cC.of_run rfl (stay rfl rfl (aT S he hy))
   ·cases hc
 | pick c x y=>
   simp only [cu] at hc
   split at hc
   ·rename_i c' x' y' h1 h2 h3; cases hc
    simp only [cB] at hE
    split at hE
    ·rename_i b hb
     cases hE
     have hrc:=aT S he h1
     rw [hb] at hrc
     have iH:a.eval c=.bool b:=hrc
     refine cC.of_run (v:=if b then a.eval x else a.eval y) (by simp [execOp,iH,asBool]) (stay rfl rfl ?_)
     cases b
     ·exact aT S he h3
     ·exact aT S he h2
    ·cases hE
   ·cases hc
 | alloc T=>
   simp only [cu] at hc
   split at hc
   ·rename_i z hz; cases hc
    simp only [cB] at hE; cases hE
    obtain ⟨v,hv,hr⟩:=sy (J:=J) (w:=w) (ι:=ι) hz
    have hb:obj base=.free:=by simpa using hfree 0 (by simp)
    have:=a_.box S hb T (z.map .d) v.cells hr
    exact cC.value (s:=Instr.alloc T true (.tuple #[])) rfl (by simp [Instr.alloc,hv,newVar,newRow]) this
   ·cases hc
 | box T x=>
   simp only [cu] at hc
   split at hc
   ·rename_i y hy; cases hc
    simp only [cB] at hE
    split at hE
    ·rename_i cs hcs
     cases hE
     have hb:obj base=.free:=by simpa using hfree 0 (by simp)
     have:=a_.box S hb T cs (a.eval x).cells (lN (aT S he hy) hcs)
     exact cC.value (s:=Instr.box T (a.eval x)) rfl (by simp [Instr.box,newVar,newRow]) this
    ·cases hE
   ·cases hc
 | build T parts=>
   have xN:=hc
   obtain ⟨zero,ps,rfl⟩:∃ zero ps,i=.build zero ps:=by
    simp only [cu] at hc
    split at hc
    ·split at hc
     ·split at hc
      ·cases hc; exact ⟨_,_,rfl⟩
      ·cases hc
     ·cases hc
    ·split at hc
     ·split at hc
      ·cases hc; exact ⟨_,_,rfl⟩
      ·cases hc
     ·cases hc
    ·cases hc
   simp only [cB] at hE
   split at hE
   ·rename_i cs hcs
    cases hE
    obtain ⟨v,hv,hr⟩:=Ck S he xN hcs
    exact cC.value (s:=Instr.build T (parts.map fun (i,x)=>(i,a.eval x))) rfl hv (stay rfl rfl hr)
   ·cases hE
 | buildSlice T n parts=>
   have xN:=hc
   obtain ⟨et,esz,ys,rfl⟩:∃ et esz ys,i=.nh et esz ys:=by
    simp only [cu] at hc
    split at hc
    ·split at hc
     ·split at hc
      ·cases hc; exact ⟨_,_,_,rfl⟩
      ·cases hc
     ·cases hc
    ·cases hc
   have hb:obj base=.free:=by
    have hlen:0<e.nw.length:=by
     simp only [cB] at hE
     split at hE
     ·cases hE; simp
     ·split at hE
      ·split at hE
       ·cases hE; simp
       ·cases hE
      ·cases hE
    simpa using hfree 0 hlen
   obtain ⟨v,w',hv,hA⟩:=HO S he xN hb hE
   refine cC.of_run (v:=v) (w':=w') ?_ hA
   simp only [execOp,Sem.run_bind]
   rw [hv]
   rfl
 | load T x=>
   simp only [cu] at hc
   split at hc
   ·rename_i y n h1 h2 h3; cases hc
    obtain ⟨v,hv,hr,h4,h5⟩:=GO S he h1 h2 h3 hE
    exact cC.value (s:=Instr.loadAt T (a.eval x)) rfl hv (stay h4 h5 hr)
   ·rename_i y n h1 h2 h3; cases hc
    obtain ⟨v,hv,hr,h4,h5⟩:=JT S he h1 h2 hE
    exact cC.value (s:=Instr.loadAt T (a.eval x)) rfl hv (stay h4 h5 hr)
   ·cases hc
 | store T x y=>
   simp only [cu] at hc
   split at hc
   ·rename_i x' y' n h1 h2 h3; cases hc
    obtain ⟨w',hv,hA⟩:=ID S he h1 h2 h3 hE
    refine cC.zI (w':=w') ?_ hA
    simp [execOp,hv]
   ·cases hc
 | nilCheck x=>
   simp only [cu] at hc
   split at hc
   ·rename_i y hy; cases hc
    have bY:=aT S he hy
    simp only [cB] at hE
    split at hE <;> first | (cases hE; done) | skip
    ·rename_i o col dR
     cases hE
     rw [dR] at bY
     obtain ⟨b,hb,hv⟩:=bY
     exact cC.of_run (v:=a.eval x) (by simp [execOp,hv]) (stay rfl rfl ⟨b,hb,hv⟩)
    ·rename_i o n e r c dR
     cases hE
     rw [dR] at bY
     obtain ⟨b,hb,hv⟩:=bY
     exact cC.of_run (v:=a.eval x) (by simp [execOp,hv]) (stay rfl rfl ⟨b,hb,hv⟩)
    ·rename_i r c dR
     cases hE
     rw [dR] at bY
     obtain ⟨b,off,hb,hv,h⟩:=bY
     exact cC.of_run (v:=a.eval x) (by simp [execOp,hv]) (stay rfl rfl ⟨b,off,hb,hv,h⟩)
   ·cases hc
 | binOp j6 T x y T2=>
   have two:∀ {x' y':bR},aI x=some x'→aI y=some y'→cB G get obj base (.bin j6 x' y')=some e→cC P ⟨dst,.binOp j6 T x y T2,type,pos,after,guard⟩ a w (a_ G obj (bJ obj base e) J ι w e.r):=by
    intro x' y' h1 h2 hE
    have bY:=aT S he h1
    have jD:=aT S he h2
    simp only [cB] at hE
    split at hE
    ·rename_i p q hp hq
     rw [hp] at bY; rw [hq] at jD
     split at hE
     ·rename_i v hv
      cases hE
      have e1:a.eval x=p:=bY
      have e2:a.eval y=q:=jD
      exact cC.value (s:=(do eqGuard j6 T x y (a.eval x) (a.eval y); Go.binOp j6 T (a.eval x) (a.eval y))) rfl (by rw [e1,e2]; exact Lm hv T x y w) (stay rfl rfl rfl)
     ·cases hE
    ·cases hE
   have bl:∀ {x' y':bR} {neg:Bool},(j6=.eql∨j6=.neq)→neg=gJ j6→P.underlying T=some .bool→aI x=some x'→aI y=some y'→cB G get obj base (.T8 neg x' y')=some e→
     cC P ⟨dst,.binOp j6 T x y T2,type,pos,after,guard⟩ a w (a_ G obj (bJ obj base e) J ι w e.r):=by
    intro x' y' neg ho hneg hu h1 h2 hE
    have bY:=aT S he h1
    have jD:=aT S he h2
    simp only [cB] at hE
    split at hE
    ·rename_i p q hp hq
     rw [hp] at bY; rw [hq] at jD
     cases hE
     have e1:a.eval x=.bool p:=bY
     have e2:a.eval y=.bool q:=jD
     exact cC.value (s:=(do eqGuard j6 T x y (a.eval x) (a.eval y); Go.binOp j6 T (a.eval x) (a.eval y))) rfl (by rw [e1,e2,hneg]; exact O9 ho hu x y p q w) (stay rfl rfl rfl)
    ·cases hE
   simp only [cu] at hc
   split at hc
   ·rename_i x' y' h1 h2
    cases hU:P.underlying T with
    | none=>simp [hU] at hc
    | some d=>
      rw [hU] at hc
      cases d with
      | bool=>
        cases j6 <;> dsimp only at hc <;> first | (cases hc; done) | skip
        ·cases hc; exact bl (.inl rfl) rfl hU h1 h2 hE
        ·cases hc; exact bl (.inr rfl) rfl hU h1 h2 hE
      | int k=>cases j6 <;> (dsimp only at hc; cases hc; exact two h1 h2 hE)
      | string=>cases j6 <;> (dsimp only at hc; cases hc; exact two h1 h2 hE)
      | struct fs=>
        have go:∀ {neg:Bool},(j6=.eql∨j6=.neq)→neg=gJ j6→(match WX P T with | some ks=>some (I.eqs neg ks x' y') | none=>none)=some i→cC P ⟨dst,.binOp j6 T x y T2,type,pos,after,guard⟩ a w (a_ G obj (bJ obj base e) J ι w e.r):=by
         intro neg ho hneg hc
         split at hc
         ·rename_i ks hks
          cases hc
          have bY:=aT S he h1
          have jD:=aT S he h2
          simp only [cB] at hE
          split at hE
          ·rename_i p q hp hq
           rw [hp] at bY; rw [hq] at jD
           split at hE
           ·rename_i b hb
            cases hE
            obtain ⟨xs,e1,hxs⟩:=bY
            obtain ⟨ys,e2,hys⟩:=jD
            exact cC.value (s:=(do eqGuard j6 T x y (a.eval x) (a.eval y); Go.binOp j6 T (a.eval x) (a.eval y))) rfl (by rw [e1,e2,hneg]; exact LX ho hks x y hxs hys hb) (stay rfl rfl rfl)
           ·cases hE
          ·cases hE
         ·cases hc
        cases j6 <;> dsimp only at hc <;> first | (cases hc; done) | skip
        ·exact go (.inl rfl) rfl hc
        ·exact go (.inr rfl) rfl hc
      | pointer pe=>
        have go:∀ {neg:Bool},(j6=.eql∨j6=.neq)→neg=gJ j6→(if Ml y=true then some (I.ic neg x') else none)=some i→cC P ⟨dst,.binOp j6 T x y T2,type,pos,after,guard⟩ a w (a_ G obj (bJ obj base e) J ι w e.r):=by
         intro neg ho hneg hc
         split at hc
         ·rename_i kW
          cases hc
          have hy:a.eval y=.pointer none:=by
           unfold Ml at kW
           split at kW
           ·rfl
           ·cases kW
          have bY:=aT S he h1
          have fin:∀ {v:Option Addr} {r:Bool},a.eval x=.pointer v→r=(bif gJ j6 then !v.isNone else v.isNone)→e = { r:=.bool r }→cC P ⟨dst,.binOp j6 T x y T2,type,pos,after,guard⟩ a w (a_ G obj (bJ obj base e) J ι w e.r):=by
           intro v r hv hr he'
           subst he'
           exact cC.value (s:=(do eqGuard j6 T x y (a.eval x) (a.eval y); Go.binOp j6 T (a.eval x) (a.eval y))) rfl (by rw [hv,hy]; exact LW ho hU x y v w) (stay rfl rfl (by rw [hr]; rfl))
          simp only [cB] at hE
          split at hE <;> first | (cases hE; done) | skip
          ·rename_i dR
           rw [dR] at bY
           obtain ⟨b,_,hv⟩:=bY
           exact fin hv (by rw [hneg]; cases gJ j6 <;> rfl) (Option.some.inj hE).symm
          ·rename_i dR
           rw [dR] at bY
           obtain ⟨b,_,hv⟩:=bY
           exact fin hv (by rw [hneg]; cases gJ j6 <;> rfl) (Option.some.inj hE).symm
          ·rename_i dR
           rw [dR] at bY
           obtain ⟨b,off,_,hv,_⟩:=bY
           exact fin hv (by rw [hneg]; cases gJ j6 <;> rfl) (Option.some.inj hE).symm
          ·rename_i dR
           rw [dR] at bY
           have hv:a.eval x=.pointer none:=bY
           exact fin hv (by rw [hneg]; cases gJ j6 <;> rfl) (Option.some.inj hE).symm
         ·cases hc
        cases j6 <;> dsimp only at hc <;> first | (cases hc; done) | skip
        ·exact go (.inl rfl) rfl hc
        ·exact go (.inr rfl) rfl hc
      | slice se=>
        have go:∀ {neg:Bool},(j6=.eql∨j6=.neq)→neg=gJ j6→(if Mk y=true then some (I.zX neg x') else none)=some i→cC P ⟨dst,.binOp j6 T x y T2,type,pos,after,guard⟩ a w (a_ G obj (bJ obj base e) J ι w e.r):=by
         intro neg ho hneg hc
         split at hc
         ·rename_i kW
          cases hc
          have hy:a.eval y=.slice none 0 0:=by
           unfold Mk at kW
           split at kW
           ·rfl
           ·cases kW
          have bY:=aT S he h1
          have fin:∀ {v:Option Addr} {n c:Nat},a.eval x=.slice v n c→(e.nw=[]∧e.wr=[]∧cQ J w ι e.r (.bool (bif gJ j6 then !v.isNone else v.isNone)))→cC P ⟨dst,.binOp j6 T x y T2,type,pos,after,guard⟩ a w (a_ G obj (bJ obj base e) J ι w e.r):=by
           intro v n c hv hr
           exact cC.value (s:=(do eqGuard j6 T x y (a.eval x) (a.eval y); Go.binOp j6 T (a.eval x) (a.eval y))) rfl (by rw [hv,hy]; exact LU ho hU x y v n c w) (stay hr.1 hr.2.1 hr.2.2)
          simp only [cB] at hE
          split at hE <;> first | (cases hE; done) | skip
          ·rename_i dR
           cases hE
           rw [dR] at bY
           have hv:a.eval x=.slice none 0 0:=bY
           exact fin hv ⟨rfl,rfl,by rw [hneg]; cases gJ j6 <;> rfl⟩
          ·rename_i dR
           cases hE
           rw [dR] at bY
           obtain ⟨sa,n,cap,hv,_,_,hr⟩:=bY
           refine fin hv ⟨rfl,rfl,?_⟩
           dsimp only
           split
           ·exact ⟨_,rfl⟩
           ·rename_i hne
            rcases hr with hr | ⟨b,off,hsa,_⟩
            ·exact absurd (by rw [hr]; rfl) hne
            ·rw [hneg,hsa]; cases gJ j6 <;> rfl
          ·rename_i dR
           cases hE
           rw [dR] at bY
           rcases bY with ⟨hz,sa,hv⟩ | ⟨b,cap,et',C,hb,hv,_⟩
           ·refine fin hv ⟨rfl,rfl,?_⟩
            dsimp only
            rw [if_pos hz]
            exact ⟨_,rfl⟩
           ·refine fin hv ⟨rfl,rfl,?_⟩
            dsimp only
            split
            ·exact ⟨_,rfl⟩
            ·rw [hneg]; cases gJ j6 <;> rfl
         ·cases hc
        cases j6 <;> dsimp only at hc <;> first | (cases hc; done) | skip
        ·exact go (.inl rfl) rfl hc
        ·exact go (.inr rfl) rfl hc
      | _=>cases j6 <;> (dsimp only at hc; cases hc)
   ·cases hc
 | unOp Z2 T x=>
   cases Z2 <;> simp only [cu] at hc <;> first | (cases hc; done) | skip
   ·split at hc
    ·rename_i y hy; cases hc
     have bY:=aT S he hy
     simp only [cB] at hE
     split at hE
     ·rename_i k p hp
      rw [hp] at bY
      cases hE
      have e1:a.eval x=.int k p:=bY
      exact cC.value (s:=Op.unary .neg (a.eval x)) rfl (by rw [e1]; rfl) (stay rfl rfl rfl)
     ·cases hE
    ·cases hc
   ·split at hc
    ·rename_i y hy; cases hc
     have bY:=aT S he hy
     simp only [cB] at hE
     split at hE
     ·rename_i p hp
      rw [hp] at bY
      cases hE
      have e1:a.eval x=.bool p:=bY
      exact cC.value (s:=Op.unary .not (a.eval x)) rfl (by rw [e1]; rfl) (stay rfl rfl rfl)
     ·cases hE
    ·cases hc
 | convert S' T x=>
   simp only [cu] at hc
   split at hc
   ·rename_i y k k' h1 h2 h3; cases hc
    have bY:=aT S he h1
    simp only [cB] at hE
    split at hE
    ·rename_i kk n hp
     rw [hp] at bY
     cases hE
     have e1:a.eval x=.int kk n:=bY
     refine cC.value (s:=Go.convert S' T (a.eval x)) rfl ?_ (stay rfl rfl rfl)
     rw [e1]
     simp only [Go.convert,Sem.run_bind,run_underlying h2 w,run_underlying h3 w,Result.andThen_ok]
     rfl
    ·cases hE
   ·cases hc
 | fieldAddr T x f=>
   simp only [cu] at hc
   split at hc
   ·rename_i y fs h1 h2
    split at hc
    ·rename_i fd h3
     split at hc
     ·rename_i n h4
      cases hc
      have bY:=aT S he h1
      simp only [cB] at hE
      split at hE <;> first | (cases hE; done) | skip
      ·rename_i o col dR
       cases hE
       rw [dR] at bY
       obtain ⟨b,hb,hv⟩:=bY
       exact cC.value (s:=Instr.fieldAt T (a.eval x) f) rfl (by rw [hv]; exact nL h2 h3 h4 b col w) (stay rfl rfl ⟨b,hb,rfl⟩)
      ·rename_i o n' e' r c dR
       cases hE
       rw [dR] at bY
       obtain ⟨b,hb,hv⟩:=bY
       exact cC.value (s:=Instr.fieldAt T (a.eval x) f) rfl (by rw [hv]; exact nL h2 h3 h4 b _ w) (stay rfl rfl ⟨b,hb,by simp; omega⟩)
      ·rename_i r c dR
       cases hE
       rw [dR] at bY
       obtain ⟨b,off,hb,hv,h⟩:=bY
       exact cC.value (s:=Instr.fieldAt T (a.eval x) f) rfl (by rw [hv]; exact nL h2 h3 h4 b _ w) (stay rfl rfl ⟨b,off,hb,by simp; omega,h⟩)
     ·cases hc
    ·cases hc
   ·cases hc
 | field T x f=>
   simp only [cu] at hc
   split at hc
   ·rename_i y fs h1 h2
    split at hc
    ·rename_i fd h3
     split at hc
     ·rename_i n h4 h5
      cases hc
      have bY:=aT S he h1
      simp only [cB] at hE
      split at hE
      ·rename_i cs dR
       rw [dR] at bY
       obtain ⟨xs,hv,hcs⟩:=bY
       split at hE
       ·rename_i hl
        cases hE
        refine cC.value (s:=Instr.field T (a.eval x) f) rfl (v:=.agg (xs.extract fd.offset (fd.offset+n))) (by
         rw [hv]
         simp only [Instr.field,Sem.run_bind,run_underlying h2 w,Result.andThen_ok,h3,asAgg,Sem.run_pure,ym h4 h5]) (stay rfl rfl ⟨_,rfl,?_⟩)
        have:=(hcs.drop fd.offset).take n
        simpa [Array.toList_extract,List.extract_eq_take_drop] using this
       ·cases hE
      ·cases hE
     ·rename_i n h4 h5
      cases hc
      have bY:=aT S he h1
      simp only [cB] at hE
      split at hE
      ·rename_i cs dR
       rw [dR] at bY
       obtain ⟨xs,hv,hcs⟩:=bY
       split at hE
       ·rename_i v hl
        cases hE
        obtain ⟨u,hu,_,DP⟩:=hcs.get hl
        refine cC.value (s:=Instr.field T (a.eval x) f) rfl (v:=u) (by
         rw [hv]
         simp only [Instr.field,Sem.run_bind,run_underlying h2 w,Result.andThen_ok,h3,asAgg,Sem.run_pure]
         exact A9 h4 (by simpa using hu)) (stay rfl rfl DP)
       ·cases hE
      ·cases hE
     ·cases hc
    ·cases hc
   ·cases hc
 | indexAddr T x y=>
   simp only [cu] at hc
   split at hc
   ·rename_i x' y' el h1 h2 h3
    split at hc
    ·rename_i n h4; cases hc
     obtain ⟨v,hv,hr,h5,h6⟩:=GZ S he h1 h2 h3 h4 hE
     exact cC.value (s:=Instr.indexAt T (a.eval x) (a.eval y)) rfl hv (stay h5 h6 hr)
    ·cases hc
   ·rename_i x' y' len el h1 h2 h3
    split at hc
    ·rename_i n h4; cases hc
     obtain ⟨v,hv,hr,h5,h6⟩:=GY S he h1 h2 h3 h4 hE
     exact cC.value (s:=Instr.indexAt T (a.eval x) (a.eval y)) rfl hv (stay h5 h6 hr)
    ·cases hc
   ·cases hc
 | index T x y=>
   simp only [cu] at hc
   split at hc
   ·rename_i x' y' len el h1 h2 h3
    split at hc
    ·rename_i h4 h5; cases hc
     have bY:=aT S he h1
     have jD:=aT S he h2
     simp only [cB] at hE
     split at hE
     ·rename_i k j dR
      rw [dR] at jD
      have hY:a.eval y=.int k j:=jD
      split at hE
      ·rename_i h0
       split at hE
       ·rename_i cs DN
        rw [DN] at bY
        obtain ⟨xs,hv,hcs⟩:=bY
        split at hE
        ·rename_i v hl
         cases hE
         obtain ⟨u,hu,_,DP⟩:=hcs.get hl
         obtain ⟨ii,hii,hn⟩:=bV h5
         have G8:0≤j∧j<(len:Int):=⟨h0.1,by omega⟩
         refine cC.value (s:=Instr.index T (a.eval x) (a.eval y)) rfl (v:=u) (by
          rw [hv,hY]
          have hsz:(Go.sizeOf el).run P w=.ok 1 w:=by simp [Go.sizeOf,typeInfo,hii,hn]
          simp only [Instr.index,asIntOf,Sem.run_bind,Sem.run_pure,Result.andThen_ok,run_underlying h3 w]
          rw [if_pos G8]
          simp only [Sem.run_bind,hsz,Result.andThen_ok]
          exact A9 h4 (by simpa using hu)) (stay rfl rfl DP)
        ·cases hE
       ·cases hE
      ·cases hE
     ·cases hE
    ·rename_i n h4 h5; cases hc
     have bY:=aT S he h1
     have jD:=aT S he h2
     simp only [cB] at hE
     split at hE
     ·rename_i k j dR
      rw [dR] at jD
      have hY:a.eval y=.int k j:=jD
      split at hE
      ·rename_i h0
       split at hE
       ·rename_i cs DN
        rw [DN] at bY
        obtain ⟨xs,hv,hcs⟩:=bY
        split at hE
        ·rename_i hl
         cases hE
         obtain ⟨ii,hii,hn⟩:=bV h5
         have G8:0≤j∧j<(len:Int):=⟨h0.1,by omega⟩
         refine cC.value (s:=Instr.index T (a.eval x) (a.eval y)) rfl (v:=.agg (xs.extract (j.toNat*n) (j.toNat*n+n))) (by
          rw [hv,hY]
          have hsz:(Go.sizeOf el).run P w=.ok n w:=by simp [Go.sizeOf,typeInfo,hii,hn]
          simp only [Instr.index,asIntOf,Sem.run_bind,Sem.run_pure,Result.andThen_ok,run_underlying h3 w]
          rw [if_pos G8]
          simp only [Sem.run_bind,hsz,Result.andThen_ok]
          exact ym h4 h5) (stay rfl rfl ⟨_,rfl,?_⟩)
         have:=(hcs.drop (j.toNat*n)).take n
         simpa [Array.toList_extract,List.extract_eq_take_drop] using this
        ·cases hE
       ·cases hE
      ·cases hE
     ·cases hE
    ·cases hc
   ·rename_i x' y' h1 h2 h3
    cases hc
    have bY:=aT S he h1
    have jD:=aT S he h2
    simp only [cB] at hE
    split at hE
    ·rename_i k j s dR DN
     rw [dR] at jD; rw [DN] at bY
     have hY:a.eval y=.int k j:=jD
     have hX:a.eval x=.string s:=bY
     split at hE
     ·rename_i h0
      split at hE
      ·rename_i b hb
       cases hE
       refine cC.value (s:=Instr.index T (a.eval x) (a.eval y)) rfl (v:=.int .u8 b.toNat) (by
        rw [hX,hY]
        simp only [Instr.index,asIntOf,Sem.run_bind,Sem.run_pure,Result.andThen_ok,run_underlying h3 w]
        rw [if_pos h0]
        have:s[j.toNat]? = some b:=by
         have hlt:j.toNat<s.data.toList.length:=(List.getElem?_eq_some_iff.1 hb).1
         have hlt':j.toNat<s.size:=by simpa using hlt
         rw [getElem?_pos s j.toNat hlt']
         have:=(List.getElem?_eq_some_iff.1 hb).2
         rw [← this]; rfl
        rw [this]; rfl) (stay rfl rfl rfl)
      ·cases hE
     ·cases hE
    ·cases hE
   ·cases hc
 | slice T x lo hi mx=>
   simp only [cu] at hc
   split at hc
   ·rename_i x' lo' hi' U_ el h1 h2 h3 h4 hu
    split at hc
    ·rename_i n h5
     split at hc
     ·rename_i YB
      cases hc
      obtain ⟨v,hv,hr,h6,h7⟩:=Gc S he h1 h2 h3 h4 YB hu h5 hE
      exact cC.value (s:=Instr.sliceAt T (a.eval x) (lo.map a.eval) (hi.map a.eval) (mx.map a.eval)) rfl hv (stay h6 h7 hr)
     ·cases hc
    ·cases hc
   ·rename_i x' lo' hi' h1 h2 h3 h4 hu
    cases hc
    have hmx:mx=none:=by
     cases mx with
     | none=>rfl
     | some X=>simp only [eR] at h4; split at h4 <;> cases h4
    subst hmx
    have bY:=aT S he h1
    simp only [cB] at hE
    split at hE
    ·rename_i s dR
     rw [dR] at bY
     have hv:a.eval x=.string s:=bY
     split at hE
     ·rename_i l h b1 b2
      split at hE
      ·rename_i G8
       cases hE
       exact cC.value (s:=Instr.sliceAt T (a.eval x) (lo.map a.eval) (hi.map a.eval) none) rfl (v:=.string (s.extract l h)) (by rw [hv]; exact LQ hu (jh S he h2 b1) (jh S he h3 b2) G8.1 G8.2 w) (stay rfl rfl rfl)
      ·cases hE
     ·cases hE
    ·cases hE
   ·cases hc
 | makeFunc f p q=>
   simp only [cu] at hc
   split at hc
   ·rename_i p' q' h1 h2; cases hc
    simp only [cB] at hE; cases hE
    refine cC.of_run (v:=.func f (p.map a.eval) (q.map a.eval)) rfl (stay rfl rfl ⟨_,_,rfl,?_,?_⟩)
    ·have:=oA S he h1; simpa using this
    ·have:=oA S he h2; simpa using this
   ·cases hc
 | extract x k=>
   simp only [cu] at hc
   split at hc
   ·rename_i y hy; cases hc
    have bY:=aT S he hy
    simp only [cB] at hE
    split at hE
    ·rename_i vs dR
     rw [dR] at bY
     obtain ⟨xs,hv,hvs⟩:=bY
     split at hE
     ·rename_i v hl
      cases hE
      obtain ⟨u,hu,DP⟩:=hvs.get hl
      exact cC.value (s:=Instr.extract (a.eval x) k) rfl (v:=u) (by
       rw [hv]
       have:xs[k]? = some u:=by simpa using hu
       simp [Instr.extract,this]) (stay rfl rfl DP)
     ·cases hE
    ·cases hE
   ·cases hc
 | call c=>
   obtain ⟨callee,args,ts⟩:=c
   cases callee with
   | value f=>
     simp only [cu] at hc
     split at hc
     ·cases hc; simp [cB] at hE
     ·cases hc
   | invoke r m=>simp [cu] at hc
   | builtin b=>
     cases b with
     | len=>
       simp only [cu] at hc
       split at hc
       ·rename_i x T hargs hT
        have ha:args=#[x]:=by apply Array.ext'; simpa using hargs
        subst ha
        have hx:execOp a.eval ⟨dst,.call ⟨.builtin .len,#[x],ts⟩,type,pos,after,guard⟩=(do pure (.value (← Builtin.len_ ts type #[a.eval x]))):=by simp [execOp,resolve,invoke,builtin]
        split at hc
        ·rename_i y h1 h2; cases hc
         have bY:=aT S he h1
         simp only [cB] at hE
         split at hE
         ·rename_i s dR
          cases hE
          rw [dR] at bY
          have hv:a.eval x=.string s:=bY
          exact cC.value hx (v:=.int .i64 s.size) (by simp [Builtin.len_,hT,run_underlying h2,hv,goInt]) (stay rfl rfl rfl)
         ·cases hE
        ·rename_i y el h1 h2; cases hc
         have bY:=aT S he h1
         have sl:∀ {sa:Option Addr} {n cap:Nat},a.eval x=.slice sa n cap→(Builtin.len_ ts type #[a.eval x]).run P w=.ok (.int .i64 n) w:=by
          intro sa n cap hv
          simp [Builtin.len_,hT,run_underlying h2,hv,goInt]
         simp only [cB] at hE
         split at hE
         ·rename_i e' rows dR
          cases hE
          rw [dR] at bY
          obtain ⟨sa,n,cap,hv,hn,_⟩:=bY
          exact cC.value hx (sl hv) (stay rfl rfl (by rw [hn]; rfl))
         ·rename_i dR
          cases hE
          rw [dR] at bY
          have hv:a.eval x=.slice none 0 0:=bY
          exact cC.value hx (sl hv) (stay rfl rfl rfl)
         ·rename_i o n e' lo len dR
          cases hE
          rw [dR] at bY
          rcases bY with ⟨h0,sa,hv⟩ | ⟨b,cap,et',C,hb,hv,_⟩
          ·exact cC.value hx (sl hv) (stay rfl rfl (by rw [h0]; rfl))
          ·exact cC.value hx (sl hv) (stay rfl rfl rfl)
         ·cases hE
        ·cases hc
       ·cases hc
     | append=>
       simp only [cu] at hc
       split at hc
       ·rename_i x y tx ty hargs hts
        have ha:args=#[x,y]:=by apply Array.ext'; simpa using hargs
        have ht:ts=#[tx,ty]:=by apply Array.ext'; simpa using hts
        subst ha; subst ht
        split at hc
        ·rename_i x' y' el h1 h2 h3 h4
         split at hc
         ·rename_i n b h5
          cases hc
          obtain ⟨i,z,hi,hz,rfl,rfl,VL,hb0,hs0⟩:=mC h5
          have hk:(∃ e',P.underlying ty=some (.slice e'))∨P.underlying ty=some .string:=by
           unfold IF at h4
           split at h4
           ·rename_i e' hq; exact .inl ⟨e',hq⟩
           ·rename_i hq; exact .inr hq
           ·cases h4
          have bY:=aT S he h1
          have jD:=aT S he h2
          simp only [cB] at hE
          split at hE
          ·rename_i new rd hsrc
           obtain ⟨news,s1,s2,s3⟩:=sF (P:=P) (tx:=ty) S hk hsrc jD
           split at hE
           ·rename_i dR
            rw [dR] at bY
            have hv:a.eval x=.slice none 0 0:=bY
            split at hE
            ·rename_i hfit
             cases hE
             have hb:obj base=.free:=by simpa using hfree 0 (by simp)
             obtain ⟨u,w',hrun,hA⟩:=a_.Uf (P:=P) (t:=tx) (ty:=type) S hb h3 hi hz VL hb0 s1 s2 s3 hfit
             exact cC.value (s:=Builtin.append_ #[tx,ty] type #[a.eval x,a.eval y]) (by simp [execOp,resolve,invoke,builtin]) (by rw [hv]; exact hrun) hA
            ·cases hE
           ·rename_i o n e' lo len dR
            rw [dR] at bY
            split at hE
            ·rename_i et' e'' rows ho
             split at hE
             ·rename_i lJ
              obtain ⟨rfl,rfl,rfl,rfl,rfl,rfl,hfit⟩:=lJ
              cases hE
              obtain ⟨u,w',hrun,hA⟩:=a_.Ue (P:=P) (t:=tx) (ty:=type) S ho bY h3 hi hz VL hb0 s1 s2 s3 hfit
              exact cC.value (s:=Builtin.append_ #[tx,ty] type #[a.eval x,a.eval y]) (by simp [execOp,resolve,invoke,builtin]) hrun hA
             ·cases hE
            ·cases hE
           ·cases hE
          ·cases hE
         ·cases hc
        ·cases hc
       ·cases hc
     | min=>
       simp only [cu] at hc
       split at hc
       ·rename_i x y hargs
        have ha:args=#[x,y]:=by apply Array.ext'; simpa using hargs
        subst ha
        split at hc
        ·rename_i x' y' h1 h2
         cases hc
         have bY:=aT S he h1
         have jD:=aT S he h2
         simp only [cB] at hE
         split at hE
         ·rename_i k p k' q hp hq
          cases hE
          rw [hp] at bY; rw [hq] at jD
          have hx:a.eval x=.int k p:=bY
          have hy:a.eval y=.int k' q:=jD
          exact cC.value (s:=Builtin.min_ ts type #[a.eval x,a.eval y]) (by simp [execOp,resolve,invoke,builtin]) (v:=.int k (if q<p then q else p)) (by rw [hx,hy]; simp [Builtin.min_,Builtin.min2]) (stay rfl rfl rfl)
         ·cases hE
        ·cases hc
       ·cases hc
     | max=>
       simp only [cu] at hc
       split at hc
       ·rename_i x y hargs
        have ha:args=#[x,y]:=by apply Array.ext'; simpa using hargs
        subst ha
        split at hc
        ·rename_i x' y' h1 h2
         cases hc
         have bY:=aT S he h1
         have jD:=aT S he h2
         simp only [cB] at hE
         split at hE
         ·rename_i k p k' q hp hq
          cases hE
          rw [hp] at bY; rw [hq] at jD
          have hx:a.eval x=.int k p:=bY
          have hy:a.eval y=.int k' q:=jD
          exact cC.value (s:=Builtin.max_ ts type #[a.eval x,a.eval y]) (by simp [execOp,resolve,invoke,builtin]) (v:=.int k (if q>p then q else p)) (by rw [hx,hy]; simp [Builtin.max_,Builtin.max2]) (stay rfl rfl rfl)
         ·cases hE
        ·cases hc
       ·cases hc
     | _=>simp [cu] at hc
 | _=>simp [cu] at hc
end
end Dv
namespace Dv
open Go
mutual
def rn (π:Nat→Nat):LV→LV
 | .top=>.top
 | .c_=>.c_
 | .d x=>.d x
 | .ptr o c=>.ptr (π o) c
 | .rp o n e r c=>.rp (π o) n e r c
 | .ip r c=>.ip r c
 | .sl o n e l k=>.sl (π o) n e l k
 | .fn f a b=>.fn f (lU π a) (lU π b)
 | .agg cs=>.agg (lU π cs)
 | .dP vs=>.dP (lU π vs)
 | .fe t v=>.fe t (rn π v)
 | .yl o=>.yl (π o)
 | .mr o=>.mr (π o)
def lU (π:Nat→Nat):List LV→List LV
 | []=>[]
 | x::xs=>rn π x::lU π xs
end
def fc (π:Nat→Nat):aD→aD
 | .box et cells=>.box et (lU π cells)
 | .dat et e rows=>.dat et e rows
 | .kA et e rows=>.kA et e rows
 | .mp es=>.mp (es.map fun p=>(p.1,rn π p.2))
mutual
def dZ (k:Nat):LV→Bool
 | .top=>true
 | .c_=>true
 | .d _=>true
 | .ptr o _=>decide (o<k)
 | .rp o _ _ _ _=>decide (o<k)
 | .ip _ _=>true
 | .sl o _ _ _ _=>decide (o<k)
 | .fn _ a b=>ej k a&&ej k b
 | .agg cs=>ej k cs
 | .dP vs=>ej k vs
 | .fe _ v=>dZ k v
 | .yl o=>decide (o<k)
 | .mr o=>decide (o<k)
def ej (k:Nat):List LV→Bool
 | []=>true
 | x::xs=>dZ k x&&ej k xs
end
def ei (k:Nat):aD→Bool
 | .box _ cells=>ej k cells
 | .dat ..=>true
 | .kA ..=>true
 | .mp es=>es.all fun p=>dZ k p.2
section
variable {J J':Nat→Prop} {w:World} {ι ι':Nat→Nat→Option Nat} {π:Nat→Nat} {k0:Nat}
mutual
theorem cQ.rn (h:∀ o n b,o<k0→ι (π o) n=some b→ι' o n=some b):∀ (x:LV) (v:Value),dZ k0 x=true→cQ J w ι (rn π x) v→cQ J w ι' x v
 | .top,_,_,_=>trivial
 | .c_,_,_,k=>k
 | .d x,v,_,k=>k
 | .ptr o col,v,q,k=>by simp only [dZ,decide_eq_true_eq] at q; obtain ⟨b,hb,rfl⟩:=k; exact ⟨b,h _ _ _ q hb,rfl⟩
 | .rp o n e r c,v,q,k=>by simp only [dZ,decide_eq_true_eq] at q; obtain ⟨b,hb,rfl⟩:=k; exact ⟨b,h _ _ _ q hb,rfl⟩
 | .ip r c,v,_,k=>k
 | .sl o n e l m,v,q,k=>by
   simp only [dZ,decide_eq_true_eq] at q
   rcases k with k | ⟨b,cap,et,C,hb,k⟩
   ·exact .inl k
   ·exact .inr ⟨b,cap,et,C,h _ _ _ q hb,k⟩
 | .fn f a b,v,q,k=>by simp only [dZ,Bool.and_eq_true] at q; obtain ⟨fs,cs,rfl,k1,k2⟩:=k; exact ⟨fs,cs,rfl,bW.rn h a _ q.1 k1,bW.rn h b _ q.2 k2⟩
 | .agg cs,v,q,k=>by simp only [dZ] at q; obtain ⟨xs,rfl,k1⟩:=k; exact ⟨xs,rfl,bI.rn h cs _ q k1⟩
 | .dP vs,v,q,k=>by simp only [dZ] at q; obtain ⟨xs,rfl,k1⟩:=k; exact ⟨xs,rfl,bW.rn h vs _ q k1⟩
 | .fe t x,v,q,k=>by simp only [dZ] at q; obtain ⟨y,rfl,k1⟩:=k; exact ⟨y,rfl,cQ.rn h x y q k1⟩
 | .yl o,v,q,k=>by simp only [dZ,decide_eq_true_eq] at q; obtain ⟨b,hb,rfl⟩:=k; exact ⟨b,h _ _ _ q hb,rfl⟩
 | .mr o,v,q,k=>by simp only [dZ,decide_eq_true_eq] at q; obtain ⟨b,hb,rfl⟩:=k; exact ⟨b,h _ _ _ q hb,rfl⟩
theorem bW.rn (h:∀ o n b,o<k0→ι (π o) n=some b→ι' o n=some b):∀ (xs:List LV) (vs:List Value),ej k0 xs=true→bW J w ι (lU π xs) vs→bW J w ι' xs vs
 | [],[],_,_=>trivial
 | x::xs,v::vs,q,k=>by
   simp only [ej,Bool.and_eq_true] at q
   exact ⟨cQ.rn h x v q.1 k.1,bW.rn h xs vs q.2 k.2⟩
 | [],_::_,_,k=>k.elim
 | _::_,[],_,k=>k.elim
theorem bI.rn (h:∀ o n b,o<k0→ι (π o) n=some b→ι' o n=some b):∀ (xs:List LV) (vs:List Value),ej k0 xs=true→bI J w ι (lU π xs) vs→bI J w ι' xs vs
 | [],[],_,_=>trivial
 | x::xs,v::vs,q,k=>by
   simp only [ej,Bool.and_eq_true] at q
   exact ⟨k.1,cQ.rn h x v q.1 k.2.1,bI.rn h xs vs q.2 k.2.2⟩
 | [],_::_,_,k=>k.elim
 | _::_,[],_,k=>k.elim
end
mutual
theorem cQ.nB (h:∀ o n b,ι o n=some b→ι' (π o) n=some b):∀ (x:LV) (v:Value),cQ J w ι x v→cQ J w ι' (Dv.rn π x) v
 | .top,_,_=>trivial
 | .c_,_,k=>k
 | .d x,v,k=>k
 | .ptr o col,v,k=>by obtain ⟨b,hb,rfl⟩:=k; exact ⟨b,h _ _ _ hb,rfl⟩
 | .rp o n e r c,v,k=>by obtain ⟨b,hb,rfl⟩:=k; exact ⟨b,h _ _ _ hb,rfl⟩
 | .ip r c,v,k=>k
 | .sl o n e l q,v,k=>by
   rcases k with k | ⟨b,cap,et,C,hb,k⟩
   ·exact .inl k
   ·exact .inr ⟨b,cap,et,C,h _ _ _ hb,k⟩
 | .fn f a b,v,k=>by obtain ⟨fs,cs,rfl,k1,k2⟩:=k; exact ⟨fs,cs,rfl,bW.nB h a _ k1,bW.nB h b _ k2⟩
 | .agg cs,v,k=>by obtain ⟨xs,rfl,k1⟩:=k; exact ⟨xs,rfl,bI.nB h cs _ k1⟩
 | .dP vs,v,k=>by obtain ⟨xs,rfl,k1⟩:=k; exact ⟨xs,rfl,bW.nB h vs _ k1⟩
 | .fe t x,v,k=>by obtain ⟨y,rfl,k1⟩:=k; exact ⟨y,rfl,cQ.nB h x y k1⟩
 | .yl o,v,k=>by obtain ⟨b,hb,rfl⟩:=k; exact ⟨b,h _ _ _ hb,rfl⟩
 | .mr o,v,k=>by obtain ⟨b,hb,rfl⟩:=k; exact ⟨b,h _ _ _ hb,rfl⟩
theorem bW.nB (h:∀ o n b,ι o n=some b→ι' (π o) n=some b):∀ (xs:List LV) (vs:List Value),bW J w ι xs vs→bW J w ι' (lU π xs) vs
 | [],[],_=>trivial
 | x::xs,v::vs,k=>⟨cQ.nB h x v k.1,bW.nB h xs vs k.2⟩
 | [],_::_,k=>k.elim
 | _::_,[],k=>k.elim
theorem bI.nB (h:∀ o n b,ι o n=some b→ι' (π o) n=some b):∀ (xs:List LV) (vs:List Value),bI J w ι xs vs→bI J w ι' (lU π xs) vs
 | [],[],_=>trivial
 | x::xs,v::vs,k=>⟨k.1,cQ.nB h x v k.2.1,bI.nB h xs vs k.2.2⟩
 | [],_::_,k=>k.elim
 | _::_,[],k=>k.elim
end
theorem gM.rn (h:∀ o n b,o<k0→ι (π o) n=some b→ι' o n=some b):∀ (xs:List (Int×LV)) (vs:List MapEntry),(xs.all fun p=>dZ k0 p.2)=true→gM J w ι (xs.map fun p=>(p.1,Dv.rn π p.2)) vs→gM J w ι' xs vs
 | [],[],_,_=>trivial
 | (i,x)::xs,v::vs,q,k=>by
   simp only [List.all_cons,Bool.and_eq_true] at q
   exact ⟨k.1,cQ.rn h x _ q.1 k.2.1,gM.rn h xs vs q.2 k.2.2⟩
 | [],_::_,_,k=>k.elim
 | _::_,[],_,k=>k.elim
theorem gM.nB (h:∀ o n b,ι o n=some b→ι' (π o) n=some b):∀ (xs:List (Int×LV)) (vs:List MapEntry),gM J w ι xs vs→gM J w ι' (xs.map fun p=>(p.1,Dv.rn π p.2)) vs
 | [],[],_=>trivial
 | (i,x)::xs,v::vs,k=>⟨k.1,cQ.nB h x _ k.2.1,gM.nB h xs vs k.2.2⟩
 | [],_::_,k=>k.elim
 | _::_,[],k=>k.elim
end
def aB (objs:List (Option aD)) (o:Nat):cv:=
 match objs[o]? with
 | none=>.free
 | some none=>.dead
 | some (some ob)=>.live ob
def mB (P:Program) (f:Nat):Bool:=match P.funcs[f]? with
 | some fn=>fn.name != "runtime.NumGoroutine" &&fn.body.isSome
 | none=>false
def bw (P:Program) (G:Nat→Option (List DV)) (f:Nat) (args:List LV) (objs:List aD) (r:LV) (ay:List aD):Prop:=
 mB P f=true∧∀ J ι w (vs:Array Value),aJ G J w ι (aB (objs.map some))→bW J w ι args vs.toList→
  Calls P f vs w (fun e w'=>∃ v,e=.returned v∧a_ G (aB (objs.map some)) (aB (ay.map some)) J ι w r v w')
def bE (obj:Nat→cv) (Z:List Nat) (o n esz lo len:Nat) (rs:List (List DV)):Prop:=
 match obj o with
 | .live (.kA _ e rows)=>o∈Z∧e=esz∧n=rows.length∧lo+len≤rows.length∧rs=(rows.drop lo).take len
 | .live (.dat _ e rows)=>o∈Z∧e=esz∧n=rows.length∧lo+len≤rows.length∧rs=(rows.drop lo).take len
 | _=>False
mutual
def ai (obj:Nat→cv) (ρ Z:List Nat):LV→LV→Prop
 | _,.top=>True
 | .c_,.c_=>True
 | .d x,.d y=>x=y∨(x=.val (.slice none 0 0)∧∃ esz,y=.dY esz [])
 | .ptr o c,.ptr i c'=>ρ[i]? = some o∧c=c'
 | .yl o,.yl i=>ρ[i]? = some o
 | .mr o,.mr i=>ρ[i]? = some o
 | .rp o n e r c,.rp i n' e' r' c'=>ρ[i]? = some o∧n=n'∧e=e'∧r=r'∧c=c'
 | .ip r c,.ip r' c'=>r=r'∧c=c'
 | .sl o n e l k,.sl i n' e' l' k'=>ρ[i]? = some o∧n=n'∧e=e'∧l=l'∧k=k'
 | .sl o n e l k,.d (.dY e' rs)=>e=e'∧bE obj Z o n e l k rs
 | .agg xs,.agg ys=>ah obj ρ Z xs ys
 | .dP xs,.dP ys=>ah obj ρ Z xs ys
 | .fn f a b,.fn f' a' b'=>f=f'∧ah obj ρ Z a a'∧ah obj ρ Z b b'
 | .d (.fn f a b),.fn f' a' b'=>f=f'∧a'=a.map .d∧b'=b.map .d
 | .fe t x,.fe t' y=>t=t'∧ai obj ρ Z x y
 | _,_=>False
def ah (obj:Nat→cv) (ρ Z:List Nat):List LV→List LV→Prop
 | [],[]=>True
 | x::xs,y::ys=>ai obj ρ Z x y∧ah obj ρ Z xs ys
 | _,_=>False
end
mutual
def mS:LV→Bool
 | .top=>true
 | .c_=>true
 | .d (.val _)=>true
 | .d (.dY _ rows)=>rows.isEmpty
 | .d _=>false
 | .ptr _ _=>true
 | .rp _ _ _ _ _=>true
 | .ip _ _=>false
 | .sl _ _ _ _ _=>true
 | .fn _ a b=>rC a&&rC b
 | .agg cs=>rC cs
 | .dP vs=>rC vs
 | .fe _ v=>mS v
 | .yl _=>true
 | .mr _=>true
def rC:List LV→Bool
 | []=>true
 | x::xs=>mS x&&rC xs
end
section
variable {J J':Nat→Prop} {w:World} {ι:Nat→Nat→Option Nat}
mutual
theorem cQ.mS (hh:True):∀ (x:LV) (v:Value),mS x=true→cQ J w ι x v→cQ J' w ι x v
 | .top,_,_,_=>trivial
 | .c_,_,_,k=>k
 | .d (.val u),v,_,k=>k
 | .d (.dY e rows),v,h,k=>by
   simp only [Dv.mS,List.isEmpty_iff] at h
   subst h
   obtain ⟨a,n,cap,rfl,hn,hc,_⟩:=k
   exact ⟨a,n,cap,rfl,hn,hc,.inl rfl⟩
 | .d (.fn _ _ _),v,h,k=>by simp [Dv.mS] at h
 | .d (.fe _ _),v,h,k=>by simp [Dv.mS] at h
 | .d (.agg _),v,h,k=>by simp [Dv.mS] at h
 | .ptr o col,v,_,k=>k
 | .rp o n e r c,v,_,k=>k
 | .ip r c,v,h,k=>by simp [Dv.mS] at h
 | .sl o n e l q,v,_,k=>k
 | .fn f a b,v,h,k=>by
   simp only [Dv.mS,Bool.and_eq_true] at h
   obtain ⟨fs,cs,rfl,k1,k2⟩:=k; exact ⟨fs,cs,rfl,bW.mS hh a _ h.1 k1,bW.mS hh b _ h.2 k2⟩
 | .agg cs,v,h,k=>by
   simp only [Dv.mS] at h
   obtain ⟨xs,rfl,k1⟩:=k; exact ⟨xs,rfl,bI.mS hh cs _ h k1⟩
 | .dP vs,v,h,k=>by
   simp only [Dv.mS] at h
   obtain ⟨xs,rfl,k1⟩:=k; exact ⟨xs,rfl,bW.mS hh vs _ h k1⟩
 | .fe t x,v,h,k=>by
   simp only [Dv.mS] at h
   obtain ⟨y,rfl,k1⟩:=k; exact ⟨y,rfl,cQ.mS hh x y h k1⟩
 | .yl o,v,_,k=>k
 | .mr o,v,_,k=>k
theorem bW.mS (hh:True):∀ (xs:List LV) (vs:List Value),rC xs=true→bW J w ι xs vs→bW J' w ι xs vs
 | [],[],_,_=>trivial
 | x::xs,v::vs,h,k=>by
   simp only [Dv.rC,Bool.and_eq_true] at h
   exact ⟨cQ.mS hh x v h.1 k.1,bW.mS hh xs vs h.2 k.2⟩
 | [],_::_,_,k=>k.elim
 | _::_,[],_,k=>k.elim
theorem bI.mS (hh:True):∀ (xs:List LV) (vs:List Value),rC xs=true→bI J w ι xs vs→bI J' w ι xs vs
 | [],[],_,_=>trivial
 | x::xs,v::vs,h,k=>by
   simp only [Dv.rC,Bool.and_eq_true] at h
   exact ⟨k.1,cQ.mS hh x v h.1 k.2.1,bI.mS hh xs vs h.2 k.2.2⟩
 | [],_::_,_,k=>k.elim
 | _::_,[],_,k=>k.elim
end
end
end Dv
namespace Dv
open Go
section
variable {P:Program} {G:Nat→Option (List DV)} {J J':Nat→Prop} {w w':World} {ι ι':Nat→Nat→Option Nat} {obj:Nat→cv}
def CA (ι:Nat→Nat→Option Nat) (obj:Nat→cv) (Z:List Nat) (b:Nat):Prop:=∃ z∈Z,(obj z).own ι z b
def ij (ι:Nat→Nat→Option Nat) (ρ:List Nat) (i n:Nat):Option Nat:=match ρ[i]? with
 | some o=>ι o n
 | none=>none
theorem zB (S:aJ G J w ι obj) {Z:List Nat} {o n esz lo len:Nat} {rs:List (List DV)} (h:bE obj Z o n esz lo len rs) {v:Value} (hv:cQ J w ι (.sl o n esz lo len) v) (XV:Nat→Nat→Option Nat) :
  cQ (fun b=>J b∨CA ι obj Z b) w XV (.d (.dY esz rs)) v:=by
 unfold bE at h
 have fU:=S.rep o
 split at h
 ·rename_i et e rows ho
  obtain ⟨_,rfl,rfl,hle,rfl⟩:=h
  rw [ho] at fU
  obtain ⟨⟨_,hd⟩,_⟩:=fU
  have uQ:((rows.drop lo).take len).length=len:=by simp; omega
  rcases hv with ⟨rfl,a,rfl⟩ | ⟨b,cap,et',C,hb,rfl,hcap,_⟩
  ·exact ⟨a,0,0,rfl,by simp,Nat.le_refl _,.inl (by simp)⟩
  ·obtain ⟨hJ,hrows⟩:=hd b hb
   have:=bC.mono (J':=fun b=>J b∨CA ι obj Z b) (w':=w) (fun b h=>.inl h) (fun _ _=>rfl) e _ _ _ rfl ((hrows.drop lo).take len)
   exact ⟨_,len,cap,rfl,uQ.symm,hcap,.inr ⟨b,lo*e,rfl,.inl hJ,by simpa using this⟩⟩
 ·rename_i et e rows ho
  obtain ⟨hz,rfl,rfl,hle,rfl⟩:=h
  rw [ho] at fU
  obtain ⟨⟨_,hd⟩,_⟩:=fU
  have uQ:((rows.drop lo).take len).length=len:=by simp; omega
  rcases hv with ⟨rfl,a,rfl⟩ | ⟨b,cap,et',C,hb,rfl,hcap,_⟩
  ·exact ⟨a,0,0,rfl,by simp,Nat.le_refl _,.inl (by simp)⟩
  ·obtain ⟨_,hrows⟩:=hd b hb
   have:=bC.mono (J':=fun b=>J b∨CA ι obj Z b) (w':=w) (fun b h=>.inl h) (fun _ _=>rfl) e _ _ _ rfl ((hrows.drop lo).take len)
   exact ⟨_,len,cap,rfl,uQ.symm,hcap,.inr ⟨b,lo*e,rfl,.inr ⟨o,hz,by rw [ho]; exact hb⟩,by simpa using this⟩⟩
 ·exact h.elim
theorem lB {ρ:List Nat} {i o n b:Nat} (h:ρ[i]? = some o) (hb:ι o n=some b):ij ι ρ i n=some b:=by simp only [ij,h,hb]
mutual
theorem mK (S:aJ G J w ι obj) {ρ Z:List Nat} : ∀ (x y:LV) (v:Value),ai obj ρ Z x y→cQ J w ι x v→cQ (fun b=>J b∨CA ι obj Z b) w (ij ι ρ) y v
 | x,.top,_,_,_=>trivial
 | .c_,.c_,_,_,k=>k
 | .d x,.d y,v,h,k=>by
   have h':x=y∨(x=.val (.slice none 0 0)∧∃ esz,y=.dY esz []):=by simpa only [ai] using h
   rcases h' with rfl | ⟨rfl,esz,rfl⟩
   ·exact h_.mono (fun b h=>.inl h) (fun _ _=>rfl) _ _ k
   ·have hv:v=.slice none 0 0:=k
    subst hv
    exact ⟨none,0,0,rfl,by simp,Nat.le_refl _,.inl rfl⟩
 | .ptr o c,.ptr i c',v,h,k=>by
   obtain ⟨h1,rfl⟩:ρ[i]? = some o∧c=c':=by simpa only [ai] using h
   obtain ⟨b,hb,rfl⟩:=k
   exact ⟨b,lB h1 hb,rfl⟩
 | .yl o,.yl i,v,h,k=>by
   have h1:ρ[i]? = some o:=by simpa only [ai] using h
   obtain ⟨b,hb,rfl⟩:=k
   exact ⟨b,lB h1 hb,rfl⟩
 | .mr o,.mr i,v,h,k=>by
   have h1:ρ[i]? = some o:=by simpa only [ai] using h
   obtain ⟨b,hb,rfl⟩:=k
   exact ⟨b,lB h1 hb,rfl⟩
 | .rp o n e r c,.rp i n' e' r' c',v,h,k=>by
   obtain ⟨h1,rfl,rfl,rfl,rfl⟩:ρ[i]? = some o∧n=n'∧e=e'∧r=r'∧c=c':=by simpa only [ai] using h
   obtain ⟨b,hb,rfl⟩:=k
   exact ⟨b,lB h1 hb,rfl⟩
 | .ip r c,.ip r' c',v,h,k=>by
   obtain ⟨rfl,rfl⟩:r=r'∧c=c':=by simpa only [ai] using h
   obtain ⟨b,off,hb,rfl,hr⟩:=k
   exact ⟨b,off,.inl hb,rfl,cU.mono (fun b h=>.inl h) (fun _ _=>rfl) _ _ _ rfl hr⟩
 | .sl o n e l m,.sl i n' e' l' m',v,h,k=>by
   obtain ⟨h1,rfl,rfl,rfl,rfl⟩:ρ[i]? = some o∧n=n'∧e=e'∧l=l'∧m=m':=by simpa only [ai] using h
   rcases k with k | ⟨b,cap,et,C,hb,k⟩
   ·exact .inl k
   ·exact .inr ⟨b,cap,et,C,lB h1 hb,k⟩
 | .sl o n e l m,.d (.dY e' rs),v,h,k=>by
   obtain ⟨rfl,h1⟩:e=e'∧bE obj Z o n e l m rs:=by simpa only [ai] using h
   exact zB S h1 k _
 | .agg xs,.agg ys,v,h,k=>by
   have h':ah obj ρ Z xs ys:=by simpa only [ai] using h
   obtain ⟨us,rfl,k1⟩:=k
   exact ⟨us,rfl,bI.X6 (fL S xs ys _ h' k1.xC) k1.one⟩
 | .dP xs,.dP ys,v,h,k=>by
   have h':ah obj ρ Z xs ys:=by simpa only [ai] using h
   obtain ⟨us,rfl,k1⟩:=k
   exact ⟨us,rfl,fL S xs ys _ h' k1⟩
 | .fn f a b,.fn f' a' b',v,h,k=>by
   obtain ⟨rfl,h1,h2⟩:f=f'∧ah obj ρ Z a a'∧ah obj ρ Z b b':=by simpa only [ai] using h
   obtain ⟨fs,cs,rfl,k1,k2⟩:=k
   exact ⟨fs,cs,rfl,fL S a a' _ h1 k1,fL S b b' _ h2 k2⟩
 | .d (.fn f a b),.fn f' a' b',v,h,k=>by
   obtain ⟨rfl,rfl,rfl⟩:f=f'∧a'=a.map .d∧b'=b.map .d:=by simpa only [ai] using h
   obtain ⟨fs,cs,rfl,k1,k2⟩:=k
   exact ⟨fs,cs,rfl,(bq.mono (fun b h=>.inl h) (fun _ _=>rfl) _ _ k1).xC,(bq.mono (fun b h=>.inl h) (fun _ _=>rfl) _ _ k2).xC⟩
 | .fe t x,.fe t' y,v,h,k=>by
   obtain ⟨rfl,h1⟩:t=t'∧ai obj ρ Z x y:=by simpa only [ai] using h
   obtain ⟨z,rfl,k1⟩:=k
   exact ⟨z,rfl,mK S x y z h1 k1⟩
 | .mr _,.d _,_,h,_ | .mr _,.ptr ..,_,h,_ | .mr _,.rp ..,_,h,_ | .mr _,.ip ..,_,h,_ | .mr _,.sl ..,_,h,_ | .mr _,.fn ..,_,h,_ | .mr _,.agg _,_,h,_ | .mr _,.dP _,_,h,_ | .mr _,.fe ..,_,h,_ | .mr _,.c_,_,h,_ | .mr _,.yl _,_,h,_ | .d _,.mr _,_,h,_ | .ptr ..,.mr _,_,h,_ | .rp ..,.mr _,_,h,_ | .ip ..,.mr _,_,h,_ | .sl ..,.mr _,_,h,_ | .fn ..,.mr _,_,h,_ | .agg _,.mr _,_,h,_ | .dP _,.mr _,_,h,_ | .fe ..,.mr _,_,h,_ | .c_,.mr _,_,h,_ | .yl _,.mr _,_,h,_ | .top,.mr _,_,h,_=>by simp [ai] at h
 | .yl _,.d _,_,h,_ | .yl _,.ptr ..,_,h,_ | .yl _,.rp ..,_,h,_ | .yl _,.ip ..,_,h,_ | .yl _,.sl ..,_,h,_ | .yl _,.fn ..,_,h,_ | .yl _,.agg _,_,h,_ | .yl _,.dP _,_,h,_ | .yl _,.fe ..,_,h,_ | .yl _,.c_,_,h,_=>by simp [ai] at h
 | .d _,.yl _,_,h,_ | .ptr ..,.yl _,_,h,_ | .rp ..,.yl _,_,h,_ | .ip ..,.yl _,_,h,_ | .sl ..,.yl _,_,h,_ | .fn ..,.yl _,_,h,_ | .agg _,.yl _,_,h,_ | .dP _,.yl _,_,h,_ | .fe ..,.yl _,_,h,_ | .c_,.yl _,_,h,_ | .top,.yl _,_,h,_=>by simp [ai] at h
 | .top,.d _,_,h,_ | .top,.ptr ..,_,h,_ | .top,.rp ..,_,h,_ | .top,.ip ..,_,h,_ | .top,.sl ..,_,h,_ | .top,.fn ..,_,h,_ | .top,.agg _,_,h,_ | .top,.dP _,_,h,_ | .top,.fe ..,_,h,_=>by simp [ai] at h
 | .ptr ..,.d _,_,h,_ | .ptr ..,.rp ..,_,h,_ | .ptr ..,.ip ..,_,h,_ | .ptr ..,.sl ..,_,h,_ | .ptr ..,.fn ..,_,h,_ | .ptr ..,.agg _,_,h,_ | .ptr ..,.dP _,_,h,_ | .ptr ..,.fe ..,_,h,_=>by simp [ai] at h
 | .rp ..,.d _,_,h,_ | .rp ..,.ptr ..,_,h,_ | .rp ..,.ip ..,_,h,_ | .rp ..,.sl ..,_,h,_ | .rp ..,.fn ..,_,h,_ | .rp ..,.agg _,_,h,_ | .rp ..,.dP _,_,h,_ | .rp ..,.fe ..,_,h,_=>by simp [ai] at h
 | .ip ..,.d _,_,h,_ | .ip ..,.ptr ..,_,h,_ | .ip ..,.rp ..,_,h,_ | .ip ..,.sl ..,_,h,_ | .ip ..,.fn ..,_,h,_ | .ip ..,.agg _,_,h,_ | .ip ..,.dP _,_,h,_ | .ip ..,.fe ..,_,h,_=>by simp [ai] at h
 | .sl ..,.d (.val _),_,h,_ | .sl ..,.d (.fn ..),_,h,_ | .sl ..,.d (.fe ..),_,h,_ | .sl ..,.d (.agg _),_,h,_ | .sl ..,.ptr ..,_,h,_ | .sl ..,.rp ..,_,h,_ | .sl ..,.ip ..,_,h,_ | .sl ..,.fn ..,_,h,_ | .sl ..,.agg _,_,h,_ | .sl ..,.dP _,_,h,_ | .sl ..,.fe ..,_,h,_=>by simp [ai] at h
 | .agg _,.d _,_,h,_ | .agg _,.ptr ..,_,h,_ | .agg _,.rp ..,_,h,_ | .agg _,.ip ..,_,h,_ | .agg _,.sl ..,_,h,_ | .agg _,.fn ..,_,h,_ | .agg _,.dP _,_,h,_ | .agg _,.fe ..,_,h,_=>by simp [ai] at h
 | .dP _,.d _,_,h,_ | .dP _,.ptr ..,_,h,_ | .dP _,.rp ..,_,h,_ | .dP _,.ip ..,_,h,_ | .dP _,.sl ..,_,h,_ | .dP _,.fn ..,_,h,_ | .dP _,.agg _,_,h,_ | .dP _,.fe ..,_,h,_=>by simp [ai] at h
 | .fn ..,.d _,_,h,_ | .fn ..,.ptr ..,_,h,_ | .fn ..,.rp ..,_,h,_ | .fn ..,.ip ..,_,h,_ | .fn ..,.sl ..,_,h,_ | .fn ..,.agg _,_,h,_ | .fn ..,.dP _,_,h,_ | .fn ..,.fe ..,_,h,_=>by simp [ai] at h
 | .fe ..,.d _,_,h,_ | .fe ..,.ptr ..,_,h,_ | .fe ..,.rp ..,_,h,_ | .fe ..,.ip ..,_,h,_ | .fe ..,.sl ..,_,h,_ | .fe ..,.fn ..,_,h,_ | .fe ..,.agg _,_,h,_ | .fe ..,.dP _,_,h,_=>by simp [ai] at h
 | .d (.val _),.ptr ..,_,h,_ | .d (.val _),.rp ..,_,h,_ | .d (.val _),.ip ..,_,h,_ | .d (.val _),.sl ..,_,h,_ | .d (.val _),.fn ..,_,h,_ | .d (.val _),.agg _,_,h,_ | .d (.val _),.dP _,_,h,_ | .d (.val _),.fe ..,_,h,_=>by simp [ai] at h
 | .d (.dY ..),.ptr ..,_,h,_ | .d (.dY ..),.rp ..,_,h,_ | .d (.dY ..),.ip ..,_,h,_ | .d (.dY ..),.sl ..,_,h,_ | .d (.dY ..),.fn ..,_,h,_ | .d (.dY ..),.agg _,_,h,_ | .d (.dY ..),.dP _,_,h,_ | .d (.dY ..),.fe ..,_,h,_=>by simp [ai] at h
 | .d (.fn ..),.ptr ..,_,h,_ | .d (.fn ..),.rp ..,_,h,_ | .d (.fn ..),.ip ..,_,h,_ | .d (.fn ..),.sl ..,_,h,_ | .d (.fn ..),.agg _,_,h,_ | .d (.fn ..),.dP _,_,h,_ | .d (.fn ..),.fe ..,_,h,_=>by simp [ai] at h
 | .d (.fe ..),.ptr ..,_,h,_ | .d (.fe ..),.rp ..,_,h,_ | .d (.fe ..),.ip ..,_,h,_ | .d (.fe ..),.sl ..,_,h,_ | .d (.fe ..),.fn ..,_,h,_ | .d (.fe ..),.agg _,_,h,_ | .d (.fe ..),.dP _,_,h,_ | .d (.fe ..),.fe ..,_,h,_=>by simp [ai] at h
 | .d (.agg _),.ptr ..,_,h,_ | .d (.agg _),.rp ..,_,h,_ | .d (.agg _),.ip ..,_,h,_ | .d (.agg _),.sl ..,_,h,_ | .d (.agg _),.fn ..,_,h,_ | .d (.agg _),.agg _,_,h,_ | .d (.agg _),.dP _,_,h,_ | .d (.agg _),.fe ..,_,h,_=>by simp [ai] at h
 | .c_,.d _,_,h,_ | .c_,.ptr ..,_,h,_ | .c_,.rp ..,_,h,_ | .c_,.ip ..,_,h,_ | .c_,.sl ..,_,h,_ | .c_,.fn ..,_,h,_ | .c_,.agg _,_,h,_ | .c_,.dP _,_,h,_ | .c_,.fe ..,_,h,_=>by simp [ai] at h
 | .top,.c_,_,h,_ | .d (.val _),.c_,_,h,_ | .d (.dY ..),.c_,_,h,_ | .d (.fn ..),.c_,_,h,_ | .d (.fe ..),.c_,_,h,_ | .d (.agg _),.c_,_,h,_ | .ptr ..,.c_,_,h,_ | .rp ..,.c_,_,h,_ | .ip ..,.c_,_,h,_ | .sl ..,.c_,_,h,_ | .fn ..,.c_,_,h,_ | .agg _,.c_,_,h,_ | .dP _,.c_,_,h,_ | .fe ..,.c_,_,h,_=>by simp [ai] at h
theorem fL (S:aJ G J w ι obj) {ρ Z:List Nat} : ∀ (xs ys:List LV) (vs:List Value),ah obj ρ Z xs ys→bW J w ι xs vs→bW (fun b=>J b∨CA ι obj Z b) w (ij ι ρ) ys vs
 | [],[],[],_,_=>trivial
 | x::xs,y::ys,v::vs,h,k=>by
   have h':ai obj ρ Z x y∧ah obj ρ Z xs ys:=by simpa only [ah] using h
   exact ⟨mK S x y v h'.1 k.1,fL S xs ys vs h'.2 k.2⟩
 | [],_::_,_,h,_=>by simp [ah] at h
 | _::_,[],_,h,_=>by simp [ah] at h
 | [],[],_::_,_,k=>k.elim
 | _::_,_::_,[],_,k=>k.elim
end
end
end Dv
namespace Dv
open Go
def bB (ρ:List Nat) (base i:Nat):Nat:=match ρ[i]? with
 | some o=>o
 | none=>base+(i-ρ.length)
def fF (obj:Nat→cv):List Nat→List (Nat×aD)
 | []=>[]
 | z::Z=>match obj z with
   | .live (.dat et e rows)=>(z,.kA et e rows)::fF obj Z
   | _=>fF obj Z
structure bX (P:Program) (G:Nat→Option (List DV)) (f:Nat) (args:List LV) (obj:Nat→cv) (base:Nat) (e:eN):Prop where
 mk::
 ex:∃ (ρ Z:List Nat) (tmp:Bool) (aZ:List LV) (aM:List aD) (r:LV) (aF:List aD) (keep:Nat→Bool),(∀ (i o:Nat),ρ[i]? = some o→keep o=false→aF[i]? = aM[i]?)∧
  ρ.Nodup∧(∀ z∈Z,z∉ρ)∧(∀ z∈Z,∃ et e rows,obj z=.live (.dat et e rows)∨obj z=.live (.kA et e rows))∧aM.length=ρ.length∧(∀ (i o:Nat),ρ[i]? = some o→∃ ob,aM[i]? = some ob∧obj o=.live (fc (bB ρ base) ob))∧aM.all (ei ρ.length)=true∧
  ah obj ρ Z args aZ∧(tmp=true→mS r=true∧aF=[]∧ρ=[])∧aM.length≤aF.length∧
  bw P G f aZ aM r aF∧
  e = { r:=rn (bB ρ base) r,rd:=ρ++Z,wr:=((ρ.zip (aF.map (fc (bB ρ base)))).filter fun p=>keep p.1)++(if tmp then [] else fF obj Z),nw:=(aF.drop ρ.length).map (fc (bB ρ base)) }
def Uu (P:Program) (G:Nat→Option (List DV)) (f:Nat) (args:List LV) (objs:List aD) (p:Value) (ay:List aD):Prop:=
 mB P f=true∧∀ J ι w (vs:Array Value),aJ G J w ι (aB (objs.map some))→bW J w ι args vs.toList→
  Calls P f vs w (fun e w'=>e=.panicked [{ v:=p,recovered:=false }]∧a_ G (aB (objs.map some)) (aB (ay.map some)) J ι w .top Go.undef w')
structure fZ (P:Program) (G:Nat→Option (List DV)) (f:Nat) (args:List LV) (obj:Nat→cv) (base:Nat) (p:Value) (e:eN):Prop where
 mk::
 ex:∃ (ρ Z:List Nat) (aZ:List LV) (aM aF:List aD),
  ρ.Nodup∧(∀ z∈Z,z∉ρ)∧(∀ z∈Z,∃ et e rows,obj z=.live (.dat et e rows)∨obj z=.live (.kA et e rows))∧aM.length=ρ.length∧(∀ (i o:Nat),ρ[i]? = some o→∃ ob,aM[i]? = some ob∧obj o=.live (fc (bB ρ base) ob))∧aM.all (ei ρ.length)=true∧
  ah obj ρ Z args aZ∧aM.length≤aF.length∧
  Uu P G f aZ aM p aF∧
  e = { r:=.top,rd:=ρ++Z,wr:=(ρ.zip (aF.map (fc (bB ρ base))))++fF obj Z,nw:=(aF.drop ρ.length).map (fc (bB ρ base)) }
section
variable {P:Program} {G:Nat→Option (List DV)} {J J':Nat→Prop} {w w':World} {ι ι':Nat→Nat→Option Nat} {obj:Nat→cv}
theorem SO (π:Nat→Nat):(∀ x:LV,mS x=true→mS (rn π x)=true)∧(∀ xs:List LV,rC xs=true→rC (lU π xs)=true):=by
 have one:∀ n,(∀ x:LV,sizeOf x<n→mS x=true→mS (rn π x)=true)∧(∀ xs:List LV,sizeOf xs<n→rC xs=true→rC (lU π xs)=true):=by
  intro n
  induction n with
  | zero=>exact ⟨fun _ h=>absurd h (by omega),fun _ h=>absurd h (by omega)⟩
  | succ n ih=>
    refine ⟨fun x hs h=>?_,fun xs hs h=>?_⟩
    ·cases x <;> simp only [rn] <;> (try exact h) <;> simp only [mS,Bool.and_eq_true] at h ⊢ <;> simp at hs
     ·exact ⟨ih.2 _ (by omega) h.1,ih.2 _ (by omega) h.2⟩
     ·exact ih.2 _ (by omega) h
     ·exact ih.2 _ (by omega) h
     ·exact ih.1 _ (by omega) h
    ·cases xs with
     | nil=>rfl
     | cons x xs=>
       simp only [lU,rC,Bool.and_eq_true] at h ⊢
       simp at hs
       exact ⟨ih.1 _ (by omega) h.1,ih.2 _ (by omega) h.2⟩
 exact ⟨fun x=>(one (sizeOf x+1)).1 x (by omega),fun xs=>(one (sizeOf xs+1)).2 xs (by omega)⟩
theorem rD:∀ (l:List aD) (base:Nat) (obj:Nat→cv) (o:Nat),oU base l obj o=if base≤o then (match l[o-base]? with | some ob=>.live ob | none=>obj o) else obj o
 | [],base,obj,o=>by simp [oU]
 | ob::r,base,obj,o=>by
   simp only [oU]
   by_cases h:o=base
   ·subst h; simp
   ·rw [if_neg h,rD r (base+1) obj o]
    by_cases h2:base+1≤o
    ·rw [if_pos h2,if_pos (by omega)]
     have:o-base=(o-(base+1))+1:=by omega
     rw [this]; simp
    ·rw [if_neg h2,if_neg (by omega)]
theorem gE:∀ (l m:List (Nat×aD)) (obj:Nat→cv),cF (l++m) obj=cF l (cF m obj)
 | [],_,_=>rfl
 | (k,ob)::r,m,obj=>by simp only [List.cons_append,cF,gE r m obj]
theorem uX:∀ (ρ:List Nat) (l:List aD) (obj:Nat→cv) (o:Nat),ρ.Nodup→ρ.length≤l.length→
  (∀ (i:Nat),ρ[i]? = some o→∃ ob,l[i]? = some ob∧cF (ρ.zip l) obj o=.live ob)∧(o∉ρ→cF (ρ.zip l) obj o=obj o)
 | [],l,obj,o,_,_=>⟨fun i h=>by simp at h,fun _=>rfl⟩
 | k::ρ,[],obj,o,_,h=>by simp at h
 | k::ρ,x::l,obj,o,hn,h=>by
   have hn':=List.nodup_cons.1 hn
   obtain ⟨h1,h2⟩:=uX ρ l obj o hn'.2 (by simpa using h)
   refine ⟨fun i hi=>?_,fun ho=>?_⟩
   ·cases i with
    | zero=>
      simp at hi; subst hi
      exact ⟨x,by simp,by simp [cF]⟩
    | succ i=>
      have hi':ρ[i]? = some o:=by simpa using hi
      obtain ⟨ob,k1,k2⟩:=h1 i hi'
      refine ⟨ob,by simpa using k1,?_⟩
      simp only [List.zip_cons_cons,cF]
      have hok:o≠k:=fun e=>hn'.1 (by rw [← e]; exact List.mem_of_getElem? hi')
      rw [if_neg hok]
      exact k2
   ·simp only [List.mem_cons,not_or] at ho
    simp only [List.zip_cons_cons,cF]
    rw [if_neg ho.1]; exact h2 ho.2
theorem jy (br:Nat→cv):∀ (Z:List Nat) (obj:Nat→cv) (o:Nat),
  (o∈Z→∀ et e rows,br o=.live (.dat et e rows)→cF (fF br Z) obj o=.live (.kA et e rows))∧((o∉Z∨∀ et e rows,br o≠.live (.dat et e rows))→cF (fF br Z) obj o=obj o)
 | [],obj,o=>⟨(fun h=>by cases h),(fun _=>rfl)⟩
 | z::Z,obj,o=>by
   obtain ⟨h1,h2⟩:=jy br Z obj o
   refine ⟨fun ho et e rows hob=>?_,fun ho=>?_⟩
   ·simp only [fF]
    by_cases hz:o=z
    ·subst hz; rw [hob]; simp [cF]
    ·have XD:o∈Z:=(List.mem_cons.1 ho).resolve_left hz
     split
     ·simp only [cF]; rw [if_neg hz]; exact h1 XD et e rows hob
     ·exact h1 XD et e rows hob
   ·simp only [fF]
    have hr:cF (fF br Z) obj o=obj o:=h2 (ho.imp (fun h hm=>h (by simp [hm])) id)
    split
    ·rename_i et e rows hob
     simp only [cF]
     by_cases hz:o=z
     ·subst hz
      rcases ho with ho | ho
      ·exact absurd (by simp) ho
      ·exact absurd hob (ho et e rows)
     ·rw [if_neg hz]; exact hr
    ·exact hr
theorem nQ (l:List aD) (o:Nat):aB (l.map some) o=(match l[o]? with | some ob=>.live ob | none=>.free):=by
 unfold aB
 rw [List.getElem?_map]
 cases l[o]? <;> rfl
theorem sP:∀ {l:List Nat} {i j:Nat},l.Nodup→(hi:i<l.length)→(hj:j<l.length)→l[i]=l[j]→i=j
 | [],i,_,_,hi,_,_=>by simp at hi
 | x::l,0,0,_,_,_,_=>rfl
 | x::l,0,j+1,hn,_,hj,h=>by
   have:=(List.nodup_cons.1 hn).1
   simp at h hj
   exact absurd (by rw [h]; exact List.getElem_mem _) this
 | x::l,i+1,0,hn,hi,_,h=>by
   have:=(List.nodup_cons.1 hn).1
   simp at h hi
   exact absurd (by rw [← h]; exact List.getElem_mem _) this
 | x::l,i+1,j+1,hn,hi,hj,h=>by
   simp at h hi hj
   rw [sP (List.nodup_cons.1 hn).2 hi hj h]
theorem gU {ρ:List Nat} {base i o:Nat} (h:ρ[i]? = some o):bB ρ base i=o:=by simp [bB,h]
theorem jM {ρ:List Nat} {base i:Nat} (h:ρ.length≤i):bB ρ base i=base+(i-ρ.length):=by
 simp [bB,List.getElem?_eq_none h]
theorem oH {f:Nat} (h:mB P f=true) (args:Array Value) (w:World):(callFunc f args).run P w=.ok (.enter f args) w:=by
 unfold mB at h
 split at h
 ·rename_i fn hfn
  simp only [Bool.and_eq_true,bne_iff_ne,ne_eq] at h
  obtain ⟨h1,h2⟩:=h
  have h3:fn.body.isNone=false:=by cases hb:fn.body <;> simp_all
  simp only [callFunc,Sem.run_bind,run_program,Result.andThen_ok,hfn,h3]
  rw [if_neg (by simpa using h1)]
  rfl
 ·cases h
theorem aJ.sub (S:aJ G J w ι obj) {ρ Z:List Nat} {aM:List aD} {base:Nat} (hn:ρ.Nodup) (hz:∀ z∈Z,z∉ρ) (hl:aM.length=ρ.length)
  (ho:∀ (i o:Nat),ρ[i]? = some o→∃ ob,aM[i]? = some ob∧obj o=.live (fc (bB ρ base) ob)) (hid:aM.all (ei ρ.length)=true) (xO:∀ z∈Z,∃ et e rows,obj z=.live (.dat et e rows)∨obj z=.live (.kA et e rows)) :
  aJ G (fun b=>J b∨CA ι obj Z b) w (ij ι ρ) (aB (aM.map some))∧(∀ i b,(aB (aM.map some) i).own (ij ι ρ) i b→∃ o,ρ[i]? = some o∧(obj o).own ι o b):=by
 have hown:∀ i b,(aB (aM.map some) i).own (ij ι ρ) i b→∃ o,ρ[i]? = some o∧(obj o).own ι o b:=by
  intro i b h
  rw [nQ] at h
  cases hi:aM[i]? with
  | none=>rw [hi] at h; exact h.elim
  | some ob=>
    rw [hi] at h
    have hlt:i<ρ.length:=by rw [← hl]; exact (List.getElem?_eq_some_iff.1 hi).1
    obtain ⟨X7,k1,k2⟩:=ho i _ (List.getElem?_eq_getElem hlt)
    rw [hi] at k1; cases k1
    refine ⟨ρ[i],List.getElem?_eq_getElem hlt,?_⟩
    rw [k2]
    cases ob <;> (simp [cv.own,aD.own,fc,ij,List.getElem?_eq_getElem hlt] at h ⊢; try exact h)
 refine ⟨⟨fun i=>?_,?_,?_,?_,?_⟩,hown⟩
 ·rw [nQ]
  cases hi:aM[i]? with
  | none=>
    intro n
    have:ρ[i]? = none:=List.getElem?_eq_none (by rw [← hl]; exact List.getElem?_eq_none_iff.1 hi)
    simp [ij,this]
  | some ob=>
    have hlt:i<ρ.length:=by rw [← hl]; exact (List.getElem?_eq_some_iff.1 hi).1
    have hρ:=List.getElem?_eq_getElem hlt
    obtain ⟨X7,k1,k2⟩:=ho i _ hρ
    rw [hi] at k1; cases k1
    have fU:=S.rep ρ[i]
    rw [k2] at fU
    have hsub:∀ n,ij ι ρ i n=ι ρ[i] n:=fun n=>by simp [ij,hρ]
    have Wv:ei ρ.length ob=true:=(List.all_eq_true.1 hid) ob (List.mem_of_getElem? hi)
    cases ob with
    | box et cells=>
      obtain ⟨⟨b,C,h1,h2,h3⟩,_⟩:=fU
      refine ⟨⟨b,C,by rw [hsub]; exact h1,h2,?_⟩,trivial⟩
      have h4:bI J w (ij ι ρ) cells C.toList:=bI.rn (k0:=ρ.length) (π:=bB ρ base) (fun o n b ho hb=>by
       have hq:=List.getElem?_eq_getElem ho
       rw [gU hq] at hb
       simp [ij,hq,hb]) cells _ (by simpa [ei] using Wv) h3
      exact bI.mono (fun _ h=>.inl h) (fun _ _=>rfl) (fun _ _ _ h=>h) (fun _ _=>rfl) _ _ h4
    | mp es=>
      obtain ⟨⟨b,C,c,h1,h2,h3⟩,_⟩:=fU
      refine ⟨⟨b,C,c,by rw [hsub]; exact h1,h2,?_⟩,trivial⟩
      have h4:gM J w (ij ι ρ) es C.toList:=gM.rn (k0:=ρ.length) (π:=bB ρ base) (fun o n b ho hb=>by
       have hq:=List.getElem?_eq_getElem ho
       rw [gU hq] at hb
       simp [ij,hq,hb]) es _ (by simpa [ei] using Wv) h3
      exact gM.mono (fun _ h=>.inl h) (fun _ _=>rfl) (fun _ _ _ h=>h) (fun _ _=>rfl) _ _ h4
    | dat et e rows=>
      obtain ⟨⟨h1,h2⟩,h3⟩:=fU
      refine ⟨⟨by rw [hsub]; exact h1,fun b hb=>?_⟩,fun n hn=>by rw [hsub]; exact h3 n hn⟩
      rw [hsub] at hb
      obtain ⟨h4,h5⟩:=h2 b hb
      exact ⟨h4,bC.mono (fun _ h=>.inl h) (fun _ _=>rfl) _ _ _ _ rfl h5⟩
    | kA et e rows=>
      obtain ⟨⟨h1,h2⟩,h3⟩:=fU
      refine ⟨⟨by rw [hsub]; exact h1,fun b hb=>?_⟩,trivial⟩
      rw [hsub] at hb
      obtain ⟨h4,h5⟩:=h2 b hb
      exact ⟨.inl h4,bC.mono (fun _ h=>.inl h) (fun _ _=>rfl) _ _ _ _ rfl h5⟩
 ·intro i i' b h h'
  obtain ⟨o,k1,k2⟩:=hown i b h
  obtain ⟨o',CF,Ya⟩:=hown i' b h'
  have:=S.inj o o' b k2 Ya
  subst this
  have hi:=(List.getElem?_eq_some_iff.1 k1).1
  have hi':=(List.getElem?_eq_some_iff.1 CF).1
  have e1:=(List.getElem?_eq_some_iff.1 k1).2
  have e2:=(List.getElem?_eq_some_iff.1 CF).2
  exact sP hn hi hi' (e1.trans e2.symm)
 ·rintro i b h hJ
  obtain ⟨o,k1,k2⟩:=hown i b h
  rcases hJ with hJ | ⟨z,VM,Kh⟩
  ·exact S.qq o b k2 hJ
  ·have:=S.inj o z b k2 Kh
   subst this
   exact hz o VM (List.mem_of_getElem? k1)
 ·rintro b (h | ⟨z,_,h⟩)
  ·exact S.jcell b h
  ·rename_i hz
   exact S.L9 (xO z hz) h
 ·intro g row hg
  obtain ⟨h1,h2,h3⟩:=S.wA g row hg
  exact ⟨.inl h1,cU.mono (fun _ h=>.inl h) (fun _ _=>rfl) _ _ _ rfl h2,h3⟩
theorem a_.call (S:aJ G J w ι obj) {ρ Z:List Nat} {tmp:Bool} {aM aF:List aD} {base:Nat} {r:LV} {v:Value} (hn:ρ.Nodup) (hz:∀ z∈Z,z∉ρ) (hl:aM.length=ρ.length)
  (ho:∀ (i o:Nat),ρ[i]? = some o→∃ ob,aM[i]? = some ob∧obj o=.live (fc (bB ρ base) ob)) (hid:aM.all (ei ρ.length)=true)
  (xO:∀ z∈Z,∃ et e rows,obj z=.live (.dat et e rows)∨obj z=.live (.kA et e rows)) (BQ:tmp=true→mS r=true∧aF=[]∧ρ=[]) (hle:aM.length≤aF.length) (hfree:∀ j,j<aF.length-ρ.length→obj (base+j)=.free)
  (hA:a_ G (aB (aM.map some)) (aB (aF.map some)) (fun b=>J b∨CA ι obj Z b) (ij ι ρ) w r v w') :
  a_ G obj (bJ obj base { r:=rn (bB ρ base) r,rd:=ρ++Z,wr:=(ρ.zip (aF.map (fc (bB ρ base))))++(if tmp then [] else fF obj Z),nw:=(aF.drop ρ.length).map (fc (bB ρ base)) }) J ι w (rn (bB ρ base) r) v w':=by
 obtain ⟨SF,Wc⟩:=S.sub (base:=base) hn hz hl ho hid xO
 obtain ⟨J2,ι2,S2,hr,E2⟩:=hA
 -- names
 generalize hm:aF.length=m at *
 have hkm:ρ.length≤m:=by omega
 have hnew:∀ j,j<m-ρ.length→∀ n,ι (base+j) n=none:=fun j hj=>by
  have:=S.rep (base+j); rw [hfree j hj] at this; exact this
 have Ab:∀ {i o:Nat},ρ[i]? = some o→∃ ob,obj o=.live ob:=fun h=>by obtain ⟨ob,_,k⟩:=ho _ _ h; exact ⟨_,k⟩
 have hinj:∀ i i',i<m→i'<m→bB ρ base i=bB ρ base i'→i=i':=by
  intro i i' hi hi' h
  rcases Nat.lt_or_ge i ρ.length with h1 | h1 <;> rcases Nat.lt_or_ge i' ρ.length with h2 | h2
  ·rw [gU (List.getElem?_eq_getElem h1),gU (List.getElem?_eq_getElem h2)] at h
   exact sP hn h1 h2 h
  ·rw [gU (List.getElem?_eq_getElem h1),jM h2] at h
   obtain ⟨ob,k⟩:=Ab (List.getElem?_eq_getElem h1)
   rw [h,hfree _ (by omega)] at k; cases k
  ·rw [jM h1,gU (List.getElem?_eq_getElem h2)] at h
   obtain ⟨ob,k⟩:=Ab (List.getElem?_eq_getElem h2)
   rw [← h,hfree _ (by omega)] at k; cases k
  ·rw [jM h1,jM h2] at h; omega
 let idx:Nat→Option Nat:=fun o=>(List.range m).find? (fun i=>bB ρ base i==o)
 have hidx:∀ i,i<m→idx (bB ρ base i)=some i:=by
  intro i hi
  cases hx:idx (bB ρ base i) with
  | none=>
    have:=List.find?_eq_none.1 hx i (by simpa using hi)
    simp at this
  | some i'=>
    have h1:=List.find?_some hx
    have h2:i'<m:=by simpa using List.mem_of_find?_eq_some hx
    simp only [beq_iff_eq] at h1
    rw [hinj i' i h2 hi h1]
 have KE:∀ o i,idx o=some i→i<m∧bB ρ base i=o:=by
  intro o i hx
  have h1:=List.find?_some hx
  have h2:i<m:=by simpa using List.mem_of_find?_eq_some hx
  exact ⟨h2,by simpa using h1⟩
 let ι':Nat→Nat→Option Nat:=fun o n=>match idx o with | some i=>ι2 i n | none=>ι o n
 have xJ:∀ i n,i<m→ι' (bB ρ base i) n=ι2 i n:=fun i n hi=>by simp only [ι',hidx i hi]
 have Ty:∀ o n,idx o=none→ι' o n=ι o n:=fun o n h=>by simp only [ι',h]
 have Kg:∀ i n,m≤i→ι2 i n=none:=fun i n hi=>by
  have:=S2.rep i
  rw [nQ,List.getElem?_eq_none (by rw [hm]; exact hi)] at this
  exact this n
 have TO:∀ o n b,ι o n=some b→ι' o n=some b:=by
  intro o n b hb
  cases hx:idx o with
  | none=>rw [Ty o n hx]; exact hb
  | some i=>
    obtain ⟨hi,hpi⟩:=KE o i hx
    rw [← hpi,xJ i n hi]
    rcases Nat.lt_or_ge i ρ.length with h1 | h1
    ·rw [gU (List.getElem?_eq_getElem h1)] at hpi
     exact E2.ev.imono i n b (by simp [ij,List.getElem?_eq_getElem h1,hpi,hb])
    ·rw [jM h1] at hpi
     rw [← hpi,hnew _ (by omega)] at hb; cases hb
 have hun:∀ o n b,ι2 o n=some b→ι' (bB ρ base o) n=some b:=by
  intro o n b hb
  rcases Nat.lt_or_ge o m with h1 | h1
  ·rw [xJ o n h1]; exact hb
  ·rw [Kg o n h1] at hb; cases hb
 let J':Nat→Prop:=fun b=>if tmp=true then J b else J2 b
 have WT:∀ b,J b→J' b:=fun b hb=>by
  simp only [J']; split
  ·exact hb
  ·exact E2.ev.jmono b (.inl hb)
 have rI:∀ b,Own (ij ι ρ) (aB (aM.map some)) b→∃ o,o∈ρ∧(obj o).own ι o b:=fun b ⟨i,hi⟩=>by
  obtain ⟨o,k1,k2⟩:=Wc i b hi
  exact ⟨o,List.mem_of_getElem? k1,k2⟩
 have E:Ev (Own ι obj) J J' ι ι' w w':=by
  refine ⟨E2.ev.os,E2.ev.tape,E2.ev.output,E2.ev.size,fun b hb hno=>E2.ev.same b hb (fun h=>?_),E2.ev.shape,WT,fun b hb=>?_,TO⟩
  ·obtain ⟨o,_,k⟩:=rI b h; exact hno ⟨o,k⟩
  ·simp only [J'] at hb
   split at hb
   ·exact .inl hb
   ·rcases E2.ev.jnew b hb with (h | ⟨z,_,h⟩) | h | h
    ·exact .inl h
    ·exact .inr (.inr ⟨z,h⟩)
    ·exact .inr (.inl h)
    ·obtain ⟨o,_,k⟩:=rI b h; exact .inr (.inr ⟨o,k⟩)
 -- what the objects are
 generalize Se:bJ obj base { r:=rn (bB ρ base) r,rd:=ρ++Z,wr:=(ρ.zip (aF.map (fc (bB ρ base))))++(if tmp then [] else fF obj Z),nw:=(aF.drop ρ.length).map (fc (bB ρ base)) } = obj'
 have Kw:∀ i ob,aF[i]? = some ob→obj' (bB ρ base i)=.live (fc (bB ρ base) ob):=by
  intro i ob hi
  have him:i<m:=by rw [← hm]; exact (List.getElem?_eq_some_iff.1 hi).1
  rw [← Se]
  simp only [bJ,rD]
  rcases Nat.lt_or_ge i ρ.length with h1 | h1
  ·have Tx:=List.getElem?_eq_getElem h1
   rw [gU Tx]
   have Yi:=((uX ρ (aF.map (fc (bB ρ base))) (cF (if tmp then [] else fF obj Z) obj) ρ[i] hn (by simp; omega)).1 i Tx)
   obtain ⟨X7,k1,k2⟩:=Yi
   rw [List.getElem?_map,hi] at k1
   simp only [Option.map_some,Option.some.injEq] at k1
   subst k1
   rw [gE,k2]
   split
   ·rename_i hb
    split
    ·rename_i ob2 Yx
     obtain ⟨ob3,k3⟩:=Ab Tx
     have hlt:ρ[i]-base<m-ρ.length:=by
      have:=(List.getElem?_eq_some_iff.1 Yx).1
      simp at this; omega
     have:=hfree _ hlt
     rw [show base+(ρ[i]-base)=ρ[i] by omega,k3] at this
     cases this
    ·rfl
   ·rfl
  ·rw [jM h1,if_pos (by omega)]
   have:base+(i-ρ.length)-base=i-ρ.length:=by omega
   rw [this,List.getElem?_map,List.getElem?_drop,show ρ.length+(i-ρ.length)=i by omega,hi]
   rfl
 have Sj:∀ {o:Nat},o∉ρ→cF ((ρ.zip (aF.map (fc (bB ρ base))))++(if tmp then [] else fF obj Z)) obj o=cF (if tmp then [] else fF obj Z) obj o:=fun h=>by
  rw [gE]
  exact (uX ρ _ _ _ hn (by simp; omega)).2 h
 have DU:∀ o,idx o=none→o∉ρ∧obj' o=cF (if tmp then [] else fF obj Z) obj o:=by
  intro o hx
  have hno:∀ i,i<m→bB ρ base i≠o:=fun i hi h=>by rw [← h,hidx i hi] at hx; cases hx
  have hρ:o∉ρ:=fun h=>by
   obtain ⟨i,hi,he⟩:=List.mem_iff_getElem.1 h
   exact hno i (by omega) (by rw [gU (List.getElem?_eq_getElem hi)]; exact he)
  refine ⟨hρ,?_⟩
  rw [← Se]
  simp only [bJ,rD]
  split
  ·rename_i hb
   split
   ·rename_i ob hob
    have hlt:=(List.getElem?_eq_some_iff.1 hob).1
    simp at hlt
    exact absurd (by rw [jM (by omega)]; omega) (hno (ρ.length+(o-base)) (by omega))
   ·exact Sj hρ
  ·exact Sj hρ
 -- what is owned
 have hown2:∀ o b,(obj' o).own ι' o b→(∃ i,i<m∧bB ρ base i=o∧(aB (aF.map some) i).own ι2 i b)∨(idx o=none∧obj' o=obj o∧(obj o).own ι o b∧(tmp=false→o∉Z)):=by
  intro o b h
  cases hx:idx o with
  | some i=>
    obtain ⟨hi,hpi⟩:=KE o i hx
    left
    refine ⟨i,hi,hpi,?_⟩
    have jU:=List.getElem?_eq_getElem (l:=aF) (i:=i) (by omega)
    rw [nQ,jU]
    rw [← hpi,Kw i _ jU] at h
    have:∀ ob:aD,(cv.live (fc (bB ρ base) ob)).own ι' (bB ρ base i) b→(cv.live ob).own ι2 i b:=fun ob h=>by
     cases ob <;> (simp [cv.own,aD.own,fc,xJ i _ hi] at h ⊢; try exact h)
    exact this _ h
  | none=>
    right
    obtain ⟨hρ,hob⟩:=DU o hx
    have hk:∀ n,ι' o n=ι o n:=fun n=>Ty o n hx
    by_cases ht:tmp=true
    ·rw [if_pos ht] at hob
     simp only [cF] at hob
     rw [hob] at h
     exact ⟨rfl,hob,(cv.jN hk).1 h,fun hf=>by rw [ht] at hf; cases hf⟩
    ·rw [if_neg ht] at hob
     by_cases hd:o∈Z∧∃ et e rows,obj o=.live (.dat et e rows)
     ·obtain ⟨hZ,et,e,rows,hd⟩:=hd
      rw [(jy obj Z obj o).1 hZ et e rows hd] at hob
      rw [hob] at h
      exact h.elim
     ·have Wh:obj' o=obj o:=by
       rw [hob]
       refine (jy obj Z obj o).2 ?_
       rcases Classical.em (o∈Z) with hZ | hZ
       ·exact .inr (fun et e rows hh=>hd ⟨hZ,et,e,rows,hh⟩)
       ·exact .inl hZ
      rw [Wh] at h
      refine ⟨rfl,Wh,(cv.jN hk).1 h,fun _ hZ=>?_⟩
      obtain ⟨et,e,rows,hh | hh⟩:=xO o hZ
      ·exact hd ⟨hZ,et,e,rows,hh⟩
      ·rw [hh] at h; exact h
 have hlt:∀ o b,(obj o).own ι o b→b<w.heap.size:=fun o b h=>S.kS ⟨o,h⟩
 have Ai:∀ i b,(aB (aF.map some) i).own ι2 i b→(∃ o,o∈ρ∧(obj o).own ι o b)∨w.heap.size≤b:=fun i b h=>(E2.own b ⟨i,h⟩).imp (rI b) id
 have DM:∀ o,o∈ρ→idx o≠none:=fun o ho' hx=>(DU o hx).1 ho'
 have S':aJ G J' w' ι' obj':=by
  refine ⟨fun o=>?_,?_,?_,?_,?_⟩
  ·cases hx:idx o with
   | some i=>
     obtain ⟨hi,hpi⟩:=KE o i hx
     have jU:=List.getElem?_eq_getElem (l:=aF) (i:=i) (by omega)
     have h2:=S2.rep i
     rw [nQ,jU] at h2
     rw [← hpi,Kw i _ jU]
     have VP:tmp≠true:=fun ht=>by
      have:=(BQ ht).2.1
      rw [this] at hm; simp at hm; omega
     have D5:∀ b,J2 b→J' b:=fun b hb=>by simp only [J']; rw [if_neg VP]; exact hb
     generalize aF[i]=ob at h2 ⊢
     cases ob with
     | box et cells=>
       obtain ⟨⟨b,C,h3,h4,h5⟩,_⟩:=h2
       exact ⟨⟨b,C,by rw [xJ i 0 hi]; exact h3,h4,bI.mono D5 (fun _ _=>rfl) (fun _ _ _ h=>h) (fun _ _=>rfl) _ _ (bI.nB hun _ _ h5)⟩,trivial⟩
     | mp es=>
       obtain ⟨⟨b,C,c,h3,h4,h5⟩,_⟩:=h2
       exact ⟨⟨b,C,c,by rw [xJ i 0 hi]; exact h3,h4,gM.mono D5 (fun _ _=>rfl) (fun _ _ _ h=>h) (fun _ _=>rfl) _ _ (gM.nB hun _ _ h5)⟩,trivial⟩
     | dat et e rows=>
       obtain ⟨⟨h3,h4⟩,h5⟩:=h2
       refine ⟨⟨by rw [xJ i _ hi]; exact h3,fun b hb=>?_⟩,fun n hn'=>by rw [xJ i n hi]; exact h5 n hn'⟩
       rw [xJ i _ hi] at hb
       obtain ⟨h6,h7⟩:=h4 b hb
       exact ⟨h6,bC.mono D5 (fun _ _=>rfl) _ _ _ _ rfl h7⟩
     | kA et e rows=>
       obtain ⟨⟨h3,h4⟩,h5⟩:=h2
       refine ⟨⟨by rw [xJ i _ hi]; exact h3,fun b hb=>?_⟩,trivial⟩
       rw [xJ i _ hi] at hb
       obtain ⟨h6,h7⟩:=h4 b hb
       exact ⟨D5 b h6,bC.mono D5 (fun _ _=>rfl) _ _ _ _ rfl h7⟩
   | none=>
     obtain ⟨hρ,hob⟩:=DU o hx
     have hk:∀ n,ι' o n=ι o n:=fun n=>Ty o n hx
     have hblk:∀ b,(obj o).own ι o b→w'.heap[b]? = w.heap[b]?:=fun b hb=>E2.ev.same b (hlt o b hb) (fun h=>by
      obtain ⟨o',h1,h2⟩:=rI b h
      have:=S.inj o o' b hb h2
      subst this; exact hρ h1)
     have keep:=mN.keep S E hk hblk
     by_cases ht:tmp=true
     ·rw [if_pos ht] at hob
      simp only [cF] at hob
      rw [hob]; exact keep
     ·rw [if_neg ht] at hob
      by_cases hZ:o∈Z
      ·obtain ⟨et,e,rows,hd | hd⟩:=xO o hZ
       rotate_left 1
       ·rw [(jy obj Z obj o).2 (.inr (fun _ _ _ hh=>by rw [hd] at hh; cases hh))] at hob
        rw [hob]; exact keep
       rw [(jy obj Z obj o).1 hZ et e rows hd] at hob
       rw [hob]
       rw [hd] at keep
       obtain ⟨⟨h1,h2⟩,_⟩:=keep
       refine ⟨⟨h1,fun b hb=>?_⟩,trivial⟩
       obtain ⟨_,h3⟩:=h2 b hb
       refine ⟨?_,h3⟩
       simp only [J']; rw [if_neg ht]
       refine E2.ev.jmono b (.inr ⟨o,hZ,?_⟩)
       rw [hd]
       rw [hk] at hb; exact hb
      ·rw [(jy obj Z obj o).2 (.inl hZ)] at hob
       rw [hob]; exact keep
  ·intro o o' b h h'
   rcases hown2 o b h with ⟨i,hi,hpi,k⟩ | ⟨hx,_,k,_⟩ <;> rcases hown2 o' b h' with ⟨i',hi',Yq,k'⟩ | ⟨hx',_,k',_⟩
   ·rw [← hpi,← Yq,S2.inj i i' b k k']
   ·rcases Ai i b k with ⟨o2,h1,h2⟩ | h1
    ·have:=S.inj _ _ _ h2 k'
     subst this
     exact absurd hx' (DM _ h1)
    ·have:=hlt _ _ k'; omega
   ·rcases Ai i' b k' with ⟨o2,h1,h2⟩ | h1
    ·have:=S.inj _ _ _ h2 k
     subst this
     exact absurd hx (DM _ h1)
    ·have:=hlt _ _ k; omega
   ·exact S.inj _ _ _ k k'
  ·intro o b h TW
   rcases hown2 o b h with ⟨i,hi,hpi,k⟩ | ⟨hx,_,k,hZ⟩
   ·have VP:tmp≠true:=fun ht=>by
     have:=(BQ ht).2.1
     rw [this] at hm; simp at hm; omega
    simp only [J'] at TW
    rw [if_neg VP] at TW
    exact S2.qq i b k TW
   ·simp only [J'] at TW
    split at TW
    ·exact S.qq o b k TW
    ·rename_i VP
     rcases E2.ev.jnew b TW with (h1 | ⟨z,VM,Kh⟩) | h1 | h1
     ·exact S.qq o b k h1
     ·have:=S.inj _ _ _ k Kh
      subst this
      exact hZ (by simpa using VP) VM
     ·have:=hlt _ _ k; omega
     ·obtain ⟨o2,h3,h4⟩:=rI b h1
      have:=S.inj _ _ _ k h4
      subst this
      exact DM _ h3 hx
  ·intro b hb
   simp only [J'] at hb
   split at hb
   ·rw [S.same E b hb]; exact S.jcell b hb
   ·exact S2.jcell b hb
  ·intro g row hg
   obtain ⟨h1,h2,t,h3⟩:=S.wA g row hg
   exact ⟨WT g h1,h2.ev S E h1,t,by rw [E.shape g (S.AK g h1)]; exact h3⟩
 refine ⟨J',ι',S',?_,E,?_⟩
 ·have h1:=cQ.nB hun r v hr
  by_cases ht:tmp=true
  ·have TI:mS (rn (bB ρ base) r)=true:=by
    have:∀ (x:LV),mS x=true→mS (rn (bB ρ base) x)=true:=by
     intro x
     exact (SO (bB ρ base)).1 x
    exact this r (BQ ht).1
   exact cQ.mS trivial _ _ TI h1
  ·have:J'=J2:=by funext b; simp only [J']; rw [if_neg ht]
   rw [this]; exact h1
 ·rintro b ⟨o,h⟩
  rcases hown2 o b h with ⟨i,hi,hpi,k⟩ | ⟨hx,_,k,_⟩
  ·rcases Ai i b k with ⟨o2,h1,h2⟩ | h1
   ·exact .inl ⟨o2,h2⟩
   ·exact .inr h1
  ·exact .inl ⟨o,k⟩
end
end Dv
