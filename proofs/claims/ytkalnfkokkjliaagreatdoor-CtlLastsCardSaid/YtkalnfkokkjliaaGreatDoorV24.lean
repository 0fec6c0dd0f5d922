/- part -/
import Derived.Test.YtkalnfkokkjliaaGreatDoorVD
import Derived.Test.YtkalnfkokkjliaaGreatDoorVD
set_option linter.all false
namespace Dv
open Go
inductive Out where
 | n
 | x (i:Nat)
 | r
structure Tab where
 ir:Nat→Option (Nat×C×List RV)
 hand:Nat→Bool→List LV→List aG→Option (LV×List aG)
 dat:Nat→Nat→Bool
 ro:Nat→Nat→Bool
mutual
def rX (ρ:List Nat):LV→Bool
 | .top=>true
 | .dV=>true
 | .d _=>true
 | .ptr o _=>ρ.contains o
 | .rp o _ _ _ _=>ρ.contains o
 | .ip _ _=>true
 | .sl o _ _ _ _=>ρ.contains o
 | .fn _ a b=>wG ρ a&&wG ρ b
 | .agg cs=>wG ρ cs
 | .dM vs=>wG ρ vs
 | .gd _ v=>rX ρ v
 | .yl _=>false
 | .mr o=>ρ.contains o
def wG (ρ:List Nat):List LV→Bool
 | []=>true
 | x::xs=>rX ρ x&&wG ρ xs
end
def inO (ρ:List Nat):aG→Bool
 | .box _ cells=>wG ρ cells
 | .mp es=>es.all fun p=>rX ρ p.2
 | _=>true
mutual
def nms:LV→List Nat
 | .ptr o _=>[o]
 | .mr o=>[o]
 | .rp o _ _ _ _=>[o]
 | .sl o _ _ _ _=>[o]
 | .fn _ a b=>FM a++FM b
 | .agg cs=>FM cs
 | .dM vs=>FM vs
 | .gd _ v=>nms v
 | _=>[]
def FM:List LV→List Nat
 | []=>[]
 | x::xs=>nms x++FM xs
end
def ac9:aG→List Nat
 | .box _ cells=>FM cells
 | .mp es=>es.flatMap fun p=>nms p.2
 | _=>[]
def ND (l:List Nat):List Nat→List Nat
 | []=>l
 | x::xs=>ND (if l.contains x then l else l++[x]) xs
def reach (af:List (Option aG)):Nat→List Nat→List Nat
 | 0,ρ=>ρ
 | n+1,ρ=>
   let ρ':=ND ρ (ρ.flatMap fun o=>match af[o]? with | some (some ob)=>ac9 ob | _=>[])
   if ρ'.length=ρ.length then ρ else reach af n ρ'
def uI (af:List (Option aG)):List Nat→Option (List aG)
 | []=>some []
 | o::r=>match af[o]?,uI af r with
   | some (some ob),some l=>some (ob::l)
   | _,_=>none
def slots:List (Nat×LV)→List Nat→List Nat
 | [],acc=>acc
 | (k,_)::r,acc=>slots r (if acc.contains k then acc else acc++[k])
def xL (env:List (Nat×LV)):List (Nat×LV):=(slots env []).map fun t=>(t,aY env t)
def nodupB:List Nat→Bool
 | []=>true
 | x::xs=>!xs.contains x&&nodupB xs
def isR:LV→Bool
 | .d (.val (.tuple a))=>a.size==0
 | _=>false
def isLeft:LV→Bool
 | .dM []=>true
 | _=>false
abbrev RES:=Option (Out×List (Nat×LV)×List (Option aG))
abbrev NL:=List LV→List (Option aG)→LV→Option (LV×Bool×List (Option aG))
def Ii:NL:=fun _ _ _=>none
def Fv (ra rb:List (Nat×LV)→List (Option aG)→RES) (jm:Option Nat) (ps:List Nat) (env:List (Nat×LV)) (oy:Nat):NL:=fun as af ys=>match as with
 | .yl q::as=>if q=oy∧isR ys=true∧as.length=ps.length then (match ra (sZ ps as env) af with
   | some (.n,e1,o1)=>(match rb e1 o1 with
     | some (.n,_,o)=>some (jr,true,o)
     | some (.x i,_,o)=>if i≠ij∧jm=some i then some (kz,false,o) else none
     | some (.r,_,o)=>if jm=none then some (kz,false,o) else none
     | none=>none)
   | _=>none) else none
 | _=>none
def Ow:Value→Value→Bool
 | .int k n,.int k' n'=>decide (k=k')&&decide (n=n')
 | .bool a,.bool b=>decide (a=b)
 | .string a,.string b=>decide (a=b)
 | .pointer none,.pointer none=>true
 | .slice none n c,.slice none n' c'=>Nat.beq n n'&&Nat.beq c c'
 | .nilFunc,.nilFunc=>true
 | _,_=>false
mutual
def qD:DV→DV→Bool
 | .val a,.val b=>Ow a b
 | .dO e rows,.dO e' Wv=>Nat.beq e e'&&qC rows Wv
 | .agg a,.agg b=>th a b
 | _,_=>false
def th:List DV→List DV→Bool
 | [],[]=>true
 | x::xs,y::ys=>qD x y&&th xs ys
 | _,_=>false
def qC:List (List DV)→List (List DV)→Bool
 | [],[]=>true
 | x::xs,y::ys=>th x y&&qC xs ys
 | _,_=>false
end
mutual
def J8:LV→LV→Bool
 | .top,.top=>true
 | .d x,.d y=>qD x y
 | .ptr o c,.ptr o' c'=>Nat.beq o o'&&Nat.beq c c'
 | .sl o n e l k,.sl o' n' e' l' k'=>Nat.beq o o'&&Nat.beq n n'&&Nat.beq e e'&&Nat.beq l l'&&Nat.beq k k'
 | .rp o n e l k,.rp o' n' e' l' k'=>Nat.beq o o'&&Nat.beq n n'&&Nat.beq e e'&&Nat.beq l l'&&Nat.beq k k'
 | .agg a,.agg b=>oK a b
 | _,_=>false
def oK:List LV→List LV→Bool
 | [],[]=>true
 | x::xs,y::ys=>J8 x y&&oK xs ys
 | _,_=>false
end
def Fm:Option aG→Option aG→Bool
 | some (.box t a),some (.box t' b)=>decide (t=t')&&oK a b
 | some (.dat t e a),some (.dat t' e' b)=>decide (t=t')&&Nat.beq e e'&&qC a b
 | some (.kK t e a),some (.kK t' e' b)=>decide (t=t')&&Nat.beq e e'&&qC a b
 | _,_=>false
section
variable (G:Nat→Option (List DV)) (self:Bool→Nat→List LV→List aG→Option (LV×List aG)) (pP:Nat→List LV→List (Option aG)→NL→Option (LV×List (Option aG))) (dat ro:Nat→Bool)
def Jt (k:Nat) (as:List LV) (af:List (Option aG)):Option fC:=
 let ρ:=reach af af.length (ND [] (FM as))
 match uI af ρ with
 | some obs=>
   if wG ρ as&&obs.all (inO ρ)&&nodupB ρ then
    match self (dat k) k (mT (fun o=>ρ.idxOf o) as) (obs.map (fq fun o=>ρ.idxOf o)) with
    | some (r,ax)=>if obs.length≤ax.length then
      some { r:=rn (bC ρ af.length) r,rd:=ρ,wr:=(if ro k=true then (ρ.zip (ax.map (fq (bC ρ af.length)))).filter fun p=>!Fm ax[ρ.idxOf p.1]? (obs.map (fq fun o=>ρ.idxOf o))[ρ.idxOf p.1]? else ρ.zip (ax.map (fq (bC ρ af.length)))),nw:=(ax.drop ρ.length).map (fq (bC ρ af.length)) } else none
    | none=>none
   else none
 | none=>none
def doI (i:I) (env:List (Nat×LV)) (af:List (Option aG)):Option fC:=
 match i with
 | .call f args=>match callee (f.ev G (aY env)) with
   | some (k,fs,cs)=>Jt self dat ro k (fs++args.map (·.ev G (aY env))++cs) af
   | none=>none
 | i=>cO G (aY env) (aC af) af.length i
def doY (gG:NL) (i:I) (env:List (Nat×LV)) (af:List (Option aG)):Option (LV×Bool×List (Option aG)):=
 match i with
 | .call f args=>match callee (f.ev G (aY env)) with
   | some _=>none
   | none=>match f.ev G (aY env) with
     | .yl oy=>gG (.yl oy::args.map (·.ev G (aY env))) af (aY env YS)
     | _=>none
 | _=>none
def do1 (gG:NL) (o:en) (env:List (Nat×LV)) (af:List (Option aG)):Option (List (Nat×LV)×List (Option aG)):=
 match doI G self dat ro o.op env af with
 | some e=>some (ei o.dst e.r env,fU e.wr af++e.nw.map some)
 | none=>match doY G gG o.op env af with
   | some (ys,b,aA)=>some (ei o.dst (.bool b) ((YS,ys)::env),aA)
   | none=>none
def tj (gG:NL):List en→List (Nat×LV)→List (Option aG)→Option (List (Nat×LV)×List (Option aG))
 | [],env,af=>some (env,af)
 | o::os,env,af=>
   match o.guard with
   | none=>(match do1 G self dat ro gG o env af with
     | some (env',aA)=>tj gG os env' aA
     | none=>none)
   | some (g,want)=>match aY env g with
     | .d (.val (.bool b))=>if b=want then (match do1 G self dat ro gG o env af with
       | some (env',aA)=>tj gG os env' aA
       | none=>none) else tj gG os (ei o.dst .undef env) af
     | .d (.val (.tuple _))=>tj gG os (ei o.dst .undef env) af
     | _=>none
def mR:List en→List (Nat×LV)→List (Option aG)→List iV→Option (List (Nat×LV)×List (Option aG))
 | [],env,af,log=>if indep log=true then some (env,af) else none
 | o::os,env,af,log=>
   match o.guard with
   | none=>(match doI G self dat ro o.op env af with
     | some e=>mR os (ei o.dst e.r env) (fU e.wr af++e.nw.map some) (log++[⟨o.pre,e.rd,(e.owned af.length).map (·.1)⟩])
     | none=>none)
   | some (g,want)=>match aY env g with
     | .d (.val (.bool b))=>if b=want then (match doI G self dat ro o.op env af with
       | some e=>mR os (ei o.dst e.r env) (fU e.wr af++e.nw.map some) (log++[⟨o.pre,e.rd,(e.owned af.length).map (·.1)⟩])
       | none=>none) else mR os (ei o.dst .undef env) af (log++[⟨o.pre,[],[]⟩])
     | .d (.val (.tuple _))=>mR os (ei o.dst .undef env) af (log++[⟨o.pre,[],[]⟩])
     | _=>none
def iter (f:List (Nat×LV)→List (Option aG)→RES):Nat→List (Nat×LV)→List (Option aG)→RES
 | 0,_,_=>none
 | n+1,env,af=>match f env af with
   | some (.n,env',aA)=>iter f n (xL env') aA
   | r=>r
def zH (jm:Option Nat) (env:List (Nat×LV)):Option (LV×List (Option aG))→RES
 | some (yv,o)=>if isR yv=true then some (.n,env,o) else if isLeft yv=true then (match jm with
   | some i=>if i≠ij then some (.x i,env,o) else none
   | none=>some (.r,env,o)) else none
 | none=>none
def jM (L:Nat):C→NL→List (Nat×LV)→List (Option aG)→RES
 | .skip,gG,env,af=>some (.n,env,af)
 | .pZ ops,gG,env,af=>match tj G self dat ro gG ops env af with
   | some (env',aA)=>some (.n,env',aA)
   | none=>none
 | .lS ops,gG,env,af=>match mR G self dat ro ops env af [] with
   | some (env',aA)=>some (.n,env',aA)
   | none=>none
 | .seq a b,gG,env,af=>match jM L a gG env af with
   | some (.n,env',aA)=>jM L b gG env' aA
   | r=>r
 | .cond c a b,gG,env,af=>match c.ev G (aY env) with
   | .d (.val (.bool t))=>if t=true then jM L a gG env af else jM L b gG env af
   | _=>none
 | .block i b,gG,env,af=>match jM L b gG env af with
   | some (.x j,env',aA)=>some (if j=i then .n else .x j,env',aA)
   | r=>r
 | .loop b,gG,env,af=>iter (jM L b gG) L (xL env) af
 | .exit i,gG,env,af=>some (.x i,env,af)
 | .ret,gG,env,af=>some (.r,env,af)
 | .scope b,gG,env,af=>jM L b gG env af
 | .Zz g ps a b,gG,env,af=>match callee (g.ev G (aY env)) with
   | some (k,fs,cs)=>(match zH none env (pP k (fs++[.yl af.length]++cs) (af++[none]) (Fv (jM L a Ii) (jM L b Ii) none ps env af.length)) with
     | some r=>some r
     | none=>zH (some 0) env (pP k (fs++[.yl af.length]++cs) (af++[none]) (Fv (jM L a Ii) (jM L b Ii) (some 0) ps env af.length)))
   | none=>none
end
def xD (af:List (Option aG)) (o:Nat):Option (Nat×List (List DV)):=match af[o]? with
 | some (some (.dat _ e rows))=>some (e,rows)
 | some (some (.kK _ e rows))=>some (e,rows)
 | _=>none
mutual
def jF (k:Nat) (af:List (Option aG)):LV→LV
 | .sl o n e lo len=>if k≤o then (match xD af o with
   | some (e0,rows)=>if e=e0∧n=rows.length∧lo+len≤rows.length then .d (.dO e ((rows.drop lo).take len)) else .sl o n e lo len
   | none=>.sl o n e lo len) else .sl o n e lo len
 | .dM vs=>.dM (vW k af vs)
 | x=>x
def vW (k:Nat) (af:List (Option aG)):List LV→List LV
 | []=>[]
 | x::xs=>jF k af x::vW k af xs
end
def M5:List Nat→List Nat→Bool
 | [],[]=>true
 | x::xs,y::ys=>Nat.beq x y&&M5 xs ys
 | _,_=>false
def aaH (md:Bool) (k:Nat) (r:LV) (af:List (Option aG)):Option (LV×List aG):=
 if md=true then (match uI af (List.range k) with
  | some obs=>if eN k (jF k af r)=true∧obs.all (dW k)=true then some (jF k af r,obs) else none
  | none=>none)
 else let ρ:=reach af af.length (ND (List.range k) (nms r))
  match uI af ρ with
  | some obs=>if (M5 (ρ.take k) (List.range k)&&nodupB ρ&&rX ρ r&&obs.all (inO ρ))=true then some (rn (fun o=>ρ.idxOf o) r,obs.map (fq fun o=>ρ.idxOf o)) else none
  | none=>none
mutual
def sA (G:Nat→Option (List DV)) (T:Tab) (L:Nat):Nat→Bool→Nat→List LV→List aG→Option (LV×List aG)
 | 0,_,_,_,_=>none
 | d+1,md,f,args,af=>match T.hand f md args af with
   | some r=>some r
   | none=>match T.ir f with
     | some (N,c,rv)=>if args.length≤N then (match jM G (sA G T L d) (Oz G T L d) (T.dat f) (T.ro f) L c Ii (fB 0 args) (af.map some) with
       | some (.x _,_,_)=>none
       | some (_,env,aA)=>(match yB.of ⟨env,aA⟩ rv with
         | some vs=>aaH md af.length (aV vs) aA
         | none=>none)
       | none=>none) else none
     | none=>none
def Oz (G:Nat→Option (List DV)) (T:Tab) (L:Nat):Nat→Nat→List LV→List (Option aG)→NL→Option (LV×List (Option aG))
 | 0,_,_,_,_=>none
 | d+1,f,args,af,gG=>match T.ir f with
   | some (N,c,rv)=>if (args.length≤N∧kq c=true)∧rv=[] then (match jM G (sA G T L d) (Oz G T L d) (T.dat f) (T.ro f) L c gG ((YS,jr)::fB 0 args) af with
     | some (.x _,_,_)=>none
     | some (_,env,aA)=>some (aY env YS,aA)
     | none=>none) else none
   | none=>none
end
theorem u5 {ρ:List Nat} {o:Nat} (h:o∈ρ):ρ[ρ.idxOf o]? = some o:=by
 have hl:=List.idxOf_lt_length_of_mem h
 rw [List.getElem?_eq_getElem hl,List.getElem_idxOf hl]
theorem Eh {ρ:List Nat} {o:Nat} (b:Nat) (h:o∈ρ):bC ρ b (ρ.idxOf o)=o:=by
 unfold bC; rw [u5 h]
section
variable {ρ:List Nat}
mutual
theorem HQ (b:Nat):∀ (x:LV),rX ρ x=true→rn (bC ρ b) (rn (fun o=>ρ.idxOf o) x)=x
 | .top,_=>rfl
 | .dV,_=>rfl
 | .d x,_=>rfl
 | .ptr o c,h=>by simp only [rX,List.contains_iff_mem] at h; simp only [rn,Eh b h]
 | .rp o n e r c,h=>by simp only [rX,List.contains_iff_mem] at h; simp only [rn,Eh b h]
 | .ip ..,_=>rfl
 | .sl o n e l m,h=>by simp only [rX,List.contains_iff_mem] at h; simp only [rn,Eh b h]
 | .fn f x y,h=>by
   simp only [rX,Bool.and_eq_true] at h
   simp only [rn,rO b x h.1,rO b y h.2]
 | .agg cs,h=>by
   simp only [rX] at h
   simp only [rn,rO b cs h]
 | .dM cs,h=>by
   simp only [rX] at h
   simp only [rn,rO b cs h]
 | .gd t v,h=>by
   simp only [rX] at h
   simp only [rn,HQ b v h]
 | .yl _,h=>by simp [rX] at h
 | .mr o,h=>by simp only [rX,List.contains_iff_mem] at h; simp only [rn,Eh b h]
theorem rO (b:Nat):∀ (xs:List LV),wG ρ xs=true→mT (bC ρ b) (mT (fun o=>ρ.idxOf o) xs)=xs
 | [],_=>rfl
 | x::xs,h=>by
   simp only [wG,Bool.and_eq_true] at h
   simp only [mT,HQ b x h.1,rO b xs h.2]
end
theorem Ka (b:Nat) (ob:aG) (h:inO ρ ob=true):fq (bC ρ b) (fq (fun o=>ρ.idxOf o) ob)=ob:=by
 cases ob with
 | box et cells=>simp only [fq]; rw [rO b cells h]
 | mp es=>
   simp only [inO,List.all_eq_true] at h
   simp only [fq,aG.mp.injEq,List.map_map]
   conv=>rhs; rw [← List.map_id es]
   exact List.map_congr_left fun p hp=>by simp [HQ b p.2 (h p hp)]
 | _=>rfl
mutual
theorem ID:∀ (x:LV),rX ρ x=true→eN ρ.length (rn (fun o=>ρ.idxOf o) x)=true
 | .top,_=>rfl
 | .dV,_=>rfl
 | .d x,_=>rfl
 | .ptr o c,h=>by simp only [rX,List.contains_iff_mem] at h; simpa only [rn,eN,decide_eq_true_eq] using List.idxOf_lt_length_of_mem h
 | .rp o n e r c,h=>by simp only [rX,List.contains_iff_mem] at h; simpa only [rn,eN,decide_eq_true_eq] using List.idxOf_lt_length_of_mem h
 | .ip ..,_=>rfl
 | .sl o n e l m,h=>by simp only [rX,List.contains_iff_mem] at h; simpa only [rn,eN,decide_eq_true_eq] using List.idxOf_lt_length_of_mem h
 | .fn f x y,h=>by
   simp only [rX,Bool.and_eq_true] at h
   simp only [rn,eN,rY x h.1,rY y h.2,Bool.and_self]
 | .agg cs,h=>by
   simp only [rX] at h
   simp only [rn,eN,rY cs h]
 | .dM cs,h=>by
   simp only [rX] at h
   simp only [rn,eN,rY cs h]
 | .gd t v,h=>by
   simp only [rX] at h
   simp only [rn,eN,ID v h]
 | .yl _,h=>by simp [rX] at h
 | .mr o,h=>by simp only [rX,List.contains_iff_mem] at h; simpa only [rn,eN,decide_eq_true_eq] using List.idxOf_lt_length_of_mem h
theorem rY:∀ (xs:List LV),wG ρ xs=true→eE ρ.length (mT (fun o=>ρ.idxOf o) xs)=true
 | [],_=>rfl
 | x::xs,h=>by
   simp only [wG,Bool.and_eq_true] at h
   simp only [mT,eE,ID x h.1,rY xs h.2,Bool.and_self]
end
theorem KH (ob:aG) (h:inO ρ ob=true):dW ρ.length (fq (fun o=>ρ.idxOf o) ob)=true:=by
 cases ob with
 | box et cells=>exact rY cells h
 | mp es=>
   simp only [inO,List.all_eq_true] at h
   simp only [fq,dW,List.all_map,List.all_eq_true]
   exact fun p hp=>ID p.2 (h p hp)
 | _=>rfl
mutual
theorem EJ (obj:Nat→cG):∀ (x:LV),rX ρ x=true→ah obj ρ [] x (rn (fun o=>ρ.idxOf o) x)
 | .top,_=>by simp [rn,ah]
 | .dV,_=>by simp [rn,ah]
 | .d x,_=>by simp [rn,ah]
 | .ptr o c,h=>by simp only [rX,List.contains_iff_mem] at h; simp only [rn,ah,u5 h,and_self]
 | .rp o n e r c,h=>by simp only [rX,List.contains_iff_mem] at h; simp only [rn,ah,u5 h,and_self]
 | .ip ..,_=>by simp [rn,ah]
 | .sl o n e l m,h=>by simp only [rX,List.contains_iff_mem] at h; simp only [rn,ah,u5 h,and_self]
 | .fn f x y,h=>by
   simp only [rX,Bool.and_eq_true] at h
   simp only [rn,ah,true_and]
   exact ⟨mD obj x h.1,mD obj y h.2⟩
 | .agg cs,h=>by
   simp only [rX] at h
   simp only [rn,ah]
   exact mD obj cs h
 | .dM cs,h=>by
   simp only [rX] at h
   simp only [rn,ah]
   exact mD obj cs h
 | .gd t v,h=>by
   simp only [rX] at h
   simp only [rn,ah,true_and]
   exact EJ obj v h
 | .yl _,h=>by simp [rX] at h
 | .mr o,h=>by simp only [rX,List.contains_iff_mem] at h; simp only [rn,ah,u5 h]
theorem mD (obj:Nat→cG):∀ (xs:List LV),wG ρ xs=true→ag obj ρ [] xs (mT (fun o=>ρ.idxOf o) xs)
 | [],_=>by simp [mT,ag]
 | x::xs,h=>by
   simp only [wG,Bool.and_eq_true] at h
   simp only [mT,ag]
   exact ⟨EJ obj x h.1,mD obj xs h.2⟩
end
end
theorem qT:∀ (l:List Nat),nodupB l=true→l.Nodup
 | [],_=>List.nodup_nil
 | x::xs,h=>by
   simp only [nodupB,Bool.and_eq_true,Bool.not_eq_true',List.contains_eq_mem,decide_eq_false_iff_not] at h
   exact List.nodup_cons.2 ⟨h.1,qT xs h.2⟩
theorem KU:∀ (l m:List Nat),M5 l m=true→l=m
 | [],[],_=>rfl
 | x::xs,y::ys,h=>by
   simp only [M5,Bool.and_eq_true] at h
   rw [Nat.eq_of_beq_eq_true h.1,KU xs ys h.2]
 | [],_::_,h=>by simp [M5] at h
 | _::_,[],h=>by simp [M5] at h
theorem PI {x:LV} (h:isR x=true):x=jr:=by
 unfold isR at h
 split at h
 ·rename_i a
  have:a=#[]:=by
   apply Array.eq_empty_of_size_eq_zero
   simpa using h
  subst this; rfl
 ·cases h
theorem MD {x:LV} (h:isLeft x=true):x=kz:=by
 unfold isLeft at h
 split at h
 ·rfl
 ·cases h
theorem rS {af:List (Option aG)} : ∀ {ρ:List Nat} {obs:List aG},uI af ρ=some obs→ρ.map (aC af)=obs.map cG.live
 | [],obs,h=>by cases h; rfl
 | o::r,obs,h=>by
   simp only [uI] at h
   split at h
   ·rename_i ob l h1 h2
    cases h
    rw [List.map_cons,List.map_cons,rS h2]
    congr 1
    simp [aC,h1]
   ·cases h
theorem Co {af:List (Option aG)} {ρ:List Nat} {obs:List aG} (h:uI af ρ=some obs) (i o:Nat) (hi:ρ[i]? = some o):∃ ob,obs[i]? = some ob∧aC af o=.live ob:=by
 have h1:=congrArg (fun l=>l[i]?) (rS h)
 simp only [List.getElem?_map,hi,Option.map_some] at h1
 cases e_:obs[i]? with
 | none=>rw [e_] at h1; cases h1
 | some ob=>rw [e_] at h1; exact ⟨ob,rfl,Option.some.inj h1⟩
theorem Cn {af:List (Option aG)} {ρ:List Nat} {obs:List aG} (h:uI af ρ=some obs):obs.length=ρ.length:=by
 have:=congrArg List.length (rS h)
 simpa using this.symm
theorem Ov:∀ (a b:Value),Ow a b=true→a=b:=by
 intro a b h
 unfold Ow at h
 split at h <;> (try (cases h; done)) <;> simp only [Bool.and_eq_true,decide_eq_true_eq] at h
 ·rw [h.1,h.2]
 ·rw [h]
 ·rw [h]
 ·rfl
 ·rw [Nat.eq_of_beq_eq_true h.1,Nat.eq_of_beq_eq_true h.2]
 ·rfl
mutual
theorem Fo:∀ (a b:DV),qD a b=true→a=b
 | .val a,.val b,h=>by simp only [qD] at h; rw [Ov _ _ h]
 | .dO e rows,.dO e' Wv,h=>by
   simp only [qD,Bool.and_eq_true] at h
   rw [Nat.eq_of_beq_eq_true h.1,rN _ _ h.2]
 | .agg a,.agg b,h=>by simp only [qD] at h; rw [we _ _ h]
 | .val _,.dO ..,h | .val _,.fn ..,h | .val _,.gd ..,h | .val _,.agg _,h=>by simp [qD] at h
 | .dO ..,.val _,h | .dO ..,.fn ..,h | .dO ..,.gd ..,h | .dO ..,.agg _,h=>by simp [qD] at h
 | .agg _,.val _,h | .agg _,.fn ..,h | .agg _,.gd ..,h | .agg _,.dO ..,h=>by simp [qD] at h
 | .fn ..,_,h=>by simp [qD] at h
 | .gd ..,_,h=>by simp [qD] at h
theorem we:∀ (a b:List DV),th a b=true→a=b
 | [],[],_=>rfl
 | x::xs,y::ys,h=>by
   simp only [th,Bool.and_eq_true] at h
   rw [Fo _ _ h.1,we _ _ h.2]
 | [],_::_,h=>by simp [th] at h
 | _::_,[],h=>by simp [th] at h
theorem rN:∀ (a b:List (List DV)),qC a b=true→a=b
 | [],[],_=>rfl
 | x::xs,y::ys,h=>by
   simp only [qC,Bool.and_eq_true] at h
   rw [we _ _ h.1,rN _ _ h.2]
 | [],_::_,h=>by simp [qC] at h
 | _::_,[],h=>by simp [qC] at h
end
mutual
theorem Ox:∀ (a b:LV),J8 a b=true→a=b:=by
 intro a b h
 cases a <;> cases b <;> (try (simp [J8] at h; done)) <;> simp only [J8,Bool.and_eq_true] at h
 ·rfl
 ·rw [Fo _ _ h]
 ·rw [Nat.eq_of_beq_eq_true h.1,Nat.eq_of_beq_eq_true h.2]
 ·rw [Nat.eq_of_beq_eq_true h.1.1.1.1,Nat.eq_of_beq_eq_true h.1.1.1.2,Nat.eq_of_beq_eq_true h.1.1.2,Nat.eq_of_beq_eq_true h.1.2,Nat.eq_of_beq_eq_true h.2]
 ·rw [Nat.eq_of_beq_eq_true h.1.1.1.1,Nat.eq_of_beq_eq_true h.1.1.1.2,Nat.eq_of_beq_eq_true h.1.1.2,Nat.eq_of_beq_eq_true h.1.2,Nat.eq_of_beq_eq_true h.2]
 ·rw [nX _ _ h]
theorem nX:∀ (a b:List LV),oK a b=true→a=b
 | [],[],_=>rfl
 | x::xs,y::ys,h=>by
   simp only [oK,Bool.and_eq_true] at h
   rw [Ox _ _ h.1,nX _ _ h.2]
 | [],_::_,h=>by simp [oK] at h
 | _::_,[],h=>by simp [oK] at h
end
theorem Fl {a b:Option aG} (h:Fm a b=true):a=b:=by
 unfold Fm at h
 split at h <;> (try (cases h; done)) <;> simp only [Bool.and_eq_true,decide_eq_true_eq] at h
 ·rw [h.1,nX _ _ h.2]
 ·rw [h.1.1,Nat.eq_of_beq_eq_true h.1.2,rN _ _ h.2]
 ·rw [h.1.1,Nat.eq_of_beq_eq_true h.1.2,rN _ _ h.2]
theorem cD.acw {P:Program} {G:Nat→Option (List DV)} {k:Nat} {args a_:List LV} {obj:Nat→cG} {base:Nat} {r:LV} {aI ax:List aG} (ρ:List Nat) (keep:Nat→Bool) (hT:bu P G k a_ aI r ax) (ha:ag obj ρ [] args a_) (hnd:ρ.Nodup) (ho:ρ.map obj=aI.map (fun ob=>cG.live (fq (bC ρ base) ob))) (hid:aI.all (dW ρ.length)=true) (hle:aI.length≤ax.length)
  (hkeep:∀ (i o:Nat),ρ[i]? = some o→keep o=false→ax[i]? = aI[i]?) :
  cD P G k args obj base { r:=rn (bC ρ base) r,rd:=ρ,wr:=(ρ.zip (ax.map (fq (bC ρ base)))).filter fun p=>keep p.1,nw:=(ax.drop ρ.length).map (fq (bC ρ base)) }:=
 ⟨⟨ρ,[],false,a_,aI,r,ax,keep,hkeep,hnd,(fun _ h=>by cases h),(fun _ h=>by cases h),by have:=congrArg List.length ho; simpa using this.symm,(fun i o hi=>by
   have h1:(ρ.map obj)[i]? = some (obj o):=by rw [List.getElem?_map,hi]; rfl
   rw [ho,List.getElem?_map] at h1
   cases hf:aI[i]? with
   | none=>rw [hf] at h1; cases h1
   | some ob=>rw [hf] at h1; simp at h1; exact ⟨ob,rfl,h1.symm⟩),hid,ha,(fun h=>by cases h),hle,hT,by simp [gJ]⟩⟩
section
variable {P:Program} {G:Nat→Option (List DV)} {self:Bool→Nat→List LV→List aG→Option (LV×List aG)} {dat ro:Nat→Bool}
 (od:∀ md k as af r aA,self md k as af=some (r,aA)→bu P G k as af r aA)
include od
theorem EC {k:Nat} {as:List LV} {af:List (Option aG)} {e:fC} (h:Jt self dat ro k as af=some e):cD P G k as (aC af) af.length e:=by
 unfold Jt at h
 dsimp only at h
 generalize reach af af.length (ND [] (FM as))=ρ at h
 cases hp:uI af ρ with
 | none=>rw [hp] at h; cases h
 | some obs=>
   rw [hp] at h
   dsimp only at h
   split at h
   ·rename_i hc
    simp only [Bool.and_eq_true] at hc
    obtain ⟨⟨h1,h2⟩,h3⟩:=hc
    split at h
    ·rename_i r ax hs
     split at h
     ·rename_i hle
      cases h
      have hT:=od _ _ _ _ _ _ hs
      rw [List.all_eq_true] at h2
      have g1:ρ.map (aC af)=(obs.map (fq fun o=>ρ.idxOf o)).map (fun ob=>cG.live (fq (bC ρ af.length) ob)):=by
       rw [rS hp,List.map_map]
       refine List.map_congr_left (fun ob e_=>?_)
       simp only [Function.comp,Ka af.length ob (h2 ob e_)]
      have g2:(obs.map (fq fun o=>ρ.idxOf o)).all (dW ρ.length)=true:=by
       rw [List.all_map,List.all_eq_true]
       exact fun ob e_=>KH ob (h2 ob e_)
      split
      ·refine cD.acw ρ (fun q=>!Fm ax[ρ.idxOf q]? (obs.map (fq fun o=>ρ.idxOf o))[ρ.idxOf q]?) hT (mD _ as h1) (qT ρ h3) g1 g2 (by simpa using hle) (fun i o hi hk=>?_)
       have hidx:ρ.idxOf o=i:=by
        have hlt:=(List.getElem?_eq_some_iff.1 hi).1
        obtain ⟨_,rfl⟩:=List.getElem?_eq_some_iff.1 hi
        exact (qT ρ h3).idxOf_getElem i hlt
       simp only [Bool.not_eq_false',hidx] at hk
       exact Fl hk
      ·exact cD.hand ρ hT (mD _ as h1) (qT ρ h3) g1 g2 (by simpa using hle)
     ·cases h
    ·cases h
   ·cases h
theorem wX {Y:YO} {X:Value→fC→St→Prop} {o:en} {env:List (Nat×LV)} {af:List (Option aG)} {e:fC} {K:St→fC→Prop} (h:doI G self dat ro o.op env af=some e) (hK:K ⟨ei o.dst e.r env,fU e.wr af++e.nw.map some⟩ e):y9 P G Y X o ⟨env,af⟩ K:=by
 have Bz:K (St.app ⟨env,af⟩ o.dst e) e:=hK
 unfold y9
 unfold doI at h
 cases hi:o.op with
 | call f args=>
   rw [hi] at h
   dsimp only at h ⊢
   split at h
   ·rename_i k fs cs hc
    have wM:callee (f.ev G (St.get ⟨env,af⟩))=some (k,fs,cs):=hc
    rw [wM]
    dsimp only
    exact .inl ⟨e,EC od h,Bz⟩
   ·cases h
 | _=>
   rw [hi] at h
   dsimp only at h ⊢
   have h2:=h
   change cO G (St.get ⟨env,af⟩) (St.obj ⟨env,af⟩) af.length _=some e at h2
   rw [h2]
   exact Bz
def yA (gG:NL) (Y:YO):Prop:=∀ as af ys ys' b aA (K':LV→Bool→List (Option aG)→Prop),gG as af ys=some (ys',b,aA)→K' ys' b aA→Y as af ys K'
omit od in
theorem yA.no:yA Ii rV:=fun _ _ _ _ _ _ _ h=>by cases h
theorem Da {gG:NL} {Y:YO} (hr:yA gG Y) {X:Value→fC→St→Prop} {o:en} {env env':List (Nat×LV)} {af aA:List (Option aG)} {K:St→Prop} (h:do1 G self dat ro gG o env af=some (env',aA)) (hK:K ⟨env',aA⟩):y9 P G Y X o ⟨env,af⟩ (fun s _=>K s):=by
 unfold do1 at h
 split at h
 ·rename_i e he
  cases h
  exact wX od he hK
 ·split at h
  ·rename_i ys b o1 hy
   cases h
   unfold doY at hy
   split at hy
   ·rename_i f args hop
    split at hy
    ·cases hy
    ·rename_i jy
     split at hy
     ·rename_i oy eo
      unfold y9
      rw [hop]
      dsimp only
      have wM:callee (f.ev G (St.get ⟨env,af⟩))=none:=jy
      rw [wM]
      dsimp only
      unfold vcY
      have adB:f.ev G (St.get ⟨env,af⟩)=.yl oy:=eo
      rw [adB]
      exact hr _ _ _ _ _ _ _ hy hK
     ·cases hy
   ·cases hy
  ·cases h
theorem jq {gG:NL} {Y:YO} (hr:yA gG Y) {X:Value→St→Prop} : ∀ (ops:List en) (env:List (Nat×LV)) (af:List (Option aG)) {env':List (Nat×LV)} {aA:List (Option aG)} {K:St→Prop},tj G self dat ro gG ops env af=some (env',aA)→K ⟨env',aA⟩→gK P G Y X ops ⟨env,af⟩ K
 | [],env,af,env',aA,K,h,hK=>by
   cases h
   exact hK
 | o::os,env,af,env',aA,K,h,hK=>by
   unfold tj at h
   unfold gK y8
   split at h
   ·rename_i hg
    rw [hg]
    dsimp only
    split at h
    ·rename_i e1 o1 he
     exact Da od hr (K:=fun s=>gK P G Y X os s K) he (jq hr os _ _ h hK)
    ·cases h
   ·rename_i g want hg
    rw [hg]
    dsimp only
    have mh:St.get ⟨env,af⟩ g=aY env g:=rfl
    rw [mh]
    split at h
    ·rename_i b hb
     rw [hb]
     dsimp only
     split at h
     ·rename_i hbw
      rw [if_pos hbw]
      split at h
      ·rename_i e1 o1 he
       exact Da od hr (K:=fun s=>gK P G Y X os s K) he (jq hr os _ _ h hK)
      ·cases h
     ·rename_i hbw
      rw [if_neg hbw]
      exact jq hr os _ _ h hK
    ·rename_i b hb
     rw [hb]
     exact jq hr os _ _ h hK
    ·cases h
theorem iH {X:Value→St→Prop} : ∀ (ops:List en) (env:List (Nat×LV)) (af:List (Option aG)) (log:List iV) {env':List (Nat×LV)} {aA:List (Option aG)} {K:St→Prop},mR G self dat ro ops env af log=some (env',aA)→K ⟨env',aA⟩→eX P G X ops ⟨env,af⟩ log (fun s log=>indep log=true∧K s)
 | [],env,af,log,env',aA,K,h,hK=>by
   unfold mR at h
   split at h
   ·rename_i hi
    cases h
    exact ⟨hi,hK⟩
   ·cases h
 | o::os,env,af,log,env',aA,K,h,hK=>by
   unfold mR at h
   unfold eX y8
   have hl:(St.af ⟨env,af⟩).length=af.length:=rfl
   split at h
   ·rename_i hg
    rw [hg]
    dsimp only
    split at h
    ·rename_i e he
     refine wX od he ?_
     dsimp only at hl ⊢
     rw [hl]
     exact iH os _ _ _ h hK
    ·cases h
   ·rename_i g want hg
    rw [hg]
    dsimp only
    have mh:St.get ⟨env,af⟩ g=aY env g:=rfl
    rw [mh]
    split at h
    ·rename_i b hb
     rw [hb]
     dsimp only
     split at h
     ·rename_i hbw
      rw [if_pos hbw]
      split at h
      ·rename_i e he
       refine wX od he ?_
       dsimp only at hl ⊢
       rw [hl]
       exact iH os _ _ _ h hK
      ·cases h
     ·rename_i hbw
      rw [if_neg hbw]
      exact iH os _ _ _ h hK
    ·rename_i b hb
     rw [hb]
     exact iH os _ _ _ h hK
    ·cases h
end
def abj (K:xm) (out:Out) (s:St):Prop:=match out with
 | .n=>K.n s
 | .x i=>K.x i s
 | .r=>K.r s
theorem Cb:∀ (env:List (Nat×LV)) (acc:List Nat) (t:Nat),(t∈acc∨∃ v,(t,v)∈env)→t∈slots env acc
 | [],acc,t,h=>by
   rcases h with h | ⟨v,h⟩
   ·exact h
   ·cases h
 | (k,v)::r,acc,t,h=>by
   unfold slots
   refine Cb r _ t ?_
   rcases h with h | ⟨u,h⟩
   ·left
    split
    ·exact h
    ·exact List.mem_append_left _ h
   ·rcases List.mem_cons.1 h with h | h
    ·left
     cases h
     split
     ·rename_i hc; exact List.contains_iff_mem.1 hc
     ·exact List.mem_append_right _ (by simp)
    ·exact .inr ⟨u,h⟩
theorem CW:∀ (env:List (Nat×LV)) (t:Nat),(∀ v,(t,v)∉env)→aY env t=.top
 | [],_,_=>rfl
 | (k,v)::r,t,h=>by
   unfold aY
   by_cases hk:k=t
   ·subst hk; exact absurd (List.mem_cons_self) (h v)
   ·rw [if_neg hk]
    exact CW r t (fun u hu=>h u (List.mem_cons_of_mem _ hu))
theorem MQ (env:List (Nat×LV)):aY (xL env)=aY env:=by
 funext t
 unfold xL
 by_cases ht:t∈slots env []
 ·have:=mj (aY env) (slots env []) t
  rw [if_pos ht] at this
  exact this
 ·have h1:aY env t=.top:=CW env t (fun v hv=>ht (Cb env [] t (.inr ⟨v,hv⟩)))
  have:=mj (aY env) (slots env []) t
  rw [if_neg ht] at this
  rw [this,h1]
theorem EO.norm {G:Nat→Option (List DV)} (m:Nat) (env:List (Nat×LV)) (o:List (Option aG)):EO G m ⟨env,o⟩ ⟨xL env,o⟩:=by
 intro D N bx J0 cu w0 a w _ h
 have e:St.get ⟨xL env,o⟩=St.get ⟨env,o⟩:=MQ env
 unfold oD at h ⊢
 rw [e]
 exact h
section
variable {P:Program} {G:Nat→Option (List DV)} {self:Bool→Nat→List LV→List aG→Option (LV×List aG)} {pP:Nat→List LV→List (Option aG)→NL→Option (LV×List (Option aG))} {dat ro:Nat→Bool}
 (od:∀ md k as af r aA,self md k as af=some (r,aA)→bu P G k as af r aA)
 (Qg:∀ k as af gG Y yv aA,yA gG Y→pP k as af gG=some (yv,aA)→He P G k as af Y (fun y o=>y=yv∧o=aA))
include od Qg
theorem dI (L:Nat):∀ (c:C) (gG:NL) (env:List (Nat×LV)) (af:List (Option aG)) {out:Out} {env':List (Nat×LV)} {aA:List (Option aG)} {K:xm},yA gG K.y→jM G self pP dat ro L c gG env af=some (out,env',aA)→abj K out ⟨env',aA⟩→vc P G c ⟨env,af⟩ K
 | .skip,gG,env,af,out,env',aA,K,hr,h,hK=>by
   cases h
   exact hK
 | .pZ ops,gG,env,af,out,env',aA,K,hr,h,hK=>by
   unfold jM at h
   split at h
   ·rename_i e1 o1 hx
    cases h
    exact jq od hr ops env af hx hK
   ·cases h
 | .lS ops,gG,env,af,out,env',aA,K,hr,h,hK=>by
   unfold jM at h
   split at h
   ·rename_i e1 o1 hx
    cases h
    exact iH od ops env af [] (K:=K.n) hx hK
   ·cases h
 | .seq a b,gG,env,af,out,env',aA,K,hr,h,hK=>by
   unfold jM at h
   unfold vc
   split at h
   ·rename_i e1 o1 hx
    exact dI L a gG env af (K:={ K with n:=fun s'=>vc P G b s' K }) hr hx (dI L b gG e1 o1 hr h hK)
   ·rename_i hn
    refine dI L a gG env af (K:={ K with n:=fun s'=>vc P G b s' K }) hr h ?_
    cases out with
    | n=>exact absurd h (hn _ _)
    | x i=>exact hK
    | r=>exact hK
 | .cond c a b,gG,env,af,out,env',aA,K,hr,h,hK=>by
   unfold jM at h
   unfold vc
   have mh:St.get ⟨env,af⟩=aY env:=rfl
   rw [mh]
   split at h
   ·rename_i t ht
    rw [ht]
    dsimp only
    split at h
    ·rename_i h1
     rw [if_pos h1]
     exact dI L a gG env af hr h hK
    ·rename_i h1
     rw [if_neg h1]
     exact dI L b gG env af hr h hK
   ·cases h
 | .block i b,gG,env,af,out,env',aA,K,hr,h,hK=>by
   unfold jM at h
   unfold vc
   split at h
   ·rename_i j e1 o1 hx
    cases h
    refine dI L b gG env af (K:={ K with x:=fun j s'=>if j=i then K.n s' else K.x j s' }) hr hx ?_
    unfold abj at hK ⊢
    dsimp only
    by_cases hj:j=i
    ·rw [if_pos hj]; rw [if_pos hj] at hK; exact hK
    ·rw [if_neg hj]; rw [if_neg hj] at hK; exact hK
   ·rename_i hn
    refine dI L b gG env af (K:={ K with x:=fun j s'=>if j=i then K.n s' else K.x j s' }) hr h ?_
    cases out with
    | n=>exact hK
    | x j=>exact absurd h (hn _ _ _)
    | r=>exact hK
 | .loop b,gG,env,af,out,env',aA,K,hr,h,hK=>by
   unfold jM at h
   unfold vc
   refine ⟨slots env [],fun k s=>∃ e o,s=⟨e,o⟩∧iter (jM G self pP dat ro L b gG) k e o=some (out,env',aA),L,[],⟨xL env,af,rfl,h⟩,?_⟩
   rintro k s' ⟨e,o,rfl,hi⟩
   cases k with
   | zero=>cases hi
   | succ k=>
     unfold iter at hi
     split at hi
     ·rename_i e1 o1 hx
      refine dI L b gG e o (K:={ K with n:=_ }) hr hx ?_
      exact ⟨k,Nat.lt_succ_self k,_,⟨xL e1,o1,rfl,hi⟩,EO.norm _ _ _⟩
     ·rename_i hn
      refine dI L b gG e o (K:={ K with n:=_ }) hr hi ?_
      cases out with
      | n=>exact absurd hi (hn _ _)
      | x i=>exact hK
      | r=>exact hK
 | .exit i,gG,env,af,out,env',aA,K,hr,h,hK=>by
   cases h
   exact hK
 | .ret,gG,env,af,out,env',aA,K,hr,h,hK=>by
   cases h
   exact hK
 | .scope b,gG,env,af,out,env',aA,K,hr,h,hK=>by
   unfold jM at h
   unfold vc
   exact dI L b gG env af hr h hK
 | .Zz g ps a b,gG,env,af,out,env',aA,K,hr,h,hK=>by
   unfold jM at h
   unfold vc
   split at h
   ·rename_i k fs cs jy
    have acq:callee (g.ev G (St.get ⟨env,af⟩))=some (k,fs,cs):=jy
    rw [acq]
    dsimp only
    have key:∀ jm:Option Nat,zH jm env (pP k (fs++[.yl af.length]++cs) (af++[none]) (Fv (jM G self pP dat ro L a Ii) (jM G self pP dat ro L b Ii) jm ps env af.length))=some (out,env',aA)→
      ∃ (R:LV→List (Option aG)→Prop),He P G k (fs++[.yl af.length]++cs) (af++[none]) (qH P G jm ps a b ⟨env,af⟩) R∧
        ∀ yv Ac,R yv Ac→(yv=jr∧K.n ⟨env,Ac⟩)∨(yv=kz∧match jm with | some i=>i≠ij∧K.x i ⟨env,Ac⟩ | none=>K.r ⟨env,Ac⟩):=by
     intro jm hj
     cases hs:pP k (fs++[.yl af.length]++cs) (af++[none]) (Fv (jM G self pP dat ro L a Ii) (jM G self pP dat ro L b Ii) jm ps env af.length) with
     | none=>rw [hs] at hj; simp [zH] at hj
     | some p=>
       obtain ⟨yv,o⟩:=p
       rw [hs] at hj
       refine ⟨_,Qg _ _ _ _ (qH P G jm ps a b ⟨env,af⟩) _ _ ?_ hs,?_⟩
       ·intro as adZ ys ys' bb adY K' hrd Bz
        unfold Fv at hrd
        split at hrd
        ·rename_i q as'
         split at hrd
         ·rename_i hc
          obtain ⟨hq,hR,hlen⟩:=hc
          have hys:=PI hR
          subst hq
          refine ⟨hys,rfl,hlen,?_⟩
          split at hrd
          ·rename_i e1 o1 hx
           refine dI L a Ii _ _ (K:=⟨_,_,_,rV,none⟩) yA.no hx ?_
           show vc P G b _ _
           split at hrd
           ·rename_i e2 o2 hx2
            cases hrd
            exact dI L b Ii _ _ (K:=⟨_,_,_,rV,none⟩) yA.no hx2 Bz
           ·rename_i i e2 o2 hx2
            split at hrd
            ·rename_i hij
             cases hrd
             exact dI L b Ii _ _ (K:=⟨_,_,_,rV,none⟩) yA.no hx2 ⟨hij.1,hij.2,Bz⟩
            ·cases hrd
           ·rename_i e2 o2 hx2
            split at hrd
            ·rename_i hij
             cases hrd
             exact dI L b Ii _ _ (K:=⟨_,_,_,rV,none⟩) yA.no hx2 ⟨hij,Bz⟩
            ·cases hrd
           ·cases hrd
          ·cases hrd
         ·cases hrd
        ·cases hrd
       ·rintro yv' Ac ⟨rfl,rfl⟩
        unfold zH at hj
        dsimp only at hj
        split at hj
        ·rename_i h1
         cases hj
         exact .inl ⟨PI h1,hK⟩
        ·split at hj
         ·rename_i h1
          refine .inr ⟨MD h1,?_⟩
          cases jm with
          | none=>dsimp only at hj ⊢; cases hj; exact hK
          | some i=>
            dsimp only at hj ⊢
            split at hj
            ·rename_i hi
             cases hj; exact ⟨hi,hK⟩
            ·cases hj
         ·cases hj
    split at h
    ·rename_i r IN
     cases h
     obtain ⟨R,h1,h2⟩:=key none IN
     exact ⟨none,R,h1,h2⟩
    ·obtain ⟨R,h1,h2⟩:=key (some 0) h
     exact ⟨some 0,R,h1,h2⟩
   ·cases h
end
section
variable {ρ Z:List Nat} {k:Nat}
mutual
theorem ee (h:∀ o,o<k→ρ[o]? = some o) (obj:Nat→cG):∀ (x:LV),eN k x=true→ah obj ρ Z x x
 | .top,_=>by simp [ah]
 | .dV,_=>by simp [ah]
 | .d x,_=>by simp [ah]
 | .ptr o c,hx=>by simp only [eN,decide_eq_true_eq] at hx; simp only [ah,h o hx,and_self]
 | .rp o n e r c,hx=>by simp only [eN,decide_eq_true_eq] at hx; simp only [ah,h o hx,and_self]
 | .ip ..,_=>by simp [ah]
 | .sl o n e l m,hx=>by simp only [eN,decide_eq_true_eq] at hx; simp only [ah,h o hx,and_self]
 | .fn f x y,hx=>by
   simp only [eN,Bool.and_eq_true] at hx
   simp only [ah,true_and]
   exact ⟨mE h obj x hx.1,mE h obj y hx.2⟩
 | .agg cs,hx=>by
   simp only [eN] at hx
   simp only [ah]
   exact mE h obj cs hx
 | .dM cs,hx=>by
   simp only [eN] at hx
   simp only [ah]
   exact mE h obj cs hx
 | .gd t v,hx=>by
   simp only [eN] at hx
   simp only [ah,true_and]
   exact ee h obj v hx
 | .yl o,hx=>by simp only [eN,decide_eq_true_eq] at hx; simp only [ah,h o hx]
 | .mr o,hx=>by simp only [eN,decide_eq_true_eq] at hx; simp only [ah,h o hx]
theorem mE (h:∀ o,o<k→ρ[o]? = some o) (obj:Nat→cG):∀ (xs:List LV),eE k xs=true→ag obj ρ Z xs xs
 | [],_=>by simp [ag]
 | x::xs,hx=>by
   simp only [eE,Bool.and_eq_true] at hx
   simp only [ag]
   exact ⟨ee h obj x hx.1,mE h obj xs hx.2⟩
end
end
mutual
theorem B0 {af:List (Option aG)} {k:Nat} {Z:List Nat} (hZ:∀ o e rows,k≤o→xD af o=some (e,rows)→o∈Z):∀ (x:LV),eN k (jF k af x)=true→ah (aC af) (List.range k) Z x (jF k af x)
 | .sl o n e l m,h=>by
   unfold jF at h ⊢
   split at h
   ·rename_i hk
    rw [if_pos hk]
    split at h
    ·rename_i e0 rows hrow
     split at h
     ·rename_i hc
      rw [if_pos hc]
      obtain ⟨rfl,rfl,h4⟩:=hc
      simp only [ah,true_and]
      have hz:=hZ _ _ _ hk hrow
      unfold xD at hrow
      unfold bK aC
      split at hrow
      ·rename_i heq; rw [heq]; cases hrow; exact ⟨hz,rfl,rfl,h4,rfl⟩
      ·rename_i heq; rw [heq]; cases hrow; exact ⟨hz,rfl,rfl,h4,rfl⟩
      ·cases hrow
     ·rename_i hc
      rw [if_neg hc]
      exact ee (fun o h=>eH h) _ _ h
    ·exact ee (fun o h=>eH h) _ _ h
   ·rename_i hk
    rw [if_neg hk]
    exact ee (fun o h=>eH h) _ _ h
 | .dM vs,h=>by
   unfold jF at h ⊢
   simp only [eN] at h
   simp only [ah]
   exact zj hZ vs h
 | .top,h=>by unfold jF at h ⊢; exact ee (fun o h=>eH h) _ _ h
 | .dV,h=>by unfold jF at h ⊢; exact ee (fun o h=>eH h) _ _ h
 | .d x,h=>by unfold jF at h ⊢; exact ee (fun o h=>eH h) _ _ h
 | .ptr o c,h=>by unfold jF at h ⊢; exact ee (fun o h=>eH h) _ _ h
 | .rp o n e r c,h=>by unfold jF at h ⊢; exact ee (fun o h=>eH h) _ _ h
 | .ip r c,h=>by unfold jF at h ⊢; exact ee (fun o h=>eH h) _ _ h
 | .fn f a b,h=>by unfold jF at h ⊢; exact ee (fun o h=>eH h) _ _ h
 | .agg cs,h=>by unfold jF at h ⊢; exact ee (fun o h=>eH h) _ _ h
 | .gd t v,h=>by unfold jF at h ⊢; exact ee (fun o h=>eH h) _ _ h
 | .yl o,h=>by unfold jF at h ⊢; exact ee (fun o h=>eH h) _ _ h
 | .mr o,h=>by unfold jF at h ⊢; exact ee (fun o h=>eH h) _ _ h
theorem zj {af:List (Option aG)} {k:Nat} {Z:List Nat} (hZ:∀ o e rows,k≤o→xD af o=some (e,rows)→o∈Z):∀ (xs:List LV),eE k (vW k af xs)=true→ag (aC af) (List.range k) Z xs (vW k af xs)
 | [],_=>by simp [vW,ag]
 | x::xs,h=>by
   unfold vW at h ⊢
   simp only [eE,Bool.and_eq_true] at h
   simp only [ag]
   exact ⟨B0 hZ x h.1,zj hZ xs h.2⟩
end
theorem MW {rv:List RV} {md:Bool} {k:Nat} {af:List (Option aG)} {env:List (Nat×LV)} {vs:List LV} {r:LV} {aA:List aG} (hvs:yB.of ⟨env,af⟩ rv=some vs) (h:aaH md k (aV vs) af=some (r,aA)):sE rv k r aA ⟨env,af⟩:=by
 unfold aaH at h
 split at h
 ·split at h
  ·rename_i obs hp
   split at h
   ·rename_i hc
    cases h
    obtain ⟨h1,h2⟩:=hc
    refine ⟨[],vs,List.range k,(List.range af.length).filter fun o=>decide (k≤o)&&(xD af o).isSome,hvs,?_,List.nodup_range,(fun z hz=>?_),(fun z hz=>?_),?_,fun i o hi=>?_,?_,B0 (fun o e rows hk hrow=>?_) _ h1⟩
    ·rw [List.take_range,Nat.min_self]
    ·simp at hz; simp; omega
    ·simp only [List.mem_filter,Bool.and_eq_true,decide_eq_true_eq] at hz
     have KJ:=hz.2.2
     show ∃ et e rows,aC af z=_∨aC af z=_
     unfold xD at KJ
     unfold aC
     split at KJ
     ·rename_i a b c heq; rw [heq]; exact ⟨_,_,_,.inl rfl⟩
     ·rename_i a b c heq; rw [heq]; exact ⟨_,_,_,.inr rfl⟩
     ·cases KJ
    ·have:=Cn hp; simpa using this
    ·obtain ⟨ob,e_,hl⟩:=Co hp i o hi
     refine ⟨ob,e_,?_⟩
     rw [List.all_eq_true] at h2
     have hk:i<k:=by
      have:=(List.getElem?_eq_some_iff.1 hi).1
      simpa using this
     rw [DM (fun o h=>tA h) _ (h2 _ (List.mem_of_getElem? e_))]
     exact hl
    ·rw [List.length_range]; exact h2
    ·simp only [List.mem_filter,Bool.and_eq_true,decide_eq_true_eq,List.mem_range]
     have KN:xD af o=some (e,rows):=hrow
     refine ⟨?_,hk,by rw [KN]; rfl⟩
     unfold xD at KN
     rcases Nat.lt_or_ge o af.length with h3 | h3
     ·exact h3
     ·rw [List.getElem?_eq_none h3] at KN; cases KN
   ·cases h
  ·cases h
 ·dsimp only at h
  generalize reach af af.length (ND (List.range k) (nms (aV vs)))=ρ at h
  split at h
  ·rename_i obs hp
   split at h
   ·rename_i hc
    simp only [Bool.and_eq_true] at hc
    obtain ⟨⟨⟨h1,h2⟩,h3⟩,h4⟩:=hc
    cases h
    rw [List.all_eq_true] at h4
    refine ⟨[],vs,ρ,[],hvs,KU _ _ h1,qT ρ h2,(fun z hz=>by cases hz),(fun z hz=>by cases hz),by simpa using Cn hp,fun i o hi=>?_,?_,EJ _ _ h3⟩
    ·obtain ⟨ob,e_,hl⟩:=Co hp i o hi
     refine ⟨fq (fun o=>ρ.idxOf o) ob,by rw [List.getElem?_map,e_]; rfl,?_⟩
     rw [Ka 0 ob (h4 ob (List.mem_of_getElem? e_))]
     exact hl
    ·rw [List.all_map,List.all_eq_true]
     exact fun ob e_=>KH ob (h4 ob e_)
   ·cases h
  ·cases h
theorem zF {P:Program} {G:Nat→Option (List DV)} {T:Tab} (hh:∀ f md args af r aA,T.hand f md args af=some (r,aA)→bu P G f args af r aA)
  (hir:∀ f ir,T.ir f=some ir→∃ fn,P.funcs[f]? = some fn∧(fn.name != "runtime.NumGoroutine")=true∧aj P fn=some ir) (L:Nat) :
  ∀ (d:Nat),(∀ (md:Bool) (f:Nat) (args:List LV) (af:List aG) (r:LV) (aA:List aG),sA G T L d md f args af=some (r,aA)→bu P G f args af r aA)∧
    (∀ k as af gG Y yv aA,yA gG Y→Oz G T L d k as af gG=some (yv,aA)→He P G k as af Y (fun y o=>y=yv∧o=aA))
 | 0=>⟨(fun md f args af r aA h=>by unfold sA at h; cases h),(fun k as af gG Y yv aA _ h=>by unfold Oz at h; cases h)⟩
 | d+1=>by
   obtain ⟨ihF,ihI⟩:=zF hh hir L d
   refine ⟨fun md f args af r aA h=>?_,fun k as af gG Y yv aA hr h=>?_⟩
   ·unfold sA at h
    split at h
    ·rename_i p hp
     cases h
     exact hh _ _ _ _ _ _ hp
    ·split at h
     ·rename_i N c rv hi
      obtain ⟨fn,hf,hn,gR⟩:=hir _ _ hi
      split at h
      ·rename_i hl
       split at h
       ·cases h
       ·rename_i out env o1 hx hrun
        split at h
        ·rename_i vs hvs
         refine zh hf (by simpa using hn) gR hl (dI ihF ihI L c Ii _ _ (K:=⟨_,_,_,rV,none⟩) yA.no hrun ?_)
         have hb:=MW hvs h
         cases hx2:out with
         | n=>exact hb
         | x i=>exact (hx i hx2).elim
         | r=>exact hb
        ·cases h
       ·cases h
      ·cases h
     ·cases h
   ·unfold Oz at h
    split at h
    ·rename_i N c rv hi
     obtain ⟨fn,hf,hn,gR⟩:=hir _ _ hi
     split at h
     ·rename_i hl
      obtain ⟨⟨hl,IT⟩,MF⟩:=hl
      split at h
      ·cases h
      ·rename_i out env o1 hx hrun
       cases h
       refine Ks hf (by simpa using hn) gR hl IT (dI ihF ihI L c gG _ _ (K:=⟨_,_,_,Y,none⟩) hr hrun ?_)
       cases hx2:out with
       | n=>exact ⟨⟨rfl,rfl⟩,MF⟩
       | x i=>exact (hx i hx2).elim
       | r=>exact ⟨⟨rfl,rfl⟩,MF⟩
      ·cases h
     ·cases h
    ·cases h
theorem HN {P:Program} {G:Nat→Option (List DV)} {T:Tab} (hh:∀ f md args af r aA,T.hand f md args af=some (r,aA)→bu P G f args af r aA)
  (hir:∀ f ir,T.ir f=some ir→∃ fn,P.funcs[f]? = some fn∧(fn.name != "runtime.NumGoroutine")=true∧aj P fn=some ir) (L d:Nat) (md:Bool) (f:Nat) (args:List LV) (af:List aG) (r:LV) (aA:List aG) (h:sA G T L d md f args af=some (r,aA)):bu P G f args af r aA:=
 (zF hh hir L d).1 md f args af r aA h
def oc (P:Program) (f:Nat):Option (Nat×C×List RV):=match P.funcs[f]? with
 | some fn=>if (fn.name != "runtime.NumGoroutine")=true then aj P fn else none
 | none=>none
theorem PJ {P:Program} (f:Nat) (ir:Nat×C×List RV) (h:oc P f=some ir):∃ fn,P.funcs[f]? = some fn∧(fn.name != "runtime.NumGoroutine")=true∧aj P fn=some ir:=by
 unfold oc at h
 split at h
 ·rename_i fn hf
  split at h
  ·rename_i hn
   exact ⟨fn,hf,hn,h⟩
  ·cases h
 ·cases h
end Dv
