/- The logical machine: part V24. -/
import Derived.Test.YtkalnfkokkjliaaGreatDoorVD
import Derived.Test.YtkalnfkokkjliaaGreatDoorVD
set_option linter.unusedVariables false
set_option linter.unusedSimpArgs false
namespace Dv
open Go
inductive Out where
 | n
 | x (i:Nat)
 | r
structure Tab where
 ir:Nat→Option (Nat×C×List RV)
 hand:Nat→Bool→List LV→List aG→Option (LV×List aG)
 dat:Nat→Nat→Bool
 ro:Nat→Nat→Bool
mutual
def qV (ρ:List Nat):LV→Bool
 | .top=>true
 | .dW=>true
 | .d _=>true
 | .ptr o _=>ρ.contains o
 | .rp o _ _ _ _=>ρ.contains o
 | .ip _ _=>true
 | .sl o _ _ _ _=>ρ.contains o
 | .fn _ a b=>vm ρ a&&vm ρ b
 | .agg cs=>vm ρ cs
 | .dM vs=>vm ρ vs
 | .gp _ v=>qV ρ v
 | .yl _=>false
 | .mr o=>ρ.contains o
def vm (ρ:List Nat):List LV→Bool
 | []=>true
 | x::xs=>qV ρ x&&vm ρ xs
end
def Yx (ρ:List Nat):aG→Bool
 | .box _ cells=>vm ρ cells
 | .mp es=>es.all fun p=>qV ρ p.2
 | _=>true
mutual
def Y6:LV→List Nat
 | .ptr o _=>[o]
 | .mr o=>[o]
 | .rp o _ _ _ _=>[o]
 | .sl o _ _ _ _=>[o]
 | .fn _ a b=>Ea a++Ea b
 | .agg cs=>Ea cs
 | .dM vs=>Ea vs
 | .gp _ v=>Y6 v
 | _=>[]
def Ea:List LV→List Nat
 | []=>[]
 | x::xs=>Y6 x++Ea xs
end
def abn:aG→List Nat
 | .box _ cells=>Ea cells
 | .mp es=>es.flatMap fun p=>Y6 p.2
 | _=>[]
def Lp (l:List Nat):List Nat→List Nat
 | []=>l
 | x::xs=>Lp (if l.contains x then l else l++[x]) xs
def reach (ag:List (Option aG)):Nat→List Nat→List Nat
 | 0,ρ=>ρ
 | n+1,ρ=>
   let ρ':=Lp ρ (ρ.flatMap fun o=>match ag[o]? with | some (some ob)=>abn ob | _=>[])
   if ρ'.length=ρ.length then ρ else reach ag n ρ'
def tG (ag:List (Option aG)):List Nat→Option (List aG)
 | []=>some []
 | o::r=>match ag[o]?,tG ag r with
   | some (some ob),some l=>some (ob::l)
   | _,_=>none
def slots:List (Nat×LV)→List Nat→List Nat
 | [],acc=>acc
 | (k,_)::r,acc=>slots r (if acc.contains k then acc else acc++[k])
def vV (env:List (Nat×LV)):List (Nat×LV):=(slots env []).map fun t=>(t,aO env t)
def nodupB:List Nat→Bool
 | []=>true
 | x::xs=>!xs.contains x&&nodupB xs
def isR:LV→Bool
 | .d (.val (.tuple a))=>a.size==0
 | _=>false
def isLeft:LV→Bool
 | .dM []=>true
 | _=>false
abbrev RES:=Option (Out×List (Nat×LV)×List (Option aG))
abbrev Ls:=List LV→List (Option aG)→LV→Option (LV×Bool×List (Option aG))
def Gc:Ls:=fun _ _ _=>none
def DI (ra rb:List (Nat×LV)→List (Option aG)→RES) (jm:Option Nat) (ps:List Nat) (env:List (Nat×LV)) (oy:Nat):Ls:=fun as ag ys=>match as with
 | .yl q::as=>if q=oy∧isR ys=true∧as.length=ps.length then (match ra (rZ ps as env) ag with
   | some (.n,e1,o1)=>(match rb e1 o1 with
     | some (.n,_,o)=>some (jH,true,o)
     | some (.x i,_,o)=>if i≠iq∧jm=some i then some (kg,false,o) else none
     | some (.r,_,o)=>if jm=none then some (kg,false,o) else none
     | none=>none)
   | _=>none) else none
 | _=>none
def Ma:Value→Value→Bool
 | .int k n,.int k' n'=>decide (k=k')&&decide (n=n')
 | .bool a,.bool b=>decide (a=b)
 | .string a,.string b=>decide (a=b)
 | .pointer none,.pointer none=>true
 | .slice none n c,.slice none n' c'=>Nat.beq n n'&&Nat.beq c c'
 | .nilFunc,.nilFunc=>true
 | _,_=>false
mutual
def pH:DV→DV→Bool
 | .val a,.val b=>Ma a b
 | .dN e rows,.dN e' TC=>Nat.beq e e'&&pF rows TC
 | .agg a,.agg b=>sw a b
 | _,_=>false
def sw:List DV→List DV→Bool
 | [],[]=>true
 | x::xs,y::ys=>pH x y&&sw xs ys
 | _,_=>false
def pF:List (List DV)→List (List DV)→Bool
 | [],[]=>true
 | x::xs,y::ys=>sw x y&&pF xs ys
 | _,_=>false
end
mutual
def HD:LV→LV→Bool
 | .top,.top=>true
 | .d x,.d y=>pH x y
 | .ptr o c,.ptr o' c'=>Nat.beq o o'&&Nat.beq c c'
 | .sl o n e l k,.sl o' n' e' l' k'=>Nat.beq o o'&&Nat.beq n n'&&Nat.beq e e'&&Nat.beq l l'&&Nat.beq k k'
 | .rp o n e l k,.rp o' n' e' l' k'=>Nat.beq o o'&&Nat.beq n n'&&Nat.beq e e'&&Nat.beq l l'&&Nat.beq k k'
 | .agg a,.agg b=>pG a b
 | _,_=>false
def pG:List LV→List LV→Bool
 | [],[]=>true
 | x::xs,y::ys=>HD x y&&pG xs ys
 | _,_=>false
end
def DA:Option aG→Option aG→Bool
 | some (.box t a),some (.box t' b)=>decide (t=t')&&pG a b
 | some (.dat t e a),some (.dat t' e' b)=>decide (t=t')&&Nat.beq e e'&&pF a b
 | some (.kU t e a),some (.kU t' e' b)=>decide (t=t')&&Nat.beq e e'&&pF a b
 | _,_=>false
section
variable (G:Nat→Option (List DV)) (self:Bool→Nat→List LV→List aG→Option (LV×List aG)) (oF:Nat→List LV→List (Option aG)→Ls→Option (LV×List (Option aG))) (dat ro:Nat→Bool)
def GV (k:Nat) (as:List LV) (ag:List (Option aG)):Option fA:=
 let ρ:=reach ag ag.length (Lp [] (Ea as))
 match tG ag ρ with
 | some obs=>
   if vm ρ as&&obs.all (Yx ρ)&&nodupB ρ then
    match self (dat k) k (m_ (fun o=>ρ.idxOf o) as) (obs.map (fC fun o=>ρ.idxOf o)) with
    | some (r,aA)=>if obs.length≤aA.length then
      some { r:=rn (bE ρ ag.length) r,rd:=ρ,wr:=(if ro k=true then (ρ.zip (aA.map (fC (bE ρ ag.length)))).filter fun p=>!DA aA[ρ.idxOf p.1]? (obs.map (fC fun o=>ρ.idxOf o))[ρ.idxOf p.1]? else ρ.zip (aA.map (fC (bE ρ ag.length)))),nw:=(aA.drop ρ.length).map (fC (bE ρ ag.length)) } else none
    | none=>none
   else none
 | none=>none
def doI (i:I) (env:List (Nat×LV)) (ag:List (Option aG)):Option fA:=
 match i with
 | .call f args=>match callee (f.ev G (aO env)) with
   | some (k,fs,cs)=>GV self dat ro k (fs++args.map (·.ev G (aO env))++cs) ag
   | none=>none
 | i=>cR G (aO env) (ay ag) ag.length i
def doY (gK:Ls) (i:I) (env:List (Nat×LV)) (ag:List (Option aG)):Option (LV×Bool×List (Option aG)):=
 match i with
 | .call f args=>match callee (f.ev G (aO env)) with
   | some _=>none
   | none=>match f.ev G (aO env) with
     | .yl oy=>gK (.yl oy::args.map (·.ev G (aO env))) ag (aO env YS)
     | _=>none
 | _=>none
def do1 (gK:Ls) (o:eo) (env:List (Nat×LV)) (ag:List (Option aG)):Option (List (Nat×LV)×List (Option aG)):=
 match doI G self dat ro o.op env ag with
 | some e=>some (ej o.dst e.r env,ga e.wr ag++e.nw.map some)
 | none=>match doY G gK o.op env ag with
   | some (ys,b,aC)=>some (ej o.dst (.bool b) ((YS,ys)::env),aC)
   | none=>none
def sx (gK:Ls):List eo→List (Nat×LV)→List (Option aG)→Option (List (Nat×LV)×List (Option aG))
 | [],env,ag=>some (env,ag)
 | o::os,env,ag=>
   match o.guard with
   | none=>(match do1 G self dat ro gK o env ag with
     | some (env',aC)=>sx gK os env' aC
     | none=>none)
   | some (g,want)=>match aO env g with
     | .d (.val (.bool b))=>if b=want then (match do1 G self dat ro gK o env ag with
       | some (env',aC)=>sx gK os env' aC
       | none=>none) else sx gK os (ej o.dst .undef env) ag
     | .d (.val (.tuple _))=>sx gK os (ej o.dst .undef env) ag
     | _=>none
def mu:List eo→List (Nat×LV)→List (Option aG)→List iS→Option (List (Nat×LV)×List (Option aG))
 | [],env,ag,log=>if indep log=true then some (env,ag) else none
 | o::os,env,ag,log=>
   match o.guard with
   | none=>(match doI G self dat ro o.op env ag with
     | some e=>mu os (ej o.dst e.r env) (ga e.wr ag++e.nw.map some) (log++[⟨o.pre,e.rd,(e.owned ag.length).map (·.1)⟩])
     | none=>none)
   | some (g,want)=>match aO env g with
     | .d (.val (.bool b))=>if b=want then (match doI G self dat ro o.op env ag with
       | some e=>mu os (ej o.dst e.r env) (ga e.wr ag++e.nw.map some) (log++[⟨o.pre,e.rd,(e.owned ag.length).map (·.1)⟩])
       | none=>none) else mu os (ej o.dst .undef env) ag (log++[⟨o.pre,[],[]⟩])
     | .d (.val (.tuple _))=>mu os (ej o.dst .undef env) ag (log++[⟨o.pre,[],[]⟩])
     | _=>none
def iter (f:List (Nat×LV)→List (Option aG)→RES):Nat→List (Nat×LV)→List (Option aG)→RES
 | 0,_,_=>none
 | n+1,env,ag=>match f env ag with
   | some (.n,env',aC)=>iter f n (vV env') aC
   | r=>r
def yc (jm:Option Nat) (env:List (Nat×LV)):Option (LV×List (Option aG))→RES
 | some (yv,o)=>if isR yv=true then some (.n,env,o) else if isLeft yv=true then (match jm with
   | some i=>if i≠iq then some (.x i,env,o) else none
   | none=>some (.r,env,o)) else none
 | none=>none
def jG (L:Nat):C→Ls→List (Nat×LV)→List (Option aG)→RES
 | .skip,gK,env,ag=>some (.n,env,ag)
 | .kH ops,gK,env,ag=>match sx G self dat ro gK ops env ag with
   | some (env',aC)=>some (.n,env',aC)
   | none=>none
 | .sC ops,gK,env,ag=>match mu G self dat ro ops env ag [] with
   | some (env',aC)=>some (.n,env',aC)
   | none=>none
 | .seq a b,gK,env,ag=>match jG L a gK env ag with
   | some (.n,env',aC)=>jG L b gK env' aC
   | r=>r
 | .cond c a b,gK,env,ag=>match c.ev G (aO env) with
   | .d (.val (.bool t))=>if t=true then jG L a gK env ag else jG L b gK env ag
   | _=>none
 | .block i b,gK,env,ag=>match jG L b gK env ag with
   | some (.x j,env',aC)=>some (if j=i then .n else .x j,env',aC)
   | r=>r
 | .loop b,gK,env,ag=>iter (jG L b gK) L (vV env) ag
 | .exit i,gK,env,ag=>some (.x i,env,ag)
 | .ret,gK,env,ag=>some (.r,env,ag)
 | .scope b,gK,env,ag=>jG L b gK env ag
 | .Wz g ps a b,gK,env,ag=>match callee (g.ev G (aO env)) with
   | some (k,fs,cs)=>(match yc none env (oF k (fs++[.yl ag.length]++cs) (ag++[none]) (DI (jG L a Gc) (jG L b Gc) none ps env ag.length)) with
     | some r=>some r
     | none=>yc (some 0) env (oF k (fs++[.yl ag.length]++cs) (ag++[none]) (DI (jG L a Gc) (jG L b Gc) (some 0) ps env ag.length)))
   | none=>none
end
def vM (ag:List (Option aG)) (o:Nat):Option (Nat×List (List DV)):=match ag[o]? with
 | some (some (.dat _ e rows))=>some (e,rows)
 | some (some (.kU _ e rows))=>some (e,rows)
 | _=>none
mutual
def jD (k:Nat) (ag:List (Option aG)):LV→LV
 | .sl o n e lo len=>if k≤o then (match vM ag o with
   | some (e0,rows)=>if e=e0∧n=rows.length∧lo+len≤rows.length then .d (.dN e ((rows.drop lo).take len)) else .sl o n e lo len
   | none=>.sl o n e lo len) else .sl o n e lo len
 | .dM vs=>.dM (uS k ag vs)
 | x=>x
def uS (k:Nat) (ag:List (Option aG)):List LV→List LV
 | []=>[]
 | x::xs=>jD k ag x::uS k ag xs
end
def KK:List Nat→List Nat→Bool
 | [],[]=>true
 | x::xs,y::ys=>Nat.beq x y&&KK xs ys
 | _,_=>false
def Ya (md:Bool) (k:Nat) (r:LV) (ag:List (Option aG)):Option (LV×List aG):=
 if md=true then (match tG ag (List.range k) with
  | some obs=>if eU k (jD k ag r)=true∧obs.all (dQ k)=true then some (jD k ag r,obs) else none
  | none=>none)
 else let ρ:=reach ag ag.length (Lp (List.range k) (Y6 r))
  match tG ag ρ with
  | some obs=>if (KK (ρ.take k) (List.range k)&&nodupB ρ&&qV ρ r&&obs.all (Yx ρ))=true then some (rn (fun o=>ρ.idxOf o) r,obs.map (fC fun o=>ρ.idxOf o)) else none
  | none=>none
mutual
def sy (G:Nat→Option (List DV)) (T:Tab) (L:Nat):Nat→Bool→Nat→List LV→List aG→Option (LV×List aG)
 | 0,_,_,_,_=>none
 | d+1,md,f,args,ag=>match T.hand f md args ag with
   | some r=>some r
   | none=>match T.ir f with
     | some (N,c,rv)=>if args.length≤N then (match jG G (sy G T L d) (Md G T L d) (T.dat f) (T.ro f) L c Gc (fc 0 args) (ag.map some) with
       | some (.x _,_,_)=>none
       | some (_,env,aC)=>(match uH.of ⟨env,aC⟩ rv with
         | some vs=>Ya md ag.length (aF vs) aC
         | none=>none)
       | none=>none) else none
     | none=>none
def Md (G:Nat→Option (List DV)) (T:Tab) (L:Nat):Nat→Nat→List LV→List (Option aG)→Ls→Option (LV×List (Option aG))
 | 0,_,_,_,_=>none
 | d+1,f,args,ag,gK=>match T.ir f with
   | some (N,c,rv)=>if (args.length≤N∧j9 c=true)∧rv=[] then (match jG G (sy G T L d) (Md G T L d) (T.dat f) (T.ro f) L c gK ((YS,jH)::fc 0 args) ag with
     | some (.x _,_,_)=>none
     | some (_,env,aC)=>some (aO env YS,aC)
     | none=>none) else none
   | none=>none
end
theorem tZ {ρ:List Nat} {o:Nat} (h:o∈ρ):ρ[ρ.idxOf o]? = some o:=by
 have hl:=List.idxOf_lt_length_of_mem h
 rw [List.getElem?_eq_getElem hl,List.getElem_idxOf hl]
theorem Cu {ρ:List Nat} {o:Nat} (b:Nat) (h:o∈ρ):bE ρ b (ρ.idxOf o)=o:=by
 unfold bE; rw [tZ h]
section
variable {ρ:List Nat}
mutual
theorem FX (b:Nat):∀ (x:LV),qV ρ x=true→rn (bE ρ b) (rn (fun o=>ρ.idxOf o) x)=x
 | .top,_=>rfl
 | .dW,_=>rfl
 | .d x,_=>rfl
 | .ptr o c,h=>by simp only [qV,List.contains_iff_mem] at h; simp only [rn,Cu b h]
 | .rp o n e r c,h=>by simp only [qV,List.contains_iff_mem] at h; simp only [rn,Cu b h]
 | .ip ..,_=>rfl
 | .sl o n e l m,h=>by simp only [qV,List.contains_iff_mem] at h; simp only [rn,Cu b h]
 | .fn f x y,h=>by
   simp only [qV,Bool.and_eq_true] at h
   simp only [rn,qL b x h.1,qL b y h.2]
 | .agg cs,h=>by
   simp only [qV] at h
   simp only [rn,qL b cs h]
 | .dM cs,h=>by
   simp only [qV] at h
   simp only [rn,qL b cs h]
 | .gp t v,h=>by
   simp only [qV] at h
   simp only [rn,FX b v h]
 | .yl _,h=>by simp [qV] at h
 | .mr o,h=>by simp only [qV,List.contains_iff_mem] at h; simp only [rn,Cu b h]
theorem qL (b:Nat):∀ (xs:List LV),vm ρ xs=true→m_ (bE ρ b) (m_ (fun o=>ρ.idxOf o) xs)=xs
 | [],_=>rfl
 | x::xs,h=>by
   simp only [vm,Bool.and_eq_true] at h
   simp only [m_,FX b x h.1,qL b xs h.2]
end
theorem HG (b:Nat) (ob:aG) (h:Yx ρ ob=true):fC (bE ρ b) (fC (fun o=>ρ.idxOf o) ob)=ob:=by
 cases ob with
 | box et cells=>simp only [fC]; rw [qL b cells h]
 | mp es=>
   simp only [Yx,List.all_eq_true] at h
   simp only [fC,aG.mp.injEq,List.map_map]
   conv=>rhs; rw [← List.map_id es]
   exact List.map_congr_left fun p hp=>by simp [FX b p.2 (h p hp)]
 | _=>rfl
mutual
theorem Gs:∀ (x:LV),qV ρ x=true→eU ρ.length (rn (fun o=>ρ.idxOf o) x)=true
 | .top,_=>rfl
 | .dW,_=>rfl
 | .d x,_=>rfl
 | .ptr o c,h=>by simp only [qV,List.contains_iff_mem] at h; simpa only [rn,eU,decide_eq_true_eq] using List.idxOf_lt_length_of_mem h
 | .rp o n e r c,h=>by simp only [qV,List.contains_iff_mem] at h; simpa only [rn,eU,decide_eq_true_eq] using List.idxOf_lt_length_of_mem h
 | .ip ..,_=>rfl
 | .sl o n e l m,h=>by simp only [qV,List.contains_iff_mem] at h; simpa only [rn,eU,decide_eq_true_eq] using List.idxOf_lt_length_of_mem h
 | .fn f x y,h=>by
   simp only [qV,Bool.and_eq_true] at h
   simp only [rn,eU,qW x h.1,qW y h.2,Bool.and_self]
 | .agg cs,h=>by
   simp only [qV] at h
   simp only [rn,eU,qW cs h]
 | .dM cs,h=>by
   simp only [qV] at h
   simp only [rn,eU,qW cs h]
 | .gp t v,h=>by
   simp only [qV] at h
   simp only [rn,eU,Gs v h]
 | .yl _,h=>by simp [qV] at h
 | .mr o,h=>by simp only [qV,List.contains_iff_mem] at h; simpa only [rn,eU,decide_eq_true_eq] using List.idxOf_lt_length_of_mem h
theorem qW:∀ (xs:List LV),vm ρ xs=true→eX ρ.length (m_ (fun o=>ρ.idxOf o) xs)=true
 | [],_=>rfl
 | x::xs,h=>by
   simp only [vm,Bool.and_eq_true] at h
   simp only [m_,eX,Gs x h.1,qW xs h.2,Bool.and_self]
end
theorem Ii (ob:aG) (h:Yx ρ ob=true):dQ ρ.length (fC (fun o=>ρ.idxOf o) ob)=true:=by
 cases ob with
 | box et cells=>exact qW cells h
 | mp es=>
   simp only [Yx,List.all_eq_true] at h
   simp only [fC,dQ,List.all_map,List.all_eq_true]
   exact fun p hp=>Gs p.2 (h p hp)
 | _=>rfl
mutual
theorem C8 (obj:Nat→cW):∀ (x:LV),qV ρ x=true→ah obj ρ [] x (rn (fun o=>ρ.idxOf o) x)
 | .top,_=>by simp [rn,ah]
 | .dW,_=>by simp [rn,ah]
 | .d x,_=>by simp [rn,ah]
 | .ptr o c,h=>by simp only [qV,List.contains_iff_mem] at h; simp only [rn,ah,tZ h,and_self]
 | .rp o n e r c,h=>by simp only [qV,List.contains_iff_mem] at h; simp only [rn,ah,tZ h,and_self]
 | .ip ..,_=>by simp [rn,ah]
 | .sl o n e l m,h=>by simp only [qV,List.contains_iff_mem] at h; simp only [rn,ah,tZ h,and_self]
 | .fn f x y,h=>by
   simp only [qV,Bool.and_eq_true] at h
   simp only [rn,ah,true_and]
   exact ⟨lY obj x h.1,lY obj y h.2⟩
 | .agg cs,h=>by
   simp only [qV] at h
   simp only [rn,ah]
   exact lY obj cs h
 | .dM cs,h=>by
   simp only [qV] at h
   simp only [rn,ah]
   exact lY obj cs h
 | .gp t v,h=>by
   simp only [qV] at h
   simp only [rn,ah,true_and]
   exact C8 obj v h
 | .yl _,h=>by simp [qV] at h
 | .mr o,h=>by simp only [qV,List.contains_iff_mem] at h; simp only [rn,ah,tZ h]
theorem lY (obj:Nat→cW):∀ (xs:List LV),vm ρ xs=true→aa obj ρ [] xs (m_ (fun o=>ρ.idxOf o) xs)
 | [],_=>by simp [m_,aa]
 | x::xs,h=>by
   simp only [vm,Bool.and_eq_true] at h
   simp only [m_,aa]
   exact ⟨C8 obj x h.1,lY obj xs h.2⟩
end
end
theorem pW:∀ (l:List Nat),nodupB l=true→l.Nodup
 | [],_=>List.nodup_nil
 | x::xs,h=>by
   simp only [nodupB,Bool.and_eq_true,Bool.not_eq_true',List.contains_eq_mem,decide_eq_false_iff_not] at h
   exact List.nodup_cons.2 ⟨h.1,pW xs h.2⟩
theorem ID:∀ (l m:List Nat),KK l m=true→l=m
 | [],[],_=>rfl
 | x::xs,y::ys,h=>by
   simp only [KK,Bool.and_eq_true] at h
   rw [Nat.eq_of_beq_eq_true h.1,ID xs ys h.2]
 | [],_::_,h=>by simp [KK] at h
 | _::_,[],h=>by simp [KK] at h
theorem MQ {x:LV} (h:isR x=true):x=jH:=by
 unfold isR at h
 split at h
 ·rename_i a
  have:a=#[]:=by
   apply Array.eq_empty_of_size_eq_zero
   simpa using h
  subst this; rfl
 ·cases h
theorem Kf {x:LV} (h:isLeft x=true):x=kg:=by
 unfold isLeft at h
 split at h
 ·rfl
 ·cases h
theorem qP {ag:List (Option aG)} : ∀ {ρ:List Nat} {obs:List aG},tG ag ρ=some obs→ρ.map (ay ag)=obs.map cW.live
 | [],obs,h=>by cases h; rfl
 | o::r,obs,h=>by
   simp only [tG] at h
   split at h
   ·rename_i ob l h1 h2
    cases h
    rw [List.map_cons,List.map_cons,qP h2]
    congr 1
    simp [ay,h1]
   ·cases h
theorem AK {ag:List (Option aG)} {ρ:List Nat} {obs:List aG} (h:tG ag ρ=some obs) (i o:Nat) (hi:ρ[i]? = some o):∃ ob,obs[i]? = some ob∧ay ag o=.live ob:=by
 have h1:=congrArg (fun l=>l[i]?) (qP h)
 simp only [List.getElem?_map,hi,Option.map_some] at h1
 cases e_:obs[i]? with
 | none=>rw [e_] at h1; cases h1
 | some ob=>rw [e_] at h1; exact ⟨ob,rfl,Option.some.inj h1⟩
theorem AJ {ag:List (Option aG)} {ρ:List Nat} {obs:List aG} (h:tG ag ρ=some obs):obs.length=ρ.length:=by
 have:=congrArg List.length (qP h)
 simpa using this.symm
theorem L_:∀ (a b:Value),Ma a b=true→a=b:=by
 intro a b h
 unfold Ma at h
 split at h <;> (try (cases h; done)) <;> simp only [Bool.and_eq_true,decide_eq_true_eq] at h
 ·rw [h.1,h.2]
 ·rw [h]
 ·rw [h]
 ·rfl
 ·rw [Nat.eq_of_beq_eq_true h.1,Nat.eq_of_beq_eq_true h.2]
 ·rfl
mutual
theorem DB:∀ (a b:DV),pH a b=true→a=b
 | .val a,.val b,h=>by simp only [pH] at h; rw [L_ _ _ h]
 | .dN e rows,.dN e' TC,h=>by
   simp only [pH,Bool.and_eq_true] at h
   rw [Nat.eq_of_beq_eq_true h.1,qJ _ _ h.2]
 | .agg a,.agg b,h=>by simp only [pH] at h; rw [uX _ _ h]
 | .val _,.dN ..,h | .val _,.fn ..,h | .val _,.gp ..,h | .val _,.agg _,h=>by simp [pH] at h
 | .dN ..,.val _,h | .dN ..,.fn ..,h | .dN ..,.gp ..,h | .dN ..,.agg _,h=>by simp [pH] at h
 | .agg _,.val _,h | .agg _,.fn ..,h | .agg _,.gp ..,h | .agg _,.dN ..,h=>by simp [pH] at h
 | .fn ..,_,h=>by simp [pH] at h
 | .gp ..,_,h=>by simp [pH] at h
theorem uX:∀ (a b:List DV),sw a b=true→a=b
 | [],[],_=>rfl
 | x::xs,y::ys,h=>by
   simp only [sw,Bool.and_eq_true] at h
   rw [DB _ _ h.1,uX _ _ h.2]
 | [],_::_,h=>by simp [sw] at h
 | _::_,[],h=>by simp [sw] at h
theorem qJ:∀ (a b:List (List DV)),pF a b=true→a=b
 | [],[],_=>rfl
 | x::xs,y::ys,h=>by
   simp only [pF,Bool.and_eq_true] at h
   rw [uX _ _ h.1,qJ _ _ h.2]
 | [],_::_,h=>by simp [pF] at h
 | _::_,[],h=>by simp [pF] at h
end
mutual
theorem Mb:∀ (a b:LV),HD a b=true→a=b:=by
 intro a b h
 cases a <;> cases b <;> (try (simp [HD] at h; done)) <;> simp only [HD,Bool.and_eq_true] at h
 ·rfl
 ·rw [DB _ _ h]
 ·rw [Nat.eq_of_beq_eq_true h.1,Nat.eq_of_beq_eq_true h.2]
 ·rw [Nat.eq_of_beq_eq_true h.1.1.1.1,Nat.eq_of_beq_eq_true h.1.1.1.2,Nat.eq_of_beq_eq_true h.1.1.2,Nat.eq_of_beq_eq_true h.1.2,Nat.eq_of_beq_eq_true h.2]
 ·rw [Nat.eq_of_beq_eq_true h.1.1.1.1,Nat.eq_of_beq_eq_true h.1.1.1.2,Nat.eq_of_beq_eq_true h.1.1.2,Nat.eq_of_beq_eq_true h.1.2,Nat.eq_of_beq_eq_true h.2]
 ·rw [qK _ _ h]
theorem qK:∀ (a b:List LV),pG a b=true→a=b
 | [],[],_=>rfl
 | x::xs,y::ys,h=>by
   simp only [pG,Bool.and_eq_true] at h
   rw [Mb _ _ h.1,qK _ _ h.2]
 | [],_::_,h=>by simp [pG] at h
 | _::_,[],h=>by simp [pG] at h
end
theorem Dz {a b:Option aG} (h:DA a b=true):a=b:=by
 unfold DA at h
 split at h <;> (try (cases h; done)) <;> simp only [Bool.and_eq_true,decide_eq_true_eq] at h
 ·rw [h.1,qK _ _ h.2]
 ·rw [h.1.1,Nat.eq_of_beq_eq_true h.1.2,qJ _ _ h.2]
 ·rw [h.1.1,Nat.eq_of_beq_eq_true h.1.2,qJ _ _ h.2]
theorem cF.aaE {P:Program} {G:Nat→Option (List DV)} {k:Nat} {args bh:List LV} {obj:Nat→cW} {base:Nat} {r:LV} {aH aA:List aG} (ρ:List Nat) (keep:Nat→Bool) (hT:br P G k bh aH r aA) (ha:aa obj ρ [] args bh) (hnd:ρ.Nodup) (ho:ρ.map obj=aH.map (fun ob=>cW.live (fC (bE ρ base) ob))) (hid:aH.all (dQ ρ.length)=true) (hle:aH.length≤aA.length)
  (hkeep:∀ (i o:Nat),ρ[i]? = some o→keep o=false→aA[i]? = aH[i]?) :
  cF P G k args obj base { r:=rn (bE ρ base) r,rd:=ρ,wr:=(ρ.zip (aA.map (fC (bE ρ base)))).filter fun p=>keep p.1,nw:=(aA.drop ρ.length).map (fC (bE ρ base)) }:=
 ⟨⟨ρ,[],false,bh,aH,r,aA,keep,hkeep,hnd,(fun _ h=>by cases h),(fun _ h=>by cases h),by have:=congrArg List.length ho; simpa using this.symm,(fun i o hi=>by
   have h1:(ρ.map obj)[i]? = some (obj o):=by rw [List.getElem?_map,hi]; rfl
   rw [ho,List.getElem?_map] at h1
   cases hf:aH[i]? with
   | none=>rw [hf] at h1; cases h1
   | some ob=>rw [hf] at h1; simp at h1; exact ⟨ob,rfl,h1.symm⟩),hid,ha,(fun h=>by cases h),hle,hT,by simp [gE]⟩⟩
section
variable {P:Program} {G:Nat→Option (List DV)} {self:Bool→Nat→List LV→List aG→Option (LV×List aG)} {dat ro:Nat→Bool}
 (nD:∀ md k as ag r aC,self md k as ag=some (r,aC)→br P G k as ag r aC)
include nD
theorem CM {k:Nat} {as:List LV} {ag:List (Option aG)} {e:fA} (h:GV self dat ro k as ag=some e):cF P G k as (ay ag) ag.length e:=by
 unfold GV at h
 dsimp only at h
 generalize reach ag ag.length (Lp [] (Ea as))=ρ at h
 cases hp:tG ag ρ with
 | none=>rw [hp] at h; cases h
 | some obs=>
   rw [hp] at h
   dsimp only at h
   split at h
   ·rename_i hc
    simp only [Bool.and_eq_true] at hc
    obtain ⟨⟨h1,h2⟩,h3⟩:=hc
    split at h
    ·rename_i r aA hs
     split at h
     ·rename_i hle
      cases h
      have hT:=nD _ _ _ _ _ _ hs
      rw [List.all_eq_true] at h2
      have g1:ρ.map (ay ag)=(obs.map (fC fun o=>ρ.idxOf o)).map (fun ob=>cW.live (fC (bE ρ ag.length) ob)):=by
       rw [qP hp,List.map_map]
       refine List.map_congr_left (fun ob e_=>?_)
       simp only [Function.comp,HG ag.length ob (h2 ob e_)]
      have g2:(obs.map (fC fun o=>ρ.idxOf o)).all (dQ ρ.length)=true:=by
       rw [List.all_map,List.all_eq_true]
       exact fun ob e_=>Ii ob (h2 ob e_)
      split
      ·refine cF.aaE ρ (fun q=>!DA aA[ρ.idxOf q]? (obs.map (fC fun o=>ρ.idxOf o))[ρ.idxOf q]?) hT (lY _ as h1) (pW ρ h3) g1 g2 (by simpa using hle) (fun i o hi hk=>?_)
       have hidx:ρ.idxOf o=i:=by
        have hlt:=(List.getElem?_eq_some_iff.1 hi).1
        obtain ⟨_,rfl⟩:=List.getElem?_eq_some_iff.1 hi
        exact (pW ρ h3).idxOf_getElem i hlt
       simp only [Bool.not_eq_false',hidx] at hk
       exact Dz hk
      ·exact cF.hand ρ hT (lY _ as h1) (pW ρ h3) g1 g2 (by simpa using hle)
     ·cases h
    ·cases h
   ·cases h
theorem vA {Y:YO} {X:Value→fA→St→Prop} {o:eo} {env:List (Nat×LV)} {ag:List (Option aG)} {e:fA} {K:St→fA→Prop} (h:doI G self dat ro o.op env ag=some e) (hK:K ⟨ej o.dst e.r env,ga e.wr ag++e.nw.map some⟩ e):xE P G Y X o ⟨env,ag⟩ K:=by
 have Fx:K (St.app ⟨env,ag⟩ o.dst e) e:=hK
 unfold xE
 unfold doI at h
 cases hi:o.op with
 | call f args=>
   rw [hi] at h
   dsimp only at h ⊢
   split at h
   ·rename_i k fs cs hc
    have wG:callee (f.ev G (St.get ⟨env,ag⟩))=some (k,fs,cs):=hc
    rw [wG]
    dsimp only
    exact .inl ⟨e,CM nD h,Fx⟩
   ·cases h
 | _=>
   rw [hi] at h
   dsimp only at h ⊢
   have h2:=h
   change cR G (St.get ⟨env,ag⟩) (St.obj ⟨env,ag⟩) ag.length _=some e at h2
   rw [h2]
   exact Fx
def wM (gK:Ls) (Y:YO):Prop:=∀ as ag ys ys' b aC (K':LV→Bool→List (Option aG)→Prop),gK as ag ys=some (ys',b,aC)→K' ys' b aC→Y as ag ys K'
omit nD in
theorem wM.no:wM Gc qS:=fun _ _ _ _ _ _ _ h=>by cases h
theorem Bw {gK:Ls} {Y:YO} (hr:wM gK Y) {X:Value→fA→St→Prop} {o:eo} {env env':List (Nat×LV)} {ag aC:List (Option aG)} {K:St→Prop} (h:do1 G self dat ro gK o env ag=some (env',aC)) (hK:K ⟨env',aC⟩):xE P G Y X o ⟨env,ag⟩ (fun s _=>K s):=by
 unfold do1 at h
 split at h
 ·rename_i e he
  cases h
  exact vA nD he hK
 ·split at h
  ·rename_i ys b o1 hy
   cases h
   unfold doY at hy
   split at hy
   ·rename_i f args hop
    split at hy
    ·cases hy
    ·rename_i jq
     split at hy
     ·rename_i oy eu
      unfold xE
      rw [hop]
      dsimp only
      have wG:callee (f.ev G (St.get ⟨env,ag⟩))=none:=jq
      rw [wG]
      dsimp only
      unfold vcY
      have abV:f.ev G (St.get ⟨env,ag⟩)=.yl oy:=eu
      rw [abV]
      exact hr _ _ _ _ _ _ _ hy hK
     ·cases hy
   ·cases hy
  ·cases h
theorem jg {gK:Ls} {Y:YO} (hr:wM gK Y) {X:Value→St→Prop} : ∀ (ops:List eo) (env:List (Nat×LV)) (ag:List (Option aG)) {env':List (Nat×LV)} {aC:List (Option aG)} {K:St→Prop},sx G self dat ro gK ops env ag=some (env',aC)→K ⟨env',aC⟩→gO P G Y X ops ⟨env,ag⟩ K
 | [],env,ag,env',aC,K,h,hK=>by
   cases h
   exact hK
 | o::os,env,ag,env',aC,K,h,hK=>by
   unfold sx at h
   unfold gO xD
   split at h
   ·rename_i hg
    rw [hg]
    dsimp only
    split at h
    ·rename_i e1 o1 he
     exact Bw nD hr (K:=fun s=>gO P G Y X os s K) he (jg hr os _ _ h hK)
    ·cases h
   ·rename_i g want hg
    rw [hg]
    dsimp only
    have og:St.get ⟨env,ag⟩ g=aO env g:=rfl
    rw [og]
    split at h
    ·rename_i b hb
     rw [hb]
     dsimp only
     split at h
     ·rename_i LF
      rw [if_pos LF]
      split at h
      ·rename_i e1 o1 he
       exact Bw nD hr (K:=fun s=>gO P G Y X os s K) he (jg hr os _ _ h hK)
      ·cases h
     ·rename_i LF
      rw [if_neg LF]
      exact jg hr os _ _ h hK
    ·rename_i b hb
     rw [hb]
     exact jg hr os _ _ h hK
    ·cases h
theorem iD {X:Value→St→Prop} : ∀ (ops:List eo) (env:List (Nat×LV)) (ag:List (Option aG)) (log:List iS) {env':List (Nat×LV)} {aC:List (Option aG)} {K:St→Prop},mu G self dat ro ops env ag log=some (env',aC)→K ⟨env',aC⟩→e6 P G X ops ⟨env,ag⟩ log (fun s log=>indep log=true∧K s)
 | [],env,ag,log,env',aC,K,h,hK=>by
   unfold mu at h
   split at h
   ·rename_i hi
    cases h
    exact ⟨hi,hK⟩
   ·cases h
 | o::os,env,ag,log,env',aC,K,h,hK=>by
   unfold mu at h
   unfold e6 xD
   have hl:(St.ag ⟨env,ag⟩).length=ag.length:=rfl
   split at h
   ·rename_i hg
    rw [hg]
    dsimp only
    split at h
    ·rename_i e he
     refine vA nD he ?_
     dsimp only at hl ⊢
     rw [hl]
     exact iD os _ _ _ h hK
    ·cases h
   ·rename_i g want hg
    rw [hg]
    dsimp only
    have og:St.get ⟨env,ag⟩ g=aO env g:=rfl
    rw [og]
    split at h
    ·rename_i b hb
     rw [hb]
     dsimp only
     split at h
     ·rename_i LF
      rw [if_pos LF]
      split at h
      ·rename_i e he
       refine vA nD he ?_
       dsimp only at hl ⊢
       rw [hl]
       exact iD os _ _ _ h hK
      ·cases h
     ·rename_i LF
      rw [if_neg LF]
      exact iD os _ _ _ h hK
    ·rename_i b hb
     rw [hb]
     exact iD os _ _ _ h hK
    ·cases h
end
def Zb (K:wN) (out:Out) (s:St):Prop:=match out with
 | .n=>K.n s
 | .x i=>K.x i s
 | .r=>K.r s
theorem Av:∀ (env:List (Nat×LV)) (acc:List Nat) (t:Nat),(t∈acc∨∃ v,(t,v)∈env)→t∈slots env acc
 | [],acc,t,h=>by
   rcases h with h | ⟨v,h⟩
   ·exact h
   ·cases h
 | (k,v)::r,acc,t,h=>by
   unfold slots
   refine Av r _ t ?_
   rcases h with h | ⟨u,h⟩
   ·left
    split
    ·exact h
    ·exact List.mem_append_left _ h
   ·rcases List.mem_cons.1 h with h | h
    ·left
     cases h
     split
     ·rename_i hc; exact List.contains_iff_mem.1 hc
     ·exact List.mem_append_right _ (by simp)
    ·exact .inr ⟨u,h⟩
theorem Bn:∀ (env:List (Nat×LV)) (t:Nat),(∀ v,(t,v)∉env)→aO env t=.top
 | [],_,_=>rfl
 | (k,v)::r,t,h=>by
   unfold aO
   by_cases hk:k=t
   ·subst hk; exact absurd (List.mem_cons_self) (h v)
   ·rw [if_neg hk]
    exact Bn r t (fun u hu=>h u (List.mem_cons_of_mem _ hu))
theorem KB (env:List (Nat×LV)):aO (vV env)=aO env:=by
 funext t
 unfold vV
 by_cases ht:t∈slots env []
 ·have:=lW (aO env) (slots env []) t
  rw [if_pos ht] at this
  exact this
 ·have h1:aO env t=.top:=Bn env t (fun v hv=>ht (Av env [] t (.inr ⟨v,hv⟩)))
  have:=lW (aO env) (slots env []) t
  rw [if_neg ht] at this
  rw [this,h1]
theorem Da.norm {G:Nat→Option (List DV)} (m:Nat) (env:List (Nat×LV)) (o:List (Option aG)):Da G m ⟨env,o⟩ ⟨vV env,o⟩:=by
 intro D N bF J0 cI w0 a w _ h
 have e:St.get ⟨vV env,o⟩=St.get ⟨env,o⟩:=KB env
 unfold oS at h ⊢
 rw [e]
 exact h
section
variable {P:Program} {G:Nat→Option (List DV)} {self:Bool→Nat→List LV→List aG→Option (LV×List aG)} {oF:Nat→List LV→List (Option aG)→Ls→Option (LV×List (Option aG))} {dat ro:Nat→Bool}
 (nD:∀ md k as ag r aC,self md k as ag=some (r,aC)→br P G k as ag r aC)
 (Ni:∀ k as ag gK Y yv aC,wM gK Y→oF k as ag gK=some (yv,aC)→Ft P G k as ag Y (fun y o=>y=yv∧o=aC))
include nD Ni
theorem dD (L:Nat):∀ (c:C) (gK:Ls) (env:List (Nat×LV)) (ag:List (Option aG)) {out:Out} {env':List (Nat×LV)} {aC:List (Option aG)} {K:wN},wM gK K.y→jG G self oF dat ro L c gK env ag=some (out,env',aC)→Zb K out ⟨env',aC⟩→vc P G c ⟨env,ag⟩ K
 | .skip,gK,env,ag,out,env',aC,K,hr,h,hK=>by
   cases h
   exact hK
 | .kH ops,gK,env,ag,out,env',aC,K,hr,h,hK=>by
   unfold jG at h
   split at h
   ·rename_i e1 o1 hx
    cases h
    exact jg nD hr ops env ag hx hK
   ·cases h
 | .sC ops,gK,env,ag,out,env',aC,K,hr,h,hK=>by
   unfold jG at h
   split at h
   ·rename_i e1 o1 hx
    cases h
    exact iD nD ops env ag [] (K:=K.n) hx hK
   ·cases h
 | .seq a b,gK,env,ag,out,env',aC,K,hr,h,hK=>by
   unfold jG at h
   unfold vc
   split at h
   ·rename_i e1 o1 hx
    exact dD L a gK env ag (K:={ K with n:=fun s'=>vc P G b s' K }) hr hx (dD L b gK e1 o1 hr h hK)
   ·rename_i hn
    refine dD L a gK env ag (K:={ K with n:=fun s'=>vc P G b s' K }) hr h ?_
    cases out with
    | n=>exact absurd h (hn _ _)
    | x i=>exact hK
    | r=>exact hK
 | .cond c a b,gK,env,ag,out,env',aC,K,hr,h,hK=>by
   unfold jG at h
   unfold vc
   have og:St.get ⟨env,ag⟩=aO env:=rfl
   rw [og]
   split at h
   ·rename_i t ht
    rw [ht]
    dsimp only
    split at h
    ·rename_i h1
     rw [if_pos h1]
     exact dD L a gK env ag hr h hK
    ·rename_i h1
     rw [if_neg h1]
     exact dD L b gK env ag hr h hK
   ·cases h
 | .block i b,gK,env,ag,out,env',aC,K,hr,h,hK=>by
   unfold jG at h
   unfold vc
   split at h
   ·rename_i j e1 o1 hx
    cases h
    refine dD L b gK env ag (K:={ K with x:=fun j s'=>if j=i then K.n s' else K.x j s' }) hr hx ?_
    unfold Zb at hK ⊢
    dsimp only
    by_cases hj:j=i
    ·rw [if_pos hj]; rw [if_pos hj] at hK; exact hK
    ·rw [if_neg hj]; rw [if_neg hj] at hK; exact hK
   ·rename_i hn
    refine dD L b gK env ag (K:={ K with x:=fun j s'=>if j=i then K.n s' else K.x j s' }) hr h ?_
    cases out with
    | n=>exact hK
    | x j=>exact absurd h (hn _ _ _)
    | r=>exact hK
 | .loop b,gK,env,ag,out,env',aC,K,hr,h,hK=>by
   unfold jG at h
   unfold vc
   refine ⟨slots env [],fun k s=>∃ e o,s=⟨e,o⟩∧iter (jG G self oF dat ro L b gK) k e o=some (out,env',aC),L,[],⟨vV env,ag,rfl,h⟩,?_⟩
   rintro k s' ⟨e,o,rfl,hi⟩
   cases k with
   | zero=>cases hi
   | succ k=>
     unfold iter at hi
     split at hi
     ·rename_i e1 o1 hx
      refine dD L b gK e o (K:={ K with n:=_ }) hr hx ?_
      exact ⟨k,Nat.lt_succ_self k,_,⟨vV e1,o1,rfl,hi⟩,Da.norm _ _ _⟩
     ·rename_i hn
      refine dD L b gK e o (K:={ K with n:=_ }) hr hi ?_
      cases out with
      | n=>exact absurd hi (hn _ _)
      | x i=>exact hK
      | r=>exact hK
 | .exit i,gK,env,ag,out,env',aC,K,hr,h,hK=>by
   cases h
   exact hK
 | .ret,gK,env,ag,out,env',aC,K,hr,h,hK=>by
   cases h
   exact hK
 | .scope b,gK,env,ag,out,env',aC,K,hr,h,hK=>by
   unfold jG at h
   unfold vc
   exact dD L b gK env ag hr h hK
 | .Wz g ps a b,gK,env,ag,out,env',aC,K,hr,h,hK=>by
   unfold jG at h
   unfold vc
   split at h
   ·rename_i k fs cs jq
    have aaA:callee (g.ev G (St.get ⟨env,ag⟩))=some (k,fs,cs):=jq
    rw [aaA]
    dsimp only
    have key:∀ jm:Option Nat,yc jm env (oF k (fs++[.yl ag.length]++cs) (ag++[none]) (DI (jG G self oF dat ro L a Gc) (jG G self oF dat ro L b Gc) jm ps env ag.length))=some (out,env',aC)→
      ∃ (R:LV→List (Option aG)→Prop),Ft P G k (fs++[.yl ag.length]++cs) (ag++[none]) (pK P G jm ps a b ⟨env,ag⟩) R∧
        ∀ yv yz,R yv yz→(yv=jH∧K.n ⟨env,yz⟩)∨(yv=kg∧match jm with | some i=>i≠iq∧K.x i ⟨env,yz⟩ | none=>K.r ⟨env,yz⟩):=by
     intro jm hj
     cases hs:oF k (fs++[.yl ag.length]++cs) (ag++[none]) (DI (jG G self oF dat ro L a Gc) (jG G self oF dat ro L b Gc) jm ps env ag.length) with
     | none=>rw [hs] at hj; simp [yc] at hj
     | some p=>
       obtain ⟨yv,o⟩:=p
       rw [hs] at hj
       refine ⟨_,Ni _ _ _ _ (pK P G jm ps a b ⟨env,ag⟩) _ _ ?_ hs,?_⟩
       ·intro as acm ys ys' bb ack K' hrd Fx
        unfold DI at hrd
        split at hrd
        ·rename_i q as'
         split at hrd
         ·rename_i hc
          obtain ⟨hq,hR,hlen⟩:=hc
          have hys:=MQ hR
          subst hq
          refine ⟨hys,rfl,hlen,?_⟩
          split at hrd
          ·rename_i e1 o1 hx
           refine dD L a Gc _ _ (K:=⟨_,_,_,qS,none⟩) wM.no hx ?_
           show vc P G b _ _
           split at hrd
           ·rename_i e2 o2 hx2
            cases hrd
            exact dD L b Gc _ _ (K:=⟨_,_,_,qS,none⟩) wM.no hx2 Fx
           ·rename_i i e2 o2 hx2
            split at hrd
            ·rename_i hij
             cases hrd
             exact dD L b Gc _ _ (K:=⟨_,_,_,qS,none⟩) wM.no hx2 ⟨hij.1,hij.2,Fx⟩
            ·cases hrd
           ·rename_i e2 o2 hx2
            split at hrd
            ·rename_i hij
             cases hrd
             exact dD L b Gc _ _ (K:=⟨_,_,_,qS,none⟩) wM.no hx2 ⟨hij,Fx⟩
            ·cases hrd
           ·cases hrd
          ·cases hrd
         ·cases hrd
        ·cases hrd
       ·rintro yv' yz ⟨rfl,rfl⟩
        unfold yc at hj
        dsimp only at hj
        split at hj
        ·rename_i h1
         cases hj
         exact .inl ⟨MQ h1,hK⟩
        ·split at hj
         ·rename_i h1
          refine .inr ⟨Kf h1,?_⟩
          cases jm with
          | none=>dsimp only at hj ⊢; cases hj; exact hK
          | some i=>
            dsimp only at hj ⊢
            split at hj
            ·rename_i hi
             cases hj; exact ⟨hi,hK⟩
            ·cases hj
         ·cases hj
    split at h
    ·rename_i r vZ
     cases h
     obtain ⟨R,h1,h2⟩:=key none vZ
     exact ⟨none,R,h1,h2⟩
    ·obtain ⟨R,h1,h2⟩:=key (some 0) h
     exact ⟨some 0,R,h1,h2⟩
   ·cases h
end
section
variable {ρ Z:List Nat} {k:Nat}
mutual
theorem ei (h:∀ o,o<k→ρ[o]? = some o) (obj:Nat→cW):∀ (x:LV),eU k x=true→ah obj ρ Z x x
 | .top,_=>by simp [ah]
 | .dW,_=>by simp [ah]
 | .d x,_=>by simp [ah]
 | .ptr o c,hx=>by simp only [eU,decide_eq_true_eq] at hx; simp only [ah,h o hx,and_self]
 | .rp o n e r c,hx=>by simp only [eU,decide_eq_true_eq] at hx; simp only [ah,h o hx,and_self]
 | .ip ..,_=>by simp [ah]
 | .sl o n e l m,hx=>by simp only [eU,decide_eq_true_eq] at hx; simp only [ah,h o hx,and_self]
 | .fn f x y,hx=>by
   simp only [eU,Bool.and_eq_true] at hx
   simp only [ah,true_and]
   exact ⟨lZ h obj x hx.1,lZ h obj y hx.2⟩
 | .agg cs,hx=>by
   simp only [eU] at hx
   simp only [ah]
   exact lZ h obj cs hx
 | .dM cs,hx=>by
   simp only [eU] at hx
   simp only [ah]
   exact lZ h obj cs hx
 | .gp t v,hx=>by
   simp only [eU] at hx
   simp only [ah,true_and]
   exact ei h obj v hx
 | .yl o,hx=>by simp only [eU,decide_eq_true_eq] at hx; simp only [ah,h o hx]
 | .mr o,hx=>by simp only [eU,decide_eq_true_eq] at hx; simp only [ah,h o hx]
theorem lZ (h:∀ o,o<k→ρ[o]? = some o) (obj:Nat→cW):∀ (xs:List LV),eX k xs=true→aa obj ρ Z xs xs
 | [],_=>by simp [aa]
 | x::xs,hx=>by
   simp only [eX,Bool.and_eq_true] at hx
   simp only [aa]
   exact ⟨ei h obj x hx.1,lZ h obj xs hx.2⟩
end
end
mutual
theorem Ap {ag:List (Option aG)} {k:Nat} {Z:List Nat} (hZ:∀ o e rows,k≤o→vM ag o=some (e,rows)→o∈Z):∀ (x:LV),eU k (jD k ag x)=true→ah (ay ag) (List.range k) Z x (jD k ag x)
 | .sl o n e l m,h=>by
   unfold jD at h ⊢
   split at h
   ·rename_i hk
    rw [if_pos hk]
    split at h
    ·rename_i e0 rows hrow
     split at h
     ·rename_i hc
      rw [if_pos hc]
      obtain ⟨rfl,rfl,h4⟩:=hc
      simp only [ah,true_and]
      have hz:=hZ _ _ _ hk hrow
      unfold vM at hrow
      unfold aM ay
      split at hrow
      ·rename_i heq; rw [heq]; cases hrow; exact ⟨hz,rfl,rfl,h4,rfl⟩
      ·rename_i heq; rw [heq]; cases hrow; exact ⟨hz,rfl,rfl,h4,rfl⟩
      ·cases hrow
     ·rename_i hc
      rw [if_neg hc]
      exact ei (fun o h=>eH h) _ _ h
    ·exact ei (fun o h=>eH h) _ _ h
   ·rename_i hk
    rw [if_neg hk]
    exact ei (fun o h=>eH h) _ _ h
 | .dM vs,h=>by
   unfold jD at h ⊢
   simp only [eU] at h
   simp only [ah]
   exact xM hZ vs h
 | .top,h=>by unfold jD at h ⊢; exact ei (fun o h=>eH h) _ _ h
 | .dW,h=>by unfold jD at h ⊢; exact ei (fun o h=>eH h) _ _ h
 | .d x,h=>by unfold jD at h ⊢; exact ei (fun o h=>eH h) _ _ h
 | .ptr o c,h=>by unfold jD at h ⊢; exact ei (fun o h=>eH h) _ _ h
 | .rp o n e r c,h=>by unfold jD at h ⊢; exact ei (fun o h=>eH h) _ _ h
 | .ip r c,h=>by unfold jD at h ⊢; exact ei (fun o h=>eH h) _ _ h
 | .fn f a b,h=>by unfold jD at h ⊢; exact ei (fun o h=>eH h) _ _ h
 | .agg cs,h=>by unfold jD at h ⊢; exact ei (fun o h=>eH h) _ _ h
 | .gp t v,h=>by unfold jD at h ⊢; exact ei (fun o h=>eH h) _ _ h
 | .yl o,h=>by unfold jD at h ⊢; exact ei (fun o h=>eH h) _ _ h
 | .mr o,h=>by unfold jD at h ⊢; exact ei (fun o h=>eH h) _ _ h
theorem xM {ag:List (Option aG)} {k:Nat} {Z:List Nat} (hZ:∀ o e rows,k≤o→vM ag o=some (e,rows)→o∈Z):∀ (xs:List LV),eX k (uS k ag xs)=true→aa (ay ag) (List.range k) Z xs (uS k ag xs)
 | [],_=>by simp [uS,aa]
 | x::xs,h=>by
   unfold uS at h ⊢
   simp only [eX,Bool.and_eq_true] at h
   simp only [aa]
   exact ⟨Ap hZ x h.1,xM hZ xs h.2⟩
end
theorem KH {rv:List RV} {md:Bool} {k:Nat} {ag:List (Option aG)} {env:List (Nat×LV)} {vs:List LV} {r:LV} {aC:List aG} (hvs:uH.of ⟨env,ag⟩ rv=some vs) (h:Ya md k (aF vs) ag=some (r,aC)):rL rv k r aC ⟨env,ag⟩:=by
 unfold Ya at h
 split at h
 ·split at h
  ·rename_i obs hp
   split at h
   ·rename_i hc
    cases h
    obtain ⟨h1,h2⟩:=hc
    refine ⟨[],vs,List.range k,(List.range ag.length).filter fun o=>decide (k≤o)&&(vM ag o).isSome,hvs,?_,List.nodup_range,(fun z hz=>?_),(fun z hz=>?_),?_,fun i o hi=>?_,?_,Ap (fun o e rows hk hrow=>?_) _ h1⟩
    ·rw [List.take_range,Nat.min_self]
    ·simp at hz; simp; omega
    ·simp only [List.mem_filter,Bool.and_eq_true,decide_eq_true_eq] at hz
     have Dc:=hz.2.2
     show ∃ et e rows,ay ag z=_∨ay ag z=_
     unfold vM at Dc
     unfold ay
     split at Dc
     ·rename_i a b c heq; rw [heq]; exact ⟨_,_,_,.inl rfl⟩
     ·rename_i a b c heq; rw [heq]; exact ⟨_,_,_,.inr rfl⟩
     ·cases Dc
    ·have:=AJ hp; simpa using this
    ·obtain ⟨ob,e_,hl⟩:=AK hp i o hi
     refine ⟨ob,e_,?_⟩
     rw [List.all_eq_true] at h2
     have hk:i<k:=by
      have:=(List.getElem?_eq_some_iff.1 hi).1
      simpa using this
     rw [B5 (fun o h=>sE h) _ (h2 _ (List.mem_of_getElem? e_))]
     exact hl
    ·rw [List.length_range]; exact h2
    ·simp only [List.mem_filter,Bool.and_eq_true,decide_eq_true_eq,List.mem_range]
     have Il:vM ag o=some (e,rows):=hrow
     refine ⟨?_,hk,by rw [Il]; rfl⟩
     unfold vM at Il
     rcases Nat.lt_or_ge o ag.length with h3 | h3
     ·exact h3
     ·rw [List.getElem?_eq_none h3] at Il; cases Il
   ·cases h
  ·cases h
 ·dsimp only at h
  generalize reach ag ag.length (Lp (List.range k) (Y6 (aF vs)))=ρ at h
  split at h
  ·rename_i obs hp
   split at h
   ·rename_i hc
    simp only [Bool.and_eq_true] at hc
    obtain ⟨⟨⟨h1,h2⟩,h3⟩,h4⟩:=hc
    cases h
    rw [List.all_eq_true] at h4
    refine ⟨[],vs,ρ,[],hvs,ID _ _ h1,pW ρ h2,(fun z hz=>by cases hz),(fun z hz=>by cases hz),by simpa using AJ hp,fun i o hi=>?_,?_,C8 _ _ h3⟩
    ·obtain ⟨ob,e_,hl⟩:=AK hp i o hi
     refine ⟨fC (fun o=>ρ.idxOf o) ob,by rw [List.getElem?_map,e_]; rfl,?_⟩
     rw [HG 0 ob (h4 ob (List.mem_of_getElem? e_))]
     exact hl
    ·rw [List.all_map,List.all_eq_true]
     exact fun ob e_=>Ii ob (h4 ob e_)
   ·cases h
  ·cases h
/-- THE RUN IS THE CALL'S. -/
theorem x_ {P:Program} {G:Nat→Option (List DV)} {T:Tab} (hh:∀ f md args ag r aC,T.hand f md args ag=some (r,aC)→br P G f args ag r aC)
  (hir:∀ f ir,T.ir f=some ir→∃ fn,P.funcs[f]? = some fn∧(fn.name != "runtime.NumGoroutine")=true∧aq P fn=some ir) (L:Nat) :
  ∀ (d:Nat),(∀ (md:Bool) (f:Nat) (args:List LV) (ag:List aG) (r:LV) (aC:List aG),sy G T L d md f args ag=some (r,aC)→br P G f args ag r aC)∧
    (∀ k as ag gK Y yv aC,wM gK Y→Md G T L d k as ag gK=some (yv,aC)→Ft P G k as ag Y (fun y o=>y=yv∧o=aC))
 | 0=>⟨(fun md f args ag r aC h=>by unfold sy at h; cases h),(fun k as ag gK Y yv aC _ h=>by unfold Md at h; cases h)⟩
 | d+1=>by
   obtain ⟨ihF,ihI⟩:=x_ hh hir L d
   refine ⟨fun md f args ag r aC h=>?_,fun k as ag gK Y yv aC hr h=>?_⟩
   ·unfold sy at h
    split at h
    ·rename_i p hp
     cases h
     exact hh _ _ _ _ _ _ hp
    ·split at h
     ·rename_i N c rv hi
      obtain ⟨fn,hf,hn,ja⟩:=hir _ _ hi
      split at h
      ·rename_i hl
       split at h
       ·cases h
       ·rename_i out env o1 hx hrun
        split at h
        ·rename_i vs hvs
         refine xJ hf (by simpa using hn) ja hl (dD ihF ihI L c Gc _ _ (K:=⟨_,_,_,qS,none⟩) wM.no hrun ?_)
         have hb:=KH hvs h
         cases hx2:out with
         | n=>exact hb
         | x i=>exact (hx i hx2).elim
         | r=>exact hb
        ·cases h
       ·cases h
      ·cases h
     ·cases h
   ·unfold Md at h
    split at h
    ·rename_i N c rv hi
     obtain ⟨fn,hf,hn,ja⟩:=hir _ _ hi
     split at h
     ·rename_i hl
      obtain ⟨⟨hl,GA⟩,Nj⟩:=hl
      split at h
      ·cases h
      ·rename_i out env o1 hx hrun
       cases h
       refine HX hf (by simpa using hn) ja hl GA (dD ihF ihI L c gK _ _ (K:=⟨_,_,_,Y,none⟩) hr hrun ?_)
       cases hx2:out with
       | n=>exact ⟨⟨rfl,rfl⟩,Nj⟩
       | x i=>exact (hx i hx2).elim
       | r=>exact ⟨⟨rfl,rfl⟩,Nj⟩
      ·cases h
     ·cases h
    ·cases h
theorem FU {P:Program} {G:Nat→Option (List DV)} {T:Tab} (hh:∀ f md args ag r aC,T.hand f md args ag=some (r,aC)→br P G f args ag r aC)
  (hir:∀ f ir,T.ir f=some ir→∃ fn,P.funcs[f]? = some fn∧(fn.name != "runtime.NumGoroutine")=true∧aq P fn=some ir) (L d:Nat) (md:Bool) (f:Nat) (args:List LV) (ag:List aG) (r:LV) (aC:List aG) (h:sy G T L d md f args ag=some (r,aC)):br P G f args ag r aC:=
 (x_ hh hir L d).1 md f args ag r aC h
/-- the forms as the program's own text gives them. -/
def oM (P:Program) (f:Nat):Option (Nat×C×List RV):=match P.funcs[f]? with
 | some fn=>if (fn.name != "runtime.NumGoroutine")=true then aq P fn else none
 | none=>none
theorem MR {P:Program} (f:Nat) (ir:Nat×C×List RV) (h:oM P f=some ir):∃ fn,P.funcs[f]? = some fn∧(fn.name != "runtime.NumGoroutine")=true∧aq P fn=some ir:=by
 unfold oM at h
 split at h
 ·rename_i fn hf
  split at h
  ·rename_i hn
   exact ⟨fn,hf,hn,h⟩
  ·cases h
 ·cases h
end Dv
