/- part -/
import Derived.Test.YtkalnfkokkjliaaGreatDoorVD
import Derived.Test.YtkalnfkokkjliaaGreatDoorVD
set_option linter.all false
namespace Dv
open Go
inductive Out where
 | n
 | x (i:Nat)
 | r
structure Tab where
 ir:Nat→Option (Nat×C×List RV)
 hand:Nat→Bool→List LV→List aC→Option (LV×List aC)
 dat:Nat→Nat→Bool
 ro:Nat→Nat→Bool
mutual
def ri (ρ:List Nat):LV→Bool
 | .top=>true
 | .dM=>true
 | .d _=>true
 | .ptr o _=>ρ.contains o
 | .rp o _ _ _ _=>ρ.contains o
 | .ip _ _=>true
 | .sl o _ _ _ _=>ρ.contains o
 | .fn _ a b=>uA ρ a&&uA ρ b
 | .agg cs=>uA ρ cs
 | .dH vs=>uA ρ vs
 | .fL _ v=>ri ρ v
 | .yl _=>false
 | .mr o=>ρ.contains o
def uA (ρ:List Nat):List LV→Bool
 | []=>true
 | x::xs=>ri ρ x&&uA ρ xs
end
def inO (ρ:List Nat):aC→Bool
 | .box _ cells=>uA ρ cells
 | .mp es=>es.all fun p=>ri ρ p.2
 | .lr _ _ _ cells=>uA ρ cells
 | _=>true
mutual
def nms:LV→List Nat
 | .ptr o _=>[o]
 | .mr o=>[o]
 | .rp o _ _ _ _=>[o]
 | .sl o _ _ _ _=>[o]
 | .fn _ a b=>Da a++Da b
 | .agg cs=>Da cs
 | .dH vs=>Da vs
 | .fL _ v=>nms v
 | _=>[]
def Da:List LV→List Nat
 | []=>[]
 | x::xs=>nms x++Da xs
end
def acw:aC→List Nat
 | .box _ cells=>Da cells
 | .mp es=>es.flatMap fun p=>nms p.2
 | .lr _ _ _ cells=>Da cells
 | _=>[]
def MN (l:List Nat):List Nat→List Nat
 | []=>l
 | x::xs=>MN (if l.contains x then l else l++[x]) xs
def reach (af:List (Option aC)):Nat→List Nat→List Nat
 | 0,ρ=>ρ
 | n+1,ρ=>
   let ρ':=MN ρ (ρ.flatMap fun o=>match af[o]? with | some (some ob)=>acw ob | _=>[])
   if ρ'.length=ρ.length then ρ else reach af n ρ'
def uc (af:List (Option aC)):List Nat→Option (List aC)
 | []=>some []
 | o::r=>match af[o]?,uc af r with
   | some (some ob),some l=>some (ob::l)
   | _,_=>none
def slots:List (Nat×LV)→List Nat→List Nat
 | [],acc=>acc
 | (k,_)::r,acc=>slots r (if acc.contains k then acc else acc++[k])
def wL (env:List (Nat×LV)):List (Nat×LV):=(slots env []).map fun t=>(t,aW env t)
def nodupB:List Nat→Bool
 | []=>true
 | x::xs=>!xs.contains x&&nodupB xs
def isR:LV→Bool
 | .d (.val (.tuple a))=>a.size==0
 | _=>false
def isLeft:LV→Bool
 | .dH []=>true
 | _=>false
abbrev RES:=Option (Out×List (Nat×LV)×List (Option aC))
abbrev MR:=List LV→List (Option aC)→LV→Option (LV×Bool×List (Option aC))
def G_:MR:=fun _ _ _=>none
def Ex (ra rb:List (Nat×LV)→List (Option aC)→RES) (jm:Option Nat) (ps:List Nat) (env:List (Nat×LV)) (oy:Nat):MR:=fun as af ys=>match as with
 | .yl q::as=>if q=oy∧isR ys=true∧as.length=ps.length then (match ra (su ps as env) af with
   | some (.n,e1,o1)=>(match rb e1 o1 with
     | some (.n,_,o)=>some (ia,true,o)
     | some (.x i,_,o)=>if i≠gN∧jm=some i then some (jv,false,o) else none
     | some (.r,_,o)=>if jm=none then some (jv,false,o) else none
     | none=>none)
   | _=>none) else none
 | _=>none
def Nu:Value→Value→Bool
 | .int k n,.int k' n'=>decide (k=k')&&decide (n=n')
 | .bool a,.bool b=>decide (a=b)
 | .string a,.string b=>decide (a=b)
 | .pointer none,.pointer none=>true
 | .slice none n c,.slice none n' c'=>Nat.beq n n'&&Nat.beq c c'
 | .nilFunc,.nilFunc=>true
 | _,_=>false
mutual
def pU:DV→DV→Bool
 | .val a,.val b=>Nu a b
 | .dK e rows,.dK e' Vo=>Nat.beq e e'&&pT rows Vo
 | .agg a,.agg b=>sF a b
 | _,_=>false
def sF:List DV→List DV→Bool
 | [],[]=>true
 | x::xs,y::ys=>pU x y&&sF xs ys
 | _,_=>false
def pT:List (List DV)→List (List DV)→Bool
 | [],[]=>true
 | x::xs,y::ys=>sF x y&&pT xs ys
 | _,_=>false
end
mutual
def Jb:LV→LV→Bool
 | .top,.top=>true
 | .d x,.d y=>pU x y
 | .ptr o c,.ptr o' c'=>Nat.beq o o'&&Nat.beq c c'
 | .sl o n e l k,.sl o' n' e' l' k'=>Nat.beq o o'&&Nat.beq n n'&&Nat.beq e e'&&Nat.beq l l'&&Nat.beq k k'
 | .rp o n e l k,.rp o' n' e' l' k'=>Nat.beq o o'&&Nat.beq n n'&&Nat.beq e e'&&Nat.beq l l'&&Nat.beq k k'
 | .agg a,.agg b=>nY a b
 | _,_=>false
def nY:List LV→List LV→Bool
 | [],[]=>true
 | x::xs,y::ys=>Jb x y&&nY xs ys
 | _,_=>false
end
def Eo:Option aC→Option aC→Bool
 | some (.box t a),some (.box t' b)=>decide (t=t')&&nY a b
 | some (.dat t e a),some (.dat t' e' b)=>decide (t=t')&&Nat.beq e e'&&pT a b
 | some (.kK t e a),some (.kK t' e' b)=>decide (t=t')&&Nat.beq e e'&&pT a b
 | _,_=>false
section
variable (G:Nat→Option (List DV)) (self:Bool→Nat→List LV→List aC→Option (LV×List aC)) (oQ:Nat→List LV→List (Option aC)→MR→Option (LV×List (Option aC))) (dat ro:Nat→Bool)
def Im (k:Nat) (as:List LV) (af:List (Option aC)):Option eV:=
 let ρ:=reach af af.length (MN [] (Da as))
 match uc af ρ with
 | some obs=>
   if uA ρ as&&obs.all (inO ρ)&&nodupB ρ then
    match self (dat k) k (mw (fun o=>ρ.idxOf o) as) (obs.map (ff fun o=>ρ.idxOf o)) with
    | some (r,aq)=>if obs.length≤aq.length then
      some { r:=rn (bu ρ af.length) r,rd:=ρ,wr:=(if ro k=true then (ρ.zip (aq.map (ff (bu ρ af.length)))).filter fun p=>!Eo aq[ρ.idxOf p.1]? (obs.map (ff fun o=>ρ.idxOf o))[ρ.idxOf p.1]? else ρ.zip (aq.map (ff (bu ρ af.length)))),nw:=(aq.drop ρ.length).map (ff (bu ρ af.length)) } else none
    | none=>none
   else none
 | none=>none
def doI (i:I) (env:List (Nat×LV)) (af:List (Option aC)):Option eV:=
 match i with
 | .call f args=>match callee (f.ev G (aW env)) with
   | some (k,fs,cs)=>Im self dat ro k (fs++args.map (·.ev G (aW env))++cs) af
   | none=>none
 | i=>cE G (aW env) (au af) af.length i
def doY (gv:MR) (i:I) (env:List (Nat×LV)) (af:List (Option aC)):Option (LV×Bool×List (Option aC)):=
 match i with
 | .call f args=>match callee (f.ev G (aW env)) with
   | some _=>none
   | none=>match f.ev G (aW env) with
     | .yl oy=>gv (.yl oy::args.map (·.ev G (aW env))) af (aW env YS)
     | _=>none
 | _=>none
def do1 (gv:MR) (o:dY) (env:List (Nat×LV)) (af:List (Option aC)):Option (List (Nat×LV)×List (Option aC)):=
 match doI G self dat ro o.op env af with
 | some e=>some (dU o.dst e.r env,fH e.wr af++e.nw.map some)
 | none=>match doY G gv o.op env af with
   | some (ys,b,ay)=>some (dU o.dst (.bool b) ((YS,ys)::env),ay)
   | none=>none
def sG (gv:MR):List dY→List (Nat×LV)→List (Option aC)→Option (List (Nat×LV)×List (Option aC))
 | [],env,af=>some (env,af)
 | o::os,env,af=>
   match o.guard with
   | none=>(match do1 G self dat ro gv o env af with
     | some (env',ay)=>sG gv os env' ay
     | none=>none)
   | some (g,want)=>match aW env g with
     | .d (.val (.bool b))=>if b=want then (match do1 G self dat ro gv o env af with
       | some (env',ay)=>sG gv os env' ay
       | none=>none) else sG gv os (dU o.dst .undef env) af
     | .d (.val (.tuple _))=>sG gv os (dU o.dst .undef env) af
     | _=>none
def mu:List dY→List (Nat×LV)→List (Option aC)→List iH→Option (List (Nat×LV)×List (Option aC))
 | [],env,af,log=>if indep log=true then some (env,af) else none
 | o::os,env,af,log=>
   match o.guard with
   | none=>(match doI G self dat ro o.op env af with
     | some e=>mu os (dU o.dst e.r env) (fH e.wr af++e.nw.map some) (log++[⟨o.pre,e.rd,(e.owned af.length).map (·.1)⟩])
     | none=>none)
   | some (g,want)=>match aW env g with
     | .d (.val (.bool b))=>if b=want then (match doI G self dat ro o.op env af with
       | some e=>mu os (dU o.dst e.r env) (fH e.wr af++e.nw.map some) (log++[⟨o.pre,e.rd,(e.owned af.length).map (·.1)⟩])
       | none=>none) else mu os (dU o.dst .undef env) af (log++[⟨o.pre,[],[]⟩])
     | .d (.val (.tuple _))=>mu os (dU o.dst .undef env) af (log++[⟨o.pre,[],[]⟩])
     | _=>none
def iter (f:List (Nat×LV)→List (Option aC)→RES):Nat→List (Nat×LV)→List (Option aC)→RES
 | 0,_,_=>none
 | n+1,env,af=>match f env af with
   | some (.n,env',ay)=>iter f n (wL env') ay
   | r=>r
def yT (jm:Option Nat) (env:List (Nat×LV)):Option (LV×List (Option aC))→RES
 | some (yv,o)=>if isR yv=true then some (.n,env,o) else if isLeft yv=true then (match jm with
   | some i=>if i≠gN then some (.x i,env,o) else none
   | none=>some (.r,env,o)) else none
 | none=>none
def jC (L:Nat):C→MR→List (Nat×LV)→List (Option aC)→RES
 | .skip,gv,env,af=>some (.n,env,af)
 | .qV ops,gv,env,af=>match sG G self dat ro gv ops env af with
   | some (env',ay)=>some (.n,env',ay)
   | none=>none
 | .nq ops,gv,env,af=>match mu G self dat ro ops env af [] with
   | some (env',ay)=>some (.n,env',ay)
   | none=>none
 | .seq a b,gv,env,af=>match jC L a gv env af with
   | some (.n,env',ay)=>jC L b gv env' ay
   | r=>r
 | .cond c a b,gv,env,af=>match c.ev G (aW env) with
   | .d (.val (.bool t))=>if t=true then jC L a gv env af else jC L b gv env af
   | _=>none
 | .block i b,gv,env,af=>match jC L b gv env af with
   | some (.x j,env',ay)=>some (if j=i then .n else .x j,env',ay)
   | r=>r
 | .loop b,gv,env,af=>iter (jC L b gv) L (wL env) af
 | .exit i,gv,env,af=>some (.x i,env,af)
 | .ret,gv,env,af=>some (.r,env,af)
 | .scope b,gv,env,af=>jC L b gv env af
 | .YA g ps a b,gv,env,af=>match callee (g.ev G (aW env)) with
   | some (k,fs,cs)=>(match yT none env (oQ k (fs++[.yl af.length]++cs) (af++[none]) (Ex (jC L a G_) (jC L b G_) none ps env af.length)) with
     | some r=>some r
     | none=>yT (some 0) env (oQ k (fs++[.yl af.length]++cs) (af++[none]) (Ex (jC L a G_) (jC L b G_) (some 0) ps env af.length)))
   | none=>none
end
def wF (af:List (Option aC)) (o:Nat):Option (Nat×List (List DV)):=match af[o]? with
 | some (some (.dat _ e rows))=>some (e,rows)
 | some (some (.kK _ e rows))=>some (e,rows)
 | _=>none
mutual
def jj (k:Nat) (af:List (Option aC)):LV→LV
 | .sl o n e lo len=>if k≤o then (match wF af o with
   | some (e0,rows)=>if e=e0∧n=rows.length∧lo+len≤rows.length then .d (.dK e ((rows.drop lo).take len)) else .sl o n e lo len
   | none=>.sl o n e lo len) else .sl o n e lo len
 | .dH vs=>.dH (vu k af vs)
 | x=>x
def vu (k:Nat) (af:List (Option aC)):List LV→List LV
 | []=>[]
 | x::xs=>jj k af x::vu k af xs
end
def Mg:List Nat→List Nat→Bool
 | [],[]=>true
 | x::xs,y::ys=>Nat.beq x y&&Mg xs ys
 | _,_=>false
def ZW (md:Bool) (k:Nat) (r:LV) (af:List (Option aC)):Option (LV×List aC):=
 if md=true then (match uc af (List.range k) with
  | some obs=>if eB k (jj k af r)=true∧obs.all (dV k)=true then some (jj k af r,obs) else none
  | none=>none)
 else let ρ:=reach af af.length (MN (List.range k) (nms r))
  match uc af ρ with
  | some obs=>if (Mg (ρ.take k) (List.range k)&&nodupB ρ&&ri ρ r&&obs.all (inO ρ))=true then some (rn (fun o=>ρ.idxOf o) r,obs.map (ff fun o=>ρ.idxOf o)) else none
  | none=>none
mutual
def yQ (G:Nat→Option (List DV)) (T:Tab) (L:Nat):Nat→Bool→Nat→List LV→List aC→Option (LV×List aC)
 | 0,_,_,_,_=>none
 | d+1,md,f,args,af=>match T.hand f md args af with
   | some r=>some r
   | none=>match T.ir f with
     | some (N,c,rv)=>if args.length≤N then (match jC G (yQ G T L d) (Nw G T L d) (T.dat f) (T.ro f) L c G_ (fm 0 args) (af.map some) with
       | some (.x _,_,_)=>none
       | some (_,env,ay)=>(match yf.of ⟨env,ay⟩ rv with
         | some vs=>ZW md af.length (aP vs) ay
         | none=>none)
       | none=>none) else none
     | none=>none
def Nw (G:Nat→Option (List DV)) (T:Tab) (L:Nat):Nat→Nat→List LV→List (Option aC)→MR→Option (LV×List (Option aC))
 | 0,_,_,_,_=>none
 | d+1,f,args,af,gv=>match T.ir f with
   | some (N,c,rv)=>if (args.length≤N∧j7 c=true)∧rv=[] then (match jC G (yQ G T L d) (Nw G T L d) (T.dat f) (T.ro f) L c gv ((YS,ia)::fm 0 args) af with
     | some (.x _,_,_)=>none
     | some (_,env,ay)=>some (aW env YS,ay)
     | none=>none) else none
   | none=>none
end
theorem uB {ρ:List Nat} {o:Nat} (h:o∈ρ):ρ[ρ.idxOf o]? = some o:=by
 have hl:=List.idxOf_lt_length_of_mem h
 rw [List.getElem?_eq_getElem hl,List.getElem_idxOf hl]
theorem Dl {ρ:List Nat} {o:Nat} (b:Nat) (h:o∈ρ):bu ρ b (ρ.idxOf o)=o:=by
 unfold bu; rw [uB h]
section
variable {ρ:List Nat}
mutual
theorem GM (b:Nat):∀ (x:LV),ri ρ x=true→rn (bu ρ b) (rn (fun o=>ρ.idxOf o) x)=x
 | .top,_=>rfl
 | .dM,_=>rfl
 | .d x,_=>rfl
 | .ptr o c,h=>by simp only [ri,List.contains_iff_mem] at h; simp only [rn,Dl b h]
 | .rp o n e r c,h=>by simp only [ri,List.contains_iff_mem] at h; simp only [rn,Dl b h]
 | .ip ..,_=>rfl
 | .sl o n e l m,h=>by simp only [ri,List.contains_iff_mem] at h; simp only [rn,Dl b h]
 | .fn f x y,h=>by
   simp only [ri,Bool.and_eq_true] at h
   simp only [rn,nZ b x h.1,nZ b y h.2]
 | .agg cs,h=>by
   simp only [ri] at h
   simp only [rn,nZ b cs h]
 | .dH cs,h=>by
   simp only [ri] at h
   simp only [rn,nZ b cs h]
 | .fL t v,h=>by
   simp only [ri] at h
   simp only [rn,GM b v h]
 | .yl _,h=>by simp [ri] at h
 | .mr o,h=>by simp only [ri,List.contains_iff_mem] at h; simp only [rn,Dl b h]
theorem nZ (b:Nat):∀ (xs:List LV),uA ρ xs=true→mw (bu ρ b) (mw (fun o=>ρ.idxOf o) xs)=xs
 | [],_=>rfl
 | x::xs,h=>by
   simp only [uA,Bool.and_eq_true] at h
   simp only [mw,GM b x h.1,nZ b xs h.2]
end
theorem Jf (b:Nat) (ob:aC) (h:inO ρ ob=true):ff (bu ρ b) (ff (fun o=>ρ.idxOf o) ob)=ob:=by
 cases ob with
 | box et cells=>simp only [ff]; rw [nZ b cells h]
 | mp es=>
   simp only [inO,List.all_eq_true] at h
   simp only [ff,aC.mp.injEq,List.map_map]
   conv=>rhs; rw [← List.map_id es]
   exact List.map_congr_left fun p hp=>by simp [GM b p.2 (h p hp)]
 | lr et e v cells=>simp only [ff]; rw [nZ b cells h]
 | _=>rfl
mutual
theorem HC:∀ (x:LV),ri ρ x=true→eB ρ.length (rn (fun o=>ρ.idxOf o) x)=true
 | .top,_=>rfl
 | .dM,_=>rfl
 | .d x,_=>rfl
 | .ptr o c,h=>by simp only [ri,List.contains_iff_mem] at h; simpa only [rn,eB,decide_eq_true_eq] using List.idxOf_lt_length_of_mem h
 | .rp o n e r c,h=>by simp only [ri,List.contains_iff_mem] at h; simpa only [rn,eB,decide_eq_true_eq] using List.idxOf_lt_length_of_mem h
 | .ip ..,_=>rfl
 | .sl o n e l m,h=>by simp only [ri,List.contains_iff_mem] at h; simpa only [rn,eB,decide_eq_true_eq] using List.idxOf_lt_length_of_mem h
 | .fn f x y,h=>by
   simp only [ri,Bool.and_eq_true] at h
   simp only [rn,eB,oz x h.1,oz y h.2,Bool.and_self]
 | .agg cs,h=>by
   simp only [ri] at h
   simp only [rn,eB,oz cs h]
 | .dH cs,h=>by
   simp only [ri] at h
   simp only [rn,eB,oz cs h]
 | .fL t v,h=>by
   simp only [ri] at h
   simp only [rn,eB,HC v h]
 | .yl _,h=>by simp [ri] at h
 | .mr o,h=>by simp only [ri,List.contains_iff_mem] at h; simpa only [rn,eB,decide_eq_true_eq] using List.idxOf_lt_length_of_mem h
theorem oz:∀ (xs:List LV),uA ρ xs=true→eu ρ.length (mw (fun o=>ρ.idxOf o) xs)=true
 | [],_=>rfl
 | x::xs,h=>by
   simp only [uA,Bool.and_eq_true] at h
   simp only [mw,eu,HC x h.1,oz xs h.2,Bool.and_self]
end
theorem JO (ob:aC) (h:inO ρ ob=true):dV ρ.length (ff (fun o=>ρ.idxOf o) ob)=true:=by
 cases ob with
 | box et cells=>exact oz cells h
 | mp es=>
   simp only [inO,List.all_eq_true] at h
   simp only [ff,dV,List.all_map,List.all_eq_true]
   exact fun p hp=>HC p.2 (h p hp)
 | lr et e v cells=>exact oz cells h
 | _=>rfl
mutual
theorem DK (obj:Nat→b_):∀ (x:LV),ri ρ x=true→ah obj ρ [] x (rn (fun o=>ρ.idxOf o) x)
 | .top,_=>by simp [rn,ah]
 | .dM,_=>by simp [rn,ah]
 | .d x,_=>by simp [rn,ah]
 | .ptr o c,h=>by simp only [ri,List.contains_iff_mem] at h; simp only [rn,ah,uB h,and_self]
 | .rp o n e r c,h=>by simp only [ri,List.contains_iff_mem] at h; simp only [rn,ah,uB h,and_self]
 | .ip ..,_=>by simp [rn,ah]
 | .sl o n e l m,h=>by simp only [ri,List.contains_iff_mem] at h; simp only [rn,ah,uB h,and_self]
 | .fn f x y,h=>by
   simp only [ri,Bool.and_eq_true] at h
   simp only [rn,ah,true_and]
   exact ⟨lR obj x h.1,lR obj y h.2⟩
 | .agg cs,h=>by
   simp only [ri] at h
   simp only [rn,ah]
   exact lR obj cs h
 | .dH cs,h=>by
   simp only [ri] at h
   simp only [rn,ah]
   exact lR obj cs h
 | .fL t v,h=>by
   simp only [ri] at h
   simp only [rn,ah,true_and]
   exact DK obj v h
 | .yl _,h=>by simp [ri] at h
 | .mr o,h=>by simp only [ri,List.contains_iff_mem] at h; simp only [rn,ah,uB h]
theorem lR (obj:Nat→b_):∀ (xs:List LV),uA ρ xs=true→ag obj ρ [] xs (mw (fun o=>ρ.idxOf o) xs)
 | [],_=>by simp [mw,ag]
 | x::xs,h=>by
   simp only [uA,Bool.and_eq_true] at h
   simp only [mw,ag]
   exact ⟨DK obj x h.1,lR obj xs h.2⟩
end
end
theorem qp:∀ (l:List Nat),nodupB l=true→l.Nodup
 | [],_=>List.nodup_nil
 | x::xs,h=>by
   simp only [nodupB,Bool.and_eq_true,Bool.not_eq_true',List.contains_eq_mem,decide_eq_false_iff_not] at h
   exact List.nodup_cons.2 ⟨h.1,qp xs h.2⟩
theorem J6:∀ (l m:List Nat),Mg l m=true→l=m
 | [],[],_=>rfl
 | x::xs,y::ys,h=>by
   simp only [Mg,Bool.and_eq_true] at h
   rw [Nat.eq_of_beq_eq_true h.1,J6 xs ys h.2]
 | [],_::_,h=>by simp [Mg] at h
 | _::_,[],h=>by simp [Mg] at h
theorem OM {x:LV} (h:isR x=true):x=ia:=by
 unfold isR at h
 split at h
 ·rename_i a
  have:a=#[]:=by
   apply Array.eq_empty_of_size_eq_zero
   simpa using h
  subst this; rfl
 ·cases h
theorem LK {x:LV} (h:isLeft x=true):x=jv:=by
 unfold isLeft at h
 split at h
 ·rfl
 ·cases h
theorem qW {af:List (Option aC)} : ∀ {ρ:List Nat} {obs:List aC},uc af ρ=some obs→ρ.map (au af)=obs.map b_.live
 | [],obs,h=>by cases h; rfl
 | o::r,obs,h=>by
   simp only [uc] at h
   split at h
   ·rename_i ob l h1 h2
    cases h
    rw [List.map_cons,List.map_cons,qW h2]
    congr 1
    simp [au,h1]
   ·cases h
theorem BG {af:List (Option aC)} {ρ:List Nat} {obs:List aC} (h:uc af ρ=some obs) (i o:Nat) (hi:ρ[i]? = some o):∃ ob,obs[i]? = some ob∧au af o=.live ob:=by
 have h1:=congrArg (fun l=>l[i]?) (qW h)
 simp only [List.getElem?_map,hi,Option.map_some] at h1
 cases en:obs[i]? with
 | none=>rw [en] at h1; cases h1
 | some ob=>rw [en] at h1; exact ⟨ob,rfl,Option.some.inj h1⟩
theorem BF {af:List (Option aC)} {ρ:List Nat} {obs:List aC} (h:uc af ρ=some obs):obs.length=ρ.length:=by
 have:=congrArg List.length (qW h)
 simpa using this.symm
theorem Nt:∀ (a b:Value),Nu a b=true→a=b:=by
 intro a b h
 unfold Nu at h
 split at h <;> (try (cases h; done)) <;> simp only [Bool.and_eq_true,decide_eq_true_eq] at h
 ·rw [h.1,h.2]
 ·rw [h]
 ·rw [h]
 ·rfl
 ·rw [Nat.eq_of_beq_eq_true h.1,Nat.eq_of_beq_eq_true h.2]
 ·rfl
mutual
theorem Ep:∀ (a b:DV),pU a b=true→a=b
 | .val a,.val b,h=>by simp only [pU] at h; rw [Nt _ _ h]
 | .dK e rows,.dK e' Vo,h=>by
   simp only [pU,Bool.and_eq_true] at h
   rw [Nat.eq_of_beq_eq_true h.1,qS _ _ h.2]
 | .agg a,.agg b,h=>by simp only [pU] at h; rw [vE _ _ h]
 | .val _,.dK ..,h | .val _,.fn ..,h | .val _,.fL ..,h | .val _,.agg _,h=>by simp [pU] at h
 | .dK ..,.val _,h | .dK ..,.fn ..,h | .dK ..,.fL ..,h | .dK ..,.agg _,h=>by simp [pU] at h
 | .agg _,.val _,h | .agg _,.fn ..,h | .agg _,.fL ..,h | .agg _,.dK ..,h=>by simp [pU] at h
 | .fn ..,_,h=>by simp [pU] at h
 | .fL ..,_,h=>by simp [pU] at h
theorem vE:∀ (a b:List DV),sF a b=true→a=b
 | [],[],_=>rfl
 | x::xs,y::ys,h=>by
   simp only [sF,Bool.and_eq_true] at h
   rw [Ep _ _ h.1,vE _ _ h.2]
 | [],_::_,h=>by simp [sF] at h
 | _::_,[],h=>by simp [sF] at h
theorem qS:∀ (a b:List (List DV)),pT a b=true→a=b
 | [],[],_=>rfl
 | x::xs,y::ys,h=>by
   simp only [pT,Bool.and_eq_true] at h
   rw [vE _ _ h.1,qS _ _ h.2]
 | [],_::_,h=>by simp [pT] at h
 | _::_,[],h=>by simp [pT] at h
end
mutual
theorem Nv:∀ (a b:LV),Jb a b=true→a=b:=by
 intro a b h
 cases a <;> cases b <;> (try (simp [Jb] at h; done)) <;> simp only [Jb,Bool.and_eq_true] at h
 ·rfl
 ·rw [Ep _ _ h]
 ·rw [Nat.eq_of_beq_eq_true h.1,Nat.eq_of_beq_eq_true h.2]
 ·rw [Nat.eq_of_beq_eq_true h.1.1.1.1,Nat.eq_of_beq_eq_true h.1.1.1.2,Nat.eq_of_beq_eq_true h.1.1.2,Nat.eq_of_beq_eq_true h.1.2,Nat.eq_of_beq_eq_true h.2]
 ·rw [Nat.eq_of_beq_eq_true h.1.1.1.1,Nat.eq_of_beq_eq_true h.1.1.1.2,Nat.eq_of_beq_eq_true h.1.1.2,Nat.eq_of_beq_eq_true h.1.2,Nat.eq_of_beq_eq_true h.2]
 ·rw [ni _ _ h]
theorem ni:∀ (a b:List LV),nY a b=true→a=b
 | [],[],_=>rfl
 | x::xs,y::ys,h=>by
   simp only [nY,Bool.and_eq_true] at h
   rw [Nv _ _ h.1,ni _ _ h.2]
 | [],_::_,h=>by simp [nY] at h
 | _::_,[],h=>by simp [nY] at h
end
theorem En {a b:Option aC} (h:Eo a b=true):a=b:=by
 unfold Eo at h
 split at h <;> (try (cases h; done)) <;> simp only [Bool.and_eq_true,decide_eq_true_eq] at h
 ·rw [h.1,ni _ _ h.2]
 ·rw [h.1.1,Nat.eq_of_beq_eq_true h.1.2,qS _ _ h.2]
 ·rw [h.1.1,Nat.eq_of_beq_eq_true h.1.2,qS _ _ h.2]
theorem cm.abS {P:Program} {G:Nat→Option (List DV)} {k:Nat} {args aS:List LV} {obj:Nat→b_} {base:Nat} {r:LV} {aH aq:List aC} (ρ:List Nat) (keep:Nat→Bool) (hT:bh P G k aS aH r aq) (ha:ag obj ρ [] args aS) (hnd:ρ.Nodup) (ho:ρ.map obj=aH.map (fun ob=>b_.live (ff (bu ρ base) ob))) (hid:aH.all (dV ρ.length)=true) (hle:aH.length≤aq.length)
  (hkeep:∀ (i o:Nat),ρ[i]? = some o→keep o=false→aq[i]? = aH[i]?) :
  cm P G k args obj base { r:=rn (bu ρ base) r,rd:=ρ,wr:=(ρ.zip (aq.map (ff (bu ρ base)))).filter fun p=>keep p.1,nw:=(aq.drop ρ.length).map (ff (bu ρ base)) }:=
 ⟨⟨ρ,[],false,aS,aH,r,aq,keep,hkeep,hnd,(fun _ h=>by cases h),(fun _ h=>by cases h),by have:=congrArg List.length ho; simpa using this.symm,(fun i o hi=>by
   have h1:(ρ.map obj)[i]? = some (obj o):=by rw [List.getElem?_map,hi]; rfl
   rw [ho,List.getElem?_map] at h1
   cases hf:aH[i]? with
   | none=>rw [hf] at h1; cases h1
   | some ob=>rw [hf] at h1; simp at h1; exact ⟨ob,rfl,h1.symm⟩),hid,ha,(fun h=>by cases h),hle,hT,by simp [gh]⟩⟩
section
variable {P:Program} {G:Nat→Option (List DV)} {self:Bool→Nat→List LV→List aC→Option (LV×List aC)} {dat ro:Nat→Bool}
 (nG:∀ md k as af r ay,self md k as af=some (r,ay)→bh P G k as af r ay)
include nG
theorem DD {k:Nat} {as:List LV} {af:List (Option aC)} {e:eV} (h:Im self dat ro k as af=some e):cm P G k as (au af) af.length e:=by
 unfold Im at h
 dsimp only at h
 generalize reach af af.length (MN [] (Da as))=ρ at h
 cases hp:uc af ρ with
 | none=>rw [hp] at h; cases h
 | some obs=>
   rw [hp] at h
   dsimp only at h
   split at h
   ·rename_i hc
    simp only [Bool.and_eq_true] at hc
    obtain ⟨⟨h1,h2⟩,h3⟩:=hc
    split at h
    ·rename_i r aq hs
     split at h
     ·rename_i hle
      cases h
      have hT:=nG _ _ _ _ _ _ hs
      rw [List.all_eq_true] at h2
      have g1:ρ.map (au af)=(obs.map (ff fun o=>ρ.idxOf o)).map (fun ob=>b_.live (ff (bu ρ af.length) ob)):=by
       rw [qW hp,List.map_map]
       refine List.map_congr_left (fun ob en=>?_)
       simp only [Function.comp,Jf af.length ob (h2 ob en)]
      have g2:(obs.map (ff fun o=>ρ.idxOf o)).all (dV ρ.length)=true:=by
       rw [List.all_map,List.all_eq_true]
       exact fun ob en=>JO ob (h2 ob en)
      split
      ·refine cm.abS ρ (fun q=>!Eo aq[ρ.idxOf q]? (obs.map (ff fun o=>ρ.idxOf o))[ρ.idxOf q]?) hT (lR _ as h1) (qp ρ h3) g1 g2 (by simpa using hle) (fun i o hi hk=>?_)
       have hidx:ρ.idxOf o=i:=by
        have hlt:=(List.getElem?_eq_some_iff.1 hi).1
        obtain ⟨_,rfl⟩:=List.getElem?_eq_some_iff.1 hi
        exact (qp ρ h3).idxOf_getElem i hlt
       simp only [Bool.not_eq_false',hidx] at hk
       exact En hk
      ·exact cm.hand ρ hT (lR _ as h1) (qp ρ h3) g1 g2 (by simpa using hle)
     ·cases h
    ·cases h
   ·cases h
theorem v8 {Y:YO} {X:Value→eV→St→Prop} {o:dY} {env:List (Nat×LV)} {af:List (Option aC)} {e:eV} {K:St→eV→Prop} (h:doI G self dat ro o.op env af=some e) (hK:K ⟨dU o.dst e.r env,fH e.wr af++e.nw.map some⟩ e):ym P G Y X o ⟨env,af⟩ K:=by
 have AR:K (St.app ⟨env,af⟩ o.dst e) e:=hK
 unfold ym
 unfold doI at h
 cases hi:o.op with
 | call f args=>
   rw [hi] at h
   dsimp only at h ⊢
   split at h
   ·rename_i k fs cs hc
    have zU:callee (f.ev G (St.get ⟨env,af⟩))=some (k,fs,cs):=hc
    rw [zU]
    dsimp only
    exact .inl ⟨e,DD nG h,AR⟩
   ·cases h
 | _=>
   rw [hi] at h
   dsimp only at h ⊢
   have h2:=h
   change cE G (St.get ⟨env,af⟩) (St.obj ⟨env,af⟩) af.length _=some e at h2
   rw [h2]
   exact AR
def xI (gv:MR) (Y:YO):Prop:=∀ as af ys ys' b ay (K':LV→Bool→List (Option aC)→Prop),gv as af ys=some (ys',b,ay)→K' ys' b ay→Y as af ys K'
omit nG in
theorem xI.no:xI G_ qZ:=fun _ _ _ _ _ _ _ h=>by cases h
theorem Ci {gv:MR} {Y:YO} (hr:xI gv Y) {X:Value→eV→St→Prop} {o:dY} {env env':List (Nat×LV)} {af ay:List (Option aC)} {K:St→Prop} (h:do1 G self dat ro gv o env af=some (env',ay)) (hK:K ⟨env',ay⟩):ym P G Y X o ⟨env,af⟩ (fun s _=>K s):=by
 unfold do1 at h
 split at h
 ·rename_i e he
  cases h
  exact v8 nG he hK
 ·split at h
  ·rename_i ys b o1 hy
   cases h
   unfold doY at hy
   split at hy
   ·rename_i f args hop
    split at hy
    ·cases hy
    ·rename_i iY
     split at hy
     ·rename_i oy dO
      unfold ym
      rw [hop]
      dsimp only
      have zU:callee (f.ev G (St.get ⟨env,af⟩))=none:=iY
      rw [zU]
      dsimp only
      unfold vcY
      have acV:f.ev G (St.get ⟨env,af⟩)=.yl oy:=dO
      rw [acV]
      exact hr _ _ _ _ _ _ _ hy hK
     ·cases hy
   ·cases hy
  ·cases h
theorem iS {gv:MR} {Y:YO} (hr:xI gv Y) {X:Value→St→Prop} : ∀ (ops:List dY) (env:List (Nat×LV)) (af:List (Option aC)) {env':List (Nat×LV)} {ay:List (Option aC)} {K:St→Prop},sG G self dat ro gv ops env af=some (env',ay)→K ⟨env',ay⟩→gy P G Y X ops ⟨env,af⟩ K
 | [],env,af,env',ay,K,h,hK=>by
   cases h
   exact hK
 | o::os,env,af,env',ay,K,h,hK=>by
   unfold sG at h
   unfold gy yj
   split at h
   ·rename_i hg
    rw [hg]
    dsimp only
    split at h
    ·rename_i e1 o1 he
     exact Ci nG hr (K:=fun s=>gy P G Y X os s K) he (iS hr os _ _ h hK)
    ·cases h
   ·rename_i g want hg
    rw [hg]
    dsimp only
    have lI:St.get ⟨env,af⟩ g=aW env g:=rfl
    rw [lI]
    split at h
    ·rename_i b hb
     rw [hb]
     dsimp only
     split at h
     ·rename_i hbw
      rw [if_pos hbw]
      split at h
      ·rename_i e1 o1 he
       exact Ci nG hr (K:=fun s=>gy P G Y X os s K) he (iS hr os _ _ h hK)
      ·cases h
     ·rename_i hbw
      rw [if_neg hbw]
      exact iS hr os _ _ h hK
    ·rename_i b hb
     rw [hb]
     exact iS hr os _ _ h hK
    ·cases h
theorem h_ {X:Value→St→Prop} : ∀ (ops:List dY) (env:List (Nat×LV)) (af:List (Option aC)) (log:List iH) {env':List (Nat×LV)} {ay:List (Option aC)} {K:St→Prop},mu G self dat ro ops env af log=some (env',ay)→K ⟨env',ay⟩→eM P G X ops ⟨env,af⟩ log (fun s log=>indep log=true∧K s)
 | [],env,af,log,env',ay,K,h,hK=>by
   unfold mu at h
   split at h
   ·rename_i hi
    cases h
    exact ⟨hi,hK⟩
   ·cases h
 | o::os,env,af,log,env',ay,K,h,hK=>by
   unfold mu at h
   unfold eM yj
   have hl:(St.af ⟨env,af⟩).length=af.length:=rfl
   split at h
   ·rename_i hg
    rw [hg]
    dsimp only
    split at h
    ·rename_i e he
     refine v8 nG he ?_
     dsimp only at hl ⊢
     rw [hl]
     exact h_ os _ _ _ h hK
    ·cases h
   ·rename_i g want hg
    rw [hg]
    dsimp only
    have lI:St.get ⟨env,af⟩ g=aW env g:=rfl
    rw [lI]
    split at h
    ·rename_i b hb
     rw [hb]
     dsimp only
     split at h
     ·rename_i hbw
      rw [if_pos hbw]
      split at h
      ·rename_i e he
       refine v8 nG he ?_
       dsimp only at hl ⊢
       rw [hl]
       exact h_ os _ _ _ h hK
      ·cases h
     ·rename_i hbw
      rw [if_neg hbw]
      exact h_ os _ _ _ h hK
    ·rename_i b hb
     rw [hb]
     exact h_ os _ _ _ h hK
    ·cases h
end
def aaH (K:wo) (out:Out) (s:St):Prop:=match out with
 | .n=>K.n s
 | .x i=>K.x i s
 | .r=>K.r s
theorem Bt:∀ (env:List (Nat×LV)) (acc:List Nat) (t:Nat),(t∈acc∨∃ v,(t,v)∈env)→t∈slots env acc
 | [],acc,t,h=>by
   rcases h with h | ⟨v,h⟩
   ·exact h
   ·cases h
 | (k,v)::r,acc,t,h=>by
   unfold slots
   refine Bt r _ t ?_
   rcases h with h | ⟨u,h⟩
   ·left
    split
    ·exact h
    ·exact List.mem_append_left _ h
   ·rcases List.mem_cons.1 h with h | h
    ·left
     cases h
     split
     ·rename_i hc; exact List.contains_iff_mem.1 hc
     ·exact List.mem_append_right _ (by simp)
    ·exact .inr ⟨u,h⟩
theorem Cb:∀ (env:List (Nat×LV)) (t:Nat),(∀ v,(t,v)∉env)→aW env t=.top
 | [],_,_=>rfl
 | (k,v)::r,t,h=>by
   unfold aW
   by_cases hk:k=t
   ·subst hk; exact absurd (List.mem_cons_self) (h v)
   ·rw [if_neg hk]
    exact Cb r t (fun u hu=>h u (List.mem_cons_of_mem _ hu))
theorem LZ (env:List (Nat×LV)):aW (wL env)=aW env:=by
 funext t
 unfold wL
 by_cases ht:t∈slots env []
 ·have:=lK (aW env) (slots env []) t
  rw [if_pos ht] at this
  exact this
 ·have h1:aW env t=.top:=Cb env t (fun v hv=>ht (Bt env [] t (.inr ⟨v,hv⟩)))
  have:=lK (aW env) (slots env []) t
  rw [if_neg ht] at this
  rw [this,h1]
theorem IU.norm {G:Nat→Option (List DV)} (m:Nat) (env:List (Nat×LV)) (o:List (Option aC)):IU G m ⟨env,o⟩ ⟨wL env,o⟩:=by
 intro D N bf J0 bV w0 a w _ h
 have e:St.get ⟨wL env,o⟩=St.get ⟨env,o⟩:=LZ env
 unfold nR at h ⊢
 rw [e]
 exact h
section
variable {P:Program} {G:Nat→Option (List DV)} {self:Bool→Nat→List LV→List aC→Option (LV×List aC)} {oQ:Nat→List LV→List (Option aC)→MR→Option (LV×List (Option aC))} {dat ro:Nat→Bool}
 (nG:∀ md k as af r ay,self md k as af=some (r,ay)→bh P G k as af r ay)
 (O9:∀ k as af gv Y yv ay,xI gv Y→oQ k as af gv=some (yv,ay)→Gf P G k as af Y (fun y o=>y=yv∧o=ay))
include nG O9
theorem dw (L:Nat):∀ (c:C) (gv:MR) (env:List (Nat×LV)) (af:List (Option aC)) {out:Out} {env':List (Nat×LV)} {ay:List (Option aC)} {K:wo},xI gv K.y→jC G self oQ dat ro L c gv env af=some (out,env',ay)→aaH K out ⟨env',ay⟩→vc P G c ⟨env,af⟩ K
 | .skip,gv,env,af,out,env',ay,K,hr,h,hK=>by
   cases h
   exact hK
 | .qV ops,gv,env,af,out,env',ay,K,hr,h,hK=>by
   unfold jC at h
   split at h
   ·rename_i e1 o1 hx
    cases h
    exact iS nG hr ops env af hx hK
   ·cases h
 | .nq ops,gv,env,af,out,env',ay,K,hr,h,hK=>by
   unfold jC at h
   split at h
   ·rename_i e1 o1 hx
    cases h
    exact h_ nG ops env af [] (K:=K.n) hx hK
   ·cases h
 | .seq a b,gv,env,af,out,env',ay,K,hr,h,hK=>by
   unfold jC at h
   unfold vc
   split at h
   ·rename_i e1 o1 hx
    exact dw L a gv env af (K:={ K with n:=fun s'=>vc P G b s' K }) hr hx (dw L b gv e1 o1 hr h hK)
   ·rename_i hn
    refine dw L a gv env af (K:={ K with n:=fun s'=>vc P G b s' K }) hr h ?_
    cases out with
    | n=>exact absurd h (hn _ _)
    | x i=>exact hK
    | r=>exact hK
 | .cond c a b,gv,env,af,out,env',ay,K,hr,h,hK=>by
   unfold jC at h
   unfold vc
   have lI:St.get ⟨env,af⟩=aW env:=rfl
   rw [lI]
   split at h
   ·rename_i t ht
    rw [ht]
    dsimp only
    split at h
    ·rename_i h1
     rw [if_pos h1]
     exact dw L a gv env af hr h hK
    ·rename_i h1
     rw [if_neg h1]
     exact dw L b gv env af hr h hK
   ·cases h
 | .block i b,gv,env,af,out,env',ay,K,hr,h,hK=>by
   unfold jC at h
   unfold vc
   split at h
   ·rename_i j e1 o1 hx
    cases h
    refine dw L b gv env af (K:={ K with x:=fun j s'=>if j=i then K.n s' else K.x j s' }) hr hx ?_
    unfold aaH at hK ⊢
    dsimp only
    by_cases hj:j=i
    ·rw [if_pos hj]; rw [if_pos hj] at hK; exact hK
    ·rw [if_neg hj]; rw [if_neg hj] at hK; exact hK
   ·rename_i hn
    refine dw L b gv env af (K:={ K with x:=fun j s'=>if j=i then K.n s' else K.x j s' }) hr h ?_
    cases out with
    | n=>exact hK
    | x j=>exact absurd h (hn _ _ _)
    | r=>exact hK
 | .loop b,gv,env,af,out,env',ay,K,hr,h,hK=>by
   unfold jC at h
   unfold vc
   refine ⟨slots env [],fun k s=>∃ e o,s=⟨e,o⟩∧iter (jC G self oQ dat ro L b gv) k e o=some (out,env',ay),L,[],⟨wL env,af,rfl,h⟩,?_⟩
   rintro k s' ⟨e,o,rfl,hi⟩
   cases k with
   | zero=>cases hi
   | succ k=>
     unfold iter at hi
     split at hi
     ·rename_i e1 o1 hx
      refine dw L b gv e o (K:={ K with n:=_ }) hr hx ?_
      exact ⟨k,Nat.lt_succ_self k,_,⟨wL e1,o1,rfl,hi⟩,IU.norm _ _ _⟩
     ·rename_i hn
      refine dw L b gv e o (K:={ K with n:=_ }) hr hi ?_
      cases out with
      | n=>exact absurd hi (hn _ _)
      | x i=>exact hK
      | r=>exact hK
 | .exit i,gv,env,af,out,env',ay,K,hr,h,hK=>by
   cases h
   exact hK
 | .ret,gv,env,af,out,env',ay,K,hr,h,hK=>by
   cases h
   exact hK
 | .scope b,gv,env,af,out,env',ay,K,hr,h,hK=>by
   unfold jC at h
   unfold vc
   exact dw L b gv env af hr h hK
 | .YA g ps a b,gv,env,af,out,env',ay,K,hr,h,hK=>by
   unfold jC at h
   unfold vc
   split at h
   ·rename_i k fs cs iY
    have abN:callee (g.ev G (St.get ⟨env,af⟩))=some (k,fs,cs):=iY
    rw [abN]
    dsimp only
    have key:∀ jm:Option Nat,yT jm env (oQ k (fs++[.yl af.length]++cs) (af++[none]) (Ex (jC G self oQ dat ro L a G_) (jC G self oQ dat ro L b G_) jm ps env af.length))=some (out,env',ay)→
      ∃ (R:LV→List (Option aC)→Prop),Gf P G k (fs++[.yl af.length]++cs) (af++[none]) (pX P G jm ps a b ⟨env,af⟩) R∧
        ∀ yv zj,R yv zj→(yv=ia∧K.n ⟨env,zj⟩)∨(yv=jv∧match jm with | some i=>i≠gN∧K.x i ⟨env,zj⟩ | none=>K.r ⟨env,zj⟩):=by
     intro jm hj
     cases hs:oQ k (fs++[.yl af.length]++cs) (af++[none]) (Ex (jC G self oQ dat ro L a G_) (jC G self oQ dat ro L b G_) jm ps env af.length) with
     | none=>rw [hs] at hj; simp [yT] at hj
     | some p=>
       obtain ⟨yv,o⟩:=p
       rw [hs] at hj
       refine ⟨_,O9 _ _ _ _ (pX P G jm ps a b ⟨env,af⟩) _ _ ?_ hs,?_⟩
       ·intro as adm ys ys' bb adl K' hrd AR
        unfold Ex at hrd
        split at hrd
        ·rename_i q as'
         split at hrd
         ·rename_i hc
          obtain ⟨hq,hR,hlen⟩:=hc
          have hys:=OM hR
          subst hq
          refine ⟨hys,rfl,hlen,?_⟩
          split at hrd
          ·rename_i e1 o1 hx
           refine dw L a G_ _ _ (K:=⟨_,_,_,qZ,none⟩) xI.no hx ?_
           show vc P G b _ _
           split at hrd
           ·rename_i e2 o2 hx2
            cases hrd
            exact dw L b G_ _ _ (K:=⟨_,_,_,qZ,none⟩) xI.no hx2 AR
           ·rename_i i e2 o2 hx2
            split at hrd
            ·rename_i hij
             cases hrd
             exact dw L b G_ _ _ (K:=⟨_,_,_,qZ,none⟩) xI.no hx2 ⟨hij.1,hij.2,AR⟩
            ·cases hrd
           ·rename_i e2 o2 hx2
            split at hrd
            ·rename_i hij
             cases hrd
             exact dw L b G_ _ _ (K:=⟨_,_,_,qZ,none⟩) xI.no hx2 ⟨hij,AR⟩
            ·cases hrd
           ·cases hrd
          ·cases hrd
         ·cases hrd
        ·cases hrd
       ·rintro yv' zj ⟨rfl,rfl⟩
        unfold yT at hj
        dsimp only at hj
        split at hj
        ·rename_i h1
         cases hj
         exact .inl ⟨OM h1,hK⟩
        ·split at hj
         ·rename_i h1
          refine .inr ⟨LK h1,?_⟩
          cases jm with
          | none=>dsimp only at hj ⊢; cases hj; exact hK
          | some i=>
            dsimp only at hj ⊢
            split at hj
            ·rename_i hi
             cases hj; exact ⟨hi,hK⟩
            ·cases hj
         ·cases hj
    split at h
    ·rename_i r QK
     cases h
     obtain ⟨R,h1,h2⟩:=key none QK
     exact ⟨none,R,h1,h2⟩
    ·obtain ⟨R,h1,h2⟩:=key (some 0) h
     exact ⟨some 0,R,h1,h2⟩
   ·cases h
end
section
variable {ρ Z:List Nat} {k:Nat}
mutual
theorem dS (h:∀ o,o<k→ρ[o]? = some o) (obj:Nat→b_):∀ (x:LV),eB k x=true→ah obj ρ Z x x
 | .top,_=>by simp [ah]
 | .dM,_=>by simp [ah]
 | .d x,_=>by simp [ah]
 | .ptr o c,hx=>by simp only [eB,decide_eq_true_eq] at hx; simp only [ah,h o hx,and_self]
 | .rp o n e r c,hx=>by simp only [eB,decide_eq_true_eq] at hx; simp only [ah,h o hx,and_self]
 | .ip ..,_=>by simp [ah]
 | .sl o n e l m,hx=>by simp only [eB,decide_eq_true_eq] at hx; simp only [ah,h o hx,and_self]
 | .fn f x y,hx=>by
   simp only [eB,Bool.and_eq_true] at hx
   simp only [ah,true_and]
   exact ⟨lS h obj x hx.1,lS h obj y hx.2⟩
 | .agg cs,hx=>by
   simp only [eB] at hx
   simp only [ah]
   exact lS h obj cs hx
 | .dH cs,hx=>by
   simp only [eB] at hx
   simp only [ah]
   exact lS h obj cs hx
 | .fL t v,hx=>by
   simp only [eB] at hx
   simp only [ah,true_and]
   exact dS h obj v hx
 | .yl o,hx=>by simp only [eB,decide_eq_true_eq] at hx; simp only [ah,h o hx]
 | .mr o,hx=>by simp only [eB,decide_eq_true_eq] at hx; simp only [ah,h o hx]
theorem lS (h:∀ o,o<k→ρ[o]? = some o) (obj:Nat→b_):∀ (xs:List LV),eu k xs=true→ag obj ρ Z xs xs
 | [],_=>by simp [ag]
 | x::xs,hx=>by
   simp only [eu,Bool.and_eq_true] at hx
   simp only [ag]
   exact ⟨dS h obj x hx.1,lS h obj xs hx.2⟩
end
end
mutual
theorem Bg {af:List (Option aC)} {k:Nat} {Z:List Nat} (hZ:∀ o e rows,k≤o→wF af o=some (e,rows)→o∈Z):∀ (x:LV),eB k (jj k af x)=true→ah (au af) (List.range k) Z x (jj k af x)
 | .sl o n e l m,h=>by
   unfold jj at h ⊢
   split at h
   ·rename_i hk
    rw [if_pos hk]
    split at h
    ·rename_i e0 rows hrow
     split at h
     ·rename_i hc
      rw [if_pos hc]
      obtain ⟨rfl,rfl,h4⟩:=hc
      simp only [ah,true_and]
      have hz:=hZ _ _ _ hk hrow
      unfold wF at hrow
      unfold bB au
      split at hrow
      ·rename_i heq; rw [heq]; cases hrow; exact ⟨hz,rfl,rfl,h4,rfl⟩
      ·rename_i heq; rw [heq]; cases hrow; exact ⟨hz,rfl,rfl,h4,rfl⟩
      ·cases hrow
     ·rename_i hc
      rw [if_neg hc]
      exact dS (fun o h=>er h) _ _ h
    ·exact dS (fun o h=>er h) _ _ h
   ·rename_i hk
    rw [if_neg hk]
    exact dS (fun o h=>er h) _ _ h
 | .dH vs,h=>by
   unfold jj at h ⊢
   simp only [eB] at h
   simp only [ah]
   exact yz hZ vs h
 | .top,h=>by unfold jj at h ⊢; exact dS (fun o h=>er h) _ _ h
 | .dM,h=>by unfold jj at h ⊢; exact dS (fun o h=>er h) _ _ h
 | .d x,h=>by unfold jj at h ⊢; exact dS (fun o h=>er h) _ _ h
 | .ptr o c,h=>by unfold jj at h ⊢; exact dS (fun o h=>er h) _ _ h
 | .rp o n e r c,h=>by unfold jj at h ⊢; exact dS (fun o h=>er h) _ _ h
 | .ip r c,h=>by unfold jj at h ⊢; exact dS (fun o h=>er h) _ _ h
 | .fn f a b,h=>by unfold jj at h ⊢; exact dS (fun o h=>er h) _ _ h
 | .agg cs,h=>by unfold jj at h ⊢; exact dS (fun o h=>er h) _ _ h
 | .fL t v,h=>by unfold jj at h ⊢; exact dS (fun o h=>er h) _ _ h
 | .yl o,h=>by unfold jj at h ⊢; exact dS (fun o h=>er h) _ _ h
 | .mr o,h=>by unfold jj at h ⊢; exact dS (fun o h=>er h) _ _ h
theorem yz {af:List (Option aC)} {k:Nat} {Z:List Nat} (hZ:∀ o e rows,k≤o→wF af o=some (e,rows)→o∈Z):∀ (xs:List LV),eu k (vu k af xs)=true→ag (au af) (List.range k) Z xs (vu k af xs)
 | [],_=>by simp [vu,ag]
 | x::xs,h=>by
   unfold vu at h ⊢
   simp only [eu,Bool.and_eq_true] at h
   simp only [ag]
   exact ⟨Bg hZ x h.1,yz hZ xs h.2⟩
end
theorem L9 {rv:List RV} {md:Bool} {k:Nat} {af:List (Option aC)} {env:List (Nat×LV)} {vs:List LV} {r:LV} {ay:List aC} (hvs:yf.of ⟨env,af⟩ rv=some vs) (h:ZW md k (aP vs) af=some (r,ay)):vh rv k r ay ⟨env,af⟩:=by
 unfold ZW at h
 split at h
 ·split at h
  ·rename_i obs hp
   split at h
   ·rename_i hc
    cases h
    obtain ⟨h1,h2⟩:=hc
    refine ⟨[],vs,List.range k,(List.range af.length).filter fun o=>decide (k≤o)&&(wF af o).isSome,hvs,?_,List.nodup_range,(fun z hz=>?_),(fun z hz=>?_),?_,fun i o hi=>?_,?_,Bg (fun o e rows hk hrow=>?_) _ h1⟩
    ·rw [List.take_range,Nat.min_self]
    ·simp at hz; simp; omega
    ·simp only [List.mem_filter,Bool.and_eq_true,decide_eq_true_eq] at hz
     have MV:=hz.2.2
     show ∃ et e rows,au af z=_∨au af z=_
     unfold wF at MV
     unfold au
     split at MV
     ·rename_i a b c heq; rw [heq]; exact ⟨_,_,_,.inl rfl⟩
     ·rename_i a b c heq; rw [heq]; exact ⟨_,_,_,.inr rfl⟩
     ·cases MV
    ·have:=BF hp; simpa using this
    ·obtain ⟨ob,en,hl⟩:=BG hp i o hi
     refine ⟨ob,en,?_⟩
     rw [List.all_eq_true] at h2
     have hk:i<k:=by
      have:=(List.getElem?_eq_some_iff.1 hi).1
      simpa using this
     rw [CS (fun o h=>sM h) _ (h2 _ (List.mem_of_getElem? en))]
     exact hl
    ·rw [List.length_range]; exact h2
    ·simp only [List.mem_filter,Bool.and_eq_true,decide_eq_true_eq,List.mem_range]
     have JT:wF af o=some (e,rows):=hrow
     refine ⟨?_,hk,by rw [JT]; rfl⟩
     unfold wF at JT
     rcases Nat.lt_or_ge o af.length with h3 | h3
     ·exact h3
     ·rw [List.getElem?_eq_none h3] at JT; cases JT
   ·cases h
  ·cases h
 ·dsimp only at h
  generalize reach af af.length (MN (List.range k) (nms (aP vs)))=ρ at h
  split at h
  ·rename_i obs hp
   split at h
   ·rename_i hc
    simp only [Bool.and_eq_true] at hc
    obtain ⟨⟨⟨h1,h2⟩,h3⟩,h4⟩:=hc
    cases h
    rw [List.all_eq_true] at h4
    refine ⟨[],vs,ρ,[],hvs,J6 _ _ h1,qp ρ h2,(fun z hz=>by cases hz),(fun z hz=>by cases hz),by simpa using BF hp,fun i o hi=>?_,?_,DK _ _ h3⟩
    ·obtain ⟨ob,en,hl⟩:=BG hp i o hi
     refine ⟨ff (fun o=>ρ.idxOf o) ob,by rw [List.getElem?_map,en]; rfl,?_⟩
     rw [Jf 0 ob (h4 ob (List.mem_of_getElem? en))]
     exact hl
    ·rw [List.all_map,List.all_eq_true]
     exact fun ob en=>JO ob (h4 ob en)
   ·cases h
  ·cases h
theorem yR {P:Program} {G:Nat→Option (List DV)} {T:Tab} (hh:∀ f md args af r ay,T.hand f md args af=some (r,ay)→bh P G f args af r ay)
  (hir:∀ f ir,T.ir f=some ir→∃ fn,P.funcs[f]? = some fn∧(fn.name != "runtime.NumGoroutine")=true∧aj P fn=some ir) (L:Nat) :
  ∀ (d:Nat),(∀ (md:Bool) (f:Nat) (args:List LV) (af:List aC) (r:LV) (ay:List aC),yQ G T L d md f args af=some (r,ay)→bh P G f args af r ay)∧
    (∀ k as af gv Y yv ay,xI gv Y→Nw G T L d k as af gv=some (yv,ay)→Gf P G k as af Y (fun y o=>y=yv∧o=ay))
 | 0=>⟨(fun md f args af r ay h=>by unfold yQ at h; cases h),(fun k as af gv Y yv ay _ h=>by unfold Nw at h; cases h)⟩
 | d+1=>by
   obtain ⟨ihF,ihI⟩:=yR hh hir L d
   refine ⟨fun md f args af r ay h=>?_,fun k as af gv Y yv ay hr h=>?_⟩
   ·unfold yQ at h
    split at h
    ·rename_i p hp
     cases h
     exact hh _ _ _ _ _ _ hp
    ·split at h
     ·rename_i N c rv hi
      obtain ⟨fn,hf,hn,gR⟩:=hir _ _ hi
      split at h
      ·rename_i hl
       split at h
       ·cases h
       ·rename_i out env o1 hx hrun
        split at h
        ·rename_i vs hvs
         refine yx hf (by simpa using hn) gR hl (dw ihF ihI L c G_ _ _ (K:=⟨_,_,_,qZ,none⟩) xI.no hrun ?_)
         have hb:=L9 hvs h
         cases hx2:out with
         | n=>exact hb
         | x i=>exact (hx i hx2).elim
         | r=>exact hb
        ·cases h
       ·cases h
      ·cases h
     ·cases h
   ·unfold Nw at h
    split at h
    ·rename_i N c rv hi
     obtain ⟨fn,hf,hn,gR⟩:=hir _ _ hi
     split at h
     ·rename_i hl
      obtain ⟨⟨hl,HM⟩,LM⟩:=hl
      split at h
      ·cases h
      ·rename_i out env o1 hx hrun
       cases h
       refine JA hf (by simpa using hn) gR hl HM (dw ihF ihI L c gv _ _ (K:=⟨_,_,_,Y,none⟩) hr hrun ?_)
       cases hx2:out with
       | n=>exact ⟨⟨rfl,rfl⟩,LM⟩
       | x i=>exact (hx i hx2).elim
       | r=>exact ⟨⟨rfl,rfl⟩,LM⟩
      ·cases h
     ·cases h
    ·cases h
theorem GK {P:Program} {G:Nat→Option (List DV)} {T:Tab} (hh:∀ f md args af r ay,T.hand f md args af=some (r,ay)→bh P G f args af r ay)
  (hir:∀ f ir,T.ir f=some ir→∃ fn,P.funcs[f]? = some fn∧(fn.name != "runtime.NumGoroutine")=true∧aj P fn=some ir) (L d:Nat) (md:Bool) (f:Nat) (args:List LV) (af:List aC) (r:LV) (ay:List aC) (h:yQ G T L d md f args af=some (r,ay)):bh P G f args af r ay:=
 (yR hh hir L d).1 md f args af r ay h
def wR (P:Program) (f:Nat):Option (Nat×C×List RV):=match P.funcs[f]? with
 | some fn=>if (fn.name != "runtime.NumGoroutine")=true then aj P fn else none
 | none=>none
theorem ON {P:Program} (f:Nat) (ir:Nat×C×List RV) (h:wR P f=some ir):∃ fn,P.funcs[f]? = some fn∧(fn.name != "runtime.NumGoroutine")=true∧aj P fn=some ir:=by
 unfold wR at h
 split at h
 ·rename_i fn hf
  split at h
  ·rename_i hn
   exact ⟨fn,hf,hn,h⟩
  ·cases h
 ·cases h
end Dv
