/- The logical machine: part V24. -/
import Derived.Test.YtkalnfkokkjliaaGreatDoorVD
set_option linter.unusedVariables false
set_option linter.unusedSimpArgs false
namespace Dv
open Go
inductive Out where
 | n
 | x (i:Nat)
 | r
structure Xj where
 ir:Nat→Option (Nat×C×List RV)
 hand:Nat→Bool→List LV→List aD→Option (LV×List aD)
 dat:Nat→Nat→Bool
 ro:Nat→Nat→Bool
mutual
def oE (ρ:List Nat):LV→Bool
 | .top=>true
 | .c_=>true
 | .d _=>true
 | .ptr o _=>ρ.contains o
 | .rp o _ _ _ _=>ρ.contains o
 | .ip _ _=>true
 | .sl o _ _ _ _=>ρ.contains o
 | .fn _ a b=>s0 ρ a&&s0 ρ b
 | .agg cs=>s0 ρ cs
 | .dP vs=>s0 ρ vs
 | .fe _ v=>oE ρ v
 | .yl _=>false
 | .mr o=>ρ.contains o
def s0 (ρ:List Nat):List LV→Bool
 | []=>true
 | x::xs=>oE ρ x&&s0 ρ xs
end
def UC (ρ:List Nat):aD→Bool
 | .box _ cells=>s0 ρ cells
 | .mp es=>es.all fun p=>oE ρ p.2
 | _=>true
mutual
def U9:LV→List Nat
 | .ptr o _=>[o]
 | .mr o=>[o]
 | .rp o _ _ _ _=>[o]
 | .sl o _ _ _ _=>[o]
 | .fn _ a b=>Bq a++Bq b
 | .agg cs=>Bq cs
 | .dP vs=>Bq vs
 | .fe _ v=>U9 v
 | _=>[]
def Bq:List LV→List Nat
 | []=>[]
 | x::xs=>U9 x++Bq xs
end
def X8:aD→List Nat
 | .box _ cells=>Bq cells
 | .mp es=>es.flatMap fun p=>U9 p.2
 | _=>[]
def H9 (l:List Nat):List Nat→List Nat
 | []=>l
 | x::xs=>H9 (if l.contains x then l else l++[x]) xs
def reach (objs:List (Option aD)):Nat→List Nat→List Nat
 | 0,ρ=>ρ
 | n+1,ρ=>
   let ρ':=H9 ρ (ρ.flatMap fun o=>match objs[o]? with | some (some ob)=>X8 ob | _=>[])
   if ρ'.length=ρ.length then ρ else reach objs n ρ'
def q_ (objs:List (Option aD)):List Nat→Option (List aD)
 | []=>some []
 | o::r=>match objs[o]?,q_ objs r with
   | some (some ob),some l=>some (ob::l)
   | _,_=>none
def slots:List (Nat×LV)→List Nat→List Nat
 | [],acc=>acc
 | (k,_)::r,acc=>slots r (if acc.contains k then acc else acc++[k])
def tV (env:List (Nat×LV)):List (Nat×LV):=(slots env []).map fun t=>(t,bx env t)
def nodupB:List Nat→Bool
 | []=>true
 | x::xs=>!xs.contains x&&nodupB xs
def Xy:LV→Bool
 | .d (.val (.tuple a))=>a.size==0
 | _=>false
def isLeft:LV→Bool
 | .dP []=>true
 | _=>false
abbrev Xp:=Option (Out×List (Nat×LV)×List (Option aD))
abbrev Ii:=List LV→List (Option aD)→LV→Option (LV×Bool×List (Option aD))
def Dw:Ii:=fun _ _ _=>none
def Bc (ra rb:List (Nat×LV)→List (Option aD)→Xp) (jm:Option Nat) (ps:List Nat) (env:List (Nat×LV)) (oy:Nat):Ii:=fun as objs ys=>match as with
 | .yl q::as=>if q=oy∧Xy ys=true∧as.length=ps.length then (match ra (rX ps as env) objs with
   | some (.n,e1,o1)=>(match rb e1 o1 with
     | some (.n,_,o)=>some (jK,true,o)
     | some (.x i,_,o)=>if i≠AG∧jm=some i then some (jS,false,o) else none
     | some (.r,_,o)=>if jm=none then some (jS,false,o) else none
     | none=>none)
   | _=>none) else none
 | _=>none
def IW:Value→Value→Bool
 | .int k n,.int k' n'=>decide (k=k')&&decide (n=n')
 | .bool a,.bool b=>decide (a=b)
 | .string a,.string b=>decide (a=b)
 | .pointer none,.pointer none=>true
 | .slice none n c,.slice none n' c'=>Nat.beq n n'&&Nat.beq c c'
 | .nilFunc,.nilFunc=>true
 | _,_=>false
mutual
def nJ:DV→DV→Bool
 | .val a,.val b=>IW a b
 | .dY e rows,.dY e' PI=>Nat.beq e e'&&nI rows PI
 | .agg a,.agg b=>pR a b
 | _,_=>false
def pR:List DV→List DV→Bool
 | [],[]=>true
 | x::xs,y::ys=>nJ x y&&pR xs ys
 | _,_=>false
def nI:List (List DV)→List (List DV)→Bool
 | [],[]=>true
 | x::xs,y::ys=>pR x y&&nI xs ys
 | _,_=>false
end
mutual
def EP:LV→LV→Bool
 | .top,.top=>true
 | .d x,.d y=>nJ x y
 | .ptr o c,.ptr o' c'=>Nat.beq o o'&&Nat.beq c c'
 | .sl o n e l k,.sl o' n' e' l' k'=>Nat.beq o o'&&Nat.beq n n'&&Nat.beq e e'&&Nat.beq l l'&&Nat.beq k k'
 | .rp o n e l k,.rp o' n' e' l' k'=>Nat.beq o o'&&Nat.beq n n'&&Nat.beq e e'&&Nat.beq l l'&&Nat.beq k k'
 | .agg a,.agg b=>l5 a b
 | _,_=>false
def l5:List LV→List LV→Bool
 | [],[]=>true
 | x::xs,y::ys=>EP x y&&l5 xs ys
 | _,_=>false
end
def A6:Option aD→Option aD→Bool
 | some (.box t a),some (.box t' b)=>decide (t=t')&&l5 a b
 | some (.dat t e a),some (.dat t' e' b)=>decide (t=t')&&Nat.beq e e'&&nI a b
 | some (.kA t e a),some (.kA t' e' b)=>decide (t=t')&&Nat.beq e e'&&nI a b
 | _,_=>false
section
variable (G:Nat→Option (List DV)) (self:Bool→Nat→List LV→List aD→Option (LV×List aD)) (mP:Nat→List LV→List (Option aD)→Ii→Option (LV×List (Option aD))) (dat ro:Nat→Bool)
def Eh (k:Nat) (as:List LV) (objs:List (Option aD)):Option eN:=
 let ρ:=reach objs objs.length (H9 [] (Bq as))
 match q_ objs ρ with
 | some obs=>
   if s0 ρ as&&obs.all (UC ρ)&&nodupB ρ then
    match self (dat k) k (lU (fun o=>ρ.idxOf o) as) (obs.map (fc fun o=>ρ.idxOf o)) with
    | some (r,aF)=>if obs.length≤aF.length then
      some { r:=rn (bB ρ objs.length) r,rd:=ρ,wr:=(if ro k=true then (ρ.zip (aF.map (fc (bB ρ objs.length)))).filter fun p=>!A6 aF[ρ.idxOf p.1]? (obs.map (fc fun o=>ρ.idxOf o))[ρ.idxOf p.1]? else ρ.zip (aF.map (fc (bB ρ objs.length)))),nw:=(aF.drop ρ.length).map (fc (bB ρ objs.length)) } else none
    | none=>none
   else none
 | none=>none
def WZ (i:I) (env:List (Nat×LV)) (objs:List (Option aD)):Option eN:=
 match i with
 | .call f args=>match callee (f.ev G (bx env)) with
   | some (k,fs,cs)=>Eh self dat ro k (fs++args.map (·.ev G (bx env))++cs) objs
   | none=>none
 | i=>cB G (bx env) (aB objs) objs.length i
def ZU (fD:Ii) (i:I) (env:List (Nat×LV)) (objs:List (Option aD)):Option (LV×Bool×List (Option aD)):=
 match i with
 | .call f args=>match callee (f.ev G (bx env)) with
   | some _=>none
   | none=>match f.ev G (bx env) with
     | .yl oy=>fD (.yl oy::args.map (·.ev G (bx env))) objs (bx env YS)
     | _=>none
 | _=>none
def XQ (fD:Ii) (o:dD) (env:List (Nat×LV)) (objs:List (Option aD)):Option (List (Nat×LV)×List (Option aD)):=
 match WZ G self dat ro o.op env objs with
 | some e=>some (dU o.dst e.r env,fN e.wr objs++e.nw.map some)
 | none=>match ZU G fD o.op env objs with
   | some (ys,b,ay)=>some (dU o.dst (.bool b) ((YS,ys)::env),ay)
   | none=>none
def pS (fD:Ii):List dD→List (Nat×LV)→List (Option aD)→Option (List (Nat×LV)×List (Option aD))
 | [],env,objs=>some (env,objs)
 | o::os,env,objs=>
   match o.guard with
   | none=>(match XQ G self dat ro fD o env objs with
     | some (env',ay)=>pS fD os env' ay
     | none=>none)
   | some (g,want)=>match bx env g with
     | .d (.val (.bool b))=>if b=want then (match XQ G self dat ro fD o env objs with
       | some (env',ay)=>pS fD os env' ay
       | none=>none) else pS fD os (dU o.dst .undef env) objs
     | .d (.val (.tuple _))=>pS fD os (dU o.dst .undef env) objs
     | _=>none
def ko:List dD→List (Nat×LV)→List (Option aD)→List gC→Option (List (Nat×LV)×List (Option aD))
 | [],env,objs,log=>if indep log=true then some (env,objs) else none
 | o::os,env,objs,log=>
   match o.guard with
   | none=>(match WZ G self dat ro o.op env objs with
     | some e=>ko os (dU o.dst e.r env) (fN e.wr objs++e.nw.map some) (log++[⟨o.pre,e.rd,(e.owned objs.length).map (·.1)⟩])
     | none=>none)
   | some (g,want)=>match bx env g with
     | .d (.val (.bool b))=>if b=want then (match WZ G self dat ro o.op env objs with
       | some e=>ko os (dU o.dst e.r env) (fN e.wr objs++e.nw.map some) (log++[⟨o.pre,e.rd,(e.owned objs.length).map (·.1)⟩])
       | none=>none) else ko os (dU o.dst .undef env) objs (log++[⟨o.pre,[],[]⟩])
     | .d (.val (.tuple _))=>ko os (dU o.dst .undef env) objs (log++[⟨o.pre,[],[]⟩])
     | _=>none
def iter (f:List (Nat×LV)→List (Option aD)→Xp):Nat→List (Nat×LV)→List (Option aD)→Xp
 | 0,_,_=>none
 | n+1,env,objs=>match f env objs with
   | some (.n,env',ay)=>iter f n (tV env') ay
   | r=>r
def vw (jm:Option Nat) (env:List (Nat×LV)):Option (LV×List (Option aD))→Xp
 | some (yv,o)=>if Xy yv=true then some (.n,env,o) else if isLeft yv=true then (match jm with
   | some i=>if i≠AG then some (.x i,env,o) else none
   | none=>some (.r,env,o)) else none
 | none=>none
def iz (L:Nat):C→Ii→List (Nat×LV)→List (Option aD)→Xp
 | .skip,fD,env,objs=>some (.n,env,objs)
 | .af ops,fD,env,objs=>match pS G self dat ro fD ops env objs with
   | some (env',ay)=>some (.n,env',ay)
   | none=>none
 | .bQ ops,fD,env,objs=>match ko G self dat ro ops env objs [] with
   | some (env',ay)=>some (.n,env',ay)
   | none=>none
 | .seq a b,fD,env,objs=>match iz L a fD env objs with
   | some (.n,env',ay)=>iz L b fD env' ay
   | r=>r
 | .cond c a b,fD,env,objs=>match c.ev G (bx env) with
   | .d (.val (.bool t))=>if t=true then iz L a fD env objs else iz L b fD env objs
   | _=>none
 | .block i b,fD,env,objs=>match iz L b fD env objs with
   | some (.x j,env',ay)=>some (if j=i then .n else .x j,env',ay)
   | r=>r
 | .loop b,fD,env,objs=>iter (iz L b fD) L (tV env) objs
 | .exit i,fD,env,objs=>some (.x i,env,objs)
 | .ret,fD,env,objs=>some (.r,env,objs)
 | .scope b,fD,env,objs=>iz L b fD env objs
 | .PJ g ps a b,fD,env,objs=>match callee (g.ev G (bx env)) with
   | some (k,fs,cs)=>(match vw none env (mP k (fs++[.yl objs.length]++cs) (objs++[none]) (Bc (iz L a Dw) (iz L b Dw) none ps env objs.length)) with
     | some r=>some r
     | none=>vw (some 0) env (mP k (fs++[.yl objs.length]++cs) (objs++[none]) (Bc (iz L a Dw) (iz L b Dw) (some 0) ps env objs.length)))
   | none=>none
end
def tO (objs:List (Option aD)) (o:Nat):Option (Nat×List (List DV)):=match objs[o]? with
 | some (some (.dat _ e rows))=>some (e,rows)
 | some (some (.kA _ e rows))=>some (e,rows)
 | _=>none
mutual
def ig (k:Nat) (objs:List (Option aD)):LV→LV
 | .sl o n e lo len=>if k≤o then (match tO objs o with
   | some (e0,rows)=>if e=e0∧n=rows.length∧lo+len≤rows.length then .d (.dY e ((rows.drop lo).take len)) else .sl o n e lo len
   | none=>.sl o n e lo len) else .sl o n e lo len
 | .dP vs=>.dP (sD k objs vs)
 | x=>x
def sD (k:Nat) (objs:List (Option aD)):List LV→List LV
 | []=>[]
 | x::xs=>ig k objs x::sD k objs xs
end
def Hz:List Nat→List Nat→Bool
 | [],[]=>true
 | x::xs,y::ys=>Nat.beq x y&&Hz xs ys
 | _,_=>false
def T0 (md:Bool) (k:Nat) (r:LV) (objs:List (Option aD)):Option (LV×List aD):=
 if md=true then (match q_ objs (List.range k) with
  | some obs=>if dZ k (ig k objs r)=true∧obs.all (ei k)=true then some (ig k objs r,obs) else none
  | none=>none)
 else let ρ:=reach objs objs.length (H9 (List.range k) (U9 r))
  match q_ objs ρ with
  | some obs=>if (Hz (ρ.take k) (List.range k)&&nodupB ρ&&oE ρ r&&obs.all (UC ρ))=true then some (rn (fun o=>ρ.idxOf o) r,obs.map (fc fun o=>ρ.idxOf o)) else none
  | none=>none
mutual
def oQ (G:Nat→Option (List DV)) (T:Xj) (L:Nat):Nat→Bool→Nat→List LV→List aD→Option (LV×List aD)
 | 0,_,_,_,_=>none
 | d+1,md,f,args,objs=>match T.hand f md args objs with
   | some r=>some r
   | none=>match T.ir f with
     | some (N,c,rv)=>if args.length≤N then (match iz G (oQ G T L d) (I1 G T L d) (T.dat f) (T.ro f) L c Dw (fM 0 args) (objs.map some) with
       | some (.x _,_,_)=>none
       | some (_,env,ay)=>(match xA.of ⟨env,ay⟩ rv with
         | some vs=>T0 md objs.length (aW vs) ay
         | none=>none)
       | none=>none) else none
     | none=>none
def I1 (G:Nat→Option (List DV)) (T:Xj) (L:Nat):Nat→Nat→List LV→List (Option aD)→Ii→Option (LV×List (Option aD))
 | 0,_,_,_,_=>none
 | d+1,f,args,objs,fD=>match T.ir f with
   | some (N,c,rv)=>if (args.length≤N∧j7 c=true)∧rv=[] then (match iz G (oQ G T L d) (I1 G T L d) (T.dat f) (T.ro f) L c fD ((YS,jK)::fM 0 args) objs with
     | some (.x _,_,_)=>none
     | some (_,env,ay)=>some (bx env YS,ay)
     | none=>none) else none
   | none=>none
end
theorem rH {ρ:List Nat} {o:Nat} (h:o∈ρ):ρ[ρ.idxOf o]? = some o:=by
 have hl:=List.idxOf_lt_length_of_mem h
 rw [List.getElem?_eq_getElem hl,List.getElem_idxOf hl]
theorem z_ {ρ:List Nat} {o:Nat} (b:Nat) (h:o∈ρ):bB ρ b (ρ.idxOf o)=o:=by
 unfold bB; rw [rH h]
section
variable {ρ:List Nat}
mutual
theorem De (b:Nat):∀ (x:LV),oE ρ x=true→rn (bB ρ b) (rn (fun o=>ρ.idxOf o) x)=x
 | .top,_=>rfl
 | .c_,_=>rfl
 | .d x,_=>rfl
 | .ptr o c,h=>by simp only [oE,List.contains_iff_mem] at h; simp only [rn,z_ b h]
 | .rp o n e r c,h=>by simp only [oE,List.contains_iff_mem] at h; simp only [rn,z_ b h]
 | .ip ..,_=>rfl
 | .sl o n e l m,h=>by simp only [oE,List.contains_iff_mem] at h; simp only [rn,z_ b h]
 | .fn f x y,h=>by
   simp only [oE,Bool.and_eq_true] at h
   simp only [rn,ox b x h.1,ox b y h.2]
 | .agg cs,h=>by
   simp only [oE] at h
   simp only [rn,ox b cs h]
 | .dP cs,h=>by
   simp only [oE] at h
   simp only [rn,ox b cs h]
 | .fe t v,h=>by
   simp only [oE] at h
   simp only [rn,De b v h]
 | .yl _,h=>by simp [oE] at h
 | .mr o,h=>by simp only [oE,List.contains_iff_mem] at h; simp only [rn,z_ b h]
theorem ox (b:Nat):∀ (xs:List LV),s0 ρ xs=true→lU (bB ρ b) (lU (fun o=>ρ.idxOf o) xs)=xs
 | [],_=>rfl
 | x::xs,h=>by
   simp only [s0,Bool.and_eq_true] at h
   simp only [lU,De b x h.1,ox b xs h.2]
end
theorem ET (b:Nat) (ob:aD) (h:UC ρ ob=true):fc (bB ρ b) (fc (fun o=>ρ.idxOf o) ob)=ob:=by
 cases ob with
 | box et cells=>simp only [fc]; rw [ox b cells h]
 | mp es=>
   simp only [UC,List.all_eq_true] at h
   simp only [fc,aD.mp.injEq,List.map_map]
   conv=>rhs; rw [← List.map_id es]
   exact List.map_congr_left fun p hp=>by simp [De b p.2 (h p hp)]
 | _=>rfl
mutual
theorem DL:∀ (x:LV),oE ρ x=true→dZ ρ.length (rn (fun o=>ρ.idxOf o) x)=true
 | .top,_=>rfl
 | .c_,_=>rfl
 | .d x,_=>rfl
 | .ptr o c,h=>by simp only [oE,List.contains_iff_mem] at h; simpa only [rn,dZ,decide_eq_true_eq] using List.idxOf_lt_length_of_mem h
 | .rp o n e r c,h=>by simp only [oE,List.contains_iff_mem] at h; simpa only [rn,dZ,decide_eq_true_eq] using List.idxOf_lt_length_of_mem h
 | .ip ..,_=>rfl
 | .sl o n e l m,h=>by simp only [oE,List.contains_iff_mem] at h; simpa only [rn,dZ,decide_eq_true_eq] using List.idxOf_lt_length_of_mem h
 | .fn f x y,h=>by
   simp only [oE,Bool.and_eq_true] at h
   simp only [rn,dZ,oF x h.1,oF y h.2,Bool.and_self]
 | .agg cs,h=>by
   simp only [oE] at h
   simp only [rn,dZ,oF cs h]
 | .dP cs,h=>by
   simp only [oE] at h
   simp only [rn,dZ,oF cs h]
 | .fe t v,h=>by
   simp only [oE] at h
   simp only [rn,dZ,DL v h]
 | .yl _,h=>by simp [oE] at h
 | .mr o,h=>by simp only [oE,List.contains_iff_mem] at h; simpa only [rn,dZ,decide_eq_true_eq] using List.idxOf_lt_length_of_mem h
theorem oF:∀ (xs:List LV),s0 ρ xs=true→ej ρ.length (lU (fun o=>ρ.idxOf o) xs)=true
 | [],_=>rfl
 | x::xs,h=>by
   simp only [s0,Bool.and_eq_true] at h
   simp only [lU,ej,DL x h.1,oF xs h.2,Bool.and_self]
end
theorem Fs (ob:aD) (h:UC ρ ob=true):ei ρ.length (fc (fun o=>ρ.idxOf o) ob)=true:=by
 cases ob with
 | box et cells=>exact oF cells h
 | mp es=>
   simp only [UC,List.all_eq_true] at h
   simp only [fc,ei,List.all_map,List.all_eq_true]
   exact fun p hp=>DL p.2 (h p hp)
 | _=>rfl
mutual
theorem AA (obj:Nat→cv):∀ (x:LV),oE ρ x=true→ai obj ρ [] x (rn (fun o=>ρ.idxOf o) x)
 | .top,_=>by simp [rn,ai]
 | .c_,_=>by simp [rn,ai]
 | .d x,_=>by simp [rn,ai]
 | .ptr o c,h=>by simp only [oE,List.contains_iff_mem] at h; simp only [rn,ai,rH h,and_self]
 | .rp o n e r c,h=>by simp only [oE,List.contains_iff_mem] at h; simp only [rn,ai,rH h,and_self]
 | .ip ..,_=>by simp [rn,ai]
 | .sl o n e l m,h=>by simp only [oE,List.contains_iff_mem] at h; simp only [rn,ai,rH h,and_self]
 | .fn f x y,h=>by
   simp only [oE,Bool.and_eq_true] at h
   simp only [rn,ai,true_and]
   exact ⟨jY obj x h.1,jY obj y h.2⟩
 | .agg cs,h=>by
   simp only [oE] at h
   simp only [rn,ai]
   exact jY obj cs h
 | .dP cs,h=>by
   simp only [oE] at h
   simp only [rn,ai]
   exact jY obj cs h
 | .fe t v,h=>by
   simp only [oE] at h
   simp only [rn,ai,true_and]
   exact AA obj v h
 | .yl _,h=>by simp [oE] at h
 | .mr o,h=>by simp only [oE,List.contains_iff_mem] at h; simp only [rn,ai,rH h]
theorem jY (obj:Nat→cv):∀ (xs:List LV),s0 ρ xs=true→ah obj ρ [] xs (lU (fun o=>ρ.idxOf o) xs)
 | [],_=>by simp [lU,ah]
 | x::xs,h=>by
   simp only [s0,Bool.and_eq_true] at h
   simp only [lU,ah]
   exact ⟨AA obj x h.1,jY obj xs h.2⟩
end
end
theorem nU:∀ (l:List Nat),nodupB l=true→l.Nodup
 | [],_=>List.nodup_nil
 | x::xs,h=>by
   simp only [nodupB,Bool.and_eq_true,Bool.not_eq_true',List.contains_eq_mem,decide_eq_false_iff_not] at h
   exact List.nodup_cons.2 ⟨h.1,nU xs h.2⟩
theorem FF:∀ (l m:List Nat),Hz l m=true→l=m
 | [],[],_=>rfl
 | x::xs,y::ys,h=>by
   simp only [Hz,Bool.and_eq_true] at h
   rw [Nat.eq_of_beq_eq_true h.1,FF xs ys h.2]
 | [],_::_,h=>by simp [Hz] at h
 | _::_,[],h=>by simp [Hz] at h
theorem JZ {x:LV} (h:Xy x=true):x=jK:=by
 unfold Xy at h
 split at h
 ·rename_i a
  have:a=#[]:=by
   apply Array.eq_empty_of_size_eq_zero
   simpa using h
  subst this; rfl
 ·cases h
theorem G1 {x:LV} (h:isLeft x=true):x=jS:=by
 unfold isLeft at h
 split at h
 ·rfl
 ·cases h
theorem oB {objs:List (Option aD)} : ∀ {ρ:List Nat} {obs:List aD},q_ objs ρ=some obs→ρ.map (aB objs)=obs.map cv.live
 | [],obs,h=>by cases h; rfl
 | o::r,obs,h=>by
   simp only [q_] at h
   split at h
   ·rename_i ob l h1 h2
    cases h
    rw [List.map_cons,List.map_cons,oB h2]
    congr 1
    simp [aB,h1]
   ·cases h
theorem yy {objs:List (Option aD)} {ρ:List Nat} {obs:List aD} (h:q_ objs ρ=some obs) (i o:Nat) (hi:ρ[i]? = some o):∃ ob,obs[i]? = some ob∧aB objs o=.live ob:=by
 have h1:=congrArg (fun l=>l[i]?) (oB h)
 simp only [List.getElem?_map,hi,Option.map_some] at h1
 cases hob:obs[i]? with
 | none=>rw [hob] at h1; cases h1
 | some ob=>rw [hob] at h1; exact ⟨ob,rfl,Option.some.inj h1⟩
theorem yx {objs:List (Option aD)} {ρ:List Nat} {obs:List aD} (h:q_ objs ρ=some obs):obs.length=ρ.length:=by
 have:=congrArg List.length (oB h)
 simpa using this.symm
theorem IV:∀ (a b:Value),IW a b=true→a=b:=by
 intro a b h
 unfold IW at h
 split at h <;> (try (cases h; done)) <;> simp only [Bool.and_eq_true,decide_eq_true_eq] at h
 ·rw [h.1,h.2]
 ·rw [h]
 ·rw [h]
 ·rfl
 ·rw [Nat.eq_of_beq_eq_true h.1,Nat.eq_of_beq_eq_true h.2]
 ·rfl
mutual
theorem A7:∀ (a b:DV),nJ a b=true→a=b
 | .val a,.val b,h=>by simp only [nJ] at h; rw [IV _ _ h]
 | .dY e rows,.dY e' PI,h=>by
   simp only [nJ,Bool.and_eq_true] at h
   rw [Nat.eq_of_beq_eq_true h.1,ov _ _ h.2]
 | .agg a,.agg b,h=>by simp only [nJ] at h; rw [sI _ _ h]
 | .val _,.dY ..,h | .val _,.fn ..,h | .val _,.fe ..,h | .val _,.agg _,h=>by simp [nJ] at h
 | .dY ..,.val _,h | .dY ..,.fn ..,h | .dY ..,.fe ..,h | .dY ..,.agg _,h=>by simp [nJ] at h
 | .agg _,.val _,h | .agg _,.fn ..,h | .agg _,.fe ..,h | .agg _,.dY ..,h=>by simp [nJ] at h
 | .fn ..,_,h=>by simp [nJ] at h
 | .fe ..,_,h=>by simp [nJ] at h
theorem sI:∀ (a b:List DV),pR a b=true→a=b
 | [],[],_=>rfl
 | x::xs,y::ys,h=>by
   simp only [pR,Bool.and_eq_true] at h
   rw [A7 _ _ h.1,sI _ _ h.2]
 | [],_::_,h=>by simp [pR] at h
 | _::_,[],h=>by simp [pR] at h
theorem ov:∀ (a b:List (List DV)),nI a b=true→a=b
 | [],[],_=>rfl
 | x::xs,y::ys,h=>by
   simp only [nI,Bool.and_eq_true] at h
   rw [sI _ _ h.1,ov _ _ h.2]
 | [],_::_,h=>by simp [nI] at h
 | _::_,[],h=>by simp [nI] at h
end
mutual
theorem IX:∀ (a b:LV),EP a b=true→a=b:=by
 intro a b h
 cases a <;> cases b <;> (try (simp [EP] at h; done)) <;> simp only [EP,Bool.and_eq_true] at h
 ·rfl
 ·rw [A7 _ _ h]
 ·rw [Nat.eq_of_beq_eq_true h.1,Nat.eq_of_beq_eq_true h.2]
 ·rw [Nat.eq_of_beq_eq_true h.1.1.1.1,Nat.eq_of_beq_eq_true h.1.1.1.2,Nat.eq_of_beq_eq_true h.1.1.2,Nat.eq_of_beq_eq_true h.1.2,Nat.eq_of_beq_eq_true h.2]
 ·rw [Nat.eq_of_beq_eq_true h.1.1.1.1,Nat.eq_of_beq_eq_true h.1.1.1.2,Nat.eq_of_beq_eq_true h.1.1.2,Nat.eq_of_beq_eq_true h.1.2,Nat.eq_of_beq_eq_true h.2]
 ·rw [lC _ _ h]
theorem lC:∀ (a b:List LV),l5 a b=true→a=b
 | [],[],_=>rfl
 | x::xs,y::ys,h=>by
   simp only [l5,Bool.and_eq_true] at h
   rw [IX _ _ h.1,lC _ _ h.2]
 | [],_::_,h=>by simp [l5] at h
 | _::_,[],h=>by simp [l5] at h
end
theorem A5 {a b:Option aD} (h:A6 a b=true):a=b:=by
 unfold A6 at h
 split at h <;> (try (cases h; done)) <;> simp only [Bool.and_eq_true,decide_eq_true_eq] at h
 ·rw [h.1,lC _ _ h.2]
 ·rw [h.1.1,Nat.eq_of_beq_eq_true h.1.2,ov _ _ h.2]
 ·rw [h.1.1,Nat.eq_of_beq_eq_true h.1.2,ov _ _ h.2]
theorem bX.WO {P:Program} {G:Nat→Option (List DV)} {k:Nat} {args aZ:List LV} {obj:Nat→cv} {base:Nat} {r:LV} {aM aF:List aD} (ρ:List Nat) (keep:Nat→Bool) (hT:bw P G k aZ aM r aF) (ha:ah obj ρ [] args aZ) (hnd:ρ.Nodup) (ho:ρ.map obj=aM.map (fun ob=>cv.live (fc (bB ρ base) ob))) (hid:aM.all (ei ρ.length)=true) (hle:aM.length≤aF.length)
  (hkeep:∀ (i o:Nat),ρ[i]? = some o→keep o=false→aF[i]? = aM[i]?) :
  bX P G k args obj base { r:=rn (bB ρ base) r,rd:=ρ,wr:=(ρ.zip (aF.map (fc (bB ρ base)))).filter fun p=>keep p.1,nw:=(aF.drop ρ.length).map (fc (bB ρ base)) }:=
 ⟨⟨ρ,[],false,aZ,aM,r,aF,keep,hkeep,hnd,(fun _ h=>by cases h),(fun _ h=>by cases h),by have:=congrArg List.length ho; simpa using this.symm,(fun i o hi=>by
   have h1:(ρ.map obj)[i]? = some (obj o):=by rw [List.getElem?_map,hi]; rfl
   rw [ho,List.getElem?_map] at h1
   cases hf:aM[i]? with
   | none=>rw [hf] at h1; cases h1
   | some ob=>rw [hf] at h1; simp at h1; exact ⟨ob,rfl,h1.symm⟩),hid,ha,(fun h=>by cases h),hle,hT,by simp [fF]⟩⟩
section
variable {P:Program} {G:Nat→Option (List DV)} {self:Bool→Nat→List LV→List aD→Option (LV×List aD)} {dat ro:Nat→Bool}
 (lI:∀ md k as objs r ay,self md k as objs=some (r,ay)→bw P G k as objs r ay)
include lI
theorem As {k:Nat} {as:List LV} {objs:List (Option aD)} {e:eN} (h:Eh self dat ro k as objs=some e):bX P G k as (aB objs) objs.length e:=by
 unfold Eh at h
 dsimp only at h
 generalize reach objs objs.length (H9 [] (Bq as))=ρ at h
 cases hp:q_ objs ρ with
 | none=>rw [hp] at h; cases h
 | some obs=>
   rw [hp] at h
   dsimp only at h
   split at h
   ·rename_i hc
    simp only [Bool.and_eq_true] at hc
    obtain ⟨⟨h1,h2⟩,h3⟩:=hc
    split at h
    ·rename_i r aF hs
     split at h
     ·rename_i hle
      cases h
      have hT:=lI _ _ _ _ _ _ hs
      rw [List.all_eq_true] at h2
      have g1:ρ.map (aB objs)=(obs.map (fc fun o=>ρ.idxOf o)).map (fun ob=>cv.live (fc (bB ρ objs.length) ob)):=by
       rw [oB hp,List.map_map]
       refine List.map_congr_left (fun ob hob=>?_)
       simp only [Function.comp,ET objs.length ob (h2 ob hob)]
      have g2:(obs.map (fc fun o=>ρ.idxOf o)).all (ei ρ.length)=true:=by
       rw [List.all_map,List.all_eq_true]
       exact fun ob hob=>Fs ob (h2 ob hob)
      split
      ·refine bX.WO ρ (fun q=>!A6 aF[ρ.idxOf q]? (obs.map (fc fun o=>ρ.idxOf o))[ρ.idxOf q]?) hT (jY _ as h1) (nU ρ h3) g1 g2 (by simpa using hle) (fun i o hi hk=>?_)
       have hidx:ρ.idxOf o=i:=by
        have hlt:=(List.getElem?_eq_some_iff.1 hi).1
        obtain ⟨_,rfl⟩:=List.getElem?_eq_some_iff.1 hi
        exact (nU ρ h3).idxOf_getElem i hlt
       simp only [Bool.not_eq_false',hidx] at hk
       exact A5 hk
      ·exact bX.hand ρ hT (jY _ as h1) (nU ρ h3) g1 g2 (by simpa using hle)
     ·cases h
    ·cases h
   ·cases h
theorem tg {Y:YO} {X:Value→eN→St→Prop} {o:dD} {env:List (Nat×LV)} {objs:List (Option aD)} {e:eN} {K:St→eN→Prop} (h:WZ G self dat ro o.op env objs=some e) (hK:K ⟨dU o.dst e.r env,fN e.wr objs++e.nw.map some⟩ e):AJ P G Y X o ⟨env,objs⟩ K:=by
 have hK':K (St.app ⟨env,objs⟩ o.dst e) e:=hK
 unfold AJ
 unfold WZ at h
 cases hi:o.op with
 | call f args=>
   rw [hi] at h
   dsimp only at h ⊢
   split at h
   ·rename_i k fs cs hc
    have xN:callee (f.ev G (St.get ⟨env,objs⟩))=some (k,fs,cs):=hc
    rw [xN]
    dsimp only
    exact .inl ⟨e,As lI h,hK'⟩
   ·cases h
 | _=>
   rw [hi] at h
   dsimp only at h ⊢
   have h2:=h
   change cB G (St.get ⟨env,objs⟩) (St.obj ⟨env,objs⟩) objs.length _=some e at h2
   rw [h2]
   exact hK'
def uC (fD:Ii) (Y:YO):Prop:=∀ as objs ys ys' b ay (K':LV→Bool→List (Option aD)→Prop),fD as objs ys=some (ys',b,ay)→K' ys' b ay→Y as objs ys K'
omit lI in
theorem uC.no:uC Dw sQ:=fun _ _ _ _ _ _ _ h=>by cases h
theorem yZ {fD:Ii} {Y:YO} (hr:uC fD Y) {X:Value→eN→St→Prop} {o:dD} {env env':List (Nat×LV)} {objs ay:List (Option aD)} {K:St→Prop} (h:XQ G self dat ro fD o env objs=some (env',ay)) (hK:K ⟨env',ay⟩):AJ P G Y X o ⟨env,objs⟩ (fun s _=>K s):=by
 unfold XQ at h
 split at h
 ·rename_i e he
  cases h
  exact tg lI he hK
 ·split at h
  ·rename_i ys b o1 hy
   cases h
   unfold ZU at hy
   split at hy
   ·rename_i f args hop
    split at hy
    ·cases hy
    ·rename_i gY
     split at hy
     ·rename_i oy dR
      unfold AJ
      rw [hop]
      dsimp only
      have xN:callee (f.ev G (St.get ⟨env,objs⟩))=none:=gY
      rw [xN]
      dsimp only
      unfold Xt
      have YL:f.ev G (St.get ⟨env,objs⟩)=.yl oy:=dR
      rw [YL]
      exact hr _ _ _ _ _ _ _ hy hK
     ·cases hy
   ·cases hy
  ·cases h
theorem gR {fD:Ii} {Y:YO} (hr:uC fD Y) {X:Value→St→Prop} : ∀ (ops:List dD) (env:List (Nat×LV)) (objs:List (Option aD)) {env':List (Nat×LV)} {ay:List (Option aD)} {K:St→Prop},pS G self dat ro fD ops env objs=some (env',ay)→K ⟨env',ay⟩→gD P G Y X ops ⟨env,objs⟩ K
 | [],env,objs,env',ay,K,h,hK=>by
   cases h
   exact hK
 | o::os,env,objs,env',ay,K,h,hK=>by
   unfold pS at h
   unfold gD AI
   split at h
   ·rename_i hg
    rw [hg]
    dsimp only
    split at h
    ·rename_i e1 o1 he
     exact yZ lI hr (K:=fun s=>gD P G Y X os s K) he (gR hr os _ _ h hK)
    ·cases h
   ·rename_i g want hg
    rw [hg]
    dsimp only
    have jU:St.get ⟨env,objs⟩ g=bx env g:=rfl
    rw [jU]
    split at h
    ·rename_i b hb
     rw [hb]
     dsimp only
     split at h
     ·rename_i hbw
      rw [if_pos hbw]
      split at h
      ·rename_i e1 o1 he
       exact yZ lI hr (K:=fun s=>gD P G Y X os s K) he (gR hr os _ _ h hK)
      ·cases h
     ·rename_i hbw
      rw [if_neg hbw]
      exact gR hr os _ _ h hK
    ·rename_i b hb
     rw [hb]
     exact gR hr os _ _ h hK
    ·cases h
theorem gp {X:Value→St→Prop} : ∀ (ops:List dD) (env:List (Nat×LV)) (objs:List (Option aD)) (log:List gC) {env':List (Nat×LV)} {ay:List (Option aD)} {K:St→Prop},ko G self dat ro ops env objs log=some (env',ay)→K ⟨env',ay⟩→eA P G X ops ⟨env,objs⟩ log (fun s log=>indep log=true∧K s)
 | [],env,objs,log,env',ay,K,h,hK=>by
   unfold ko at h
   split at h
   ·rename_i hi
    cases h
    exact ⟨hi,hK⟩
   ·cases h
 | o::os,env,objs,log,env',ay,K,h,hK=>by
   unfold ko at h
   unfold eA AI
   have hl:(St.objs ⟨env,objs⟩).length=objs.length:=rfl
   split at h
   ·rename_i hg
    rw [hg]
    dsimp only
    split at h
    ·rename_i e he
     refine tg lI he ?_
     dsimp only at hl ⊢
     rw [hl]
     exact gp os _ _ _ h hK
    ·cases h
   ·rename_i g want hg
    rw [hg]
    dsimp only
    have jU:St.get ⟨env,objs⟩ g=bx env g:=rfl
    rw [jU]
    split at h
    ·rename_i b hb
     rw [hb]
     dsimp only
     split at h
     ·rename_i hbw
      rw [if_pos hbw]
      split at h
      ·rename_i e he
       refine tg lI he ?_
       dsimp only at hl ⊢
       rw [hl]
       exact gp os _ _ _ h hK
      ·cases h
     ·rename_i hbw
      rw [if_neg hbw]
      exact gp os _ _ _ h hK
    ·rename_i b hb
     rw [hb]
     exact gp os _ _ _ h hK
    ·cases h
end
def Ve (K:tB) (out:Out) (s:St):Prop:=match out with
 | .n=>K.n s
 | .x i=>K.x i s
 | .r=>K.r s
theorem yf:∀ (env:List (Nat×LV)) (acc:List Nat) (t:Nat),(t∈acc∨∃ v,(t,v)∈env)→t∈slots env acc
 | [],acc,t,h=>by
   rcases h with h | ⟨v,h⟩
   ·exact h
   ·cases h
 | (k,v)::r,acc,t,h=>by
   unfold slots
   refine yf r _ t ?_
   rcases h with h | ⟨u,h⟩
   ·left
    split
    ·exact h
    ·exact List.mem_append_left _ h
   ·rcases List.mem_cons.1 h with h | h
    ·left
     cases h
     split
     ·rename_i hc; exact List.contains_iff_mem.1 hc
     ·exact List.mem_append_right _ (by simp)
    ·exact .inr ⟨u,h⟩
theorem yV:∀ (env:List (Nat×LV)) (t:Nat),(∀ v,(t,v)∉env)→bx env t=.top
 | [],_,_=>rfl
 | (k,v)::r,t,h=>by
   unfold bx
   by_cases hk:k=t
   ·subst hk; exact absurd (List.mem_cons_self) (h v)
   ·rw [if_neg hk]
    exact yV r t (fun u hu=>h u (List.mem_cons_of_mem _ hu))
theorem Hg (env:List (Nat×LV)):bx (tV env)=bx env:=by
 funext t
 unfold tV
 by_cases ht:t∈slots env []
 ·have:=jV (bx env) (slots env []) t
  rw [if_pos ht] at this
  exact this
 ·have h1:bx env t=.top:=yV env t (fun v hv=>ht (yf env [] t (.inr ⟨v,hv⟩)))
  have:=jV (bx env) (slots env []) t
  rw [if_neg ht] at this
  rw [this,h1]
theorem LA.norm {G:Nat→Option (List DV)} (m:Nat) (env:List (Nat×LV)) (o:List (Option aD)):LA G m ⟨env,o⟩ ⟨tV env,o⟩:=by
 intro D N br J0 cw w0 a w _ h
 have e:St.get ⟨tV env,o⟩=St.get ⟨env,o⟩:=Hg env
 unfold oq at h ⊢
 rw [e]
 exact h
section
variable {P:Program} {G:Nat→Option (List DV)} {self:Bool→Nat→List LV→List aD→Option (LV×List aD)} {mP:Nat→List LV→List (Option aD)→Ii→Option (LV×List (Option aD))} {dat ro:Nat→Bool}
 (lI:∀ md k as objs r ay,self md k as objs=some (r,ay)→bw P G k as objs r ay)
 (Km:∀ k as objs fD Y yv ay,uC fD Y→mP k as objs fD=some (yv,ay)→CC P G k as objs Y (fun y o=>y=yv∧o=ay))
include lI Km
theorem cO (L:Nat):∀ (c:C) (fD:Ii) (env:List (Nat×LV)) (objs:List (Option aD)) {out:Out} {env':List (Nat×LV)} {ay:List (Option aD)} {K:tB},uC fD K.y→iz G self mP dat ro L c fD env objs=some (out,env',ay)→Ve K out ⟨env',ay⟩→vc P G c ⟨env,objs⟩ K
 | .skip,fD,env,objs,out,env',ay,K,hr,h,hK=>by
   cases h
   exact hK
 | .af ops,fD,env,objs,out,env',ay,K,hr,h,hK=>by
   unfold iz at h
   split at h
   ·rename_i e1 o1 hx
    cases h
    exact gR lI hr ops env objs hx hK
   ·cases h
 | .bQ ops,fD,env,objs,out,env',ay,K,hr,h,hK=>by
   unfold iz at h
   split at h
   ·rename_i e1 o1 hx
    cases h
    exact gp lI ops env objs [] (K:=K.n) hx hK
   ·cases h
 | .seq a b,fD,env,objs,out,env',ay,K,hr,h,hK=>by
   unfold iz at h
   unfold vc
   split at h
   ·rename_i e1 o1 hx
    exact cO L a fD env objs (K:={ K with n:=fun s'=>vc P G b s' K }) hr hx (cO L b fD e1 o1 hr h hK)
   ·rename_i hn
    refine cO L a fD env objs (K:={ K with n:=fun s'=>vc P G b s' K }) hr h ?_
    cases out with
    | n=>exact absurd h (hn _ _)
    | x i=>exact hK
    | r=>exact hK
 | .cond c a b,fD,env,objs,out,env',ay,K,hr,h,hK=>by
   unfold iz at h
   unfold vc
   have jU:St.get ⟨env,objs⟩=bx env:=rfl
   rw [jU]
   split at h
   ·rename_i t ht
    rw [ht]
    dsimp only
    split at h
    ·rename_i h1
     rw [if_pos h1]
     exact cO L a fD env objs hr h hK
    ·rename_i h1
     rw [if_neg h1]
     exact cO L b fD env objs hr h hK
   ·cases h
 | .block i b,fD,env,objs,out,env',ay,K,hr,h,hK=>by
   unfold iz at h
   unfold vc
   split at h
   ·rename_i j e1 o1 hx
    cases h
    refine cO L b fD env objs (K:={ K with x:=fun j s'=>if j=i then K.n s' else K.x j s' }) hr hx ?_
    unfold Ve at hK ⊢
    dsimp only
    by_cases hj:j=i
    ·rw [if_pos hj]; rw [if_pos hj] at hK; exact hK
    ·rw [if_neg hj]; rw [if_neg hj] at hK; exact hK
   ·rename_i hn
    refine cO L b fD env objs (K:={ K with x:=fun j s'=>if j=i then K.n s' else K.x j s' }) hr h ?_
    cases out with
    | n=>exact hK
    | x j=>exact absurd h (hn _ _ _)
    | r=>exact hK
 | .loop b,fD,env,objs,out,env',ay,K,hr,h,hK=>by
   unfold iz at h
   unfold vc
   refine ⟨slots env [],fun k s=>∃ e o,s=⟨e,o⟩∧iter (iz G self mP dat ro L b fD) k e o=some (out,env',ay),L,[],⟨tV env,objs,rfl,h⟩,?_⟩
   rintro k s' ⟨e,o,rfl,hi⟩
   cases k with
   | zero=>cases hi
   | succ k=>
     unfold iter at hi
     split at hi
     ·rename_i e1 o1 hx
      refine cO L b fD e o (K:={ K with n:=_ }) hr hx ?_
      exact ⟨k,Nat.lt_succ_self k,_,⟨tV e1,o1,rfl,hi⟩,LA.norm _ _ _⟩
     ·rename_i hn
      refine cO L b fD e o (K:={ K with n:=_ }) hr hi ?_
      cases out with
      | n=>exact absurd hi (hn _ _)
      | x i=>exact hK
      | r=>exact hK
 | .exit i,fD,env,objs,out,env',ay,K,hr,h,hK=>by
   cases h
   exact hK
 | .ret,fD,env,objs,out,env',ay,K,hr,h,hK=>by
   cases h
   exact hK
 | .scope b,fD,env,objs,out,env',ay,K,hr,h,hK=>by
   unfold iz at h
   unfold vc
   exact cO L b fD env objs hr h hK
 | .PJ g ps a b,fD,env,objs,out,env',ay,K,hr,h,hK=>by
   unfold iz at h
   unfold vc
   split at h
   ·rename_i k fs cs gY
    have WJ:callee (g.ev G (St.get ⟨env,objs⟩))=some (k,fs,cs):=gY
    rw [WJ]
    dsimp only
    have key:∀ jm:Option Nat,vw jm env (mP k (fs++[.yl objs.length]++cs) (objs++[none]) (Bc (iz G self mP dat ro L a Dw) (iz G self mP dat ro L b Dw) jm ps env objs.length))=some (out,env',ay)→
      ∃ (R:LV→List (Option aD)→Prop),CC P G k (fs++[.yl objs.length]++cs) (objs++[none]) (pT P G jm ps a b ⟨env,objs⟩) R∧
        ∀ yv vK,R yv vK→(yv=jK∧K.n ⟨env,vK⟩)∨(yv=jS∧match jm with | some i=>i≠AG∧K.x i ⟨env,vK⟩ | none=>K.r ⟨env,vK⟩):=by
     intro jm hj
     cases hs:mP k (fs++[.yl objs.length]++cs) (objs++[none]) (Bc (iz G self mP dat ro L a Dw) (iz G self mP dat ro L b Dw) jm ps env objs.length) with
     | none=>rw [hs] at hj; simp [vw] at hj
     | some p=>
       obtain ⟨yv,o⟩:=p
       rw [hs] at hj
       refine ⟨_,Km _ _ _ _ (pT P G jm ps a b ⟨env,objs⟩) _ _ ?_ hs,?_⟩
       ·intro as Zm ys ys' bb Zl K' hrd hK'
        unfold Bc at hrd
        split at hrd
        ·rename_i q as'
         split at hrd
         ·rename_i hc
          obtain ⟨hq,hR,hlen⟩:=hc
          have hys:=JZ hR
          subst hq
          refine ⟨hys,rfl,hlen,?_⟩
          split at hrd
          ·rename_i e1 o1 hx
           refine cO L a Dw _ _ (K:=⟨_,_,_,sQ⟩) uC.no hx ?_
           show vc P G b _ _
           split at hrd
           ·rename_i e2 o2 hx2
            cases hrd
            exact cO L b Dw _ _ (K:=⟨_,_,_,sQ⟩) uC.no hx2 hK'
           ·rename_i i e2 o2 hx2
            split at hrd
            ·rename_i hij
             cases hrd
             exact cO L b Dw _ _ (K:=⟨_,_,_,sQ⟩) uC.no hx2 ⟨hij.1,hij.2,hK'⟩
            ·cases hrd
           ·rename_i e2 o2 hx2
            split at hrd
            ·rename_i hij
             cases hrd
             exact cO L b Dw _ _ (K:=⟨_,_,_,sQ⟩) uC.no hx2 ⟨hij,hK'⟩
            ·cases hrd
           ·cases hrd
          ·cases hrd
         ·cases hrd
        ·cases hrd
       ·rintro yv' vK ⟨rfl,rfl⟩
        unfold vw at hj
        dsimp only at hj
        split at hj
        ·rename_i h1
         cases hj
         exact .inl ⟨JZ h1,hK⟩
        ·split at hj
         ·rename_i h1
          refine .inr ⟨G1 h1,?_⟩
          cases jm with
          | none=>dsimp only at hj ⊢; cases hj; exact hK
          | some i=>
            dsimp only at hj ⊢
            split at hj
            ·rename_i hi
             cases hj; exact ⟨hi,hK⟩
            ·cases hj
         ·cases hj
    split at h
    ·rename_i r LB
     cases h
     obtain ⟨R,h1,h2⟩:=key none LB
     exact ⟨none,R,h1,h2⟩
    ·obtain ⟨R,h1,h2⟩:=key (some 0) h
     exact ⟨some 0,R,h1,h2⟩
   ·cases h
end
section
variable {ρ Z:List Nat} {k:Nat}
mutual
theorem dw (h:∀ o,o<k→ρ[o]? = some o) (obj:Nat→cv):∀ (x:LV),dZ k x=true→ai obj ρ Z x x
 | .top,_=>by simp [ai]
 | .c_,_=>by simp [ai]
 | .d x,_=>by simp [ai]
 | .ptr o c,hx=>by simp only [dZ,decide_eq_true_eq] at hx; simp only [ai,h o hx,and_self]
 | .rp o n e r c,hx=>by simp only [dZ,decide_eq_true_eq] at hx; simp only [ai,h o hx,and_self]
 | .ip ..,_=>by simp [ai]
 | .sl o n e l m,hx=>by simp only [dZ,decide_eq_true_eq] at hx; simp only [ai,h o hx,and_self]
 | .fn f x y,hx=>by
   simp only [dZ,Bool.and_eq_true] at hx
   simp only [ai,true_and]
   exact ⟨jZ h obj x hx.1,jZ h obj y hx.2⟩
 | .agg cs,hx=>by
   simp only [dZ] at hx
   simp only [ai]
   exact jZ h obj cs hx
 | .dP cs,hx=>by
   simp only [dZ] at hx
   simp only [ai]
   exact jZ h obj cs hx
 | .fe t v,hx=>by
   simp only [dZ] at hx
   simp only [ai,true_and]
   exact dw h obj v hx
 | .yl o,hx=>by simp only [dZ,decide_eq_true_eq] at hx; simp only [ai,h o hx]
 | .mr o,hx=>by simp only [dZ,decide_eq_true_eq] at hx; simp only [ai,h o hx]
theorem jZ (h:∀ o,o<k→ρ[o]? = some o) (obj:Nat→cv):∀ (xs:List LV),ej k xs=true→ah obj ρ Z xs xs
 | [],_=>by simp [ah]
 | x::xs,hx=>by
   simp only [ej,Bool.and_eq_true] at hx
   simp only [ah]
   exact ⟨dw h obj x hx.1,jZ h obj xs hx.2⟩
end
end
mutual
theorem xZ {objs:List (Option aD)} {k:Nat} {Z:List Nat} (hZ:∀ o e rows,k≤o→tO objs o=some (e,rows)→o∈Z):∀ (x:LV),dZ k (ig k objs x)=true→ai (aB objs) (List.range k) Z x (ig k objs x)
 | .sl o n e l m,h=>by
   unfold ig at h ⊢
   split at h
   ·rename_i hk
    rw [if_pos hk]
    split at h
    ·rename_i e0 rows hrow
     split at h
     ·rename_i hc
      rw [if_pos hc]
      obtain ⟨rfl,rfl,h4⟩:=hc
      simp only [ai,true_and]
      have hz:=hZ _ _ _ hk hrow
      unfold tO at hrow
      unfold bE aB
      split at hrow
      ·rename_i heq; rw [heq]; cases hrow; exact ⟨hz,rfl,rfl,h4,rfl⟩
      ·rename_i heq; rw [heq]; cases hrow; exact ⟨hz,rfl,rfl,h4,rfl⟩
      ·cases hrow
     ·rename_i hc
      rw [if_neg hc]
      exact dw (fun o h=>ek h) _ _ h
    ·exact dw (fun o h=>ek h) _ _ h
   ·rename_i hk
    rw [if_neg hk]
    exact dw (fun o h=>ek h) _ _ h
 | .dP vs,h=>by
   unfold ig at h ⊢
   simp only [dZ] at h
   simp only [ai]
   exact u9 hZ vs h
 | .top,h=>by unfold ig at h ⊢; exact dw (fun o h=>ek h) _ _ h
 | .c_,h=>by unfold ig at h ⊢; exact dw (fun o h=>ek h) _ _ h
 | .d x,h=>by unfold ig at h ⊢; exact dw (fun o h=>ek h) _ _ h
 | .ptr o c,h=>by unfold ig at h ⊢; exact dw (fun o h=>ek h) _ _ h
 | .rp o n e r c,h=>by unfold ig at h ⊢; exact dw (fun o h=>ek h) _ _ h
 | .ip r c,h=>by unfold ig at h ⊢; exact dw (fun o h=>ek h) _ _ h
 | .fn f a b,h=>by unfold ig at h ⊢; exact dw (fun o h=>ek h) _ _ h
 | .agg cs,h=>by unfold ig at h ⊢; exact dw (fun o h=>ek h) _ _ h
 | .fe t v,h=>by unfold ig at h ⊢; exact dw (fun o h=>ek h) _ _ h
 | .yl o,h=>by unfold ig at h ⊢; exact dw (fun o h=>ek h) _ _ h
 | .mr o,h=>by unfold ig at h ⊢; exact dw (fun o h=>ek h) _ _ h
theorem u9 {objs:List (Option aD)} {k:Nat} {Z:List Nat} (hZ:∀ o e rows,k≤o→tO objs o=some (e,rows)→o∈Z):∀ (xs:List LV),ej k (sD k objs xs)=true→ah (aB objs) (List.range k) Z xs (sD k objs xs)
 | [],_=>by simp [sD,ah]
 | x::xs,h=>by
   unfold sD at h ⊢
   simp only [ej,Bool.and_eq_true] at h
   simp only [ah]
   exact ⟨xZ hZ x h.1,u9 hZ xs h.2⟩
end
theorem Hr {rv:List RV} {md:Bool} {k:Nat} {objs:List (Option aD)} {env:List (Nat×LV)} {vs:List LV} {r:LV} {ay:List aD} (hvs:xA.of ⟨env,objs⟩ rv=some vs) (h:T0 md k (aW vs) objs=some (r,ay)):xy rv k r ay ⟨env,objs⟩:=by
 unfold T0 at h
 split at h
 ·split at h
  ·rename_i obs hp
   split at h
   ·rename_i hc
    cases h
    obtain ⟨h1,h2⟩:=hc
    refine ⟨[],vs,List.range k,(List.range objs.length).filter fun o=>decide (k≤o)&&(tO objs o).isSome,hvs,?_,List.nodup_range,(fun z hz=>?_),(fun z hz=>?_),?_,fun i o hi=>?_,?_,xZ (fun o e rows hk hrow=>?_) _ h1⟩
    ·rw [List.take_range,Nat.min_self]
    ·simp at hz; simp; omega
    ·simp only [List.mem_filter,Bool.and_eq_true,decide_eq_true_eq] at hz
     have Kh:=hz.2.2
     show ∃ et e rows,aB objs z=_∨aB objs z=_
     unfold tO at Kh
     unfold aB
     split at Kh
     ·rename_i a b c heq; rw [heq]; exact ⟨_,_,_,.inl rfl⟩
     ·rename_i a b c heq; rw [heq]; exact ⟨_,_,_,.inr rfl⟩
     ·cases Kh
    ·have:=yx hp; simpa using this
    ·obtain ⟨ob,hob,hl⟩:=yy hp i o hi
     refine ⟨ob,hob,?_⟩
     rw [List.all_eq_true] at h2
     have hk:i<k:=by
      have:=(List.getElem?_eq_some_iff.1 hi).1
      simpa using this
     rw [EU (fun o h=>vG h) _ (h2 _ (List.mem_of_getElem? hob))]
     exact hl
    ·rw [List.length_range]; exact h2
    ·simp only [List.mem_filter,Bool.and_eq_true,decide_eq_true_eq,List.mem_range]
     have Fw:tO objs o=some (e,rows):=hrow
     refine ⟨?_,hk,by rw [Fw]; rfl⟩
     unfold tO at Fw
     rcases Nat.lt_or_ge o objs.length with h3 | h3
     ·exact h3
     ·rw [List.getElem?_eq_none h3] at Fw; cases Fw
   ·cases h
  ·cases h
 ·dsimp only at h
  generalize reach objs objs.length (H9 (List.range k) (U9 (aW vs)))=ρ at h
  split at h
  ·rename_i obs hp
   split at h
   ·rename_i hc
    simp only [Bool.and_eq_true] at hc
    obtain ⟨⟨⟨h1,h2⟩,h3⟩,h4⟩:=hc
    cases h
    rw [List.all_eq_true] at h4
    refine ⟨[],vs,ρ,[],hvs,FF _ _ h1,nU ρ h2,(fun z hz=>by cases hz),(fun z hz=>by cases hz),by simpa using yx hp,fun i o hi=>?_,?_,AA _ _ h3⟩
    ·obtain ⟨ob,hob,hl⟩:=yy hp i o hi
     refine ⟨fc (fun o=>ρ.idxOf o) ob,by rw [List.getElem?_map,hob]; rfl,?_⟩
     rw [ET 0 ob (h4 ob (List.mem_of_getElem? hob))]
     exact hl
    ·rw [List.all_map,List.all_eq_true]
     exact fun ob hob=>Fs ob (h4 ob hob)
   ·cases h
  ·cases h
/-- THE RUN IS THE CALL'S. -/
theorem vr {P:Program} {G:Nat→Option (List DV)} {T:Xj} (hh:∀ f md args objs r ay,T.hand f md args objs=some (r,ay)→bw P G f args objs r ay)
  (hir:∀ f ir,T.ir f=some ir→∃ fn,P.funcs[f]? = some fn∧(fn.name != "runtime.NumGoroutine")=true∧aq P fn=some ir) (L:Nat) :
  ∀ (d:Nat),(∀ (md:Bool) (f:Nat) (args:List LV) (objs:List aD) (r:LV) (ay:List aD),oQ G T L d md f args objs=some (r,ay)→bw P G f args objs r ay)∧
    (∀ k as objs fD Y yv ay,uC fD Y→I1 G T L d k as objs fD=some (yv,ay)→CC P G k as objs Y (fun y o=>y=yv∧o=ay))
 | 0=>⟨(fun md f args objs r ay h=>by unfold oQ at h; cases h),(fun k as objs fD Y yv ay _ h=>by unfold I1 at h; cases h)⟩
 | d+1=>by
   obtain ⟨Zv,Zu⟩:=vr hh hir L d
   refine ⟨fun md f args objs r ay h=>?_,fun k as objs fD Y yv ay hr h=>?_⟩
   ·unfold oQ at h
    split at h
    ·rename_i p hp
     cases h
     exact hh _ _ _ _ _ _ hp
    ·split at h
     ·rename_i N c rv hi
      obtain ⟨fn,hf,hn,iH⟩:=hir _ _ hi
      split at h
      ·rename_i hl
       split at h
       ·cases h
       ·rename_i out env o1 hx hrun
        split at h
        ·rename_i vs hvs
         refine u6 hf (by simpa using hn) iH hl (cO Zv Zu L c Dw _ _ (K:=⟨_,_,_,sQ⟩) uC.no hrun ?_)
         have hb:=Hr hvs h
         cases hx2:out with
         | n=>exact hb
         | x i=>exact (hx i hx2).elim
         | r=>exact hb
        ·cases h
       ·cases h
      ·cases h
     ·cases h
   ·unfold I1 at h
    split at h
    ·rename_i N c rv hi
     obtain ⟨fn,hf,hn,iH⟩:=hir _ _ hi
     split at h
     ·rename_i hl
      obtain ⟨⟨hl,TI⟩,Im⟩:=hl
      split at h
      ·cases h
      ·rename_i out env o1 hx hrun
       cases h
       refine Fh hf (by simpa using hn) iH hl TI (cO Zv Zu L c fD _ _ (K:=⟨_,_,_,Y⟩) hr hrun ?_)
       cases hx2:out with
       | n=>exact ⟨⟨rfl,rfl⟩,Im⟩
       | x i=>exact (hx i hx2).elim
       | r=>exact ⟨⟨rfl,rfl⟩,Im⟩
      ·cases h
     ·cases h
    ·cases h
theorem Db {P:Program} {G:Nat→Option (List DV)} {T:Xj} (hh:∀ f md args objs r ay,T.hand f md args objs=some (r,ay)→bw P G f args objs r ay)
  (hir:∀ f ir,T.ir f=some ir→∃ fn,P.funcs[f]? = some fn∧(fn.name != "runtime.NumGoroutine")=true∧aq P fn=some ir) (L d:Nat) (md:Bool) (f:Nat) (args:List LV) (objs:List aD) (r:LV) (ay:List aD) (h:oQ G T L d md f args objs=some (r,ay)):bw P G f args objs r ay:=
 (vr hh hir L d).1 md f args objs r ay h
/-- the forms as the program's own text gives them. -/
def lH (P:Program) (f:Nat):Option (Nat×C×List RV):=match P.funcs[f]? with
 | some fn=>if (fn.name != "runtime.NumGoroutine")=true then aq P fn else none
 | none=>none
theorem J4 {P:Program} (f:Nat) (ir:Nat×C×List RV) (h:lH P f=some ir):∃ fn,P.funcs[f]? = some fn∧(fn.name != "runtime.NumGoroutine")=true∧aq P fn=some ir:=by
 unfold lH at h
 split at h
 ·rename_i fn hf
  split at h
  ·rename_i hn
   exact ⟨fn,hf,hn,h⟩
  ·cases h
 ·cases h
end Dv
