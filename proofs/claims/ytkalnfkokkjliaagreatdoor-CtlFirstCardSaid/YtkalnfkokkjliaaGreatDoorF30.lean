/- CtlFirst: for every input it returns true, and its arguments read behind the call as they did ahead of it. Conditions: the listed tables hold what the program's text lays there (tied by the card). -/
import Derived.Test.YtkalnfkokkjliaaGreatDoorCE
import Derived.Test.YtkalnfkokkjliaaGreatDoorE9
import Derived.Test.YtkalnfkokkjliaaGreatDoorE10
import Derived.OpenShut
import Derived.Stop.Joined
import Derived.SevenTiedAt
import Derived.Test.YtkalnfkokkjliaaGreatDoorRows
import Derived.Test.YtkalnfkokkjliaaGreatDoorTie
import Derived.Test.YtkalnfkokkjliaaGreatDoorCards
set_option linter.unusedVariables false
set_option linter.unusedSimpArgs false
namespace Go.Proofs.YtkalnfkokkjliaaGreatDoor
open Go.ChangeShapes Go.WideShapes Go.ChangeAt Go.RowKit Dv
theorem own:ownKnob Tryz.prog.godebug=none:=by kernel_rfl
theorem laidOut:laidOutB Tryz.prog=true:=by kernel_rfl
theorem Dl {P:Program} {ts:List TypeId} (h:(ts.all fun t=>P.readableRec t&&decide (t<P.types.size))=true):∀ t∈ts,P.readableRec t=true∧t<P.types.size:=fun t ht=>by
 have:=List.all_eq_true.1 h t ht
 simpa using this
set_option maxRecDepth 100000 in
theorem uA (os:Os) (started:os.Started) (H:Type) (enc:TypeId×Value→H) :
  ReturnsInHanded {} Tryz.checked os 7 .any (fun w args=>(Rows.ctlFirstSpec.pre enc Tryz.prog Tryz.f7 [] false w args∧laidMetH Tryz.prog qL w)∧sizedMet enc Tryz.prog Tryz.f7 (OpenSpec.ofChange Rows.ctlFirstSpec) false w args) (Rows.ctlFirstSpec.post enc Tryz.prog Tryz.f7 false true false false):=by
 refine returnsInHanded_of_change_and (C:=Tryz.checked) (X:=fun w _=>laidMetH Tryz.prog qL w) (fun _ _ _ hh h=>h.of_heap hh) own started (by kernel_rfl) Tryz.func7
  (ChangeSpec.witness_shaped (enc:=enc) (C:=Tryz.checked) (os:=os) (X:=fun w _=>laidMetH Tryz.prog qL w) false (World.laidAll Tryz.prog os qL) #[.agg #[.int .i64 0,.int .i64 0,.int .i64 0,.int .i64 0,.int .i64 0,.int .i64 0,.int .i64 0,.int .i64 0,.int .i64 0],.slice none 0 0] 8 (World.laidAll_os _ _ _) (World.shaped_of_ZipB (by kernel_rfl) (by kernel_rfl)) (by kernel_rfl) (by kernel_rfl) (by kernel_rfl) (F5 os _)) ?_
 intro W base args ds gs before R9 hW _ _ hL _
 have hval:∀ (j:Nat) t v,Tryz.f7.params[j]? = some t→args[j]? = some v→Value.okWide Tryz.prog W .any base t v:=R9
 have YZ:=hW
 obtain ⟨p,q,ZS,hV,rfl,hfz,hnd⟩:=hW
 have hA:DataW.TrodAll enc Tryz.prog W 0 (fun _=>true) true Tryz.f7.params.toList args.toList ds p:=ZS
 have hAk:=hA
 rw [Tryz.params7] at hA hval
 obtain ⟨v0,v1,d0,d1,p0,p1,rfl,rfl,rfl,h0,h1⟩:=trodAll_two hA
 obtain ⟨rfl,rfl⟩:=trodVars_none hV
 obtain ⟨x0,r0⟩:=HK (hval 0 _ v0 rfl rfl) h0
 obtain ⟨x1,r1⟩:=H_ (hval 1 _ v1 rfl rfl) h1
 clear ZS R9
 simp only [List.append_nil] at YZ
 refine ((Av x0 x1).2 (J0 W) cw W #[v0,v1] (aJ.qL hL) ⟨r0,r1,trivial⟩).mono fun e W' hr=>?_
 obtain ⟨v,he,KM⟩:=hr
 have hb:=KM.below
 have hv:v=.bool true:=by
  obtain ⟨J,ι,S,R,E⟩:=KM
  exact R
 subst hv
 refine ⟨_,he,_,_,_,[],_,[],YZ,trodAll_mk1 (shut_bool Tryz.underlying4 _),zb laidOut hb (Dl (by kernel_rfl)) hAk (fun x hx=>by simpa using YZ.lt x (by simpa using hx)),rfl,hb.frame _,fun h=>by cases h⟩
theorem k1:(Rows.ctlFirstRow.inPlace==Tryz.prog.inPlace 7)=true:=by kernel_rfl
theorem k2:(Rows.ctlFirstRow.unfollowed==Tryz.prog.unfollowed 7)=true:=by kernel_rfl
theorem k3:(Rows.ctlFirstRow.recurses==Tryz.prog.recurses 7)=true:=by kernel_rfl
theorem k4:(Rows.ctlFirstRow.named==Tryz.prog.varsNamed 7)=true:=by kernel_rfl
theorem k5:joinedFacts Tryz.prog 7 Tryz.f7 Rows.ctlFirstSpec Rows.ctlFirstRow=true:=by
 unfold joinedFacts
 rw [k1,k2,k3,k4]
 kernel_rfl
theorem k6:Rows.ctlFirstRow.wfByText (.ofChange Rows.ctlFirstSpec)=true:=by kernel_rfl
theorem k7:true=Tryz.prog.looks []:=by kernel_rfl
theorem k8:false=Rows.ctlFirstRow.goesBy Tryz.prog:=by kernel_rfl
theorem ctlFirst_said:Rows.CtlFirstSaid:=
 OpenClaim.holds_of_wide 7 Tryz.f7 rfl rfl rfl rfl rfl rfl rfl ⟨rfl,rfl,rfl,rfl,rfl⟩ rfl rfl rfl rfl rfl (by kernel_rfl) Tryz.func7 k5
  (of_decide_eq_true (by kernel_rfl)) (by unfold Func.isWrapper; first | (rw [if_pos (by decide +kernel)]; kernel_rfl) | (rw [if_neg (by decide +kernel)]; exact ⟨rfl,rfl⟩))
  (fun os started H enc _=>uA os started H enc)
/-- the card: the row, its tables tied to the program's text. -/
theorem ctlFirst_card:Rows.CtlFirstCardSaid:=
 Claim7.holds_tied_plain_at .later [] [.data,.data,.data,.data] true _ true
  ctlFirst_said (fun _ h=>by cases h) k6 (fun _ h=>by cases h) ctlFirst_row_tie rfl ⟨rfl,rfl⟩ (by kernel_rfl) rfl
  (fun f fn hf hfn=>by
   obtain rfl:f=7:=Option.some.inj ((show Tryz.prog.funcNamed "dunnage/dunnagelaw21.CtlFirst" = some 7 by kernel_rfl).symm.trans hf) |>.symm
   obtain rfl:fn=Tryz.f7:=(Option.some.inj (Tryz.func7.symm.trans hfn)).symm
   exact ⟨k7,fun j t ht=>by
    rw [Tryz.params7] at ht
    have hm:t∈[23,84]:=by simpa using Array.mem_of_getElem? ht
    have hall:([23,84].all fun u=>!Tryz.prog.wantsStandIn u)=true:=by kernel_rfl
    exact (show Tryz.prog.wantsStandIn t=false by simpa using List.all_eq_true.1 hall t hm)⟩)
  k8
#print axioms ctlFirst_card
end Go.Proofs.YtkalnfkokkjliaaGreatDoor
