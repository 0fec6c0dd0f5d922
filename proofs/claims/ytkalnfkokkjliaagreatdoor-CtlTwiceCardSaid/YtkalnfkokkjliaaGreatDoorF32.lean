/- part -/
import Derived.Test.YtkalnfkokkjliaaGreatDoorKC
import Derived.Test.YtkalnfkokkjliaaGreatDoorEF
import Derived.Test.YtkalnfkokkjliaaGreatDoorEF
import Derived.OpenShut
import Derived.Stop.Joined
import Derived.SevenTiedAt
import Derived.Test.YtkalnfkokkjliaaGreatDoorRows
import Derived.Test.YtkalnfkokkjliaaGreatDoorTie
import Derived.Test.YtkalnfkokkjliaaGreatDoorCards
set_option linter.all false
set_option maxRecDepth 100000
namespace Go.Proofs.YtkalnfkokkjliaaGreatDoor
open Go.ChangeShapes Go.WideShapes Go.ChangeAt Go.RowKit Dv
theorem own:ownKnob Tryz.prog.godebug=none:=by kernel_rfl
theorem laidOut:laidOutB Tryz.prog=true:=by kernel_rfl
theorem HG {P:Program} {ts:List TypeId} (h:(ts.all fun t=>P.readableRec t&&decide (t<P.types.size))=true):∀ t∈ts,P.readableRec t=true∧t<P.types.size:=fun t ht=>by
 have:=List.all_eq_true.1 h t ht
 simpa using this
theorem xW (os:Os) (started:os.Started) (H:Type) (enc:TypeId×Value→H) :
  ReturnsInHanded {} Tryz.checked os 10 .any (fun w args=>(Rows.ctlTwiceSpec.pre enc Tryz.prog Tryz.f10 [] false w args∧laidMetH Tryz.prog tW w)∧sizedMet enc Tryz.prog Tryz.f10 (OpenSpec.ofChange Rows.ctlTwiceSpec) false w args) (Rows.ctlTwiceSpec.post enc Tryz.prog Tryz.f10 false true false false):=by
 refine returnsInHanded_of_change_and (C:=Tryz.checked) (X:=fun w _=>laidMetH Tryz.prog tW w) (fun _ _ _ hh h=>h.of_heap hh) own started (by kernel_rfl) Tryz.func10
  (ChangeSpec.witness_shaped (enc:=enc) (C:=Tryz.checked) (os:=os) (X:=fun w _=>laidMetH Tryz.prog tW w) false (World.laidAll Tryz.prog os tW) #[.agg #[.int .i64 0,.int .i64 0,.int .i64 0,.int .i64 0,.int .i64 0,.int .i64 0,.int .i64 0,.int .i64 0,.int .i64 0],.slice none 0 0] 8 (World.laidAll_os _ _ _) (World.shaped_of_ZipB (by kernel_rfl) (by kernel_rfl)) (by kernel_rfl) (by kernel_rfl) (by kernel_rfl) (Le os _)) ?_
 intro W base args ds gs before Yv hW _ _ hL _
 have hval:∀ (j:Nat) t v,Tryz.f10.params[j]? = some t→args[j]? = some v→Value.okWide Tryz.prog W .any base t v:=Yv
 have hW':=hW
 obtain ⟨p,q,hA0,hV,rfl,hfz,hnd⟩:=hW
 have hA:DataW.TrodAll enc Tryz.prog W 0 (fun _=>true) true Tryz.f10.params.toList args.toList ds p:=hA0
 have hAk:=hA
 rw [Tryz.params10] at hA hval
 obtain ⟨v0,v1,d0,d1,p0,p1,rfl,rfl,rfl,h0,h1⟩:=trodAll_two hA
 obtain ⟨rfl,rfl⟩:=trodVars_none hV
 obtain ⟨x0,r0⟩:=M3 (hval 0 _ v0 rfl rfl) h0
 obtain ⟨x1,r1⟩:=Nn (hval 1 _ v1 rfl rfl) h1
 clear hA0 Yv
 simp only [List.append_nil] at hW'
 refine ((Em x0 x1).2 (J0 W) ck W #[v0,v1] (aI.tW hL) ⟨r0,r1,trivial⟩).mono fun e W' hr=>?_
 obtain ⟨v,he,Qr⟩:=hr
 have hb:=Qr.below
 have hv:v=.bool true:=by
  obtain ⟨J,ι,S,R,E⟩:=Qr
  exact R
 subst hv
 refine ⟨_,he,_,_,_,[],_,[],hW',trodAll_mk1 (shut_bool Tryz.underlying4 _),CV laidOut hb (HG (by kernel_rfl)) hAk (fun x hx=>by simpa using hW'.lt x (by simpa using hx)),rfl,hb.frame _,fun h=>by cases h⟩
theorem k1:(Rows.ctlTwiceRow.inPlace==Tryz.prog.inPlace 10)=true:=by kernel_rfl
theorem k2:(Rows.ctlTwiceRow.unfollowed==Tryz.prog.unfollowed 10)=true:=by kernel_rfl
theorem k3:(Rows.ctlTwiceRow.recurses==Tryz.prog.recurses 10)=true:=by kernel_rfl
theorem k4:(Rows.ctlTwiceRow.named==Tryz.prog.varsNamed 10)=true:=by kernel_rfl
theorem k5:joinedFacts Tryz.prog 10 Tryz.f10 Rows.ctlTwiceSpec Rows.ctlTwiceRow=true:=by
 unfold joinedFacts
 rw [k1,k2,k3,k4]
 kernel_rfl
theorem k6:Rows.ctlTwiceRow.wfByText (.ofChange Rows.ctlTwiceSpec)=true:=by kernel_rfl
theorem k7:true=Tryz.prog.looks []:=by kernel_rfl
theorem k8:false=Rows.ctlTwiceRow.goesBy Tryz.prog:=by kernel_rfl
theorem ctlTwice_said:Rows.CtlTwiceSaid:=
 OpenClaim.holds_of_wide 10 Tryz.f10 rfl rfl rfl rfl rfl rfl rfl ⟨rfl,rfl,rfl,rfl,rfl⟩ rfl rfl rfl rfl rfl (by kernel_rfl) Tryz.func10 k5
  (of_decide_eq_true (by kernel_rfl)) (by unfold Func.isWrapper; first | (rw [if_pos (by decide +kernel)]; kernel_rfl) | (rw [if_neg (by decide +kernel)]; exact ⟨rfl,rfl⟩))
  (fun os started H enc _=>xW os started H enc)
theorem ctlTwice_card:Rows.CtlTwiceCardSaid:=
 Claim7.holds_tied_plain_at .later [] [.data,.data,.data,.data] true _ true
  ctlTwice_said (fun _ h=>by cases h) k6 (fun _ h=>by cases h) ctlTwice_row_tie rfl ⟨rfl,rfl⟩ (by kernel_rfl) rfl
  (fun f fn hf hfn=>by
   obtain rfl:f=10:=Option.some.inj ((show Tryz.prog.funcNamed "dunnage/dunnagelaw21.CtlTwice" = some 10 by kernel_rfl).symm.trans hf) |>.symm
   obtain rfl:fn=Tryz.f10:=(Option.some.inj (Tryz.func10.symm.trans hfn)).symm
   exact ⟨k7,fun j t ht=>by
    rw [Tryz.params10] at ht
    have hm:t∈[23,84]:=by simpa using Array.mem_of_getElem? ht
    have hall:([23,84].all fun u=>!Tryz.prog.wantsStandIn u)=true:=by kernel_rfl
    exact (show Tryz.prog.wantsStandIn t=false by simpa using List.all_eq_true.1 hall t hm)⟩)
  k8
#print axioms ctlTwice_card
end Go.Proofs.YtkalnfkokkjliaaGreatDoor
