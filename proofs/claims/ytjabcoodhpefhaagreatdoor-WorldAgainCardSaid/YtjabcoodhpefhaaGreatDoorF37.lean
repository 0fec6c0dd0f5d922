/- WorldAgain: for every input it returns true, and its arguments read behind the call as they did ahead of it. Conditions: the listed tables hold what the program's text lays there (tied by the card). -/
import Derived.Test.YtjabcoodhpefhaaGreatDoorXG
import Derived.OpenShut
import Derived.Stop.Joined
import Derived.SevenTiedAt
import Derived.Test.YtjabcoodhpefhaaGreatDoorRows
import Derived.LaidOnce
import Derived.Test.YtjabcoodhpefhaaGreatDoorCards
namespace Go.Proofs.YtjabcoodhpefhaaGreatDoor
open Go.ChangeShapes Go.WideShapes Go.ChangeAt Go.RowKit Dv
theorem own:ownKnob Tryz.prog.godebug=none:=by kernel_rfl
theorem laidOut:laidOutB Tryz.prog=true:=by kernel_rfl
theorem KI{P:Program}{ts:List TypeId}(h:(ts.all λt=>P.readableRec t&&decide (t<P.types.size))=true):∀t∈ts,P.readableRec t=true/\t<P.types.size:=λt ht=>by have:=List.all_eq_true.1 h t ht;simpa using this
set_option maxRecDepth 100000 in
theorem Xa(os:Os)(started:os.Started)(H:Type)(enc:TypeId×Value->H) :
  ReturnsInHanded {} Tryz.checked os 3 .any (λw args=>(Rows.worldAgainSpec.pre enc Tryz.prog Tryz.f3 [] false w args/\laidMetH Tryz.prog vJ w)/\sizedMet enc Tryz.prog Tryz.f3 (OpenSpec.ofChange Rows.worldAgainSpec) false w args) (Rows.worldAgainSpec.post enc Tryz.prog Tryz.f3 false true false false):=by
 refine returnsInHanded_of_change_and (C:=Tryz.checked) (X:=λw _=>laidMetH Tryz.prog vJ w) (λ_ _ _ hh h=>h.of_heap hh) own started (by kernel_rfl) Tryz.func3
  (ChangeSpec.witness_shaped (enc:=enc) (C:=Tryz.checked) (os:=os) (X:=λw _=>laidMetH Tryz.prog vJ w) false (World.laidAll Tryz.prog os vJ) #[.agg #[.int .i64 0,.int .i64 0,.int .i64 0,.int .i64 0,.int .i64 0,.int .i64 0,.int .i64 0,.int .i64 0,.int .i64 0],.slice none 0 0,.int .u8 0] 8 (World.laidAll_os _ _ _) (World.shaped_of_ZipB (by kernel_rfl) (by kernel_rfl)) (by kernel_rfl) (by kernel_rfl) (by kernel_rfl) (Ow os _)) ?_
 intro W base args ds gs before YH hW _ _ hL _;have hval:∀(j:Nat) t v,Tryz.f3.params[j]? = some t->args[j]? = some v->Value.okWide Tryz.prog W .any base t v:=YH;have hW':=hW;obtain⟨p,q,hA0,hV,rfl,hfz,hnd⟩:=hW;have hA:DataW.TrodAll enc Tryz.prog W 0 (λ_=>true) true Tryz.f3.params.toList args.toList ds p:=hA0;have hAk:=hA;rw[Tryz.params3]at hA hval;obtain⟨v0,v1,v2,d0,d1,d2,p0,p1,p2,rfl,rfl,rfl,h0,h1,h2⟩:=trodAll_three hA;obtain⟨rfl,rfl⟩:=trodVars_none hV;obtain⟨x0,r0⟩:=QB (hval 0 _ v0 rfl rfl) h0;obtain⟨x1,r1,b1⟩:=Qk (hval 1 _ v1 rfl rfl) h1;obtain⟨x2,rfl,rfl,rfl,w2⟩:=open_int Tryz.underlying5 (hval 2 _ v2 rfl rfl) h2;have b2:0<=x2/\x2<=255:=by simp only[Lit.wf,Bool.and_eq_true,decide_eq_true_eq]at w2;exact w2
 clear hA0 YH;simp only[List.append_nil]at hW';refine((Yx x0 x1 x2 b2 b1).2 (J0 W) bR W #[v0,v1,.int .u8 x2] (aA.vJ hL) ⟨r0,r1,rfl,trivial⟩).mono λe W' hr=>?_
 obtain⟨v,he,T9⟩:=hr;have hb:=T9.below;have hv:v=.bool true:=by obtain⟨J,ι,S,R,E⟩:=T9;exact R
 subst hv;refine⟨_,he,_,_,_,[],_,[],hW',trodAll_mk1 (shut_bool Tryz.underlying4 _),Fb laidOut hb (KI (by kernel_rfl)) hAk (λx hx=>by simpa using hW'.lt x (by simpa using hx)),rfl,hb.frame _,λh=>by cases h⟩
theorem k1:(Rows.worldAgainRow.inPlace==Tryz.prog.inPlace 3)=true:=by kernel_rfl
theorem k2:(Rows.worldAgainRow.unfollowed==Tryz.prog.unfollowed 3)=true:=by kernel_rfl
theorem k3:(Rows.worldAgainRow.recurses==Tryz.prog.recurses 3)=true:=by kernel_rfl
theorem k4:(Rows.worldAgainRow.named==Tryz.prog.varsNamed 3)=true:=by kernel_rfl
theorem k5:joinedFacts Tryz.prog 3 Tryz.f3 Rows.worldAgainSpec Rows.worldAgainRow=true:=by unfold joinedFacts;rw[k1,k2,k3,k4];kernel_rfl
theorem k6:Rows.worldAgainRow.wfByText (.ofChange Rows.worldAgainSpec)=true:=by kernel_rfl
theorem k7:true=Tryz.prog.looks []:=by kernel_rfl
theorem k8:false=Rows.worldAgainRow.goesBy Tryz.prog:=by kernel_rfl
theorem worldAgain_said:Rows.WorldAgainSaid:=
 OpenClaim.holds_of_wide 3 Tryz.f3 rfl rfl rfl rfl rfl rfl rfl ⟨rfl,rfl,rfl,rfl,rfl⟩ rfl rfl rfl rfl rfl (by kernel_rfl) Tryz.func3 k5
  (of_decide_eq_true (by kernel_rfl)) (by unfold Func.isWrapper;first|(rw[if_pos (by decide +kernel)];kernel_rfl)|(rw[if_neg (by decide +kernel)];exact⟨rfl,rfl⟩))
  (λos started H enc _=>Xa os started H enc)
theorem PW:Rows.worldAgainRow.laidByTextAt .later Tryz.pinned [.data,.data,.data,.data] true:=
 OpenClaim.laidByTextAt_later rfl rfl (Program.laidByTextLater_by_one 29 8 65 (by kernel_rfl) (by kernel_rfl) (by kernel_rfl) (by kernel_rfl) (by kernel_rfl) (by kernel_rfl) (λ_ _=>by kernel_rfl)) (by kernel_rfl)
/-- the card: the row, its tables tied to the program's text. -/
theorem worldAgain_card:Rows.WorldAgainCardSaid:=
 Claim7.holds_tied_plain_at .later [] [.data,.data,.data,.data] true _ true
  worldAgain_said (λ_ h=>by cases h) k6 (λ_ h=>by cases h) PW rfl ⟨rfl,rfl⟩ (by kernel_rfl) rfl
  (λf fn hf hfn=>by
   obtain rfl:f=3:=Option.some.inj ((show Tryz.prog.funcNamed "dunnage/dunnagelaw22.WorldAgain" = some 3 by kernel_rfl).symm.trans hf) |>.symm;obtain rfl:fn=Tryz.f3:=(Option.some.inj (Tryz.func3.symm.trans hfn)).symm;exact⟨k7,λj t ht=>by
    rw[Tryz.params3]at ht;have hm:t∈[23,24,5]:=by simpa using Array.mem_of_getElem? ht
    have hall:([23,24,5].all λu=>!Tryz.prog.wantsStandIn u)=true:=by kernel_rfl
    exact(show Tryz.prog.wantsStandIn t=false by simpa using List.all_eq_true.1 hall t hm)⟩)
  k8
#print axioms worldAgain_card
end Go.Proofs.YtjabcoodhpefhaaGreatDoor
