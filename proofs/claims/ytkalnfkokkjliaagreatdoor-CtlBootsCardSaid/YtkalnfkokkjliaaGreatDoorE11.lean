/- Opening a list of a journal's acts. -/
import Derived.Test.YtkalnfkokkjliaaGreatDoorE10
import Derived.Test.YtkalnfkokkjliaaGreatDoorK12
set_option linter.unusedVariables false
set_option linter.unusedSimpArgs false
namespace Dv
open Go Go.Proofs
open Go.ChangeShapes Go.WideShapes Go.RowKit Go.Deep Go.WideElems
set_option maxRecDepth 100000 in
theorem E8 {H:Type} {enc:TypeId×Value→H} {w:World} {base:Nat} {spare:Nat→Bool} {held:Bool} {fuel:Nat} {cs:List Value} {x:DataW H×List MemPlace} (h:DataW.trod enc Tryz.prog w base spare held fuel 57 cs=some x) (hl:cs.length=1):∃ l:List Int,bP l∧fP w [.dN 1 (ak l)] cs:=by
 obtain ⟨v,rfl⟩:∃ v,cs=[v]:=by
  match cs,hl with
  | [v],_=>exact ⟨v,rfl⟩
 obtain ⟨l,_,h1,hr⟩:=Ju (size:=1) (fun n:{n:Int // 0≤n∧n≤255}=>[Value.int .u8 n.1]) ⟨0,by decide⟩ (fun r v hv=>by simp at hv; rw [hv]; rfl) (fun _=>rfl) Tryz.underlying57 (by kernel_rfl:Tryz.prog.cellsOf 5=1) (by omega) (fun _ _ _ h=>by
  obtain ⟨z,hz,_,hw⟩:=DataW.trod_int Tryz.underlying5 h
  simp only [Lit.wf,Bool.and_eq_true,decide_eq_true_eq] at hw
  exact ⟨⟨z,hw⟩,hz⟩) ⟨_,h⟩
 refine ⟨l.map (·.1),fun c hc=>?_,fP.cons (r:=[]) (x:=.dN 1 (ak (l.map (·.1)))) (by rw [show ak (l.map (·.1))=l.map (fun n:{n:Int // 0≤n∧n≤255}=>[DV.val (.int .u8 n.1)]) by simp [ak,u8]]; exact hr) h1 fP.nil⟩
 obtain ⟨n,_,rfl⟩:=List.mem_map.1 hc
 exact n.2
set_option maxRecDepth 100000 in
theorem Hs {H:Type} {enc:TypeId×Value→H} {w:World} {base:Nat} {spare:Nat→Bool} {held:Bool} {fuel:Nat} {cs:List Value} {x:DataW H×List MemPlace} (h:DataW.trod enc Tryz.prog w base spare held fuel 65 cs=some x):∃ a:{a:Ak // bP a.b},fP w (BG a.1) cs:=by
 obtain ⟨n,hl,hf⟩:=FG Tryz.underlying65 h
 have xw:cs.length=3:=hl.trans (by kernel_rfl)
 have ci:Tryz.prog.cellsOf 3=1:=by kernel_rfl
 have cb:Tryz.prog.cellsOf 57=1:=by kernel_rfl
 obtain ⟨_,h0⟩:=hf 0 3 0 1 rfl ci
 obtain ⟨_,h1⟩:=hf 1 3 1 1 rfl ci
 obtain ⟨_,h2⟩:=hf 2 57 2 1 rfl cb
 obtain ⟨z0,r0⟩:=Be h0
 obtain ⟨z1,r1⟩:=Be h1
 obtain ⟨l,hb,r2⟩:=E8 h2 (by simp; omega)
 have he:=EZ [1,1,1] 0 cs (by simp; omega)
 simp only [IK,List.append_nil,Nat.zero_add,Nat.reduceAdd,List.drop_zero] at he
 refine ⟨⟨⟨z0,z1,l⟩,hb⟩,?_⟩
 rw [← he]
 exact fP.app (r:=[i64 z0]) (by simpa using r0) (fP.app (r:=[i64 z1]) r1 r2)
set_option maxRecDepth 100000 in
theorem Hr {H:Type} {enc:TypeId×Value→H} {W:World} {base:Nat} {spare:Nat→Bool} {held:Bool} {r:Reach} {b0:Nat} {v:Value} {d:DataW H} {p:List MemPlace} (hv:Value.okWide Tryz.prog W r b0 51 v) (h:DataW.Trod enc Tryz.prog W base spare held 51 v d p):∃ l:List Ak,dF (J0 W) W cI (mj l) v∧∀ a∈l,bP a.b:=by
 obtain ⟨a,len,cap,rfl⟩:=okWide_slice Tryz.underlying51 hv
 obtain ⟨fuel,hf⟩:=h
 obtain ⟨l,_,hr⟩:=FW (fun a:{a:Ak // bP a.b}=>BG a.1) ⟨BK,fun c hc=>by cases hc⟩ (fun _=>rfl) Tryz.underlying51 (by kernel_rfl:Tryz.prog.cellsOf 65=3) (by omega) (fun _ _ _ h=>Hs h) ⟨_,hf⟩
 refine ⟨l.map (·.1),?_,fun a ha=>?_⟩
 ·show jc (J0 W) W (.dN 3 ((l.map (·.1)).map BG)) _
  rw [List.map_map]
  exact hr
 ·obtain ⟨x,_,rfl⟩:=List.mem_map.1 ha
  exact x.2
end Dv
