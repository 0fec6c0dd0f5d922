/- part -/
import Derived.Test.YtkalnfkokkjliaaGreatDoorAC
set_option linter.all false
set_option maxRecDepth 100000
namespace Dv
open Go Go.Proofs
def nR (z:Nat) (l:List Int):List DV:=l.map i64++List.replicate z (i64 0)
def fR (a:Int) (b:Bool) (z:Nat) (l:List Int):List DV:=i64 a::bl b::nR z l
def kDo:oB:=⟨43,[.ptr 0 0,.agg [.int 1,.int 0,.int 0,.int 1,.int 1,.int 3,.int 0],.int 0],[.box 195 [.int 2,.int 1,.int 1,.int 1,.int 5,.int 2,.int 4,.int 50,.int 2000,.ptr 1 0,.ptr 2 0,.ptr 3 0,.sl 4 2 5 0 2,DZ,.int 1,.int 1,.int 0,.int 1,.sl 5 2 26 0 2,.bool false,.int 1],
 .box 150 [.sl 6 2000 1 0 2000,DZ,.int 2],
 .box 160 [.ptr 1 0,.ptr 7 0,.ptr 8 0,.int 1,.int (-1)],
 je 1,
 .dat 102 5 ([[(bl true),(bl false),(bl false),(i64 1),(i64 0)],[(bl true),(bl false),(bl false),(i64 1),(i64 0)]]),
 .dat 197 26 ([(fR 0 false 24 []),(fR 0 false 24 [])]),
 .dat 5 1 (zs 1000++bs [3,0,1,21,139,135,12,184,1]++zs 991),
 .box 243 [.ptr 1 0,.int 0,.int 500],
 .box 245 [.ptr 1 0,.int 1000,.int 1000,.int 9]],.int 0,
 [.box 195 [.int 2,.int 1,.int 1,.int 1,.int 5,.int 2,.int 4,.int 50,.int 2000,.ptr 1 0,.ptr 2 0,.ptr 3 0,.sl 9 2 5 0 2,.sl 10 1 12 0 1,.int 1,.int 1,.int 0,.int 1,.sl 5 2 26 0 2,.bool false,.int 2],
 .box 150 [.sl 6 2000 1 0 2000,DZ,.int 3],
 .box 160 [.ptr 1 0,.ptr 7 0,.ptr 8 0,.int 2,.int (-1)],
 je 1,
 .dat 102 5 ([[(bl true),(bl false),(bl false),(i64 1),(i64 0)],[(bl true),(bl false),(bl false),(i64 1),(i64 0)]]),
 .dat 197 26 ([(fR 0 false 24 []),(fR 0 false 24 [])]),
 .dat 5 1 (zs 1000++bs [3,0,1,21,139,135,12,184,1,9,1,7,1,0,0,1,1,3,0,207,147,92,209,1]++zs 976),
 .box 243 [.ptr 1 0,.int 0,.int 500],
 .box 245 [.ptr 1 0,.int 1000,.int 1000,.int 24],
 .dat 102 5 ([[(bl true),(bl false),(bl false),(i64 1),(i64 0)],[(bl true),(bl false),(bl false),(i64 1),(i64 0)]]),
 .dat 119 12 ([(nR 7 [0,0,1,1,3])])]⟩
def Mt:oB:=⟨44,[.ptr 0 0,.int 1],[.box 195 [.int 2,.int 1,.int 1,.int 1,.int 5,.int 2,.int 4,.int 50,.int 2000,.ptr 1 0,.ptr 2 0,.ptr 3 0,.sl 4 2 5 0 2,.sl 5 1 12 0 1,.int 1,.int 1,.int 0,.int 1,.sl 6 2 26 0 2,.bool false,.int 2],
 .box 150 [.sl 7 2000 1 0 2000,DZ,.int 3],
 .box 160 [.ptr 1 0,.ptr 8 0,.ptr 9 0,.int 2,.int (-1)],
 je 1,
 .dat 102 5 ([[(bl true),(bl false),(bl false),(i64 1),(i64 0)],[(bl true),(bl false),(bl false),(i64 1),(i64 0)]]),
 .dat 119 12 ([(nR 7 [0,0,1,1,3])]),
 .dat 197 26 ([(fR 0 false 24 []),(fR 0 false 24 [])]),
 .dat 5 1 (zs 1000++bs [3,0,1,21,139,135,12,184,1,9,1,7,1,0,0,1,1,3,0,207,147,92,209,1]++zs 976),
 .box 243 [.ptr 1 0,.int 0,.int 500],
 .box 245 [.ptr 1 0,.int 1000,.int 1000,.int 24]],.dM [.agg [.int 9,.int 1,.int 1,.int 0,.int 0,.int 0,.int 0],.sl 10 2 11 0 2],
 [.box 195 [.int 2,.int 1,.int 1,.int 1,.int 5,.int 2,.int 4,.int 50,.int 2000,.ptr 1 0,.ptr 2 0,.ptr 3 0,.sl 11 2 5 0 2,.sl 12 1 12 0 1,.int 1,.int 1,.int 0,.int 1,.sl 6 2 26 0 2,.bool false,.int 3],
 .box 150 [.sl 7 2000 1 0 2000,DZ,.int 4],
 .box 160 [.ptr 1 0,.ptr 8 0,.ptr 9 0,.int 3,.int (-1)],
 je 1,
 .dat 102 5 ([[(bl true),(bl false),(bl false),(i64 1),(i64 0)],[(bl true),(bl false),(bl false),(i64 1),(i64 0)]]),
 .dat 119 12 ([(nR 7 [0,0,1,1,3])]),
 .dat 197 26 ([(fR 1 true 12 [0,2,0,0,1,1,1,0,0,0,0,1]),(fR 1 true 12 [1,1,0,0,0,0,0,0,0,0,0,1])]),
 .dat 5 1 (zs 1000++bs [3,0,1,21,139,135,12,184,1,9,1,7,1,0,0,1,1,3,0,207,147,92,209,1,5,2,3,9,1,1,207,154,49,203,1]++zs 965),
 .box 243 [.ptr 1 0,.int 0,.int 500],
 .box 245 [.ptr 1 0,.int 1000,.int 1000,.int 35],
 .dat 87 11 ([(nR 2 [0,2,1,1,1,1,1,0,5]),(nR 2 [1,1,1,1,0,0,0,0,5])]),
 .dat 102 5 ([[(bl true),(bl false),(bl false),(i64 1),(i64 1)],[(bl true),(bl false),(bl false),(i64 1),(i64 0)]]),
 .dat 119 12 ([(nR 3 [0,0,1,1,3,0,1,1,1])])]⟩
def CF:oB:=⟨46,[.ptr 0 0,.agg [.int 4,.int 0,.int 0,.int 0,.int 0,.int 0,.int 0],.int 1,.int 0],[.box 195 [.int 2,.int 1,.int 1,.int 1,.int 5,.int 2,.int 4,.int 50,.int 2000,.ptr 1 0,.ptr 2 0,.ptr 3 0,.sl 4 2 5 0 2,.sl 5 1 12 0 1,.int 1,.int 1,.int 0,.int 1,.sl 6 2 26 0 2,.bool false,.int 3],
 .box 150 [.sl 7 2000 1 0 2000,DZ,.int 4],
 .box 160 [.ptr 1 0,.ptr 8 0,.ptr 9 0,.int 3,.int (-1)],
 je 1,
 .dat 102 5 ([[(bl true),(bl false),(bl false),(i64 1),(i64 1)],[(bl true),(bl false),(bl false),(i64 1),(i64 0)]]),
 .dat 119 12 ([(nR 3 [0,0,1,1,3,0,1,1,1])]),
 .dat 197 26 ([(fR 1 true 12 [0,2,0,0,1,1,1,0,0,0,0,1]),(fR 1 true 12 [1,1,0,0,0,0,0,0,0,0,0,1])]),
 .dat 5 1 (zs 1000++bs [3,0,1,21,139,135,12,184,1,9,1,7,1,0,0,1,1,3,0,207,147,92,209,1,5,2,3,9,1,1,207,154,49,203,1]++zs 965),
 .box 243 [.ptr 1 0,.int 0,.int 500],
 .box 245 [.ptr 1 0,.int 1000,.int 1000,.int 35]],.int 0,
 [.box 195 [.int 2,.int 1,.int 1,.int 1,.int 5,.int 2,.int 4,.int 50,.int 2000,.ptr 1 0,.ptr 2 0,.ptr 3 0,.sl 4 2 5 0 2,.sl 5 1 12 0 1,.int 1,.int 1,.int 0,.int 1,.sl 6 2 26 0 2,.bool true,.int 3],
 .box 150 [.sl 7 2000 1 0 2000,DZ,.int 4],
 .box 160 [.ptr 1 0,.ptr 8 0,.ptr 9 0,.int 4,.int (-1)],
 je 1,
 .dat 102 5 ([[(bl true),(bl false),(bl false),(i64 1),(i64 1)],[(bl true),(bl false),(bl false),(i64 1),(i64 0)]]),
 .dat 119 12 ([(nR 3 [0,0,1,1,3,0,1,1,1])]),
 .dat 197 26 ([(fR 1 true 12 [0,2,0,0,1,1,1,0,0,0,0,1]),(fR 1 true 12 [1,1,0,0,0,0,0,0,0,0,0,1])]),
 .dat 5 1 (zs 1000++bs [3,0,1,21,139,135,12,184,1,9,1,7,1,0,0,1,1,3,0,207,147,92,209,1,5,2,3,9,1,1,207,154,49,203,1]++zs 965),
 .box 243 [.ptr 1 0,.int 0,.int 500],
 .box 245 [.ptr 1 0,.int 1000,.int 1000,.int 44]]⟩
def CG:oB:=⟨45,[.ptr 0 0,.agg [.int 0,.int 6,.int 0,.int 0,.int 0,.int 0,.int 0,.int 0,.int 0,.int 0,.int 0],.int 1],[.box 195 [.int 2,.int 1,.int 1,.int 1,.int 5,.int 2,.int 4,.int 50,.int 2000,.ptr 1 0,.ptr 2 0,.ptr 3 0,.sl 4 2 5 0 2,.sl 5 1 12 0 1,.int 1,.int 1,.int 0,.int 1,.sl 6 2 26 0 2,.bool true,.int 3],
 .box 150 [.sl 7 2000 1 0 2000,DZ,.int 4],
 .box 160 [.ptr 1 0,.ptr 8 0,.ptr 9 0,.int 4,.int (-1)],
 je 1,
 .dat 102 5 ([[(bl true),(bl false),(bl false),(i64 1),(i64 1)],[(bl true),(bl false),(bl false),(i64 1),(i64 0)]]),
 .dat 119 12 ([(nR 3 [0,0,1,1,3,0,1,1,1])]),
 .dat 197 26 ([(fR 1 true 12 [0,2,0,0,1,1,1,0,0,0,0,1]),(fR 1 true 12 [1,1,0,0,0,0,0,0,0,0,0,1])]),
 .dat 5 1 (zs 1000++bs [3,0,1,21,139,135,12,184,1,9,1,7,1,0,0,1,1,3,0,207,147,92,209,1,5,2,3,9,1,1,207,154,49,203,1]++zs 965),
 .box 243 [.ptr 1 0,.int 0,.int 500],
 .box 245 [.ptr 1 0,.int 1000,.int 1000,.int 44]],.bool false,
 [.box 195 [.int 2,.int 1,.int 1,.int 1,.int 5,.int 2,.int 4,.int 50,.int 2000,.ptr 1 0,.ptr 2 0,.ptr 3 0,.sl 4 2 5 0 2,.sl 5 1 12 0 1,.int 1,.int 1,.int 0,.int 1,.sl 6 2 26 0 2,.bool true,.int 3],
 .box 150 [.sl 7 2000 1 0 2000,DZ,.int 4],
 .box 160 [.ptr 1 0,.ptr 8 0,.ptr 9 0,.int 4,.int (-1)],
 je 1,
 .dat 102 5 ([[(bl true),(bl false),(bl false),(i64 1),(i64 1)],[(bl true),(bl false),(bl false),(i64 1),(i64 0)]]),
 .dat 119 12 ([(nR 3 [0,0,1,1,3,0,1,1,1])]),
 .dat 197 26 ([(fR 1 true 12 [0,2,0,0,1,1,1,0,0,0,0,1]),(fR 1 true 12 [1,1,0,0,0,0,0,0,0,0,0,1])]),
 .dat 5 1 (zs 1000++bs [3,0,1,21,139,135,12,184,1,9,1,7,1,0,0,1,1,3,0,207,147,92,209,1,5,2,3,9,1,1,207,154,49,203,1]++zs 965),
 .box 243 [.ptr 1 0,.int 0,.int 500],
 .box 245 [.ptr 1 0,.int 1000,.int 1000,.int 44]]⟩
def wE:oB:=⟨39,[.ptr 0 0],[.box 195 [.int 2,.int 1,.int 1,.int 1,.int 5,.int 2,.int 4,.int 50,.int 2000,.ptr 1 0,.ptr 2 0,.ptr 3 0,.sl 4 2 5 0 2,.sl 5 1 12 0 1,.int 1,.int 1,.int 0,.int 1,.sl 6 2 26 0 2,.bool true,.int 3],
 .box 150 [.sl 7 2000 1 0 2000,DZ,.int 4],
 .box 160 [.ptr 1 0,.ptr 8 0,.ptr 9 0,.int 4,.int (-1)],
 je 1,
 .dat 102 5 ([[(bl true),(bl false),(bl false),(i64 1),(i64 1)],[(bl true),(bl false),(bl false),(i64 1),(i64 0)]]),
 .dat 119 12 ([(nR 3 [0,0,1,1,3,0,1,1,1])]),
 .dat 197 26 ([(fR 1 true 12 [0,2,0,0,1,1,1,0,0,0,0,1]),(fR 1 true 12 [1,1,0,0,0,0,0,0,0,0,0,1])]),
 .dat 5 1 (zs 1000++bs [3,0,1,21,139,135,12,184,1,9,1,7,1,0,0,1,1,3,0,207,147,92,209,1,5,2,3,9,1,1,207,154,49,203,1]++zs 965),
 .box 243 [.ptr 1 0,.int 0,.int 500],
 .box 245 [.ptr 1 0,.int 1000,.int 1000,.int 44]],.agg [DZ,DZ,.int 0,.int 0,.int 0,.int 0],
 [.box 195 [.int 2,.int 1,.int 1,.int 1,.int 5,.int 2,.int 4,.int 50,.int 2000,.ptr 1 0,.ptr 2 0,.ptr 3 0,.sl 4 2 5 0 2,.sl 5 1 12 0 1,.int 1,.int 1,.int 0,.int 1,.sl 6 2 26 0 2,.bool true,.int 3],
 .box 150 [.sl 7 2000 1 0 2000,DZ,.int 4],
 .box 160 [.ptr 1 0,.ptr 8 0,.ptr 9 0,.int 4,.int (-1)],
 je 1,
 .dat 102 5 ([[(bl true),(bl false),(bl false),(i64 1),(i64 1)],[(bl true),(bl false),(bl false),(i64 1),(i64 0)]]),
 .dat 119 12 ([(nR 3 [0,0,1,1,3,0,1,1,1])]),
 .dat 197 26 ([(fR 1 true 12 [0,2,0,0,1,1,1,0,0,0,0,1]),(fR 1 true 12 [1,1,0,0,0,0,0,0,0,0,0,1])]),
 .dat 5 1 (zs 1000++bs [3,0,1,21,139,135,12,184,1,9,1,7,1,0,0,1,1,3,0,207,147,92,209,1,5,2,3,9,1,1,207,154,49,203,1]++zs 965),
 .box 243 [.ptr 1 0,.int 0,.int 500],
 .box 245 [.ptr 1 0,.int 1000,.int 1000,.int 44]]⟩
def Mr:oB:=⟨43,[.ptr 0 0,.agg [.int 4,.int 0,.int 0,.int 0,.int 0,.int 0,.int 0],.int 1],[.box 195 [.int 2,.int 1,.int 1,.int 1,.int 5,.int 2,.int 4,.int 50,.int 2000,.ptr 1 0,.ptr 2 0,.ptr 3 0,.sl 4 2 5 0 2,.sl 5 1 12 0 1,.int 1,.int 1,.int 0,.int 1,.sl 6 2 26 0 2,.bool true,.int 3],
 .box 150 [.sl 7 2000 1 0 2000,DZ,.int 4],
 .box 160 [.ptr 1 0,.ptr 8 0,.ptr 9 0,.int 4,.int (-1)],
 je 1,
 .dat 102 5 ([[(bl true),(bl false),(bl false),(i64 1),(i64 1)],[(bl true),(bl false),(bl false),(i64 1),(i64 0)]]),
 .dat 119 12 ([(nR 3 [0,0,1,1,3,0,1,1,1])]),
 .dat 197 26 ([(fR 1 true 12 [0,2,0,0,1,1,1,0,0,0,0,1]),(fR 1 true 12 [1,1,0,0,0,0,0,0,0,0,0,1])]),
 .dat 5 1 (zs 1000++bs [3,0,1,21,139,135,12,184,1,9,1,7,1,0,0,1,1,3,0,207,147,92,209,1,5,2,3,9,1,1,207,154,49,203,1]++zs 965),
 .box 243 [.ptr 1 0,.int 0,.int 500],
 .box 245 [.ptr 1 0,.int 1000,.int 1000,.int 44]],.int 9,
 [.box 195 [.int 2,.int 1,.int 1,.int 1,.int 5,.int 2,.int 4,.int 50,.int 2000,.ptr 1 0,.ptr 2 0,.ptr 3 0,.sl 4 2 5 0 2,.sl 5 1 12 0 1,.int 1,.int 1,.int 0,.int 1,.sl 6 2 26 0 2,.bool true,.int 3],
 .box 150 [.sl 7 2000 1 0 2000,DZ,.int 4],
 .box 160 [.ptr 1 0,.ptr 8 0,.ptr 9 0,.int 4,.int (-1)],
 je 1,
 .dat 102 5 ([[(bl true),(bl false),(bl false),(i64 1),(i64 1)],[(bl true),(bl false),(bl false),(i64 1),(i64 0)]]),
 .dat 119 12 ([(nR 3 [0,0,1,1,3,0,1,1,1])]),
 .dat 197 26 ([(fR 1 true 12 [0,2,0,0,1,1,1,0,0,0,0,1]),(fR 1 true 12 [1,1,0,0,0,0,0,0,0,0,0,1])]),
 .dat 5 1 (zs 1000++bs [3,0,1,21,139,135,12,184,1,9,1,7,1,0,0,1,1,3,0,207,147,92,209,1,5,2,3,9,1,1,207,154,49,203,1]++zs 965),
 .box 243 [.ptr 1 0,.int 0,.int 500],
 .box 245 [.ptr 1 0,.int 1000,.int 1000,.int 44]]⟩
end Dv
namespace Dv
open Go Go.Proofs
theorem aa_:sA eB (tf (oc Tryz.prog) []) 5000 60 false kDo.f kDo.a kDo.o=some (kDo.r,kDo.b):=by kernel_rfl
theorem Sb:sA eB (tf (oc Tryz.prog) []) 5000 60 false CF.f CF.a CF.o=some (CF.r,CF.b):=by kernel_rfl
theorem Sc:sA eB (tf (oc Tryz.prog) []) 5000 60 false CG.f CG.a CG.o=some (CG.r,CG.b):=by kernel_rfl
theorem Oy:sA eB (tf (oc Tryz.prog) []) 5000 60 false wE.f wE.a wE.o=some (wE.r,wE.b):=by kernel_rfl
theorem Zx:sA eB (tf (oc Tryz.prog) []) 5000 60 false Mr.f Mr.a Mr.o=some (Mr.r,Mr.b):=by kernel_rfl
end Dv
namespace Dv
open Go Go.Proofs
theorem Zy:sA eB (tf (oc Tryz.prog) []) 5000 60 false Mt.f Mt.a Mt.o=some (Mt.r,Mt.b):=by kernel_rfl
end Dv
namespace Dv
open Go Go.Proofs
theorem HO:sA eB (tf (oc Tryz.prog) [sN,kDo,Mt,CF,CG,wE,Mr]) 5000 60 false 26 [] []=some (.bool true,[]):=by kernel_rfl
theorem GZ:bu Tryz.prog eB 26 [] [] (.bool true) []:=by
 refine kV (fun k hk=>?_) HO
 simp only [List.mem_cons,List.not_mem_nil,or_false] at hk
 rcases hk with rfl | rfl | rfl | rfl | rfl | rfl | rfl
 ·exact Ms
 ·exact kV (l:=[]) (fun _ h=>by cases h) aa_
 ·exact kV (l:=[]) (fun _ h=>by cases h) Zy
 ·exact kV (l:=[]) (fun _ h=>by cases h) Sb
 ·exact kV (l:=[]) (fun _ h=>by cases h) Sc
 ·exact kV (l:=[]) (fun _ h=>by cases h) Oy
 ·exact kV (l:=[]) (fun _ h=>by cases h) Zx
end Dv
