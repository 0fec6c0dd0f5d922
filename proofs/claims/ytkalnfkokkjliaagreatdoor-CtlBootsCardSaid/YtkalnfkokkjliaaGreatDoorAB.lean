/- The logical machine and its plain laws: parts A4, A5, A6, A7, proved sound. -/
import Derived.Test.YtkalnfkokkjliaaGreatDoorA2
set_option linter.unusedVariables false
set_option linter.unusedSimpArgs false
namespace Dv
open Go Go.Proofs
def nR (z:Nat) (l:List Int):List DV:=l.map i64++List.replicate z (i64 0)
def fR (a:Int) (b:Bool) (z:Nat) (l:List Int):List DV:=i64 a::bl b::nR z l
def Yw:nQ:=⟨43,[.ptr 0 0,.agg [.int 1,.int 0,.int 0,.int 1,.int 1,.int 3,.int 0],.int 0],[.box 195 [.int 2,.int 1,.int 1,.int 1,.int 5,.int 2,.int 4,.int 50,.int 2000,.ptr 1 0,.ptr 2 0,.ptr 3 0,.sl 4 2 5 0 2,Ck,.int 1,.int 1,.int 0,.int 1,.sl 5 2 26 0 2,.bool false,.int 1],
 .box 150 [.sl 6 2000 1 0 2000,Ck,.int 2],
 .box 160 [.ptr 1 0,.ptr 7 0,.ptr 8 0,.int 1,.int (-1)],
 jd 1,
 .dat 102 5 ([[(bl true),(bl false),(bl false),(i64 1),(i64 0)],[(bl true),(bl false),(bl false),(i64 1),(i64 0)]]),
 .dat 197 26 ([(fR 0 false 24 []),(fR 0 false 24 [])]),
 .dat 5 1 (zs 1000++bs [3,0,1,21,139,135,12,184,1]++zs 991),
 .box 243 [.ptr 1 0,.int 0,.int 500],
 .box 245 [.ptr 1 0,.int 1000,.int 1000,.int 9]],.int 0,
 [.box 195 [.int 2,.int 1,.int 1,.int 1,.int 5,.int 2,.int 4,.int 50,.int 2000,.ptr 1 0,.ptr 2 0,.ptr 3 0,.sl 9 2 5 0 2,.sl 10 1 12 0 1,.int 1,.int 1,.int 0,.int 1,.sl 5 2 26 0 2,.bool false,.int 2],
 .box 150 [.sl 6 2000 1 0 2000,Ck,.int 3],
 .box 160 [.ptr 1 0,.ptr 7 0,.ptr 8 0,.int 2,.int (-1)],
 jd 1,
 .dat 102 5 ([[(bl true),(bl false),(bl false),(i64 1),(i64 0)],[(bl true),(bl false),(bl false),(i64 1),(i64 0)]]),
 .dat 197 26 ([(fR 0 false 24 []),(fR 0 false 24 [])]),
 .dat 5 1 (zs 1000++bs [3,0,1,21,139,135,12,184,1,9,1,7,1,0,0,1,1,3,0,207,147,92,209,1]++zs 976),
 .box 243 [.ptr 1 0,.int 0,.int 500],
 .box 245 [.ptr 1 0,.int 1000,.int 1000,.int 24],
 .dat 102 5 ([[(bl true),(bl false),(bl false),(i64 1),(i64 0)],[(bl true),(bl false),(bl false),(i64 1),(i64 0)]]),
 .dat 119 12 ([(nR 7 [0,0,1,1,3])])]⟩
def JZ:nQ:=⟨44,[.ptr 0 0,.int 1],[.box 195 [.int 2,.int 1,.int 1,.int 1,.int 5,.int 2,.int 4,.int 50,.int 2000,.ptr 1 0,.ptr 2 0,.ptr 3 0,.sl 4 2 5 0 2,.sl 5 1 12 0 1,.int 1,.int 1,.int 0,.int 1,.sl 6 2 26 0 2,.bool false,.int 2],
 .box 150 [.sl 7 2000 1 0 2000,Ck,.int 3],
 .box 160 [.ptr 1 0,.ptr 8 0,.ptr 9 0,.int 2,.int (-1)],
 jd 1,
 .dat 102 5 ([[(bl true),(bl false),(bl false),(i64 1),(i64 0)],[(bl true),(bl false),(bl false),(i64 1),(i64 0)]]),
 .dat 119 12 ([(nR 7 [0,0,1,1,3])]),
 .dat 197 26 ([(fR 0 false 24 []),(fR 0 false 24 [])]),
 .dat 5 1 (zs 1000++bs [3,0,1,21,139,135,12,184,1,9,1,7,1,0,0,1,1,3,0,207,147,92,209,1]++zs 976),
 .box 243 [.ptr 1 0,.int 0,.int 500],
 .box 245 [.ptr 1 0,.int 1000,.int 1000,.int 24]],.dM [.agg [.int 9,.int 1,.int 1,.int 0,.int 0,.int 0,.int 0],.sl 10 2 11 0 2],
 [.box 195 [.int 2,.int 1,.int 1,.int 1,.int 5,.int 2,.int 4,.int 50,.int 2000,.ptr 1 0,.ptr 2 0,.ptr 3 0,.sl 11 2 5 0 2,.sl 12 1 12 0 1,.int 1,.int 1,.int 0,.int 1,.sl 6 2 26 0 2,.bool false,.int 3],
 .box 150 [.sl 7 2000 1 0 2000,Ck,.int 4],
 .box 160 [.ptr 1 0,.ptr 8 0,.ptr 9 0,.int 3,.int (-1)],
 jd 1,
 .dat 102 5 ([[(bl true),(bl false),(bl false),(i64 1),(i64 0)],[(bl true),(bl false),(bl false),(i64 1),(i64 0)]]),
 .dat 119 12 ([(nR 7 [0,0,1,1,3])]),
 .dat 197 26 ([(fR 1 true 12 [0,2,0,0,1,1,1,0,0,0,0,1]),(fR 1 true 12 [1,1,0,0,0,0,0,0,0,0,0,1])]),
 .dat 5 1 (zs 1000++bs [3,0,1,21,139,135,12,184,1,9,1,7,1,0,0,1,1,3,0,207,147,92,209,1,5,2,3,9,1,1,207,154,49,203,1]++zs 965),
 .box 243 [.ptr 1 0,.int 0,.int 500],
 .box 245 [.ptr 1 0,.int 1000,.int 1000,.int 35],
 .dat 87 11 ([(nR 2 [0,2,1,1,1,1,1,0,5]),(nR 2 [1,1,1,1,0,0,0,0,5])]),
 .dat 102 5 ([[(bl true),(bl false),(bl false),(i64 1),(i64 1)],[(bl true),(bl false),(bl false),(i64 1),(i64 0)]]),
 .dat 119 12 ([(nR 3 [0,0,1,1,3,0,1,1,1])])]⟩
def A9:nQ:=⟨46,[.ptr 0 0,.agg [.int 4,.int 0,.int 0,.int 0,.int 0,.int 0,.int 0],.int 1,.int 0],[.box 195 [.int 2,.int 1,.int 1,.int 1,.int 5,.int 2,.int 4,.int 50,.int 2000,.ptr 1 0,.ptr 2 0,.ptr 3 0,.sl 4 2 5 0 2,.sl 5 1 12 0 1,.int 1,.int 1,.int 0,.int 1,.sl 6 2 26 0 2,.bool false,.int 3],
 .box 150 [.sl 7 2000 1 0 2000,Ck,.int 4],
 .box 160 [.ptr 1 0,.ptr 8 0,.ptr 9 0,.int 3,.int (-1)],
 jd 1,
 .dat 102 5 ([[(bl true),(bl false),(bl false),(i64 1),(i64 1)],[(bl true),(bl false),(bl false),(i64 1),(i64 0)]]),
 .dat 119 12 ([(nR 3 [0,0,1,1,3,0,1,1,1])]),
 .dat 197 26 ([(fR 1 true 12 [0,2,0,0,1,1,1,0,0,0,0,1]),(fR 1 true 12 [1,1,0,0,0,0,0,0,0,0,0,1])]),
 .dat 5 1 (zs 1000++bs [3,0,1,21,139,135,12,184,1,9,1,7,1,0,0,1,1,3,0,207,147,92,209,1,5,2,3,9,1,1,207,154,49,203,1]++zs 965),
 .box 243 [.ptr 1 0,.int 0,.int 500],
 .box 245 [.ptr 1 0,.int 1000,.int 1000,.int 35]],.int 0,
 [.box 195 [.int 2,.int 1,.int 1,.int 1,.int 5,.int 2,.int 4,.int 50,.int 2000,.ptr 1 0,.ptr 2 0,.ptr 3 0,.sl 4 2 5 0 2,.sl 5 1 12 0 1,.int 1,.int 1,.int 0,.int 1,.sl 6 2 26 0 2,.bool true,.int 3],
 .box 150 [.sl 7 2000 1 0 2000,Ck,.int 4],
 .box 160 [.ptr 1 0,.ptr 8 0,.ptr 9 0,.int 4,.int (-1)],
 jd 1,
 .dat 102 5 ([[(bl true),(bl false),(bl false),(i64 1),(i64 1)],[(bl true),(bl false),(bl false),(i64 1),(i64 0)]]),
 .dat 119 12 ([(nR 3 [0,0,1,1,3,0,1,1,1])]),
 .dat 197 26 ([(fR 1 true 12 [0,2,0,0,1,1,1,0,0,0,0,1]),(fR 1 true 12 [1,1,0,0,0,0,0,0,0,0,0,1])]),
 .dat 5 1 (zs 1000++bs [3,0,1,21,139,135,12,184,1,9,1,7,1,0,0,1,1,3,0,207,147,92,209,1,5,2,3,9,1,1,207,154,49,203,1]++zs 965),
 .box 243 [.ptr 1 0,.int 0,.int 500],
 .box 245 [.ptr 1 0,.int 1000,.int 1000,.int 44]]⟩
def A_:nQ:=⟨45,[.ptr 0 0,.agg [.int 0,.int 6,.int 0,.int 0,.int 0,.int 0,.int 0,.int 0,.int 0,.int 0,.int 0],.int 1],[.box 195 [.int 2,.int 1,.int 1,.int 1,.int 5,.int 2,.int 4,.int 50,.int 2000,.ptr 1 0,.ptr 2 0,.ptr 3 0,.sl 4 2 5 0 2,.sl 5 1 12 0 1,.int 1,.int 1,.int 0,.int 1,.sl 6 2 26 0 2,.bool true,.int 3],
 .box 150 [.sl 7 2000 1 0 2000,Ck,.int 4],
 .box 160 [.ptr 1 0,.ptr 8 0,.ptr 9 0,.int 4,.int (-1)],
 jd 1,
 .dat 102 5 ([[(bl true),(bl false),(bl false),(i64 1),(i64 1)],[(bl true),(bl false),(bl false),(i64 1),(i64 0)]]),
 .dat 119 12 ([(nR 3 [0,0,1,1,3,0,1,1,1])]),
 .dat 197 26 ([(fR 1 true 12 [0,2,0,0,1,1,1,0,0,0,0,1]),(fR 1 true 12 [1,1,0,0,0,0,0,0,0,0,0,1])]),
 .dat 5 1 (zs 1000++bs [3,0,1,21,139,135,12,184,1,9,1,7,1,0,0,1,1,3,0,207,147,92,209,1,5,2,3,9,1,1,207,154,49,203,1]++zs 965),
 .box 243 [.ptr 1 0,.int 0,.int 500],
 .box 245 [.ptr 1 0,.int 1000,.int 1000,.int 44]],.bool false,
 [.box 195 [.int 2,.int 1,.int 1,.int 1,.int 5,.int 2,.int 4,.int 50,.int 2000,.ptr 1 0,.ptr 2 0,.ptr 3 0,.sl 4 2 5 0 2,.sl 5 1 12 0 1,.int 1,.int 1,.int 0,.int 1,.sl 6 2 26 0 2,.bool true,.int 3],
 .box 150 [.sl 7 2000 1 0 2000,Ck,.int 4],
 .box 160 [.ptr 1 0,.ptr 8 0,.ptr 9 0,.int 4,.int (-1)],
 jd 1,
 .dat 102 5 ([[(bl true),(bl false),(bl false),(i64 1),(i64 1)],[(bl true),(bl false),(bl false),(i64 1),(i64 0)]]),
 .dat 119 12 ([(nR 3 [0,0,1,1,3,0,1,1,1])]),
 .dat 197 26 ([(fR 1 true 12 [0,2,0,0,1,1,1,0,0,0,0,1]),(fR 1 true 12 [1,1,0,0,0,0,0,0,0,0,0,1])]),
 .dat 5 1 (zs 1000++bs [3,0,1,21,139,135,12,184,1,9,1,7,1,0,0,1,1,3,0,207,147,92,209,1,5,2,3,9,1,1,207,154,49,203,1]++zs 965),
 .box 243 [.ptr 1 0,.int 0,.int 500],
 .box 245 [.ptr 1 0,.int 1000,.int 1000,.int 44]]⟩
def vk:nQ:=⟨39,[.ptr 0 0],[.box 195 [.int 2,.int 1,.int 1,.int 1,.int 5,.int 2,.int 4,.int 50,.int 2000,.ptr 1 0,.ptr 2 0,.ptr 3 0,.sl 4 2 5 0 2,.sl 5 1 12 0 1,.int 1,.int 1,.int 0,.int 1,.sl 6 2 26 0 2,.bool true,.int 3],
 .box 150 [.sl 7 2000 1 0 2000,Ck,.int 4],
 .box 160 [.ptr 1 0,.ptr 8 0,.ptr 9 0,.int 4,.int (-1)],
 jd 1,
 .dat 102 5 ([[(bl true),(bl false),(bl false),(i64 1),(i64 1)],[(bl true),(bl false),(bl false),(i64 1),(i64 0)]]),
 .dat 119 12 ([(nR 3 [0,0,1,1,3,0,1,1,1])]),
 .dat 197 26 ([(fR 1 true 12 [0,2,0,0,1,1,1,0,0,0,0,1]),(fR 1 true 12 [1,1,0,0,0,0,0,0,0,0,0,1])]),
 .dat 5 1 (zs 1000++bs [3,0,1,21,139,135,12,184,1,9,1,7,1,0,0,1,1,3,0,207,147,92,209,1,5,2,3,9,1,1,207,154,49,203,1]++zs 965),
 .box 243 [.ptr 1 0,.int 0,.int 500],
 .box 245 [.ptr 1 0,.int 1000,.int 1000,.int 44]],.agg [Ck,Ck,.int 0,.int 0,.int 0,.int 0],
 [.box 195 [.int 2,.int 1,.int 1,.int 1,.int 5,.int 2,.int 4,.int 50,.int 2000,.ptr 1 0,.ptr 2 0,.ptr 3 0,.sl 4 2 5 0 2,.sl 5 1 12 0 1,.int 1,.int 1,.int 0,.int 1,.sl 6 2 26 0 2,.bool true,.int 3],
 .box 150 [.sl 7 2000 1 0 2000,Ck,.int 4],
 .box 160 [.ptr 1 0,.ptr 8 0,.ptr 9 0,.int 4,.int (-1)],
 jd 1,
 .dat 102 5 ([[(bl true),(bl false),(bl false),(i64 1),(i64 1)],[(bl true),(bl false),(bl false),(i64 1),(i64 0)]]),
 .dat 119 12 ([(nR 3 [0,0,1,1,3,0,1,1,1])]),
 .dat 197 26 ([(fR 1 true 12 [0,2,0,0,1,1,1,0,0,0,0,1]),(fR 1 true 12 [1,1,0,0,0,0,0,0,0,0,0,1])]),
 .dat 5 1 (zs 1000++bs [3,0,1,21,139,135,12,184,1,9,1,7,1,0,0,1,1,3,0,207,147,92,209,1,5,2,3,9,1,1,207,154,49,203,1]++zs 965),
 .box 243 [.ptr 1 0,.int 0,.int 500],
 .box 245 [.ptr 1 0,.int 1000,.int 1000,.int 44]]⟩
def JX:nQ:=⟨43,[.ptr 0 0,.agg [.int 4,.int 0,.int 0,.int 0,.int 0,.int 0,.int 0],.int 1],[.box 195 [.int 2,.int 1,.int 1,.int 1,.int 5,.int 2,.int 4,.int 50,.int 2000,.ptr 1 0,.ptr 2 0,.ptr 3 0,.sl 4 2 5 0 2,.sl 5 1 12 0 1,.int 1,.int 1,.int 0,.int 1,.sl 6 2 26 0 2,.bool true,.int 3],
 .box 150 [.sl 7 2000 1 0 2000,Ck,.int 4],
 .box 160 [.ptr 1 0,.ptr 8 0,.ptr 9 0,.int 4,.int (-1)],
 jd 1,
 .dat 102 5 ([[(bl true),(bl false),(bl false),(i64 1),(i64 1)],[(bl true),(bl false),(bl false),(i64 1),(i64 0)]]),
 .dat 119 12 ([(nR 3 [0,0,1,1,3,0,1,1,1])]),
 .dat 197 26 ([(fR 1 true 12 [0,2,0,0,1,1,1,0,0,0,0,1]),(fR 1 true 12 [1,1,0,0,0,0,0,0,0,0,0,1])]),
 .dat 5 1 (zs 1000++bs [3,0,1,21,139,135,12,184,1,9,1,7,1,0,0,1,1,3,0,207,147,92,209,1,5,2,3,9,1,1,207,154,49,203,1]++zs 965),
 .box 243 [.ptr 1 0,.int 0,.int 500],
 .box 245 [.ptr 1 0,.int 1000,.int 1000,.int 44]],.int 9,
 [.box 195 [.int 2,.int 1,.int 1,.int 1,.int 5,.int 2,.int 4,.int 50,.int 2000,.ptr 1 0,.ptr 2 0,.ptr 3 0,.sl 4 2 5 0 2,.sl 5 1 12 0 1,.int 1,.int 1,.int 0,.int 1,.sl 6 2 26 0 2,.bool true,.int 3],
 .box 150 [.sl 7 2000 1 0 2000,Ck,.int 4],
 .box 160 [.ptr 1 0,.ptr 8 0,.ptr 9 0,.int 4,.int (-1)],
 jd 1,
 .dat 102 5 ([[(bl true),(bl false),(bl false),(i64 1),(i64 1)],[(bl true),(bl false),(bl false),(i64 1),(i64 0)]]),
 .dat 119 12 ([(nR 3 [0,0,1,1,3,0,1,1,1])]),
 .dat 197 26 ([(fR 1 true 12 [0,2,0,0,1,1,1,0,0,0,0,1]),(fR 1 true 12 [1,1,0,0,0,0,0,0,0,0,0,1])]),
 .dat 5 1 (zs 1000++bs [3,0,1,21,139,135,12,184,1,9,1,7,1,0,0,1,1,3,0,207,147,92,209,1,5,2,3,9,1,1,207,154,49,203,1]++zs 965),
 .box 243 [.ptr 1 0,.int 0,.int 500],
 .box 245 [.ptr 1 0,.int 1000,.int 1000,.int 44]]⟩
end Dv
namespace Dv
open Go Go.Proofs
set_option maxRecDepth 100000 in
theorem YW:sy fL (th (oM Tryz.prog) []) 5000 60 false Yw.f Yw.a Yw.o=some (Yw.r,Yw.b):=by kernel_rfl
set_option maxRecDepth 100000 in
theorem Po:sy fL (th (oM Tryz.prog) []) 5000 60 false A9.f A9.a A9.o=some (A9.r,A9.b):=by kernel_rfl
set_option maxRecDepth 100000 in
theorem Pp:sy fL (th (oM Tryz.prog) []) 5000 60 false A_.f A_.a A_.o=some (A_.r,A_.b):=by kernel_rfl
set_option maxRecDepth 100000 in
theorem Mc:sy fL (th (oM Tryz.prog) []) 5000 60 false vk.f vk.a vk.o=some (vk.r,vk.b):=by kernel_rfl
set_option maxRecDepth 100000 in
theorem Wv:sy fL (th (oM Tryz.prog) []) 5000 60 false JX.f JX.a JX.o=some (JX.r,JX.b):=by kernel_rfl
end Dv
namespace Dv
open Go Go.Proofs
set_option maxRecDepth 100000 in
theorem Ww:sy fL (th (oM Tryz.prog) []) 5000 60 false JZ.f JZ.a JZ.o=some (JZ.r,JZ.b):=by kernel_rfl
end Dv
namespace Dv
open Go Go.Proofs
set_option maxRecDepth 100000 in
theorem FV:sy fL (th (oM Tryz.prog) [rT,Yw,JZ,A9,A_,vk,JX]) 5000 60 false 26 [] []=some (.bool true,[]):=by kernel_rfl
theorem Fl:br Tryz.prog fL 26 [] [] (.bool true) []:=by
 refine mq (fun k hk=>?_) FV
 simp only [List.mem_cons,List.not_mem_nil,or_false] at hk
 rcases hk with rfl | rfl | rfl | rfl | rfl | rfl | rfl
 ·exact JY
 ·exact mq (l:=[]) (fun _ h=>by cases h) YW
 ·exact mq (l:=[]) (fun _ h=>by cases h) Ww
 ·exact mq (l:=[]) (fun _ h=>by cases h) Po
 ·exact mq (l:=[]) (fun _ h=>by cases h) Pp
 ·exact mq (l:=[]) (fun _ h=>by cases h) Mc
 ·exact mq (l:=[]) (fun _ h=>by cases h) Wv
end Dv
