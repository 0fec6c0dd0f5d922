/- The document's Apply. -/
import Derived.Test.YtkalnfkokkjliaaGreatDoorD18
set_option linter.unusedVariables false
set_option linter.unusedSimpArgs false
namespace Dv
open Go Go.Proofs
variable {G : Nat → Option (List DV)}

def ir17 : Nat × C × List RV := (312,
(.seq (.reg [qo 3 (.box 23 (.t 0)),
 qo 4 (.box 30 (.t 1)),
 qo 5 (.box 37 (.t 2)),
 qo 6 (.new 30 [(.val (.slice none 0 0)),(.val (.slice none 0 0)),q0,q0,q0,q0]),
 qo 7 (.mv (qk 0))])
 (.seq (.reg [qo 13 (.ldn 6 (.t 4)),
 qo 14 (.call (.f 65) [(.t 13)]),
 qo 8 (.new 30 [(.val (.slice none 0 0)),(.val (.slice none 0 0)),q0,q0,q0,q0]),
 qn (.st 6 (.t 8) (.t 14))])
 (.seq (.reg [qo 15 (.ldn 9 (.t 3)),
 qo 16 (.ldn 6 (.t 8)),
 qo 17 (.ldn 7 (.t 5)),
 qo 18 (.call (.f 66) [(.t 15),(.t 16),(.t 17)]),
 qm 9 18])
 (.seq (.seq (.reg [qm 19 9,
 qo 20 (.bin .neq (.t 19) (qk 0))])
 (.cond (.t 20) (.seq (.reg [qo 21 (.ldn 6 (.t 8)),
 qm 22 9,
 qn (.st 6 (.t 6) (.t 21)),
 qm 7 22])
 .ret)
 .skip))
 (.seq (.seq (.reg [qo 23 (.fad 0 (.t 5)),
 qo 24 (.ld1 (.t 23))])
 (.block 0 (.seq (.reg [qo 26 (.bin .eql (.t 24) (qk 1)),
 qm 25 26])
 (.cond (.t 25) (.reg [qo 27 (.fad 1 (.t 8)),
 qo 28 (.ld1 (.t 27)),
 qo 29 (.fad 1 (.t 5)),
 qo 30 (.ld1 (.t 29)),
 qo 31 (.fad 2 (.t 5)),
 qo 32 (.ld1 (.t 31)),
 qo 33 (.fad 3 (.t 5)),
 qo 34 (.ld1 (.t 33)),
 qo 35 (.fad 4 (.t 5)),
 qo 36 (.ld1 (.t 35)),
 qo 37 (.fad 5 (.t 5)),
 qo 38 (.ld1 (.t 37)),
 qo 39 (.fad 6 (.t 5)),
 qo 40 (.ld1 (.t 39)),
 qo 41 (.build [q0,q0,q0,q0,q0,q0,q0,q0,q0,q0,q0,q0] [(0,1,(.t 30)),(1,1,(.t 32)),(2,1,(.t 34)),(3,1,(.t 36)),(4,1,(.t 38)),(5,1,(.t 40))]),
 qo 42 (.bsl 119 12 [(.t 41)]),
 qo 43 (.app 119 12 96 (.t 28) (.t 42)),
 qo 44 (.fad 1 (.t 8)),
 qn (.st 1 (.t 44) (.t 43))])
 (.seq (.seq (.reg [qo 46 (.bin .eql (.t 24) (qk 2)),
 qm 45 46])
 (.cond (.t 45) .skip
 (.reg [qo 47 (.bin .eql (.t 24) (qk 15)),
 qm 45 47])))
 (.cond (.t 45) (.reg [qo 48 (.ldn 6 (.t 8)),
 qo 49 (.fad 1 (.t 5)),
 qo 50 (.ld1 (.t 49)),
 qo 51 (.call (.f 67) [(.t 48),(.t 50),(qk 4)]),
 qn (.st 6 (.t 8) (.t 51))])
 (.seq (.reg [qo 53 (.bin .eql (.t 24) (qk 3)),
 qm 52 53])
 (.cond (.t 52) (.seq (.reg [qo 54 (.ldn 6 (.t 8)),
 qo 55 (.call (.f 68) [(.t 54)]),
 qo 56 (.fad 3 (.t 8)),
 qn (.st 1 (.t 56) (.t 55))])
 (.seq (.reg [qo 57 (.fad 1 (.t 5)),
 qo 58 (.ld1 (.t 57)),
 qo 59 (.fad 2 (.t 8)),
 qn (.st 1 (.t 59) (.t 58))])
 (.reg [qo 60 (.fad 4 (.t 8)),
 qn (.st 1 (.t 60) (qk 0))])))
 (.seq (.reg [qo 62 (.bin .eql (.t 24) (qk 4)),
 qm 61 62])
 (.cond (.t 61) (.reg [qo 63 (.fad 4 (.t 8)),
 qn (.st 1 (.t 63) (qk 1))])
 (.seq (.reg [qo 65 (.bin .eql (.t 24) (qk 5)),
 qm 64 65])
 (.cond (.t 64) (.reg [qo 66 (.fad 4 (.t 8)),
 qn (.st 1 (.t 66) (qk 0))])
 (.seq (.reg [qo 68 (.bin .eql (.t 24) (qk 6)),
 qm 67 68])
 (.cond (.t 67) (.reg [qo 69 (.fad 4 (.t 8)),
 qn (.st 1 (.t 69) (qk 2))])
 (.seq (.reg [qo 71 (.bin .eql (.t 24) (qk 7)),
 qm 70 71])
 (.cond (.t 70) (.seq (.seq (.reg [qo 72 (.fad 0 (.t 8)),
 qo 73 (.ld1 (.t 72)),
 qo 74 (.fad 1 (.t 5)),
 qo 75 (.ld1 (.t 74)),
 qo 76 (.ixa 5 (.t 73) (.t 75)),
 qo 77 (.fad 4 (.t 76)),
 qo 78 (.ld1 (.t 77)),
 qo 79 (.bin .gtr (.t 78) (qk 0))])
 (.cond (.t 79) (.regD [qo 80 (.ldn 6 (.t 8)),
 qo 81 (.fad 0 (.t 8)),
 qd 82 (.ld1 (.t 81)) [1],
 qo 83 (.fad 1 (.t 5)),
 qd 84 (.ld1 (.t 83)) [3],
 qd 85 (.ixa 5 (.t 82) (.t 84)) [2,1,4,3],
 qd 86 (.fad 4 (.t 85)) [5,2,1,4,3],
 qd 87 (.ld1 (.t 86)) [6,5,2,1,4,3],
 qd 88 (.call (.f 67) [(.t 80),(.t 87),(qk 0)]) [0,7,6,5,2,1,4,3],
 ql (.st 6 (.t 8) (.t 88)) [8,0,7,6,5,2,1,4,3]])
 .skip))
 (.seq (.reg [qo 89 (.fad 0 (.t 8)),
 qo 90 (.ld1 (.t 89)),
 qo 91 (.fad 1 (.t 5)),
 qo 92 (.ld1 (.t 91)),
 qo 93 (.ixa 5 (.t 90) (.t 92)),
 qo 94 (.fad 0 (.t 93)),
 qn (.st 1 (.t 94) qf)])
 (.reg [qo 95 (.fad 0 (.t 8)),
 qo 96 (.ld1 (.t 95)),
 qo 97 (.fad 1 (.t 5)),
 qo 98 (.ld1 (.t 97)),
 qo 99 (.ixa 5 (.t 96) (.t 98)),
 qo 100 (.fad 2 (.t 99)),
 qn (.st 1 (.t 100) qf)])))
 (.seq (.reg [qo 102 (.bin .eql (.t 24) (qk 8)),
 qm 101 102])
 (.cond (.t 101) (.seq (.reg [qo 103 (.fad 0 (.t 8)),
 qo 104 (.ld1 (.t 103)),
 qo 105 (.fad 1 (.t 5)),
 qo 106 (.ld1 (.t 105)),
 qo 107 (.ixa 5 (.t 104) (.t 106)),
 qo 108 (.fad 0 (.t 107)),
 qn (.st 1 (.t 108) qt)])
 (.reg [qo 109 (.fad 0 (.t 8)),
 qo 110 (.ld1 (.t 109)),
 qo 111 (.fad 1 (.t 5)),
 qo 112 (.ld1 (.t 111)),
 qo 113 (.fad 2 (.t 5)),
 qo 114 (.ld1 (.t 113)),
 qo 115 (.ixa 5 (.t 110) (.t 112)),
 qo 116 (.fad 3 (.t 115)),
 qn (.st 1 (.t 116) (.t 114))]))
 (.seq (.reg [qo 118 (.bin .eql (.t 24) (qk 9)),
 qm 117 118])
 (.cond (.t 117) (.seq (.reg [qo 119 (.fad 1 (.t 8)),
 qo 120 (.ld1 (.t 119)),
 qo 121 (.fad 1 (.t 5)),
 qo 122 (.ld1 (.t 121)),
 qo 123 (.bin .sub (.t 122) (qk 1)),
 qo 124 (.ixa 12 (.t 120) (.t 123)),
 qo 125 (.fad 6 (.t 124)),
 qn (.st 1 (.t 125) (qk 1))])
 (.seq (.reg [qo 126 (.fad 1 (.t 8)),
 qo 127 (.ld1 (.t 126)),
 qo 128 (.fad 1 (.t 5)),
 qo 129 (.ld1 (.t 128)),
 qo 130 (.bin .sub (.t 129) (qk 1)),
 qo 131 (.ixa 12 (.t 127) (.t 130)),
 qo 132 (.fad 7 (.t 131)),
 qo 133 (.ld1 (.t 132)),
 qo 134 (.bin .add (.t 133) (qk 1)),
 qo 135 (.ixa 12 (.t 127) (.t 130)),
 qo 136 (.fad 7 (.t 135)),
 qn (.st 1 (.t 136) (.t 134))])
 (.seq (.reg [qo 137 (.fad 1 (.t 8)),
 qo 138 (.ld1 (.t 137)),
 qo 139 (.fad 1 (.t 5)),
 qo 140 (.ld1 (.t 139)),
 qo 141 (.bin .sub (.t 140) (qk 1)),
 qo 142 (.fad 2 (.t 5)),
 qo 143 (.ld1 (.t 142)),
 qo 144 (.ixa 12 (.t 138) (.t 141)),
 qo 145 (.fad 8 (.t 144)),
 qn (.st 1 (.t 145) (.t 143))])
 (.seq (.reg [qo 10 (.mv (qk 0))])
 (.block 1 (.loop (.seq (.seq (.reg [qm 146 10,
 qo 147 (.fad 0 (.t 8)),
 qo 148 (.ld1 (.t 147)),
 qo 149 (.len (.t 148)),
 qo 150 (.bin .lss (.t 146) (.t 149))])
 (.cond (.t 150) .skip
 (.exit 1)))
 (.seq (.block 2 (.seq (.reg [qo 153 (.fad 2 (.t 5)),
 qo 154 (.ld1 (.t 153)),
 qm 155 10,
 qo 156 (.call (.f 69) [(.t 154),(.t 155)])])
 (.cond (.t 156) (.reg [qo 157 (.fad 0 (.t 8)),
 qo 158 (.ld1 (.t 157)),
 qm 159 10,
 qo 160 (.fad 1 (.t 5)),
 qo 161 (.ld1 (.t 160)),
 qo 162 (.ixa 5 (.t 158) (.t 159)),
 qo 163 (.fad 4 (.t 162)),
 qn (.st 1 (.t 163) (.t 161))])
 .skip)))
 (.reg [qm 151 10,
 qo 152 (.bin .add (.t 151) (qk 1)),
 qm 10 152])))))))))
 (.seq (.reg [qo 165 (.bin .eql (.t 24) (qk 10)),
 qm 164 165])
 (.cond (.t 164) (.seq (.reg [qo 166 (.fad 1 (.t 8)),
 qo 167 (.ld1 (.t 166)),
 qo 168 (.fad 1 (.t 5)),
 qo 169 (.ld1 (.t 168)),
 qo 170 (.bin .sub (.t 169) (qk 1)),
 qo 171 (.ixa 12 (.t 167) (.t 170)),
 qo 172 (.fad 6 (.t 171)),
 qn (.st 1 (.t 172) (qk 2))])
 (.reg [qo 173 (.fad 1 (.t 8)),
 qo 174 (.ld1 (.t 173)),
 qo 175 (.fad 1 (.t 5)),
 qo 176 (.ld1 (.t 175)),
 qo 177 (.bin .sub (.t 176) (qk 1)),
 qo 178 (.fad 2 (.t 5)),
 qo 179 (.ld1 (.t 178)),
 qo 180 (.ixa 12 (.t 174) (.t 177)),
 qo 181 (.fad 9 (.t 180)),
 qn (.st 1 (.t 181) (.t 179))]))
 (.seq (.seq (.reg [qo 183 (.bin .eql (.t 24) (qk 11)),
 qm 182 183])
 (.cond (.t 182) .skip
 (.reg [qo 184 (.bin .eql (.t 24) (qk 14)),
 qm 182 184])))
 (.cond (.t 182) (.reg [qo 185 (.ldn 6 (.t 8)),
 qo 186 (.fad 1 (.t 5)),
 qo 187 (.ld1 (.t 186)),
 qo 188 (.call (.f 67) [(.t 185),(.t 187),(qk 0)]),
 qn (.st 6 (.t 8) (.t 188))])
 (.seq (.reg [qo 190 (.bin .eql (.t 24) (qk 12)),
 qm 189 190])
 (.cond (.t 189) (.seq (.reg [qo 191 (.fad 1 (.t 8)),
 qo 192 (.ld1 (.t 191)),
 qo 193 (.fad 1 (.t 5)),
 qo 194 (.ld1 (.t 193)),
 qo 195 (.bin .sub (.t 194) (qk 1)),
 qo 196 (.ixa 12 (.t 192) (.t 195)),
 qo 197 (.fad 6 (.t 196)),
 qn (.st 1 (.t 197) (qk 3))])
 (.reg [qo 198 (.fad 1 (.t 8)),
 qo 199 (.ld1 (.t 198)),
 qo 200 (.fad 1 (.t 5)),
 qo 201 (.ld1 (.t 200)),
 qo 202 (.bin .sub (.t 201) (qk 1)),
 qo 203 (.fad 2 (.t 5)),
 qo 204 (.ld1 (.t 203)),
 qo 205 (.ixa 12 (.t 199) (.t 202)),
 qo 206 (.fad 10 (.t 205)),
 qn (.st 1 (.t 206) (.t 204))]))
 (.seq (.reg [qo 208 (.bin .eql (.t 24) (qk 13)),
 qm 207 208])
 (.cond (.t 207) (.reg [qo 209 (.fad 1 (.t 8)),
 qo 210 (.ld1 (.t 209)),
 qo 211 (.fad 1 (.t 5)),
 qo 212 (.ld1 (.t 211)),
 qo 213 (.bin .sub (.t 212) (qk 1)),
 qo 214 (.fad 2 (.t 5)),
 qo 215 (.ld1 (.t 214)),
 qo 216 (.ixa 12 (.t 210) (.t 213)),
 qo 217 (.fad 11 (.t 216)),
 qn (.st 1 (.t 217) (.t 215))])
 (.seq (.reg [qo 219 (.bin .eql (.t 24) (qk 16)),
 qm 218 219])
 (.cond (.t 218) (.reg [qo 220 (.fad 0 (.t 8)),
 qo 221 (.ld1 (.t 220)),
 qo 222 (.fad 1 (.t 5)),
 qo 223 (.ld1 (.t 222)),
 qo 224 (.ixa 5 (.t 221) (.t 223)),
 qo 225 (.fad 1 (.t 224)),
 qn (.st 1 (.t 225) qt)])
 (.seq (.reg [qo 227 (.bin .eql (.t 24) (qk 17)),
 qm 226 227])
 (.cond (.t 226) (.reg [qo 228 (.fad 0 (.t 8)),
 qo 229 (.ld1 (.t 228)),
 qo 230 (.fad 1 (.t 5)),
 qo 231 (.ld1 (.t 230)),
 qo 232 (.ixa 5 (.t 229) (.t 231)),
 qo 233 (.fad 1 (.t 232)),
 qn (.st 1 (.t 233) qf)])
 (.seq (.reg [qo 235 (.bin .eql (.t 24) (qk 18)),
 qm 234 235])
 (.cond (.t 234) (.reg [qo 236 (.fad 0 (.t 8)),
 qo 237 (.ld1 (.t 236)),
 qo 238 (.fad 1 (.t 5)),
 qo 239 (.ld1 (.t 238)),
 qo 240 (.ixa 5 (.t 237) (.t 239)),
 qo 241 (.fad 2 (.t 240)),
 qn (.st 1 (.t 241) qt)])
 (.seq (.reg [qo 243 (.bin .eql (.t 24) (qk 19)),
 qm 242 243])
 (.cond (.t 242) (.seq (.reg [qo 244 (.fad 0 (.t 8)),
 qo 245 (.ld1 (.t 244)),
 qo 246 (.fad 1 (.t 5)),
 qo 247 (.ld1 (.t 246)),
 qo 248 (.ixa 5 (.t 245) (.t 247)),
 qo 249 (.fad 2 (.t 248)),
 qn (.st 1 (.t 249) qf)])
 (.seq (.reg [qo 250 (.fad 0 (.t 8)),
 qo 251 (.ld1 (.t 250)),
 qo 252 (.fad 1 (.t 5)),
 qo 253 (.ld1 (.t 252)),
 qo 254 (.ixa 5 (.t 251) (.t 253)),
 qo 255 (.fad 1 (.t 254)),
 qn (.st 1 (.t 255) qf)])
 (.reg [qo 256 (.fad 0 (.t 8)),
 qo 257 (.ld1 (.t 256)),
 qo 258 (.fad 1 (.t 5)),
 qo 259 (.ld1 (.t 258)),
 qo 260 (.fad 2 (.t 5)),
 qo 261 (.ld1 (.t 260)),
 qo 262 (.ixa 5 (.t 257) (.t 259)),
 qo 263 (.fad 3 (.t 262)),
 qn (.st 1 (.t 263) (.t 261))])))
 (.seq (.reg [qo 265 (.bin .eql (.t 24) (qk 20)),
 qm 264 265])
 (.cond (.t 264) (.seq (.reg [qo 11 (.mv (qk 0))])
 (.seq (.seq (.reg [qo 12 (.mv (qk 0))])
 (.block 3 (.loop (.seq (.seq (.reg [qm 266 12,
 qo 267 (.bin .lss (.t 266) (qk 6))])
 (.cond (.t 267) .skip
 (.exit 3)))
 (.seq (.block 4 (.seq (.reg [qo 270 (.fad 1 (.t 8)),
 qo 271 (.ld1 (.t 270)),
 qo 272 (.fad 1 (.t 5)),
 qo 273 (.ld1 (.t 272)),
 qo 274 (.bin .sub (.t 273) (qk 1)),
 qo 275 (.ixa 12 (.t 271) (.t 274)),
 qo 276 (.fad 8 (.t 275)),
 qo 277 (.ld1 (.t 276)),
 qm 278 12,
 qo 279 (.call (.f 69) [(.t 277),(.t 278)]),
 qm 280 279,
 qg 281 (.mv (.t 12)) 280 true,
 qg 282 (.fad 2 (.t 5)) 280 true,
 qg 283 (.ld1 (.t 282)) 280 true,
 qg 284 (.bin .neq (.t 281) (.t 283)) 280 true,
 qo 285 (.pick (.t 280) (.t 284) qf)])
 (.cond (.t 285) (.reg [qm 286 11,
 qm 287 12,
 qo 288 (.cvt .u64 (.t 287)),
 qo 289 (.bin .shl (qk 1) (.t 288)),
 qo 290 (.bin .add (.t 286) (.t 289)),
 qm 11 290])
 .skip)))
 (.reg [qm 268 12,
 qo 269 (.bin .add (.t 268) (qk 1)),
 qm 12 269]))))))
 (.seq (.reg [qo 291 (.fad 1 (.t 8)),
 qo 292 (.ld1 (.t 291)),
 qo 293 (.fad 1 (.t 5)),
 qo 294 (.ld1 (.t 293)),
 qo 295 (.bin .sub (.t 294) (qk 1)),
 qm 296 11,
 qo 297 (.ixa 12 (.t 292) (.t 295)),
 qo 298 (.fad 8 (.t 297)),
 qn (.st 1 (.t 298) (.t 296))])
 (.reg [qo 299 (.fad 0 (.t 8)),
 qo 300 (.ld1 (.t 299)),
 qo 301 (.fad 2 (.t 5)),
 qo 302 (.ld1 (.t 301)),
 qo 303 (.ixa 5 (.t 300) (.t 302)),
 qo 304 (.fad 4 (.t 303)),
 qn (.st 1 (.t 304) (qk 0))]))))
 (.seq (.reg [qo 306 (.bin .eql (.t 24) (qk 21)),
 qm 305 306])
 (.cond (.t 305) (.reg [qo 307 (.fad 5 (.t 8)),
 qo 308 (.ld1 (.t 307)),
 qo 309 (.bin .add (.t 308) (qk 1)),
 qo 310 (.fad 5 (.t 8)),
 qn (.st 1 (.t 310) (.t 309))])
 .skip))))))))))))))))))))))))))))))))))))))))
 (.seq (.reg [qo 311 (.ldn 6 (.t 8)),
 qn (.st 6 (.t 6) (.t 311)),
 qo 7 (.mv (qk 0))])
 .ret)))))),
[(.cn 6 6),(.t 7)])
theorem irOk17 : convFn Tryz.prog Tryz.f17 = some ir17 := by kernel_rfl


section
variable {s : StateD} {o : OpD}
theorem do_1 (hk : o.kind = 1) : doR s o = ({ s with jobs := s.jobs ++ [newJob o] }) := by
  simp [doR,hk]
theorem do_2 (hk : o.kind = 2) : doR s o = (letGoD s o.a 4) := by
  simp [doR,hk]
theorem do_3 (hk : o.kind = 3) : doR s o = ({ s with prior := meant s, goal := o.a, mode := 0 }) := by
  simp [doR,hk]
theorem do_4 (hk : o.kind = 4) : doR s o = ({ s with mode := 1 }) := by
  simp [doR,hk]
theorem do_5 (hk : o.kind = 5) : doR s o = ({ s with mode := 0 }) := by
  simp [doR,hk]
theorem do_6 (hk : o.kind = 6) : doR s o = ({ s with mode := 2 }) := by
  simp [doR,hk]
theorem do_7 (hk : o.kind = 7) : doR s o = ((let t := if 0 < (nodeA s o.a).job then letGoD s (nodeA s o.a).job 0 else s; setN t o.a { nodeA t o.a with up := false, moving := false })) := by
  simp [doR,hk]
theorem do_8 (hk : o.kind = 8) : doR s o = (setN s o.a { nodeA s o.a with up := true, version := o.b }) := by
  simp [doR,hk]
theorem do_9 (hk : o.kind = 9) : doR s o = ({ setJ s o.a { jobA s o.a with phase := 1, inc := (jobA s o.a).inc + 1, nodes := o.b } with nodes := s.nodes.mapIdx (takesA o.b o.a) }) := by
  simp [doR,hk]
theorem do_10 (hk : o.kind = 10) : doR s o = (setJ s o.a { jobA s o.a with phase := 2, since := o.b }) := by
  simp [doR,hk]
theorem do_11 (hk : o.kind = 11) : doR s o = (letGoD s o.a 0) := by
  simp [doR,hk]
theorem do_12 (hk : o.kind = 12) : doR s o = (setJ s o.a { jobA s o.a with phase := 3, til := o.b }) := by
  simp [doR,hk]
theorem do_13 (hk : o.kind = 13) : doR s o = (setJ s o.a { jobA s o.a with epoch := o.b }) := by
  simp [doR,hk]
theorem do_14 (hk : o.kind = 14) : doR s o = (letGoD s o.a 0) := by
  simp [doR,hk]
theorem do_15 (hk : o.kind = 15) : doR s o = (letGoD s o.a 4) := by
  simp [doR,hk]
theorem do_16 (hk : o.kind = 16) : doR s o = (setN s o.a { nodeA s o.a with cordon := true }) := by
  simp [doR,hk]
theorem do_17 (hk : o.kind = 17) : doR s o = (setN s o.a { nodeA s o.a with cordon := false }) := by
  simp [doR,hk]
theorem do_18 (hk : o.kind = 18) : doR s o = (setN s o.a { nodeA s o.a with moving := true }) := by
  simp [doR,hk]
theorem do_19 (hk : o.kind = 19) : doR s o = (setN s o.a { nodeA s o.a with moving := false, cordon := false, version := o.b }) := by
  simp [doR,hk]
theorem do_20 (hk : o.kind = 20) : doR s o = (setN (setJ s o.a { jobA s o.a with nodes := leftTo (jobA s o.a).nodes o.b 6 }) o.b { nodeA s o.b with job := 0 }) := by
  simp [doR,hk]
theorem do_21 (hk : o.kind = 21) : doR s o = ({ s with term := s.term + 1 }) := by
  simp [doR,hk]
end
theorem why_job {c : ConfD} {s : StateD} {o : OpD} (ho : opOkB o = true) (hk : jobK o.kind = true) (h : whyR c s o = 0) : 1 ≤ o.a ∧ o.a ≤ s.jobs.length := by
  by_cases hq : o.a < 1 ∨ (s.jobs.length : Int) < o.a
  · exfalso
    unfold jobK at hk
    have hk := of_decide_eq_true hk
    rcases hk with hk | hk | hk | hk | hk | hk | hk | hk | hk <;>
      simp [whyR,ho,hk,jobK,hq] at h
  · omega
theorem why_node {c : ConfD} {s : StateD} {o : OpD} (ho : opOkB o = true) (hk : nodeK o.kind = true) (h : whyR c s o = 0) : o.a < s.nodes.length := by
  by_cases hq : (s.nodes.length : Int) ≤ o.a
  · exfalso
    unfold nodeK at hk
    have hk := of_decide_eq_true hk
    rcases hk with hk | hk | hk | hk | hk | hk <;>
      simp [whyR,ho,hk,jobK,nodeK,hq] at h
  · omega
def hold9S (c : ConfD) (s : StateD) (o : OpD) (j' : JobD) (k : Nat) : St := ⟨[(5, .ptr 2 0), (6, .ptr 3 0), (8, .ptr 6 0), (10, .int k)], [some (.box 23 [.int c.nodes, .int c.queues, .int c.quota, .int c.wave, .int c.lease, .int c.retry, .int c.deadline, .int c.room, .int c.disk]),
  some (.box 30 [nodesV s.nodes, jobsV s.jobs, .int s.goal, .int s.prior, .int s.mode, .int s.term]),
  some (.box 37 [.int 9, .int o.a, .int o.b, .int o.c, .int o.d, .int o.e, .int o.f]),
  some (.box 30 [.d (.val (.slice none 0 0)), .d (.val (.slice none 0 0)), .int 0, .int 0, .int 0, .int 0]),
  some (.dat 102 5 ((updTo (takesA o.b o.a) s.nodes k).map nodeR)), some (.dat 119 12 ((s.jobs.set (o.a - 1).toNat j').map jobR)), some (.box 30 [.sl 4 s.nodes.length 5 0 s.nodes.length, .sl 5 s.jobs.length 12 0 s.jobs.length, .int s.goal, .int s.prior, .int s.mode, .int s.term])]⟩
def shrink9S (c : ConfD) (s : StateD) (o : OpD) (m : Int) (k : Nat) : St := ⟨[(5, .ptr 2 0), (6, .ptr 3 0), (8, .ptr 6 0), (11, .int (leftTo m o.b k)), (12, .int k)], [some (.box 23 [.int c.nodes, .int c.queues, .int c.quota, .int c.wave, .int c.lease, .int c.retry, .int c.deadline, .int c.room, .int c.disk]),
  some (.box 30 [nodesV s.nodes, jobsV s.jobs, .int s.goal, .int s.prior, .int s.mode, .int s.term]),
  some (.box 37 [.int 20, .int o.a, .int o.b, .int o.c, .int o.d, .int o.e, .int o.f]),
  some (.box 30 [.d (.val (.slice none 0 0)), .d (.val (.slice none 0 0)), .int 0, .int 0, .int 0, .int 0]),
  some (.dat 102 5 (s.nodes.map nodeR)), some (.dat 119 12 (s.jobs.map jobR)), some (.box 30 [.sl 4 s.nodes.length 5 0 s.nodes.length, .sl 5 s.jobs.length 12 0 s.jobs.length, .int s.goal, .int s.prior, .int s.mode, .int s.term])]⟩
theorem leftTo_le (m b : Int) : ∀ k : Nat, k ≤ 6 → 0 ≤ leftTo m b k ∧ leftTo m b k < 2 ^ k
  | 0, _ => by simp [leftTo]
  | k + 1, h => by
    have := leftTo_le m b k (by omega)
    unfold leftTo
    have hp : (2 : Int) ^ (k + 1) = 2 * 2 ^ k := by rw [Int.pow_succ]; omega
    have h0 : (0 : Int) < 2 ^ k := Int.pow_pos (by decide)
    split <;> omega
set_option maxHeartbeats 3200000 in
theorem apply9_tri (c : ConfD) (s : StateD) (o : OpD) (hp : RightP c s) : Tri Tryz.prog G 17 [confV c, stateV s, opV o] [] (.tup [stateV (applyR c s o).1, .int (applyR c s o).2]) [] := by
  refine tri_W Tryz.func17 (by decide) irOk17 (Nat.le_of_ble_eq_true rfl) ?_
  have hln := hp.len
  have hlj := hp.jobs
  have hBJ : (s.jobs.length + 1) * 96 ≤ 70368744177664 := by omega
  simp only [ir17,go_sem,simprocAttr]
  refine W_calln (copy9_tri s (by omega) (by omega)) rfl rfl rfl ?_
  simp only [go_sem,simprocAttr]
  refine W_callz [4, 5] (why9_tri c s o (by omega) (by omega)) rfl (by simp [argRs,argR,rowsAt,objL,List.take_of_length_le,go_sem,simprocAttr]) (by simp [objL]) rfl rfl ?_; simp only [go_sem,simprocAttr]
  cases hw0 : (whyR c s o != 0) with
  | true =>
    have hA : applyR c s o = (s, whyR c s o) := by unfold applyR; rw [if_pos (by simpa using hw0)]
    rw [hA]
    simp only [hw0,go_sem,simprocAttr]
    exact BackZ [4, 5] rfl (by simp [St.obj,objL]) (by simp [St.obj,objL,oneOr,St.get,getE,argR,argRs,rowsAt,LV.int,List.take_of_length_le])
  | false =>
  have hw1 : whyR c s o = 0 := by simpa using hw0
  have hA : applyR c s o = (doR s o, 0) := by unfold applyR; rw [if_neg (by simpa using hw1)]
  rw [hA]
  have ho : opOkB o = true := by
    cases ho : opOkB o with
    | true => rfl
    | false => unfold whyR at hw1; rw [if_pos ho] at hw1; cases hw1
  obtain ⟨hkk, hka, hkb⟩ := opOk_nums ho
  simp only [hw0,go_sem,simprocAttr]
  have hk : o.kind = 1 ∨ o.kind = 2 ∨ o.kind = 3 ∨ o.kind = 4 ∨ o.kind = 5 ∨ o.kind = 6 ∨ o.kind = 7 ∨ o.kind = 8 ∨ o.kind = 9 ∨ o.kind = 10 ∨ o.kind = 11 ∨ o.kind = 12 ∨ o.kind = 13 ∨ o.kind = 14 ∨ o.kind = 15 ∨ o.kind = 16 ∨ o.kind = 17 ∨ o.kind = 18 ∨ o.kind = 19 ∨ o.kind = 20 ∨ o.kind = 21 := by omega
  rcases hk with hk | hk | hk | hk | hk | hk | hk | hk | hk | hk | hk | hk | hk | hk | hk | hk | hk | hk | hk | hk | hk
  · rw [do_1 hk]
    simp only [hk,List.length_append,hBJ,go_sem,simprocAttr]
    exact BackZ [4, 5] rfl (by simp [St.obj,objL]) (by simp [St.obj,objL,oneOr,St.get,getE,argR,argRs,rowsAt,LV.int,List.take_of_length_le,nodeR,jobR,newJob])
  · rw [do_2 hk]
    have hqa := why_job ho (by rw [hk]; rfl) hw1
    simp only [hk,go_sem,simprocAttr]
    refine W_callo [4, 5] (letGo9_tri s o.a 4 (by omega) (by omega) (by omega) (by omega)) rfl (by simp only [argRs,argR,List.map_cons,List.map_nil,go_sem,simprocAttr,stA,datO]) (by decide) (by simp only [go_sem,simprocAttr,stA,datO]) (by simp only [go_sem,simprocAttr,List.all_cons,List.all_nil,stA,datO]) (by simp) ?_; simp only [go_sem,simprocAttr,stA,datO]
    exact BackZ [4, 5] rfl (by simp [St.obj,objL]) (by simp [St.obj,objL,oneOr,St.get,getE,argR,argRs,rowsAt,LV.int,List.take_of_length_le,nodeR,jobR,letGoD])
  · rw [do_3 hk]
    simp only [hk,go_sem,simprocAttr]
    refine W_callz [4, 5] (meant9_tri s) rfl (by simp [argRs,argR,rowsAt,objL,List.take_of_length_le,go_sem,simprocAttr]) (by simp [objL]) rfl rfl ?_; simp only [go_sem,simprocAttr]
    exact BackZ [4, 5] rfl (by simp [St.obj,objL]) (by simp [St.obj,objL,oneOr,St.get,getE,argR,argRs,rowsAt,LV.int,List.take_of_length_le,nodeR,jobR])
  · rw [do_4 hk]
    simp only [hk,go_sem,simprocAttr]
    exact BackZ [4, 5] rfl (by simp [St.obj,objL]) (by simp [St.obj,objL,oneOr,St.get,getE,argR,argRs,rowsAt,LV.int,List.take_of_length_le,nodeR,jobR])
  · rw [do_5 hk]
    simp only [hk,go_sem,simprocAttr]
    exact BackZ [4, 5] rfl (by simp [St.obj,objL]) (by simp [St.obj,objL,oneOr,St.get,getE,argR,argRs,rowsAt,LV.int,List.take_of_length_le,nodeR,jobR])
  · rw [do_6 hk]
    simp only [hk,go_sem,simprocAttr]
    exact BackZ [4, 5] rfl (by simp [St.obj,objL]) (by simp [St.obj,objL,oneOr,St.get,getE,argR,argRs,rowsAt,LV.int,List.take_of_length_le,nodeR,jobR])
  · rw [do_7 hk]
    have hqa := why_node ho (by rw [hk]; rfl) hw1
    have q3 : 0 ≤ o.a := hka.1
    obtain ⟨i, hiq⟩ : ∃ i : Nat, o.a.toNat = i := ⟨_, rfl⟩
    have hil : i < s.nodes.length := by omega
    have hg := get_mapD (f := nodeR) zeroNode hil
    have hN : nodeA s o.a = s.nodes.getD i zeroNode := by unfold nodeA; rw [hiq]
    rw [hN]
    have hjb := hp.job i hil
    unfold noA at hjb
    generalize hnn : s.nodes.getD i zeroNode = n at *
    simp only [hk,q3,hiq,hil,hg,go_sem,simprocAttr]
    refine WC_split (fun h => ?_) (fun h => ?_) <;> simp only [h,go_sem,simprocAttr] <;> (try simp only [beq_iff_eq,beq_eq_false_iff_ne,bne_iff_ne,ne_eq,decide_eq_true_eq,decide_eq_false_iff_not,Bool.not_true,Bool.not_false,Bool.not_eq_true,Bool.not_eq_false,bne_eq_false_iff_eq,Decidable.not_not] at h)
    · rw [if_pos (by omega)]
      simp only [hk,q3,hiq,hil,hg,go_sem,simprocAttr]
      refine WD_callo [4, 5] (letGo9_tri s n.job 0 (by omega) (by omega) (by omega) (by omega)) rfl (by simp only [argRs,argR,List.map_cons,List.map_nil,go_sem,simprocAttr,stA,datO]) (by decide) (by simp only [go_sem,simprocAttr,stA,datO]) (by simp only [go_sem,simprocAttr,List.all_cons,List.all_nil,stA,datO]) (by simp) ?_; simp only [go_sem,simprocAttr,stA,datO]
      refine W_opsD_end rfl ?_
      have hg2 : ((letGoD s n.job 0).nodes.map nodeR)[i]? = some (nodeR (nodeA (letGoD s n.job 0) o.a)) := by
        unfold nodeA; rw [hiq]; exact get_mapD zeroNode (by simp [letGoD]; exact hil)
      have hl : (letGoD s n.job 0).nodes.length = s.nodes.length := by simp [letGoD]
      have hlj2 : (letGoD s n.job 0).jobs.length = s.jobs.length := by simp [letGoD]
      have hst : (letGoD s n.job 0).goal = s.goal ∧ (letGoD s n.job 0).prior = s.prior ∧ (letGoD s n.job 0).mode = s.mode ∧ (letGoD s n.job 0).term = s.term := ⟨rfl, rfl, rfl, rfl⟩
      obtain ⟨e1, e2, e3, e4⟩ := hst
      generalize nodeA (letGoD s n.job 0) o.a = m at *
      generalize letGoD s n.job 0 = u at *
      have hil2 : i < u.nodes.length := by omega
      simp only [hk,q3,hiq,hil,hil2,hl,hg2,List.getElem?_set_self,List.length_map,List.length_set,List.set_set,go_sem,simprocAttr]
      exact BackZ [4, 5] rfl (by simp [St.obj,objL]) (by simp [St.obj,objL,oneOr,St.get,getE,argR,argRs,rowsAt,LV.int,List.take_of_length_le,nodeR,jobR,setN,hiq,List.map_set,hl,hlj2,e1,e2,e3,e4])
    · rw [if_neg (by omega), hN]
      simp only [hk,q3,hiq,hil,hg,List.getElem?_set_self,List.length_map,List.length_set,List.set_set,go_sem,simprocAttr]
      exact BackZ [4, 5] rfl (by simp [St.obj,objL]) (by simp [St.obj,objL,oneOr,St.get,getE,argR,argRs,rowsAt,LV.int,List.take_of_length_le,nodeR,jobR,setN,hiq,List.map_set])
  · rw [do_8 hk]
    have hqa := why_node ho (by rw [hk]; rfl) hw1
    have q3 : 0 ≤ o.a := hka.1
    obtain ⟨i, hiq⟩ : ∃ i : Nat, o.a.toNat = i := ⟨_, rfl⟩
    have hil : i < s.nodes.length := by omega
    have hg := get_mapD (f := nodeR) zeroNode hil
    have hN : nodeA s o.a = s.nodes.getD i zeroNode := by unfold nodeA; rw [hiq]
    rw [hN]
    generalize s.nodes.getD i zeroNode = n at *
    simp only [hk,q3,hiq,hil,hg,List.getElem?_set_self,List.length_map,List.length_set,List.set_set,go_sem,simprocAttr]
    exact BackZ [4, 5] rfl (by simp [St.obj,objL]) (by simp [St.obj,objL,oneOr,St.get,getE,argR,argRs,rowsAt,LV.int,List.take_of_length_le,nodeR,jobR,setN,hiq,List.map_set])
  · rw [do_9 hk]
    have hqa := why_job ho (by rw [hk]; rfl) hw1
    have hw : IntKind.i64.wrap (o.a - 1) = o.a - 1 := wrap_in (by omega) (by omega)
    have q3 : 0 ≤ o.a - 1 := by omega
    obtain ⟨k, hkq⟩ : ∃ k : Nat, (o.a - 1).toNat = k := ⟨_, rfl⟩
    have hkl : k < s.jobs.length := by omega
    have hg := get_mapD (f := jobR) zeroJob hkl
    have hJ : jobA s o.a = s.jobs.getD k zeroJob := by unfold jobA; rw [hkq]
    rw [hJ]
    have hnum := (hp.num k hkl).inc
    unfold joA at hnum
    generalize s.jobs.getD k zeroJob = j at *
    have hw2 : IntKind.i64.wrap (j.inc + 1) = j.inc + 1 := wrap_in (by omega) (by omega)
    simp only [hk,hw,hw2,q3,hkq,hkl,hg,List.getElem?_set_self,List.length_map,List.length_set,List.set_set,go_sem,simprocAttr]
    refine W_loopI [5, 6, 8, 10] [] (fun q : Nat => q ≤ s.nodes.length) (fun q => s.nodes.length - q) (hold9S c s o { j with phase := 1, inc := j.inc + 1, nodes := o.b }) 0 ?_ (Nat.zero_le _) (fun q hq => ?_)
    · simp only [hold9S,updTo_zero,Int.natCast_zero,hkq,List.map_set,go_sem,simprocAttr]
    simp only [hold9S,hkq,go_sem,simprocAttr]
    refine WC_split (fun h => ?_) (fun h => ?_)
    · have h := lt_of_dec h
      have hg2 : ((updTo (takesA o.b o.a) s.nodes q).map nodeR)[q]? = some (nodeR s.nodes[q]) := by rw [List.getElem?_map, updTo_at _ _ h]; rfl
      simp only [go_sem,simprocAttr]
      refine W_calld (has9_tri o.b q (by omega)) rfl rfl rfl rfl ?_; simp only [go_sem,simprocAttr]
      cases hb : hasB o.b q with
      | true =>
        have hs : ((updTo (takesA o.b o.a) s.nodes q).map nodeR).set q (nodeR { s.nodes[q] with job := o.a }) = (updTo (takesA o.b o.a) s.nodes (q + 1)).map nodeR := by
          rw [← List.map_set, updTo_set _ _ h (by simp only [takesA,hb,if_true])]
        simp only [nodeR] at hs
        simp only [h,hg2,updTo_length,go_sem,simprocAttr]
        refine W_lpI (q + 1) ?_ ?_ (by omega) (by omega)
        · simp only [go_sem,simprocAttr]
        · simp only [hold9S,hkq,go_sem,simprocAttr,wrap_succ (show q < 9223372036854775807 by omega),hs]
      | false =>
        have hs := updTo_same (takesA o.b o.a) s.nodes h (by simp only [takesA,hb,Bool.false_eq_true,if_false])
        simp only [go_sem,simprocAttr]
        refine W_lpI (q + 1) ?_ ?_ (by omega) (by omega)
        · simp only [go_sem,simprocAttr]
        · simp only [hold9S,hkq,go_sem,simprocAttr,wrap_succ (show q < 9223372036854775807 by omega),hs]
    · obtain rfl := eq_of_dec h hq
      simp only [updTo_full,go_sem,simprocAttr]
      exact BackZ [4, 5] rfl (by simp [St.obj,objL]) (by simp [St.obj,objL,oneOr,St.get,getE,argR,argRs,rowsAt,LV.int,List.take_of_length_le,nodeR,jobR,setJ,hkq])
  · rw [do_10 hk]
    have hqa := why_job ho (by rw [hk]; rfl) hw1
    have hw : IntKind.i64.wrap (o.a - 1) = o.a - 1 := wrap_in (by omega) (by omega)
    have q3 : 0 ≤ o.a - 1 := by omega
    obtain ⟨k, hkq⟩ : ∃ k : Nat, (o.a - 1).toNat = k := ⟨_, rfl⟩
    have hkl : k < s.jobs.length := by omega
    have hg := get_mapD (f := jobR) zeroJob hkl
    have hJ : jobA s o.a = s.jobs.getD k zeroJob := by unfold jobA; rw [hkq]
    rw [hJ]
    generalize s.jobs.getD k zeroJob = j at *
    simp only [hk,hw,q3,hkq,hkl,hg,List.getElem?_set_self,List.length_map,List.length_set,List.set_set,go_sem,simprocAttr]
    exact BackZ [4, 5] rfl (by simp [St.obj,objL]) (by simp [St.obj,objL,oneOr,St.get,getE,argR,argRs,rowsAt,LV.int,List.take_of_length_le,nodeR,jobR,setJ,hkq,List.map_set])
  · rw [do_11 hk]
    have hqa := why_job ho (by rw [hk]; rfl) hw1
    simp only [hk,go_sem,simprocAttr]
    refine W_callo [4, 5] (letGo9_tri s o.a 0 (by omega) (by omega) (by omega) (by omega)) rfl (by simp only [argRs,argR,List.map_cons,List.map_nil,go_sem,simprocAttr,stA,datO]) (by decide) (by simp only [go_sem,simprocAttr,stA,datO]) (by simp only [go_sem,simprocAttr,List.all_cons,List.all_nil,stA,datO]) (by simp) ?_; simp only [go_sem,simprocAttr,stA,datO]
    exact BackZ [4, 5] rfl (by simp [St.obj,objL]) (by simp [St.obj,objL,oneOr,St.get,getE,argR,argRs,rowsAt,LV.int,List.take_of_length_le,nodeR,jobR,letGoD])
  · rw [do_12 hk]
    have hqa := why_job ho (by rw [hk]; rfl) hw1
    have hw : IntKind.i64.wrap (o.a - 1) = o.a - 1 := wrap_in (by omega) (by omega)
    have q3 : 0 ≤ o.a - 1 := by omega
    obtain ⟨k, hkq⟩ : ∃ k : Nat, (o.a - 1).toNat = k := ⟨_, rfl⟩
    have hkl : k < s.jobs.length := by omega
    have hg := get_mapD (f := jobR) zeroJob hkl
    have hJ : jobA s o.a = s.jobs.getD k zeroJob := by unfold jobA; rw [hkq]
    rw [hJ]
    generalize s.jobs.getD k zeroJob = j at *
    simp only [hk,hw,q3,hkq,hkl,hg,List.getElem?_set_self,List.length_map,List.length_set,List.set_set,go_sem,simprocAttr]
    exact BackZ [4, 5] rfl (by simp [St.obj,objL]) (by simp [St.obj,objL,oneOr,St.get,getE,argR,argRs,rowsAt,LV.int,List.take_of_length_le,nodeR,jobR,setJ,hkq,List.map_set])
  · rw [do_13 hk]
    have hqa := why_job ho (by rw [hk]; rfl) hw1
    have hw : IntKind.i64.wrap (o.a - 1) = o.a - 1 := wrap_in (by omega) (by omega)
    have q3 : 0 ≤ o.a - 1 := by omega
    obtain ⟨k, hkq⟩ : ∃ k : Nat, (o.a - 1).toNat = k := ⟨_, rfl⟩
    have hkl : k < s.jobs.length := by omega
    have hg := get_mapD (f := jobR) zeroJob hkl
    have hJ : jobA s o.a = s.jobs.getD k zeroJob := by unfold jobA; rw [hkq]
    rw [hJ]
    generalize s.jobs.getD k zeroJob = j at *
    simp only [hk,hw,q3,hkq,hkl,hg,List.getElem?_set_self,List.length_map,List.length_set,List.set_set,go_sem,simprocAttr]
    exact BackZ [4, 5] rfl (by simp [St.obj,objL]) (by simp [St.obj,objL,oneOr,St.get,getE,argR,argRs,rowsAt,LV.int,List.take_of_length_le,nodeR,jobR,setJ,hkq,List.map_set])
  · rw [do_14 hk]
    have hqa := why_job ho (by rw [hk]; rfl) hw1
    simp only [hk,go_sem,simprocAttr]
    refine W_callo [4, 5] (letGo9_tri s o.a 0 (by omega) (by omega) (by omega) (by omega)) rfl (by simp only [argRs,argR,List.map_cons,List.map_nil,go_sem,simprocAttr,stA,datO]) (by decide) (by simp only [go_sem,simprocAttr,stA,datO]) (by simp only [go_sem,simprocAttr,List.all_cons,List.all_nil,stA,datO]) (by simp) ?_; simp only [go_sem,simprocAttr,stA,datO]
    exact BackZ [4, 5] rfl (by simp [St.obj,objL]) (by simp [St.obj,objL,oneOr,St.get,getE,argR,argRs,rowsAt,LV.int,List.take_of_length_le,nodeR,jobR,letGoD])
  · rw [do_15 hk]
    have hqa := why_job ho (by rw [hk]; rfl) hw1
    simp only [hk,go_sem,simprocAttr]
    refine W_callo [4, 5] (letGo9_tri s o.a 4 (by omega) (by omega) (by omega) (by omega)) rfl (by simp only [argRs,argR,List.map_cons,List.map_nil,go_sem,simprocAttr,stA,datO]) (by decide) (by simp only [go_sem,simprocAttr,stA,datO]) (by simp only [go_sem,simprocAttr,List.all_cons,List.all_nil,stA,datO]) (by simp) ?_; simp only [go_sem,simprocAttr,stA,datO]
    exact BackZ [4, 5] rfl (by simp [St.obj,objL]) (by simp [St.obj,objL,oneOr,St.get,getE,argR,argRs,rowsAt,LV.int,List.take_of_length_le,nodeR,jobR,letGoD])
  · rw [do_16 hk]
    have hqa := why_node ho (by rw [hk]; rfl) hw1
    have q3 : 0 ≤ o.a := hka.1
    obtain ⟨i, hiq⟩ : ∃ i : Nat, o.a.toNat = i := ⟨_, rfl⟩
    have hil : i < s.nodes.length := by omega
    have hg := get_mapD (f := nodeR) zeroNode hil
    have hN : nodeA s o.a = s.nodes.getD i zeroNode := by unfold nodeA; rw [hiq]
    rw [hN]
    generalize s.nodes.getD i zeroNode = n at *
    simp only [hk,q3,hiq,hil,hg,List.getElem?_set_self,List.length_map,List.length_set,List.set_set,go_sem,simprocAttr]
    exact BackZ [4, 5] rfl (by simp [St.obj,objL]) (by simp [St.obj,objL,oneOr,St.get,getE,argR,argRs,rowsAt,LV.int,List.take_of_length_le,nodeR,jobR,setN,hiq,List.map_set])
  · rw [do_17 hk]
    have hqa := why_node ho (by rw [hk]; rfl) hw1
    have q3 : 0 ≤ o.a := hka.1
    obtain ⟨i, hiq⟩ : ∃ i : Nat, o.a.toNat = i := ⟨_, rfl⟩
    have hil : i < s.nodes.length := by omega
    have hg := get_mapD (f := nodeR) zeroNode hil
    have hN : nodeA s o.a = s.nodes.getD i zeroNode := by unfold nodeA; rw [hiq]
    rw [hN]
    generalize s.nodes.getD i zeroNode = n at *
    simp only [hk,q3,hiq,hil,hg,List.getElem?_set_self,List.length_map,List.length_set,List.set_set,go_sem,simprocAttr]
    exact BackZ [4, 5] rfl (by simp [St.obj,objL]) (by simp [St.obj,objL,oneOr,St.get,getE,argR,argRs,rowsAt,LV.int,List.take_of_length_le,nodeR,jobR,setN,hiq,List.map_set])
  · rw [do_18 hk]
    have hqa := why_node ho (by rw [hk]; rfl) hw1
    have q3 : 0 ≤ o.a := hka.1
    obtain ⟨i, hiq⟩ : ∃ i : Nat, o.a.toNat = i := ⟨_, rfl⟩
    have hil : i < s.nodes.length := by omega
    have hg := get_mapD (f := nodeR) zeroNode hil
    have hN : nodeA s o.a = s.nodes.getD i zeroNode := by unfold nodeA; rw [hiq]
    rw [hN]
    generalize s.nodes.getD i zeroNode = n at *
    simp only [hk,q3,hiq,hil,hg,List.getElem?_set_self,List.length_map,List.length_set,List.set_set,go_sem,simprocAttr]
    exact BackZ [4, 5] rfl (by simp [St.obj,objL]) (by simp [St.obj,objL,oneOr,St.get,getE,argR,argRs,rowsAt,LV.int,List.take_of_length_le,nodeR,jobR,setN,hiq,List.map_set])
  · rw [do_19 hk]
    have hqa := why_node ho (by rw [hk]; rfl) hw1
    have q3 : 0 ≤ o.a := hka.1
    obtain ⟨i, hiq⟩ : ∃ i : Nat, o.a.toNat = i := ⟨_, rfl⟩
    have hil : i < s.nodes.length := by omega
    have hg := get_mapD (f := nodeR) zeroNode hil
    have hN : nodeA s o.a = s.nodes.getD i zeroNode := by unfold nodeA; rw [hiq]
    rw [hN]
    generalize s.nodes.getD i zeroNode = n at *
    simp only [hk,q3,hiq,hil,hg,List.getElem?_set_self,List.length_map,List.length_set,List.set_set,go_sem,simprocAttr]
    exact BackZ [4, 5] rfl (by simp [St.obj,objL]) (by simp [St.obj,objL,oneOr,St.get,getE,argR,argRs,rowsAt,LV.int,List.take_of_length_le,nodeR,jobR,setN,hiq,List.map_set])
  · rw [do_20 hk]
    have hqa := why_job ho (by rw [hk]; rfl) hw1
    have hw : IntKind.i64.wrap (o.a - 1) = o.a - 1 := wrap_in (by omega) (by omega)
    have q3 : 0 ≤ o.a - 1 := by omega
    obtain ⟨k, hkq⟩ : ∃ k : Nat, (o.a - 1).toNat = k := ⟨_, rfl⟩
    have hkl : k < s.jobs.length := by omega
    have hg := get_mapD (f := jobR) zeroJob hkl
    have hJ : jobA s o.a = s.jobs.getD k zeroJob := by unfold jobA; rw [hkq]
    rw [hJ]
    have hbl : o.b < s.nodes.length := by
      by_cases hq : (s.nodes.length : Int) ≤ o.b
      · exfalso
        rw [why_20 ho hk, if_neg (by omega), if_pos hq] at hw1
        cases hw1
      · omega
    obtain ⟨b, hb⟩ := Int.eq_ofNat_of_zero_le hkb.1
    have hbn : b < s.nodes.length := by omega
    have hgn := get_mapD (f := nodeR) zeroNode hbn
    have hN : nodeA s (b : Int) = s.nodes.getD b zeroNode := rfl
    generalize s.jobs.getD k zeroJob = j at *
    simp only [hk,hw,q3,hkq,hkl,hg,go_sem,simprocAttr]
    refine W_loopI [5, 6, 8, 11, 12] [] (fun q : Nat => q ≤ 6) (fun q => 6 - q) (shrink9S c s o j.nodes) 0 ?_ (by omega) (fun q hq => ?_)
    · simp only [shrink9S,leftTo,Int.natCast_zero,go_sem,simprocAttr]
    simp only [shrink9S,go_sem,simprocAttr]
    refine WC_split (fun h => ?_) (fun h => ?_) <;> simp only [h,go_sem,simprocAttr] <;> (try simp only [beq_iff_eq,beq_eq_false_iff_ne,bne_iff_ne,ne_eq,decide_eq_true_eq,decide_eq_false_iff_not,Bool.not_true,Bool.not_false,Bool.not_eq_true,Bool.not_eq_false,bne_eq_false_iff_eq,Decidable.not_not] at h)
    · simp only [hk,hw,q3,hkq,hkl,hg,go_sem,simprocAttr]
      refine W_calld (has9_tri j.nodes q (by omega)) rfl rfl rfl rfl ?_; simp only [go_sem,simprocAttr]
      have hwu : IntKind.u64.wrap (q : Int) = q := by simp [IntKind.wrap,IntKind.bits,IntKind.signed]; omega
      have hle := leftTo_le j.nodes o.b q (by omega)
      have hle2 := leftTo_le j.nodes o.b (q + 1) (by omega)
      have hp6 := pow_le64 q (by omega)
      have hp7 : (2 : Int) ^ (q + 1) ≤ 64 := pow_le64 (q + 1) (by omega)
      cases hh : hasB j.nodes q with
      | false =>
        have e : leftTo j.nodes o.b (q + 1) = leftTo j.nodes o.b q := by rw [leftTo, if_neg (by simp [hh]), Int.add_zero]
        simp only [go_sem,simprocAttr]
        refine W_lpI (q + 1) ?_ ?_ (by omega) (by omega)
        · simp only [go_sem,simprocAttr]
        · simp only [shrink9S,go_sem,simprocAttr,wrap_succ (show q < 9223372036854775807 by omega),e]
      | true =>
        simp only [go_sem,simprocAttr]
        refine WC_split (fun hqb => ?_) (fun hqb => ?_) <;> simp only [hqb,go_sem,simprocAttr] <;> (try simp only [beq_iff_eq,beq_eq_false_iff_ne,bne_iff_ne,ne_eq,decide_eq_true_eq,decide_eq_false_iff_not,Bool.not_true,Bool.not_false,Bool.not_eq_true,Bool.not_eq_false,bne_eq_false_iff_eq,Decidable.not_not] at hqb)
        · have e : IntKind.i64.wrap (leftTo j.nodes o.b q + shlI .i64 1 q) = leftTo j.nodes o.b (q + 1) := by
            rw [shl_one q (by omega), leftTo, if_pos ⟨hh, hqb⟩, wrap_in (by omega) (by omega)]
          simp only [hwu,e,go_sem,simprocAttr]
          refine W_lpI (q + 1) ?_ ?_ (by omega) (by omega)
          · simp only [go_sem,simprocAttr]
          · simp only [shrink9S,go_sem,simprocAttr,wrap_succ (show q < 9223372036854775807 by omega)]
        · have e : leftTo j.nodes o.b (q + 1) = leftTo j.nodes o.b q := by rw [leftTo, if_neg (fun h => h.2 hqb), Int.add_zero]
          refine W_lpI (q + 1) ?_ ?_ (by omega) (by omega)
          · simp only [go_sem,simprocAttr]
          · simp only [shrink9S,go_sem,simprocAttr,wrap_succ (show q < 9223372036854775807 by omega),e]
    · obtain rfl : q = 6 := by omega
      generalize leftTo j.nodes o.b 6 = lf at *
      rw [hb, hN]
      generalize s.nodes.getD b zeroNode = n at *
      simp only [hk,hw,hb,q3,hkq,hkl,hg,hgn,hbn,List.getElem?_set_self,List.length_map,List.length_set,List.set_set,go_sem,simprocAttr]
      exact BackZ [4, 5] rfl (by simp [St.obj,objL]) (by simp [St.obj,objL,oneOr,St.get,getE,argR,argRs,rowsAt,LV.int,List.take_of_length_le,nodeR,jobR,setJ,setN,hkq,List.map_set])
  · rw [do_21 hk]
    have hw : IntKind.i64.wrap (s.term + 1) = s.term + 1 := wrap_in (by have := hp.term; omega) (by have := hp.term; omega)
    simp only [hk,hw,go_sem,simprocAttr]
    exact BackZ [4, 5] rfl (by simp [St.obj,objL]) (by simp [St.obj,objL,oneOr,St.get,getE,argR,argRs,rowsAt,LV.int,List.take_of_length_le,nodeR,jobR])
end Dv
