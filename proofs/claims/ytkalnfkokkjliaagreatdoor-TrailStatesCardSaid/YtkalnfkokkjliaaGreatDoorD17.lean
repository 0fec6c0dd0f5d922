/- The document's Why: an op's error. -/
import Derived.Test.YtkalnfkokkjliaaGreatDoorD16
set_option linter.unusedVariables false
set_option linter.unusedSimpArgs false
namespace Dv
open Go Go.Proofs
variable {G : Nat → Option (List DV)}

def ir66 : Nat × C × List RV := (309,
(.seq (.reg [qo 3 (.box 23 (.t 0)),
 qo 4 (.box 30 (.t 1)),
 qo 5 (.box 37 (.t 2)),
 qo 6 (.mv (qk 0))])
 (.seq (.seq (.reg [qo 13 (.ldn 7 (.t 5)),
 qo 14 (.call (.f 134) [(.t 13)]),
 qo 15 (.not (.t 14))])
 (.cond (.t 15) (.seq (.reg [qo 6 (.mv (qk 1))])
 .ret)
 .skip))
 (.seq (.reg [qo 7 (.new 119 [q0,q0,q0,q0,q0,q0,q0,q0,q0,q0,q0,q0])])
 (.seq (.reg [qo 8 (.new 102 [(.val (.bool false)),(.val (.bool false)),(.val (.bool false)),q0,q0])])
 (.seq (.seq (.reg [qo 16 (.fad 0 (.t 5)),
 qo 17 (.ld1 (.t 16))])
 (.block 0 (.seq (.reg [qo 19 (.bin .eql (.t 17) (qk 1)),
 qm 18 19])
 (.cond (.t 18) (.seq (.seq (.reg [qo 20 (.ldn 9 (.t 3)),
 qo 21 (.fad 1 (.t 5)),
 qo 22 (.ld1 (.t 21)),
 qo 23 (.fad 2 (.t 5)),
 qo 24 (.ld1 (.t 23)),
 qo 25 (.fad 3 (.t 5)),
 qo 26 (.ld1 (.t 25)),
 qo 27 (.fad 4 (.t 5)),
 qo 28 (.ld1 (.t 27)),
 qo 29 (.fad 5 (.t 5)),
 qo 30 (.ld1 (.t 29)),
 qo 31 (.fad 6 (.t 5)),
 qo 32 (.ld1 (.t 31)),
 qo 33 (.build [q0,q0,q0,q0,q0,q0,q0,q0,q0,q0,q0,q0] [(0,1,(.t 22)),(1,1,(.t 24)),(2,1,(.t 26)),(3,1,(.t 28)),(4,1,(.t 30)),(5,1,(.t 32))]),
 qo 34 (.call (.f 135) [(.t 20),(.t 33)]),
 qo 35 (.not (.t 34))])
 (.cond (.t 35) (.seq (.reg [qo 6 (.mv (qk 1))])
 .ret)
 .skip))
 (.seq (.seq (.reg [qo 36 (.fad 1 (.t 4)),
 qo 37 (.ld1 (.t 36)),
 qo 38 (.len (.t 37)),
 qo 39 (.bin .eql (.t 38) (qk 24))])
 (.cond (.t 39) (.seq (.reg [qo 6 (.mv (qk 3))])
 .ret)
 .skip))
 (.seq (.reg [qo 6 (.mv (qk 0))])
 .ret)))
 (.seq (.seq (.reg [qo 41 (.bin .eql (.t 17) (qk 2)),
 qm 40 41])
 (.cond (.t 40) .skip
 (.seq (.reg [qo 42 (.bin .eql (.t 17) (qk 9)),
 qm 40 42])
 (.cond (.t 40) .skip
 (.seq (.reg [qo 43 (.bin .eql (.t 17) (qk 10)),
 qm 40 43])
 (.cond (.t 40) .skip
 (.seq (.reg [qo 44 (.bin .eql (.t 17) (qk 11)),
 qm 40 44])
 (.cond (.t 40) .skip
 (.seq (.reg [qo 45 (.bin .eql (.t 17) (qk 12)),
 qm 40 45])
 (.cond (.t 40) .skip
 (.seq (.reg [qo 46 (.bin .eql (.t 17) (qk 13)),
 qm 40 46])
 (.cond (.t 40) .skip
 (.seq (.reg [qo 47 (.bin .eql (.t 17) (qk 14)),
 qm 40 47])
 (.cond (.t 40) .skip
 (.seq (.reg [qo 48 (.bin .eql (.t 17) (qk 15)),
 qm 40 48])
 (.cond (.t 40) .skip
 (.reg [qo 49 (.bin .eql (.t 17) (qk 20)),
 qm 40 49])))))))))))))))))
 (.cond (.t 40) (.seq (.seq (.reg [qo 50 (.fad 1 (.t 5)),
 qo 51 (.ld1 (.t 50)),
 qo 52 (.bin .lss (.t 51) (qk 1)),
 qm 53 52,
 qg 54 (.fad 1 (.t 5)) 53 false,
 qg 55 (.ld1 (.t 54)) 53 false,
 qg 56 (.fad 1 (.t 4)) 53 false,
 qg 57 (.ld1 (.t 56)) 53 false,
 qg 58 (.len (.t 57)) 53 false,
 qg 59 (.bin .gtr (.t 55) (.t 58)) 53 false,
 qo 60 (.pick (.t 53) qt (.t 59))])
 (.cond (.t 60) (.seq (.reg [qo 6 (.mv (qk 4))])
 .ret)
 .skip))
 (.reg [qo 61 (.fad 1 (.t 4)),
 qo 62 (.ld1 (.t 61)),
 qo 63 (.fad 1 (.t 5)),
 qo 64 (.ld1 (.t 63)),
 qo 65 (.bin .sub (.t 64) (qk 1)),
 qo 66 (.ixa 12 (.t 62) (.t 65)),
 qo 67 (.ldn 12 (.t 66)),
 qn (.st 12 (.t 7) (.t 67))]))
 (.seq (.seq (.reg [qo 69 (.bin .eql (.t 17) (qk 7)),
 qm 68 69])
 (.cond (.t 68) .skip
 (.seq (.reg [qo 70 (.bin .eql (.t 17) (qk 8)),
 qm 68 70])
 (.cond (.t 68) .skip
 (.seq (.reg [qo 71 (.bin .eql (.t 17) (qk 16)),
 qm 68 71])
 (.cond (.t 68) .skip
 (.seq (.reg [qo 72 (.bin .eql (.t 17) (qk 17)),
 qm 68 72])
 (.cond (.t 68) .skip
 (.seq (.reg [qo 73 (.bin .eql (.t 17) (qk 18)),
 qm 68 73])
 (.cond (.t 68) .skip
 (.reg [qo 74 (.bin .eql (.t 17) (qk 19)),
 qm 68 74])))))))))))
 (.cond (.t 68) (.seq (.seq (.reg [qo 75 (.fad 1 (.t 5)),
 qo 76 (.ld1 (.t 75)),
 qo 77 (.fad 0 (.t 4)),
 qo 78 (.ld1 (.t 77)),
 qo 79 (.len (.t 78)),
 qo 80 (.bin .geq (.t 76) (.t 79))])
 (.cond (.t 80) (.seq (.reg [qo 6 (.mv (qk 4))])
 .ret)
 .skip))
 (.reg [qo 81 (.fad 0 (.t 4)),
 qo 82 (.ld1 (.t 81)),
 qo 83 (.fad 1 (.t 5)),
 qo 84 (.ld1 (.t 83)),
 qo 85 (.ixa 5 (.t 82) (.t 84)),
 qo 86 (.ldn 5 (.t 85)),
 qn (.st 5 (.t 8) (.t 86))]))
 (.seq (.reg [qo 88 (.bin .eql (.t 17) (qk 21)),
 qm 87 88])
 (.cond (.t 87) (.seq (.seq (.reg [qo 89 (.fad 5 (.t 4)),
 qo 90 (.ld1 (.t 89)),
 qo 91 (.bin .eql (.t 90) (qk 1000000))])
 (.cond (.t 91) (.seq (.reg [qo 6 (.mv (qk 3))])
 .ret)
 .skip))
 (.seq (.reg [qo 6 (.mv (qk 0))])
 .ret))
 .skip))))))))))
 (.seq (.reg [qo 92 (.fad 2 (.t 5)),
 qo 93 (.ld1 (.t 92)),
 qo 94 (.bin .geq (.t 93) (qk 1)),
 qm 95 94,
 qg 96 (.fad 2 (.t 5)) 95 true,
 qg 97 (.ld1 (.t 96)) 95 true,
 qg 98 (.bin .leq (.t 97) (qk 9)) 95 true,
 qo 99 (.pick (.t 95) (.t 98) qf),
 qm 9 99])
 (.seq (.reg [qo 10 (.mv qf)])
 (.seq (.seq (.reg [qo 100 (.fad 0 (.t 5)),
 qo 101 (.ld1 (.t 100))])
 (.block 1 (.seq (.reg [qo 103 (.bin .eql (.t 101) (qk 3)),
 qm 102 103])
 (.cond (.t 102) (.seq (.seq (.reg [qo 104 (.fad 1 (.t 5)),
 qo 105 (.ld1 (.t 104)),
 qo 106 (.bin .lss (.t 105) (qk 1)),
 qm 107 106,
 qg 108 (.fad 1 (.t 5)) 107 false,
 qg 109 (.ld1 (.t 108)) 107 false,
 qg 110 (.bin .gtr (.t 109) (qk 9)) 107 false,
 qo 111 (.pick (.t 107) qt (.t 110))])
 (.cond (.t 111) (.seq (.reg [qo 6 (.mv (qk 1))])
 .ret)
 .skip))
 (.seq (.reg [qo 6 (.mv (qk 0))])
 .ret))
 (.seq (.seq (.reg [qo 113 (.bin .eql (.t 101) (qk 8)),
 qm 112 113])
 (.cond (.t 112) .skip
 (.reg [qo 114 (.bin .eql (.t 101) (qk 19)),
 qm 112 114])))
 (.cond (.t 112) (.seq (.reg [qm 115 9,
 qo 116 (.not (.t 115))])
 (.cond (.t 116) (.seq (.reg [qo 6 (.mv (qk 1))])
 .ret)
 .skip))
 (.seq (.reg [qo 118 (.bin .eql (.t 101) (qk 20)),
 qm 117 118])
 (.cond (.t 117) (.seq (.reg [qo 119 (.fad 2 (.t 5)),
 qo 120 (.ld1 (.t 119)),
 qo 121 (.fad 0 (.t 4)),
 qo 122 (.ld1 (.t 121)),
 qo 123 (.len (.t 122)),
 qo 124 (.bin .geq (.t 120) (.t 123))])
 (.cond (.t 124) (.seq (.reg [qo 6 (.mv (qk 4))])
 .ret)
 .skip))
 .skip))))))))
 (.seq (.seq (.reg [qo 125 (.fad 0 (.t 5)),
 qo 126 (.ld1 (.t 125))])
 (.block 2 (.seq (.reg [qo 128 (.bin .eql (.t 126) (qk 2)),
 qm 127 128])
 (.cond (.t 127) (.reg [qo 129 (.fad 6 (.t 7)),
 qo 130 (.ld1 (.t 129)),
 qo 131 (.bin .neq (.t 130) (qk 4)),
 qm 10 131])
 (.seq (.reg [qo 133 (.bin .eql (.t 126) (qk 4)),
 qm 132 133])
 (.cond (.t 132) (.reg [qo 134 (.fad 4 (.t 4)),
 qo 135 (.ld1 (.t 134)),
 qo 136 (.bin .eql (.t 135) (qk 0)),
 qm 10 136])
 (.seq (.reg [qo 138 (.bin .eql (.t 126) (qk 5)),
 qm 137 138])
 (.cond (.t 137) (.reg [qo 139 (.fad 4 (.t 4)),
 qo 140 (.ld1 (.t 139)),
 qo 141 (.bin .eql (.t 140) (qk 1)),
 qm 10 141])
 (.seq (.reg [qo 143 (.bin .eql (.t 126) (qk 6)),
 qm 142 143])
 (.cond (.t 142) (.reg [qo 144 (.fad 4 (.t 4)),
 qo 145 (.ld1 (.t 144)),
 qo 146 (.bin .neq (.t 145) (qk 2)),
 qm 10 146])
 (.seq (.reg [qo 148 (.bin .eql (.t 126) (qk 7)),
 qm 147 148])
 (.cond (.t 147) (.reg [qo 149 (.fad 0 (.t 8)),
 qo 150 (.ld1 (.t 149)),
 qm 10 150])
 (.seq (.reg [qo 152 (.bin .eql (.t 126) (qk 8)),
 qm 151 152])
 (.cond (.t 151) (.reg [qo 153 (.fad 0 (.t 8)),
 qo 154 (.ld1 (.t 153)),
 qo 155 (.not (.t 154)),
 qm 10 155])
 (.seq (.reg [qo 157 (.bin .eql (.t 126) (qk 9)),
 qm 156 157])
 (.cond (.t 156) (.reg [qo 158 (.fad 6 (.t 7)),
 qo 159 (.ld1 (.t 158)),
 qo 160 (.bin .eql (.t 159) (qk 0)),
 qm 10 160])
 (.seq (.seq (.reg [qo 162 (.bin .eql (.t 126) (qk 10)),
 qm 161 162])
 (.cond (.t 161) .skip
 (.reg [qo 163 (.bin .eql (.t 126) (qk 11)),
 qm 161 163])))
 (.cond (.t 161) (.reg [qo 164 (.fad 6 (.t 7)),
 qo 165 (.ld1 (.t 164)),
 qo 166 (.bin .eql (.t 165) (qk 1)),
 qm 10 166])
 (.seq (.seq (.reg [qo 168 (.bin .eql (.t 126) (qk 12)),
 qm 167 168])
 (.cond (.t 167) .skip
 (.reg [qo 169 (.bin .eql (.t 126) (qk 20)),
 qm 167 169])))
 (.cond (.t 167) (.reg [qo 170 (.fad 6 (.t 7)),
 qo 171 (.ld1 (.t 170)),
 qo 172 (.bin .eql (.t 171) (qk 2)),
 qm 10 172])
 (.seq (.seq (.reg [qo 174 (.bin .eql (.t 126) (qk 13)),
 qm 173 174])
 (.cond (.t 173) .skip
 (.reg [qo 175 (.bin .eql (.t 126) (qk 15)),
 qm 173 175])))
 (.cond (.t 173) (.reg [qo 176 (.fad 6 (.t 7)),
 qo 177 (.ld1 (.t 176)),
 qo 178 (.bin .eql (.t 177) (qk 2)),
 qm 179 178,
 qg 180 (.fad 6 (.t 7)) 179 false,
 qg 181 (.ld1 (.t 180)) 179 false,
 qg 182 (.bin .eql (.t 181) (qk 3)) 179 false,
 qo 183 (.pick (.t 179) qt (.t 182)),
 qm 10 183])
 (.seq (.reg [qo 185 (.bin .eql (.t 126) (qk 14)),
 qm 184 185])
 (.cond (.t 184) (.reg [qo 186 (.fad 6 (.t 7)),
 qo 187 (.ld1 (.t 186)),
 qo 188 (.bin .eql (.t 187) (qk 3)),
 qm 10 188])
 (.seq (.reg [qo 190 (.bin .eql (.t 126) (qk 16)),
 qm 189 190])
 (.cond (.t 189) (.reg [qo 191 (.fad 0 (.t 8)),
 qo 192 (.ld1 (.t 191)),
 qm 193 192,
 qg 194 (.fad 1 (.t 8)) 193 true,
 qg 195 (.ld1 (.t 194)) 193 true,
 qg 196 (.not (.t 195)) 193 true,
 qo 197 (.pick (.t 193) (.t 196) qf),
 qm 10 197])
 (.seq (.reg [qo 199 (.bin .eql (.t 126) (qk 17)),
 qm 198 199])
 (.cond (.t 198) (.reg [qo 200 (.fad 1 (.t 8)),
 qo 201 (.ld1 (.t 200)),
 qm 202 201,
 qg 203 (.fad 2 (.t 8)) 202 true,
 qg 204 (.ld1 (.t 203)) 202 true,
 qg 205 (.not (.t 204)) 202 true,
 qo 206 (.pick (.t 202) (.t 205) qf),
 qm 10 206])
 (.seq (.reg [qo 208 (.bin .eql (.t 126) (qk 18)),
 qm 207 208])
 (.cond (.t 207) (.reg [qo 209 (.fad 0 (.t 8)),
 qo 210 (.ld1 (.t 209)),
 qm 211 210,
 qg 212 (.fad 1 (.t 8)) 211 true,
 qg 213 (.ld1 (.t 212)) 211 true,
 qo 214 (.pick (.t 211) (.t 213) qf),
 qm 215 214,
 qg 216 (.fad 2 (.t 8)) 215 true,
 qg 217 (.ld1 (.t 216)) 215 true,
 qg 218 (.not (.t 217)) 215 true,
 qo 219 (.pick (.t 215) (.t 218) qf),
 qm 220 219,
 qg 221 (.fad 4 (.t 8)) 220 true,
 qg 222 (.ld1 (.t 221)) 220 true,
 qg 223 (.bin .eql (.t 222) (qk 0)) 220 true,
 qo 224 (.pick (.t 220) (.t 223) qf),
 qm 10 224])
 (.seq (.reg [qo 226 (.bin .eql (.t 126) (qk 19)),
 qm 225 226])
 (.cond (.t 225) (.reg [qo 227 (.fad 2 (.t 8)),
 qo 228 (.ld1 (.t 227)),
 qm 10 228])
 .skip))))))))))))))))))))))))))))))))
 (.seq (.seq (.reg [qm 229 10,
 qo 230 (.not (.t 229))])
 (.cond (.t 230) (.seq (.reg [qo 6 (.mv (qk 5))])
 .ret)
 .skip))
 (.seq (.seq (.reg [qo 231 (.fad 0 (.t 5)),
 qo 232 (.ld1 (.t 231))])
 (.block 3 (.seq (.reg [qo 234 (.bin .eql (.t 232) (qk 9)),
 qm 233 234])
 (.cond (.t 233) (.seq (.reg [qo 235 (.ldn 6 (.t 4)),
 qo 236 (.ldn 12 (.t 7)),
 qo 237 (.fad 2 (.t 5)),
 qo 238 (.ld1 (.t 237)),
 qo 239 (.call (.f 136) [(.t 235),(.t 236),(.t 238)]),
 qm 240 239,
 qg 241 (.fad 7 (.t 7)) 240 true,
 qg 242 (.ld1 (.t 241)) 240 true,
 qg 243 (.bin .lss (.t 242) (qk 1000000)) 240 true,
 qo 244 (.pick (.t 240) (.t 243) qf),
 qm 11 244])
 (.seq (.seq (.reg [qo 12 (.mv (qk 0))])
 (.block 4 (.loop (.seq (.seq (.reg [qm 245 12,
 qo 246 (.fad 0 (.t 4)),
 qo 247 (.ld1 (.t 246)),
 qo 248 (.len (.t 247)),
 qo 249 (.bin .lss (.t 245) (.t 248))])
 (.cond (.t 249) .skip
 (.exit 4)))
 (.seq (.block 5 (.reg [qm 252 11,
 qm 253 252,
 qg 254 (.fad 2 (.t 5)) 253 true,
 qg 255 (.ld1 (.t 254)) 253 true,
 qg 256 (.mv (.t 12)) 253 true,
 qg 257 (.call (.f 69) [(.t 255),(.t 256)]) 253 true,
 qg 258 (.not (.t 257)) 253 true,
 qg 259 (.mv (.t 258)) 253 true,
 qg 260 (.fad 0 (.t 4)) 259 false,
 qg 261 (.ld1 (.t 260)) 259 false,
 qg 262 (.mv (.t 12)) 259 false,
 qg 263 (.ixa 5 (.t 261) (.t 262)) 259 false,
 qg 264 (.ldn 5 (.t 263)) 259 false,
 qg 265 (.call (.f 137) [(.t 264)]) 259 false,
 qg 266 (.pick (.t 259) qt (.t 265)) 253 true,
 qo 267 (.pick (.t 253) (.t 266) qf),
 qm 11 267]))
 (.reg [qm 250 12,
 qo 251 (.bin .add (.t 250) (qk 1)),
 qm 12 251]))))))
 (.seq (.reg [qm 268 11,
 qo 269 (.not (.t 268))])
 (.cond (.t 269) (.seq (.reg [qo 6 (.mv (qk 8))])
 .ret)
 .skip))))
 (.seq (.reg [qo 271 (.bin .eql (.t 232) (qk 12)),
 qm 270 271])
 (.cond (.t 270) (.seq (.regD [qo 272 (.ldn 6 (.t 4)),
 qo 273 (.fad 0 (.t 7)),
 qd 274 (.ld1 (.t 273)) [1],
 qd 275 (.call (.f 138) [(.t 272),(.t 274)]) [0,2,1],
 qo 276 (.fad 2 (.t 3)),
 qd 277 (.ld1 (.t 276)) [4],
 qd 278 (.bin .geq (.t 275) (.t 277)) [3,0,2,1,5,4]])
 (.cond (.t 278) (.seq (.reg [qo 6 (.mv (qk 7))])
 .ret)
 .skip))
 (.seq (.reg [qo 280 (.bin .eql (.t 232) (qk 13)),
 qm 279 280])
 (.cond (.t 279) (.seq (.reg [qo 281 (.fad 2 (.t 5)),
 qo 282 (.ld1 (.t 281)),
 qo 283 (.fad 7 (.t 7)),
 qo 284 (.ld1 (.t 283)),
 qo 285 (.bin .neq (.t 282) (.t 284)),
 qm 286 285,
 qg 287 (.fad 2 (.t 5)) 286 false,
 qg 288 (.ld1 (.t 287)) 286 false,
 qg 289 (.fad 11 (.t 7)) 286 false,
 qg 290 (.ld1 (.t 289)) 286 false,
 qg 291 (.bin .leq (.t 288) (.t 290)) 286 false,
 qo 292 (.pick (.t 286) qt (.t 291))])
 (.cond (.t 292) (.seq (.reg [qo 6 (.mv (qk 6))])
 .ret)
 .skip))
 (.seq (.reg [qo 294 (.bin .eql (.t 232) (qk 20)),
 qm 293 294])
 (.cond (.t 293) (.seq (.regD [qo 295 (.fad 8 (.t 7)),
 qd 296 (.ld1 (.t 295)) [0],
 qo 297 (.fad 2 (.t 5)),
 qd 298 (.ld1 (.t 297)) [2],
 qd 299 (.call (.f 69) [(.t 296),(.t 298)]) [1,0,3,2],
 qd 300 (.not (.t 299)) [4,1,0,3,2],
 qd 301 (.mv (.t 300)) [5,4,1,0,3,2],
 qe 302 (.fad 8 (.t 7)) 301 false [6,5,4,1,0,3,2],
 qe 303 (.ld1 (.t 302)) 301 false [7,6,5,4,1,0,3,2],
 qe 304 (.call (.f 139) [(.t 303)]) 301 false [8,7,6,5,4,1,0,3,2],
 qe 305 (.fad 2 (.t 7)) 301 false [6,5,4,1,0,3,2],
 qe 306 (.ld1 (.t 305)) 301 false [10,6,5,4,1,0,3,2],
 qe 307 (.bin .leq (.t 304) (.t 306)) 301 false [9,8,7,6,5,4,1,0,3,2,11,10],
 qd 308 (.pick (.t 301) qt (.t 307)) [6,5,4,1,0,3,2,12,9,8,7,11,10]])
 (.cond (.t 308) (.seq (.reg [qo 6 (.mv (qk 8))])
 .ret)
 .skip))
 .skip))))))))))
 (.seq (.reg [qo 6 (.mv (qk 0))])
 .ret)))))))))))),
[(.t 6)])
theorem irOk66 : convFn Tryz.prog Tryz.f66 = some ir66 := by kernel_rfl


section
variable {c : ConfD} {s : StateD} {o : OpD} (ho : opOkB o = true)
include ho
theorem why_1 (hk : o.kind = 1) : whyR c s o = (if askedB c (newJob o) = false then 1 else if s.jobs.length = 24 then 3 else 0) := by
  simp [whyR,ho,hk,jobK,nodeK,okR]
theorem why_2 (hk : o.kind = 2) : whyR c s o = (if o.a < 1 ∨ (s.jobs.length : Int) < o.a then 4 else if (jobA s o.a).phase = 4 then 5 else 0) := by
  simp [whyR,ho,hk,jobK,nodeK,okR]
theorem why_3 (hk : o.kind = 3) : whyR c s o = (if withinB o.a 1 9 = false then 1 else 0) := by
  simp [whyR,ho,hk,jobK,nodeK,okR]
theorem why_4 (hk : o.kind = 4) : whyR c s o = (if s.mode = 0 then 0 else 5) := by
  simp [whyR,ho,hk,jobK,nodeK,okR]
theorem why_5 (hk : o.kind = 5) : whyR c s o = (if s.mode = 1 then 0 else 5) := by
  simp [whyR,ho,hk,jobK,nodeK,okR]
theorem why_6 (hk : o.kind = 6) : whyR c s o = (if s.mode = 2 then 5 else 0) := by
  simp [whyR,ho,hk,jobK,nodeK,okR]
theorem why_7 (hk : o.kind = 7) : whyR c s o = (if (s.nodes.length : Int) ≤ o.a then 4 else if (nodeA s o.a).up = false then 5 else 0) := by
  simp [whyR,ho,hk,jobK,nodeK,okR]
theorem why_8 (hk : o.kind = 8) : whyR c s o = (if (s.nodes.length : Int) ≤ o.a then 4 else if withinB o.b 1 9 = false then 1 else if (nodeA s o.a).up = true then 5 else 0) := by
  simp [whyR,ho,hk,jobK,nodeK,okR]
theorem why_9 (hk : o.kind = 9) : whyR c s o = (if o.a < 1 ∨ (s.jobs.length : Int) < o.a then 4 else if (jobA s o.a).phase ≠ 0 then 5 else if ¬ (fitsRB s.nodes (jobA s o.a) o.b = true ∧ (jobA s o.a).inc < 1000000 ∧ freeAll o.b s.nodes 0 = true) then 8 else 0) := by
  simp [whyR,ho,hk,jobK,nodeK,okR]
theorem why_10 (hk : o.kind = 10) : whyR c s o = (if o.a < 1 ∨ (s.jobs.length : Int) < o.a then 4 else if (jobA s o.a).phase ≠ 1 then 5 else 0) := by
  simp [whyR,ho,hk,jobK,nodeK,okR]
theorem why_11 (hk : o.kind = 11) : whyR c s o = (if o.a < 1 ∨ (s.jobs.length : Int) < o.a then 4 else if (jobA s o.a).phase ≠ 1 then 5 else 0) := by
  simp [whyR,ho,hk,jobK,nodeK,okR]
theorem why_12 (hk : o.kind = 12) : whyR c s o = (if o.a < 1 ∨ (s.jobs.length : Int) < o.a then 4 else if (jobA s o.a).phase ≠ 2 then 5 else if c.quota ≤ drainsL s.jobs (jobA s o.a).queue then 7 else 0) := by
  simp [whyR,ho,hk,jobK,nodeK,okR]
theorem why_13 (hk : o.kind = 13) : whyR c s o = (if o.a < 1 ∨ (s.jobs.length : Int) < o.a then 4 else if runsB (jobA s o.a) = false then 5 else if o.b ≠ (jobA s o.a).inc ∨ o.b ≤ (jobA s o.a).epoch then 6 else 0) := by
  simp [whyR,ho,hk,jobK,nodeK,okR]
theorem why_14 (hk : o.kind = 14) : whyR c s o = (if o.a < 1 ∨ (s.jobs.length : Int) < o.a then 4 else if (jobA s o.a).phase ≠ 3 then 5 else 0) := by
  simp [whyR,ho,hk,jobK,nodeK,okR]
theorem why_15 (hk : o.kind = 15) : whyR c s o = (if o.a < 1 ∨ (s.jobs.length : Int) < o.a then 4 else if runsB (jobA s o.a) = false then 5 else 0) := by
  simp [whyR,ho,hk,jobK,nodeK,okR]
theorem why_16 (hk : o.kind = 16) : whyR c s o = (if (s.nodes.length : Int) ≤ o.a then 4 else if ((nodeA s o.a).up && !(nodeA s o.a).cordon) = false then 5 else 0) := by
  simp [whyR,ho,hk,jobK,nodeK,okR]
theorem why_17 (hk : o.kind = 17) : whyR c s o = (if (s.nodes.length : Int) ≤ o.a then 4 else if ((nodeA s o.a).cordon && !(nodeA s o.a).moving) = false then 5 else 0) := by
  simp [whyR,ho,hk,jobK,nodeK,okR]
theorem why_18 (hk : o.kind = 18) : whyR c s o = (if (s.nodes.length : Int) ≤ o.a then 4 else if ((nodeA s o.a).up && (nodeA s o.a).cordon && !(nodeA s o.a).moving && decide ((nodeA s o.a).job = 0)) = false then 5 else 0) := by
  simp [whyR,ho,hk,jobK,nodeK,okR]
theorem why_19 (hk : o.kind = 19) : whyR c s o = (if (s.nodes.length : Int) ≤ o.a then 4 else if withinB o.b 1 9 = false then 1 else if (nodeA s o.a).moving = false then 5 else 0) := by
  simp [whyR,ho,hk,jobK,nodeK,okR]
theorem why_20 (hk : o.kind = 20) : whyR c s o = (if o.a < 1 ∨ (s.jobs.length : Int) < o.a then 4 else if (s.nodes.length : Int) ≤ o.b then 4 else if (jobA s o.a).phase ≠ 2 then 5 else if hasB (jobA s o.a).nodes o.b.toNat = false ∨ many (jobA s o.a).nodes ≤ (jobA s o.a).min then 8 else 0) := by
  simp [whyR,ho,hk,jobK,nodeK,okR]
theorem why_21 (hk : o.kind = 21) : whyR c s o = (if s.term = 1000000 then 3 else 0) := by
  simp [whyR,ho,hk,jobK,nodeK,okR]
end
def why9S (c : ConfD) (s : StateD) (o : OpD) (j : JobD) (kv : Nat × Bool) : St := ⟨[(4, .ptr 1 0), (5, .ptr 2 0), (11, .bool kv.2), (12, .int kv.1)], [some (.box 23 [.int c.nodes, .int c.queues, .int c.quota, .int c.wave, .int c.lease, .int c.retry, .int c.deadline, .int c.room, .int c.disk]), some (.box 30 [nodesV s.nodes, jobsV s.jobs, .int s.goal, .int s.prior, .int s.mode, .int s.term]), some (.box 37 [.int 9, .int o.a, .int o.b, .int o.c, .int o.d, .int o.e, .int o.f]), some (.box 119 [.int j.queue, .int j.prio, .int j.min, .int j.max, .int j.work, .int j.pin, .int j.phase, .int j.inc, .int j.nodes, .int j.since, .int j.til, .int j.epoch]), some (.box 102 [.bool false, .bool false, .bool false, .int 0, .int 0])]⟩
set_option maxHeartbeats 1600000 in
theorem why9_tri (c : ConfD) (s : StateD) (o : OpD) (hln : s.nodes.length ≤ 6) (hlj : s.jobs.length ≤ 24) : Tri Tryz.prog G 66 [confV c, stateV s, opV o] [] (.int (whyR c s o)) [] := by
  refine tri_W0 Tryz.func66 (by decide) irOk66 (Nat.le_of_ble_eq_true rfl) rfl ?_
  simp only [ir66,go_sem,simprocAttr]
  refine W_calld (ops8Right_tri o) rfl rfl rfl rfl ?_; simp only [go_sem,simprocAttr]
  cases ho : opOkB o with
  | false =>
    have hw : whyR c s o = 1 := by unfold whyR; rw [if_pos ho]
    simp only [hw,go_sem,simprocAttr]
  | true =>
  obtain ⟨hkk, hka, hkb⟩ := opOk_nums ho
  simp only [go_sem,simprocAttr]
  have hv : (decide (o.b ≥ 1) = true ∧ decide (o.b ≤ 9) = true) ∨ (decide (o.b ≥ 1) = true ∧ decide (o.b ≤ 9) = false) ∨ (decide (o.b ≥ 1) = false ∧ decide (o.b ≤ 9) = true) := by
    simp only [decide_eq_true_eq,decide_eq_false_iff_not]; omega
  have hk : (o.kind = 1 ∨ o.kind = 21) ∨ (o.kind = 3 ∨ o.kind = 4 ∨ o.kind = 5 ∨ o.kind = 6) ∨ (o.kind = 2 ∨ o.kind = 9 ∨ o.kind = 10 ∨ o.kind = 11 ∨ o.kind = 12 ∨ o.kind = 13 ∨ o.kind = 14 ∨ o.kind = 15 ∨ o.kind = 20) ∨ (o.kind = 7 ∨ o.kind = 8 ∨ o.kind = 16 ∨ o.kind = 17 ∨ o.kind = 18 ∨ o.kind = 19) := by omega
  rcases hk with (hk | hk) | hk | hk | hk
  · rw [why_1 ho hk]
    simp only [hk,go_sem,simprocAttr]
    refine W_calld (asked9_tri c (newJob o)) rfl rfl rfl rfl ?_; simp only [go_sem,simprocAttr]
    cases ha : askedB c (newJob o) with
    | false => simp only [go_sem,simprocAttr]
    | true =>
    simp only [Bool.true_eq_false,go_sem,simprocAttr]
    refine WC_split (fun h => ?_) (fun h => ?_) <;> simp only [h,go_sem,simprocAttr] <;> (try simp only [beq_iff_eq,beq_eq_false_iff_ne,bne_iff_ne,ne_eq,decide_eq_true_eq,decide_eq_false_iff_not,Bool.not_true,Bool.not_false,Bool.not_eq_true,Bool.not_eq_false,bne_eq_false_iff_eq,Decidable.not_not] at h)
    · rw [if_pos (by omega)]
    · rw [if_neg (by omega)]
  · rw [why_21 ho hk]
    simp only [hk,go_sem,simprocAttr]
    repeat' (first | ((first | with_reducible refine WG_splitn (fun h => ?_) (fun h => ?_) | refine WG_split (fun h => ?_) (fun h => ?_)) <;> simp only [h,go_sem,simprocAttr] <;> (try simp only [beq_iff_eq,beq_eq_false_iff_ne,bne_iff_ne,ne_eq,decide_eq_true_eq,decide_eq_false_iff_not,Bool.not_true,Bool.not_false,Bool.not_eq_true,Bool.not_eq_false,bne_eq_false_iff_eq,Decidable.not_not] at h)) | ((first | with_reducible refine WC_splitn (fun h => ?_) (fun h => ?_) | refine WC_split (fun h => ?_) (fun h => ?_)) <;> simp only [h,go_sem,simprocAttr] <;> (try simp only [beq_iff_eq,beq_eq_false_iff_ne,bne_iff_ne,ne_eq,decide_eq_true_eq,decide_eq_false_iff_not,Bool.not_true,Bool.not_false,Bool.not_eq_true,Bool.not_eq_false,bne_eq_false_iff_eq,Decidable.not_not] at h)))
    all_goals (first | omega | (repeat (first | rw [if_pos (by omega)] | rw [if_neg (by omega)])))
  · rcases hk with hk | hk | hk | hk
    all_goals
      first | rw [why_3 ho hk] | rw [why_4 ho hk] | rw [why_5 ho hk] | rw [why_6 ho hk]
      simp only [hk,go_sem,simprocAttr]
      rcases hv with ⟨hv1, hv2⟩ | ⟨hv1, hv2⟩ | ⟨hv1, hv2⟩
      all_goals
        simp only [hv1,hv2,hk,go_sem,simprocAttr]
        simp only [ge_iff_le,decide_eq_true_eq,decide_eq_false_iff_not] at hv1 hv2
    all_goals
      first
      | have h2 : o.kind = 3 := by omega
        unfold withinB
        simp only [decide_eq_false_iff_not]
        repeat' (first | ((first | with_reducible refine WG_splitn (fun h => ?_) (fun h => ?_) | refine WG_split (fun h => ?_) (fun h => ?_)) <;> simp only [h,go_sem,simprocAttr] <;> (try simp only [beq_iff_eq,beq_eq_false_iff_ne,bne_iff_ne,ne_eq,decide_eq_true_eq,decide_eq_false_iff_not,Bool.not_true,Bool.not_false,Bool.not_eq_true,Bool.not_eq_false,bne_eq_false_iff_eq,Decidable.not_not] at h)) | ((first | with_reducible refine WC_splitn (fun h => ?_) (fun h => ?_) | refine WC_split (fun h => ?_) (fun h => ?_)) <;> simp only [h,go_sem,simprocAttr] <;> (try simp only [beq_iff_eq,beq_eq_false_iff_ne,bne_iff_ne,ne_eq,decide_eq_true_eq,decide_eq_false_iff_not,Bool.not_true,Bool.not_false,Bool.not_eq_true,Bool.not_eq_false,bne_eq_false_iff_eq,Decidable.not_not] at h)))
        all_goals (first | omega | (repeat (first | rw [if_pos (by omega)] | rw [if_neg (by omega)])))
      | repeat' (first | ((first | with_reducible refine WG_splitn (fun h => ?_) (fun h => ?_) | refine WG_split (fun h => ?_) (fun h => ?_)) <;> simp only [h,go_sem,simprocAttr] <;> (try simp only [beq_iff_eq,beq_eq_false_iff_ne,bne_iff_ne,ne_eq,decide_eq_true_eq,decide_eq_false_iff_not,Bool.not_true,Bool.not_false,Bool.not_eq_true,Bool.not_eq_false,bne_eq_false_iff_eq,Decidable.not_not] at h)) | ((first | with_reducible refine WC_splitn (fun h => ?_) (fun h => ?_) | refine WC_split (fun h => ?_) (fun h => ?_)) <;> simp only [h,go_sem,simprocAttr] <;> (try simp only [beq_iff_eq,beq_eq_false_iff_ne,bne_iff_ne,ne_eq,decide_eq_true_eq,decide_eq_false_iff_not,Bool.not_true,Bool.not_false,Bool.not_eq_true,Bool.not_eq_false,bne_eq_false_iff_eq,Decidable.not_not] at h)))
        all_goals (first | omega | (repeat (first | rw [if_pos (by omega)] | rw [if_neg (by omega)])))
  · rcases hk with hk | hk | hk | hk | hk | hk | hk | hk | hk
    all_goals
      first | rw [why_2 ho hk] | rw [why_9 ho hk] | rw [why_10 ho hk] | rw [why_11 ho hk] | rw [why_12 ho hk] | rw [why_13 ho hk] | rw [why_14 ho hk] | rw [why_15 ho hk] | rw [why_20 ho hk]
      simp only [hk,go_sem,simprocAttr]
      by_cases hq : o.a < 1 ∨ (s.jobs.length : Int) < o.a
      · rw [if_pos hq]
        refine WG_split (fun h1 => ?_) (fun h1 => ?_) <;> simp only [h1,go_sem,simprocAttr] <;> (try simp only [beq_iff_eq,beq_eq_false_iff_ne,bne_iff_ne,ne_eq,decide_eq_true_eq,decide_eq_false_iff_not,Bool.not_true,Bool.not_false,Bool.not_eq_true,Bool.not_eq_false,bne_eq_false_iff_eq,Decidable.not_not] at h1)
        refine WC_split (fun h2 => ?_) (fun h2 => ?_) <;> simp only [h2,go_sem,simprocAttr] <;> (try simp only [beq_iff_eq,beq_eq_false_iff_ne,bne_iff_ne,ne_eq,decide_eq_true_eq,decide_eq_false_iff_not,Bool.not_true,Bool.not_false,Bool.not_eq_true,Bool.not_eq_false,bne_eq_false_iff_eq,Decidable.not_not] at h2)
        omega
      rw [if_neg hq]
      have q1 : decide (o.a < 1) = false := by simp; omega
      have q2 : decide (o.a > (s.jobs.length : Int)) = false := by simp; omega
      have hw : IntKind.i64.wrap (o.a - 1) = o.a - 1 := wrap_in (by omega) (by omega)
      have q3 : 0 ≤ o.a - 1 := by omega
      obtain ⟨k, hkq⟩ : ∃ k : Nat, (o.a - 1).toNat = k := ⟨_, rfl⟩
      have hkl : k < s.jobs.length := by omega
      have hg := get_mapD (f := jobR) zeroJob hkl
      have hJ : jobA s o.a = s.jobs.getD k zeroJob := by unfold jobA; rw [hkq]
      rw [hJ]
      generalize s.jobs.getD k zeroJob = j at *
      simp only [q1,q2,q3,hw,hkq,hg,hk,go_sem,simprocAttr]
      rcases hv with ⟨hv1, hv2⟩ | ⟨hv1, hv2⟩ | ⟨hv1, hv2⟩
      all_goals
        simp only [hv1,hv2,hk,go_sem,simprocAttr]
        simp only [ge_iff_le,decide_eq_true_eq,decide_eq_false_iff_not] at hv1 hv2
    all_goals
      first
      | have h2 : o.kind = 9 := by omega
        refine WC_splitn (fun h1 => ?_) (fun h1 => ?_) <;> simp only [h1,go_sem,simprocAttr] <;> (try simp only [beq_iff_eq,beq_eq_false_iff_ne,bne_iff_ne,ne_eq,decide_eq_true_eq,decide_eq_false_iff_not,Bool.not_true,Bool.not_false,Bool.not_eq_true,Bool.not_eq_false,bne_eq_false_iff_eq,Decidable.not_not] at h1)
        · rw [if_pos (by omega)]
        rw [if_neg (by omega)]
        refine W_calld (fits9_tri s j o.b) rfl rfl rfl rfl ?_; simp only [go_sem,simprocAttr]
        have key : (if ¬ (fitsRB s.nodes j o.b = true ∧ j.inc < 1000000 ∧ freeAll o.b s.nodes 0 = true) then (8 : Int) else 0) = if (fitsRB s.nodes j o.b && decide (j.inc < 1000000) && freeAll o.b s.nodes 0) = false then 8 else 0 := by
          cases fitsRB s.nodes j o.b <;> cases freeAll o.b s.nodes 0 <;> by_cases hi : j.inc < 1000000 <;> simp [hi]
        rw [key]
        generalize hr : (fitsRB s.nodes j o.b && decide (j.inc < 1000000) && freeAll o.b s.nodes 0) = r
        cases hf : fitsRB s.nodes j o.b with
        | false =>
          rw [hf] at hr
          simp only [hk,go_sem,simprocAttr]
          refine W_loopI [4, 5, 11, 12] [] (fun kv : Nat × Bool => kv.1 ≤ s.nodes.length ∧ (kv.2 && freeAll o.b (s.nodes.drop kv.1) kv.1) = r) (fun kv => s.nodes.length - kv.1) (why9S c s o j) (0, false) ?_ ⟨Nat.zero_le _, hr⟩ ?_
          · simp only [why9S,hk,go_sem,simprocAttr,Int.natCast_zero]
          rintro ⟨k, b⟩ ⟨hkl, hF⟩
          dsimp only at hkl hF
          simp only [why9S,go_sem,simprocAttr]
          refine WC_split (fun h => ?_) (fun h => ?_)
          · have h := lt_of_dec h
            rw [drop_cons _ _ zeroNode h, freeAll] at hF
            have hgn := get_mapD (f := nodeR) zeroNode h
            generalize s.nodes.getD k zeroNode = n at *
            cases b with
            | false =>
              simp only [go_sem,simprocAttr]
              refine W_lpI (k + 1, false) ?_ ?_ ⟨by dsimp only; omega, by simpa using hF⟩ (by dsimp only; omega)
              · simp only [go_sem,simprocAttr]
              · simp only [why9S,go_sem,simprocAttr,wrap_succ (show k < 9223372036854775807 by omega)]
            | true =>
              simp only [go_sem,simprocAttr]
              refine W_calld (has9_tri o.b k (by omega)) rfl rfl rfl rfl ?_; simp only [go_sem,simprocAttr]
              cases hh : hasB o.b k with
              | false =>
                rw [hh] at hF
                simp only [go_sem,simprocAttr]
                refine W_lpI (k + 1, true) ?_ ?_ ⟨by dsimp only; omega, hF⟩ (by dsimp only; omega)
                · simp only [go_sem,simprocAttr]
                · simp only [why9S,go_sem,simprocAttr,wrap_succ (show k < 9223372036854775807 by omega)]
              | true =>
                rw [hh] at hF
                simp only [hgn,go_sem,simprocAttr]
                refine W_calld (free9_tri n) rfl rfl rfl rfl ?_; simp only [go_sem,simprocAttr]
                refine W_lpI (k + 1, freeB n) ?_ ?_ ⟨by dsimp only; omega, by simpa using hF⟩ (by dsimp only; omega)
                · simp only [go_sem,simprocAttr]
                · simp only [why9S,go_sem,simprocAttr,wrap_succ (show k < 9223372036854775807 by omega)]
          · obtain rfl := eq_of_dec h hkl
            rw [List.drop_length, freeAll, Bool.and_true] at hF
            subst hF
            cases b <;> simp only [go_sem,simprocAttr,Bool.true_eq_false]
        | true =>
          rw [hf, Bool.true_and] at hr
          simp only [hg,hk,go_sem,simprocAttr]
          refine W_loopI [4, 5, 11, 12] [] (fun kv : Nat × Bool => kv.1 ≤ s.nodes.length ∧ (kv.2 && freeAll o.b (s.nodes.drop kv.1) kv.1) = r) (fun kv => s.nodes.length - kv.1) (why9S c s o j) (0, decide (j.inc < 1000000)) ?_ ⟨Nat.zero_le _, hr⟩ ?_
          · simp only [why9S,hk,go_sem,simprocAttr,Int.natCast_zero]
          rintro ⟨k, b⟩ ⟨hkl, hF⟩
          dsimp only at hkl hF
          simp only [why9S,go_sem,simprocAttr]
          refine WC_split (fun h => ?_) (fun h => ?_)
          · have h := lt_of_dec h
            rw [drop_cons _ _ zeroNode h, freeAll] at hF
            have hgn := get_mapD (f := nodeR) zeroNode h
            generalize s.nodes.getD k zeroNode = n at *
            cases b with
            | false =>
              simp only [go_sem,simprocAttr]
              refine W_lpI (k + 1, false) ?_ ?_ ⟨by dsimp only; omega, by simpa using hF⟩ (by dsimp only; omega)
              · simp only [go_sem,simprocAttr]
              · simp only [why9S,go_sem,simprocAttr,wrap_succ (show k < 9223372036854775807 by omega)]
            | true =>
              simp only [go_sem,simprocAttr]
              refine W_calld (has9_tri o.b k (by omega)) rfl rfl rfl rfl ?_; simp only [go_sem,simprocAttr]
              cases hh : hasB o.b k with
              | false =>
                rw [hh] at hF
                simp only [go_sem,simprocAttr]
                refine W_lpI (k + 1, true) ?_ ?_ ⟨by dsimp only; omega, hF⟩ (by dsimp only; omega)
                · simp only [go_sem,simprocAttr]
                · simp only [why9S,go_sem,simprocAttr,wrap_succ (show k < 9223372036854775807 by omega)]
              | true =>
                rw [hh] at hF
                simp only [hgn,go_sem,simprocAttr]
                refine W_calld (free9_tri n) rfl rfl rfl rfl ?_; simp only [go_sem,simprocAttr]
                refine W_lpI (k + 1, freeB n) ?_ ?_ ⟨by dsimp only; omega, by simpa using hF⟩ (by dsimp only; omega)
                · simp only [go_sem,simprocAttr]
                · simp only [why9S,go_sem,simprocAttr,wrap_succ (show k < 9223372036854775807 by omega)]
          · obtain rfl := eq_of_dec h hkl
            rw [List.drop_length, freeAll, Bool.and_true] at hF
            subst hF
            cases b <;> simp only [go_sem,simprocAttr,Bool.true_eq_false]
      | have h2 : o.kind = 12 := by omega
        refine WC_splitn (fun h1 => ?_) (fun h1 => ?_) <;> simp only [h1,go_sem,simprocAttr] <;> (try simp only [beq_iff_eq,beq_eq_false_iff_ne,bne_iff_ne,ne_eq,decide_eq_true_eq,decide_eq_false_iff_not,Bool.not_true,Bool.not_false,Bool.not_eq_true,Bool.not_eq_false,bne_eq_false_iff_eq,Decidable.not_not] at h1)
        · rw [if_pos (by omega)]
        rw [if_neg (by omega)]
        refine WD_calld (drains9_tri s j.queue (by omega)) rfl rfl rfl rfl ?_; simp only [go_sem,simprocAttr]
        repeat' (first | ((first | with_reducible refine WG_splitn (fun h => ?_) (fun h => ?_) | refine WG_split (fun h => ?_) (fun h => ?_)) <;> simp only [h,go_sem,simprocAttr] <;> (try simp only [beq_iff_eq,beq_eq_false_iff_ne,bne_iff_ne,ne_eq,decide_eq_true_eq,decide_eq_false_iff_not,Bool.not_true,Bool.not_false,Bool.not_eq_true,Bool.not_eq_false,bne_eq_false_iff_eq,Decidable.not_not] at h)) | ((first | with_reducible refine WC_splitn (fun h => ?_) (fun h => ?_) | refine WC_split (fun h => ?_) (fun h => ?_)) <;> simp only [h,go_sem,simprocAttr] <;> (try simp only [beq_iff_eq,beq_eq_false_iff_ne,bne_iff_ne,ne_eq,decide_eq_true_eq,decide_eq_false_iff_not,Bool.not_true,Bool.not_false,Bool.not_eq_true,Bool.not_eq_false,bne_eq_false_iff_eq,Decidable.not_not] at h)))
        all_goals (first | omega | (repeat (first | rw [if_pos (by omega)] | rw [if_neg (by omega)])))
      | have h2 : o.kind = 20 := by omega
        obtain ⟨b, hb⟩ := Int.eq_ofNat_of_zero_le hkb.1
        simp only [hb,Int.toNat_natCast,go_sem,simprocAttr]
        refine WC_split (fun h0 => ?_) (fun h0 => ?_) <;> simp only [h0,go_sem,simprocAttr] <;> (try simp only [beq_iff_eq,beq_eq_false_iff_ne,bne_iff_ne,ne_eq,decide_eq_true_eq,decide_eq_false_iff_not,Bool.not_true,Bool.not_false,Bool.not_eq_true,Bool.not_eq_false,bne_eq_false_iff_eq,Decidable.not_not] at h0)
        · rw [if_pos (by omega)]
        rw [if_neg (by omega)]
        refine WC_splitn (fun h1 => ?_) (fun h1 => ?_) <;> simp only [h1,go_sem,simprocAttr] <;> (try simp only [beq_iff_eq,beq_eq_false_iff_ne,bne_iff_ne,ne_eq,decide_eq_true_eq,decide_eq_false_iff_not,Bool.not_true,Bool.not_false,Bool.not_eq_true,Bool.not_eq_false,bne_eq_false_iff_eq,Decidable.not_not] at h1)
        · rw [if_pos (by omega)]
        rw [if_neg (by omega)]
        refine WD_calld (has9_tri j.nodes b (by omega)) rfl rfl rfl rfl ?_; simp only [go_sem,simprocAttr]
        cases hh : hasB j.nodes b with
        | false => simp only [true_or,go_sem,simprocAttr]
        | true =>
        simp only [Bool.true_eq_false,false_or,go_sem,simprocAttr]
        refine WD_calld (many9_tri j.nodes) rfl rfl rfl rfl ?_; simp only [go_sem,simprocAttr]
        repeat' (first | ((first | with_reducible refine WG_splitn (fun h => ?_) (fun h => ?_) | refine WG_split (fun h => ?_) (fun h => ?_)) <;> simp only [h,go_sem,simprocAttr] <;> (try simp only [beq_iff_eq,beq_eq_false_iff_ne,bne_iff_ne,ne_eq,decide_eq_true_eq,decide_eq_false_iff_not,Bool.not_true,Bool.not_false,Bool.not_eq_true,Bool.not_eq_false,bne_eq_false_iff_eq,Decidable.not_not] at h)) | ((first | with_reducible refine WC_splitn (fun h => ?_) (fun h => ?_) | refine WC_split (fun h => ?_) (fun h => ?_)) <;> simp only [h,go_sem,simprocAttr] <;> (try simp only [beq_iff_eq,beq_eq_false_iff_ne,bne_iff_ne,ne_eq,decide_eq_true_eq,decide_eq_false_iff_not,Bool.not_true,Bool.not_false,Bool.not_eq_true,Bool.not_eq_false,bne_eq_false_iff_eq,Decidable.not_not] at h)))
        all_goals (first | omega | (repeat (first | rw [if_pos (by omega)] | rw [if_neg (by omega)])))
      | have h2 : o.kind = 13 ∨ o.kind = 15 := by omega
        have hrn : runsB j = decide (j.phase = 2 ∨ j.phase = 3) := by unfold runsB; rw [Bool.eq_iff_iff]; simp
        rw [hrn]
        simp only [decide_eq_false_iff_not]
        repeat' (first | ((first | with_reducible refine WG_splitn (fun h => ?_) (fun h => ?_) | refine WG_split (fun h => ?_) (fun h => ?_)) <;> simp only [h,go_sem,simprocAttr] <;> (try simp only [beq_iff_eq,beq_eq_false_iff_ne,bne_iff_ne,ne_eq,decide_eq_true_eq,decide_eq_false_iff_not,Bool.not_true,Bool.not_false,Bool.not_eq_true,Bool.not_eq_false,bne_eq_false_iff_eq,Decidable.not_not] at h)) | ((first | with_reducible refine WC_splitn (fun h => ?_) (fun h => ?_) | refine WC_split (fun h => ?_) (fun h => ?_)) <;> simp only [h,go_sem,simprocAttr] <;> (try simp only [beq_iff_eq,beq_eq_false_iff_ne,bne_iff_ne,ne_eq,decide_eq_true_eq,decide_eq_false_iff_not,Bool.not_true,Bool.not_false,Bool.not_eq_true,Bool.not_eq_false,bne_eq_false_iff_eq,Decidable.not_not] at h)))
        all_goals (first | omega | (repeat (first | rw [if_pos (by omega)] | rw [if_neg (by omega)])))
      | repeat' (first | ((first | with_reducible refine WG_splitn (fun h => ?_) (fun h => ?_) | refine WG_split (fun h => ?_) (fun h => ?_)) <;> simp only [h,go_sem,simprocAttr] <;> (try simp only [beq_iff_eq,beq_eq_false_iff_ne,bne_iff_ne,ne_eq,decide_eq_true_eq,decide_eq_false_iff_not,Bool.not_true,Bool.not_false,Bool.not_eq_true,Bool.not_eq_false,bne_eq_false_iff_eq,Decidable.not_not] at h)) | ((first | with_reducible refine WC_splitn (fun h => ?_) (fun h => ?_) | refine WC_split (fun h => ?_) (fun h => ?_)) <;> simp only [h,go_sem,simprocAttr] <;> (try simp only [beq_iff_eq,beq_eq_false_iff_ne,bne_iff_ne,ne_eq,decide_eq_true_eq,decide_eq_false_iff_not,Bool.not_true,Bool.not_false,Bool.not_eq_true,Bool.not_eq_false,bne_eq_false_iff_eq,Decidable.not_not] at h)))
        all_goals (first | omega | (repeat (first | rw [if_pos (by omega)] | rw [if_neg (by omega)])))
  · rcases hk with hk | hk | hk | hk | hk | hk
    all_goals
      first | rw [why_7 ho hk] | rw [why_8 ho hk] | rw [why_16 ho hk] | rw [why_17 ho hk] | rw [why_18 ho hk] | rw [why_19 ho hk]
      simp only [hk,go_sem,simprocAttr]
      by_cases hq : (s.nodes.length : Int) ≤ o.a
      · rw [if_pos hq]
        have q1 : decide (o.a ≥ (s.nodes.length : Int)) = true := by simpa using hq
        simp only [q1,go_sem,simprocAttr]
      rw [if_neg hq]
      have q1 : decide (o.a ≥ (s.nodes.length : Int)) = false := by simp; omega
      have q3 : 0 ≤ o.a := hka.1
      obtain ⟨i, hiq⟩ : ∃ i : Nat, o.a.toNat = i := ⟨_, rfl⟩
      have hil : i < s.nodes.length := by omega
      have hg := get_mapD (f := nodeR) zeroNode hil
      have hN : nodeA s o.a = s.nodes.getD i zeroNode := by unfold nodeA; rw [hiq]
      rw [hN]
      generalize s.nodes.getD i zeroNode = n at *
      simp only [q1,q3,hiq,hg,hk,go_sem,simprocAttr]
      rcases hv with ⟨hv1, hv2⟩ | ⟨hv1, hv2⟩ | ⟨hv1, hv2⟩
      all_goals
        simp only [hv1,hv2,hk,go_sem,simprocAttr]
        simp only [ge_iff_le,decide_eq_true_eq,decide_eq_false_iff_not] at hv1 hv2
    all_goals
      first
      | have h2 : o.kind = 7 := by omega
        cases hu : n.up <;> simp only [hu,Bool.true_eq_false,go_sem,simprocAttr]
      | have h2 : o.kind = 8 := by omega
        unfold withinB
        simp only [decide_eq_false_iff_not]
        cases hu : n.up <;> simp only [hu,Bool.false_eq_true,hg,hk,go_sem,simprocAttr]
        repeat' (first | ((first | with_reducible refine WG_splitn (fun h => ?_) (fun h => ?_) | refine WG_split (fun h => ?_) (fun h => ?_)) <;> simp only [h,go_sem,simprocAttr] <;> (try simp only [beq_iff_eq,beq_eq_false_iff_ne,bne_iff_ne,ne_eq,decide_eq_true_eq,decide_eq_false_iff_not,Bool.not_true,Bool.not_false,Bool.not_eq_true,Bool.not_eq_false,bne_eq_false_iff_eq,Decidable.not_not] at h)) | ((first | with_reducible refine WC_splitn (fun h => ?_) (fun h => ?_) | refine WC_split (fun h => ?_) (fun h => ?_)) <;> simp only [h,go_sem,simprocAttr] <;> (try simp only [beq_iff_eq,beq_eq_false_iff_ne,bne_iff_ne,ne_eq,decide_eq_true_eq,decide_eq_false_iff_not,Bool.not_true,Bool.not_false,Bool.not_eq_true,Bool.not_eq_false,bne_eq_false_iff_eq,Decidable.not_not] at h)))
        all_goals (first | omega | (repeat (first | rw [if_pos (by omega)] | rw [if_neg (by omega)])))
      | have h2 : o.kind = 16 := by omega
        cases hu : n.up <;> cases hc : n.cordon <;> simp only [hu,hc,hg,hk,Bool.true_eq_false,go_sem,simprocAttr]
      | have h2 : o.kind = 17 := by omega
        cases hu : n.moving <;> cases hc : n.cordon <;> simp only [hu,hc,hg,hk,Bool.true_eq_false,go_sem,simprocAttr]
      | have h2 : o.kind = 18 := by omega
        have e : (n.job == 0) = decide (n.job = 0) := rfl
        cases hu : n.up <;> cases hc : n.cordon <;> cases hm : n.moving <;> cases hz : decide (n.job = 0) <;> simp only [hu,hc,hm,e,hz,hg,hk,Bool.true_eq_false,go_sem,simprocAttr]
      | have h2 : o.kind = 19 := by omega
        unfold withinB
        simp only [decide_eq_false_iff_not]
        cases hu : n.moving <;> simp only [hu,Bool.true_eq_false,hg,hk,go_sem,simprocAttr]
        repeat' (first | ((first | with_reducible refine WG_splitn (fun h => ?_) (fun h => ?_) | refine WG_split (fun h => ?_) (fun h => ?_)) <;> simp only [h,go_sem,simprocAttr] <;> (try simp only [beq_iff_eq,beq_eq_false_iff_ne,bne_iff_ne,ne_eq,decide_eq_true_eq,decide_eq_false_iff_not,Bool.not_true,Bool.not_false,Bool.not_eq_true,Bool.not_eq_false,bne_eq_false_iff_eq,Decidable.not_not] at h)) | ((first | with_reducible refine WC_splitn (fun h => ?_) (fun h => ?_) | refine WC_split (fun h => ?_) (fun h => ?_)) <;> simp only [h,go_sem,simprocAttr] <;> (try simp only [beq_iff_eq,beq_eq_false_iff_ne,bne_iff_ne,ne_eq,decide_eq_true_eq,decide_eq_false_iff_not,Bool.not_true,Bool.not_false,Bool.not_eq_true,Bool.not_eq_false,bne_eq_false_iff_eq,Decidable.not_not] at h)))
        all_goals (first | omega | (repeat (first | rw [if_pos (by omega)] | rw [if_neg (by omega)])))
end Dv
