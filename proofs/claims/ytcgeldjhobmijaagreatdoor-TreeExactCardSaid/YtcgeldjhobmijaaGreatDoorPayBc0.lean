/- The theory: texts of the dev place in one; each part's head says what it holds. -/
import Derived.Shelf.LaysM
import Derived.Shelf.LaysC
import Derived.Shelf.Strconv.Itoa3
import Derived.Shelf.Strconv.ErrVarAll
import Derived.Shelf.Strings.SplitShaped
import Derived.Shelf.Small.Strs
import Derived.Test.YtcgeldjhobmijaaGreatDoorProg
import Derived.Carry
import Derived.WideShapes
import Derived.ChangeArms
import Derived.Lib.LaidTab
import Derived.Lib.LaidU8
import Derived.Handed
import Derived.HandedShaped
import Derived.OpenShut
import Derived.WalkKit
import Derived.ProofKit
import Derived.Lay
import Derived.Test.YtcgeldjhobmijaaGreatDoorPayBb0
/- The library's contracts, laid at this program (written by the kit's lay-plain, cut to what is used). -/
section
namespace Go.Proofs
open Go.Shelf
def Tryz.lays137_ren : Go.Shelf.Ren := ⟨fun | 137 => 97 | 217 => 117 | 266 => 133 | n => n, fun | 9 => 9 | 5 => 5 | 3 => 3 | n => n, fun | n => n⟩
theorem Tryz.lays137 : Go.Proofs.Lays.n137 Tryz.prog Tryz.lays137_ren := {
  mixed := by kernel_rfl
  f137 := Tryz.func97.trans (congrArg some (by kernel_rfl))
  f217 := Tryz.func117.trans (congrArg some (by kernel_rfl))
  f266 := Tryz.func133.trans (congrArg some (by kernel_rfl))
  t3 := Tryz.underlying3
  a3 := Tryz.isAgg3
  z3 := Tryz.sizeOf3
  v3 := Tryz.zeroValue3
  t5 := Tryz.underlying5
  a5 := Tryz.isAgg5
  z5 := Tryz.sizeOf5
  v5 := Tryz.zeroValue5
  t9 := Tryz.underlying9
  a9 := Tryz.isAgg9
  z9 := Tryz.sizeOf9
  v9 := Tryz.zeroValue9 }
open Go.RowKit in
theorem Tryz.strings_IndexByte (s : ByteArray) (c : Int) (w : World) :
    Calls Tryz.prog 97 #[.string s, .int .u8 c] w fun e w' => e = .returned (.int .i64 (Lib.indexByte s.data.toList c.toNat.toUInt8)) ∧ w' = w := Any.strings_IndexByte Tryz.lays137 s c w
def Tryz.laysM171_ren : Go.Shelf.Ren := ⟨fun | 171 => 33 | 243 => 66 | 246 => 87 | 283 => 100 | 284 => 101 | 285 => 102 | 286 => 103 | 129 => 120 | 317 => 119 | 318 => 121 | 319 => 122 | 320 => 123 | 337 => 136 | 338 => 137 | n => n, fun | 3 => 3 | 9 => 9 | 2 => 2 | 4 => 4 | 171 => 167 | 0 => 0 | 53 => 168 | 37 => 64 | 5 => 5 | 173 => 171 | 212 => 184 | 51 => 185 | 20 => 20 | 213 => 186 | 46 => 187 | 232 => 209 | 233 => 210 | n => n, fun | 17 => 0 | 18 => 6 | 19 => 7 | n => n⟩
theorem Tryz.laysM171 : Go.Proofs.LaysM.n171 Tryz.prog Tryz.laysM171_ren := {
  mixed := by kernel_rfl
  f129 := Tryz.func120.trans (congrArg some (by kernel_rfl))
  f171 := Tryz.func33.trans (congrArg some (by kernel_rfl))
  f243 := Tryz.func66.trans (congrArg some (by kernel_rfl))
  f246 := Tryz.func87.trans (congrArg some (by kernel_rfl))
  f283 := Tryz.func100.trans (congrArg some (by kernel_rfl))
  f284 := Tryz.func101.trans (congrArg some (by kernel_rfl))
  f285 := Tryz.func102.trans (congrArg some (by kernel_rfl))
  f286 := Tryz.func103.trans (congrArg some (by kernel_rfl))
  f317 := Tryz.func119.trans (congrArg some (by kernel_rfl))
  f318 := Tryz.func121.trans (congrArg some (by kernel_rfl))
  f319 := Tryz.func122.trans (congrArg some (by kernel_rfl))
  f320 := Tryz.func123.trans (congrArg some (by kernel_rfl))
  f337 := Tryz.func136.trans (congrArg some (by kernel_rfl))
  f338 := Tryz.func137.trans (congrArg some (by kernel_rfl))
  t0 := Tryz.underlying0
  a0 := Tryz.isAgg0
  z0 := Tryz.sizeOf0
  v0 := Tryz.zeroValue0
  t2 := Tryz.underlying2
  a2 := Tryz.isAgg2
  z2 := Tryz.sizeOf2
  v2 := Tryz.zeroValue2
  t3 := Tryz.underlying3
  a3 := Tryz.isAgg3
  z3 := Tryz.sizeOf3
  v3 := Tryz.zeroValue3
  t4 := Tryz.underlying4
  a4 := Tryz.isAgg4
  z4 := Tryz.sizeOf4
  v4 := Tryz.zeroValue4
  t5 := Tryz.underlying5
  a5 := Tryz.isAgg5
  z5 := Tryz.sizeOf5
  v5 := Tryz.zeroValue5
  t9 := Tryz.underlying9
  a9 := Tryz.isAgg9
  z9 := Tryz.sizeOf9
  v9 := Tryz.zeroValue9
  t20 := Tryz.underlying20
  a20 := Tryz.isAgg20
  z20 := Tryz.sizeOf20
  v20 := Tryz.zeroValue20
  t37 := Tryz.underlying64
  a37 := Tryz.isAgg64
  z37 := Tryz.sizeOf64
  v37 := Tryz.zeroValue64
  t46 := Tryz.underlying187
  a46 := Tryz.isAgg187
  z46 := Tryz.sizeOf187
  v46 := Tryz.zeroValue187
  t51 := Tryz.underlying185
  a51 := Tryz.isAgg185
  z51 := Tryz.sizeOf185
  v51 := Tryz.zeroValue185
  t53 := Tryz.underlying168
  a53 := Tryz.isAgg168
  z53 := Tryz.sizeOf168
  v53 := Tryz.zeroValue168
  t171 := Tryz.underlying167
  a171 := Tryz.isAgg167
  z171 := Tryz.sizeOf167
  v171 := Tryz.zeroValue167
  t173 := Tryz.underlying171
  a173 := Tryz.isAgg171
  z173 := Tryz.sizeOf171
  v173 := Tryz.zeroValue171
  t212 := Tryz.underlying184
  a212 := Tryz.isAgg184
  z212 := Tryz.sizeOf184
  v212 := Tryz.zeroValue184
  t213 := Tryz.underlying186
  a213 := Tryz.isAgg186
  z213 := Tryz.sizeOf186
  t232 := Tryz.underlying209
  a232 := Tryz.isAgg209
  z232 := Tryz.sizeOf209
  v232 := Tryz.zeroValue209
  t233 := Tryz.underlying210
  a233 := Tryz.isAgg210
  z233 := Tryz.sizeOf210
  v233 := Tryz.zeroValue210
  g17 := by kernel_rfl
  g18 := by kernel_rfl
  g19 := by kernel_rfl
  i0 := by kernel_rfl
  i2 := by kernel_rfl
  i3 := by kernel_rfl
  i4 := by kernel_rfl
  i5 := by kernel_rfl
  i9 := by kernel_rfl
  i20 := by kernel_rfl
  i37 := by kernel_rfl
  i46 := by kernel_rfl
  i51 := by kernel_rfl
  i53 := by kernel_rfl
  i171 := by kernel_rfl
  i173 := by kernel_rfl
  i212 := by kernel_rfl
  i232 := by kernel_rfl
  i233 := by kernel_rfl
  m17 := by kernel_rfl
  m18 := by kernel_rfl
  m19 := by kernel_rfl }
def Tryz.laysC172_ren : Go.Shelf.Ren := ⟨fun | 172 => 67 | 244 => 88 | 245 => 89 | 247 => 104 | 279 => 105 | 280 => 106 | 281 => 107 | 282 => 108 | 287 => 124 | 316 => 125 | 171 => 33 | 205 => 126 | 321 => 138 | 322 => 139 | 243 => 66 | 246 => 87 | 283 => 100 | 284 => 101 | 285 => 102 | 286 => 103 | 129 => 120 | 317 => 119 | 318 => 121 | 319 => 122 | 320 => 123 | 337 => 136 | 338 => 137 | n => n, fun | 9 => 9 | 3 => 3 | 75 => 102 | 76 => 103 | 4 => 4 | 5 => 5 | 167 => 173 | 37 => 64 | 0 => 0 | 85 => 174 | 2 => 2 | 168 => 176 | 53 => 168 | 175 => 189 | 46 => 187 | 210 => 193 | 127 => 147 | 145 => 202 | 143 => 200 | 21 => 21 | 171 => 167 | 173 => 171 | 212 => 184 | 51 => 185 | 20 => 20 | 213 => 186 | 232 => 209 | 233 => 210 | 80 => 113 | n => n, fun | 15 => 1 | 16 => 2 | 17 => 0 | 18 => 6 | 19 => 7 | n => n⟩
theorem Tryz.laysC172 : Go.Proofs.LaysC.n172 Tryz.prog Tryz.laysC172_ren := {
  mixed := by kernel_rfl
  f129 := Tryz.func120.trans (congrArg some (by kernel_rfl))
  f171 := Tryz.func33.trans (congrArg some (by kernel_rfl))
  f172 := Tryz.func67.trans (congrArg some (by kernel_rfl))
  f205 := Tryz.func126.trans (congrArg some (by kernel_rfl))
  f243 := Tryz.func66.trans (congrArg some (by kernel_rfl))
  f244 := Tryz.func88.trans (congrArg some (by kernel_rfl))
  f245 := Tryz.func89.trans (congrArg some (by kernel_rfl))
  f246 := Tryz.func87.trans (congrArg some (by kernel_rfl))
  f247 := Tryz.func104.trans (congrArg some (by kernel_rfl))
  f279 := Tryz.func105.trans (congrArg some (by kernel_rfl))
  f280 := Tryz.func106.trans (congrArg some (by kernel_rfl))
  f281 := Tryz.func107.trans (congrArg some (by kernel_rfl))
  f282 := Tryz.func108.trans (congrArg some (by kernel_rfl))
  f283 := Tryz.func100.trans (congrArg some (by kernel_rfl))
  f284 := Tryz.func101.trans (congrArg some (by kernel_rfl))
  f285 := Tryz.func102.trans (congrArg some (by kernel_rfl))
  f286 := Tryz.func103.trans (congrArg some (by kernel_rfl))
  f287 := Tryz.func124.trans (congrArg some (by kernel_rfl))
  f316 := Tryz.func125.trans (congrArg some (by kernel_rfl))
  f317 := Tryz.func119.trans (congrArg some (by kernel_rfl))
  f318 := Tryz.func121.trans (congrArg some (by kernel_rfl))
  f319 := Tryz.func122.trans (congrArg some (by kernel_rfl))
  f320 := Tryz.func123.trans (congrArg some (by kernel_rfl))
  f321 := Tryz.func138.trans (congrArg some (by kernel_rfl))
  f322 := Tryz.func139.trans (congrArg some (by kernel_rfl))
  f337 := Tryz.func136.trans (congrArg some (by kernel_rfl))
  f338 := Tryz.func137.trans (congrArg some (by kernel_rfl))
  t0 := Tryz.underlying0
  a0 := Tryz.isAgg0
  z0 := Tryz.sizeOf0
  v0 := Tryz.zeroValue0
  t2 := Tryz.underlying2
  a2 := Tryz.isAgg2
  z2 := Tryz.sizeOf2
  v2 := Tryz.zeroValue2
  t3 := Tryz.underlying3
  a3 := Tryz.isAgg3
  z3 := Tryz.sizeOf3
  v3 := Tryz.zeroValue3
  t4 := Tryz.underlying4
  a4 := Tryz.isAgg4
  z4 := Tryz.sizeOf4
  v4 := Tryz.zeroValue4
  t5 := Tryz.underlying5
  a5 := Tryz.isAgg5
  z5 := Tryz.sizeOf5
  v5 := Tryz.zeroValue5
  t9 := Tryz.underlying9
  a9 := Tryz.isAgg9
  z9 := Tryz.sizeOf9
  v9 := Tryz.zeroValue9
  t20 := Tryz.underlying20
  a20 := Tryz.isAgg20
  z20 := Tryz.sizeOf20
  v20 := Tryz.zeroValue20
  t21 := Tryz.underlying21
  a21 := Tryz.isAgg21
  z21 := Tryz.sizeOf21
  v21 := Tryz.zeroValue21
  t37 := Tryz.underlying64
  a37 := Tryz.isAgg64
  z37 := Tryz.sizeOf64
  v37 := Tryz.zeroValue64
  t46 := Tryz.underlying187
  a46 := Tryz.isAgg187
  z46 := Tryz.sizeOf187
  v46 := Tryz.zeroValue187
  t51 := Tryz.underlying185
  a51 := Tryz.isAgg185
  z51 := Tryz.sizeOf185
  v51 := Tryz.zeroValue185
  t53 := Tryz.underlying168
  a53 := Tryz.isAgg168
  z53 := Tryz.sizeOf168
  v53 := Tryz.zeroValue168
  t75 := Tryz.underlying102
  a75 := Tryz.isAgg102
  z75 := Tryz.sizeOf102
  v75 := Tryz.zeroValue102
  t76 := Tryz.underlying103
  a76 := Tryz.isAgg103
  z76 := Tryz.sizeOf103
  v76 := Tryz.zeroValue103
  t85 := Tryz.underlying174
  a85 := Tryz.isAgg174
  z85 := Tryz.sizeOf174
  v85 := Tryz.zeroValue174
  t127 := Tryz.underlying147
  a127 := Tryz.isAgg147
  z127 := Tryz.sizeOf147
  v127 := Tryz.zeroValue147
  t143 := Tryz.underlying200
  a143 := Tryz.isAgg200
  z143 := Tryz.sizeOf200
  v143 := Tryz.zeroValue200
  t145 := Tryz.underlying202
  a145 := Tryz.isAgg202
  z145 := Tryz.sizeOf202
  v145 := Tryz.zeroValue202
  t167 := Tryz.underlying173
  a167 := Tryz.isAgg173
  z167 := Tryz.sizeOf173
  v167 := Tryz.zeroValue173
  t168 := Tryz.underlying176
  a168 := Tryz.isAgg176
  z168 := Tryz.sizeOf176
  v168 := Tryz.zeroValue176
  t171 := Tryz.underlying167
  a171 := Tryz.isAgg167
  z171 := Tryz.sizeOf167
  v171 := Tryz.zeroValue167
  t173 := Tryz.underlying171
  a173 := Tryz.isAgg171
  z173 := Tryz.sizeOf171
  v173 := Tryz.zeroValue171
  t175 := Tryz.underlying189
  a175 := Tryz.isAgg189
  z175 := Tryz.sizeOf189
  v175 := Tryz.zeroValue189
  t210 := Tryz.underlying193
  a210 := Tryz.isAgg193
  z210 := Tryz.sizeOf193
  v210 := Tryz.zeroValue193
  t212 := Tryz.underlying184
  a212 := Tryz.isAgg184
  z212 := Tryz.sizeOf184
  v212 := Tryz.zeroValue184
  t213 := Tryz.underlying186
  a213 := Tryz.isAgg186
  z213 := Tryz.sizeOf186
  t232 := Tryz.underlying209
  a232 := Tryz.isAgg209
  z232 := Tryz.sizeOf209
  v232 := Tryz.zeroValue209
  t233 := Tryz.underlying210
  a233 := Tryz.isAgg210
  z233 := Tryz.sizeOf210
  v233 := Tryz.zeroValue210
  g15 := by kernel_rfl
  g16 := by kernel_rfl
  g17 := by kernel_rfl
  g18 := by kernel_rfl
  g19 := by kernel_rfl
  t80 := Tryz.underlying113
  a80 := Tryz.isAgg113
  z80 := Tryz.sizeOf113
  v80 := Tryz.zeroValue113
  i0 := by kernel_rfl
  i2 := by kernel_rfl
  i3 := by kernel_rfl
  i4 := by kernel_rfl
  i5 := by kernel_rfl
  i9 := by kernel_rfl
  i20 := by kernel_rfl
  i21 := by kernel_rfl
  i37 := by kernel_rfl
  i46 := by kernel_rfl
  i51 := by kernel_rfl
  i53 := by kernel_rfl
  i75 := by kernel_rfl
  i76 := by kernel_rfl
  i80 := by kernel_rfl
  i85 := by kernel_rfl
  i127 := by kernel_rfl
  i143 := by kernel_rfl
  i145 := by kernel_rfl
  i167 := by kernel_rfl
  i168 := by kernel_rfl
  i171 := by kernel_rfl
  i173 := by kernel_rfl
  i175 := by kernel_rfl
  i210 := by kernel_rfl
  i212 := by kernel_rfl
  i232 := by kernel_rfl
  i233 := by kernel_rfl
  m15 := by kernel_rfl
  m16 := by kernel_rfl
  m17 := by kernel_rfl
  m18 := by kernel_rfl
  m19 := by kernel_rfl
  c0 := by kernel_rfl
  c2 := by kernel_rfl
  c3 := by kernel_rfl
  c4 := by kernel_rfl
  c5 := by kernel_rfl
  c9 := by kernel_rfl
  c20 := by kernel_rfl
  c21 := by kernel_rfl
  c37 := by kernel_rfl
  c46 := by kernel_rfl
  c51 := by kernel_rfl
  c53 := by kernel_rfl
  c75 := by kernel_rfl
  c76 := by kernel_rfl
  c80 := by kernel_rfl
  c85 := by kernel_rfl
  c127 := by kernel_rfl
  c143 := by kernel_rfl
  c145 := by kernel_rfl
  c167 := by kernel_rfl
  c168 := by kernel_rfl
  c171 := by kernel_rfl
  c173 := by kernel_rfl
  c175 := by kernel_rfl
  c210 := by kernel_rfl
  c212 := by kernel_rfl
  c213 := by kernel_rfl
  c232 := by kernel_rfl
  c233 := by kernel_rfl }
def Tryz.laysM154_ren : Go.Shelf.Ren := ⟨fun | 154 => 109 | 138 => 92 | 165 => 127 | 143 => 93 | 166 => 32 | 197 => 111 | 169 => 37 | 195 => 110 | 218 => 112 | 240 => 65 | 241 => 140 | 219 => 113 | 260 => 128 | 276 => 86 | 277 => 142 | 217 => 117 | 225 => 129 | 224 => 130 | 267 => 131 | 266 => 133 | 314 => 141 | n => n, fun | 9 => 9 | 3 => 3 | 4 => 4 | 72 => 100 | 0 => 0 | 76 => 103 | 105 => 180 | 21 => 21 | 5 => 5 | 70 => 98 | 20 => 20 | 37 => 64 | 75 => 102 | 127 => 147 | 164 => 160 | 46 => 187 | 119 => 203 | 139 => 206 | 138 => 205 | 146 => 207 | 51 => 185 | 80 => 113 | n => n, fun | 1 => 3 | 3 => 4 | 4 => 5 | n => n⟩
theorem Tryz.laysM154 : Go.Proofs.LaysM.n154 Tryz.prog Tryz.laysM154_ren := {
  mixed := by kernel_rfl
  f138 := Tryz.func92.trans (congrArg some (by kernel_rfl))
  f143 := Tryz.func93.trans (congrArg some (by kernel_rfl))
  f154 := Tryz.func109.trans (congrArg some (by kernel_rfl))
  f165 := Tryz.func127.trans (congrArg some (by kernel_rfl))
  f166 := Tryz.func32.trans (congrArg some (by kernel_rfl))
  f169 := Tryz.func37.trans (congrArg some (by kernel_rfl))
  f195 := Tryz.func110.trans (congrArg some (by kernel_rfl))
  f197 := Tryz.func111.trans (congrArg some (by kernel_rfl))
  f217 := Tryz.func117.trans (congrArg some (by kernel_rfl))
  f218 := Tryz.func112.trans (congrArg some (by kernel_rfl))
  f219 := Tryz.func113.trans (congrArg some (by kernel_rfl))
  f224 := Tryz.func130.trans (congrArg some (by kernel_rfl))
  f225 := Tryz.func129.trans (congrArg some (by kernel_rfl))
  f240 := Tryz.func65.trans (congrArg some (by kernel_rfl))
  f241 := Tryz.func140.trans (congrArg some (by kernel_rfl))
  f260 := Tryz.func128.trans (congrArg some (by kernel_rfl))
  f266 := Tryz.func133.trans (congrArg some (by kernel_rfl))
  f267 := Tryz.func131.trans (congrArg some (by kernel_rfl))
  f276 := Tryz.func86.trans (congrArg some (by kernel_rfl))
  f277 := Tryz.func142.trans (congrArg some (by kernel_rfl))
  f314 := Tryz.func141.trans (congrArg some (by kernel_rfl))
  t0 := Tryz.underlying0
  a0 := Tryz.isAgg0
  z0 := Tryz.sizeOf0
  v0 := Tryz.zeroValue0
  t3 := Tryz.underlying3
  a3 := Tryz.isAgg3
  z3 := Tryz.sizeOf3
  v3 := Tryz.zeroValue3
  t4 := Tryz.underlying4
  a4 := Tryz.isAgg4
  z4 := Tryz.sizeOf4
  v4 := Tryz.zeroValue4
  t5 := Tryz.underlying5
  a5 := Tryz.isAgg5
  z5 := Tryz.sizeOf5
  v5 := Tryz.zeroValue5
  t9 := Tryz.underlying9
  a9 := Tryz.isAgg9
  z9 := Tryz.sizeOf9
  v9 := Tryz.zeroValue9
  t20 := Tryz.underlying20
  a20 := Tryz.isAgg20
  z20 := Tryz.sizeOf20
  v20 := Tryz.zeroValue20
  t21 := Tryz.underlying21
  a21 := Tryz.isAgg21
  z21 := Tryz.sizeOf21
  v21 := Tryz.zeroValue21
  t37 := Tryz.underlying64
  a37 := Tryz.isAgg64
  z37 := Tryz.sizeOf64
  v37 := Tryz.zeroValue64
  t46 := Tryz.underlying187
  a46 := Tryz.isAgg187
  z46 := Tryz.sizeOf187
  v46 := Tryz.zeroValue187
  t51 := Tryz.underlying185
  a51 := Tryz.isAgg185
  z51 := Tryz.sizeOf185
  v51 := Tryz.zeroValue185
  t70 := Tryz.underlying98
  a70 := Tryz.isAgg98
  z70 := Tryz.sizeOf98
  v70 := Tryz.zeroValue98
  t72 := Tryz.underlying100
  a72 := Tryz.isAgg100
  z72 := Tryz.sizeOf100
  v72 := Tryz.zeroValue100
  t75 := Tryz.underlying102
  a75 := Tryz.isAgg102
  z75 := Tryz.sizeOf102
  v75 := Tryz.zeroValue102
  t76 := Tryz.underlying103
  a76 := Tryz.isAgg103
  z76 := Tryz.sizeOf103
  v76 := Tryz.zeroValue103
  t105 := Tryz.underlying180
  a105 := Tryz.isAgg180
  z105 := Tryz.sizeOf180
  v105 := Tryz.zeroValue180
  t119 := Tryz.underlying203
  a119 := Tryz.isAgg203
  z119 := Tryz.sizeOf203
  t127 := Tryz.underlying147
  a127 := Tryz.isAgg147
  z127 := Tryz.sizeOf147
  v127 := Tryz.zeroValue147
  t138 := Tryz.underlying205
  a138 := Tryz.isAgg205
  z138 := Tryz.sizeOf205
  v138 := Tryz.zeroValue205
  t139 := Tryz.underlying206
  a139 := Tryz.isAgg206
  z139 := Tryz.sizeOf206
  v139 := Tryz.zeroValue206
  t146 := Tryz.underlying207
  a146 := Tryz.isAgg207
  z146 := Tryz.sizeOf207
  v146 := Tryz.zeroValue207
  t164 := Tryz.underlying160
  a164 := Tryz.isAgg160
  z164 := Tryz.sizeOf160
  v164 := Tryz.zeroValue160
  g1 := by kernel_rfl
  g3 := by kernel_rfl
  g4 := by kernel_rfl
  t80 := Tryz.underlying113
  a80 := Tryz.isAgg113
  z80 := Tryz.sizeOf113
  v80 := Tryz.zeroValue113
  i0 := by kernel_rfl
  i3 := by kernel_rfl
  i4 := by kernel_rfl
  i5 := by kernel_rfl
  i9 := by kernel_rfl
  i20 := by kernel_rfl
  i21 := by kernel_rfl
  i37 := by kernel_rfl
  i46 := by kernel_rfl
  i51 := by kernel_rfl
  i70 := by kernel_rfl
  i72 := by kernel_rfl
  i75 := by kernel_rfl
  i76 := by kernel_rfl
  i80 := by kernel_rfl
  i105 := by kernel_rfl
  i127 := by kernel_rfl
  i138 := by kernel_rfl
  i139 := by kernel_rfl
  i146 := by kernel_rfl
  i164 := by kernel_rfl
  m1 := by kernel_rfl
  s1_3 := fun w h => Go.Proofs.cell_of_shapedOpen_int (zero := #[.int .i64 0]) (t := 3) h (of_decide_eq_true (by kernel_rfl)) (by kernel_rfl) rfl (by kernel_rfl) (by kernel_rfl) Tryz.underlying3
  m3 := by kernel_rfl
  m4 := by kernel_rfl }
theorem Tryz.Builder_Extra_M154 : Builder.Extra Tryz.prog Tryz.laysM154_ren := {
  sizeBuilder := by kernel_rfl
  liesBuilder := by kernel_rfl
  t5 := Tryz.underlying5
  a5 := Tryz.isAgg5
  z5 := Tryz.sizeOf5
  v5 := Tryz.zeroValue5
  infoByte := by kernel_rfl
  cellsByte := by kernel_rfl
  sizeByte := by kernel_rfl
  neB5 := by decide }
end Go.Proofs
end
/- How a shallow unit is followed: equations for simp. -/
section
set_option linter.unusedSimpArgs false
set_option linter.unusedVariables false
namespace Pay
open Go
set_option maxHeartbeats 400000
section
variable {C : Ctx} {I : Nat → Prop} {st st' : St} {Q : Ex → St → Prop} {K : St → Prop} {dst : Option Nat}
theorem wpB_congr {c : ACode} (h : st = st') : wpB C I c st Q = wpB C I c st' Q := by rw [h]
theorem opsB_congr {os : List AOper} (h : st = st') : opsB C I os st K = opsB C I os st' K := by rw [h]
theorem treeB_congr {os : List AOper} {t : Tr} (h : st = st') : treeB C I os t st K = treeB C I os t st' K := by rw [h]
theorem drawB_congr {os : List AOper} {is : List Nat} {t : Tr} (h : st = st') : drawB C I os is t st K = drawB C I os is t st' K := by rw [h]
theorem fnK_congr {v v' : V} {F : Nat → List V → Prop} (h : v = v') : fnK v F = fnK v' F := by rw [h]
theorem freeK_congr {n n' : Nat} {F : St → Prop} (h : st = st') (hn : n = n') : freeK st n F = freeK st' n' F := by rw [h, hn]
theorem frzK_congr {ts : List Nat} {F : St → Prop} (h : st = st') : frzK st ts F = frzK st' ts F := by rw [h]
theorem nilSK_congr {b : Bool} {v v' : V} {F : V → Prop} (h : v = v') : nilSK b v F = nilSK b v' F := by rw [h]
theorem callK_congr {f f' : Nat} {xs xs' : List V} {F : V → (Nat → Option Ob) → Prop} (h : st = st') (hf : f = f') (hx : xs = xs') : callK C I st dst f xs F = callK C I st' dst f' xs' F := by rw [h, hf, hx]
theorem callE_congr {f : Nat} {xs xs' : List V} {F : V → (Nat → Option Ob) → Prop} (h : st = st') (hx : xs = xs') : callE C I st dst f xs F = callE C I st' dst f xs' F := by rw [h, hx]
attribute [congr] wpB_congr opsB_congr treeB_congr drawB_congr fnK_congr freeK_congr frzK_congr nilSK_congr callK_congr callE_congr
theorem treeB_done {os : List AOper} : treeB C I os .done st K = K st := rfl
theorem drawB_done {os : List AOper} {t : Tr} : drawB C I os [] t st K = treeB C I os t st K := rfl
theorem fnK_f {f : Nat} {cs : List V} {F : Nat → List V → Prop} : fnK (.fn f cs) F = F f cs := propext Iff.rfl
theorem shareK_b {α : Sort _} {F : α} {G : α → Prop} : shareK F G = G F := rfl
theorem frzK_0 {F : St → Prop} : frzK st [] F = F st := rfl
def rowE (x : Option Ob) (A : Nat → List (List D) → Prop) (B : Prop) : Prop := match x with | some (.row sz es) => A sz es | _ => B
theorem rowE_congr {x y : Option Ob} {A : Nat → List (List D) → Prop} {B : Prop} (h : x = y) : rowE x A B = rowE y A B := by rw [h]
attribute [congr] rowE_congr
theorem rowE_r {sz : Nat} {es : List (List D)} {A : Nat → List (List D) → Prop} {B : Prop} : rowE (some (.row sz es)) A B = A sz es := rfl
theorem rowE_n {A : Nat → List (List D) → Prop} {B : Prop} : rowE none A B = B := rfl
theorem freeK_mk {s : Nat → V} {o : Nat → Option Ob} {n : Nat} {F : St → Prop} : freeK (St.mk s o) n F = rowE (o n) (fun _ es => F (St.mk (fun t => V.thaw n es (s t)) (fun m => if m = n then none else (o m).map (Ob.thaw n es)))) (F (St.mk s o)) := by
  unfold freeK St.free
  simp only
  cases h : o n with
  | none => rfl
  | some x => cases x <;> rfl
def ownsW (v : V) (o : Nat → Option Ob) : List Nat := match v with
  | .ptr n _ => (match o n with | some (.box cs) => V.owns.ownsL cs | _ => [])
  | v => V.owns v
def boxOwns (x : Option Ob) : List Nat := match x with | some (.box cs) => V.owns.ownsL cs | _ => []
theorem boxOwns_d {k : Nat} : boxOwns (some (.bld k)) = [] := rfl
theorem boxOwns_b {cs : List V} : boxOwns (some (.box cs)) = V.owns.ownsL cs := rfl
theorem ownsW_ptr {n off : Nat} {o : Nat → Option Ob} : ownsW (.ptr n off) o = boxOwns (o n) := rfl
theorem ownsW_d {x : D} {o : Nat → Option Ob} : ownsW (.d x) o = [] := rfl
theorem ownsW_cap0 {o : Nat → Option Ob} : ownsW .cap0 o = [] := rfl
theorem ownsW_own {n : Nat} {o : Nat → Option Ob} : ownsW (.own n) o = [n] := rfl
theorem ownsW_agg {cs : List V} {o : Nat → Option Ob} : ownsW (.agg cs) o = V.owns.ownsL cs := rfl
def freesK (st : St) (ns : List Nat) (F : St → Prop) : Prop := F (st.frees ns)
theorem freesK_congr {ns ns' : List Nat} {F : St → Prop} (h : st = st') (hn : ns = ns') : freesK st ns F = freesK st' ns' F := by rw [h, hn]
attribute [congr] freesK_congr
theorem freesK_0 {F : St → Prop} : freesK st [] F = F st := rfl
theorem freesK_1 {n : Nat} {ns : List Nat} {F : St → Prop} : freesK st (n :: ns) F = freeK st n (fun st => freesK st ns F) := rfl
theorem frzK_1 {s : Nat → V} {o : Nat → Option Ob} {t : Nat} {ts : List Nat} {F : St → Prop} : frzK (St.mk s o) (t :: ts) F = freesK (St.mk s o) (ownsW (s t) o) (fun st => frzK st ts F) := rfl
theorem nilSK_n {b : Bool} {F : V → Prop} : nilSK b .cap0 F = ∀ c, F (.d (.bool c)) := propext Iff.rfl
theorem nilSK_0 {b : Bool} {F : V → Prop} : nilSK b (.d (.sl [])) F = ∀ c, F (.d (.bool c)) := propext Iff.rfl
theorem nilSK_c {b : Bool} {e : List D} {es : List (List D)} {F : V → Prop} : nilSK b (.d (.sl (e :: es))) F = F (.d (.bool b)) := propext Iff.rfl
theorem pickV_b {t : Bool} {a b : V} : pickV (.d (.bool t)) a b = some (if t = true then a else b) := rfl
theorem convV_i {k k' : IntKind} {n : Int} : convV k (.d (.int k' n)) = some (.d (.int k (k.wrap n))) := rfl
theorem sameV_s {s : List UInt8} : sameV (.d (.str s)) = some (.d (.str s)) := rfl
theorem extV_t {vs : List V} {i : Nat} : extV (.tup vs) i = vs[i]? := rfl
theorem lenSV_s {s : List UInt8} : lenSV (.d (.str s)) = some (.d (.int .i64 s.length)) := rfl
theorem nilcV_p {n off : Nat} : nilcV (.ptr n off) = some (.ptr n off) := rfl
theorem nilcV_f {f : Nat} {cs : List V} : nilcV (.fn f cs) = some (.fn f cs) := rfl
theorem eqsV_a {neq : Bool} {ks : List Nat} {xs ys : List V} : eqsV neq ks (.agg xs) (.agg ys) = (match eqCells ks xs ys with | some b => some (.d (.bool (if neq = true then !b else b))) | none => none) := rfl
theorem beqV_b {neq b c : Bool} : beqV neq (.d (.bool b)) (.d (.bool c)) = some (.d (.bool (if neq = true then !(b == c) else b == c))) := rfl
theorem nilEV_e {neq b : Bool} : nilEV neq (.d (.err b)) = some (.d (.bool (if neq = true then !b else b))) := rfl
theorem nilPV_p {neq : Bool} {n off : Nat} : nilPV neq (.ptr n off) = some (.d (.bool neq)) := rfl
theorem nilPV_n {neq : Bool} : nilPV neq .nilp = some (.d (.bool (!neq))) := rfl
theorem trim_some {s : Nat → V} {o : Nat → Option Ob} {tr ns : List Nat} : St.trim (St.mk s o) tr (some ns) = St.mk (look (tr.map fun k => (k, s k))) (looko (ns.map fun n => (n, o n))) := rfl
theorem trim_none {s : Nat → V} {o : Nat → Option Ob} {tr : List Nat} : St.trim (St.mk s o) tr none = St.mk (look (tr.map fun k => (k, s k))) o := rfl
theorem look_cons (k : Nat) (v : V) (l : List (Nat × V)) (n : Nat) : look ((k, v) :: l) n = if n = k then v else look l n := rfl
theorem look_nil (n : Nat) : look [] n = .undef := rfl
theorem looko_cons (k : Nat) (v : Option Ob) (l : List (Nat × Option Ob)) (n : Nat) : looko ((k, v) :: l) n = if n = k then v else looko l n := rfl
theorem looko_nil (n : Nat) : looko [] n = none := rfl
theorem upd_look (l : List (Nat × V)) (d : Nat) (v : V) : upd (look l) d v = look ((d, v) :: l) := rfl
def setL (m : Nat) (y : Option Ob) : List (Nat × Option Ob) → List (Nat × Option Ob)
  | [] => [(m, y)]
  | (k, x) :: l => if m = k then (m, y) :: l else (k, x) :: setL m y l
theorem setL_nil (m : Nat) (y : Option Ob) : setL m y [] = [(m, y)] := rfl
theorem setL_cons (m : Nat) (y : Option Ob) (k : Nat) (x : Option Ob) (l : List (Nat × Option Ob)) : setL m y ((k, x) :: l) = if m = k then (m, y) :: l else (k, x) :: setL m y l := rfl
theorem looko_setL (m : Nat) (y : Option Ob) : ∀ (l : List (Nat × Option Ob)) (n : Nat), looko (setL m y l) n = if n = m then y else looko l n
  | [], n => rfl
  | (k, x) :: l, n => by
    simp only [setL]
    split
    · rename_i h; subst h; simp only [looko]; split <;> rfl
    · rename_i h
      simp only [looko, looko_setL m y l n]
      by_cases h1 : n = k
      · subst h1; simp [show ¬ n = m from fun e => h e.symm]
      · simp [h1]
theorem upd_setL (l : List (Nat × Option Ob)) (m : Nat) (y : Option Ob) : upd (looko l) m y = looko (setL m y l) := by
  funext n; rw [looko_setL]; rfl
theorem upd_at {α : Type} (f : Nat → α) (n : Nat) (x : α) (m : Nat) : upd f n x m = if m = n then x else f m := rfl
theorem setRange_all {α : Type} {cs new : List α} (h : new.length = cs.length) : setRange cs 0 new = new := by
  simp [setRange, h]
theorem callE_own {f : Nat} {xs : List V} {F : V → (Nat → Option Ob) → Prop} {m sz : Nat} {es : List (List D)} (h : SoundAt C f ⟨xs, looko []⟩ ⟨.own m, looko [(m, some (.row sz es))]⟩) (hI : ¬ I m) (hf : Fresh st m dst)
    (hK : F (.own m) (upd st.o m (some (.row sz es)))) : callE C I st dst f xs F := by
  have e2 : mixO (fun _ => false) st.o (looko [(m, some (.row sz es))]) = upd st.o m (some (.row sz es)) := by
    funext n
    simp only [mixO, looko, upd]
    by_cases e : n = m
    · subst e; simp
    · simp [e]
  refine ⟨⟨.own m, looko [(m, some (.row sz es))]⟩, h, ⟨fun n hn => .inr ?_, fun n hn => .inl ?_, (fun n x hx k hk => ?_), fun n h => h.elim⟩, by rw [e2]; exact hK⟩
  · by_cases e : n = m
    · subst e; exact ⟨hI, hf⟩
    · simp [looko, e] at hn
  · simp only [V.refs, beq_iff_eq] at hn
    subst hn; simp [looko]
  · by_cases e : n = m
    · subst e
      simp [looko] at hx
      subst hx
      cases hk
    · simp [looko, e] at hx
theorem callK_own {f : Nat} {xs : List V} {F : V → (Nat → Option Ob) → Prop} {m sz : Nat} {es : List (List D)} (h : SoundAt C f ⟨xs, looko []⟩ ⟨.own m, looko [(m, some (.row sz es))]⟩) (hI : ¬ I m) (hf : Fresh st m dst)
    (hK : F (.own m) (upd st.o m (some (.row sz es)))) : callK C I st dst f xs F := by
  obtain ⟨cout, h1, h2, h3⟩ := callE_own (F := F) h hI hf hK
  exact ⟨fun _ => false, fun _ => False, cout, by rw [exO_none]; exact h1, h2, h3⟩
theorem scrubV_d (m : Nat) (x : D) : scrubV m (.d x) = .d x := rfl
theorem scrubV_cap0 (m : Nat) : scrubV m .cap0 = .cap0 := rfl
theorem scrubV_ptr (m n off : Nat) : scrubV m (.ptr n off) = if (n == m) = true then .undef else .ptr n off := rfl
theorem scrubV_mref (m n : Nat) : scrubV m (.mref n) = if (n == m) = true then .undef else .mref n := rfl
theorem scrubV_own (m n : Nat) : scrubV m (.own n) = if (n == m) = true then .undef else .own n := rfl
theorem scrubV_agg (m : Nat) (cs : List V) : scrubV m (.agg cs) = if V.refsL m cs = true then .undef else .agg cs := rfl
theorem scrubV_undef (m : Nat) : scrubV m .undef = .undef := rfl
theorem scrub_box (m : Nat) (cs : List V) : Ob.scrub m (.box cs) = .box (cs.map (scrubV m)) := rfl
theorem scrub_brow (m : Nat) (s : List UInt8) : Ob.scrub m (.brow s) = .brow s := rfl
theorem scrub_bld (m k : Nat) : Ob.scrub m (.bld k) = if k = m then .box [.undef, .undef] else .bld k := rfl
theorem scrub_map (m : Nat) (kvs : List (D × D)) : Ob.scrub m (.map kvs) = .map kvs := rfl
theorem scrub_row (m sz : Nat) (es : List (List D)) : Ob.scrub m (.row sz es) = .row sz es := rfl
theorem toDs_map : ∀ (ds : List D), toDs (ds.map V.d) = some ds
  | [] => rfl
  | d :: ds => by simp [toDs, toD, toDs_map ds]
theorem toDs_cons (d : D) (vs : List V) : toDs (.d d :: vs) = (toDs vs).map (d :: ·) := by
  simp only [toDs, toD]; cases toDs vs <;> rfl
theorem toDs_nil : toDs [] = some [] := rfl
theorem readD_sl (o : Nat → Option Ob) (es : List (List D)) : readD o (.d (.sl es)) = some es := rfl
def kvE (p : Int × Int) : D × D := (.int .i64 p.1, .int .i64 p.2)
def getN (k : Int) : List (Int × Int) → Option Int
  | [] => none
  | p :: r => if k = p.1 then some p.2 else getN k r
def putN (k x : Int) : List (Int × Int) → List (Int × Int)
  | [] => [(k, x)]
  | p :: r => if k = p.1 then (k, x) :: r else p :: putN k x r
theorem kvGet_n (k : Int) : ∀ (l : List (Int × Int)), kvGet (.int .i64 k) (l.map kvE) = some ((getN k l).map (D.int .i64))
  | [] => rfl
  | p :: r => by
    simp only [List.map_cons, kvGet, kvE, keyEq, getN, if_true]
    by_cases h : k = p.1
    · simp [h]
    · have h' : (k == p.1) = false := by simp [h]
      simp only [h', h, if_false]
      exact kvGet_n k r
theorem kvSet_n (k x : Int) : ∀ (l : List (Int × Int)), kvSet (.int .i64 k) (.int .i64 x) (l.map kvE) = some ((putN k x l).map kvE)
  | [] => rfl
  | p :: r => by
    simp only [List.map_cons, kvSet, kvE, keyEq, putN, if_true]
    by_cases h : k = p.1
    · simp [h, kvE]
    · have h' : (k == p.1) = false := by simp [h]
      have ih := kvSet_n k x r
      simp only [h', h, if_false, ih, List.map_cons, kvE]
theorem getD_int (x : Option Int) : (x.map (D.int .i64)).getD (.int .i64 0) = .int .i64 (x.getD 0) := by cases x <;> rfl
theorem isSome_int (x : Option Int) : (x.map (D.int .i64)).isSome = x.isSome := by cases x <;> rfl
theorem thaw_d (n : Nat) (es : List (List D)) (x : D) : V.thaw n es (.d x) = .d x := rfl
theorem thaw_cap0 (n : Nat) (es : List (List D)) : V.thaw n es .cap0 = .cap0 := rfl
theorem thaw_own (n : Nat) (es : List (List D)) (m : Nat) : V.thaw n es (.own m) = if m = n then .d (.sl es) else .own m := rfl
theorem thaw_ptr (n : Nat) (es : List (List D)) (m off : Nat) : V.thaw n es (.ptr m off) = if m = n then .undef else .ptr m off := rfl
theorem thaw_mref (n : Nat) (es : List (List D)) (m : Nat) : V.thaw n es (.mref m) = if m = n then .undef else .mref m := rfl
theorem thaw_undef (n : Nat) (es : List (List D)) : V.thaw n es .undef = .undef := rfl
theorem thaw_agg (n : Nat) (es : List (List D)) (cs : List V) : V.thaw n es (.agg cs) = .agg (V.thaws n es cs) := rfl
theorem thaws_nil (n : Nat) (es : List (List D)) : V.thaws n es [] = [] := rfl
theorem thaws_cons (n : Nat) (es : List (List D)) (c : V) (cs : List V) : V.thaws n es (c :: cs) = V.thaw n es c :: V.thaws n es cs := rfl
theorem thaws_map (n : Nat) (es : List (List D)) : ∀ (ds : List D), V.thaws n es (ds.map V.d) = ds.map V.d
  | [] => rfl
  | d :: ds => by simp only [List.map_cons, thaws_cons, thaw_d, thaws_map n es ds]
theorem obthaw_brow (n : Nat) (es : List (List D)) (s : List UInt8) : Ob.thaw n es (.brow s) = .brow s := rfl
theorem obthaw_bld (n : Nat) (es : List (List D)) (k : Nat) : Ob.thaw n es (.bld k) = if k = n then .box [.undef, .undef] else .bld k := rfl
theorem obthaw_box (n : Nat) (es : List (List D)) (cs : List V) : Ob.thaw n es (.box cs) = .box (V.thaws n es cs) := rfl
theorem obthaw_row (n : Nat) (es : List (List D)) (sz : Nat) (r : List (List D)) : Ob.thaw n es (.row sz r) = .row sz r := rfl
theorem obthaw_map (n : Nat) (es : List (List D)) (kvs : List (D × D)) : Ob.thaw n es (.map kvs) = .map kvs := rfl
mutual
def V.up : V → V
  | .cap0 => .d (.sl [])
  | .agg cs => .agg (V.ups cs)
  | .tup cs => .tup (V.ups cs)
  | v => v
def V.ups : List V → List V
  | [] => []
  | c :: cs => V.up c :: V.ups cs
end
mutual
theorem RepV.up {C : Ctx} {w : World} {ok : Nat → Prop} {γ : Nat → Value} : ∀ (v : V) (u : Value), RepV C w ok γ v u → RepV C w ok γ v.up u
  | .cap0, u, h => by
    obtain ⟨A, rfl⟩ := h
    exact ⟨A, 0, 0, rfl, Nat.le_refl _, fun e he => (by cases he), fun h => absurd rfl h⟩
  | .agg cs, u, h => by
    obtain ⟨us, e, h1, h2⟩ := h
    exact ⟨us, e, RepVs.up cs us h1, h2⟩
  | .tup cs, u, h => by
    obtain ⟨us, e, h1⟩ := h
    exact ⟨us, e, RepVs.up cs us h1⟩
  | .d _, _, h => h
  | .nilp, _, h => h
  | .ptr _ _, _, h => h
  | .own _, _, h => h
  | .eptr _ _ _ _, _, h => h
  | .cptr _, _, h => h
  | .fn _ _, _, h => h
  | .mref _, _, h => h
  | .undef, _, h => h
theorem RepVs.up {C : Ctx} {w : World} {ok : Nat → Prop} {γ : Nat → Value} : ∀ (cs : List V) (us : List Value), RepVs C w ok γ cs us → RepVs C w ok γ (V.ups cs) us
  | [], us, h => h
  | c :: cs, us, h => by
    obtain ⟨u, us', e, h1, h2⟩ := h
    exact ⟨u, us', e, RepV.up c u h1, RepVs.up cs us' h2⟩
end
theorem SoundAt.up {f : Nat} {xs : List V} {o : Nat → Option Ob} {cout : RS} (h : SoundAt C f ⟨V.ups xs, o⟩ cout) : SoundAt C f ⟨xs, o⟩ cout := by
  intro w S M γ us hp
  have h1 := h w S M γ us ⟨hp.env, RepVs.up _ _ hp.args, hp.objs, hp.sep, hp.muts⟩
  exact Enters.mono h1 (fun v w' ⟨γ', q⟩ => ⟨γ', ⟨q.res, q.objs, q.sep, q.muts, q.fram, q.hdr⟩⟩)
theorem SoundAt.res_up {f : Nat} {cin : CS} {r : V} {o : Nat → Option Ob} (h : SoundAt C f cin ⟨r, o⟩) : SoundAt C f cin ⟨r.up, o⟩ := by
  intro w S M γ us hp
  exact Enters.mono (h w S M γ us hp) (fun v w' ⟨γ', q⟩ => ⟨γ', ⟨RepV.up _ _ q.res, q.objs, q.sep, q.muts, q.fram, q.hdr⟩⟩)
theorem scrub_map_d (m : Nat) (ds : List D) : (ds.map V.d).map (scrubV m) = ds.map V.d := by
  rw [List.map_map]; rfl
def ownV {α : Type} (m : Nat) : List α → V
  | [] => .cap0
  | _ :: _ => .own m
def ownO {α : Type} (sz : Nat) (f : α → List D) : List α → Option Ob
  | [] => none
  | a :: r => some (.row sz ((a :: r).map f))
theorem ownV_snoc {α : Type} (m : Nat) (xs : List α) (x : α) : ownV m (xs ++ [x]) = .own m := by cases xs <;> rfl
theorem ownO_snoc {α : Type} (sz : Nat) (f : α → List D) (xs : List α) (x : α) : ownO sz f (xs ++ [x]) = some (.row sz (xs.map f ++ [f x])) := by cases xs <;> simp [ownO]
def slV {α : Type} (f : α → List D) : List α → V
  | [] => .cap0
  | a :: r => .d (.sl ((a :: r).map f))
theorem slV_up {α : Type} (f : α → List D) (xs : List α) : (slV f xs).up = .d (.sl (xs.map f)) := by cases xs <;> rfl
theorem callK_plain {f : Nat} {xs : List V} {F : V → (Nat → Option Ob) → Prop} {r : V} (h : SoundAt C f ⟨xs, fun _ => none⟩ ⟨r, fun _ => none⟩) (hr : ∀ n, V.refs n r = false) (hK : F r st.o) : callK C I st dst f xs F :=
  ⟨fun _ => false, fun _ => False, ⟨r, fun _ => none⟩, by rw [exO_none]; exact h, ⟨fun n hn => absurd rfl hn, fun n hn => (by rw [hr n] at hn; cases hn), (fun n x hx => by cases hx), fun n h => h.elim⟩, by rw [mixO_none]; exact hK⟩
theorem callE_plain {f : Nat} {xs : List V} {F : V → (Nat → Option Ob) → Prop} {r : V} (h : SoundAt C f ⟨xs, fun _ => none⟩ ⟨r, fun _ => none⟩) (hr : ∀ n, V.refs n r = false) (hK : F r st.o) : callE C I st dst f xs F :=
  ⟨⟨r, fun _ => none⟩, h, ⟨fun n hn => absurd rfl hn, fun n hn => (by rw [hr n] at hn; cases hn), (fun n x hx => by cases hx), fun n h => h.elim⟩, by rw [mixO_none]; exact hK⟩
theorem entry0 {m : List (Nat × Option Ob)} : CS.entry ⟨[], looko m⟩ = St.mk (look []) (looko m) := by
  simp only [CS.entry]; congr 1
theorem entry1 {a : V} {m : List (Nat × Option Ob)} : CS.entry ⟨[a], looko m⟩ = St.mk (look [(0, a)]) (looko m) := by
  simp only [CS.entry]; congr 1; funext t
  rcases t with _ | t <;> simp [look]
theorem entry2 {a b : V} {m : List (Nat × Option Ob)} : CS.entry ⟨[a, b], looko m⟩ = St.mk (look [(0, a), (1, b)]) (looko m) := by
  simp only [CS.entry]; congr 1; funext t
  rcases t with _ | _ | t <;> simp [look]
theorem entry3 {a b c : V} {m : List (Nat × Option Ob)} : CS.entry ⟨[a, b, c], looko m⟩ = St.mk (look [(0, a), (1, b), (2, c)]) (looko m) := by
  simp only [CS.entry]; congr 1; funext t
  rcases t with _ | _ | _ | t <;> simp [look]
theorem ends_eq' {res : List ARes} {st : St} {r : V} : EndsA I [] [] res st ⟨r, looko []⟩ = lstK (resVs st res) (fun vs => r = tupV vs) := ends_eq
theorem ends_no {res : List ARes} {st : St} {r : V} : EndsA I [] [] res st ⟨r, looko []⟩ = lstK (resVs st res) (fun vs => r = tupV vs) := ends_eq
theorem ends_frz {frz : List Nat} {res : List ARes} {st : St} {r : V} : EndsA I [] frz res st ⟨r, looko []⟩ = frzK st frz (fun st => lstK (resVs st res) (fun vs => r = tupV vs)) := by
  show EndsA I [] [] res (st.frz frz) ⟨r, looko []⟩ = _
  rw [ends_eq']
  rfl
theorem ends_one {res : List ARes} {st : St} {r : V} {m : Nat} {ob : Ob} : EndsA I [] [] res st ⟨r, looko [(m, some ob)]⟩ = lstK (resVs st res) (fun vs => r = tupV vs ∧ st.o m = some ob) := by
  rw [← lst_ex]
  apply propext
  constructor
  · rintro ⟨vs, h1, h2, h3⟩; exact ⟨vs, h1, h2, h3 m ob (by simp [looko])⟩
  · rintro ⟨vs, h1, h2, h3⟩
    refine ⟨vs, h1, h2, fun n x hx => ?_⟩
    by_cases e : n = m
    · subst e; simp [looko] at hx; subst hx; exact h3
    · simp [looko, e] at hx
theorem fresh_true {l : List (Nat × V)} {m : List (Nat × Option Ob)} {nm : Nat} {dst : Option Nat} (h : (freshS nm dst l && freshO nm m) = true) : Fresh (St.mk (look l) (looko m)) nm dst = True := by
  simp only [Bool.and_eq_true] at h
  exact eq_true (fresh_mk h.1 h.2)
def quietL (vs : List V) : List (Nat × Option Ob) → Bool
  | [] => true
  | (k, some (.row _ _)) :: m => !V.refsL k vs && quietL vs m
  | _ :: m => quietL vs m
theorem quiet_mem {vs : List V} : ∀ {l : List (Nat × Option Ob)}, quietL vs l = true → ∀ m sz es, looko l m = some (.row sz es) → V.refsL m vs = false
  | [], _, m, sz, es, h => by simp [looko] at h
  | (k, x) :: l, hq, m, sz, es, h => by
    simp only [looko] at h
    split at h
    · rename_i e
      subst e; subst h
      simp only [quietL, Bool.and_eq_true, Bool.not_eq_true'] at hq
      exact hq.1
    · have hq' : quietL vs l = true := by
        cases x with
        | none => exact hq
        | some x =>
          cases x with
          | row _ _ => simp only [quietL, Bool.and_eq_true] at hq; exact hq.2
          | box _ => exact hq
          | map _ => exact hq
          | bld _ => exact hq
          | brow _ => exact hq
      exact quiet_mem hq' m sz es h
theorem quiet_true {l : List (Nat × Option Ob)} {vs : List V} (h : quietL vs l = true) : quietV (looko l) vs = True := eq_true (quiet_mem h)
theorem quietL_nil (vs : List V) : quietL vs [] = true := by simp only [quietL]
theorem quietL_row (vs : List V) (k sz : Nat) (es : List (List D)) (m : List (Nat × Option Ob)) : quietL vs ((k, some (.row sz es)) :: m) = (!V.refsL k vs && quietL vs m) := by simp only [quietL]
theorem quietL_brow (vs : List V) (k : Nat) (s : List UInt8) (m : List (Nat × Option Ob)) : quietL vs ((k, some (.brow s)) :: m) = quietL vs m := by simp only [quietL]
theorem quietL_bld (vs : List V) (k j : Nat) (m : List (Nat × Option Ob)) : quietL vs ((k, some (.bld j)) :: m) = quietL vs m := by simp only [quietL]
theorem quietL_box (vs : List V) (k : Nat) (cs : List V) (m : List (Nat × Option Ob)) : quietL vs ((k, some (.box cs)) :: m) = quietL vs m := by simp only [quietL]
theorem quietL_map (vs : List V) (k : Nat) (kvs : List (D × D)) (m : List (Nat × Option Ob)) : quietL vs ((k, some (.map kvs)) :: m) = quietL vs m := by simp only [quietL]
theorem quietL_none (vs : List V) (k : Nat) (m : List (Nat × Option Ob)) : quietL vs ((k, none) :: m) = quietL vs m := by simp only [quietL]
end
theorem ends_own_own {I : Nat → Prop} {t nm sz m : Nat} {res : List ARes} {l : List (Nat × V)} {o : Nat → Option Ob} {cout : RS} (h : look l t = .own m) : EndsA I [(t, nm, sz)] [] res (St.mk (look l) o) cout = EndsA I [] [] res (St.mk (look l) o) cout := by
  simp [EndsA, ownify, h]
theorem SoundAt.of_run {C : Ctx} {fn : AFn} {f N : Nat} {res : List ARes} {own : List (Nat × Nat × Nat)} {frz : List Nat} {code : ACode} (hk : okFn C.P C.φ f fn = true) (hfn : fn = ⟨N, res, own, frz, code⟩) {cin : CS} {cout : RS}
    (h : ∀ Q : Ex → St → Prop, (∀ st, EndsA (fun n => cin.o n ≠ none) own frz res st cout → Q .ret st) → (∀ st, EndsA (fun n => cin.o n ≠ none) own frz res st cout → Q .normal st) → wpB C (fun n => cin.o n ≠ none) code cin.entry Q) : SoundAt C f cin cout :=
  SoundAt.of_codeB hk hfn (h _ (fun _ h => ⟨.inl rfl, h⟩) (fun _ h => ⟨.inr rfl, h⟩))
theorem wrapI {x : Int} (h1 : -9223372036854775808 ≤ x) (h2 : x < 9223372036854775808) : IntKind.i64.wrap x = x := by
  rw [IntKind.wrap_i64]; omega
theorem getMap {α β : Type} (f : α → β) {l : List α} {k : Nat} {a : α} (h : l[k]? = some a) : (l.map f)[k]? = some (f a) := by simp [h]
theorem jumpK_n {l : Nat} {J : St → Prop} {Q : Ex → St → Prop} {st : St} : jumpK l J Q .normal st = Q .normal st := rfl
theorem jumpK_r {l : Nat} {J : St → Prop} {Q : Ex → St → Prop} {st : St} : jumpK l J Q .ret st = Q .ret st := rfl
theorem jumpK_go {J : St → Prop} {Q : Ex → St → Prop} {st : St} : jumpK 0 J Q (.exit 1000000) st = J st := by
  simp [jumpK]
attribute [go_sem ↓] jumpK_n jumpK_r jumpK_go
attribute [go_sem ↓] bndK_s treeB_done drawB_done seqK_n seqK_e seqK_r blockK_n blockK_e blockK_r condK_b guardK_b guardK_t storeK_p storeK_e boxK_b rowK_r lstK_s intK_i appK_0 appK_1 kvsK_m mapK_m optK_s demand_v demand_0 fnK_f nilSK_n nilSK_0 nilSK_c shareK_b ends_no ends_one ends_frz freeK_mk rowE_r rowE_n frzK_0 frzK_1 freesK_0 freesK_1
attribute [go_sem] pickV_b bstrV bytesD convV_i sameV_s extV_t lenSV_s nilcV_p nilcV_f eqsV_a beqV_b nilEV_e nilPV_p nilPV_n binV binInt binStr shInt unV loadV faddrV fldV iaddrV iaddrAV idxV idxAV lenV slcV slcSV bndO bnd mmV cellsV buildN setRange eqCells eqD toD trim_some trim_none upd_at look_cons look_nil looko_cons looko_nil V.refs V.refsL Ob.refs refsL_d refsL_dd List.map_cons List.map_nil Option.map_some Option.map_none if_true if_false Bool.false_eq_true Bool.not_true Bool.not_false Bool.true_or Bool.or_true Bool.false_or Bool.or_false Bool.true_and Bool.and_true Bool.and_self true_and and_true ne_eq not_true_eq_false not_false_eq_true List.getElem?_cons_zero List.getElem?_cons_succ List.drop_zero List.drop_succ_cons List.drop_nil List.take_zero List.take_succ_cons List.take_nil List.length_cons List.length_nil List.cons_append List.nil_append Option.some.injEq beq_iff_eq beq_self_eq_true decide_eq_true_eq Int.cast_ofNat_Int Int.natCast_zero Int.natCast_one beq_true beq_false false_implies implies_true true_implies Option.isSome_some Option.isSome_none upd_look upd_setL setL_nil setL_cons fresh_true freshS freshO quiet_true quietL_nil quietL_row quietL_box quietL_map quietL_none Option.some_beq_some Option.none_beq_some Option.some_beq_none Option.none_beq_none setRange_all List.append_nil resVs tupV scrubV_d scrubV_cap0 scrubV_ptr scrubV_mref scrubV_own scrubV_undef scrub_map_d scrubV_agg scrub_box scrub_bld obthaw_bld quietL_bld scrub_brow obthaw_brow quietL_brow scrub_map scrub_row toDs_map toDs_cons toDs_nil readD_sl List.mem_singleton List.mem_cons List.not_mem_nil or_false forall_eq forall_eq_or_imp keyIs kvGet_n kvSet_n getD_int isSome_int ownsW_d ownsW_cap0 ownsW_own ownsW_ptr ownsW_agg boxOwns_b boxOwns_d V.owns V.owns.ownsL thaw_d thaw_cap0 thaw_own thaw_ptr thaw_mref thaw_undef thaw_agg thaws_nil thaws_cons thaws_map obthaw_box obthaw_row obthaw_map List.getElem_cons_zero List.getElem_cons_succ
attribute [go_sem ↓] reduceIte
attribute [go_sem_proc] Nat.reduceEqDiff Nat.reduceAdd Nat.reduceSub Nat.reduceMul Nat.reduceLeDiff Nat.reduceBEq reduceCtorEq Int.reduceEq Int.reduceLT Int.reduceLE Int.reduceGT Int.reduceGE Int.reduceNeg Int.reduceBEq Int.reduceBNe Int.reduceToNat Int.reducePow UInt8.reduceToNat
end Pay
end
/- The book's entries, as data. -/
section
set_option linter.unusedSimpArgs false
set_option linter.unusedVariables false
namespace Pay
open Go
structure Line where
  kind : List UInt8
  name : List UInt8
  amount : Int
structure Sums where
  gross : Int
  pretax : Int
  post : Int
structure Ent where
  run : Int
  per : Int
  id : Int
  cen : Int
  back : Int
  lines : List Line
  raw : Sums
  extra : Sums
  taxable : Int
  tax : Int
  taken : Int
  held : Int
  net : Int
  short : Int
  paid : List Int
  owed : List Int
  garn : List Int
  fixes : List (Int × Sums)
abbrev dI (n : Int) : D := .int .i64 n
abbrev vI (n : Int) : V := .d (.int .i64 n)
abbrev vB (b : Bool) : V := .d (.bool b)
def encLine (l : Line) : List D := [.str l.kind, .str l.name, dI l.amount]
def encFix (f : Int × Sums) : List D := [dI f.1, dI f.2.gross, dI f.2.pretax, dI f.2.post]
def encI (n : Int) : List D := [dI n]
def enc (e : Ent) : List D := [dI e.run, dI e.per, dI e.id, dI e.cen, dI e.back, .sl (e.lines.map encLine), dI e.raw.gross, dI e.raw.pretax, dI e.raw.post, dI e.extra.gross, dI e.extra.pretax, dI e.extra.post, dI e.taxable, dI e.tax, dI e.taken, dI e.held, dI e.net, dI e.short, .sl (e.paid.map encI), .sl (e.owed.map encI), .sl (e.garn.map encI), .sl (e.fixes.map encFix)]
theorem enc_len (e : Ent) : (enc e).length = 22 := rfl
theorem map_len_all {α : Type} (f : α → List D) (sz : Nat) (h : ∀ a, (f a).length = sz) (l : List α) : ∀ e ∈ l.map f, e.length = sz := by
  intro e he
  obtain ⟨a, _, rfl⟩ := List.mem_map.1 he
  exact h a
theorem enc_all (l : List Ent) : ∀ e ∈ l.map enc, e.length = 22 := map_len_all enc 22 enc_len l
theorem enc_take (e : Ent) : (enc e).take 22 = enc e := rfl
theorem encV_len (e : Ent) : ((enc e).map V.d).length = 22 := rfl
theorem enc_allT (l : List Ent) : (∀ e ∈ l.map enc, e.length = 22) = True := eq_true (enc_all l)
theorem encV_take (e : Ent) : ((enc e).map V.d).take 22 = (enc e).map V.d := rfl
theorem encV_refs (n : Nat) (e : Ent) : V.refsL n ((enc e).map V.d) = false := refsL_dd n _
abbrev vEnt (e : Ent) : V := .agg ((enc e).map V.d)
theorem load_ent (o : Nat → Option Ob) (e : Ent) : loadV o (some 22) (.cptr (enc e)) = some (vEnt e) := rfl
theorem parts_ent (e : Ent) : partsN 22 [vEnt e] = some [enc e] := by
  simp only [partsN, vEnt, cellsV, toDs_map, enc_len, if_true]
theorem encLine_len (l : Line) : (encLine l).length = 3 := rfl
theorem encLineV_len (l : Line) : ((encLine l).map V.d).length = 3 := rfl
theorem encLineV_take (l : Line) : ((encLine l).map V.d).take 3 = (encLine l).map V.d := rfl
theorem encLine_take (l : Line) : (encLine l).take 3 = encLine l := rfl
theorem encFix_take (l : Int × Sums) : (encFix l).take 4 = encFix l := rfl
theorem load_line (o : Nat → Option Ob) (l : Line) : loadV o (some 3) (.cptr (encLine l)) = some (.agg ((encLine l).map V.d)) := rfl
theorem parts_line (l : Line) : partsN 3 [.agg ((encLine l).map V.d)] = some [encLine l] := by
  simp only [partsN, cellsV, toDs_map, encLine_len, if_true]
theorem encFix_len (l : Int × Sums) : (encFix l).length = 4 := rfl
theorem encFixV_len (l : Int × Sums) : ((encFix l).map V.d).length = 4 := rfl
theorem encFixV_take (l : Int × Sums) : ((encFix l).map V.d).take 4 = (encFix l).map V.d := rfl
theorem load_fix (o : Nat → Option Ob) (l : Int × Sums) : loadV o (some 4) (.cptr (encFix l)) = some (.agg ((encFix l).map V.d)) := rfl
theorem parts_fix (l : Int × Sums) : partsN 4 [.agg ((encFix l).map V.d)] = some [encFix l] := by
  simp only [partsN, cellsV, toDs_map, encFix_len, if_true]
attribute [go_sem] load_ent enc_len enc_take encV_len encV_take encV_refs enc_allT parts_ent encLine_len encLineV_len encLineV_take encLine_take encFix_take load_line parts_line encFix_len encFixV_len encFixV_take load_fix parts_fix
end Pay
end
/- From a contract to what the judge's statements ask of a call. -/
section
set_option linter.unusedSimpArgs false
set_option linter.unusedVariables false
namespace Pay
open Go
abbrev okW (W : World) (g : Nat) : Prop := g < W.heap.size
theorem SoundAt.calls {C : Ctx} {f : Nat} {vs : List V} {b : Bool} (h : SoundAt C f ⟨vs, looko []⟩ ⟨.d (.bool b), looko []⟩) {g : Func} (hg : C.P.funcs[C.φ f]? = some g) (hbody : g.body.isSome = true) (hname : (g.name != "runtime.NumGoroutine") = true)
    {W : World} (hgi : C.gi W) (hb : C.base ≤ W.heap.size) {us : List Value} (ha : RepVs C W (okW W) (fun _ => undef) vs us) :
    Calls C.P (C.φ f) ⟨us⟩ W (fun e W' => e = .returned (.bool b) ∧ Go.RowKit.Below W.heap.size W W') := by
  have hok : ∀ g, okW W g → W.heap[g]? = W.heap[g]? ∧ okOf W (fun g => g < W.heap.size) (fun _ => undef) (looko []) W g := fun g hg => ⟨rfl, .inl hg, hg, fun n x hx => by simp [looko] at hx⟩
  have hpre : Pre C W (fun g => g < W.heap.size) (fun _ => False) (fun _ => undef) ⟨vs, looko []⟩ us := by
    refine ⟨⟨hgi, hb, fun _ h => h.elim, fun _ h => h, fun _ h => h.elim⟩, RepVs.mono hok _ _ (fun _ _ => rfl) ha, fun n x hx => ?_, fun n m x y g hx _ _ _ => ?_, fun n x g hx _ => ?_⟩
    all_goals simp [looko] at hx
  have he := h W _ _ _ us hpre
  obtain ⟨c, hbody⟩ := Option.isSome_iff_exists.1 hbody
  have hrun : (callFunc (C.φ f) ⟨us⟩).run C.P W = .ok (.enter (C.φ f) ⟨us⟩) W := by
    simp only [bne_iff_ne, ne_eq] at hname
    simp [callFunc, hg, hname, hbody]
  unfold Enters at he
  rw [hrun] at he
  simp only at he
  refine Calls.mono he (fun e w' h => ?_)
  cases e with
  | returned v =>
    obtain ⟨γ', hp⟩ := h
    have hv : v = .bool b := hp.res
    refine ⟨by rw [hv], hp.fram.os, hp.fram.tape, hp.fram.output, hp.fram.size, fun k hk => hp.fram.block k hk (fun h => h)⟩
  | _ => exact h.elim
theorem block_lt {W : World} {a : Addr} {u : Value} (h : W.cell? a = some u) : a.block < W.heap.size := by
  rcases Nat.lt_or_ge a.block W.heap.size with h' | h'
  · exact h'
  · have : W.heap[a.block]? = none := by simp; omega
    simp [World.cell?, this] at h
end Pay
end
/- What came in, as data: every type made of whole numbers, bools, strings, slices and structs. -/
section
set_option linter.unusedSimpArgs false
set_option linter.unusedVariables false
namespace Pay
open Go
inductive Sh where
  | int (k : IntKind)
  | bool
  | str
  | sl (ss : List Sh)
mutual
def Conf : D → Sh → Prop
  | .int k n, .int k' => k = k' ∧ (Lit.int k n).wf = true
  | .bool _, .bool => True
  | .str s, .str => s.length ≤ maxLen
  | .sl es, .sl ss => ConfE es ss
  | _, _ => False
def ConfE : List (List D) → List Sh → Prop
  | [], _ => True
  | e :: es, ss => ConfC e ss ∧ ConfE es ss
def ConfC : List D → List Sh → Prop
  | [], [] => True
  | d :: ds, s :: ss => Conf d s ∧ ConfC ds ss
  | _, _ => False
end
def shapeF (P : Program) (r : TypeId → Option (List Sh)) : Nat → List Field → Option (List Sh)
  | _, [] => some []
  | off, f :: fs => if f.offset = off then (match r f.type with
    | some ss => if P.cellsOf f.type = ss.length then (match shapeF P r (off + ss.length) fs with | some rest => some (ss ++ rest) | none => none) else none
    | none => none) else none
def shapes (P : Program) : Nat → TypeId → Option (List Sh)
  | 0, _ => none
  | n + 1, t => match P.underlying t with
    | some (.int k) => some [.int k]
    | some .bool => some [.bool]
    | some .string => some [.str]
    | some (.slice e) => (match shapes P n e with | some ss => if P.cellsOf e = ss.length ∧ 0 < ss.length then some [.sl ss] else none | none => none)
    | some (.struct fs) => (match shapeF P (shapes P n) 0 fs.toList with | some ss => if P.cellsOf t = ss.length then some ss else none | none => none)
    | _ => none
theorem ConfC.length : ∀ {ds : List D} {ss : List Sh}, ConfC ds ss → ds.length = ss.length
  | [], [], _ => rfl
  | d :: ds, s :: ss, h => by simp [ConfC.length h.2]
  | [], _ :: _, h => h.elim
  | _ :: _, [], h => h.elim
theorem ConfC.append : ∀ {ds ds' : List D} {ss ss' : List Sh}, ConfC ds ss → ConfC ds' ss' → ConfC (ds ++ ds') (ss ++ ss')
  | [], _, [], _, _, h => h
  | d :: ds, _, s :: ss, _, h, h' => ⟨h.1, ConfC.append h.2 h'⟩
  | [], _, _ :: _, _, h, _ => h.elim
  | _ :: _, _, [], _, h, _ => h.elim
theorem RepCells.app2 {w : World} {ok : Nat → Prop} : ∀ {ds ds' : List D} {us us' : List Value}, ds.length = us.length → RepCells w ok ds us → RepCells w ok ds' us' → RepCells w ok (ds ++ ds') (us ++ us')
  | [], _, [], _, _, _, h => h
  | d :: ds, _, u :: us, _, hl, h, h' => ⟨h.1, RepCells.app2 (by simpa using hl) h.2 h'⟩
  | [], _, _ :: _, _, hl, _, _ => by simp at hl
  | _ :: _, _, [], _, hl, _, _ => by simp at hl
theorem mapM_get {α β : Type} {f : α → Option β} : ∀ {l : List α} {r : List β}, l.mapM f = some r → r.length = l.length ∧ ∀ (i : Nat) (x : α), l[i]? = some x → f x = r[i]?
  | [], r, h => by
    simp at h; subst h
    exact ⟨rfl, fun i x hx => by simp at hx⟩
  | x :: l, r, h => by
    rw [List.mapM_cons] at h
    cases hx : f x with
    | none => simp [hx] at h
    | some y =>
      cases hl : l.mapM f with
      | none => simp [hx, hl] at h
      | some r' =>
        simp [hx, hl] at h
        subst h
        obtain ⟨h1, h2⟩ := mapM_get hl
        refine ⟨by simp [h1], fun i z hz => ?_⟩
        cases i with
        | zero => simp at hz; subst hz; simpa using hx
        | succ i => simpa using h2 i z (by simpa using hz)
section
variable {H : Type} {enc : TypeId × Value → H} {P : Program} {W : World} {spare : Nat → Bool} {held : Bool}
theorem fields_open {m : Nat} {cs : List Value} {r : TypeId → Option (List Sh)} (ih : ∀ t ss, r t = some ss → ∀ cs x, DataW.trod enc P W 0 spare held m t cs = some x → ∃ ds, ConfC ds ss ∧ cs.length = ss.length ∧ RepCells W (okW W) ds cs) :
    ∀ (l : List Field) (off : Nat) (ss : List Sh), shapeF P r off l = some ss → off + ss.length ≤ cs.length → (∀ f ∈ l, ∃ y, DataW.trod enc P W 0 spare held m f.type ((cs.drop f.offset).take (P.cellsOf f.type)) = some y) →
      ∃ ds, ConfC ds ss ∧ RepCells W (okW W) ds ((cs.drop off).take ss.length)
  | [], off, ss, h, _, _ => by
    simp only [shapeF, Option.some.injEq] at h
    subst h
    exact ⟨[], trivial, trivial⟩
  | f :: l, off, ss, h, hl, hf => by
    simp only [shapeF] at h
    split at h
    case isFalse => cases h
    rename_i hoff
    split at h
    case h_2 => cases h
    rename_i s1 hs1
    split at h
    case isFalse => cases h
    rename_i hc
    split at h
    case h_2 => cases h
    rename_i s2 hs2
    injection h with h
    subst h
    obtain ⟨y, hy⟩ := hf f (by simp)
    rw [hoff, hc] at hy
    obtain ⟨d1, c1, l1, r1⟩ := ih _ _ hs1 _ _ hy
    simp only [List.length_append] at hl
    obtain ⟨d2, c2, r2⟩ := fields_open ih l (off + s1.length) s2 hs2 (by omega) (fun g hg => hf g (by simp [hg]))
    refine ⟨d1 ++ d2, c1.append c2, ?_⟩
    have e : (cs.drop off).take (s1 ++ s2).length = (cs.drop off).take s1.length ++ (cs.drop (off + s1.length)).take s2.length := by
      rw [List.length_append, List.take_add, List.drop_drop]
    rw [e]
    exact RepCells.app2 (by rw [l1]; exact c1.length) r1 r2
theorem cells_rep {a : Addr} {ds : List D} {cs : List Value} {off sz : Nat} (hc : W.cells? 0 (a.add off) sz = some cs) (hl : ds.length = sz) (hr : RepCells W (okW W) ds cs) : RepCs W (okW W) a off ds := by
  unfold World.cells? at hc
  rw [if_pos (Nat.zero_le _)] at hc
  obtain ⟨h1, h2⟩ := mapM_get hc
  have key : ∀ (ds : List D) (k : Nat) (us : List Value), (∀ i u, us[i]? = some u → W.cell? (a.add (off + (k + i))) = some u) → ds.length ≤ us.length → RepCells W (okW W) ds us → RepCs W (okW W) a (off + k) ds := by
    intro ds
    induction ds with
    | nil => intro k us _ _ _; trivial
    | cons d ds ih =>
      intro k us hu hl hr
      cases us with
      | nil => exact hr.elim
      | cons u us =>
        refine ⟨⟨u, by simpa using hu 0 u rfl, hr.1⟩, ?_⟩
        have := ih (k + 1) us (fun i v hv => by
          have := hu (i + 1) v (by simpa using hv)
          rwa [show k + (i + 1) = k + 1 + i by omega] at this) (by simpa using hl) hr.2
        rwa [show off + (k + 1) = off + k + 1 by omega] at this
  have := key ds 0 cs (fun i u hu => by
    have hi : i < sz := by
      have := (List.getElem?_eq_some_iff.1 hu).1
      simp at h1; omega
    have := h2 i i (by simp [hi])
    rw [hu] at this
    rw [Nat.zero_add, ← add_add']
    exact this) (by simp at h1; omega) hr
  simpa using this
theorem trod_open : ∀ (n : Nat) (t : TypeId) (ss : List Sh), shapes P n t = some ss → ∀ (fuel : Nat) (cs : List Value) (x : DataW H × List MemPlace), DataW.trod enc P W 0 spare held fuel t cs = some x →
    ∃ ds, ConfC ds ss ∧ cs.length = ss.length ∧ RepCells W (okW W) ds cs
  | 0, t, ss, h, _, _, _, _ => by simp [shapes] at h
  | n + 1, t, ss, h, fuel, cs, x, ht => by
    simp only [shapes] at h
    split at h
    case h_1 k hu =>
      injection h with h; subst h
      obtain ⟨m, rfl, _, hw⟩ := DataW.trod_int hu ht
      exact ⟨[.int k m], ⟨⟨rfl, hw⟩, trivial⟩, rfl, rfl, trivial⟩
    case h_2 hu =>
      injection h with h; subst h
      obtain ⟨b, rfl, _⟩ := DataW.trod_bool hu ht
      exact ⟨[.bool b], ⟨trivial, trivial⟩, rfl, rfl, trivial⟩
    case h_3 hu =>
      injection h with h; subst h
      obtain ⟨s, rfl, _, hs⟩ := DataW.trod_string hu ht
      refine ⟨[.str s.data.toList], ⟨?_, trivial⟩, rfl, rfl, trivial⟩
      show s.data.toList.length ≤ maxLen
      simpa using hs
    case h_4 e hu =>
      split at h
      case h_2 => cases h
      rename_i s1 hs1
      split at h
      case isFalse => cases h
      rename_i hc
      injection h with h; subst h
      rcases DataW.trod_slice hu ht with ⟨rfl, _⟩ | ⟨a, len, cap, elems, rest, m, _, rfl, _, _, hlc, _, hel, hget, _, _⟩
      · exact ⟨[.sl []], ⟨trivial, trivial⟩, rfl, ⟨none, 0, 0, rfl, Nat.le_refl _, fun e he => (by cases he), fun h => absurd rfl h⟩, trivial⟩
      have one : ∀ i, i < len → ∃ ci di, W.cells? 0 (a.add (i * s1.length)) s1.length = some ci ∧ ConfC di s1 ∧ RepCells W (okW W) di ci := by
        intro i hi
        have h1 := hget i hi
        rw [List.getElem?_eq_getElem (by omega), hc.1] at h1
        cases hci : W.cells? 0 (a.add (i * s1.length)) s1.length with
        | none => rw [hci] at h1; simp at h1
        | some ci =>
          rw [hci] at h1
          simp only [Option.bind_some] at h1
          obtain ⟨di, c, _, r⟩ := trod_open n e s1 hs1 m ci _ h1
          exact ⟨ci, di, rfl, c, r⟩
      have all : ∀ k j, j + k = len → ∃ es : List (List D), es.length = k ∧ ConfE es s1 ∧ RepEs W (okW W) a (j * s1.length) es ∧ ∀ e ∈ es, e.length = s1.length := by
        intro k
        induction k with
        | zero => intro j _; exact ⟨[], rfl, trivial, trivial, fun e he => by cases he⟩
        | succ k ih =>
          intro j hj
          obtain ⟨ci, di, h1, h2, h3⟩ := one j (by omega)
          obtain ⟨es, e1, e2, e3, e4⟩ := ih (j + 1) (by omega)
          refine ⟨di :: es, by simp [e1], ⟨h2, e2⟩, ⟨cells_rep h1 h2.length h3, ?_⟩, fun e he => ?_⟩
          · rw [h2.length]
            rwa [Nat.add_mul, Nat.one_mul] at e3
          · rcases List.mem_cons.1 he with rfl | he
            · exact h2.length
            · exact e4 e he
      obtain ⟨es, e1, e2, e3, e4⟩ := all len 0 (by omega)
      refine ⟨[.sl es], ⟨e2, trivial⟩, rfl, ⟨some a, cap, s1.length, by rw [e1], by omega, e4, fun hne => ⟨a, rfl, ?_, by simpa using e3⟩⟩, trivial⟩
      have hlen : 0 < len := by
        rcases Nat.eq_zero_or_pos len with h0 | h0
        · exact absurd (List.length_eq_zero_iff.1 (by omega)) hne
        · exact h0
      obtain ⟨ci, di, h1, _, _⟩ := one 0 hlen
      unfold World.cells? at h1
      rw [if_pos (Nat.zero_le _)] at h1
      obtain ⟨h4, h5⟩ := mapM_get h1
      have h6 := h5 0 0 (by simp [hc.2])
      rw [List.getElem?_eq_getElem (by simp at h4; omega)] at h6
      have := block_lt h6
      rwa [add_block, add_block] at this
    case h_5 fs hu =>
      split at h
      case h_2 => cases h
      rename_i s1 hs1
      split at h
      case isFalse => cases h
      rename_i hc
      injection h with h; subst h
      obtain ⟨xs, m, rfl, _, hlen, hxl, hget⟩ := DataW.trod_struct hu ht
      obtain ⟨ds, c, r⟩ := fields_open (cs := cs) (m := m) (r := shapes P n) (fun t ss hs cs x hx => trod_open n t ss hs m cs x hx) fs.toList 0 s1 hs1 (by omega) (fun f hf => by
        obtain ⟨i, hi, rfl⟩ := List.getElem_of_mem hf
        have h1 := hget i _ (by simpa using Array.getElem?_eq_getElem (xs := fs) (i := i) (by simpa using hi))
        have hi' : i < xs.length := by simp at hi; omega
        rw [List.getElem?_eq_getElem hi'] at h1
        exact ⟨_, by simpa using h1⟩)
      refine ⟨ds, c, by omega, ?_⟩
      rw [List.drop_zero, List.take_of_length_le (by omega)] at r
      exact r
    case h_6 => cases h
theorem repVs_of {C : Ctx} {w : World} {ok : Nat → Prop} {γ : Nat → Value} : ∀ {ds : List D} {us : List Value}, ds.length = us.length → RepCells w ok ds us → RepVs C w ok γ (ds.map V.d) us ∧ ∀ u ∈ us, u.oneCell' = true
  | [], [], _, _ => ⟨rfl, fun u hu => by cases hu⟩
  | d :: ds, u :: us, hl, h => by
    obtain ⟨h1, h2⟩ := repVs_of (C := C) (γ := γ) (by simpa using hl) h.2
    refine ⟨⟨u, us, rfl, h.1, h1⟩, fun x hx => ?_⟩
    rcases List.mem_cons.1 hx with rfl | hx
    · exact h.1.one
    · exact h2 x hx
  | [], _ :: _, hl, _ => by simp at hl
  | _ :: _, [], hl, _ => by simp at hl
theorem arg_struct {C : Ctx} {γ : Nat → Value} {r : Reach} {base n : Nat} {t : TypeId} {fs : Array Field} {ss : List Sh} {v : Value} {d : DataW H} {ps : List MemPlace} (hu : P.underlying t = some (.struct fs)) (hs : shapes P n t = some ss)
    (hv : Value.okWide P W r base t v) (h : DataW.Trod enc P W 0 spare held t v d ps) : ∃ ds, ConfC ds ss ∧ RepV C W (okW W) γ (.agg (ds.map V.d)) v := by
  obtain ⟨cs, rfl, _⟩ := WideShapes.okWide_struct hu hv
  obtain ⟨fuel, hf⟩ := h
  obtain ⟨ds, c, hl, hr⟩ := trod_open n t ss hs fuel _ _ hf
  have e : (Value.agg cs).cells.toList = cs.toList := by simp [Value.cells]
  rw [e] at hl hr
  obtain ⟨h1, h2⟩ := repVs_of (C := C) (γ := γ) (by rw [c.length, hl]) hr
  exact ⟨ds, c, cs.toList, by simp, h1, h2⟩
theorem arg_cell {n : Nat} {t : TypeId} {s : Sh} {v : Value} {d : DataW H} {ps : List MemPlace} (hs : shapes P n t = some [s]) (hc : v.cells = #[v]) (h : DataW.Trod enc P W 0 spare held t v d ps) : ∃ x, Conf x s ∧ RepD W (okW W) x v := by
  obtain ⟨fuel, hf⟩ := h
  obtain ⟨ds, c, hl, hr⟩ := trod_open n t [s] hs fuel _ _ hf
  rw [hc] at hr
  match ds, c, hr with
  | [x], c, hr => exact ⟨x, c.1, hr.1⟩
end
theorem conf_str {d : D} (h : Conf d .str) : ∃ s, d = .str s := by
  cases d with
  | str s => exact ⟨s, rfl⟩
  | _ => exact h.elim
theorem confC_cons {ds : List D} {s : Sh} {ss : List Sh} (h : ConfC ds (s :: ss)) : ∃ d r, ds = d :: r ∧ Conf d s ∧ ConfC r ss := by
  cases ds with
  | nil => exact h.elim
  | cons d r => exact ⟨d, r, rfl, h.1, h.2⟩
theorem confC_nil {ds : List D} (h : ConfC ds []) : ds = [] := by
  cases ds with
  | nil => rfl
  | cons d r => exact h.elim
end Pay
end
/- Functions whose run is told by a contract over the program's own machine; a row that lists variables. -/
section
set_option linter.unusedSimpArgs false
set_option linter.unusedVariables false
namespace Pay
open Go
theorem SoundAt.of_calls {C : Ctx} {f : Nat} {vs : List V} {r : V} {us : List Value} {g : Func} (hg : C.P.funcs[C.φ f]? = some g) (hbody : g.body.isSome = true) (hname : (g.name != "runtime.NumGoroutine") = true)
    (hus : ∀ w ok γ us', RepVs C w ok γ vs us' → us' = us)
    (h : ∀ w, C.gi w → Calls C.P (C.φ f) ⟨us⟩ w (fun e w' => ∃ v, e = .returned v ∧ (∀ ok γ, RepV C w' ok γ r v) ∧ Go.RowKit.Below w.heap.size w w')) :
    SoundAt C f ⟨vs, looko []⟩ ⟨r, looko []⟩ := by
  intro w S M γ us' hp
  have e := hus _ _ _ _ hp.args
  subst e
  obtain ⟨c, hbody⟩ := Option.isSome_iff_exists.1 hbody
  have hrun : (callFunc (C.φ f) ⟨us'⟩).run C.P w = .ok (.enter (C.φ f) ⟨us'⟩) w := by
    simp only [bne_iff_ne, ne_eq] at hname
    simp [callFunc, hg, hname, hbody]
  unfold Enters
  rw [hrun]
  simp only
  refine Calls.mono (h w hp.env.gi) ?_
  rintro e w' ⟨v, rfl, hr, hb⟩
  refine ⟨γ, ⟨hr _ _, fun n x hx => ?_, fun n m x y g hx _ _ _ => ?_, fun n x g hx _ => ?_, ⟨hb.os, hb.tape, hb.output, hb.size, fun g hg _ => hb.block g hg⟩, fun n _ _ => rfl⟩⟩
  all_goals simp [looko] at hx
theorem tab_of_reads {P : Program} {W : World} {name : String} {k : IntKind} {zs : List Int} {g : Nat} {t e : TypeId} {n : Nat} (hg : P.globalNamed name = some g) (hty : (P.globals[g]?).map (·.type) = some t) (ht : P.underlying t = some (.array n e)) (he : P.underlying e = some (.int k)) (hce : P.cellsOf e = 1) (hct : P.cellsOf t = n)
    (h : Lib.VarReads P W name (Lib.tabData k zs)) : Lib.TabIs P W name k zs := by
  obtain ⟨g', t', cs, fuel, p, h1, h2, h3, h4⟩ := h
  obtain rfl := Option.some.inj (hg.symm.trans h1)
  obtain rfl := Option.some.inj (hty.symm.trans h2)
  have := Lib.cells_of_tab ht he hce hct h4
  obtain ⟨l⟩ := cs
  simp only at this
  subst this
  exact h3
theorem returns_laid {H : Type} {enc : TypeId × Value → H} {C : Checked} {os : Os} {f : FuncId} {fn : Func} {s : ChangeSpec} {apart fresh handsOn again : Bool} {X : World → Prop}
    (hX : ∀ w w' : World, w.heap = w'.heap → X w → X w')
    (own : ownKnob C.prog.godebug = none) (started : os.Started) (noInit : C.prog.inits.idxOf? f = none) (hfn : C.prog.funcs[f]? = some fn)
    (witness : ∃ (w : World) (tape : Tape) (i : Input), w.os = os ∧ (w.forCall tape i).Shaped C.prog ∧ i.vars = [] ∧ Input.okWide C.prog (w.forCall tape i) .any w.heap.size f i ∧
      ((s.pre enc C.prog fn [] apart (w.forCall tape i).memory i.args ∧ X (w.forCall tape i).memory) ∧ sizedMet enc C.prog fn (OpenSpec.ofChange s) apart (w.forCall tape i).memory i.args) ∧ ({} : Assume).holds C.prog (lone (Frame.enter C.prog f i.args .normal) [] (w.forCall tape i)))
    (contract : ∀ (W : World) (base : Nat) (args : Array Value) (ds gs : List (DataW H)) (before : List MemPlace),
      (∀ (j : Nat) t v, fn.params[j]? = some t → args[j]? = some v → Value.okWide C.prog W .any base t v) →
      DataW.Whole enc C.prog fn.params.toList s.vars apart W args.toList ds gs before → X W → W.ShapedOpen C.prog →
      Calls C.prog f args W fun e W' => ∃ v, e = .returned v ∧ s.post enc C.prog fn apart fresh handsOn again W args v W') :
    ReturnsInHanded {} C os f .any (fun w args => (s.pre enc C.prog fn [] apart w args ∧ X w) ∧ sizedMet enc C.prog fn (OpenSpec.ofChange s) apart w args) (s.post enc C.prog fn apart fresh handsOn again) := by
  refine returnsInHanded_of_calls own started noInit witness ?_
  intro w tape i _ hsh _ hok hpre _
  obtain ⟨_, _, _, fn', hfn', _, _, _, _, hval⟩ := hok
  obtain rfl : fn' = fn := Option.some.inj (hfn'.symm.trans hfn)
  obtain ⟨⟨⟨ds, gs, before, hw, _⟩, hx⟩, _⟩ := hpre
  refine (contract (w.forCall tape i) w.heap.size i.args ds gs before hval (DataW.Whole.of_heap (w' := w.forCall tape i) (by rfl) hw) (hX _ _ (by rfl) hx) hsh).mono fun e W' ⟨v, he, hp⟩ => ?_
  subst he
  exact ChangeSpec.post_blind hp
end Pay
end
/- A law whose contract says true: its row holds. -/
section
set_option linter.unusedSimpArgs false
set_option linter.unusedVariables false
namespace Pay
open Go Go.ChangeShapes Go.WideShapes Go.ChangeAt Go.RowKit
def argShape (P : Program) (n : Nat) (t : TypeId) : Option (Bool × List Sh) :=
  match P.underlying t with
  | some (.struct _) => (shapes P n t).map (fun ss => (true, ss))
  | some (.int _) | some .bool | some .string | some (.slice _) => (match shapes P n t with | some [s] => some (false, [s]) | _ => none)
  | _ => none
def argShapes (P : Program) (n : Nat) : List TypeId → Option (List (Bool × List Sh))
  | [] => some []
  | t :: ts => (match argShape P n t, argShapes P n ts with | some s, some ss => some (s :: ss) | _, _ => none)
def argV : Bool → List D → V
  | true, ds => .agg (ds.map .d)
  | false, [d] => .d d
  | false, _ => .undef
def argVs : List (Bool × List Sh) → List (List D) → List V
  | s :: ss, ds :: dss => argV s.1 ds :: argVs ss dss
  | _, _ => []
def ConfA : List (Bool × List Sh) → List (List D) → Prop
  | [], [] => True
  | s :: ss, ds :: dss => ConfC ds s.2 ∧ ConfA ss dss
  | _, _ => False
section
variable {H : Type} {enc : TypeId × Value → H} {P : Program} {W : World} {spare : Nat → Bool} {held : Bool}
theorem arg_open {C : Ctx} {γ : Nat → Value} {r : Reach} {base n : Nat} {t : TypeId} {s : Bool × List Sh} {v : Value} {d : DataW H} {ps : List MemPlace} (hs : argShape P n t = some s)
    (hv : Value.okWide P W r base t v) (h : DataW.Trod enc P W 0 spare held t v d ps) : ∃ ds, ConfC ds s.2 ∧ RepV C W (okW W) γ (argV s.1 ds) v := by
  have cell : ∀ s1, shapes P n t = some [s1] → s = (false, [s1]) → v.cells = #[v] → ∃ ds, ConfC ds s.2 ∧ RepV C W (okW W) γ (argV s.1 ds) v := by
    rintro s1 h1 rfl hc
    obtain ⟨x, c, hr⟩ := arg_cell h1 hc h
    exact ⟨[x], ⟨c, trivial⟩, hr⟩
  unfold argShape at hs
  split at hs
  · rename_i fs hu
    obtain ⟨ss, h1, rfl⟩ := Option.map_eq_some_iff.1 hs
    exact arg_struct hu h1 hv h
  · rename_i k hu
    split at hs
    · rename_i s1 h1
      obtain ⟨m, rfl⟩ := okWide_int hu hv
      exact cell s1 h1 (Option.some.inj hs).symm (by simp [Value.cells])
    · cases hs
  · rename_i hu
    split at hs
    · rename_i s1 h1
      obtain ⟨m, rfl⟩ := okWide_bool hu hv
      exact cell s1 h1 (Option.some.inj hs).symm (by simp [Value.cells])
    · cases hs
  · rename_i hu
    split at hs
    · rename_i s1 h1
      obtain ⟨m, rfl⟩ := okWide_string hu hv
      exact cell s1 h1 (Option.some.inj hs).symm (by simp [Value.cells])
    · cases hs
  · rename_i e hu
    split at hs
    · rename_i s1 h1
      obtain ⟨a, l, c, rfl⟩ := okWide_slice hu hv
      exact cell s1 h1 (Option.some.inj hs).symm (by simp [Value.cells])
    · cases hs
  · cases hs
theorem args_open {C : Ctx} {γ : Nat → Value} {r : Reach} {base n : Nat} : ∀ (ts : List TypeId) (vs : List Value) (ds : List (DataW H)) (ps : List MemPlace) (ss : List (Bool × List Sh)), argShapes P n ts = some ss →
    (∀ (j : Nat) t v, ts[j]? = some t → vs[j]? = some v → Value.okWide P W r base t v) → DataW.TrodAll enc P W 0 spare held ts vs ds ps → ds.length = ts.length ∧ ∃ dss, ConfA ss dss ∧ RepVs C W (okW W) γ (argVs ss dss) vs
  | [], vs, ds, ps, ss, hs, _, h => by
    simp only [argShapes, Option.some.injEq] at hs
    subst hs
    obtain ⟨rfl, rfl, _⟩ := trodAll_nil h
    exact ⟨rfl, [], trivial, rfl⟩
  | t :: ts, vs, ds, ps, ss, hs, hv, h => by
    simp only [argShapes] at hs
    split at hs
    case h_2 => cases hs
    rename_i s ss' h1 h2
    injection hs with hs
    subst hs
    obtain ⟨v, vs', d, ds', p, q, rfl, rfl, rfl, k1, k2⟩ := trodAll_cons h
    obtain ⟨x, c1, r1⟩ := arg_open (C := C) (γ := γ) h1 (hv 0 t v rfl rfl) k1
    obtain ⟨hl, xs, c2, r2⟩ := args_open (C := C) (γ := γ) ts vs' ds' q ss' h2 (fun j t v ht hv' => hv (j + 1) t v (by simpa using ht) (by simpa using hv')) k2
    exact ⟨by simp [hl], x :: xs, ⟨c1, c2⟩, v, vs', rfl, r1, r2⟩
theorem args_shut {W' : World} (hl : laidOutB P = true) (hb : Below W.heap.size W W') : ∀ (ts : List TypeId) (vs : List Value) (ds : List (DataW H)) (ps : List MemPlace), (ts.all fun t => P.readableRec t && decide (t < P.types.size)) = true →
    (∀ x ∈ ps, x.block < W.heap.size) → DataW.TrodAll enc P W 0 (fun _ => true) true ts vs ds ps → DataW.TrodAll enc P W' 0 (fun b => decide (b < W.heap.size)) true ts vs ds ps
  | [], vs, ds, ps, _, _, h => by
    obtain ⟨rfl, rfl, rfl⟩ := trodAll_nil h
    rfl
  | t :: ts, vs, ds, ps, ht, hp, h => by
    obtain ⟨v, vs', d, ds', p, q, rfl, rfl, rfl, k1, k2⟩ := trodAll_cons h
    simp only [List.all_cons, Bool.and_eq_true, decide_eq_true_eq] at ht
    exact ⟨p, q, Below.trod hl ht.1.1 ht.1.2 k1 hb (fun x hx => hp x (by simp [hx])), args_shut hl hb ts vs' ds' q (by simpa using ht.2) (fun x hx => hp x (by simp [hx])) k2, rfl⟩
end
theorem law_laid {H : Type} {enc : TypeId × Value → H} {K : Checked} {os : Os} {f : FuncId} {fn : Func} {s : ChangeSpec} (C : Ctx) (hP : C.P = K.prog) {X : World → Prop} {k n : Nat} {shs : List (Bool × List Sh)} {tb : TypeId}
    (hX : ∀ w w' : World, w.heap = w'.heap → X w → X w')
    (own : ownKnob K.prog.godebug = none) (started : os.Started) (noInit : K.prog.inits.idxOf? f = none) (hfn : K.prog.funcs[f]? = some fn)
    (witness : ∃ (w : World) (tape : Tape) (i : Input), w.os = os ∧ (w.forCall tape i).Shaped K.prog ∧ i.vars = [] ∧ Input.okWide K.prog (w.forCall tape i) .any w.heap.size f i ∧
      ((s.pre enc K.prog fn [] false (w.forCall tape i).memory i.args ∧ X (w.forCall tape i).memory) ∧ sizedMet enc K.prog fn (OpenSpec.ofChange s) false (w.forCall tape i).memory i.args) ∧ ({} : Assume).holds K.prog (lone (Frame.enter K.prog f i.args .normal) [] (w.forCall tape i)))
    (hl : laidOutB K.prog = true) (hts : (fn.params.toList.all fun t => K.prog.readableRec t && decide (t < K.prog.types.size)) = true) (hsh : argShapes K.prog n fn.params.toList = some shs)
    (hres : fn.resultTypes = #[tb]) (hb : K.prog.underlying tb = some .bool) (hvars : s.vars = [])
    (hspec : ∀ ds : List (DataW H), ds.length = fn.params.toList.length → s.fn H ds = { results := [.lit (.bool true)], args := ds })
    (hbody : fn.body.isSome = true) (hname : (fn.name != "runtime.NumGoroutine") = true)
    (hgi : ∀ W, X W → W.ShapedOpen K.prog → C.gi W ∧ C.base ≤ W.heap.size) (hf : C.φ k = f)
    (hS : ∀ dss, ConfA shs dss → SoundAt C k ⟨argVs shs dss, looko []⟩ ⟨.d (.bool true), looko []⟩) :
    ReturnsInHanded {} K os f .any (fun w args => (s.pre enc K.prog fn [] false w args ∧ X w) ∧ sizedMet enc K.prog fn (OpenSpec.ofChange s) false w args) (s.post enc K.prog fn false true false false) := by
  refine returns_laid hX own started noInit hfn witness ?_
  intro W base args ds gs before hval hW hx hso
  have hW' := hW
  obtain ⟨p, q, hA, hV, rfl, _, _⟩ := hW
  rw [hvars] at hV
  obtain ⟨rfl, rfl⟩ := trodVars_none hV
  obtain ⟨hg, hbase⟩ := hgi W hx hso
  obtain ⟨hlen, dss, hc, hr⟩ := args_open (C := C) (γ := fun _ => undef) (r := .any) (base := base) (n := n) fn.params.toList args.toList ds p shs hsh (fun j t v ht hv => hval j t v (by simpa using ht) (by simpa using hv)) hA
  have hsp := hspec ds hlen
  have hlt : ∀ x ∈ p, x.block < W.heap.size := fun x hx => hW'.lt x (by simp [hx])
  subst hf
  have hcalls := SoundAt.calls (C := C) (hS dss hc) (g := fn) (by rw [hP]; exact hfn) hbody hname hg hbase (us := args.toList) hr
  rw [hP] at hcalls
  have ha : (⟨args.toList⟩ : Array Value) = args := by cases args; rfl
  rw [ha] at hcalls
  refine hcalls.mono fun e W' ⟨he, hg⟩ => ?_
  subst he
  have hs2 : s.fn H (ds ++ []) = { results := [.lit (.bool true)], args := ds } := by rw [List.append_nil]; exact hsp
  have e2 : fn.resultTypes.toList = [tb] := by rw [hres]
  have e3 : (Value.bool true).resultList fn.resultTypes.size = [.bool true] := by rw [hres]; rfl
  refine ⟨_, rfl, ds, [], p ++ [], [], p, [], hW', ?_, ?_, ?_, hg.frame _, fun h => by cases h⟩
  · rw [hs2, e2, e3]
    exact trodAll_mk1 (shut_bool hb true)
  · rw [hs2]
    exact args_shut hl hg fn.params.toList args.toList ds p hts hlt hA
  · rw [hs2, hvars]
    rfl
theorem confA_nil {dss : List (List D)} (h : ConfA [] dss) : dss = [] := by
  cases dss with
  | nil => rfl
  | cons _ _ => exact h.elim
theorem confA_cons {s : Bool × List Sh} {ss : List (Bool × List Sh)} {dss : List (List D)} (h : ConfA (s :: ss) dss) : ∃ ds r, dss = ds :: r ∧ ConfC ds s.2 ∧ ConfA ss r := by
  cases dss with
  | nil => exact h.elim
  | cons ds r => exact ⟨ds, r, rfl, h.1, h.2⟩
theorem confA_str {ss : List (Bool × List Sh)} {dss : List (List D)} (h : ConfA ((false, [.str]) :: ss) dss) : ∃ s r, dss = [.str s] :: r ∧ s.length ≤ maxLen ∧ ConfA ss r := by
  obtain ⟨ds, r, rfl, h1, h2⟩ := confA_cons h
  obtain ⟨d, r', rfl, h3, h4⟩ := confC_cons h1
  obtain rfl := confC_nil h4
  obtain ⟨s, rfl⟩ := conf_str h3
  exact ⟨s, r, rfl, h3, h2⟩
end Pay
end
/- Calls that are handed objects; ends with objects. -/
section
set_option linter.unusedSimpArgs false
set_option linter.unusedVariables false
namespace Pay
open Go
section
variable {C : Ctx} {I : Nat → Prop} {st : St} {dst : Option Nat}
def objsIn : List (Nat × Ob) → (Nat → Option Ob) → Prop
  | [], _ => True
  | (k, v) :: l, o => o k = some v ∧ objsIn l o
abbrev oL (l : List (Nat × Ob)) : List (Nat × Option Ob) := l.map fun p => (p.1, some p.2)
theorem objsIn_get : ∀ {l : List (Nat × Ob)} {o : Nat → Option Ob}, objsIn l o → ∀ n x, looko (oL l) n = some x → o n = some x
  | [], _, _, n, x, h => by simp [looko] at h
  | (k, v) :: l, o, hs, n, x, h => by
    simp only [oL, List.map_cons, looko] at h
    split at h
    · rename_i e; subst e; rw [← h]; exact hs.1
    · exact objsIn_get hs.2 n x h
def updL (o : Nat → Option Ob) : List (Nat × Ob) → Nat → Option Ob
  | [] => o
  | (k, v) :: l => upd (updL o l) k (some v)
theorem updL_get (o : Nat → Option Ob) : ∀ (l : List (Nat × Ob)) (n : Nat), updL o l n = match looko (oL l) n with | some x => some x | none => o n
  | [], n => rfl
  | (k, v) :: l, n => by
    simp only [updL, oL, List.map_cons, looko, upd]
    split
    · rfl
    · exact updL_get o l n
theorem objs_isSome {l l' : List (Nat × Ob)} (h : l.map (·.1) = l'.map (·.1)) (n : Nat) : (looko (oL l) n).isSome = (looko (oL l') n).isSome := by
  induction l generalizing l' with
  | nil => cases l' with | nil => rfl | cons _ _ => cases h
  | cons p l ih =>
    cases l' with
    | nil => cases h
    | cons q l' =>
      simp only [List.map_cons, List.cons.injEq] at h
      simp only [oL, List.map_cons, looko, h.1]
      split
      · rfl
      · exact ih h.2
def refsIn (l : List (Nat × Ob)) : Prop := ∀ p ∈ l, ∀ m, p.2.refs m = true → (looko (oL l) m).isSome = true
theorem looko_memL : ∀ {l : List (Nat × Ob)} {n : Nat} {x : Ob}, looko (oL l) n = some x → ∃ p ∈ l, p.2 = x
  | [], n, x, h => by simp [looko] at h
  | (k, v) :: l, n, x, h => by
    simp only [oL, List.map_cons, looko] at h
    split at h
    · injection h with h; exact ⟨_, List.mem_cons_self .., h⟩
    · obtain ⟨p, hp, e⟩ := looko_memL h; exact ⟨p, List.mem_cons_of_mem _ hp, e⟩
theorem callKX_objs {f : Nat} {X : Nat → Prop} {xs : List V} {F : V → (Nat → Option Ob) → Prop} {r : V} (l l' : List (Nat × Ob)) (hlo : ∀ n, X n → ¬ I n ∧ (∀ t, dst ≠ some t → V.refs n (st.s t) = false) ∧ ∀ m x, (looko (oL l) m).isSome = false → st.o m = some x → x.refs n = false) (ho : objsIn l st.o) (hn : l.map (·.1) = l'.map (·.1)) (hrf : refsIn l')
    (h : SoundX C f X ⟨xs, looko (oL l)⟩ ⟨r, looko (oL l')⟩) (hr : ∀ n, V.refs n r = true → (looko (oL l') n).isSome = true) (hK : F r (updL st.o l')) : callK C I st dst f xs F := by
  have hs := objs_isSome hn
  have e1 : exO (fun n => (looko (oL l) n).isSome) st.o = looko (oL l) := by
    funext n
    simp only [exO]
    split
    · rename_i h
      obtain ⟨x, hx⟩ := Option.isSome_iff_exists.1 h
      rw [hx, objsIn_get ho n x hx]
    · rename_i h
      rw [Option.not_isSome_iff_eq_none] at h
      exact h.symm
  have e2 : mixO (fun n => (looko (oL l) n).isSome) st.o (looko (oL l')) = updL st.o l' := by
    funext n
    rw [updL_get]
    simp only [mixO]
    have hs := hs n
    cases hx : looko (oL l') n with
    | none =>
      rw [hx] at hs
      simp only [Option.isSome_none] at hs
      rw [Option.isSome_eq_false_iff, Option.isNone_iff_eq_none] at hs
      simp [hs]
    | some x => rfl
  refine ⟨fun n => (looko (oL l) n).isSome, X, ⟨r, looko (oL l')⟩, by rw [e1]; exact h, ⟨fun n hn => .inl ?_, fun n hn => .inl ?_, fun n x hx m hm => .inl ?_, fun n h1 h2 h3 => hlo n h1⟩, by rw [e2]; exact hK⟩
  · have h1 : (looko (oL l') n).isSome = true := Option.isSome_iff_ne_none.2 hn
    have h2 := hs n
    rw [h1] at h2
    refine ⟨h2, ?_⟩
    cases hx : looko (oL l) n with
    | none => rw [hx] at h2; cases h2
    | some x => rw [objsIn_get ho n x hx]; simp
  · exact Option.isSome_iff_ne_none.1 (hr n hn)
  · obtain ⟨p, hp, rfl⟩ := looko_memL hx
    exact Option.isSome_iff_ne_none.1 (hrf p hp m hm)
theorem callK_objs {f : Nat} {xs : List V} {F : V → (Nat → Option Ob) → Prop} {r : V} (l l' : List (Nat × Ob)) (ho : objsIn l st.o) (hn : l.map (·.1) = l'.map (·.1)) (hrf : refsIn l')
    (h : SoundAt C f ⟨xs, looko (oL l)⟩ ⟨r, looko (oL l')⟩) (hr : ∀ n, V.refs n r = true → (looko (oL l') n).isSome = true) (hK : F r (updL st.o l')) : callK C I st dst f xs F :=
  callKX_objs l l' (fun n h => h.elim) ho hn hrf h hr hK
def freshOE (ns : List Nat) (nm : Nat) : List (Nat × Option Ob) → Bool
  | [] => true
  | (k, none) :: m => freshOE ns nm m
  | (k, some x) :: m => (ns.contains k || !x.refs nm) && freshOE ns nm m
theorem freshOE_get {ns : List Nat} {nm : Nat} : ∀ {m : List (Nat × Option Ob)}, freshOE ns nm m = true → ∀ k x, ns.contains k = false → looko m k = some x → x.refs nm = false
  | [], _, k, x, _, h => by simp [looko] at h
  | (j, none) :: m, hf, k, x, hk, h => by
    simp only [looko] at h
    split at h
    · cases h
    · exact freshOE_get (m := m) hf k x hk h
  | (j, some y) :: m, hf, k, x, hk, h => by
    simp only [freshOE, Bool.and_eq_true, Bool.or_eq_true, Bool.not_eq_true'] at hf
    simp only [looko] at h
    split at h
    · rename_i e
      subst e
      injection h with h
      subst h
      rcases hf.1 with h | h
      · rw [hk] at h; cases h
      · exact h
    · exact freshOE_get hf.2 k x hk h
theorem oL_names : ∀ (l : List (Nat × Ob)) (n : Nat), (looko (oL l) n).isSome = (l.map (·.1)).contains n
  | [], n => rfl
  | (k, v) :: l, n => by
    have ih := oL_names l n
    simp only [oL, List.map_cons, looko, List.contains_cons] at ih ⊢
    split
    · rename_i e; subst e; simp
    · rename_i e
      rw [ih]
      simp [e]
theorem lo_lists {ls : List (Nat × V)} {m : List (Nat × Option Ob)} {l : List (Nat × Ob)} {n : Nat} (h1 : freshS n dst ls = true) (h2 : freshOE (l.map (·.1)) n m = true) :
    (∀ t, dst ≠ some t → V.refs n ((St.mk (look ls) (looko m)).s t) = false) ∧ ∀ k x, (looko (oL l) k).isSome = false → (St.mk (look ls) (looko m)).o k = some x → x.refs n = false := by
  refine ⟨(fresh_mk (m := []) (l := ls) (nm := n) (dst := dst) h1 rfl).1, fun k x hk hx => ?_⟩
  rw [oL_names] at hk
  exact freshOE_get h2 k x hk hx
theorem freshOE_nil (ns : List Nat) (nm : Nat) : freshOE ns nm [] = true := rfl
theorem freshOE_none (ns : List Nat) (nm k : Nat) (m : List (Nat × Option Ob)) : freshOE ns nm ((k, none) :: m) = freshOE ns nm m := rfl
theorem freshOE_some (ns : List Nat) (nm k : Nat) (x : Ob) (m : List (Nat × Option Ob)) : freshOE ns nm ((k, some x) :: m) = ((ns.contains k || !x.refs nm) && freshOE ns nm m) := rfl
theorem SoundX.of_run {C : Ctx} {fn : AFn} {f N : Nat} {res : List ARes} {own : List (Nat × Nat × Nat)} {frz : List Nat} {code : ACode} (hk : okFn C.P C.φ f fn = true) (hfn : fn = ⟨N, res, own, frz, code⟩) {cin : CS} {cout : RS} {X : Nat → Prop} (I : Nat → Prop) (hX : ∀ n, cin.o n ≠ none → ¬ X n → I n)
    (h : ∀ Q : Ex → St → Prop, (∀ st, EndsA I own frz res st cout → Q .ret st) → (∀ st, EndsA I own frz res st cout → Q .normal st) → wpB C I code cin.entry Q) : SoundX C f X cin cout := by
  subst hfn
  exact SoundX.of_code hk hX (wpB_A (h _ (fun _ h => ⟨.inl rfl, h⟩) (fun _ h => ⟨.inr rfl, h⟩)))
theorem SoundX.mono {C : Ctx} {f : Nat} {X X' : Nat → Prop} {cin : CS} {cout : RS} (h : SoundX C f X cin cout) (hX : ∀ n, X n → X' n) : SoundX C f X' cin cout := by
  intro w S M γ us hp
  exact Enters.mono (h w S M γ us hp) (fun v w' ⟨γ', q⟩ => ⟨γ', ⟨q.res, q.objs, q.sep, q.muts, q.fram, fun n h1 h2 => q.hdr n h1 (fun h => h2 (hX n h))⟩⟩)
theorem SoundX.freeze {C : Ctx} {f : Nat} {X : Nat → Prop} {cin : CS} {m sz : Nat} {es : List (List D)} (h : SoundX C f X cin ⟨.own m, looko [(m, some (.row sz es))]⟩) : SoundX C f X cin ⟨.d (.sl es), looko []⟩ := by
  intro w S M γ us hp
  refine Enters.mono (h w S M γ us hp) ?_
  rintro v w' ⟨γ', hq⟩
  have hm : looko [(m, some (Ob.row sz es))] m = some (.row sz es) := by simp [looko]
  have hok : ∀ g, okOf w S γ' (looko [(m, some (.row sz es))]) w' g → w'.heap[g]? = w'.heap[g]? ∧ okOf w S γ' (looko []) w' g := fun g hg => ⟨rfl, hg.1, hg.2.1, fun n x hx => by simp [looko] at hx⟩
  have hrep : RepD w' (okOf w S γ' (looko []) w') (.sl es) (γ' m) := by
    have hblt : ∀ g, blk (γ' m) = some g → okOf w S γ' (looko []) w' g := fun g hg =>
      ⟨by
        rcases hq.muts m _ g hm hg with h | h
        · exact .inl (hp.env.ms g h)
        · exact .inr h, blk_lt (hq.objs m _ hm) hg, fun n x hx => by simp [looko] at hx⟩
    rcases hq.objs m _ hm with ⟨rfl, A, h⟩ | ⟨g, cap, us, bt, h, hcp, hg, hlc, hcm, hul, hes, hrc, hone⟩
    · rw [h]
      exact ⟨A, 0, 0, rfl, Nat.le_refl _, by simp, fun h => absurd rfl h⟩
    · have hb := hblt g (by rw [h]; simp [blk]; omega)
      rw [h]
      exact new_sl hg hb hlc hes (hrc.mono hok)
  refine ⟨γ', ⟨?_, fun n x hx => by simp [looko] at hx, fun n m x y g hx => by simp [looko] at hx, fun n x g hx => by simp [looko] at hx, hq.fram, hq.hdr⟩⟩
  obtain ⟨h1, _⟩ := hq.res
  rw [h1]
  exact hrep
theorem SoundX.own_cell {C : Ctx} {f : Nat} {X : Nat → Prop} {vs : List V} {o : Nat → Option Ob} {cout : RS} {n k nm sz : Nat} {cs : List V} (hbox : o n = some (.box cs)) (hk : cs[k]? = some .cap0) (hnm : o nm = none)
    (hv : V.refsL nm vs = false) (ho : ∀ m x, o m = some x → x.refs nm = false)
    (h : SoundX C f X ⟨vs, upd (upd o n (some (.box (cs.set k (.own nm))))) nm (some (.row sz []))⟩ cout) : SoundX C f X ⟨vs, o⟩ cout := by
  intro w S M γ us hp
  have hne : n ≠ nm := fun e => by rw [← e, hbox] at hnm; cases hnm
  obtain ⟨g, bs, ty, e1, e2, e3, e4⟩ := hp.objs n _ hbox
  obtain ⟨u, hu, A, rfl⟩ : ∃ u, bs[k]? = some u ∧ ∃ A, u = .slice A 0 0 := by
    obtain ⟨u, hu, hr⟩ := e3.get k _ hk
    exact ⟨u, hu, hr⟩
  have hγ : ∀ m, m ≠ nm → upd γ nm (.slice A 0 0) m = γ m := fun m hm => upd_other _ _ hm
  have hob : ∀ m x, upd (upd o n (some (.box (cs.set k (.own nm))))) nm (some (.row sz [])) m = some x → (m = nm ∧ x = .row sz []) ∨ (m = n ∧ x = .box (cs.set k (.own nm))) ∨ (m ≠ nm ∧ m ≠ n ∧ o m = some x) := by
    intro m x hx
    by_cases h1 : m = nm
    · subst h1; rw [upd_same] at hx; injection hx with hx; exact .inl ⟨rfl, hx.symm⟩
    · rw [upd_other _ _ h1] at hx
      by_cases h2 : m = n
      · subst h2; rw [upd_same] at hx; injection hx with hx; exact .inr (.inl ⟨rfl, hx.symm⟩)
      · rw [upd_other _ _ h2] at hx; exact .inr (.inr ⟨h1, h2, hx⟩)
  have hblk : blk (upd γ nm (.slice A 0 0) nm) = none := by rw [upd_same]; cases A <;> rfl
  have hok : ∀ g, okOf w S γ o w g → w.heap[g]? = w.heap[g]? ∧ okOf w S (upd γ nm (.slice A 0 0)) (upd (upd o n (some (.box (cs.set k (.own nm))))) nm (some (.row sz []))) w g := by
    intro g hg
    refine ⟨rfl, hg.1, hg.2.1, fun m x hx => ?_⟩
    rcases hob m x hx with ⟨rfl, _⟩ | ⟨rfl, _⟩ | ⟨h1, h2, h3⟩
    · rw [hblk]; simp
    · rw [hγ _ hne]; exact hg.2.2 m _ hbox
    · rw [hγ _ h1]; exact hg.2.2 m x h3
  have hset : ∀ (ok : Nat → Prop) (γ' : Nat → Value) (cs : List V) (bs : List Value) (k : Nat), RepVs C w ok γ' cs bs → γ' nm = .slice A 0 0 → bs[k]? = some (.slice A 0 0) → RepVs C w ok γ' (cs.set k (.own nm)) bs := by
    intro ok γ' cs
    induction cs with
    | nil => intro bs k h _ _; exact h
    | cons c cs ih =>
      intro bs k h hn hb
      obtain ⟨u, us, rfl, r1, r2⟩ := h
      cases k with
      | zero =>
        simp only [List.getElem?_cons_zero, Option.some.injEq] at hb
        subst hb
        exact ⟨_, us, rfl, ⟨hn.symm, rfl⟩, r2⟩
      | succ k => exact ⟨u, us, rfl, r1, ih us k r2 hn (by simpa using hb)⟩
  have hpre : Pre C w S M (upd γ nm (.slice A 0 0)) ⟨vs, upd (upd o n (some (.box (cs.set k (.own nm))))) nm (some (.row sz []))⟩ us := by
    refine ⟨hp.env, RepVs.mono hok _ _ (fun m hm => hγ m (fun e => by rw [e, hv] at hm; cases hm)) hp.args, fun m x hx => ?_, fun m m' x y g hx hy hm hm' => ?_, fun m x g hx hg => ?_⟩
    · rcases hob m x hx with ⟨rfl, rfl⟩ | ⟨rfl, rfl⟩ | ⟨h1, h2, h3⟩
      · exact .inl ⟨rfl, A, upd_same _ _ _⟩
      · have := ho m _ hbox
        simp only [Ob.refs] at this
        rw [hγ _ hne]
        refine ⟨g, bs, ty, e1, e2, hset _ _ cs bs k (RepVs.mono hok _ _ (fun j hj => hγ j (fun e => by rw [e, this] at hj; cases hj)) e3) (upd_same _ _ _) hu, e4⟩
      · rw [hγ _ h1]
        exact RepO.mono hok (fun j hj => hγ j (fun e => by rw [e, ho m x h3] at hj; cases hj)) (fun _ _ => rfl) (hp.objs m x h3)
    · have key : ∀ m x, upd (upd o n (some (.box (cs.set k (.own nm))))) nm (some (.row sz [])) m = some x → blk (upd γ nm (.slice A 0 0) m) = some g → m ≠ nm ∧ (∃ x, o m = some x) ∧ blk (γ m) = some g := by
        intro m x hx hm
        have h1 : m ≠ nm := fun e => by rw [e, hblk] at hm; cases hm
        rw [hγ _ h1] at hm
        rcases hob m x hx with ⟨h, _⟩ | ⟨rfl, _⟩ | ⟨_, _, h3⟩
        · exact absurd h h1
        · exact ⟨h1, ⟨_, hbox⟩, hm⟩
        · exact ⟨h1, ⟨_, h3⟩, hm⟩
      obtain ⟨_, ⟨x', hx'⟩, k1⟩ := key m x hx hm
      obtain ⟨_, ⟨y', hy'⟩, k2⟩ := key m' y hy hm'
      exact hp.sep m m' x' y' g hx' hy' k1 k2
    · have h1 : m ≠ nm := fun e => by rw [e, hblk] at hg; cases hg
      rw [hγ _ h1] at hg
      rcases hob m x hx with ⟨h, _⟩ | ⟨rfl, _⟩ | ⟨_, _, h3⟩
      · exact absurd h h1
      · exact hp.muts m _ g hbox hg
      · exact hp.muts m x g h3 hg
  refine Enters.mono (h w S M _ us hpre) ?_
  rintro v w' ⟨γ', q⟩
  refine ⟨γ', ⟨q.res, q.objs, q.sep, q.muts, q.fram, fun m hm hx => ?_⟩⟩
  have h1 : m ≠ nm := fun e => hm (by rw [e]; exact hnm)
  rw [q.hdr m (by
    show upd (upd o n (some (.box (cs.set k (.own nm))))) nm (some (.row sz [])) m ≠ none
    rw [upd_other _ _ h1]
    by_cases h2 : m = n
    · subst h2; rw [upd_same]; simp
    · rw [upd_other _ _ h2]; exact hm) hx, hγ _ h1]
theorem callKX_new {C : Ctx} {I : Nat → Prop} {st : St} {dst : Option Nat} {f : Nat} {X : Nat → Prop} {xs : List V} {F : V → (Nat → Option Ob) → Prop} {r : V} (l l' : List (Nat × Ob)) (hlo : ∀ n, X n → (looko (oL l) n).isSome = true → ¬ I n ∧ (∀ t, dst ≠ some t → V.refs n (st.s t) = false) ∧ ∀ m x, (looko (oL l) m).isSome = false → st.o m = some x → x.refs n = false) (ho : objsIn l st.o)
    (hsub : ∀ n, (looko (oL l) n).isSome = true → (looko (oL l') n).isSome = true) (hnew : ∀ n, (looko (oL l') n).isSome = true → (looko (oL l) n).isSome = false → ¬ I n ∧ Fresh st n dst) (hrf : refsIn l')
    (h : SoundX C f X ⟨xs, looko (oL l)⟩ ⟨r, looko (oL l')⟩) (hr : ∀ n, V.refs n r = true → (looko (oL l') n).isSome = true) (hK : F r (updL st.o l')) : callK C I st dst f xs F := by
  have e1 : exO (fun n => (looko (oL l) n).isSome) st.o = looko (oL l) := by
    funext n
    simp only [exO]
    split
    · rename_i h
      obtain ⟨x, hx⟩ := Option.isSome_iff_exists.1 h
      rw [hx, objsIn_get ho n x hx]
    · rename_i h
      rw [Option.not_isSome_iff_eq_none] at h
      exact h.symm
  have e2 : mixO (fun n => (looko (oL l) n).isSome) st.o (looko (oL l')) = updL st.o l' := by
    funext n
    rw [updL_get]
    simp only [mixO]
    cases hx : looko (oL l') n with
    | none =>
      have hs : (looko (oL l) n).isSome = false := by
        cases hy : (looko (oL l) n).isSome with
        | false => rfl
        | true => have := hsub n hy; rw [hx] at this; cases this
      rw [Option.isSome_eq_false_iff, Option.isNone_iff_eq_none] at hs
      simp [hs]
    | some x => rfl
  have hst : ∀ n, (looko (oL l) n).isSome = true → st.o n ≠ none := fun n hn => by
    obtain ⟨x, hx⟩ := Option.isSome_iff_exists.1 hn
    rw [objsIn_get ho n x hx]; simp
  refine ⟨fun n => (looko (oL l) n).isSome, X, ⟨r, looko (oL l')⟩, by rw [e1]; exact h, ⟨fun n hn => ?_, fun n hn => .inl ?_, fun n x hx m hm => .inl ?_, fun n h1 h2 h3 => hlo n h1 h2⟩, by rw [e2]; exact hK⟩
  · have h1 : (looko (oL l') n).isSome = true := Option.isSome_iff_ne_none.2 hn
    cases hy : (looko (oL l) n).isSome with
    | true => exact .inl ⟨rfl, hst n hy⟩
    | false => exact .inr (hnew n h1 hy)
  · exact Option.isSome_iff_ne_none.1 (hr n hn)
  · obtain ⟨p, hp, rfl⟩ := looko_memL hx
    exact Option.isSome_iff_ne_none.1 (hrf p hp m hm)
theorem ends_objs {frz : List Nat} {res : List ARes} {r : V} {l : List (Nat × Ob)} (h : frzK st frz (fun st => lstK (resVs st res) (fun vs => r = tupV vs ∧ objsIn l st.o))) : EndsA I [] frz res st ⟨r, looko (oL l)⟩ := by
  have h : lstK (resVs (st.frz frz) res) (fun vs => r = tupV vs ∧ objsIn l (st.frz frz).o) := h
  rw [← lst_ex] at h
  obtain ⟨vs, h1, h2, h3⟩ := h
  exact ⟨vs, h1, h2, objsIn_get h3⟩
theorem objsIn_nil (o : Nat → Option Ob) : objsIn [] o = True := rfl
theorem objsIn_cons (k : Nat) (v : Ob) (l : List (Nat × Ob)) (o : Nat → Option Ob) : objsIn ((k, v) :: l) o = (o k = some v ∧ objsIn l o) := rfl
theorem updL_nil (o : Nat → Option Ob) : updL o [] = o := rfl
theorem updL_cons (o : Nat → Option Ob) (k : Nat) (v : Ob) (l : List (Nat × Ob)) : updL o ((k, v) :: l) = upd (updL o l) k (some v) := rfl
theorem thawO_eq (n : Nat) (es : List (List D)) (k : Nat) (x : Option Ob) : thawO n es (k, x) = (k, if k = n then none else x.map (Ob.thaw n es)) := rfl
end
attribute [go_sem] thawO_eq freshOE_nil freshOE_none freshOE_some List.contains_cons List.contains_nil objsIn_nil objsIn_cons updL_nil updL_cons
end Pay
end
