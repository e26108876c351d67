import Derived.Test.YtbhjimflcfnpaaaGreatDoorChecked
import Derived.Shelf.Lays
import Derived.Shelf.LaysM
import Derived.Shelf.LaysC
import Derived.KernelRfl
import Derived.Test.YtbhjimflcfnpaaaGreatDoorK11
import Derived.Test.YtbhjimflcfnpaaaGreatDoorK10
import Derived.Shelf.Strings.Search3
import Derived.Shelf.Strings.Count
import Derived.Shelf.Strings.Trim
import Derived.Shelf.Strconv.Itoa3
import Derived.Shelf.Strconv.AtoiAll
import Derived.Test.YtbhjimflcfnpaaaGreatDoorProg
import Derived.WalkKit
import Derived.WalkSpells
import Derived.Laws.RangeString
import Derived.Laws.RangeAny
import Derived.Lib.Bytealg
import Derived.Lib.ItoaNum
import Derived.Lib.Join
set_option linter.all false
-- Printed by genlays.py.
set_option linter.all false
namespace Go.Proofs.YtbhjimflcfnpaaaGreatDoor
open Go Go.Proofs Go.Shelf

def ren_f : Nat → Nat
  | 0 => 0
  | 1 => 1
  | 2 => 2
  | 119 => 134
  | 120 => 98
  | 129 => 164
  | 137 => 133
  | 138 => 160
  | 143 => 56
  | 145 => 18
  | 146 => 99
  | 151 => 59
  | 152 => 97
  | 160 => 19
  | 171 => 39
  | 172 => 38
  | 177 => 53
  | 195 => 174
  | 197 => 55
  | 205 => 138
  | 217 => 93
  | 218 => 175
  | 219 => 57
  | 220 => 29
  | 221 => 135
  | 224 => 95
  | 225 => 94
  | 227 => 32
  | 228 => 58
  | 231 => 30
  | 232 => 31
  | 233 => 33
  | 234 => 34
  | 235 => 35
  | 236 => 36
  | 242 => 173
  | 243 => 65
  | 244 => 63
  | 245 => 64
  | 246 => 105
  | 247 => 100
  | 250 => 91
  | 260 => 92
  | 266 => 131
  | 267 => 96
  | 268 => 159
  | 271 => 60
  | 278 => 181
  | 279 => 101
  | 280 => 102
  | 281 => 103
  | 282 => 104
  | 283 => 139
  | 284 => 140
  | 285 => 141
  | 286 => 142
  | 287 => 136
  | 289 => 130
  | 314 => 132
  | 316 => 137
  | 317 => 163
  | 318 => 165
  | 319 => 166
  | 320 => 167
  | 321 => 161
  | 322 => 162
  | 323 => 158
  | 337 => 176
  | 338 => 177
  | 339 => 171
  | 340 => 172
  | 345 => 179
  | 346 => 180
  | 347 => 182
  | 348 => 183
  | 349 => 184
  | 350 => 185
  | 351 => 186
  | 352 => 187
  | 353 => 188
  | 354 => 189
  | 355 => 190
  | 356 => 191
  | 357 => 192
  | 358 => 193
  | 359 => 194
  | 360 => 195
  | 361 => 196
  | 363 => 200
  | 364 => 197
  | 365 => 198
  | 366 => 201
  | 367 => 216
  | n => n + 100000
def ren_t : Nat → Nat
  | 0 => 0
  | 1 => 1
  | 2 => 2
  | 3 => 3
  | 4 => 4
  | 5 => 5
  | 6 => 6
  | 7 => 7
  | 8 => 8
  | 9 => 9
  | 10 => 10
  | 11 => 11
  | 12 => 12
  | 13 => 13
  | 14 => 14
  | 15 => 15
  | 16 => 16
  | 17 => 17
  | 18 => 18
  | 19 => 19
  | 20 => 20
  | 21 => 21
  | 22 => 85
  | 23 => 81
  | 27 => 132
  | 28 => 140
  | 31 => 22
  | 37 => 33
  | 40 => 229
  | 41 => 133
  | 46 => 182
  | 47 => 265
  | 49 => 51
  | 51 => 55
  | 52 => 270
  | 53 => 54
  | 54 => 237
  | 55 => 180
  | 59 => 79
  | 60 => 80
  | 61 => 184
  | 63 => 134
  | 64 => 183
  | 69 => 113
  | 74 => 107
  | 75 => 108
  | 76 => 109
  | 77 => 110
  | 80 => 278
  | 81 => 161
  | 83 => 112
  | 84 => 191
  | 85 => 186
  | 86 => 187
  | 99 => 88
  | 102 => 89
  | 103 => 269
  | 104 => 40
  | 105 => 130
  | 106 => 131
  | 108 => 235
  | 111 => 264
  | 113 => 230
  | 114 => 181
  | 115 => 99
  | 116 => 100
  | 117 => 101
  | 118 => 102
  | 119 => 223
  | 122 => 98
  | 123 => 103
  | 124 => 104
  | 126 => 268
  | 127 => 257
  | 128 => 139
  | 129 => 179
  | 131 => 137
  | 137 => 224
  | 138 => 225
  | 139 => 226
  | 143 => 258
  | 144 => 259
  | 145 => 260
  | 146 => 227
  | 150 => 255
  | 151 => 228
  | 164 => 292
  | 167 => 185
  | 168 => 188
  | 169 => 189
  | 170 => 190
  | 171 => 236
  | 172 => 238
  | 173 => 239
  | 174 => 240
  | 175 => 231
  | 176 => 232
  | 178 => 222
  | 209 => 233
  | 210 => 234
  | 211 => 261
  | 212 => 262
  | 213 => 263
  | 214 => 256
  | 215 => 254
  | 232 => 276
  | 233 => 277
  | 234 => 272
  | 235 => 273
  | 236 => 274
  | 237 => 275
  | 238 => 279
  | 239 => 280
  | 240 => 281
  | 241 => 282
  | 242 => 283
  | 243 => 284
  | 244 => 285
  | 245 => 286
  | 246 => 287
  | 247 => 288
  | 248 => 289
  | 249 => 290
  | n => n + 100000
def ren_g : Nat → Nat
  | 1 => 0
  | 3 => 1
  | 4 => 2
  | 15 => 3
  | 16 => 4
  | 17 => 5
  | 18 => 11
  | 19 => 12
  | 20 => 6
  | 21 => 7
  | 22 => 8
  | 23 => 9
  | 24 => 10
  | n => n + 100000
def ren : Ren := ⟨ren_f, ren_t, ren_g⟩
set_option maxRecDepth 100000 in
theorem lays219 : Lays.n219 Tryz.prog ren where
  mixed := (by kernel_rfl)
  f217 := (by kernel_rfl)
  f219 := (by kernel_rfl)
  f224 := (by kernel_rfl)
  f225 := (by kernel_rfl)
  f266 := (by kernel_rfl)
  f267 := (by kernel_rfl)
  f314 := (by kernel_rfl)
  t3 := (by kernel_rfl)
  a3 := (fun _ => by kernel_rfl)
  z3 := (fun _ => by kernel_rfl)
  v3 := (fun _ => by kernel_rfl)
  t4 := (by kernel_rfl)
  a4 := (fun _ => by kernel_rfl)
  z4 := (fun _ => by kernel_rfl)
  v4 := (fun _ => by kernel_rfl)
  t5 := (by kernel_rfl)
  a5 := (fun _ => by kernel_rfl)
  z5 := (fun _ => by kernel_rfl)
  v5 := (fun _ => by kernel_rfl)
  t9 := (by kernel_rfl)
  a9 := (fun _ => by kernel_rfl)
  z9 := (fun _ => by kernel_rfl)
  v9 := (fun _ => by kernel_rfl)
  t46 := (by kernel_rfl)
  a46 := (fun _ => by kernel_rfl)
  z46 := (fun _ => by kernel_rfl)
  v46 := (fun _ => by kernel_rfl)
  t51 := (by kernel_rfl)
  a51 := (fun _ => by kernel_rfl)
  z51 := (fun _ => by kernel_rfl)
  v51 := (fun _ => by kernel_rfl)
  t146 := (by kernel_rfl)
  a146 := (fun _ => by kernel_rfl)
  z146 := (fun _ => by kernel_rfl)
  v146 := (fun _ => by kernel_rfl)
  g1 := (by kernel_rfl)
set_option maxRecDepth 100000 in
theorem lays143 : Lays.n143 Tryz.prog ren where
  mixed := (by kernel_rfl)
  f143 := (by kernel_rfl)
  f217 := (by kernel_rfl)
  f219 := (by kernel_rfl)
  f224 := (by kernel_rfl)
  f225 := (by kernel_rfl)
  f266 := (by kernel_rfl)
  f267 := (by kernel_rfl)
  f314 := (by kernel_rfl)
  t3 := (by kernel_rfl)
  a3 := (fun _ => by kernel_rfl)
  z3 := (fun _ => by kernel_rfl)
  v3 := (fun _ => by kernel_rfl)
  t4 := (by kernel_rfl)
  a4 := (fun _ => by kernel_rfl)
  z4 := (fun _ => by kernel_rfl)
  v4 := (fun _ => by kernel_rfl)
  t5 := (by kernel_rfl)
  a5 := (fun _ => by kernel_rfl)
  z5 := (fun _ => by kernel_rfl)
  v5 := (fun _ => by kernel_rfl)
  t9 := (by kernel_rfl)
  a9 := (fun _ => by kernel_rfl)
  z9 := (fun _ => by kernel_rfl)
  v9 := (fun _ => by kernel_rfl)
  t46 := (by kernel_rfl)
  a46 := (fun _ => by kernel_rfl)
  z46 := (fun _ => by kernel_rfl)
  v46 := (fun _ => by kernel_rfl)
  t51 := (by kernel_rfl)
  a51 := (fun _ => by kernel_rfl)
  z51 := (fun _ => by kernel_rfl)
  v51 := (fun _ => by kernel_rfl)
  t146 := (by kernel_rfl)
  a146 := (fun _ => by kernel_rfl)
  z146 := (fun _ => by kernel_rfl)
  v146 := (fun _ => by kernel_rfl)
  g1 := (by kernel_rfl)
set_option maxRecDepth 100000 in
theorem lays138 : Lays.n138 Tryz.prog ren where
  mixed := (by kernel_rfl)
  f138 := (by kernel_rfl)
  f143 := (by kernel_rfl)
  f195 := (by kernel_rfl)
  f217 := (by kernel_rfl)
  f218 := (by kernel_rfl)
  f219 := (by kernel_rfl)
  f224 := (by kernel_rfl)
  f225 := (by kernel_rfl)
  f266 := (by kernel_rfl)
  f267 := (by kernel_rfl)
  f314 := (by kernel_rfl)
  t0 := (by kernel_rfl)
  a0 := (fun _ => by kernel_rfl)
  z0 := (fun _ => by kernel_rfl)
  v0 := (fun _ => by kernel_rfl)
  t3 := (by kernel_rfl)
  a3 := (fun _ => by kernel_rfl)
  z3 := (fun _ => by kernel_rfl)
  v3 := (fun _ => by kernel_rfl)
  t4 := (by kernel_rfl)
  a4 := (fun _ => by kernel_rfl)
  z4 := (fun _ => by kernel_rfl)
  v4 := (fun _ => by kernel_rfl)
  t5 := (by kernel_rfl)
  a5 := (fun _ => by kernel_rfl)
  z5 := (fun _ => by kernel_rfl)
  v5 := (fun _ => by kernel_rfl)
  t9 := (by kernel_rfl)
  a9 := (fun _ => by kernel_rfl)
  z9 := (fun _ => by kernel_rfl)
  v9 := (fun _ => by kernel_rfl)
  t46 := (by kernel_rfl)
  a46 := (fun _ => by kernel_rfl)
  z46 := (fun _ => by kernel_rfl)
  v46 := (fun _ => by kernel_rfl)
  t51 := (by kernel_rfl)
  a51 := (fun _ => by kernel_rfl)
  z51 := (fun _ => by kernel_rfl)
  v51 := (fun _ => by kernel_rfl)
  t146 := (by kernel_rfl)
  a146 := (fun _ => by kernel_rfl)
  z146 := (fun _ => by kernel_rfl)
  v146 := (fun _ => by kernel_rfl)
  g1 := (by kernel_rfl)
set_option maxRecDepth 100000 in
theorem lays160 : Lays.n160 Tryz.prog ren where
  mixed := (by kernel_rfl)
  f119 := (by kernel_rfl)
  f120 := (by kernel_rfl)
  f137 := (by kernel_rfl)
  f151 := (by kernel_rfl)
  f152 := (by kernel_rfl)
  f160 := (by kernel_rfl)
  f197 := (by kernel_rfl)
  f217 := (by kernel_rfl)
  f224 := (by kernel_rfl)
  f225 := (by kernel_rfl)
  f227 := (by kernel_rfl)
  f228 := (by kernel_rfl)
  f231 := (by kernel_rfl)
  f232 := (by kernel_rfl)
  f233 := (by kernel_rfl)
  f234 := (by kernel_rfl)
  f235 := (by kernel_rfl)
  f236 := (by kernel_rfl)
  f260 := (by kernel_rfl)
  f266 := (by kernel_rfl)
  f271 := (by kernel_rfl)
  t0 := (by kernel_rfl)
  a0 := (fun _ => by kernel_rfl)
  z0 := (fun _ => by kernel_rfl)
  v0 := (fun _ => by kernel_rfl)
  t3 := (by kernel_rfl)
  a3 := (fun _ => by kernel_rfl)
  z3 := (fun _ => by kernel_rfl)
  v3 := (fun _ => by kernel_rfl)
  t4 := (by kernel_rfl)
  a4 := (fun _ => by kernel_rfl)
  z4 := (fun _ => by kernel_rfl)
  v4 := (fun _ => by kernel_rfl)
  t5 := (by kernel_rfl)
  a5 := (fun _ => by kernel_rfl)
  z5 := (fun _ => by kernel_rfl)
  v5 := (fun _ => by kernel_rfl)
  t9 := (by kernel_rfl)
  a9 := (fun _ => by kernel_rfl)
  z9 := (fun _ => by kernel_rfl)
  v9 := (fun _ => by kernel_rfl)
  t21 := (by kernel_rfl)
  a21 := (fun _ => by kernel_rfl)
  z21 := (fun _ => by kernel_rfl)
  v21 := (fun _ => by kernel_rfl)
  t46 := (by kernel_rfl)
  a46 := (fun _ => by kernel_rfl)
  z46 := (fun _ => by kernel_rfl)
  v46 := (fun _ => by kernel_rfl)
  t105 := (by kernel_rfl)
  a105 := (fun _ => by kernel_rfl)
  z105 := (fun _ => by kernel_rfl)
  v105 := (fun _ => by kernel_rfl)
  t116 := (by kernel_rfl)
  a116 := (fun _ => by kernel_rfl)
  z116 := (fun _ => by kernel_rfl)
  t117 := (by kernel_rfl)
  a117 := (fun _ => by kernel_rfl)
  z117 := (fun _ => by kernel_rfl)
  v117 := (fun _ => by kernel_rfl)
  t119 := (by kernel_rfl)
  a119 := (fun _ => by kernel_rfl)
  z119 := (fun _ => by kernel_rfl)
  t124 := (by kernel_rfl)
  a124 := (fun _ => by kernel_rfl)
  z124 := (fun _ => by kernel_rfl)
  v124 := (fun _ => by kernel_rfl)
  t138 := (by kernel_rfl)
  a138 := (fun _ => by kernel_rfl)
  z138 := (fun _ => by kernel_rfl)
  v138 := (fun _ => by kernel_rfl)
  t139 := (by kernel_rfl)
  a139 := (fun _ => by kernel_rfl)
  z139 := (fun _ => by kernel_rfl)
  v139 := (fun _ => by kernel_rfl)
  g3 := (by kernel_rfl)
  g4 := (by kernel_rfl)
set_option maxRecDepth 100000 in
theorem lays171 : Lays.n171 Tryz.prog ren where
  mixed := (by kernel_rfl)
  f129 := (by kernel_rfl)
  f171 := (by kernel_rfl)
  f243 := (by kernel_rfl)
  f246 := (by kernel_rfl)
  f283 := (by kernel_rfl)
  f284 := (by kernel_rfl)
  f285 := (by kernel_rfl)
  f286 := (by kernel_rfl)
  f317 := (by kernel_rfl)
  f318 := (by kernel_rfl)
  f319 := (by kernel_rfl)
  f320 := (by kernel_rfl)
  f337 := (by kernel_rfl)
  f338 := (by kernel_rfl)
  t0 := (by kernel_rfl)
  a0 := (fun _ => by kernel_rfl)
  z0 := (fun _ => by kernel_rfl)
  v0 := (fun _ => by kernel_rfl)
  t2 := (by kernel_rfl)
  a2 := (fun _ => by kernel_rfl)
  z2 := (fun _ => by kernel_rfl)
  v2 := (fun _ => by kernel_rfl)
  t3 := (by kernel_rfl)
  a3 := (fun _ => by kernel_rfl)
  z3 := (fun _ => by kernel_rfl)
  v3 := (fun _ => by kernel_rfl)
  t4 := (by kernel_rfl)
  a4 := (fun _ => by kernel_rfl)
  z4 := (fun _ => by kernel_rfl)
  v4 := (fun _ => by kernel_rfl)
  t5 := (by kernel_rfl)
  a5 := (fun _ => by kernel_rfl)
  z5 := (fun _ => by kernel_rfl)
  v5 := (fun _ => by kernel_rfl)
  t9 := (by kernel_rfl)
  a9 := (fun _ => by kernel_rfl)
  z9 := (fun _ => by kernel_rfl)
  v9 := (fun _ => by kernel_rfl)
  t20 := (by kernel_rfl)
  a20 := (fun _ => by kernel_rfl)
  z20 := (fun _ => by kernel_rfl)
  v20 := (fun _ => by kernel_rfl)
  t37 := (by kernel_rfl)
  a37 := (fun _ => by kernel_rfl)
  z37 := (fun _ => by kernel_rfl)
  v37 := (fun _ => by kernel_rfl)
  t46 := (by kernel_rfl)
  a46 := (fun _ => by kernel_rfl)
  z46 := (fun _ => by kernel_rfl)
  v46 := (fun _ => by kernel_rfl)
  t51 := (by kernel_rfl)
  a51 := (fun _ => by kernel_rfl)
  z51 := (fun _ => by kernel_rfl)
  v51 := (fun _ => by kernel_rfl)
  t53 := (by kernel_rfl)
  a53 := (fun _ => by kernel_rfl)
  z53 := (fun _ => by kernel_rfl)
  v53 := (fun _ => by kernel_rfl)
  t171 := (by kernel_rfl)
  a171 := (fun _ => by kernel_rfl)
  z171 := (fun _ => by kernel_rfl)
  v171 := (fun _ => by kernel_rfl)
  t173 := (by kernel_rfl)
  a173 := (fun _ => by kernel_rfl)
  z173 := (fun _ => by kernel_rfl)
  v173 := (fun _ => by kernel_rfl)
  t212 := (by kernel_rfl)
  a212 := (fun _ => by kernel_rfl)
  z212 := (fun _ => by kernel_rfl)
  v212 := (fun _ => by kernel_rfl)
  t213 := (by kernel_rfl)
  a213 := (fun _ => by kernel_rfl)
  z213 := (fun _ => by kernel_rfl)
  t232 := (by kernel_rfl)
  a232 := (fun _ => by kernel_rfl)
  z232 := (fun _ => by kernel_rfl)
  v232 := (fun _ => by kernel_rfl)
  t233 := (by kernel_rfl)
  a233 := (fun _ => by kernel_rfl)
  z233 := (fun _ => by kernel_rfl)
  v233 := (fun _ => by kernel_rfl)
  g17 := (by kernel_rfl)
  g18 := (by kernel_rfl)
  g19 := (by kernel_rfl)
set_option maxRecDepth 100000 in
theorem lays172 : Lays.n172 Tryz.prog ren where
  mixed := (by kernel_rfl)
  f129 := (by kernel_rfl)
  f171 := (by kernel_rfl)
  f172 := (by kernel_rfl)
  f205 := (by kernel_rfl)
  f243 := (by kernel_rfl)
  f244 := (by kernel_rfl)
  f245 := (by kernel_rfl)
  f246 := (by kernel_rfl)
  f247 := (by kernel_rfl)
  f279 := (by kernel_rfl)
  f280 := (by kernel_rfl)
  f281 := (by kernel_rfl)
  f282 := (by kernel_rfl)
  f283 := (by kernel_rfl)
  f284 := (by kernel_rfl)
  f285 := (by kernel_rfl)
  f286 := (by kernel_rfl)
  f287 := (by kernel_rfl)
  f316 := (by kernel_rfl)
  f317 := (by kernel_rfl)
  f318 := (by kernel_rfl)
  f319 := (by kernel_rfl)
  f320 := (by kernel_rfl)
  f321 := (by kernel_rfl)
  f322 := (by kernel_rfl)
  f337 := (by kernel_rfl)
  f338 := (by kernel_rfl)
  t0 := (by kernel_rfl)
  a0 := (fun _ => by kernel_rfl)
  z0 := (fun _ => by kernel_rfl)
  v0 := (fun _ => by kernel_rfl)
  t2 := (by kernel_rfl)
  a2 := (fun _ => by kernel_rfl)
  z2 := (fun _ => by kernel_rfl)
  v2 := (fun _ => by kernel_rfl)
  t3 := (by kernel_rfl)
  a3 := (fun _ => by kernel_rfl)
  z3 := (fun _ => by kernel_rfl)
  v3 := (fun _ => by kernel_rfl)
  t4 := (by kernel_rfl)
  a4 := (fun _ => by kernel_rfl)
  z4 := (fun _ => by kernel_rfl)
  v4 := (fun _ => by kernel_rfl)
  t5 := (by kernel_rfl)
  a5 := (fun _ => by kernel_rfl)
  z5 := (fun _ => by kernel_rfl)
  v5 := (fun _ => by kernel_rfl)
  t9 := (by kernel_rfl)
  a9 := (fun _ => by kernel_rfl)
  z9 := (fun _ => by kernel_rfl)
  v9 := (fun _ => by kernel_rfl)
  t20 := (by kernel_rfl)
  a20 := (fun _ => by kernel_rfl)
  z20 := (fun _ => by kernel_rfl)
  v20 := (fun _ => by kernel_rfl)
  t21 := (by kernel_rfl)
  a21 := (fun _ => by kernel_rfl)
  z21 := (fun _ => by kernel_rfl)
  v21 := (fun _ => by kernel_rfl)
  t37 := (by kernel_rfl)
  a37 := (fun _ => by kernel_rfl)
  z37 := (fun _ => by kernel_rfl)
  v37 := (fun _ => by kernel_rfl)
  t46 := (by kernel_rfl)
  a46 := (fun _ => by kernel_rfl)
  z46 := (fun _ => by kernel_rfl)
  v46 := (fun _ => by kernel_rfl)
  t51 := (by kernel_rfl)
  a51 := (fun _ => by kernel_rfl)
  z51 := (fun _ => by kernel_rfl)
  v51 := (fun _ => by kernel_rfl)
  t53 := (by kernel_rfl)
  a53 := (fun _ => by kernel_rfl)
  z53 := (fun _ => by kernel_rfl)
  v53 := (fun _ => by kernel_rfl)
  t75 := (by kernel_rfl)
  a75 := (fun _ => by kernel_rfl)
  z75 := (fun _ => by kernel_rfl)
  v75 := (fun _ => by kernel_rfl)
  t76 := (by kernel_rfl)
  a76 := (fun _ => by kernel_rfl)
  z76 := (fun _ => by kernel_rfl)
  v76 := (fun _ => by kernel_rfl)
  t85 := (by kernel_rfl)
  a85 := (fun _ => by kernel_rfl)
  z85 := (fun _ => by kernel_rfl)
  v85 := (fun _ => by kernel_rfl)
  t127 := (by kernel_rfl)
  a127 := (fun _ => by kernel_rfl)
  z127 := (fun _ => by kernel_rfl)
  v127 := (fun _ => by kernel_rfl)
  t143 := (by kernel_rfl)
  a143 := (fun _ => by kernel_rfl)
  z143 := (fun _ => by kernel_rfl)
  v143 := (fun _ => by kernel_rfl)
  t145 := (by kernel_rfl)
  a145 := (fun _ => by kernel_rfl)
  z145 := (fun _ => by kernel_rfl)
  v145 := (fun _ => by kernel_rfl)
  t167 := (by kernel_rfl)
  a167 := (fun _ => by kernel_rfl)
  z167 := (fun _ => by kernel_rfl)
  v167 := (fun _ => by kernel_rfl)
  t168 := (by kernel_rfl)
  a168 := (fun _ => by kernel_rfl)
  z168 := (fun _ => by kernel_rfl)
  v168 := (fun _ => by kernel_rfl)
  t171 := (by kernel_rfl)
  a171 := (fun _ => by kernel_rfl)
  z171 := (fun _ => by kernel_rfl)
  v171 := (fun _ => by kernel_rfl)
  t173 := (by kernel_rfl)
  a173 := (fun _ => by kernel_rfl)
  z173 := (fun _ => by kernel_rfl)
  v173 := (fun _ => by kernel_rfl)
  t175 := (by kernel_rfl)
  a175 := (fun _ => by kernel_rfl)
  z175 := (fun _ => by kernel_rfl)
  v175 := (fun _ => by kernel_rfl)
  t210 := (by kernel_rfl)
  a210 := (fun _ => by kernel_rfl)
  z210 := (fun _ => by kernel_rfl)
  v210 := (fun _ => by kernel_rfl)
  t212 := (by kernel_rfl)
  a212 := (fun _ => by kernel_rfl)
  z212 := (fun _ => by kernel_rfl)
  v212 := (fun _ => by kernel_rfl)
  t213 := (by kernel_rfl)
  a213 := (fun _ => by kernel_rfl)
  z213 := (fun _ => by kernel_rfl)
  t232 := (by kernel_rfl)
  a232 := (fun _ => by kernel_rfl)
  z232 := (fun _ => by kernel_rfl)
  v232 := (fun _ => by kernel_rfl)
  t233 := (by kernel_rfl)
  a233 := (fun _ => by kernel_rfl)
  z233 := (fun _ => by kernel_rfl)
  v233 := (fun _ => by kernel_rfl)
  g15 := (by kernel_rfl)
  g16 := (by kernel_rfl)
  g17 := (by kernel_rfl)
  g18 := (by kernel_rfl)
  g19 := (by kernel_rfl)
set_option maxRecDepth 100000 in
theorem laysM171 : LaysM.n171 Tryz.prog ren :=
  { lays171 with
    i0 := (by kernel_rfl),
    i2 := (by kernel_rfl),
    i3 := (by kernel_rfl),
    i4 := (by kernel_rfl),
    i5 := (by kernel_rfl),
    i9 := (by kernel_rfl),
    i20 := (by kernel_rfl),
    i37 := (by kernel_rfl),
    i46 := (by kernel_rfl),
    i51 := (by kernel_rfl),
    i53 := (by kernel_rfl),
    i171 := (by kernel_rfl),
    i173 := (by kernel_rfl),
    i212 := (by kernel_rfl),
    i232 := (by kernel_rfl),
    i233 := (by kernel_rfl),
    m17 := (by kernel_rfl),
    m18 := (by kernel_rfl),
    m19 := (by kernel_rfl) }
set_option maxRecDepth 100000 in
theorem laysM172 : LaysM.n172 Tryz.prog ren :=
  { lays172 with
    t80 := (by kernel_rfl),
    a80 := (fun _ => by kernel_rfl),
    z80 := (fun _ => by kernel_rfl),
    v80 := (fun _ => by kernel_rfl),
    i0 := (by kernel_rfl),
    i2 := (by kernel_rfl),
    i3 := (by kernel_rfl),
    i4 := (by kernel_rfl),
    i5 := (by kernel_rfl),
    i9 := (by kernel_rfl),
    i20 := (by kernel_rfl),
    i21 := (by kernel_rfl),
    i37 := (by kernel_rfl),
    i46 := (by kernel_rfl),
    i51 := (by kernel_rfl),
    i53 := (by kernel_rfl),
    i75 := (by kernel_rfl),
    i76 := (by kernel_rfl),
    i80 := (by kernel_rfl),
    i85 := (by kernel_rfl),
    i127 := (by kernel_rfl),
    i143 := (by kernel_rfl),
    i145 := (by kernel_rfl),
    i167 := (by kernel_rfl),
    i168 := (by kernel_rfl),
    i171 := (by kernel_rfl),
    i173 := (by kernel_rfl),
    i175 := (by kernel_rfl),
    i210 := (by kernel_rfl),
    i212 := (by kernel_rfl),
    i232 := (by kernel_rfl),
    i233 := (by kernel_rfl),
    m15 := (by kernel_rfl),
    m16 := (by kernel_rfl),
    m17 := (by kernel_rfl),
    m18 := (by kernel_rfl),
    m19 := (by kernel_rfl) }
set_option maxRecDepth 100000 in
theorem laysC172 : LaysC.n172 Tryz.prog ren :=
  { toM := laysM172,
    c0 := (by kernel_rfl),
    c2 := (by kernel_rfl),
    c3 := (by kernel_rfl),
    c4 := (by kernel_rfl),
    c5 := (by kernel_rfl),
    c9 := (by kernel_rfl),
    c20 := (by kernel_rfl),
    c21 := (by kernel_rfl),
    c37 := (by kernel_rfl),
    c46 := (by kernel_rfl),
    c51 := (by kernel_rfl),
    c53 := (by kernel_rfl),
    c75 := (by kernel_rfl),
    c76 := (by kernel_rfl),
    c80 := (by kernel_rfl),
    c85 := (by kernel_rfl),
    c127 := (by kernel_rfl),
    c143 := (by kernel_rfl),
    c145 := (by kernel_rfl),
    c167 := (by kernel_rfl),
    c168 := (by kernel_rfl),
    c171 := (by kernel_rfl),
    c173 := (by kernel_rfl),
    c175 := (by kernel_rfl),
    c210 := (by kernel_rfl),
    c212 := (by kernel_rfl),
    c213 := (by kernel_rfl),
    c232 := (by kernel_rfl),
    c233 := (by kernel_rfl) }
end Go.Proofs.YtbhjimflcfnpaaaGreatDoor

set_option linter.all false
/-! The library's contracts at this seat's numbers. -/
namespace Go.Proofs.YtbhjimflcfnpaaaGreatDoor.Sd
open Go Go.Proofs Mo

/-- What the world has: the powers of ten, and two errors. -/
def G (w : World) : Prop := Lib.TabIs Tryz.prog w "internal/strconv.uint64pow10" .u64 Lib.pow10Tab ∧ (∃ ev, w.cell? ⟨ren.g 15, 0, none⟩ = some ev ∧ (ev = .nilIface ∨ ∃ te pe, ev = .iface te pe)) ∧
  (∃ ev, w.cell? ⟨ren.g 16, 0, none⟩ = some ev ∧ (ev = .nilIface ∨ ∃ te pe, ev = .iface te pe))
abbrev Q : Pt → Prop := QG G
abbrev i64 : AT := .v (.int .i64)
abbrev str : AT := .v .str
abbrev boo : AT := .v .bool
noncomputable abbrev idxC : Con := ⟨[str, str], [i64], fun x => one1 x.2.1, fun x => (Lib.indexByte x.1 (hd1 x.2.1), ())⟩
noncomputable abbrev cntC : Con := ⟨[str, str], [i64], fun x => one1 x.2.1, fun x => (((Lib.countByte x.1 (hd1 x.2.1) : Nat) : Int), ())⟩
noncomputable abbrev trmC : Con := ⟨[str, str], [str], fun x => Bool.rec false (decide (List.length (α := UInt8) x.1 ≤ 9223372036854775807 ∧ (hd1 x.2.1).toNat < 128)) (one1 x.2.1), fun x => (Lib.trimB x.1 (hd1 x.2.1), ())⟩
noncomputable def inI (n : Int) : Bool := decide (-9223372036854775808 ≤ n ∧ n ≤ 9223372036854775807)
noncomputable abbrev itoC : Con := ⟨[i64], [str], fun x => inI x.1, fun x => (Lib.itoa x.1, ())⟩
noncomputable def okA (s : List UInt8) : Bool := match Lib.atoiAll s with
  | .ok _ => true
  | _ => false
noncomputable def numA (s : List UInt8) : Int := match Lib.atoiAll s with
  | .ok v => v
  | .range => Lib.atoiSat s
  | _ => 0
noncomputable abbrev atoC : CallC := numC (ren.t 168) okA numA
theorem two_args {pr : Pt} {x : AD [str, str]} {args : Array Value} (h : RdA pr [str, str] x args.toList) : args = #[.string ⟨⟨x.1⟩⟩, .string ⟨⟨x.2.1⟩⟩] := by
  obtain ⟨l⟩ := args
  match l, h with
  | [a, b], h =>
    rw [str_arg h.1, str_arg h.2.1]
theorem one_int {pr : Pt} {x : AD [i64]} {args : Array Value} (h : RdA pr [i64] x args.toList) : args = #[.int .i64 x.1] := by
  obtain ⟨l⟩ := args
  match l, h with
  | [a], h => rw [int_arg h.1]
theorem idx56_ok : idxC.Ok Tryz.prog Q 56 := con_lib fun pr w args x hq hpr hx hp => by
  rw [two_args hx]
  obtain ⟨s, t, u⟩ := x
  obtain ⟨c, rfl⟩ : ∃ c, t = [c] := ⟨_, one1_eq (l := t) hp⟩
  exact (Any.strings_Index_one lays143 ⟨⟨s⟩⟩ c w).mono fun e w' ⟨h1, h2⟩ => ⟨_, h1, h2 ▸ RowKit.Below.refl _ _, fun pr => int_res (pr := pr)⟩
theorem idx57_ok : idxC.Ok Tryz.prog Q 57 := con_lib fun pr w args x hq hpr hx hp => by
  rw [two_args hx]
  obtain ⟨s, t, u⟩ := x
  obtain ⟨c, rfl⟩ : ∃ c, t = [c] := ⟨_, one1_eq (l := t) hp⟩
  exact (Any.stringslite_Index_one lays219 ⟨⟨s⟩⟩ c w).mono fun e w' ⟨h1, h2⟩ => ⟨_, h1, h2 ▸ RowKit.Below.refl _ _, fun pr => int_res (pr := pr)⟩
theorem cnt160_ok : cntC.Ok Tryz.prog Q 160 := con_lib fun pr w args x hq hpr hx hp => by
  rw [two_args hx]
  obtain ⟨s, t, u⟩ := x
  obtain ⟨c, rfl⟩ : ∃ c, t = [c] := ⟨_, one1_eq (l := t) hp⟩
  exact (Any.strings_Count_one lays138 ⟨⟨s⟩⟩ c w).mono fun e w' ⟨h1, h2⟩ => ⟨_, h1, h2 ▸ RowKit.Below.refl _ _, fun pr => int_res (pr := pr)⟩
theorem trm19_ok : trmC.Ok Tryz.prog Q 19 := con_lib fun pr w args x hq hpr hx hp => by
  rw [two_args hx]
  obtain ⟨s, t, u⟩ := x
  have hp' : Bool.rec (motive := fun _ => Bool) false (decide (List.length (α := UInt8) s ≤ 9223372036854775807 ∧ (hd1 t).toNat < 128)) (one1 t) = true := hp
  cases ho : one1 t with
  | false => rw [ho] at hp'; cases hp'
  | true =>
    rw [ho] at hp'
    obtain ⟨h2, h3⟩ : List.length (α := UInt8) s ≤ 9223372036854775807 ∧ (hd1 t).toNat < 128 := by simpa using hp'
    obtain ⟨c, rfl⟩ : ∃ c, t = [c] := ⟨_, one1_eq (l := t) ho⟩
    exact (Any.strings_Trim_one lays160 ⟨⟨s⟩⟩ c h3 w h2).mono fun e w' ⟨h1, h2⟩ => ⟨_, h1, (by
      rcases h2 with rfl | rfl
      · exact RowKit.Below.refl _ _
      · exact (RowKit.Below.refl _ w).drew), fun pr => str_res (pr := pr)⟩
theorem below_growC (w : World) (k : Nat) (os : Array Obj) : RowKit.Below w.heap.size w (Go.Sort.grow (w.drewN k) os) :=
  ⟨rfl, rfl, rfl, by show w.heap.size ≤ (w.heap ++ os).size; rw [Array.size_append]; omega, fun j hj => by
    show (w.heap ++ os)[j]? = w.heap[j]?
    exact Array.getElem?_append_left hj⟩
theorem ito39_ok : itoC.Ok Tryz.prog Q 39 := con_lib fun pr w args x hq hpr hx hp => by
  rw [one_int hx]
  obtain ⟨n, u⟩ := x
  have hp' : inI n = true := hp
  obtain ⟨h1, h2⟩ : -9223372036854775808 ≤ (show Int from n) ∧ (show Int from n) ≤ 9223372036854775807 := by simpa [inI] using hp'
  exact (Any.strconv_Itoa laysM171 n h1 h2 w (hq w hpr).1).mono fun e w' ⟨h1, k, os, h2⟩ => ⟨_, h1, h2 ▸ below_growC _ _ _, fun pr => str_res (pr := pr)⟩
theorem ato38_ok : XOk Tryz.prog Q 38 atoC := numC_ok (QG.mono G) fun pr w s hq hpr hl => by
  obtain ⟨-, ⟨e1, h1, h2⟩, ⟨e3, h3, h4⟩⟩ := hq w hpr
  unfold okA numA
  cases ha : Lib.atoiAll s with
  | ok v =>
    refine (Any.strconv_Atoi_ok laysC172 ⟨⟨s⟩⟩ (show s.length ≤ _ by omega) v ha w).mono fun e w' ⟨k1, k2⟩ => ⟨?_, .inl ⟨rfl, k1⟩⟩
    rcases k2 with rfl | ⟨t, rfl⟩
    · exact RowKit.Below.refl _ _
    · exact Lib.bytesWorld_below _ _ _
  | range =>
    refine (Any.strconv_Atoi_range laysC172 ⟨⟨s⟩⟩ hl ha e3 w h3 h4).mono fun e w' ⟨N, k1, k2, k3, k4⟩ => ⟨k4, .inr ⟨rfl, _, k1⟩⟩
  | _ =>
    refine (Any.strconv_Atoi_syntax laysC172 ⟨⟨s⟩⟩ hl ha e1 w h1 h2).mono fun e w' ⟨N, k1, k2, k3, k4⟩ => ⟨k4, .inr ⟨rfl, _, k1⟩⟩
end Go.Proofs.YtbhjimflcfnpaaaGreatDoor.Sd

set_option linter.unusedVariables false
/-! addr.number, walked with the library's own tactics: its loop ranges over a string. -/
namespace Sdn
open Go
/-- From byte i on, with n so far. -/
def numF (s : ByteArray) (most : Int) : Nat → Nat → Int → Option Int
  | 0, _, n => some n
  | b + 1, i, n => if i < s.size then
      (let r : Int := ((Utf8.decode s i).1 : Nat)
       if r < 48 ∨ 57 < r ∨ (0 < i ∧ n = 0) then none
       else if most < 10 * n + (r - 48) then none else numF s most b (i + (Utf8.decode s i).2) (10 * n + (r - 48)))
    else some n
def numberR (s : ByteArray) (most : Int) : Int × Bool :=
  match numF s most s.size 0 0 with
  | some n => (n, !s.toList.isEmpty)
  | none => (0, false)
theorem numF_end (s : ByteArray) (most : Int) (b pos : Nat) (n : Int) (h : ¬ pos < s.size) : numF s most b pos n = some n := by
  cases b with
  | zero => rfl
  | succ b => simp [numF, h]
theorem numF_bad {s : ByteArray} {most : Int} {b pos : Nat} {n r : Int} (hp : pos < s.size) (hd : s.size ≤ pos + b) (hr : r = ((Utf8.decode s pos).1 : Nat)) (h : r < 48 ∨ 57 < r ∨ (0 < pos ∧ n = 0)) : numF s most b pos n = none := by
  cases b with
  | zero => omega
  | succ b => simp only [numF, hp, if_true, ← hr, h]
theorem numF_big {s : ByteArray} {most : Int} {b pos : Nat} {n r : Int} (hp : pos < s.size) (hd : s.size ≤ pos + b) (hr : r = ((Utf8.decode s pos).1 : Nat)) (h : most < 10 * n + (r - 48)) : numF s most b pos n = none := by
  cases b with
  | zero => omega
  | succ b =>
    simp only [numF, hp, if_true, ← hr, h]
    split <;> rfl
theorem numF_step {s : ByteArray} {most : Int} {b pos : Nat} {n r : Int} (hp : pos < s.size) (hd : s.size ≤ pos + b) (hr : r = ((Utf8.decode s pos).1 : Nat)) (h1 : ¬ (r < 48 ∨ 57 < r ∨ (0 < pos ∧ n = 0))) (h : ¬ most < 10 * n + (r - 48)) :
    ∃ c, b = c + 1 ∧ numF s most b pos n = numF s most c (pos + (Utf8.decode s pos).2) (10 * n + (r - 48)) := by
  cases b with
  | zero => omega
  | succ b => exact ⟨b, rfl, by simp only [numF, hp, if_true, ← hr, h1, h, if_false]⟩
theorem numberR_none {s : ByteArray} {most : Int} (h : numF s most s.size 0 0 = none) : numberR s most = (0, false) := by simp [numberR, h]
theorem numberR_some {s : ByteArray} {most n : Int} (h : numF s most s.size 0 0 = some n) : numberR s most = (n, !s.toList.isEmpty) := by simp [numberR, h]
theorem width_pos (s : ByteArray) (pos : Nat) (h : pos < s.size) : 1 ≤ (Utf8.decode s pos).2 := by
  by_cases ha : (s[pos]'h).toNat < 128
  · rw [decode_ascii s pos h ha]
    exact Nat.le_refl _
  · exact (decode_high s pos h (by omega)).2
end Sdn
namespace Go.Proofs.YtbhjimflcfnpaaaGreatDoor
open Go.RowKit Sdn

set_option maxRecDepth 1000000 in
theorem number_walk (s : ByteArray) (most : Int) (h0 : 0 ≤ most) (hm : most ≤ 1000000) (w : World) :
    Calls Tryz.prog 62 #[.string s, .int .i64 most] w fun e w' => e = .returned (.tuple #[.int .i64 (numberR s most).1, .bool (numberR s most).2]) ∧ ∃ pos, w' = w.iter s pos := by
  go_enter Tryz.func62, Tryz.ntmps62
  go_wp2
  go_loopw [6] (fun n w' => ∃ (pos b : Nat) (acc : Int), w' = w.iter s pos ∧ n = .int .i64 acc ∧ 0 ≤ acc ∧ acc ≤ most ∧ numF s most b pos acc = numF s most s.size 0 0 ∧ s.size ≤ pos + b) (fun _ w' => s.size - w'.iterPos w.heap.size)
  case atStart => exact ⟨0, s.size, 0, rfl, rfl, by omega, by omega, rfl, by omega⟩
  case round =>
    obtain ⟨pos, b, acc, rfl, rfl, ha, hb, hc, hd⟩ := hrel
    by_cases hp : pos < s.size
    · have hnx : ∀ ty, (Instr.next (.pointer (some ⟨w.heap.size, 0, none⟩)) true ty).run Tryz.prog (w.iter s pos) = _ := fun ty => run_next_any w s pos ty hp
      have hwd := Sdn.width_pos s pos hp
      go_wp2
      all_goals clear hnx
      all_goals (try simp only [beq_iff_eq, beq_eq_false_iff_ne, ne_eq] at *)
      all_goals first
        | (have hz : numF s most b pos acc = none := numF_bad hp hd rfl (by omega)
           rw [hc] at hz
           go_ret2
           rw [numberR_none hz]
           exact ⟨rfl, _, rfl⟩)
        | (have hz : numF s most b pos acc = none := numF_big hp hd rfl (by omega)
           rw [hc] at hz
           go_ret2
           rw [numberR_none hz]
           exact ⟨rfl, _, rfl⟩)
        | (obtain ⟨c, rfl, hz⟩ := numF_step (most := most) (n := acc) hp hd rfl (by omega) (by omega)
           rw [hc] at hz
           go_roundw
           case rel => exact ⟨pos + (Utf8.decode s pos).2, c, _, rfl, rfl, by omega, by omega, hz.symm, by omega⟩
           case measure => simp; omega)
        | trace_state
    · have hnx : ∀ ty, (Instr.next (.pointer (some ⟨w.heap.size, 0, none⟩)) true ty).run Tryz.prog (w.iter s pos) = _ := fun ty => run_next_end w s pos ty hp
      go_wp2
      go_ret2
      rw [numF_end s most b pos acc hp] at hc
      rw [numberR_some hc.symm]
      exact ⟨rfl, _, rfl⟩
end Go.Proofs.YtbhjimflcfnpaaaGreatDoor

set_option linter.all false
/-! The document's trim, number, text; addr.number. -/
namespace Go.Proofs.YtbhjimflcfnpaaaGreatDoor.Sd
open Go Go.Proofs Mo

abbrev w64 (x : Int) : Int := IntKind.i64.wrap x
abbrev ixB (i : Int) (n : Nat) : Bool := decide (0 ≤ i ∧ i.toNat < n)
theorem w_id {x : Int} (h : -9223372036854775808 ≤ x) (h2 : x ≤ 9223372036854775807) : w64 x = x := by
  show IntKind.i64.wrap x = x
  rw [IntKind.wrap_i64]; omega
/-! ### addr.number -/
noncomputable def mostB (n : Int) : Bool := decide (0 ≤ n ∧ n ≤ 1000000)
noncomputable abbrev numC : Con := ⟨[str, i64], [i64, boo], fun x => mostB x.2.1, fun x => ((Sdn.numberR ⟨⟨x.1⟩⟩ x.2.1).1, (Sdn.numberR ⟨⟨x.1⟩⟩ x.2.1).2, ())⟩
theorem num62_ok : numC.Ok Tryz.prog Q 62 := con_lib fun pr w args x hq hpr hx hp => by
  obtain ⟨s, n, u⟩ := x
  have ha : args = #[.string ⟨⟨s⟩⟩, .int .i64 n] := by
    obtain ⟨l⟩ := args
    match l, hx with
    | [a, b], hx => rw [str_arg hx.1, int_arg hx.2.1]
  rw [ha]
  have hp' : (0 : Int) ≤ n ∧ n ≤ 1000000 := by
    have h1 : mostB n = true := hp
    simpa [mostB] using h1
  exact (number_walk ⟨⟨s⟩⟩ n hp'.1 hp'.2 w).mono fun e w' ⟨h1, pos, h2⟩ => ⟨_, h1, h2 ▸ (RowKit.Below.refl _ _).alloc (Nat.le_refl _) _, fun pr => ⟨_, rfl, int_res (pr := pr), bool_res (pr := pr), trivial⟩⟩
noncomputable def kt0 : Tr Con := Tr.put (some numC) 31 (Tr.put (some itoC) 31 (Tr.put (some trmC) 31 (Tr.put (some cntC) 31 (Tr.put (some idxC) 31 (Tr.put (some idxC) 31 .lf 56) 57) 160) 19) 39) 62
noncomputable def xt0 : Tr CallC := Tr.put (some atoC) 31 .lf 38
theorem t0 : TOk Tryz.prog Q kt0 .lf xt0 := ((((((TOk.nil.addK idx56_ok rfl).addK idx57_ok rfl).addK cnt160_ok rfl).addK trm19_ok rfl).addK ito39_ok rfl).addK num62_ok rfl).addX ato38_ok rfl
abbrev Qm : MonoQ Q := QG.mono G
/-- A loop's contract out of its round. -/
theorem loop_ok {kt : Tr Con} {lt : Tr (List (Nat × LCon))} {xt : Tr CallC} (h : TOk Tryz.prog Q kt lt xt) {f : FuncId} {m : Nat} {fn : Func} {S : LS} {st : VD S.vs → Option (LRes S)} {G : VD S.vs → DT (Sigma fun e => VD (S.oV e))} (hf : Tryz.prog.funcs[f]? = some fn) (hb : fn.body = some (bodyOf fn)) (hfind : findB (bodyOf fn) m = [loopOf fn m]) (hN : Nat.beq S.N fn.ntmps = true) (hN2 : Nat.ble S.N 1000000 = true)
    (hsz : Nat.ble (szV S.vs) 1000000 = true) (hso : ∀ e, Nat.ble (szV (S.oV e)) 1000000 = true) (hT : ∀ v r, st v = some r → ∃ T : DT (LRes S), runL Tryz.prog (syL kt lt xt) Moz.tb 1000 30 f S (loopOf fn m) v = T.run canonL ∧ T.val = some r) (hG : ∀ v r, (G v).val = some r → ∃ n, iterL st n v = some r) : (LCon.of S st G).Ok Tryz.prog Q f m :=
  lcon_of_tree Qm (fun w0 hq => Moz.pokL Qm h w0 hq) h.ko Moz.cds Moz.tb_ok hf hb hfind hN hN2 hsz hso hT hG
theorem at_ok {kt : Tr Con} {lt : Tr (List (Nat × LCon))} {xt : Tr CallC} (h : TOk Tryz.prog Q kt lt xt) {f : FuncId} {ts rs : List AT} {x : AD ts} {y : AD rs} {T : DT (AD rs)} (hsz : Nat.ble (szA rs) 1000000 = true) (hT : run Tryz.prog (syL kt lt xt) Moz.tb 1000 30 f ts rs x = T.run (canon rs)) (hv : T.val = some y) : OkAt Tryz.prog Q f ts rs x y :=
  okAt_tree (fun w0 hq => Moz.pokL Qm h w0 hq) Moz.tb_ok hsz hT hv
/-! ### trim -/
noncomputable abbrev S40_1 : LS := ⟨28, [0], [.t (.v (.str))], [3, 4, 5, 6, 7, 8, 9, 10, 11], fun e => Ex.rec (motive := fun _ => List Nat) [] (fun i => [0]) [] e, fun e => Ex.rec (motive := fun _ => List VT) [] (fun i => [.t (.v (.str))]) [] e⟩
noncomputable abbrev S40_3 : LS := ⟨28, [0], [.t (.v (.str))], [12, 13, 14, 15, 16, 17, 18, 19, 20, 21, 22, 23, 24, 25, 26], fun e => Ex.rec (motive := fun _ => List Nat) [] (fun i => [0]) [] e, fun e => Ex.rec (motive := fun _ => List VT) [] (fun i => [.t (.v (.str))]) [] e⟩
noncomputable def c32 (b : UInt8) : Bool := (b.toNat : Int) == 32
noncomputable def st40_1 (v : VD S40_1.vs) : Option (LRes S40_1) := match v.1 with
  | [] => some (.out (.exit 0) ([], ()))
  | b :: t => bif c32 b then some (.cont (t, ())) else some (.out (.exit 0) (b :: t, ()))
noncomputable def trimL (s : List UInt8) : List UInt8 := s.dropWhile c32
noncomputable def trimR (s : List UInt8) : List UInt8 := (s.reverse.dropWhile c32).reverse
theorem hso1 {l : List VT} (h : Nat.ble (szV l) 1000000 = true) : ∀ e, Nat.ble (szV (Ex.rec (motive := fun _ => List VT) [] (fun i => l) [] e)) 1000000 = true
  | .normal => rfl
  | .exit i => h
  | .ret => rfl
theorem lp40_1 : (LCon.of S40_1 st40_1 fun v => .lf ⟨.exit 0, (trimL v.1, ())⟩).Ok Tryz.prog Q 40 1 := loop_ok t0 (fn := Tryz.f40) (by kernel_rfl) (by kernel_rfl) (by kernel_rfl) (by kernel_rfl) rfl rfl (hso1 rfl)
  (fun v r hr => by
    obtain ⟨s, u⟩ := v
    cases s with
    | nil => exact ⟨.lf (.out (.exit 0) ([], ())), by kernel_rfl, hr⟩
    | cons b t => exact ⟨.br (c32 b) (.lf (.cont (t, ()))) (.lf (.out (.exit 0) (b :: t, ()))), by kernel_rfl, hr⟩)
  (fun v r hr => by
    obtain ⟨s, u⟩ := v
    cases hr
    refine ⟨s.length + 1, ?_⟩
    induction s with
    | nil => rfl
    | cons b t ih =>
      cases hb : c32 b with
      | true =>
        rw [iterL_cont (v' := (t, ())) (by simp only [st40_1, hb, cond_true]), trimL, List.dropWhile_cons_of_pos hb]
        exact ih
      | false =>
        rw [iterL_out (e := .exit 0) (o := (b :: t, ())) (by simp only [st40_1, hb, cond_false]), trimL, List.dropWhile_cons_of_neg (by simp [hb])])
noncomputable def st40_3 (v : VD S40_3.vs) : Option (LRes S40_3) := match v.1.reverse with
  | [] => some (.out (.exit 2) ([], ()))
  | b :: t => bif decide (t.length < 4611686018427387904) then (bif c32 b then some (.cont (t.reverse, ())) else some (.out (.exit 2) (v.1, ()))) else none
noncomputable def T40_3 (s : List UInt8) : DT (LRes S40_3) := .br (!(s == [])) (.br (ixB (w64 (s.length - 1)) s.length) (.br (c32 (s.getD (w64 (s.length - 1)).toNat 0)) (.br (cutOk s.length none (some (w64 (s.length - 1))) none) (.lf (.cont (cutL s none (some (w64 (s.length - 1))), ()))) .no) (.lf (.out (.exit 2) (s, ())))) .no) (.lf (.out (.exit 2) (s, ())))
theorem lp40_3 : (LCon.of S40_3 st40_3 fun v => .br (decide (v.1.length < 4611686018427387904)) (.lf ⟨.exit 2, (trimR v.1, ())⟩) .no).Ok Tryz.prog Q 40 3 := loop_ok t0 (fn := Tryz.f40) (by kernel_rfl) (by kernel_rfl) (by kernel_rfl) (by kernel_rfl) rfl rfl (hso1 rfl)
  (fun v r hr => by
    obtain ⟨s, u⟩ := v
    refine ⟨T40_3 s, by kernel_rfl, ?_⟩
    obtain ⟨t, rfl⟩ : ∃ t : List UInt8, s = t.reverse := ⟨s.reverse, by simp⟩
    unfold st40_3 at hr
    simp only [List.reverse_reverse] at hr
    cases t with
    | nil => exact hr
    | cons b t =>
      simp only at hr
      cases hl : decide (t.length < 4611686018427387904) with
      | false => rw [hl] at hr; cases hr
      | true =>
        rw [hl] at hr
        have hl' : t.length < 4611686018427387904 := by simpa using hl
        have e1 : (((t.reverse ++ [b]).length : Nat) : Int) - 1 = (t.length : Nat) := by simp
        rw [← hr]
        unfold T40_3
        rw [List.reverse_cons, e1, w_id (by omega) (by omega)]
        have e2 : (t.reverse ++ [b]).getD t.length 0 = b := by simp [List.getD]
        have e3 : (!(t.reverse ++ [b] == [])) = true := by simp
        have e4 : ixB ((t.length : Nat) : Int) (t.reverse ++ [b]).length = true := by simp [ixB]
        have e5 : cutOk (t.reverse ++ [b]).length none (some ((t.length : Nat) : Int)) none = true := by simp [cutOk]
        have e6 : cutL (t.reverse ++ [b]) none (some ((t.length : Nat) : Int)) = t.reverse := by
          show (t.reverse ++ [b]).take _ = _
          simp
        simp only [DT.val, e3, e4, e5, e6, Int.toNat_natCast, e2, cond_true])
  (fun v r hr => by
    obtain ⟨s, u⟩ := v
    unfold DT.val at hr
    cases hl : decide (s.length < 4611686018427387904) with
    | false => rw [hl] at hr; cases hr
    | true =>
      rw [hl] at hr
      cases hr
      have hl' : s.length < 4611686018427387904 := by simpa using hl
      have key : ∀ t : List UInt8, t.length < 4611686018427387904 → iterL st40_3 (t.length + 1) (t.reverse, u) = some ⟨.exit 2, ((t.dropWhile c32).reverse, ())⟩ := by
        intro t ht
        induction t with
        | nil => rfl
        | cons b t ih =>
          rw [List.length_cons] at ht
          have h2 : decide (t.length < 4611686018427387904) = true := by simp; omega
          cases hb : c32 b with
          | true =>
            rw [iterL_cont (v' := (t.reverse, ())) (by simp only [st40_3, List.reverse_reverse, h2, hb, cond_true]), List.dropWhile_cons_of_pos hb]
            exact ih (by omega)
          | false =>
            rw [iterL_out (e := .exit 2) (o := ((b :: t).reverse, ())) (by simp only [st40_3, List.reverse_reverse, h2, hb, cond_true, cond_false]), List.dropWhile_cons_of_neg (by simp [hb])]
      refine ⟨s.reverse.length + 1, ?_⟩
      have := key s.reverse (by rw [List.length_reverse]; exact hl')
      rw [List.reverse_reverse] at this
      exact this)
noncomputable def lt1 : Tr (List (Nat × LCon)) := Tr.put (some [(1, LCon.of S40_1 st40_1 fun v => .lf ⟨.exit 0, (trimL v.1, ())⟩), (3, LCon.of S40_3 st40_3 fun v => .br (decide (v.1.length < 4611686018427387904)) (.lf ⟨.exit 2, (trimR v.1, ())⟩) .no)]) 31 .lf 40
theorem t1 : TOk Tryz.prog Q kt0 lt1 xt0 := t0.addL (lp_one lp40_1 (lp_one lp40_3 lp_nil)) rfl
noncomputable abbrev trmF (s : List UInt8) : List UInt8 := trimR (trimL s)
noncomputable abbrev trmD : Con := ⟨[str], [str], fun x => decide (x.1.length < 4611686018427387904), fun x => (trmF x.1, ())⟩
theorem trm40_ok : trmD.Ok Tryz.prog Q 40 := con_at fun x hx => by
  obtain ⟨s, u⟩ := x
  have hs : s.length < 4611686018427387904 := by
    have h1 : decide (s.length < 4611686018427387904) = true := hx
    simpa using h1
  refine at_ok t1 (T := .br (decide ((trimL s).length < 4611686018427387904)) (.lf (trimR (trimL s), ())) .no) rfl (by kernel_rfl) ?_
  have : (trimL s).length ≤ s.length := (List.dropWhile_sublist _).length_le
  have h2 : decide ((trimL s).length < 4611686018427387904) = true := by simp; omega
  rw [DT.val, h2]
  rfl
end Go.Proofs.YtbhjimflcfnpaaaGreatDoor.Sd

set_option linter.all false
/-! The document's number and text. -/
namespace Go.Proofs.YtbhjimflcfnpaaaGreatDoor.Sd
open Go Go.Proofs Mo

noncomputable abbrev S41_3 : LS := ⟨41, [0, 7, 8], [.t (.v (.str)), .t (.v (.int .i64)), .t (.v (.int .i64))], [9, 10, 11, 12, 13, 14, 15, 16, 17, 18, 19, 20, 21, 22, 23, 24, 25, 26], fun e => Ex.rec (motive := fun _ => List Nat) [] (fun i => [0, 7]) [] e, fun e => Ex.rec (motive := fun _ => List VT) [] (fun i => [.t (.v (.str)), .t (.v (.int .i64))]) [] e⟩
noncomputable abbrev S42_2 : LS := ⟨27, [0, 3], [.t (.v (.str)), .t (.v (.int .i64))], [2, 4, 5, 6, 7, 8, 9, 10, 11, 12, 13, 14, 15, 16, 17, 18, 19], fun e => Ex.rec (motive := fun _ => List Nat) [] (fun i => [0]) [2] e, fun e => Ex.rec (motive := fun _ => List VT) [] (fun i => [.t (.v (.str))]) [.t (.v (.bool))] e⟩
theorem hso2 {l m : List VT} (h : Nat.ble (szV l) 1000000 = true) (h2 : Nat.ble (szV m) 1000000 = true) : ∀ e, Nat.ble (szV (Ex.rec (motive := fun _ => List VT) [] (fun i => l) m e)) 1000000 = true
  | .normal => rfl
  | .exit i => h
  | .ret => h2
noncomputable def dig (b : UInt8) : Int := IntKind.u8.wrap ((b.toNat : Int) - 48)
theorem dig_ok (b : UInt8) : 0 ≤ dig b ∧ dig b < 256 := by
  unfold dig
  rw [IntKind.wrap_u8]
  omega
noncomputable def numGo : List UInt8 → Int → Int
  | [], n => n
  | b :: r, n => numGo r (10 * n + dig b)
noncomputable def st41 (s : List UInt8) (n i : Int) : Option (LRes S41_3) := if 0 ≤ i ∧ i ≤ 6 ∧ 0 ≤ n ∧ n ≤ 290000000 ∧ s.length < 4611686018427387904 then
      (if i < (s.length : Int) ∧ i < 6 then some (.cont (s, 10 * n + dig (s.getD i.toNat 0), i + 1, ())) else some (.out (.exit 0) (s, n, ()))) else none
noncomputable def st41_3 (v : VD S41_3.vs) : Option (LRes S41_3) := st41 v.1 v.2.1 v.2.2.1
noncomputable def T41_3 (s : List UInt8) (n i : Int) : DT (LRes S41_3) := .br (decide (i < (s.length : Int))) (.br (decide (i < 6)) (.br (ixB i s.length) (.lf (.cont (s, w64 (w64 (10 * n) + w64 (dig (s.getD i.toNat 0))), w64 (i + 1), ()))) .no) (.lf (.out (.exit 0) (s, n, ())))) (.lf (.out (.exit 0) (s, n, ())))
noncomputable def G41 (s : List UInt8) (n i : Int) : DT (Sigma fun e => VD (S41_3.oV e)) := .br (decide (n = 0 ∧ i = 0)) (.br (decide (s.length < 4611686018427387904)) (.lf ⟨.exit 0, (s, numGo (s.take 6) 0, ())⟩) .no) .no
noncomputable def G41_3 (v : VD S41_3.vs) : DT (Sigma fun e => VD (S41_3.oV e)) := G41 v.1 v.2.1 v.2.2.1
theorem it41 (s : List UInt8) (hs : s.length < 4611686018427387904) : ∀ (j k : Nat) (n : Int), k + j = 6 → 0 ≤ n → n + 29 ≤ 29 * 10 ^ k → iterL st41_3 (j + 1) (s, n, (k : Int), ()) = some ⟨.exit 0, (s, numGo ((s.take 6).drop k) n, ())⟩
  | 0, k, n, hk, h0, hn => by
    have : k = 6 := by omega
    subst this
    rw [iterL_out (e := .exit 0) (o := (s, n, ()))]
    · rw [List.drop_eq_nil_of_le (by simp; omega)]
      rfl
    · show st41 s n ((6 : Nat) : Int) = _
      unfold st41
      rw [if_pos (by omega), if_neg (by omega)]
  | j + 1, k, n, hk, h0, hn => by
    have hp : (10 : Int) ^ k ≤ 100000 := by
      have : k ≤ 5 := by omega
      have h5 : (10 : Nat) ^ k ≤ 10 ^ 5 := Nat.pow_le_pow_right (by omega) this
      have : ((10 ^ k : Nat) : Int) ≤ ((10 ^ 5 : Nat) : Int) := by exact_mod_cast h5
      simpa using this
    by_cases hl : k < s.length
    · have hd := dig_ok (s.getD k 0)
      rw [iterL_cont (v' := (s, 10 * n + dig (s.getD k 0), ((k + 1 : Nat) : Int), ()))]
      · rw [it41 s hs j (k + 1) _ (by omega) (by omega) (by rw [Int.pow_succ]; omega)]
        have e : (s.take 6).drop k = s.getD k 0 :: (s.take 6).drop (k + 1) := by
          rw [List.drop_eq_getElem_cons (by simp; omega)]
          simp [List.getD, hl]
        rw [e]
        rfl
      · show st41 s n (k : Int) = _
        unfold st41
        rw [if_pos (by omega), if_pos (by omega)]
        simp
    · rw [iterL_out (e := .exit 0) (o := (s, n, ()))]
      · rw [List.drop_eq_nil_of_le (by simp; omega)]
        rfl
      · show st41 s n (k : Int) = _
        unfold st41
        rw [if_pos (by omega), if_neg (by omega)]
theorem v41 (s : List UInt8) (n i : Int) (r : LRes S41_3) (hr : st41 s n i = some r) : (T41_3 s n i).val = some r := by
  unfold st41 at hr
  split at hr
  · rename_i hc
    have hd := dig_ok (s.getD i.toNat 0)
    unfold T41_3
    split at hr
    · rename_i h2
      rw [← hr]
      simp only [DT.val, decide_eq_true h2.1, decide_eq_true h2.2, cond_true]
      have : ixB i s.length = true := by
        simp only [ixB, decide_eq_true_eq]; omega
      rw [this, w_id (x := 10 * n) (by omega) (by omega), w_id (x := dig _) (by omega) (by omega), w_id (by omega) (by omega), w_id (x := i + 1) (by omega) (by omega)]
      rfl
    · rename_i h2
      rw [← hr]
      by_cases h3 : i < (s.length : Int)
      · have h4 : ¬ i < 6 := by omega
        simp only [DT.val, decide_eq_true h3, decide_eq_false h4, cond_true, cond_false]
      · simp only [DT.val, decide_eq_false h3, cond_false]
  · cases hr
theorem g41 (s : List UInt8) (n i : Int) (r : Sigma fun e => VD (S41_3.oV e)) (hr : (G41 s n i).val = some r) : ∃ m, iterL st41_3 m (s, n, i, ()) = some r := by
  unfold G41 at hr
  simp only [DT.val] at hr
  by_cases h1 : n = 0 ∧ i = 0
  · obtain ⟨rfl, rfl⟩ := h1
    by_cases h2 : s.length < 4611686018427387904
    · simp only [h2, decide_true, cond_true, and_self] at hr
      cases hr
      exact ⟨7, it41 s h2 6 0 0 rfl (by omega) (by omega)⟩
    · simp [h2] at hr
  · simp [h1] at hr
theorem lp41_3 : (LCon.of S41_3 st41_3 G41_3).Ok Tryz.prog Q 41 3 := loop_ok t1 (fn := Tryz.f41) (by kernel_rfl) (by kernel_rfl) (by kernel_rfl) (by kernel_rfl) rfl rfl (hso1 rfl)
  (fun v r hr => by
    obtain ⟨s, n, i, u⟩ := v
    exact ⟨T41_3 s n i, by kernel_rfl, v41 s n i r hr⟩)
  (fun v r hr => g41 v.1 v.2.1 v.2.2.1 r hr)
/-! ### text -/
noncomputable def okT (b : UInt8) : Bool := !(decide ((b.toNat : Int) < 32)) && !(decide ((b.toNat : Int) > 126))
noncomputable def st42 (s : List UInt8) (i : Int) : Option (LRes S42_2) := if 0 ≤ i ∧ s.length < 4611686018427387904 then
      (if i < (s.length : Int) then (bif okT (s.getD i.toNat 0) then some (.cont (s, i + 1, ())) else some (.out .ret (false, ()))) else some (.out (.exit 0) (s, ()))) else none
noncomputable def st42_2 (v : VD S42_2.vs) : Option (LRes S42_2) := st42 v.1 v.2.1
noncomputable def T42_2 (s : List UInt8) (i : Int) : DT (LRes S42_2) := .br (decide (i < (s.length : Int))) (.br (ixB i s.length) (.br (decide (((s.getD i.toNat 0).toNat : Int) < 32)) (.lf (.out .ret (false, ()))) (.br (ixB i s.length) (.br (decide (((s.getD i.toNat 0).toNat : Int) > 126)) (.lf (.out .ret (false, ()))) (.lf (.cont (s, w64 (i + 1), ())))) .no)) .no) (.lf (.out (.exit 0) (s, ())))
noncomputable def G42 (s : List UInt8) (i : Int) : DT (Sigma fun e => VD (S42_2.oV e)) := .br (decide (i = 0)) (.br (decide (s.length < 4611686018427387904)) (.br (s.all okT) (.lf ⟨.exit 0, (s, ())⟩) (.lf ⟨.ret, (false, ())⟩)) .no) .no
noncomputable def G42_2 (v : VD S42_2.vs) : DT (Sigma fun e => VD (S42_2.oV e)) := G42 v.1 v.2.1
theorem it42 (s : List UInt8) (hs : s.length < 4611686018427387904) : ∀ (j k : Nat), k + j = s.length → iterL st42_2 (j + 1) (s, (k : Int), ()) = some (bif (s.drop k).all okT then ⟨.exit 0, (s, ())⟩ else ⟨.ret, (false, ())⟩)
  | 0, k, hk => by
    rw [iterL_out (e := .exit 0) (o := (s, ()))]
    · rw [List.drop_eq_nil_of_le (by omega)]
      rfl
    · show st42 s (k : Int) = _
      unfold st42
      rw [if_pos (by omega), if_neg (by omega)]
  | j + 1, k, hk => by
    have hl : k < s.length := by omega
    have e : s.drop k = s.getD k 0 :: s.drop (k + 1) := by
      rw [List.drop_eq_getElem_cons hl]
      simp [List.getD, hl]
    rw [e, List.all_cons]
    cases hb : okT (s.getD k 0) with
    | true =>
      rw [iterL_cont (v' := (s, ((k + 1 : Nat) : Int), ()))]
      · exact it42 s hs j (k + 1) (by omega)
      · show st42 s (k : Int) = _
        unfold st42
        rw [if_pos (by omega), if_pos (by omega), Int.toNat_natCast, hb]
        rfl
    | false =>
      rw [iterL_out (e := .ret) (o := (false, ()))]
      · rfl
      · show st42 s (k : Int) = _
        unfold st42
        rw [if_pos (by omega), if_pos (by omega), Int.toNat_natCast, hb]
        rfl
theorem v42 (s : List UInt8) (i : Int) (r : LRes S42_2) (hr : st42 s i = some r) : (T42_2 s i).val = some r := by
  unfold st42 at hr
  split at hr
  · rename_i hc
    unfold T42_2
    split at hr
    · rename_i h2
      have h3 : ixB i s.length = true := by
        simp only [ixB, decide_eq_true_eq]; omega
      rw [← hr, w_id (x := i + 1) (by omega) (by omega)]
      simp only [DT.val, decide_eq_true h2, cond_true, h3]
      unfold okT
      cases decide (((s.getD i.toNat 0).toNat : Int) < 32) <;> cases decide (((s.getD i.toNat 0).toNat : Int) > 126) <;> rfl
    · rename_i h2
      rw [← hr]
      simp only [DT.val, decide_eq_false h2, cond_false]
  · cases hr
theorem g42 (s : List UInt8) (i : Int) (r : Sigma fun e => VD (S42_2.oV e)) (hr : (G42 s i).val = some r) : ∃ m, iterL st42_2 m (s, i, ()) = some r := by
  unfold G42 at hr
  simp only [DT.val] at hr
  by_cases h1 : i = 0
  · subst h1
    by_cases h2 : s.length < 4611686018427387904
    · simp only [h2, decide_true, cond_true] at hr
      refine ⟨s.length + 1, ?_⟩
      have := it42 s h2 s.length 0 (by omega)
      rw [List.drop_zero] at this
      refine this.trans ?_
      rw [← hr]
      cases s.all okT <;> rfl
    · simp [h2] at hr
  · simp [h1] at hr
theorem lp42_2 : (LCon.of S42_2 st42_2 G42_2).Ok Tryz.prog Q 42 2 := loop_ok t1 (fn := Tryz.f42) (by kernel_rfl) (by kernel_rfl) (by kernel_rfl) (by kernel_rfl) rfl rfl (hso2 rfl rfl)
  (fun v r hr => by
    obtain ⟨s, i, u⟩ := v
    exact ⟨T42_2 s i, by kernel_rfl, v42 s i r hr⟩)
  (fun v r hr => g42 v.1 v.2.1 r hr)
noncomputable def lt2 : Tr (List (Nat × LCon)) := Tr.put (some [(2, LCon.of S42_2 st42_2 G42_2)]) 31 (Tr.put (some [(3, LCon.of S41_3 st41_3 G41_3)]) 31 lt1 41) 42
theorem t2 : TOk Tryz.prog Q kt0 lt2 xt0 := (t1.addL (lp_one lp41_3 lp_nil) rfl).addL (lp_one lp42_2 lp_nil) rfl
end Go.Proofs.YtbhjimflcfnpaaaGreatDoor.Sd

set_option linter.all false
/-! Addresses, as the program and the document read them: plain. -/
namespace Pa
open Go Go.Lib Sdn
@[ext] structure Ip where
  a : Int
  b : Int
  c : Int
  d : Int
deriving Inhabited
@[ext] structure Addr where
  a : Int
  b : Int
  c : Int
  d : Int
  port : Int
def hd (t : ByteArray) : UInt8 := t.data.toList.headD 0
@[simp] theorem hd_mk (c : UInt8) : hd ⟨#[c]⟩ = c := rfl
def minI (a b : Int) : Int := if b < a then b else a
def ofL (l : List UInt8) : ByteArray := ⟨l.toArray⟩
def bl (s : ByteArray) : List UInt8 := s.data.toList
@[simp] theorem bl_ofL (l : List UInt8) : bl (ofL l) = l := rfl
@[simp] theorem bl_ofL' (l : List UInt8) : (ofL l).data.toList = l := rfl
@[simp] theorem ofL_bl (s : ByteArray) : ofL (bl s) = s := by cases s; simp [ofL, bl]
@[simp] theorem ofL_size (l : List UInt8) : (ofL l).size = l.length := by simp [ofL, ByteArray.size]
theorem bl_len (s : ByteArray) : (bl s).length = s.size := by cases s; simp [bl, ByteArray.size]
theorem ofL_extract (l : List UInt8) (a b : Nat) : (ofL l).extract a b = ofL ((l.take b).drop a) := by
  apply ByteArray.ext
  simp [ofL, ByteArray.data_extract, List.extract_eq_take_drop]
  rw [List.drop_take]

def splitL : List UInt8 → UInt8 → List (List UInt8)
  | [], _ => [[]]
  | b :: l, c => if b == c then [] :: splitL l c else (match splitL l c with
    | x :: r => (b :: x) :: r
    | [] => [[b]])
theorem splitL_ne : ∀ (l : List UInt8) (c : UInt8), ∃ x r, splitL l c = x :: r
  | [], _ => ⟨[], [], rfl⟩
  | b :: l, c => by
    obtain ⟨x, r, h⟩ := splitL_ne l c
    unfold splitL
    split
    · exact ⟨_, _, rfl⟩
    · rw [h]; exact ⟨_, _, rfl⟩
theorem index_none : ∀ {l : List UInt8} {c : UInt8}, l.count c = 0 → indexByte l c = -1
  | [], _, _ => rfl
  | b :: l, c, h => by
    by_cases hb : b = c
    · subst hb; simp at h
    · have h1 : l.count c = 0 := by simpa [List.count_cons, hb] using h
      unfold indexByte
      simp [hb, index_none h1]
theorem split_none : ∀ {l : List UInt8} {c : UInt8}, l.count c = 0 → splitL l c = [l]
  | [], _, _ => rfl
  | b :: l, c, h => by
    by_cases hb : b = c
    · subst hb; simp at h
    · have h1 : l.count c = 0 := by simpa [List.count_cons, hb] using h
      unfold splitL
      simp [hb, split_none h1]
theorem index_some : ∀ {l : List UInt8} {c : UInt8}, 0 < l.count c → ∃ m : Nat, indexByte l c = m ∧ m < l.length ∧ splitL l c = l.take m :: splitL (l.drop (m + 1)) c ∧ (l.drop (m + 1)).count c + 1 = l.count c
  | [], _, h => by simp at h
  | b :: l, c, h => by
    by_cases hb : b = c
    · subst hb
      exact ⟨0, by simp [indexByte], by simp, by simp [splitL], by simp⟩
    · have h1 : 0 < l.count c := by simpa [List.count_cons, hb] using h
      obtain ⟨m, e1, e2, e3, e4⟩ := index_some h1
      refine ⟨m + 1, ?_, by simp; omega, ?_, ?_⟩
      · unfold indexByte
        simp [hb, e1]
      · rw [splitL]
        simp [hb, e3]
      · simp [List.count_cons, hb, e4]
theorem split_len : ∀ (l : List UInt8) (c : UInt8), (splitL l c).length = l.count c + 1
  | [], _ => rfl
  | b :: l, c => by
    have := split_len l c
    by_cases hb : b = c
    · subst hb; simp [splitL, this]
    · obtain ⟨x, r, h⟩ := splitL_ne l c
      rw [h] at this
      simp [splitL, hb, h] at this ⊢
      omega

def indexZ (s t : ByteArray) : Int := indexByte (bl s) (hd t)
def splitZ (s t : ByteArray) : List ByteArray := (splitL (bl s) (hd t)).map ofL
def cutZ (s t : ByteArray) : ByteArray × ByteArray × Bool :=
  if 0 < (bl s).count (hd t) then (ofL ((bl s).take (indexZ s t).toNat), ofL ((bl s).drop ((indexZ s t).toNat + 1)), true) else (s, ofL [], false)
def num8 (p : ByteArray) : Int := IntKind.wrap .u8 (numberR p 255).1
def nok (p : ByteArray) : Bool := (numberR p 255).2
def ip0 : Ip := ⟨0, 0, 0, 0⟩
/-- The first i bytes are read. -/
def ipPart (p q r t : ByteArray) : Nat → Ip
  | 0 => ⟨0, 0, 0, 0⟩
  | 1 => ⟨num8 p, 0, 0, 0⟩
  | 2 => ⟨num8 p, num8 q, 0, 0⟩
  | 3 => ⟨num8 p, num8 q, num8 r, 0⟩
  | _ => ⟨num8 p, num8 q, num8 r, num8 t⟩
def restOk (p q r t : ByteArray) : Nat → Bool
  | 0 => nok p && nok q && nok r && nok t
  | 1 => nok q && nok r && nok t
  | 2 => nok r && nok t
  | 3 => nok t
  | _ => true
def readF (p q r t : ByteArray) (i : Nat) : Ip × Int := if restOk p q r t i = true then (ipPart p q r t 4, 0) else (ip0, 7)
def readIP (s : ByteArray) : Ip × Int :=
  match splitZ s ⟨#[46]⟩ with
  | [p, q, r, t] => readF p q r t 0
  | _ => (ip0, 7)
theorem four {α : Type} (l : List α) : (∃ p q r t, l = [p, q, r, t]) ∨ l.length ≠ 4 := by
  rcases l with _ | ⟨p, _ | ⟨q, _ | ⟨r, _ | ⟨t, _ | ⟨u, l⟩⟩⟩⟩⟩ <;> simp
theorem readIP_short {s : ByteArray} (h : (splitZ s ⟨#[46]⟩).length ≠ 4) : readIP s = (ip0, 7) := by
  unfold readIP
  split
  · rename_i e; rw [e] at h; exact absurd rfl h
  · rfl
theorem readIP_four {s p q r t : ByteArray} (h : splitZ s ⟨#[46]⟩ = [p, q, r, t]) : readIP s = readF p q r t 0 := by
  unfold readIP
  rw [h]
def addr0 : Addr := ⟨0, 0, 0, 0, 0⟩
def readOk (s : ByteArray) : Bool := (cutZ s ⟨#[58]⟩).2.2 && (readIP (cutZ s ⟨#[58]⟩).1).2 == 0 && (numberR (cutZ s ⟨#[58]⟩).2.1 65535).2
def readA (s : ByteArray) : Addr × Int :=
  if readOk s = true then (let a := (readIP (cutZ s ⟨#[58]⟩).1).1
    (⟨a.a, a.b, a.c, a.d, IntKind.wrap .u16 (numberR (cutZ s ⟨#[58]⟩).2.1 65535).1⟩, 0)) else (addr0, 7)
def dd (n : Int) : List UInt8 := Lib.decDigits n.toNat
theorem dd_fold (n : Int) : Lib.decDigits n.toNat = dd n := rfl
@[simp] theorem bl_mk1 (c : UInt8) : bl ⟨#[c]⟩ = [c] := rfl
structure LowIp (a : Ip) : Prop where
  a0 : 0 ≤ a.a
  a1 : a.a < 256
  b0 : 0 ≤ a.b
  b1 : a.b < 256
  c0 : 0 ≤ a.c
  c1 : a.c < 256
  d0 : 0 ≤ a.d
  d1 : a.d < 256
def writeIP (a : Ip) : ByteArray := ofL (Lib.join [dd a.a, dd a.b, dd a.c, dd a.d] [46])
theorem dd_lenN : ∀ (k n : Nat), n < 10 ^ (k + 1) → (Lib.decDigits n).length ≤ k + 1
  | 0, n, h => by rw [Lib.decDigits, dif_pos (by simpa using h)]; simp
  | k + 1, n, h => by
    rw [Lib.decDigits]
    split
    · simp
    · have := dd_lenN k (n / 10) (by rw [Nat.pow_succ] at h; omega)
      simp; omega
theorem dd_len {n : Int} (h : n < 100000) : (dd n).length ≤ 5 := dd_lenN 4 _ (by omega)
theorem writeIP_len {a : Ip} (h : LowIp a) : (Lib.join [dd a.a, dd a.b, dd a.c, dd a.d] [46]).length ≤ 100000 := by
  have h1 := dd_len (Int.lt_trans h.a1 (by decide))
  have h2 := dd_len (Int.lt_trans h.b1 (by decide))
  have h3 := dd_len (Int.lt_trans h.c1 (by decide))
  have h4 := dd_len (Int.lt_trans h.d1 (by decide))
  simp [Lib.join]
  omega
def ipOf (a : Addr) : Ip := ⟨a.a, a.b, a.c, a.d⟩
def writeA (a : Addr) : ByteArray := writeIP (ipOf a) ++ ⟨#[58]⟩ ++ ofL (dd a.port)
structure LowA (a : Addr) : Prop where
  ip : LowIp (ipOf a)
  p0 : 0 ≤ a.port
  p1 : a.port < 65536
def isDig (c : UInt8) : Prop := 48 ≤ c.toNat ∧ c.toNat ≤ 57
theorem of48 {d : Nat} (h : d < 10) : (UInt8.ofNat (48 + d)).toNat = 48 + d := by
  rw [UInt8.toNat_ofNat']; omega
theorem dig48 {d : Nat} (h : d < 10) : isDig (UInt8.ofNat (48 + d)) := by
  unfold isDig
  rw [of48 h]; omega
theorem dec_dig : ∀ (k n : Nat), n < k → ∀ c ∈ decDigits n, isDig c
  | 0, n, h, c, hc => by omega
  | k + 1, n, h, c, hc => by
    rw [decDigits] at hc
    split at hc
    · rename_i h1
      simp only [List.mem_singleton] at hc
      subst hc
      exact dig48 h1
    · rename_i h1
      rcases List.mem_append.1 hc with hc | hc
      · exact dec_dig k (n / 10) (by omega) c hc
      · simp only [List.mem_singleton] at hc
        subst hc
        exact dig48 (by omega)
theorem dd_dig {n : Int} {c : UInt8} (h : c ∈ dd n) : isDig c := dec_dig _ _ (Nat.lt_succ_self _) c h
theorem dd_no {n : Int} {c : UInt8} (h : c.toNat < 48 ∨ 57 < c.toNat) : c ∉ dd n := fun hc => by
  have := dd_dig hc
  unfold isDig at this
  omega
theorem dec_ne (n : Nat) : decDigits n ≠ [] := by
  rw [decDigits]
  split <;> simp
theorem dd_ne (n : Int) : dd n ≠ [] := dec_ne _
/-! ### The number of a text, by its bytes -/
def numL (most : Int) : List UInt8 → Bool → Int → Option Int
  | [], _, n => some n
  | c :: l, inner, n => if (c.toNat : Int) < 48 ∨ 57 < (c.toNat : Int) ∨ (inner = true ∧ n = 0) then none
      else if most < 10 * n + ((c.toNat : Int) - 48) then none else numL most l true (10 * n + ((c.toNat : Int) - 48))
theorem drop_bl (s : ByteArray) (pos : Nat) (h : pos < s.size) : (bl s).drop pos = s[pos] :: (bl s).drop (pos + 1) := by
  have h2 : pos < (bl s).length := by rw [bl_len]; exact h
  rw [List.drop_eq_getElem_cons h2]
  rfl
theorem numF_numL (s : ByteArray) (most : Int) : ∀ (b pos : Nat) (n : Int), s.size ≤ pos + b → numF s most b pos n = numL most ((bl s).drop pos) (decide (0 < pos)) n
  | 0, pos, n, h => by
    have : (bl s).drop pos = [] := List.drop_eq_nil_of_le (by rw [bl_len]; omega)
    rw [this]; rfl
  | b + 1, pos, n, h => by
    by_cases hp : pos < s.size
    · rw [drop_bl s pos hp]
      by_cases ha : (s[pos]'hp).toNat < 128
      · have hd := decode_ascii s pos hp ha
        have ih := numF_numL s most b (pos + 1) (10 * n + (((s[pos]'hp).toNat : Int) - 48)) (by omega)
        simp only [numF, hp, if_true, hd, numL, ih, Nat.zero_lt_succ, decide_true, decide_eq_true_eq]
      · have hd := (decode_high s pos hp (by omega)).1
        simp only [numF, hp, if_true, numL]
        rw [if_pos (by omega), if_pos (by omega)]
    · have : (bl s).drop pos = [] := List.drop_eq_nil_of_le (by rw [bl_len]; omega)
      rw [this, numF_end s most _ pos n hp]; rfl
theorem numberR_eq (s : ByteArray) (most : Int) : numberR s most = match numL most (bl s) false 0 with
    | some n => (n, !(bl s).isEmpty)
    | none => (0, false) := by
  have h := numF_numL s most s.size 0 0 (by omega)
  simp only [List.drop_zero, Nat.lt_irrefl, decide_false] at h
  unfold numberR
  rw [h, ByteArray.toList_eq]
  rfl
theorem numL_app (most : Int) : ∀ (l1 l2 : List UInt8) (f : Bool) (n : Int), numL most (l1 ++ l2) f n = (numL most l1 f n).bind fun m => numL most l2 (f || !l1.isEmpty) m
  | [], l2, f, n => by simp [numL]
  | c :: l, l2, f, n => by
    simp only [List.cons_append, numL]
    split
    · rfl
    · split
      · rfl
      · rw [numL_app most l l2 true]
        simp
theorem numL_one {most n : Int} {d : Nat} (f : Bool) (hd : d < 10) (h1 : f = true → n ≠ 0) (h : 10 * n + d ≤ most) : numL most [UInt8.ofNat (48 + d)] f n = some (10 * n + d) := by
  have e := of48 hd
  simp only [numL, e]
  have e2 : ¬ (((48 + d : Nat) : Int) < 48 ∨ 57 < ((48 + d : Nat) : Int) ∨ (f = true ∧ n = 0)) := by
    rintro (h | h | ⟨h, h2⟩)
    · omega
    · omega
    · exact h1 h h2
  rw [if_neg e2, if_neg (by omega)]
  congr 1; omega
theorem numL_dec (most : Int) : ∀ (k n : Nat), n < k → (n : Int) ≤ most → numL most (decDigits n) false 0 = some (n : Int)
  | 0, n, h, _ => by omega
  | k + 1, n, h, hm => by
    rw [decDigits]
    split
    · rename_i h1
      have := numL_one (most := most) (n := 0) (d := n) false h1 (by simp) (by omega)
      simpa using this
    · rename_i h1
      rw [numL_app, numL_dec most k (n / 10) (by omega) (by omega)]
      simp only [Option.bind_some, Bool.false_or]
      have := numL_one (most := most) (n := ((n / 10 : Nat) : Int)) (d := n % 10) (!(decDigits (n / 10)).isEmpty) (by omega) (fun _ => by omega) (by omega)
      rw [this]
      congr 1; omega
theorem numL_inv (most : Int) : ∀ (k : Nat) (l : List UInt8) (m : Int), l.length = k → l ≠ [] → numL most l false 0 = some m → l = decDigits m.toNat ∧ 0 ≤ m ∧ m ≤ most
  | 0, l, m, hk, hl, h => absurd (List.length_eq_zero_iff.1 hk) hl
  | k + 1, l, m, hk, hl, h => by
    have e := List.dropLast_concat_getLast hl
    generalize l.getLast hl = c at e
    have hlen : l.dropLast.length = k := by simp [hk]
    generalize l.dropLast = p at e hlen
    subst e
    rw [numL_app] at h
    obtain ⟨n, h1, h2⟩ := Option.bind_eq_some_iff.1 h
    simp only [Bool.false_or, numL] at h2
    split at h2
    · cases h2
    rename_i hc
    split at h2
    · cases h2
    rename_i hm
    have hc1 : ¬ (c.toNat : Int) < 48 := fun e => hc (.inl e)
    have hc2 : ¬ 57 < (c.toNat : Int) := fun e => hc (.inr (.inl e))
    simp only [Option.some.injEq] at h2
    have hce : c = UInt8.ofNat (48 + (c.toNat - 48)) := by
      rw [show 48 + (c.toNat - 48) = c.toNat by omega, UInt8.ofNat_toNat]
    by_cases hp : p = []
    · subst hp
      simp only [numL, Option.some.injEq] at h1
      subst h1
      have hmn : m.toNat = c.toNat - 48 := by omega
      rw [decDigits, dif_pos (by omega), hmn, ← hce]
      exact ⟨rfl, by omega, by omega⟩
    · obtain ⟨i1, i2, i3⟩ := numL_inv most k p n hlen hp h1
      have hn : n ≠ 0 := fun e => hc (.inr (.inr ⟨by cases p with | nil => exact absurd rfl hp | cons => rfl, e⟩))
      have hq : m.toNat / 10 = n.toNat := by omega
      have hr : m.toNat % 10 = c.toNat - 48 := by omega
      rw [decDigits, dif_neg (by omega), hq, hr, ← hce, ← i1]
      exact ⟨rfl, by omega, by omega⟩
theorem numberR_dd {n most : Int} (h0 : 0 ≤ n) (h1 : n ≤ most) : numberR (ofL (dd n)) most = (n, true) := by
  rw [numberR_eq, bl_ofL]
  have := numL_dec most _ n.toNat (Nat.lt_succ_self _) (by omega)
  unfold dd
  rw [this]
  have h2 : (decDigits n.toNat).isEmpty = false := by
    have := dec_ne n.toNat
    cases h : decDigits n.toNat with
    | nil => exact absurd h this
    | cons => rfl
  rw [h2]
  simp only [Bool.not_false, Prod.mk.injEq, and_true]
  omega
theorem numberR_inv {s : ByteArray} {most : Int} (h : (numberR s most).2 = true) : ∃ n, numberR s most = (n, true) ∧ 0 ≤ n ∧ n ≤ most ∧ s = ofL (dd n) := by
  rw [numberR_eq] at h ⊢
  cases hn : numL most (bl s) false 0 with
  | none => rw [hn] at h; cases h
  | some m =>
    rw [hn] at h
    simp only at h ⊢
    have hne : bl s ≠ [] := by
      intro e
      rw [e] at h
      cases h
    obtain ⟨i1, i2, i3⟩ := numL_inv most _ (bl s) m rfl hne hn
    refine ⟨m, by rw [h], i2, i3, ?_⟩
    rw [← ofL_bl s, i1]; rfl
/-! ### Splitting and joining -/
theorem split_app {c : UInt8} : ∀ {x : List UInt8} (r : List UInt8), c ∉ x → splitL (x ++ c :: r) c = x :: splitL r c
  | [], r, _ => by simp [splitL]
  | b :: x, r, h => by
    have hb : b ≠ c := fun e => h (by simp [e])
    have hx : c ∉ x := fun e => h (List.mem_cons_of_mem _ e)
    rw [List.cons_append, splitL]
    simp [hb, split_app r hx]
theorem split_free {c : UInt8} {l : List UInt8} (h : c ∉ l) : splitL l c = [l] := split_none (List.count_eq_zero.2 h)
theorem split_no {c : UInt8} : ∀ (l : List UInt8), ∀ x ∈ splitL l c, c ∉ x
  | [], x, h => by simp [splitL] at h; subst h; simp
  | b :: l, x, h => by
    by_cases hb : b = c
    · subst hb
      simp [splitL] at h
      rcases h with rfl | h
      · simp
      · exact split_no l x h
    · obtain ⟨y, r, e⟩ := splitL_ne l c
      have ih := split_no (c := c) l
      rw [e] at ih
      simp [splitL, hb, e] at h
      rcases h with rfl | h
      · intro hc
        rcases List.mem_cons.1 hc with rfl | hc
        · exact hb rfl
        · exact ih y (by simp) hc
      · exact ih x (by simp [h])
theorem join_cons2 (x y : List UInt8) (r : List (List UInt8)) (sep : List UInt8) : join (x :: y :: r) sep = x ++ sep ++ join (y :: r) sep := by
  simp [join, List.intercalate]
theorem split_join {c : UInt8} : ∀ (l : List UInt8), join (splitL l c) [c] = l
  | [] => by simp [splitL, join_one]
  | b :: l => by
    have ih := split_join (c := c) l
    obtain ⟨y, r, e⟩ := splitL_ne l c
    rw [e] at ih
    by_cases hb : b = c
    · subst hb
      simp only [splitL, beq_self_eq_true, if_true, e, join_cons2, List.nil_append]
      rw [ih]; rfl
    · have hs : splitL (b :: l) c = (b :: y) :: r := by simp [splitL, hb, e]
      rw [hs]
      cases r with
      | nil => simp only [join_one] at ih ⊢; rw [ih]
      | cons z r =>
        rw [join_cons2] at ih ⊢
        rw [← ih]; simp
/-! ### Hosts' addresses -/
theorem join4 (p q r t : List UInt8) (c : UInt8) : join [p, q, r, t] [c] = p ++ c :: (q ++ c :: (r ++ c :: t)) := by
  simp [join_cons2, join_one]
theorem split4 {p q r t : List UInt8} {c : UInt8} (h1 : c ∉ p) (h2 : c ∉ q) (h3 : c ∉ r) (h4 : c ∉ t) : splitL (join [p, q, r, t] [c]) c = [p, q, r, t] := by
  rw [join4, split_app _ h1, split_app _ h2, split_app _ h3, split_free h4]
theorem wrap8 {n : Int} (h0 : 0 ≤ n) (h1 : n ≤ 255) : IntKind.wrap .u8 n = n := by
  simp [IntKind.wrap, IntKind.bits, IntKind.signed]
  omega
theorem wrap16 {n : Int} (h0 : 0 ≤ n) (h1 : n ≤ 65535) : IntKind.wrap .u16 n = n := by
  simp [IntKind.wrap, IntKind.bits, IntKind.signed]
  omega
theorem readIP_write {a : Ip} (h : LowIp a) : readIP (writeIP a) = (a, 0) := by
  have n46 : ∀ n : Int, (46 : UInt8) ∉ dd n := fun n => dd_no (by decide)
  have hs : splitZ (writeIP a) ⟨#[46]⟩ = [ofL (dd a.a), ofL (dd a.b), ofL (dd a.c), ofL (dd a.d)] := by
    show (splitL (bl (ofL _)) 46).map ofL = _
    rw [bl_ofL, split4 (n46 _) (n46 _) (n46 _) (n46 _)]; rfl
  obtain ⟨a0, a1, b0, b1, c0, c1, d0, d1⟩ := h
  rw [readIP_four hs]
  simp only [readF, restOk, nok, num8, ipPart, numberR_dd a0 (by omega : a.a ≤ 255), numberR_dd b0 (by omega : a.b ≤ 255), numberR_dd c0 (by omega : a.c ≤ 255), numberR_dd d0 (by omega : a.d ≤ 255)]
  rw [wrap8 a0 (by omega), wrap8 b0 (by omega), wrap8 c0 (by omega), wrap8 d0 (by omega)]
  rfl
theorem readIP_cases (s : ByteArray) : (∃ a, LowIp a ∧ s = writeIP a ∧ readIP s = (a, 0)) ∨ readIP s = (ip0, 7) := by
  rcases four (splitZ s ⟨#[46]⟩) with ⟨p, q, r, t, h⟩ | h
  · rw [readIP_four h]
    by_cases hk : restOk p q r t 0 = true
    · left
      simp only [restOk, Bool.and_eq_true, nok] at hk
      obtain ⟨⟨⟨k1, k2⟩, k3⟩, k4⟩ := hk
      obtain ⟨n1, e1, l1, u1, s1⟩ := numberR_inv k1
      obtain ⟨n2, e2, l2, u2, s2⟩ := numberR_inv k2
      obtain ⟨n3, e3, l3, u3, s3⟩ := numberR_inv k3
      obtain ⟨n4, e4, l4, u4, s4⟩ := numberR_inv k4
      refine ⟨⟨n1, n2, n3, n4⟩, ⟨l1, by show n1 < 256; omega, l2, by show n2 < 256; omega, l3, by show n3 < 256; omega, l4, by show n4 < 256; omega⟩, ?_, ?_⟩
      · have hj := split_join (c := 46) (bl s)
        have hz : splitL (bl s) 46 = [dd n1, dd n2, dd n3, dd n4] := by
          have h2 : (splitL (bl s) 46).map ofL = [p, q, r, t] := h
          rw [s1, s2, s3, s4] at h2
          have h3 := congrArg (List.map bl) h2
          rw [List.map_map] at h3
          have : (bl ∘ ofL) = id := rfl
          rw [this, List.map_id] at h3
          exact h3
        rw [hz] at hj
        rw [← ofL_bl s, ← hj]; rfl
      · simp only [readF, restOk, nok, num8, ipPart, e1, e2, e3, e4]
        rw [wrap8 l1 u1, wrap8 l2 u2, wrap8 l3 u3, wrap8 l4 u4]
        rfl
    · right
      unfold readF
      rw [if_neg hk]
  · exact .inr (readIP_short h)
/-! ### With a port -/
theorem index_app {c : UInt8} : ∀ {x : List UInt8} (r : List UInt8), c ∉ x → indexByte (x ++ c :: r) c = x.length
  | [], r, _ => by simp [indexByte]
  | b :: x, r, h => by
    have hb : b ≠ c := fun e => h (by simp [e])
    have hx : c ∉ x := fun e => h (List.mem_cons_of_mem _ e)
    have ih := index_app r hx
    rw [List.cons_append, indexByte]
    simp [hb, ih]
theorem cut_app {x r : List UInt8} {c : UInt8} (h : c ∉ x) : cutZ (ofL (x ++ c :: r)) ⟨#[c]⟩ = (ofL x, ofL r, true) := by
  have h1 : 0 < (bl (ofL (x ++ c :: r))).count (hd ⟨#[c]⟩) := by
    rw [bl_ofL, hd_mk]
    exact List.count_pos_iff.2 (by simp)
  have h2 : indexZ (ofL (x ++ c :: r)) ⟨#[c]⟩ = x.length := index_app r h
  unfold cutZ
  rw [if_pos h1, h2, bl_ofL]
  simp
theorem cut_inv {s : ByteArray} {c : UInt8} (h : (cutZ s ⟨#[c]⟩).2.2 = true) : ∃ x r, bl s = x ++ c :: r ∧ c ∉ x ∧ cutZ s ⟨#[c]⟩ = (ofL x, ofL r, true) := by
  have hm : c ∈ bl s := by
    unfold cutZ at h
    split at h
    · rename_i h1; exact List.count_pos_iff.1 h1
    · cases h
  obtain ⟨x, r, e, hn⟩ := List.eq_append_cons_of_mem hm
  exact ⟨x, r, e, hn, by rw [← ofL_bl s, e]; exact cut_app hn⟩
def ipA (a : Addr) : Ip := ipOf a
theorem addr_eta (a : Addr) : a = ⟨(ipOf a).a, (ipOf a).b, (ipOf a).c, (ipOf a).d, a.port⟩ := rfl
theorem writeA_bl (a : Addr) : bl (writeA a) = bl (writeIP (ipOf a)) ++ 58 :: dd a.port := by
  simp [writeA, bl, ofL, ByteArray.data_append]
theorem ip_no {a : Ip} {c : UInt8} (h1 : c.toNat < 48 ∨ 57 < c.toNat) (h2 : c ≠ 46) : c ∉ bl (writeIP a) := by
  have e : bl (writeIP a) = join [dd a.a, dd a.b, dd a.c, dd a.d] [46] := rfl
  rw [e, join4]
  simp [h2, dd_no h1]
theorem readA_write {a : Addr} (h : LowA a) : readA (writeA a) = (a, 0) := by
  have hc : cutZ (writeA a) ⟨#[58]⟩ = (writeIP (ipOf a), ofL (dd a.port), true) := by
    have := cut_app (x := bl (writeIP (ipOf a))) (r := dd a.port) (c := 58) (ip_no (by decide) (by decide))
    rw [← writeA_bl, ofL_bl, ofL_bl] at this
    exact this
  have hp := numberR_dd h.p0 (by have := h.p1; omega : a.port ≤ 65535)
  have hi := readIP_write h.ip
  unfold readA
  have hok : readOk (writeA a) = true := by simp [readOk, hc, hp, hi]
  rw [if_pos hok]
  simp only [hc, hp, hi]
  rw [wrap16 h.p0 (by have := h.p1; omega)]
  rfl
theorem readA_cases (s : ByteArray) : (∃ a, LowA a ∧ s = writeA a ∧ readA s = (a, 0)) ∨ readA s = (addr0, 7) := by
  by_cases hk : readOk s = true
  · left
    have hk2 := hk
    unfold readOk at hk
    simp only [Bool.and_eq_true, beq_iff_eq] at hk
    obtain ⟨⟨k1, k2⟩, k3⟩ := hk
    obtain ⟨x, r, e1, e2, e3⟩ := cut_inv k1
    rw [e3] at k2 k3
    simp only at k2 k3
    obtain ⟨n, g1, g2, g3, g4⟩ := numberR_inv k3
    rcases readIP_cases (ofL x) with ⟨a, f1, f2, f3⟩ | f
    · refine ⟨⟨a.a, a.b, a.c, a.d, n⟩, ⟨f1, g2, by show n < 65536; omega⟩, ?_, ?_⟩
      · have h1 : bl s = bl (writeA ⟨a.a, a.b, a.c, a.d, n⟩) := by
          rw [writeA_bl, e1]
          have h2 : x = bl (writeIP a) := by rw [← f2, bl_ofL]
          have h3 : r = dd n := by have := congrArg bl g4; simpa using this
          rw [h2, h3]
          rfl
        rw [← ofL_bl s, h1, ofL_bl]
      · unfold readA
        rw [if_pos hk2]
        simp only [e3, f3, g1]
        rw [wrap16 g2 g3]
    · rw [f] at k2
      exact absurd k2 (by decide)
  · right
    unfold readA
    rw [if_neg hk]
/-! ### Unlike addresses are written unlike; which texts are which -/
def numsGo : List UInt8 → List Int → Int → List Int
  | [], ds, n => ds ++ [n]
  | c :: l, ds, n => if ((c.toNat : Nat) : Int) < 48 ∨ 57 < ((c.toNat : Nat) : Int) then numsGo l (ds ++ [n]) 0 else numsGo l ds (minI (10 * n + (((c.toNat : Nat) : Int) - 48)) 99999)
def numsR (s : ByteArray) : List Int := numsGo (bl s) [] 0
theorem nums_one {d n : Nat} (hd : d < 10) (hn : 10 * n + d ≤ 99999) (l : List UInt8) (ds : List Int) : numsGo (UInt8.ofNat (48 + d) :: l) ds n = numsGo l ds ((10 * n + d : Nat) : Int) := by
  have e := of48 hd
  simp only [numsGo, e]
  rw [if_neg (by omega)]
  congr 1
  unfold minI
  rw [if_neg (by omega)]
  omega
theorem nums_dec : ∀ (k n : Nat), n < k → n ≤ 99999 → ∀ (l : List UInt8) (ds : List Int), numsGo (Lib.decDigits n ++ l) ds 0 = numsGo l ds (n : Int)
  | 0, n, h, _, l, ds => by omega
  | k + 1, n, h, hm, l, ds => by
    rw [Lib.decDigits]
    split
    · rename_i h1
      have := nums_one (d := n) (n := 0) h1 (by omega) l ds
      simpa using this
    · rename_i h1
      rw [List.append_assoc, nums_dec k (n / 10) (by omega) (by omega)]
      have := nums_one (d := n % 10) (n := n / 10) (by omega) (by omega) l ds
      rw [List.cons_append, List.nil_append, this]
      congr 2
      omega
theorem nums_dd {n : Int} (h0 : 0 ≤ n) (h1 : n ≤ 99999) (l : List UInt8) (ds : List Int) : numsGo (dd n ++ l) ds 0 = numsGo l ds n := by
  have := nums_dec _ n.toNat (Nat.lt_succ_self _) (by omega) l ds
  unfold dd
  rw [this]
  congr 1; omega
theorem nums_sep {c : UInt8} (h : ((c.toNat : Nat) : Int) < 48 ∨ 57 < ((c.toNat : Nat) : Int)) (l : List UInt8) (ds : List Int) (n : Int) : numsGo (c :: l) ds n = numsGo l (ds ++ [n]) 0 := by
  simp only [numsGo]
  rw [if_pos h]
theorem nums_end {n : Int} (h0 : 0 ≤ n) (h1 : n ≤ 99999) (ds : List Int) : numsGo (dd n) ds 0 = ds ++ [n] := by
  have := nums_dd h0 h1 [] ds
  rw [List.append_nil] at this
  rw [this]; rfl
theorem nums_write {a : Addr} (h : LowA a) : numsR (writeA a) = [a.a, a.b, a.c, a.d, a.port] := by
  obtain ⟨⟨a0, a1, b0, b1, c0, c1, d0, d1⟩, p0, p1⟩ := h
  simp only [ipOf] at a0 a1 b0 b1 c0 c1 d0 d1
  have e : bl (writeIP (ipOf a)) = Lib.join [dd a.a, dd a.b, dd a.c, dd a.d] [46] := rfl
  unfold numsR
  rw [writeA_bl, e, join4]
  simp only [List.append_assoc, List.cons_append]
  rw [nums_dd a0 (by omega), nums_sep (by decide), nums_dd b0 (by omega), nums_sep (by decide), nums_dd c0 (by omega), nums_sep (by decide), nums_dd d0 (by omega), nums_sep (by decide), nums_end p0 (by omega)]
  rfl
/-- The address of a text's five numbers. -/
def docA (s : ByteArray) : Addr :=
  match numsR s with
  | [n0, n1, n2, n3, n4] => ⟨IntKind.wrap .u8 n0, IntKind.wrap .u8 n1, IntKind.wrap .u8 n2, IntKind.wrap .u8 n3, IntKind.wrap .u16 n4⟩
  | _ => addr0
theorem five {α : Type} (l : List α) : (∃ p q r t u, l = [p, q, r, t, u]) ∨ l.length ≠ 5 := by
  rcases l with _ | ⟨p, _ | ⟨q, _ | ⟨r, _ | ⟨t, _ | ⟨u, _ | ⟨v, l⟩⟩⟩⟩⟩⟩ <;> simp
theorem wr_u8 (n : Int) : 0 ≤ IntKind.wrap .u8 n ∧ IntKind.wrap .u8 n < 256 := by
  simp [IntKind.wrap, IntKind.bits, IntKind.signed]
  omega
theorem wr_u16 (n : Int) : 0 ≤ IntKind.wrap .u16 n ∧ IntKind.wrap .u16 n < 65536 := by
  simp [IntKind.wrap, IntKind.bits, IntKind.signed]
  omega
theorem docA_low (s : ByteArray) : LowA (docA s) := by
  unfold docA
  split
  · rename_i n0 n1 n2 n3 n4 _
    exact ⟨⟨(wr_u8 n0).1, (wr_u8 n0).2, (wr_u8 n1).1, (wr_u8 n1).2, (wr_u8 n2).1, (wr_u8 n2).2, (wr_u8 n3).1, (wr_u8 n3).2⟩, (wr_u16 n4).1, (wr_u16 n4).2⟩
  · exact ⟨⟨by decide, by decide, by decide, by decide, by decide, by decide, by decide, by decide⟩, by decide, by decide⟩
theorem docA_write {a : Addr} (h : LowA a) : docA (writeA a) = a := by
  have h1 := h.ip
  obtain ⟨⟨a0, a1, b0, b1, c0, c1, d0, d1⟩, p0, p1⟩ := h
  simp only [ipOf] at a0 a1 b0 b1 c0 c1 d0 d1
  unfold docA
  rw [nums_write ⟨h1, p0, p1⟩]
  simp only
  rw [wrap8 a0 (by omega), wrap8 b0 (by omega), wrap8 c0 (by omega), wrap8 d0 (by omega), wrap16 p0 (by omega)]
theorem readA_doc (s : ByteArray) : readA s = if (numsR s).length = 5 ∧ writeA (docA s) = s then (docA s, 0) else (addr0, 7) := by
  split
  · rename_i h
    have := readA_write (docA_low s)
    rw [h.2] at this
    exact this
  · rename_i h
    rcases readA_cases s with ⟨a, h1, h2, h3⟩ | h3
    · exfalso
      apply h
      rw [h2, docA_write h1, nums_write h1]
      exact ⟨rfl, rfl⟩
    · exact h3
end Pa

set_option linter.all false
/-! The numbers of a text, as the document has them. -/
namespace Go.Proofs.YtbhjimflcfnpaaaGreatDoor.Sd
open Go Go.Proofs Mo

noncomputable abbrev S66_3 : LS := ⟨51, [0, 3, 4], [.t (.v (.str)), .o (.one (.int .i64)) 3, .t (.v (.int .i64))], [5, 7, 8, 9, 10, 11, 12, 13, 14, 15, 16, 17, 18, 19, 20, 21, 22, 23, 24, 25, 26, 27, 28, 29, 30, 31, 32, 33, 34, 35, 36, 37, 38, 39, 40, 41, 42, 43, 44, 45, 46, 47, 48, 49], fun e => Ex.rec (motive := fun _ => List Nat) [] (fun i => [3]) [] e, fun e => Ex.rec (motive := fun _ => List VT) [] (fun i => [.o (.one (.int .i64)) 3]) [] e⟩
noncomputable def mn66 (n : Int) (c : UInt8) : Int := mnI false (w64 (w64 (10 * n) + w64 (dig c))) 99999
noncomputable def st66 (s : List UInt8) (L : List Int) (i : Int) : Option (LRes S66_3) := match L.reverse with
  | [] => none
  | n :: r => if 0 ≤ i ∧ s.length < 1073741824 ∧ r.length < 1073741824 ∧ 0 ≤ n ∧ n ≤ 99999 then
      (if i < (s.length : Int) then (if ((s.getD i.toNat 0).toNat : Int) < 48 ∨ 57 < ((s.getD i.toNat 0).toNat : Int) then some (.cont (s, some (L ++ [0]), i + 1, ())) else
          some (.cont (s, some (r.reverse ++ [Pa.minI (10 * n + (((s.getD i.toNat 0).toNat : Int) - 48)) 99999]), i + 1, ())))
        else some (.out (.exit 0) (some L, ()))) else none
noncomputable def st66_3 (v : VD S66_3.vs) : Option (LRes S66_3) := match v.2.1 with
  | none => none
  | some L => st66 v.1 L v.2.2.1
noncomputable def T66_3 (s : List UInt8) (L : List Int) (i : Int) : DT (LRes S66_3) :=
  .br (decide (i < (s.length : Int))) (.br (ixB i s.length) (.br (decide (((s.getD i.toNat 0).toNat : Int) < 48)) (.br (appB (L ++ [0]).length 8) (.lf (.cont (s, some (L ++ [0]), w64 (i + 1), ()))) .no)
    (.br (ixB i s.length) (.br (decide (((s.getD i.toNat 0).toNat : Int) > 57)) (.br (appB (L ++ [0]).length 8) (.lf (.cont (s, some (L ++ [0]), w64 (i + 1), ()))) .no)
      (.br (cutOk L.length none (some (w64 (L.length - 1))) none) (.br (appB ([] ++ cutL L none (some (w64 (L.length - 1)))).length 8) (.br (ixB (w64 (L.length - 1)) L.length) (.br (ixB i s.length)
        (.br (appB (([] ++ cutL L none (some (w64 (L.length - 1)))) ++ [mn66 (L.getD (w64 (L.length - 1)).toNat 0) (s.getD i.toNat 0)]).length 8) (.lf (.cont (s, some (([] ++ cutL L none (some (w64 (L.length - 1)))) ++ [mn66 (L.getD (w64 (L.length - 1)).toNat 0) (s.getD i.toNat 0)]), w64 (i + 1), ()))) .no) .no) .no) .no) .no)) .no)) .no) (.lf (.out (.exit 0) (some L, ())))
noncomputable def G66 (s : List UInt8) (L : Option (List Int)) (i : Int) : DT (Sigma fun e => VD (S66_3.oV e)) := match L with
  | none => .no
  | some L => .br (decide (i = 0 ∧ L = [0])) (.br (decide (s.length < 1073741824)) (.lf ⟨.exit 0, (some (Pa.numsGo s [] 0), ())⟩) .no) .no
noncomputable def G66_3 (v : VD S66_3.vs) : DT (Sigma fun e => VD (S66_3.oV e)) := G66 v.1 v.2.1 v.2.2.1
theorem appB8 {n : Nat} (h : n < 1100000000) : appB n 8 = true := by
  unfold appB
  rw [Bool.and_eq_true, Nat.ble_eq, Nat.ble_eq]
  omega
theorem mn66_eq {n : Int} {c : UInt8} (h0 : 0 ≤ n) (h1 : n ≤ 99999) (hc : 48 ≤ (c.toNat : Int)) (hc2 : (c.toNat : Int) ≤ 57) : mn66 n c = Pa.minI (10 * n + ((c.toNat : Int) - 48)) 99999 := by
  have hd : dig c = (c.toNat : Int) - 48 := by
    unfold dig
    rw [IntKind.wrap_u8]
    omega
  unfold mn66
  rw [hd, w_id (x := 10 * n) (by omega) (by omega), w_id (x := (c.toNat : Int) - 48) (by omega) (by omega), w_id (by omega) (by omega)]
  unfold mnI Pa.minI
  by_cases h : 99999 < 10 * n + ((c.toNat : Int) - 48)
  · simp [h]
  · simp [h]
theorem v66 (s : List UInt8) (L : List Int) (i : Int) (r : LRes S66_3) (hr : st66 s L i = some r) : (T66_3 s L i).val = some r := by
  obtain ⟨t, rfl⟩ : ∃ t : List Int, L = t.reverse := ⟨L.reverse, by simp⟩
  unfold st66 at hr
  rw [List.reverse_reverse] at hr
  cases t with
  | nil => cases hr
  | cons n t =>
    simp only at hr
    split at hr
    · rename_i hc
      have e1 : (((t.reverse ++ [n]).length : Nat) : Int) - 1 = (t.length : Nat) := by simp
      have e2 : (t.reverse ++ [n]).getD t.length 0 = n := by simp [List.getD]
      have e5 : cutOk (t.reverse ++ [n]).length none (some ((t.length : Nat) : Int)) none = true := by simp [cutOk]
      have e6 : cutL (t.reverse ++ [n]) none (some ((t.length : Nat) : Int)) = t.reverse := by
        show (t.reverse ++ [n]).take _ = _
        simp
      have e7 : ixB ((t.length : Nat) : Int) (t.reverse ++ [n]).length = true := by
        simp only [ixB, decide_eq_true_eq, Int.toNat_natCast, List.length_append, List.length_reverse, List.length_singleton]; omega
      have e8 : appB (t.reverse ++ [n] ++ [0]).length 8 = true := appB8 (by simp; omega)
      have e9 : appB ([] ++ t.reverse).length 8 = true := appB8 (by simp; omega)
      have e10 : ∀ x : Int, appB ([] ++ t.reverse ++ [x]).length 8 = true := fun x => appB8 (by simp; omega)
      unfold T66_3
      rw [List.reverse_cons] at hr ⊢
      rw [e1, w_id (x := ((t.length : Nat) : Int)) (by omega) (by omega)]
      split at hr
      · rename_i h2
        have h3 : ixB i s.length = true := by
          simp only [ixB, decide_eq_true_eq]; omega
        rw [w_id (x := i + 1) (by omega) (by omega)]
        simp only [DT.val, decide_eq_true h2, h3, e5, e6, e7, e8, e9, e10, Int.toNat_natCast, e2, cond_true, List.nil_append]
        by_cases h4 : ((s.getD i.toNat 0).toNat : Int) < 48
        · rw [if_pos (.inl h4)] at hr
          rw [← hr]
          simp only [decide_eq_true h4, cond_true]
        · by_cases h5 : 57 < ((s.getD i.toNat 0).toNat : Int)
          · rw [if_pos (.inr h5)] at hr
            rw [← hr]
            simp only [decide_eq_false h4, gt_iff_lt, decide_eq_true h5, cond_true, cond_false]
          · rw [if_neg (by omega)] at hr
            rw [← hr]
            have e12 : appB t.reverse.length 8 = true := appB8 (by simp; omega)
            have e11 : ∀ x : Int, appB (t.reverse ++ [x]).length 8 = true := fun x => appB8 (by simp; omega)
            simp only [decide_eq_false h4, gt_iff_lt, decide_eq_false h5, cond_true, cond_false, e11, e12]
            rw [mn66_eq (by omega) (by omega) (by omega) (by omega)]
      · rename_i h2
        rw [← hr]
        simp only [DT.val, decide_eq_false h2, cond_false]
    · cases hr
theorem it66 (s : List UInt8) (hs : s.length < 1073741824) : ∀ (j k : Nat) (ds : List Int) (n : Int), k + j = s.length → ds.length ≤ k → 0 ≤ n → n ≤ 99999 → iterL st66_3 (j + 1) (s, some (ds ++ [n]), (k : Int), ()) = some ⟨.exit 0, (some (Pa.numsGo (s.drop k) ds n), ())⟩
  | 0, k, ds, n, hk, hd, h0, h1 => by
    rw [iterL_out (e := .exit 0) (o := (some (ds ++ [n]), ()))]
    · rw [List.drop_eq_nil_of_le (by omega)]
      rfl
    · show st66 s (ds ++ [n]) (k : Int) = _
      unfold st66
      simp only [List.reverse_append, List.reverse_cons, List.reverse_nil, List.nil_append, List.singleton_append, List.length_reverse]
      rw [if_pos (by omega), if_neg (by omega)]
  | j + 1, k, ds, n, hk, hd, h0, h1 => by
    have hl : k < s.length := by omega
    have e : s.drop k = s.getD k 0 :: s.drop (k + 1) := by
      rw [List.drop_eq_getElem_cons hl]
      simp [List.getD, hl]
    rw [e, Pa.numsGo]
    by_cases hc : ((s.getD k 0).toNat : Int) < 48 ∨ 57 < ((s.getD k 0).toNat : Int)
    · rw [if_pos hc, iterL_cont (v' := (s, some ((ds ++ [n]) ++ [0]), ((k + 1 : Nat) : Int), ()))]
      · exact it66 s hs j (k + 1) (ds ++ [n]) 0 (by omega) (by simp; omega) (by omega) (by omega)
      · show st66 s (ds ++ [n]) (k : Int) = _
        unfold st66
        simp only [List.reverse_append, List.reverse_cons, List.reverse_nil, List.nil_append, List.singleton_append, List.length_reverse, Int.toNat_natCast]
        rw [if_pos (by omega), if_pos (by omega), if_pos hc]
        rfl
    · have hb : 0 ≤ Pa.minI (10 * n + (((s.getD k 0).toNat : Int) - 48)) 99999 ∧ Pa.minI (10 * n + (((s.getD k 0).toNat : Int) - 48)) 99999 ≤ 99999 := by
        unfold Pa.minI
        split <;> omega
      rw [if_neg hc, iterL_cont (v' := (s, some (ds ++ [Pa.minI (10 * n + (((s.getD k 0).toNat : Int) - 48)) 99999]), ((k + 1 : Nat) : Int), ()))]
      · exact it66 s hs j (k + 1) ds _ (by omega) (by omega) hb.1 hb.2
      · show st66 s (ds ++ [n]) (k : Int) = _
        unfold st66
        simp only [List.reverse_append, List.reverse_cons, List.reverse_nil, List.nil_append, List.singleton_append, List.length_reverse, Int.toNat_natCast]
        rw [if_pos (by omega), if_pos (by omega), if_neg hc, List.reverse_reverse]
        rfl
theorem g66 (s : List UInt8) (L : Option (List Int)) (i : Int) (r : Sigma fun e => VD (S66_3.oV e)) (hr : (G66 s L i).val = some r) : ∃ m, iterL st66_3 m (s, L, i, ()) = some r := by
  unfold G66 at hr
  cases L with
  | none => cases hr
  | some L =>
    simp only [DT.val] at hr
    by_cases h1 : i = 0 ∧ L = [0]
    · obtain ⟨rfl, rfl⟩ := h1
      by_cases h2 : s.length < 1073741824
      · simp only [h2, decide_true, cond_true, and_self] at hr
        cases hr
        exact ⟨s.length + 1, it66 s h2 s.length 0 [] 0 (by omega) (by simp) (by omega) (by omega)⟩
      · simp [h2] at hr
    · simp [h1] at hr
theorem lp66_3 : (LCon.of S66_3 st66_3 G66_3).Ok Tryz.prog Q 66 3 := loop_ok t1 (fn := Tryz.f66) (by kernel_rfl) (by kernel_rfl) (by kernel_rfl) (by kernel_rfl) rfl rfl (hso1 rfl)
  (fun v r hr => by
    obtain ⟨s, L, i, u⟩ := v
    cases L with
    | none => cases hr
    | some L => exact ⟨T66_3 s L i, by kernel_rfl, v66 s L i r hr⟩)
  (fun v r hr => g66 v.1 v.2.1 v.2.2.1 r hr)
noncomputable def lt3 : Tr (List (Nat × LCon)) := Tr.put (some [(3, LCon.of S66_3 st66_3 G66_3)]) 31 lt2 66
theorem t3 : TOk Tryz.prog Q kt0 lt3 xt0 := t2.addL (lp_one lp66_3 lp_nil) rfl
end Go.Proofs.YtbhjimflcfnpaaaGreatDoor.Sd

set_option linter.all false
/-! The document's number, text, and addresses. -/
namespace Go.Proofs.YtbhjimflcfnpaaaGreatDoor.Sd
open Go Go.Proofs Mo
abbrev u8 : Ty := .int .u8
abbrev ipT : Tys := .cons u8 (.cons u8 (.cons u8 (.one u8)))
abbrev adT : Tys := .cons u8 (.cons u8 (.cons u8 (.cons u8 (.one (.int .u16)))))
noncomputable def shB (s : List UInt8) : Bool := decide (s.length < 1073741824)
theorem shB_lt {s : List UInt8} (h : shB s = true) : s.length < 1073741824 := by simpa [shB] using h
/-! ### number, text -/
noncomputable def numD (s : List UInt8) (le mo : Int) : Bool := Lib.itoa (numGo (s.take 6) 0) == s && (decide (numGo (s.take 6) 0 ≥ le) && decide (numGo (s.take 6) 0 ≤ mo))
noncomputable def txtD (s : List UInt8) : Bool := s.all okT && (!(s == []) && decide ((s.length : Int) ≤ 200))
theorem numGo_lt : ∀ (l : List UInt8) (k : Nat) (n : Int), 0 ≤ n → n + 29 ≤ 29 * 10 ^ k → 0 ≤ numGo l n ∧ numGo l n + 29 ≤ 29 * 10 ^ (k + l.length)
  | [], k, n, h0, h => ⟨h0, h⟩
  | b :: r, k, n, h0, h => by
    have hd := dig_ok b
    have := numGo_lt r (k + 1) (10 * n + dig b) (by omega) (by rw [Int.pow_succ]; omega)
    rw [List.length_cons, show k + (r.length + 1) = k + 1 + r.length by omega]
    exact this
theorem numGo_6 (s : List UInt8) : 0 ≤ numGo (s.take 6) 0 ∧ numGo (s.take 6) 0 ≤ 290000000 := by
  obtain ⟨h1, h2⟩ := numGo_lt (s.take 6) 0 0 (by omega) (by omega)
  have h3 : (s.take 6).length ≤ 6 := by simp; omega
  have h5 : (10 : Nat) ^ (0 + (s.take 6).length) ≤ 10 ^ 6 := Nat.pow_le_pow_right (by omega) (by omega)
  have h6 : ((10 ^ (0 + (s.take 6).length) : Nat) : Int) ≤ ((10 ^ 6 : Nat) : Int) := by exact_mod_cast h5
  have h7 : ((10 : Int) ^ (0 + (s.take 6).length)) ≤ 1000000 := by simpa using h6
  exact ⟨h1, by omega⟩
noncomputable abbrev numDC : Con := ⟨[str, i64, i64], [boo], fun x => shB x.1, fun x => (numD x.1 x.2.1 x.2.2.1, ())⟩
theorem num41 (s : List UInt8) (le mo : Int) (h : shB s = true) : OkAt Tryz.prog Q 41 [str, i64, i64] [boo] (s, le, mo, ()) (numD s le mo, ()) := by
  have hs := shB_lt h
  have hn := numGo_6 s
  refine at_ok t3 (T := gd [decide (s.length < 4611686018427387904), inI (numGo (s.take 6) 0)] (.br (Lib.itoa (numGo (s.take 6) 0) == s) (.br (decide (numGo (s.take 6) 0 ≥ le)) (.lf (decide (numGo (s.take 6) 0 ≤ mo), ())) (.lf (false, ()))) (.lf (false, ())))) rfl (by kernel_rfl) ?_
  rw [gd_val]
  · unfold numD
    simp only [DT.val]
    cases (Lib.itoa (numGo (s.take 6) 0) == s) <;> cases decide (numGo (s.take 6) 0 ≥ le) <;> rfl
  · intro c hc
    simp only [List.mem_cons, List.not_mem_nil, or_false] at hc
    rcases hc with rfl | rfl
    · simp; omega
    · simp [inI]; omega
theorem num41_ok : numDC.Ok Tryz.prog Q 41 := con_at fun x hx => num41 x.1 x.2.1 x.2.2.1 hx
noncomputable abbrev txtDC : Con := ⟨[str], [boo], fun x => shB x.1, fun x => (txtD x.1, ())⟩
theorem txt42 (s : List UInt8) (h : shB s = true) : OkAt Tryz.prog Q 42 [str] [boo] (s, ()) (txtD s, ()) := by
  have hs := shB_lt h
  refine at_ok t3 (T := gd [decide (s.length < 4611686018427387904)] (.br (s.all okT) (.br (!(s == [])) (.lf (decide ((s.length : Int) ≤ 200), ())) (.lf (false, ()))) (.lf (false, ())))) rfl (by kernel_rfl) ?_
  rw [gd_val]
  · unfold txtD
    simp only [DT.val]
    cases s.all okT <;> cases (!(s == [])) <;> rfl
  · intro c hc
    simp only [List.mem_cons, List.not_mem_nil, or_false] at hc
    subst hc
    simp; omega
theorem txt42_ok : txtDC.Ok Tryz.prog Q 42 := con_at fun x hx => txt42 x.1 hx
/-! ### IP, Addr -/
noncomputable def lowB (a b c d : Int) : Bool := decide (0 ≤ a ∧ a < 256 ∧ 0 ≤ b ∧ b < 256 ∧ 0 ≤ c ∧ c < 256 ∧ 0 ≤ d ∧ d < 256)
noncomputable def wIP (a b c d : Int) : List UInt8 := Pa.dd a ++ [46] ++ Pa.dd b ++ [46] ++ Pa.dd c ++ [46] ++ Pa.dd d
noncomputable def wAd (a b c d p : Int) : List UInt8 := wIP a b c d ++ [58] ++ Pa.dd p
theorem ito_dd {n : Int} (h0 : 0 ≤ n) (h1 : n < 100000) : Lib.itoa (w64 n) = Pa.dd n := by
  rw [w_id (by omega) (by omega)]
  obtain ⟨m, rfl⟩ : ∃ m : Nat, n = m := ⟨n.toNat, by omega⟩
  rw [Lib.itoa_nonneg]
  rfl
noncomputable def addB (n m : Nat) : Bool := decide (n + m ≤ 9223372036854775807)
noncomputable abbrev ipC : Con := ⟨[.a ipT], [str], fun x => lowB x.1.1 x.1.2.1 x.1.2.2.1 x.1.2.2.2, fun x => (wIP x.1.1 x.1.2.1 x.1.2.2.1 x.1.2.2.2, ())⟩
theorem ip106 (a b c d : Int) (h : lowB a b c d = true) : OkAt Tryz.prog Q 106 [.a ipT] [str] ((a, b, c, d), ()) (wIP a b c d, ()) := by
  obtain ⟨a0, a1, b0, b1, c0, c1, d0, d1⟩ : 0 ≤ a ∧ a < 256 ∧ 0 ≤ b ∧ b < 256 ∧ 0 ≤ c ∧ c < 256 ∧ 0 ≤ d ∧ d < 256 := by simpa [lowB] using h
  have l1 := Pa.dd_len (n := a) (by omega)
  have l2 := Pa.dd_len (n := b) (by omega)
  have l3 := Pa.dd_len (n := c) (by omega)
  have l4 := Pa.dd_len (n := d) (by omega)
  have e0 := ito_dd a0 (by omega)
  have e1 := ito_dd b0 (by omega)
  have e2 := ito_dd c0 (by omega)
  have e3 := ito_dd d0 (by omega)
  have i0 : inI (w64 a) = true := by rw [w_id (by omega) (by omega)]; simp [inI]; omega
  have i1 : inI (w64 b) = true := by rw [w_id (by omega) (by omega)]; simp [inI]; omega
  have i2 : inI (w64 c) = true := by rw [w_id (by omega) (by omega)]; simp [inI]; omega
  have i3 : inI (w64 d) = true := by rw [w_id (by omega) (by omega)]; simp [inI]; omega
  let A := Lib.itoa (w64 a)
  let B := Lib.itoa (w64 b)
  let C := Lib.itoa (w64 c)
  let D := Lib.itoa (w64 d)
  refine at_ok t3 (T := gd [inI (w64 a), addB ([] : List UInt8).length A.length, addB ([] ++ A).length [(46 : UInt8)].length, inI (w64 b), addB ([] ++ A ++ [46]).length B.length, addB ([] ++ A ++ [46] ++ B).length [(46 : UInt8)].length, inI (w64 c), addB ([] ++ A ++ [46] ++ B ++ [46]).length C.length, addB ([] ++ A ++ [46] ++ B ++ [46] ++ C).length [(46 : UInt8)].length, inI (w64 d), addB ([] ++ A ++ [46] ++ B ++ [46] ++ C ++ [46]).length D.length] (.lf ([] ++ A ++ [46] ++ B ++ [46] ++ C ++ [46] ++ D, ()))) rfl (by kernel_rfl) ?_
  have hA : A = Pa.dd a := e0
  have hB : B = Pa.dd b := e1
  have hC : C = Pa.dd c := e2
  have hD : D = Pa.dd d := e3
  rw [gd_val]
  · rw [hA, hB, hC, hD]
    rfl
  · intro g hg
    rw [hA, hB, hC, hD, i0, i1, i2, i3] at hg
    simp only [List.mem_cons, List.not_mem_nil, or_false] at hg
    rcases hg with rfl | rfl | rfl | rfl | rfl | rfl | rfl | rfl | rfl | rfl | rfl <;> first | rfl | (simp [addB]; omega)
theorem ip106_ok : ipC.Ok Tryz.prog Q 106 := con_at fun x hx => ip106 x.1.1 x.1.2.1 x.1.2.2.1 x.1.2.2.2 hx
noncomputable def kt3 : Tr Con := Tr.put (some ipC) 31 (Tr.put (some txtDC) 31 (Tr.put (some numDC) 31 (Tr.put (some trmD) 31 kt0 40) 41) 42) 106
theorem t4 : TOk Tryz.prog Q kt3 lt3 xt0 := (((t3.addK trm40_ok rfl).addK num41_ok rfl).addK txt42_ok rfl).addK ip106_ok rfl
end Go.Proofs.YtbhjimflcfnpaaaGreatDoor.Sd

set_option linter.all false
/-! The document's Read; the word of an order. -/
namespace Go.Proofs.YtbhjimflcfnpaaaGreatDoor.Sd
open Go Go.Proofs Mo
noncomputable def adB (a b c d p : Int) : Bool := decide ((0 ≤ a ∧ a < 256 ∧ 0 ≤ b ∧ b < 256 ∧ 0 ≤ c ∧ c < 256 ∧ 0 ≤ d ∧ d < 256) ∧ 0 ≤ p ∧ p < 65536)
noncomputable abbrev adC : Con := ⟨[.a adT], [str], fun x => adB x.1.1 x.1.2.1 x.1.2.2.1 x.1.2.2.2.1 x.1.2.2.2.2, fun x => (wAd x.1.1 x.1.2.1 x.1.2.2.1 x.1.2.2.2.1 x.1.2.2.2.2, ())⟩
theorem ad67 (a b c d p : Int) (h : adB a b c d p = true) : OkAt Tryz.prog Q 67 [.a adT] [str] ((a, b, c, d, p), ()) (wAd a b c d p, ()) := by
  obtain ⟨hl, p0, p1⟩ : (0 ≤ a ∧ a < 256 ∧ 0 ≤ b ∧ b < 256 ∧ 0 ≤ c ∧ c < 256 ∧ 0 ≤ d ∧ d < 256) ∧ 0 ≤ p ∧ p < 65536 := by simpa [adB] using h
  have hlow : lowB a b c d = true := by simpa [lowB] using hl
  have l1 := Pa.dd_len (n := a) (by omega)
  have l2 := Pa.dd_len (n := b) (by omega)
  have l3 := Pa.dd_len (n := c) (by omega)
  have l4 := Pa.dd_len (n := d) (by omega)
  have l5 := Pa.dd_len (n := p) (by omega)
  have hw : (wIP a b c d).length ≤ 100 := by simp [wIP]; omega
  have e0 := ito_dd p0 (by omega)
  refine at_ok t4 (T := gd [lowB a b c d, addB (wIP a b c d).length [(58 : UInt8)].length, inI (w64 p), addB (wIP a b c d ++ [58]).length (Lib.itoa (w64 p)).length] (.lf (wIP a b c d ++ [58] ++ Lib.itoa (w64 p), ()))) rfl (by kernel_rfl) ?_
  rw [gd_val]
  · rw [e0]
    rfl
  · intro g hg
    rw [e0, w_id (by omega) (by omega)] at hg
    simp only [List.mem_cons, List.not_mem_nil, or_false] at hg
    rcases hg with rfl | rfl | rfl | rfl
    · exact hlow
    · simp [addB]; omega
    · simp [inI]; omega
    · simp [addB]; omega
theorem ad67_ok : adC.Ok Tryz.prog Q 67 := con_at fun x hx => ad67 x.1.1 x.1.2.1 x.1.2.2.1 x.1.2.2.2.1 x.1.2.2.2.2 hx
noncomputable def kt4 : Tr Con := Tr.put (some adC) 31 kt3 67
theorem t5 : TOk Tryz.prog Q kt4 lt3 xt0 := t4.addK ad67_ok rfl
/-! ### Read -/
noncomputable def rdP (s : List UInt8) : adT.D := ((Pa.readA ⟨⟨s⟩⟩).1.a, (Pa.readA ⟨⟨s⟩⟩).1.b, (Pa.readA ⟨⟨s⟩⟩).1.c, (Pa.readA ⟨⟨s⟩⟩).1.d, (Pa.readA ⟨⟨s⟩⟩).1.port)
noncomputable def rdE (s : List UInt8) : Int := (Pa.readA ⟨⟨s⟩⟩).2
noncomputable def docT (s : List UInt8) (n : Nat) : Int := (Pa.numsGo s [] 0).getD n 0
noncomputable def docW (s : List UInt8) : List UInt8 := wAd (IntKind.u8.wrap (docT s 0)) (IntKind.u8.wrap (docT s 1)) (IntKind.u8.wrap (docT s 2)) (IntKind.u8.wrap (docT s 3)) (IntKind.u16.wrap (docT s 4))
noncomputable abbrev rdDC : Con := ⟨[str], [.a adT, i64], fun x => shB x.1, fun x => (rdP x.1, rdE x.1, ())⟩
theorem bl_wAd (x : Pa.Addr) : Pa.bl (Pa.writeA x) = wAd x.a x.b x.c x.d x.port := by
  have e : Pa.bl (Pa.writeIP (Pa.ipOf x)) = Lib.join [Pa.dd x.a, Pa.dd x.b, Pa.dd x.c, Pa.dd x.d] [46] := rfl
  rw [Pa.writeA_bl, e, Pa.join4]
  unfold wAd wIP
  simp
theorem write_eq (x : Pa.Addr) (s : List UInt8) : Pa.writeA x = ⟨⟨s⟩⟩ ↔ wAd x.a x.b x.c x.d x.port = s := by
  rw [← bl_wAd]
  constructor
  · intro h; rw [h]; rfl
  · intro h
    apply ByteArray.ext
    apply Array.ext'
    exact h
theorem rd43 (s : List UInt8) (h : shB s = true) : OkAt Tryz.prog Q 43 [str] [.a adT, i64] (s, ()) (rdP s, rdE s, ()) := by
  have hs := shB_lt h
  refine at_ok t5 (T := gd [shB s] (.br (((Pa.numsGo s [] 0).length : Int) != 5) (.lf ((0, 0, 0, 0, 0), 7, ())) (gd [ixB 0 (Pa.numsGo s [] 0).length, ixB 1 (Pa.numsGo s [] 0).length, ixB 2 (Pa.numsGo s [] 0).length, ixB 3 (Pa.numsGo s [] 0).length, ixB 4 (Pa.numsGo s [] 0).length,
    adB (IntKind.u8.wrap (docT s 0)) (IntKind.u8.wrap (docT s 1)) (IntKind.u8.wrap (docT s 2)) (IntKind.u8.wrap (docT s 3)) (IntKind.u16.wrap (docT s 4))]
    (.br (!(docW s == s)) (.lf ((0, 0, 0, 0, 0), 7, ())) (.lf ((IntKind.u8.wrap (docT s 0), IntKind.u8.wrap (docT s 1), IntKind.u8.wrap (docT s 2), IntKind.u8.wrap (docT s 3), IntKind.u16.wrap (docT s 4)), 0, ())))))) rfl (by kernel_rfl) ?_
  rw [gd_val (fun c hc => by simp only [List.mem_cons, List.not_mem_nil, or_false] at hc; subst hc; exact h)]
  have hr := Pa.readA_doc ⟨⟨s⟩⟩
  have hn : Pa.numsR ⟨⟨s⟩⟩ = Pa.numsGo s [] 0 := rfl
  rw [hn] at hr
  rcases Pa.five (Pa.numsGo s [] 0) with ⟨n0, n1, n2, n3, n4, e⟩ | e
  · have hd : Pa.docA ⟨⟨s⟩⟩ = ⟨IntKind.u8.wrap n0, IntKind.u8.wrap n1, IntKind.u8.wrap n2, IntKind.u8.wrap n3, IntKind.u16.wrap n4⟩ := by
      unfold Pa.docA
      rw [hn, e]
    have hw0 : docW s = wAd (IntKind.u8.wrap n0) (IntKind.u8.wrap n1) (IntKind.u8.wrap n2) (IntKind.u8.wrap n3) (IntKind.u16.wrap n4) := by
      unfold docW docT
      rw [e]
      rfl
    have hlen : (((Pa.numsGo s [] 0).length : Int) != 5) = false := by rw [e]; rfl
    have g0 := Pa.wr_u8 n0
    have g1 := Pa.wr_u8 n1
    have g2 := Pa.wr_u8 n2
    have g3 := Pa.wr_u8 n3
    have g4 := Pa.wr_u16 n4
    simp only [DT.val, hlen, cond_false]
    rw [gd_val (fun c hc => by
      unfold docT at hc
      rw [e] at hc
      simp only [List.mem_cons, List.not_mem_nil, or_false] at hc
      rcases hc with rfl | rfl | rfl | rfl | rfl | rfl <;> first | rfl | (simp [adB, List.getD]; omega))]
    simp only [DT.val]
    by_cases hw : docW s = s
    · have h2 : (docW s == s) = true := by simp [hw]
      rw [if_pos ⟨by rw [e]; rfl, (write_eq _ s).2 (by rw [hd]; rw [← hw0]; exact hw)⟩] at hr
      rw [h2]
      unfold rdP rdE docT
      rw [hr, hd, e]
      rfl
    · have h2 : (docW s == s) = false := by simp [hw]
      rw [if_neg (fun hh => hw (by rw [hw0]; have := (write_eq _ s).1 hh.2; rw [hd] at this; exact this))] at hr
      rw [h2]
      unfold rdP rdE
      rw [hr]
      rfl
  · have hlen : (((Pa.numsGo s [] 0).length : Int) != 5) = true := by
      rw [bne_iff_ne]
      omega
    rw [if_neg (fun hh => e hh.1)] at hr
    simp only [DT.val, hlen, cond_true]
    unfold rdP rdE
    rw [hr]
    rfl
theorem rd43_ok : rdDC.Ok Tryz.prog Q 43 := con_at fun x hx => rd43 x.1 hx
noncomputable def kt5 : Tr Con := Tr.put (some rdDC) 31 kt4 43
theorem t6 : TOk Tryz.prog Q kt5 lt3 xt0 := t5.addK rd43_ok rfl
/-! ### The word -/
noncomputable abbrev S22_3 : LS := ⟨96, [0, 4], [.t (.v (.str)), .t (.v (.int .i64))], [11, 12, 13, 14, 15, 16, 17, 18, 19, 20, 21, 22], fun e => Ex.rec (motive := fun _ => List Nat) [] (fun i => [0, 4]) [] e, fun e => Ex.rec (motive := fun _ => List VT) [] (fun i => [.t (.v (.str)), .t (.v (.int .i64))]) [] e⟩
noncomputable def n32 (b : UInt8) : Bool := (b.toNat : Int) != 32
noncomputable def st22 (s : List UInt8) (i : Int) : Option (LRes S22_3) := if 0 ≤ i ∧ s.length < 1073741824 then
      (if i < (s.length : Int) then (bif n32 (s.getD i.toNat 0) then some (.cont (s, i + 1, ())) else some (.out (.exit 0) (s, i, ()))) else some (.out (.exit 0) (s, i, ()))) else none
noncomputable def st22_3 (v : VD S22_3.vs) : Option (LRes S22_3) := st22 v.1 v.2.1
noncomputable def T22_3 (s : List UInt8) (i : Int) : DT (LRes S22_3) := .br (decide (i < (s.length : Int))) (.br (ixB i s.length) (.br (n32 (s.getD i.toNat 0)) (.lf (.cont (s, w64 (i + 1), ()))) (.lf (.out (.exit 0) (s, i, ())))) .no) (.lf (.out (.exit 0) (s, i, ())))
noncomputable def wdL (s : List UInt8) : Int := ((s.takeWhile n32).length : Nat)
noncomputable def G22 (s : List UInt8) (i : Int) : DT (Sigma fun e => VD (S22_3.oV e)) := .br (decide (i = 0)) (.br (shB s) (.lf ⟨.exit 0, (s, wdL s, ())⟩) .no) .no
noncomputable def G22_3 (v : VD S22_3.vs) : DT (Sigma fun e => VD (S22_3.oV e)) := G22 v.1 v.2.1
theorem v22 (s : List UInt8) (i : Int) (r : LRes S22_3) (hr : st22 s i = some r) : (T22_3 s i).val = some r := by
  unfold st22 at hr
  split at hr
  · unfold T22_3
    split at hr
    · rename_i h2
      have h3 : ixB i s.length = true := by
        simp only [ixB, decide_eq_true_eq]; omega
      rw [← hr, w_id (x := i + 1) (by omega) (by omega)]
      simp only [DT.val, decide_eq_true h2, cond_true, h3]
    · rename_i h2
      rw [← hr]
      simp only [DT.val, decide_eq_false h2, cond_false]
  · cases hr
theorem it22 (s : List UInt8) (hs : s.length < 1073741824) : ∀ (j k : Nat), k + j = s.length → iterL st22_3 (j + 1) (s, (k : Int), ()) = some ⟨.exit 0, (s, ((k + ((s.drop k).takeWhile n32).length : Nat) : Int), ())⟩
  | 0, k, hk => by
    rw [iterL_out (e := .exit 0) (o := (s, (k : Int), ()))]
    · rw [List.drop_eq_nil_of_le (by omega)]
      rfl
    · show st22 s (k : Int) = _
      unfold st22
      rw [if_pos (by omega), if_neg (by omega)]
  | j + 1, k, hk => by
    have hl : k < s.length := by omega
    have e : s.drop k = s.getD k 0 :: s.drop (k + 1) := by
      rw [List.drop_eq_getElem_cons hl]
      simp [List.getD, hl]
    rw [e]
    cases hb : n32 (s.getD k 0) with
    | true =>
      rw [iterL_cont (v' := (s, ((k + 1 : Nat) : Int), ())), it22 s hs j (k + 1) (by omega), List.takeWhile_cons_of_pos hb, List.length_cons, show k + 1 + ((s.drop (k + 1)).takeWhile n32).length = k + (((s.drop (k + 1)).takeWhile n32).length + 1) by omega]
      show st22 s (k : Int) = _
      unfold st22
      rw [if_pos (by omega), if_pos (by omega), Int.toNat_natCast, hb]
      rfl
    | false =>
      rw [iterL_out (e := .exit 0) (o := (s, (k : Int), ())), List.takeWhile_cons_of_neg (by rw [hb]; exact Bool.false_ne_true)]
      · rfl
      · show st22 s (k : Int) = _
        unfold st22
        rw [if_pos (by omega), if_pos (by omega), Int.toNat_natCast, hb]
        rfl
theorem g22 (s : List UInt8) (i : Int) (r : Sigma fun e => VD (S22_3.oV e)) (hr : (G22 s i).val = some r) : ∃ m, iterL st22_3 m (s, i, ()) = some r := by
  unfold G22 at hr
  simp only [DT.val] at hr
  by_cases h1 : i = 0
  · subst h1
    cases h2 : shB s with
    | true =>
      simp only [h2, decide_true, cond_true] at hr
      cases hr
      refine ⟨s.length + 1, ?_⟩
      have := it22 s (shB_lt h2) s.length 0 (by omega)
      rw [List.drop_zero, Nat.zero_add] at this
      exact this
    | false => simp [h2] at hr
  · simp [h1] at hr
theorem lp22_3 : (LCon.of S22_3 st22_3 G22_3).Ok Tryz.prog Q 22 3 := loop_ok t1 (fn := Tryz.f22) (by kernel_rfl) (by kernel_rfl) (by kernel_rfl) (by kernel_rfl) rfl rfl (hso1 rfl)
  (fun v r hr => by
    obtain ⟨s, i, u⟩ := v
    exact ⟨T22_3 s i, by kernel_rfl, v22 s i r hr⟩)
  (fun v r hr => g22 v.1 v.2.1 r hr)
noncomputable def lt4 : Tr (List (Nat × LCon)) := Tr.put (some [(3, LCon.of S22_3 st22_3 G22_3)]) 31 lt3 22
theorem t7 : TOk Tryz.prog Q kt5 lt4 xt0 := t6.addL (lp_one lp22_3 lp_nil) rfl
end Go.Proofs.YtbhjimflcfnpaaaGreatDoor.Sd

set_option linter.all false
/-! The document's order. -/
namespace Go.Proofs.YtbhjimflcfnpaaaGreatDoor.Sd
open Go Go.Proofs Mo
abbrev orT : Tys := .cons .str (.one .str)
noncomputable def zIP (a b c d : Int) : Bool := Bool.rec (motive := fun _ => Bool) false (Bool.rec (motive := fun _ => Bool) false (Bool.rec (motive := fun _ => Bool) false (Bool.rec (motive := fun _ => Bool) false true (decide (d = 0))) (decide (c = 0))) (decide (b = 0))) (decide (a = 0))
noncomputable def conB (A : List UInt8) : Bool := rdE A == 0 && ((rdP A).2.2.2.2 != 0 && !zIP (rdP A).1 (rdP A).2.1 (rdP A).2.2.1 (rdP A).2.2.2.1)
noncomputable def argB (W A : List UInt8) : Bool :=
  bif W == [108, 105, 115, 116, 101, 110] then numD A 1 65535 else bif W == [114, 101, 97, 100] then numD A 1 256 else bif W == [108, 111, 111, 112] then numD A 0 39 else
  bif W == [119, 114, 105, 116, 101] then txtD A else bif W == [99, 111, 110, 110, 101, 99, 116] then conB A else false
noncomputable def oneB (W : List UInt8) : Bool :=
  bif W == [97, 99, 99, 101, 112, 116] then true else bif W == [101, 99, 104, 111] then true else bif W == [107, 101, 101, 112] then true else bif W == [115, 104, 111, 119] then true else bif W == [99, 108, 111, 115, 101] then true else false
noncomputable def ordR (t : List UInt8) : (List UInt8 × List UInt8) × Bool :=
  bif wdL t == (t.length : Int) then ((t.takeWhile n32, []), oneB (t.takeWhile n32)) else ((t.takeWhile n32, t.drop ((t.takeWhile n32).length + 1)), argB (t.takeWhile n32) (t.drop ((t.takeWhile n32).length + 1)))
noncomputable abbrev orR : List AT := [.a orT, boo]
noncomputable def oT1 (W : List UInt8) : DT (AD orR) :=
  .br (W == [97, 99, 99, 101, 112, 116]) (.lf ((W, []), true, ())) (.br (W == [101, 99, 104, 111]) (.lf ((W, []), true, ())) (.br (W == [107, 101, 101, 112]) (.lf ((W, []), true, ())) (.br (W == [115, 104, 111, 119]) (.lf ((W, []), true, ())) (.br (W == [99, 108, 111, 115, 101]) (.lf ((W, []), true, ())) (.lf ((W, []), false, ()))))))
noncomputable def oT2 (W A : List UInt8) : DT (AD orR) :=
  .br (W == [108, 105, 115, 116, 101, 110]) (.br (shB A) (.lf ((W, A), numD A 1 65535, ())) .no) (.br (W == [114, 101, 97, 100]) (.br (shB A) (.lf ((W, A), numD A 1 256, ())) .no) (.br (W == [108, 111, 111, 112]) (.br (shB A) (.lf ((W, A), numD A 0 39, ())) .no)
  (.br (W == [119, 114, 105, 116, 101]) (.br (shB A) (.lf ((W, A), txtD A, ())) .no) (.br (W == [99, 111, 110, 110, 101, 99, 116]) (.br (shB A) (.br (rdE A == 0) (.br ((rdP A).2.2.2.2 != 0) (.lf ((W, A), !zIP (rdP A).1 (rdP A).2.1 (rdP A).2.2.1 (rdP A).2.2.2.1, ())) (.lf ((W, A), false, ()))) (.lf ((W, A), false, ()))) .no) (.lf ((W, A), false, ()))))))
noncomputable def oT (t W A : List UInt8) (n : Int) : DT (AD orR) :=
  gd [shB t, cutOk t.length none (some n) none] (.br (n == (t.length : Int)) (oT1 W) (gd [cutOk t.length (some (w64 (n + 1))) none none] (oT2 W A)))
theorem oT1_val (W : List UInt8) : (oT1 W).val = some ((W, []), oneB W, ()) := by
  unfold oT1 oneB
  simp only [DT.val]
  cases W == [97, 99, 99, 101, 112, 116] <;> cases W == [101, 99, 104, 111] <;> cases W == [107, 101, 101, 112] <;> cases W == [115, 104, 111, 119] <;> cases W == [99, 108, 111, 115, 101] <;> rfl
theorem oT2_val (W A : List UInt8) (h : shB A = true) : (oT2 W A).val = some ((W, A), argB W A, ()) := by
  unfold oT2 argB conB
  simp only [DT.val, h, cond_true]
  cases W == [108, 105, 115, 116, 101, 110]
  · cases W == [114, 101, 97, 100]
    · cases W == [108, 111, 111, 112]
      · cases W == [119, 114, 105, 116, 101]
        · cases W == [99, 111, 110, 110, 101, 99, 116]
          · rfl
          · cases rdE A == 0
            · rfl
            · cases (rdP A).2.2.2.2 != 0 <;> rfl
        · rfl
      · rfl
    · rfl
  · rfl
theorem tw_le (t : List UInt8) : (t.takeWhile n32).length ≤ t.length := (List.takeWhile_prefix n32).length_le
theorem take_tw (t : List UInt8) : t.take (t.takeWhile n32).length = t.takeWhile n32 := (List.prefix_iff_eq_take.1 (List.takeWhile_prefix n32)).symm
theorem trmF_le (s : List UInt8) : (trmF s).length ≤ s.length := by
  have h1 : (trimL s).length ≤ s.length := (List.dropWhile_sublist _).length_le
  have h2 : (trimR (trimL s)).length ≤ (trimL s).length := by
    unfold trimR
    rw [List.length_reverse]
    refine Nat.le_trans (List.dropWhile_sublist _).length_le ?_
    rw [List.length_reverse]
    exact Nat.le_refl _
  exact Nat.le_trans h2 h1
noncomputable abbrev ordC : Con := ⟨[str], orR, fun x => shB x.1, fun x => ((ordR (trmF x.1)).1, (ordR (trmF x.1)).2, ())⟩
theorem oT_val (t : List UInt8) (h : t.length < 1073741824) : (oT t (cutL t none (some (wdL t))) (cutL t (some (w64 (wdL t + 1))) none) (wdL t)).val = some ((ordR t).1, (ordR t).2, ()) := by
  have hl := tw_le t
  have e1 : cutL t none (some (wdL t)) = t.takeWhile n32 := by
    show t.take (wdL t).toNat = _
    unfold wdL
    rw [Int.toNat_natCast, take_tw]
  have e0 : w64 (wdL t + 1) = ((t.takeWhile n32).length + 1 : Nat) := by
    unfold wdL
    rw [w_id (by omega) (by omega)]
    omega
  have e2 : cutL t (some (w64 (wdL t + 1))) none = t.drop ((t.takeWhile n32).length + 1) := by
    show t.drop (w64 (wdL t + 1)).toNat = _
    rw [e0, Int.toNat_natCast]
  unfold oT ordR
  rw [gd_val, e1, e2]
  · simp only [DT.val]
    cases hc : wdL t == (t.length : Int) with
    | true =>
      simp only [cond_true]
      exact oT1_val _
    | false =>
      simp only [cond_false]
      rw [gd_val, oT2_val]
      · simp only [shB, List.length_drop, decide_eq_true_eq]; omega
      · intro c hc2
        simp only [List.mem_cons, List.not_mem_nil, or_false] at hc2
        subst hc2
        have hne : wdL t ≠ (t.length : Int) := by
          intro h; rw [h] at hc; simp at hc
        unfold wdL at hne
        rw [e0]
        simp only [cutOk, decide_eq_true_eq, Int.toNat_natCast]
        omega
  · intro c hc
    simp only [List.mem_cons, List.not_mem_nil, or_false] at hc
    rcases hc with rfl | rfl
    · simp only [shB, decide_eq_true_eq]; exact h
    · unfold wdL
      simp only [cutOk, decide_eq_true_eq, Int.toNat_natCast]
      omega
theorem ord22 (s : List UInt8) (h : shB s = true) : OkAt Tryz.prog Q 22 [str] orR (s, ()) ((ordR (trmF s)).1, (ordR (trmF s)).2, ()) := by
  have hs := shB_lt h
  refine at_ok t7 (T := gd [decide (s.length < 4611686018427387904)] (oT (trmF s) (cutL (trmF s) none (some (wdL (trmF s)))) (cutL (trmF s) (some (w64 (wdL (trmF s) + 1))) none) (wdL (trmF s)))) rfl (by kernel_rfl) ?_
  rw [gd_val (fun c hc => by simp only [List.mem_cons, List.not_mem_nil, or_false] at hc; subst hc; exact decide_eq_true (by omega))]
  exact oT_val _ (Nat.lt_of_le_of_lt (trmF_le s) hs)
theorem ord22_ok : ordC.Ok Tryz.prog Q 22 := con_at fun x hx => ord22 x.1 hx
noncomputable def kt6 : Tr Con := Tr.put (some ordC) 31 kt5 22
theorem t8 : TOk Tryz.prog Q kt6 lt4 xt0 := t7.addK ord22_ok rfl
end Go.Proofs.YtbhjimflcfnpaaaGreatDoor.Sd

set_option linter.all false
/-! The document's Parse. -/
namespace Go.Proofs.YtbhjimflcfnpaaaGreatDoor.Sd
open Go Go.Proofs Mo
noncomputable abbrev S8_4 : LS := ⟨45, [0, 4, 5, 6], [.t (.v (.str)), .o (.cons .str (.one .str)) 29, .t (.v (.int .i64)), .t (.v (.int .i64))], [2, 3, 7, 8, 9, 10, 11, 12, 13, 14, 15, 16, 17, 18, 19, 20, 21, 22, 23, 24, 25, 26, 27, 28, 29, 30, 31, 32, 33, 34, 35, 36, 37, 38, 39, 40, 41, 42, 43], fun e => Ex.rec (motive := fun _ => List Nat) [] (fun i => [4]) [2, 3] e, fun e => Ex.rec (motive := fun _ => List VT) [] (fun i => [.o (.cons .str (.one .str)) 29]) [.o (.cons .str (.one .str)) 29, .t (.v (.int .i64))] e⟩
abbrev Ord : Type := List UInt8 × List UInt8
noncomputable def n59 (b : UInt8) : Bool := (b.toNat : Int) != 59
noncomputable def oOf (p : List UInt8) : Ord := (ordR (trmF p)).1
noncomputable def bOf (p : List UInt8) : Bool := (ordR (trmF p)).2
/-- The part at hand is at its end. -/
noncomputable def pend (s : List UInt8) (L : Option (List Ord)) (p : List UInt8) (i : Int) : LRes S8_4 :=
  bif !bOf p then .out .ret (none, (7 : Int), ()) else bif ((L.getD []).length : Int) == 40 then .out .ret (none, (4 : Int), ()) else .cont (s, some ((L.getD []) ++ [oOf p]), i + 1, i + 1, ())
noncomputable def st8 (s : List UInt8) (L : Option (List Ord)) (f i : Int) : Option (LRes S8_4) := if 0 ≤ f ∧ f ≤ i ∧ i ≤ s.length + 1 ∧ (f ≤ s.length ∨ i = s.length + 1) ∧ s.length < 1073741824 ∧ (L.getD []).length ≤ 40 then
    some (bif decide (i ≤ s.length) then bif decide (i < s.length) && n59 (s.getD i.toNat 0) then .cont (s, L, f, i + 1, ()) else pend s L (cutL s (some f) (some i)) i else .out (.exit 0) (L, ())) else none
noncomputable def st8_4 (v : VD S8_4.vs) : Option (LRes S8_4) := st8 v.1 v.2.1 v.2.2.1 v.2.2.2.1
noncomputable def P8 (s : List UInt8) (L : List Ord) (f i : Int) : DT (LRes S8_4) :=
  gd [cutOk s.length (some f) (some i) none, shB (cutL s (some f) (some i))] (.br (!bOf (cutL s (some f) (some i))) (.lf (.out .ret (none, (7 : Int), ()))) (.br ((L.length : Int) == 40) (.lf (.out .ret (none, (4 : Int), ())))
    (gd [appB (L ++ [oOf (cutL s (some f) (some i))]).length 32] (.lf (.cont (s, some (L ++ [oOf (cutL s (some f) (some i))]), w64 (i + 1), w64 (i + 1), ()))))))
noncomputable def P8n (s : List UInt8) (f i : Int) : DT (LRes S8_4) :=
  gd [cutOk s.length (some f) (some i) none, shB (cutL s (some f) (some i))] (.br (!bOf (cutL s (some f) (some i))) (.lf (.out .ret (none, (7 : Int), ()))) (.lf (.cont (s, some [oOf (cutL s (some f) (some i))], w64 (i + 1), w64 (i + 1), ()))))
noncomputable def T8 (s : List UInt8) (L : Option (List Ord)) (f i : Int) (E : DT (LRes S8_4)) : DT (LRes S8_4) :=
  .br (decide (i ≤ (s.length : Int))) (.br (decide (i < (s.length : Int))) (gd [ixB i s.length] (.br (n59 (s.getD i.toNat 0)) (.lf (.cont (s, L, f, w64 (i + 1), ()))) E)) E) (.lf (.out (.exit 0) (L, ())))
noncomputable def E8 (s : List UInt8) (L : Option (List Ord)) (f i : Int) : DT (LRes S8_4) := match L with
  | some l => P8 s l f i
  | none => P8n s f i
theorem P8_val (s : List UInt8) (L : Option (List Ord)) (f i : Int) (hf : 0 ≤ f) (hfi : f ≤ i) (hi : i ≤ s.length) (hs : s.length < 1073741824) (hL : (L.getD []).length ≤ 40):
    (E8 s L f i).val = some (pend s L (cutL s (some f) (some i)) i) := by
  have e1 : cutOk s.length (some f) (some i) none = true := by simp only [cutOk, decide_eq_true_eq]; omega
  have e2 : shB (cutL s (some f) (some i)) = true := by
    simp only [shB, cutL, decide_eq_true_eq, List.length_drop, List.length_take]; omega
  have e3 : w64 (i + 1) = i + 1 := w_id (by omega) (by omega)
  cases L with
  | none =>
    unfold pend
    show (P8n s f i).val = _
    unfold P8n
    rw [gd_val (fun c hc => by simp only [List.mem_cons, List.not_mem_nil, or_false] at hc; rcases hc with rfl | rfl <;> assumption), e3]
    simp only [DT.val]
    cases bOf (cutL s (some f) (some i)) <;> rfl
  | some l =>
    unfold pend
    show (P8 s l f i).val = _
    unfold P8
    rw [gd_val (fun c hc => by simp only [List.mem_cons, List.not_mem_nil, or_false] at hc; rcases hc with rfl | rfl <;> assumption), e3]
    simp only [DT.val]
    cases bOf (cutL s (some f) (some i)) with
    | false => rfl
    | true =>
      simp only [Option.getD_some, Bool.not_true, cond_false]
      cases hl : ((l.length : Int) == 40) with
      | true => rfl
      | false =>
        simp only [cond_false]
        rw [gd_val]
        · rfl
        · intro c hc
          simp only [List.mem_cons, List.not_mem_nil, or_false] at hc
          subst hc
          simp only [Option.getD_some] at hL
          simp [appB]; omega
theorem v8 (s : List UInt8) (L : Option (List Ord)) (f i : Int) (r : LRes S8_4) (hr : st8 s L f i = some r) : (T8 s L f i (E8 s L f i)).val = some r := by
  unfold st8 at hr
  split at hr
  · rename_i h
    obtain ⟨h0, h1, h2, h3, h4, h5⟩ := h
    rw [← hr]
    unfold T8
    simp only [DT.val]
    by_cases hi : i ≤ (s.length : Int)
    · have hp := P8_val s L f i h0 h1 hi h4 h5
      simp only [decide_eq_true hi, cond_true]
      by_cases hi2 : i < (s.length : Int)
      · have e1 : ixB i s.length = true := by simp only [ixB, decide_eq_true_eq]; omega
        have e3 : w64 (i + 1) = i + 1 := w_id (by omega) (by omega)
        simp only [decide_eq_true hi2, cond_true]
        rw [gd_val (fun c hc => by simp only [List.mem_cons, List.not_mem_nil, or_false] at hc; subst hc; exact e1)]
        simp only [DT.val]
        cases n59 (s.getD i.toNat 0) with
        | true => rw [e3]; rfl
        | false => exact hp
      · simp only [decide_eq_false hi2, cond_false]
        exact hp
    · simp only [decide_eq_false hi, cond_false]
  · cases hr
/-- The parts, one by one. -/
noncomputable def goP : List (List UInt8) → List Ord → List Ord × Int
  | [], L => (L, 0)
  | p :: r, L => bif !bOf p then ([], 7) else bif (L.length : Int) == 40 then ([], 4) else goP r (L ++ [oOf p])
noncomputable def resS (x : List Ord × Int) : Sigma fun e => VD (S8_4.oV e) := bif x.2 == 0 then ⟨.exit 0, (some x.1, ())⟩ else ⟨.ret, (none, x.2, ())⟩
/-- A part that is begun, and what is behind it. -/
def partsF (cur r : List UInt8) : List (List UInt8) := match Pa.splitL r 59 with
  | x :: rs => (cur ++ x) :: rs
  | [] => [cur]
theorem partsF_nil (cur : List UInt8) : partsF cur [] = [cur] := by simp [partsF, Pa.splitL]
theorem n59_iff (b : UInt8) : n59 b = !(b == 59) := by
  unfold n59
  have : ((b.toNat : Int) = 59) ↔ b = 59 := ⟨fun h => UInt8.toNat_inj.1 (show b.toNat = 59 by omega), fun h => by rw [h]; rfl⟩
  rw [Bool.eq_iff_iff]
  simp [this]
theorem partsF_go {cur r : List UInt8} {b : UInt8} (h : n59 b = true) : partsF cur (b :: r) = partsF (cur ++ [b]) r := by
  have hb : (b == 59) = false := by rw [n59_iff] at h; simpa using h
  obtain ⟨x, rs, e⟩ := Pa.splitL_ne r 59
  unfold partsF
  rw [Pa.splitL, hb, e]
  simp
theorem partsF_end {cur r : List UInt8} {b : UInt8} (h : n59 b = false) : partsF cur (b :: r) = cur :: partsF [] r := by
  have hb : (b == 59) = true := by rw [n59_iff] at h; simpa using h
  obtain ⟨x, rs, e⟩ := Pa.splitL_ne r 59
  unfold partsF
  rw [Pa.splitL, hb, e]
  simp
theorem cutL_step {s : List UInt8} {f k : Nat} (hf : f ≤ k) (hk : k < s.length) : cutL s (some (f : Int)) (some ((k + 1 : Nat) : Int)) = cutL s (some (f : Int)) (some (k : Int)) ++ [s.getD k 0] := by
  simp only [cutL, Int.toNat_natCast]
  rw [List.take_add_one, List.drop_append_of_le_length (by rw [List.length_take]; omega)]
  simp [List.getD, hk]
theorem cutL_self {s : List UInt8} {k : Nat} : cutL s (some (k : Int)) (some (k : Int)) = [] := by
  simp only [cutL, Int.toNat_natCast]
  rw [List.drop_eq_nil_of_le (by rw [List.length_take]; omega)]
theorem it8 (s : List UInt8) (hs : s.length < 1073741824) : ∀ (j k f : Nat) (L : Option (List Ord)), k + j = s.length → f ≤ k → (L.getD []).length ≤ 40 →
    iterL st8_4 (j + 2) (s, L, (f : Int), (k : Int), ()) = some (resS (goP (partsF (cutL s (some (f : Int)) (some (k : Int))) (s.drop k)) (L.getD [])))
  | 0, k, f, L, hk, hf, hL => by
    have e0 : st8 s L (f : Int) (k : Int) = some (pend s L (cutL s (some (f : Int)) (some (k : Int))) (k : Int)) := by
      unfold st8
      rw [if_pos (by omega), decide_eq_true (by omega), decide_eq_false (by omega)]
      rfl
    rw [List.drop_eq_nil_of_le (by omega), partsF_nil]
    unfold goP
    unfold pend at e0
    cases hb : bOf (cutL s (some (f : Int)) (some (k : Int))) with
    | false =>
      rw [hb] at e0
      exact iterL_out (S := S8_4) (step := st8_4) (v := (s, L, (f : Int), (k : Int), ())) (e := .ret) (o := (none, (7 : Int), ())) e0
    | true =>
      rw [hb] at e0
      cases hl : ((L.getD []).length : Int) == 40 with
      | true =>
        rw [hl] at e0
        exact iterL_out (S := S8_4) (step := st8_4) (v := (s, L, (f : Int), (k : Int), ())) (e := .ret) (o := (none, (4 : Int), ())) e0
      | false =>
        rw [hl] at e0
        have hlen : (L.getD []).length < 40 := by
          have : ((L.getD []).length : Int) ≠ 40 := by intro h; rw [h] at hl; cases hl
          omega
        rw [iterL_cont (v' := (s, some ((L.getD []) ++ [oOf (cutL s (some (f : Int)) (some (k : Int)))]), (k : Int) + 1, (k : Int) + 1, ())) e0]
        refine iterL_out (S := S8_4) (step := st8_4) (e := .exit 0) (o := (some ((L.getD []) ++ [oOf (cutL s (some (f : Int)) (some (k : Int)))]), ())) ?_
        show st8 s _ ((k : Int) + 1) ((k : Int) + 1) = _
        unfold st8
        rw [if_pos (by simp only [Option.getD_some, List.length_append, List.length_singleton]; omega), decide_eq_false (by omega)]
        rfl
  | j + 1, k, f, L, hk, hf, hL => by
    have hl : k < s.length := by omega
    have e : s.drop k = s.getD k 0 :: s.drop (k + 1) := by
      rw [List.drop_eq_getElem_cons hl]
      simp [List.getD, hl]
    rw [e]
    cases hn : n59 (s.getD k 0) with
    | true =>
      have e0 : st8 s L (f : Int) (k : Int) = some (.cont (s, L, (f : Int), ((k + 1 : Nat) : Int), ())) := by
        unfold st8
        rw [if_pos (by omega), decide_eq_true (by omega), decide_eq_true (by omega), Int.toNat_natCast, hn]
        rfl
      rw [partsF_go hn, ← cutL_step hf hl, iterL_cont (n := j + 2) e0]
      exact it8 s hs j (k + 1) f L (by omega) (by omega) hL
    | false =>
      have e0 : st8 s L (f : Int) (k : Int) = some (pend s L (cutL s (some (f : Int)) (some (k : Int))) (k : Int)) := by
        unfold st8
        rw [if_pos (by omega), decide_eq_true (by omega), decide_eq_true (by omega), Int.toNat_natCast, hn]
        rfl
      rw [partsF_end hn]
      unfold goP
      unfold pend at e0
      cases hb : bOf (cutL s (some (f : Int)) (some (k : Int))) with
      | false =>
        rw [hb] at e0
        exact iterL_out (S := S8_4) (step := st8_4) (v := (s, L, (f : Int), (k : Int), ())) (e := .ret) (o := (none, (7 : Int), ())) e0
      | true =>
        rw [hb] at e0
        cases hl2 : ((L.getD []).length : Int) == 40 with
        | true =>
          rw [hl2] at e0
          exact iterL_out (S := S8_4) (step := st8_4) (v := (s, L, (f : Int), (k : Int), ())) (e := .ret) (o := (none, (4 : Int), ())) e0
        | false =>
          rw [hl2] at e0
          have hlen : (L.getD []).length < 40 := by
            have : ((L.getD []).length : Int) ≠ 40 := by intro h; rw [h] at hl2; cases hl2
            omega
          rw [iterL_cont (n := j + 2) (v' := (s, some ((L.getD []) ++ [oOf (cutL s (some (f : Int)) (some (k : Int)))]), ((k + 1 : Nat) : Int), ((k + 1 : Nat) : Int), ())) e0]
          rw [it8 s hs j (k + 1) (k + 1) _ (by omega) (by omega) (by simp only [Option.getD_some, List.length_append, List.length_singleton]; omega), cutL_self]
          rfl
/-- The document's Parse. -/
noncomputable def docP (s : List UInt8) : List Ord × Int := goP (Pa.splitL s 59) []
noncomputable def G8 (s : List UInt8) (L : Option (List Ord)) (f i : Int) : DT (Sigma fun e => VD (S8_4.oV e)) := match L with
  | none => .br (decide (f = 0 ∧ i = 0)) (.br (shB s) (.br ((docP s).2 == 0) (.lf ⟨.exit 0, (some (docP s).1, ())⟩) (.lf ⟨.ret, (none, (docP s).2, ())⟩)) .no) .no
  | some _ => .no
theorem g8 (s : List UInt8) (L : Option (List Ord)) (f i : Int) (r : Sigma fun e => VD (S8_4.oV e)) (hr : (G8 s L f i).val = some r) : ∃ m, iterL st8_4 m (s, L, f, i, ()) = some r := by
  cases L with
  | some l => cases hr
  | none =>
    have hr' : (DT.br (decide (f = 0 ∧ i = 0)) (.br (shB s) (.br ((docP s).2 == 0) (.lf ⟨.exit 0, (some (docP s).1, ())⟩) (.lf ⟨.ret, (none, (docP s).2, ())⟩)) .no) .no : DT (Sigma fun e => VD (S8_4.oV e))).val = some r := hr
    simp only [DT.val] at hr'
    by_cases h1 : f = 0 ∧ i = 0
    · obtain ⟨rfl, rfl⟩ := h1
      cases h2 : shB s with
      | true =>
        simp only [h2, decide_true, cond_true, and_self] at hr'
        have key := it8 s (shB_lt h2) s.length 0 0 none (by omega) (Nat.le_refl _) (by simp)
        refine ⟨s.length + 2, ?_⟩
        rw [show (0 : Int) = ((0 : Nat) : Int) from rfl, key, cutL_self, List.drop_zero]
        have e : partsF [] s = Pa.splitL s 59 := by
          obtain ⟨x, rs, e⟩ := Pa.splitL_ne s 59
          unfold partsF
          rw [e]
          simp
        rw [e]
        rw [← hr']
        unfold resS docP
        cases h9 : (goP (Pa.splitL s 59) []).2 == 0 <;> (simp only [Option.getD_none, h9]; rfl)
      | false => simp [h2] at hr'
    · simp [h1] at hr'
noncomputable def G8_4 (v : VD S8_4.vs) : DT (Sigma fun e => VD (S8_4.oV e)) := G8 v.1 v.2.1 v.2.2.1 v.2.2.2.1
theorem hso8 : ∀ e, Nat.ble (szV (S8_4.oV e)) 1000000 = true := fun e => by cases e <;> rfl
theorem lp8_4 : (LCon.of S8_4 st8_4 G8_4).Ok Tryz.prog Q 8 4 := loop_ok t8 (fn := Tryz.f8) (by kernel_rfl) (by kernel_rfl) (by kernel_rfl) (by kernel_rfl) rfl rfl hso8
  (fun v r hr => by
    obtain ⟨s, L, f, i, u⟩ := v
    cases L with
    | none => exact ⟨T8 s none f i (E8 s none f i), by kernel_rfl, v8 s none f i r hr⟩
    | some l => exact ⟨T8 s (some l) f i (E8 s (some l) f i), by kernel_rfl, v8 s (some l) f i r hr⟩)
  (fun v r hr => g8 v.1 v.2.1 v.2.2.1 v.2.2.2.1 r hr)
noncomputable def lt5 : Tr (List (Nat × LCon)) := Tr.put (some [(4, LCon.of S8_4 st8_4 G8_4)]) 31 lt4 8
theorem t9 : TOk Tryz.prog Q kt6 lt5 xt0 := t8.addL (lp_one lp8_4 lp_nil) rfl
end Go.Proofs.YtbhjimflcfnpaaaGreatDoor.Sd

set_option linter.all false
/-! The document's Parse, as a contract. -/
namespace Go.Proofs.YtbhjimflcfnpaaaGreatDoor.Sd
open Go Go.Proofs Mo
noncomputable abbrev parR : List VT := [.o orT 29, .t i64]
theorem vt_ok {kt : Tr Con} {lt : Tr (List (Nat × LCon))} {xt : Tr CallC} (h : TOk Tryz.prog Q kt lt xt) {f : FuncId} {c : VCon} (hsz : Nat.ble (szV c.rs) 1000000 = true) (hT : ∀ x r, (c.T x).val = some r → ∃ T : DT (VD c.rs), runV Tryz.prog (syL kt lt xt) Moz.tb 1000 30 f c.as c.rs x = T.run (canonV c.rs) ∧ T.val = some r) : c.Ok Tryz.prog Q f :=
  vcon_of_tree (fun w0 hq => Moz.pokL Qm h w0 hq) Moz.tb_ok hsz hT
noncomputable def D8 (s : List UInt8) : DT (VD parR) := .br (shB s) (.br ((docP s).2 == 0) (.lf (some (docP s).1, (0 : Int), ())) (.lf (none, (docP s).2, ()))) .no
noncomputable abbrev docC : VCon := ⟨[str], parR, fun x => D8 x.1⟩
theorem doc8_ok : docC.Ok Tryz.prog Q 8 := vt_ok t9 rfl fun x r hr => by
  obtain ⟨s, u⟩ := x
  exact ⟨D8 s, by kernel_rfl, hr⟩
noncomputable def xt1 : Tr CallC := Tr.put (some docC.call) 31 xt0 8
theorem t10 : TOk Tryz.prog Q kt6 lt5 xt1 := t9.addX (VCon.xok Qm doc8_ok) rfl
end Go.Proofs.YtbhjimflcfnpaaaGreatDoor.Sd

set_option linter.all false
/-! Cut at a byte. -/
namespace Go.Proofs.YtbhjimflcfnpaaaGreatDoor.Sd
open Go Go.Proofs Mo
theorem index_cases : ∀ (l : List UInt8) (c : UInt8), (Lib.indexByte l c = -1 ∧ l.all (fun b => !(b == c)) = true) ∨ (∃ x y, l = x ++ c :: y ∧ x.all (fun b => !(b == c)) = true ∧ Lib.indexByte l c = (x.length : Nat))
  | [], c => .inl ⟨rfl, rfl⟩
  | b :: l, c => by
    rw [Lib.indexByte]
    by_cases hb : b = c
    · subst hb
      exact .inr ⟨[], l, rfl, rfl, by simp⟩
    · have hb' : (b == c) = false := by simpa using hb
      rcases index_cases l c with ⟨h1, h2⟩ | ⟨x, y, rfl, h2, h3⟩
      · refine .inl ⟨by simp [hb, h1], by simp only [List.all_cons, hb', h2]; rfl⟩
      · refine .inr ⟨b :: x, y, rfl, by simp only [List.all_cons, hb', h2]; rfl, ?_⟩
        rw [h3]
        simp [hb]
        try omega
noncomputable def ix (c : UInt8) (s : List UInt8) : Int := Lib.indexByte s c
noncomputable def cutT (c : UInt8) (s : List UInt8) : DT (AD [str, str, boo]) := .br (decide (ix c s ≥ 0)) (.lf (cutL s none (some (ix c s)), cutL s (some (w64 (ix c s + 1))) none, true, ())) (.lf (s, [], false, ()))
noncomputable def cutT0 (c : UInt8) (s : List UInt8) : DT (AD [str, str, boo]) := .br (decide (ix c s ≥ 0)) (gd [cutOk s.length none (some (ix c s)) none, cutOk s.length (some (w64 (ix c s + 1))) none none] (.lf (cutL s none (some (ix c s)), cutL s (some (w64 (ix c s + 1))) none, true, ()))) (.lf (s, [], false, ()))
noncomputable abbrev cutC : BCon := ⟨[str, str], [str, str, boo], fun x => .br (one1 x.2.1 && shB x.1) (cutT (hd1 x.2.1) x.1) .no⟩
theorem cutT_val {c : UInt8} {s : List UInt8} (hs : s.length < 1073741824) : (cutT0 c s).val = (cutT c s).val := by
  unfold cutT0 cutT
  simp only [DT.val]
  rcases index_cases s c with ⟨h1, h2⟩ | ⟨x, y, rfl, h2, h3⟩
  · have e : ix c s = -1 := h1
    rw [e]
    rfl
  · have e : ix c (x ++ c :: y) = (x.length : Nat) := h3
    have hl : (x ++ c :: y).length = x.length + (y.length + 1) := by simp
    rw [e, w_id (by omega) (by omega)]
    rw [gd_val]
    · rfl
    · intro g hg
      simp only [List.mem_cons, List.not_mem_nil, or_false] at hg
      rcases hg with rfl | rfl
      · simp only [cutOk, decide_eq_true_eq, hl]; omega
      · simp only [cutOk, decide_eq_true_eq, hl]; omega
theorem cut18 (c : UInt8) (s : List UInt8) (hs : s.length < 1073741824) (r : AD [str, str, boo]) (hr : (cutT c s).val = some r) : OkAt Tryz.prog Q 18 [str, str] [str, str, boo] (s, [c], ()) r := by
  refine at_ok t10 (T := cutT0 c s) rfl (by kernel_rfl) ?_
  rw [cutT_val hs]
  exact hr
theorem cut18_ok : XOk Tryz.prog Q 18 cutC.call := BCon.xok Qm fun x r hr => by
  obtain ⟨s, p, u⟩ := x
  have hr' : (DT.br (one1 p && shB s) (cutT (hd1 p) s) .no).val = some r := hr
  simp only [DT.val] at hr'
  cases hb : one1 p && shB s with
  | false => rw [hb] at hr'; cases hr'
  | true =>
    rw [hb] at hr'
    simp only [cond_true] at hr'
    rw [Bool.and_eq_true] at hb
    match p, hb.1 with
    | [c], _ => exact cut18 c s (shB_lt hb.2) r hr'
noncomputable def xt2 : Tr CallC := Tr.put (some cutC.call) 31 xt1 18
theorem t11 : TOk Tryz.prog Q kt6 lt5 xt2 := t10.addX cut18_ok rfl
end Go.Proofs.YtbhjimflcfnpaaaGreatDoor.Sd

set_option linter.all false
/-! Split at a byte. -/
namespace Go.Proofs.YtbhjimflcfnpaaaGreatDoor.Sd
open Go Go.Proofs Mo
noncomputable abbrev S135_11 : LS := ⟨66, [0, 1, 2, 3, 9, 10], [.t (.v (.str)), .t (.v (.str)), .t (.v (.int .i64)), .t (.v (.int .i64)), .o (.one (.str)) 9, .t (.v (.int .i64))], [11, 34, 35, 36, 37, 38, 39, 40, 41, 42, 43, 44, 45, 46, 47, 48, 49, 50, 51, 52, 53, 54, 55, 56, 57], fun e => Ex.rec (motive := fun _ => List Nat) [] (fun i => [0, 9, 10]) [] e, fun e => Ex.rec (motive := fun _ => List VT) [] (fun i => [.t (.v (.str)), .o (.one (.str)) 9, .t (.v (.int .i64))]) [] e⟩
theorem splitL_none {c : UInt8} : ∀ {l : List UInt8}, l.all (fun b => !(b == c)) = true → Pa.splitL l c = [l]
  | [], _ => rfl
  | b :: l, h => by
    simp only [List.all_cons, Bool.and_eq_true, Bool.not_eq_true'] at h
    rw [Pa.splitL, h.1, splitL_none h.2]
    rfl
theorem splitL_some {c : UInt8} {y : List UInt8} : ∀ {x : List UInt8}, x.all (fun b => !(b == c)) = true → Pa.splitL (x ++ c :: y) c = x :: Pa.splitL y c
  | [], _ => by simp [Pa.splitL]
  | b :: x, h => by
    simp only [List.all_cons, Bool.and_eq_true, Bool.not_eq_true'] at h
    rw [List.cons_append, Pa.splitL, h.1, splitL_some h.2]
    rfl
abbrev Bys : Type := List (List UInt8)
noncomputable def st135 (s : List UInt8) (p : List UInt8) (z n : Int) (L : Option Bys) (i : Int) : Option (LRes S135_11) := match p, L with
  | [c], some l => if z = 0 ∧ 0 ≤ i ∧ i ≤ n ∧ (l.length : Int) = n + 1 ∧ s.length < 1073741824 ∧ l.length ≤ 1073741825 then
      some (bif decide (i < n) then bif decide (ix c s < 0) then .out (.exit 0) (s, some l, i, ()) else .cont (cutL s (some (ix c s + 1)) none, [c], 0, n, some (l.set i.toNat (cutL s none (some (ix c s)))), i + 1, ()) else .out (.exit 0) (s, some l, i, ())) else none
  | _, _ => none
noncomputable def st135_11 (v : VD S135_11.vs) : Option (LRes S135_11) := st135 v.1 v.2.1 v.2.2.1 v.2.2.2.1 v.2.2.2.2.1 v.2.2.2.2.2.1
noncomputable def T135 (s : List UInt8) (c : UInt8) (n : Int) (l : Bys) (i : Int) : DT (LRes S135_11) :=
  .br (decide (i < n)) (.br (decide (ix c s < 0)) (.lf (.out (.exit 0) (s, some l, i, ()))) (gd [cutOk s.length none (some (w64 (ix c s + 0))) none, ixB i l.length, cutOk s.length (some (w64 (ix c s + 1))) none none]
    (.lf (.cont (cutL s (some (w64 (ix c s + 1))) none, [c], 0, n, some (l.set i.toNat (cutL s none (some (w64 (ix c s + 0))))), w64 (i + 1), ()))))) (.lf (.out (.exit 0) (s, some l, i, ())))
theorem v135 (s : List UInt8) (c : UInt8) (n : Int) (l : Bys) (i : Int) (r : LRes S135_11) (hr : st135 s [c] 0 n (some l) i = some r) : (T135 s c n l i).val = some r := by
  have hr' : (if (0 : Int) = 0 ∧ 0 ≤ i ∧ i ≤ n ∧ (l.length : Int) = n + 1 ∧ s.length < 1073741824 ∧ l.length ≤ 1073741825 then
      some (bif decide (i < n) then bif decide (ix c s < 0) then .out (.exit 0) (s, some l, i, ()) else .cont (cutL s (some (ix c s + 1)) none, [c], 0, n, some (l.set i.toNat (cutL s none (some (ix c s)))), i + 1, ()) else .out (.exit 0) (s, some l, i, ())) else none) = some r := hr
  split at hr'
  · rename_i h
    obtain ⟨-, h0, h1, h2, h3, h4⟩ := h
    rw [← hr']
    unfold T135
    simp only [DT.val]
    by_cases hi : i < n
    · rw [decide_eq_true hi]
      rcases index_cases s c with ⟨g1, g2⟩ | ⟨x, y, rfl, g2, g3⟩
      · have e : ix c s = -1 := g1
        rw [e]
        rfl
      · have e : ix c (x ++ c :: y) = (x.length : Nat) := g3
        have hl : (x ++ c :: y).length = x.length + (y.length + 1) := by simp
        have hlt : decide (((x.length : Nat) : Int) < 0) = false := by simp
        rw [e, hlt]
        simp only [cond_true, cond_false]
        rw [w_id (x := ((x.length : Nat) : Int) + 1) (by omega) (by omega), w_id (x := ((x.length : Nat) : Int) + 0) (by omega) (by omega), w_id (x := i + 1) (by omega) (by omega)]
        rw [gd_val]
        · simp only [DT.val, Int.add_zero]
        · intro g hg
          simp only [List.mem_cons, List.not_mem_nil, or_false] at hg
          rcases hg with rfl | rfl | rfl
          · simp only [cutOk, decide_eq_true_eq, hl]; omega
          · simp only [ixB, decide_eq_true_eq]; omega
          · simp only [cutOk, decide_eq_true_eq, hl]; omega
    · rw [decide_eq_false hi]
      rfl
  · cases hr'
noncomputable def lastP (s : List UInt8) (c : UInt8) : List UInt8 := (Pa.splitL s c).getLastD []
noncomputable def initP (s : List UInt8) (c : UInt8) : Bys := (Pa.splitL s c).dropLast
theorem it135 (c : UInt8) (n : Int) : ∀ (j i : Nat) (s : List UInt8) (l : Bys), (Pa.splitL s c).length ≤ j → i + (Pa.splitL s c).length = l.length → (l.length : Int) = n + 1 → s.length < 1073741824 → l.length ≤ 1073741825 →
    iterL st135_11 (j + 1) (s, [c], 0, n, some l, (i : Int), ()) = some ⟨.exit 0, (lastP s c, some (l.take i ++ initP s c ++ l.drop (i + (Pa.splitL s c).length - 1)), ((i + (Pa.splitL s c).length - 1 : Nat) : Int), ())⟩
  | 0, i, s, l, hj, hi, hn, hs, hl => by
    obtain ⟨x, r, e⟩ := Pa.splitL_ne s c
    rw [e] at hj
    simp at hj
  | j + 1, i, s, l, hj, hi, hn, hs, hl => by
    rcases index_cases s c with ⟨g1, g2⟩ | ⟨x, y, rfl, g2, g3⟩
    · have e : ix c s = -1 := g1
      have hp := splitL_none g2
      rw [hp] at hi
      simp only [List.length_singleton] at hi
      have e0 : st135 s [c] 0 n (some l) (i : Int) = some (.out (.exit 0) (s, some l, (i : Int), ())) := by
        show (if _ then _ else _) = _
        rw [if_pos (by omega), decide_eq_false (by omega)]
        rfl
      have key := iterL_out (S := S135_11) (step := st135_11) (n := j + 1) (v := (s, [c], 0, n, some l, (i : Int), ())) (e := .exit 0) (o := (s, some l, (i : Int), ())) e0
      rw [key]
      have h1 : lastP s c = s := by unfold lastP; rw [hp]; rfl
      have h2 : initP s c = [] := by unfold initP; rw [hp]; rfl
      have h3 : l.take i ++ [] ++ l.drop (i + 1 - 1) = l := by simp
      rw [h1, h2, hp, List.length_singleton, h3]
      rfl
    · have e : ix c (x ++ c :: y) = (x.length : Nat) := g3
      have hlen : (x ++ c :: y).length = x.length + (y.length + 1) := by simp
      have hp := splitL_some (y := y) g2
      obtain ⟨px, pr, ep⟩ := Pa.splitL_ne y c
      have hp1 : (Pa.splitL y c).length = pr.length + 1 := by rw [ep]; rfl
      rw [hp, List.length_cons] at hj hi
      have e1 : cutL (x ++ c :: y) (some (((x.length : Nat) : Int) + 1)) none = y := by
        show (x ++ c :: y).drop (((x.length : Nat) : Int) + 1).toNat = y
        rw [show (((x.length : Nat) : Int) + 1).toNat = x.length + 1 by omega, List.drop_append]
        simp
      have e2 : cutL (x ++ c :: y) none (some ((x.length : Nat) : Int)) = x := by
        show (x ++ c :: y).take ((x.length : Nat) : Int).toNat = x
        rw [Int.toNat_natCast, List.take_left]
      have e0 : st135 (x ++ c :: y) [c] 0 n (some l) (i : Int) = some (.cont (y, [c], 0, n, some (l.set i x), ((i + 1 : Nat) : Int), ())) := by
        show (if _ then _ else _) = _
        rw [if_pos (by omega), e, decide_eq_true (by omega), decide_eq_false (by omega), e1, e2, Int.toNat_natCast]
        rfl
      have key := iterL_cont (S := S135_11) (step := st135_11) (n := j + 1) (v := (x ++ c :: y, [c], 0, n, some l, (i : Int), ())) (v' := (y, [c], 0, n, some (l.set i x), ((i + 1 : Nat) : Int), ())) e0
      rw [key, it135 c n j (i + 1) y (l.set i x) (by omega) (by rw [List.length_set]; omega) (by rw [List.length_set]; exact hn) (by omega) (by rw [List.length_set]; exact hl)]
      have h1 : lastP (x ++ c :: y) c = lastP y c := by unfold lastP; rw [hp, ep]; rfl
      have h2 : initP (x ++ c :: y) c = x :: initP y c := by unfold initP; rw [hp, ep]; rfl
      have h3 : (l.set i x).take (i + 1) = l.take i ++ [x] := by
        rw [List.take_set, List.take_add_one, List.set_append_right _ _ (by rw [List.length_take]; omega)]
        have hil : i < l.length := by omega
        simp [hil, Nat.min_eq_left (Nat.le_of_lt hil)]
      have h4 : (l.set i x).drop (i + 1 + (Pa.splitL y c).length - 1) = l.drop (i + 1 + (Pa.splitL y c).length - 1) := by
        rw [List.drop_set_of_lt (by omega)]
      rw [h1, h2, h3, h4, hp, List.length_cons, show i + 1 + (Pa.splitL y c).length - 1 = i + ((Pa.splitL y c).length + 1) - 1 by omega]
      simp
noncomputable def spB (s : List UInt8) (c : UInt8) (n : Int) (l : Bys) : Bool := decide ((l.length : Int) = n + 1 ∧ (Pa.splitL s c).length = l.length ∧ s.length < 1073741824 ∧ l.length ≤ 1073741825)
noncomputable def kP (s : List UInt8) (c : UInt8) : Int := ((Pa.splitL s c).length - 1 : Nat)
noncomputable def G135 (s : List UInt8) (p : List UInt8) (z n : Int) (L : Option Bys) (i : Int) : DT (Sigma fun e => VD (S135_11.oV e)) := match p, L with
  | [c], some l => .br (decide (z = 0 ∧ i = 0)) (.br (spB s c n l) (.lf ⟨.exit 0, (lastP s c, some (initP s c ++ l.drop ((Pa.splitL s c).length - 1)), kP s c, ())⟩) .no) .no
  | _, _ => .no
noncomputable def G135_11 (v : VD S135_11.vs) : DT (Sigma fun e => VD (S135_11.oV e)) := G135 v.1 v.2.1 v.2.2.1 v.2.2.2.1 v.2.2.2.2.1 v.2.2.2.2.2.1
theorem g135 (s : List UInt8) (p : List UInt8) (z n : Int) (L : Option Bys) (i : Int) (r : Sigma fun e => VD (S135_11.oV e)) (hr : (G135 s p z n L i).val = some r) : ∃ m, iterL st135_11 m (s, p, z, n, L, i, ()) = some r := by
  match p, L with
  | [], none => cases hr
  | [], some _ => cases hr
  | [_], none => cases hr
  | _ :: _ :: _, none => cases hr
  | _ :: _ :: _, some _ => cases hr
  | [c], some l =>
    have hr' : (DT.br (decide (z = 0 ∧ i = 0)) (.br (spB s c n l) (.lf ⟨.exit 0, (lastP s c, some (initP s c ++ l.drop ((Pa.splitL s c).length - 1)), kP s c, ())⟩) .no) .no : DT (Sigma fun e => VD (S135_11.oV e))).val = some r := hr
    simp only [DT.val] at hr'
    by_cases h1 : z = 0 ∧ i = 0
    · obtain ⟨rfl, rfl⟩ := h1
      cases h2 : spB s c n l with
      | true =>
        simp only [h2, decide_true, cond_true, and_self] at hr'
        obtain ⟨a1, a2, a3, a4⟩ : (l.length : Int) = n + 1 ∧ (Pa.splitL s c).length = l.length ∧ s.length < 1073741824 ∧ l.length ≤ 1073741825 := by simpa [spB] using h2
        refine ⟨(Pa.splitL s c).length + 1, ?_⟩
        have key := it135 c n (Pa.splitL s c).length 0 s l (Nat.le_refl _) (by omega) a1 a3 a4
        rw [show (0 : Int) = ((0 : Nat) : Int) from rfl]
        refine key.trans ?_
        rw [← hr', List.take_zero, List.nil_append, Nat.zero_add]
        rfl
      | false => simp [h2] at hr'
    · simp [h1] at hr'
theorem hso135 : ∀ e, Nat.ble (szV (S135_11.oV e)) 1000000 = true := fun e => by cases e <;> rfl
theorem lp135_11 : (LCon.of S135_11 st135_11 G135_11).Ok Tryz.prog Q 135 11 := loop_ok t11 (fn := Tryz.f135) (by kernel_rfl) (by kernel_rfl) (by kernel_rfl) (by kernel_rfl) rfl rfl hso135
  (fun v r hr => by
    obtain ⟨s, p, z, n, L, i, u⟩ := v
    match p, L with
    | [], none => cases hr
    | [], some _ => cases hr
    | [_], none => cases hr
    | _ :: _ :: _, none => cases hr
    | _ :: _ :: _, some _ => cases hr
    | [c], some l =>
      have hz : z = 0 := by
        have hr' : (if z = 0 ∧ 0 ≤ i ∧ i ≤ n ∧ (l.length : Int) = n + 1 ∧ s.length < 1073741824 ∧ l.length ≤ 1073741825 then _ else none) = some r := hr
        split at hr'
        · rename_i h; exact h.1
        · cases hr'
      subst hz
      exact ⟨T135 s c n l i, by kernel_rfl, v135 s c n l i r hr⟩)
  (fun v r hr => g135 v.1 v.2.1 v.2.2.1 v.2.2.2.1 v.2.2.2.2.1 v.2.2.2.2.2.1 r hr)
noncomputable def lt6 : Tr (List (Nat × LCon)) := Tr.put (some [(11, LCon.of S135_11 st135_11 G135_11)]) 31 lt5 135
theorem t12 : TOk Tryz.prog Q kt6 lt6 xt2 := t11.addL (lp_one lp135_11 lp_nil) rfl
end Go.Proofs.YtbhjimflcfnpaaaGreatDoor.Sd

set_option linter.all false
/-! strings.Split. -/
namespace Go.Proofs.YtbhjimflcfnpaaaGreatDoor.Sd
open Go Go.Proofs Mo
theorem splitL_len (c : UInt8) : ∀ l : List UInt8, (Pa.splitL l c).length = List.count c l + 1
  | [] => rfl
  | b :: l => by
    rw [Pa.splitL, List.count_cons]
    have ih := splitL_len c l
    cases hb : b == c with
    | true => simp [ih]
    | false =>
      obtain ⟨x, r, e⟩ := Pa.splitL_ne l c
      rw [e] at ih ⊢
      simp at ih ⊢
      exact ih
noncomputable def L1 (s : List UInt8) (c : UInt8) (N : Int) : Bys := initP s c ++ (List.replicate N.toNat []).drop ((Pa.splitL s c).length - 1)
noncomputable def L2 (s : List UInt8) (c : UInt8) (N : Int) : Bys := (L1 s c N).set (kP s c).toNat (lastP s c)
noncomputable def T99 (s : List UInt8) (c : UInt8) (N : Int) : DT (AD [.v (.sl (.one .str))]) :=
  gd [decide (0 ≤ N ∧ N * ((16 : Int) + 1) ≤ 1099511627776), spB s c (w64 (N - 1)) (List.replicate N.toNat []), ixB (kP s c) (L1 s c N).length, cutOk (L2 s c N).length none (some (w64 (kP s c + 1))) none] (.lf (cutL (L2 s c N) none (some (w64 (kP s c + 1))), ()))
noncomputable def nP (s : List UInt8) (c : UInt8) : Int := mnI false (w64 (((Lib.countByte s c : Nat) : Int) + 1)) (w64 (s.length + 1))
theorem nP_eq {s : List UInt8} {c : UInt8} (hs : s.length < 1073741824) : nP s c = ((Pa.splitL s c).length : Nat) := by
  have h1 : List.count c s ≤ s.length := List.count_le_length
  have h2 : Lib.countByte s c = List.count c s := rfl
  unfold nP
  rw [h2, w_id (by omega) (by omega), w_id (by omega) (by omega), splitL_len]
  show (if _ then _ else _) = _
  rw [if_neg (by omega)]
  omega
theorem T99_val {s : List UInt8} {c : UInt8} (hs : s.length < 1073741824) : (T99 s c (nP s c)).val = some (Pa.splitL s c, ()) := by
  have hl := splitL_len c s
  have h1 : List.count c s ≤ s.length := List.count_le_length
  obtain ⟨x, r, e⟩ := Pa.splitL_ne s c
  have hne : Pa.splitL s c ≠ [] := by rw [e]; exact List.cons_ne_nil _ _
  have hd : (Pa.splitL s c).dropLast ++ [(Pa.splitL s c).getLastD []] = Pa.splitL s c := by
    rw [List.getLastD_eq_getLast?, List.getLast?_eq_some_getLast hne]
    exact List.dropLast_concat_getLast hne
  have hdl : (initP s c).length = (Pa.splitL s c).length - 1 := by unfold initP; rw [List.length_dropLast]
  have hk : kP s c = ((Pa.splitL s c).length - 1 : Nat) := rfl
  have hL1 : L1 s c (nP s c) = initP s c ++ [[]] := by
    unfold L1
    rw [nP_eq hs, Int.toNat_natCast, List.drop_replicate, show (Pa.splitL s c).length - ((Pa.splitL s c).length - 1) = 1 by omega]
    rfl
  have hL2 : L2 s c (nP s c) = Pa.splitL s c := by
    unfold L2
    rw [hL1, hk, Int.toNat_natCast, List.set_append_right _ _ (by omega), hdl, Nat.sub_self]
    exact hd
  have e1 : w64 (kP s c + 1) = ((Pa.splitL s c).length : Nat) := by
    rw [hk, w_id (by omega) (by omega)]
    omega
  unfold T99
  rw [gd_val, hL2, e1]
  · show some ((Pa.splitL s c).take _, ()) = _
    rw [Int.toNat_natCast, List.take_length]
  · intro g hg
    simp only [List.mem_cons, List.not_mem_nil, or_false] at hg
    rw [hL2, hL1, e1, nP_eq hs] at hg
    rcases hg with rfl | rfl | rfl | rfl
    · simp only [decide_eq_true_eq]; omega
    · rw [w_id (by omega) (by omega)]
      simp only [spB, decide_eq_true_eq, List.length_replicate, Int.toNat_natCast]
      refine ⟨?_, trivial, ?_, ?_⟩ <;> omega
    · simp only [ixB, decide_eq_true_eq, List.length_append, List.length_singleton, hdl, hk]; omega
    · show decide (0 ≤ (((Pa.splitL s c).length : Nat) : Int) ∧ (((Pa.splitL s c).length : Nat) : Int).toNat ≤ (Pa.splitL s c).length) = true
      rw [decide_eq_true_eq]; omega
noncomputable abbrev splC : CallC := spC 5 [str, str] (.one .str) (fun x => one1 x.2.1 && shB x.1) (fun x => Pa.splitL x.1 (hd1 x.2.1))
theorem spl99 (s : List UInt8) (c : UInt8) (hs : s.length < 1073741824) : OkAt Tryz.prog Q 99 [str, str] [.v (.sl (.one .str))] (s, [c], ()) (Pa.splitL s c, ()) :=
  at_ok t12 (T := T99 s c (nP s c)) rfl (by kernel_rfl) (T99_val hs)
theorem spl99_ok : XOk Tryz.prog Q 99 splC := spC_ok Qm (con_at fun x hx => by
  obtain ⟨s, p, u⟩ := x
  have hb : (one1 p && shB s) = true := hx
  rw [Bool.and_eq_true] at hb
  match p, hb.1 with
  | [c], _ => exact spl99 s c (shB_lt hb.2))
noncomputable def xt3 : Tr CallC := Tr.put (some splC) 31 xt2 99
theorem t13 : TOk Tryz.prog Q kt6 lt6 xt3 := t12.addX spl99_ok rfl
end Go.Proofs.YtbhjimflcfnpaaaGreatDoor.Sd

set_option linter.all false
/-! addr.ReadIP and addr.Read. -/
namespace Go.Proofs.YtbhjimflcfnpaaaGreatDoor.Sd
open Go Go.Proofs Mo
abbrev ip4 : Tys := .cons (.int .u8) (.cons (.int .u8) (.cons (.int .u8) (.one (.int .u8))))
noncomputable abbrev ipR : List AT := [.a ip4, i64]
noncomputable def nN (p : List UInt8) : Int := (Sdn.numberR ⟨⟨p⟩⟩ 255).1
noncomputable def nO (p : List UInt8) : Bool := (Sdn.numberR ⟨⟨p⟩⟩ 255).2
noncomputable def badI : AD ipR := ((0, 0, 0, 0), 7, ())
noncomputable def F4 (a b c d : List UInt8) : DT (AD ipR) := .br (!nO a) (.lf badI) (.br (!nO b) (.lf badI) (.br (!nO c) (.lf badI) (.br (!nO d) (.lf badI) (.lf ((IntKind.u8.wrap (nN a), IntKind.u8.wrap (nN b), IntKind.u8.wrap (nN c), IntKind.u8.wrap (nN d)), 0, ())))))
noncomputable def T61 (s : List UInt8) : DT (AD ipR) := .br (one1 [46] && shB s) (.ls (Pa.splitL s 46) (.lf badI) fun a r => .ls r (.lf badI) fun b r => .ls r (.lf badI) fun c r => .ls r (.lf badI) fun d r => .ls r (F4 a b c d) fun e r => .lf badI) .no
noncomputable def ipV (a : Pa.Ip) : ip4.D := (a.a, a.b, a.c, a.d)
noncomputable abbrev ip61C : Con := ⟨[str], ipR, fun x => shB x.1, fun x => (ipV (Pa.readIP ⟨⟨x.1⟩⟩).1, (Pa.readIP ⟨⟨x.1⟩⟩).2, ())⟩
theorem F4_val (a b c d : List UInt8) : (F4 a b c d).val = some (ipV (Pa.readF ⟨⟨a⟩⟩ ⟨⟨b⟩⟩ ⟨⟨c⟩⟩ ⟨⟨d⟩⟩ 0).1, (Pa.readF ⟨⟨a⟩⟩ ⟨⟨b⟩⟩ ⟨⟨c⟩⟩ ⟨⟨d⟩⟩ 0).2, ()) := by
  have e : Pa.restOk ⟨⟨a⟩⟩ ⟨⟨b⟩⟩ ⟨⟨c⟩⟩ ⟨⟨d⟩⟩ 0 = (nO a && nO b && nO c && nO d) := rfl
  unfold F4 Pa.readF
  rw [e]
  simp only [DT.val]
  cases nO a <;> cases nO b <;> cases nO c <;> cases nO d <;> rfl
theorem T61_val {s : List UInt8} (hs : shB s = true) : (T61 s).val = some (ipV (Pa.readIP ⟨⟨s⟩⟩).1, (Pa.readIP ⟨⟨s⟩⟩).2, ()) := by
  unfold T61
  have h1 : (one1 [46] && shB s) = true := by rw [hs]; rfl
  have hz : Pa.splitZ ⟨⟨s⟩⟩ ⟨#[46]⟩ = (Pa.splitL s 46).map Pa.ofL := rfl
  simp only [DT.val, h1, cond_true]
  match hp : Pa.splitL s 46 with
  | [] => simp only [DT.val]; rw [Pa.readIP_short (by rw [hz, hp]; decide)]; rfl
  | [_] => simp only [DT.val]; rw [Pa.readIP_short (by rw [hz, hp]; simp)]; rfl
  | [_, _] => simp only [DT.val]; rw [Pa.readIP_short (by rw [hz, hp]; simp)]; rfl
  | [_, _, _] => simp only [DT.val]; rw [Pa.readIP_short (by rw [hz, hp]; simp)]; rfl
  | [a, b, c, d] => simp only [DT.val]; rw [Pa.readIP_four (by rw [hz, hp]; rfl)]; exact F4_val a b c d
  | _ :: _ :: _ :: _ :: _ :: _ => simp only [DT.val]; rw [Pa.readIP_short (by rw [hz, hp]; simp)]; rfl
theorem ip61 (s : List UInt8) (h : shB s = true) : OkAt Tryz.prog Q 61 [str] ipR (s, ()) (ipV (Pa.readIP ⟨⟨s⟩⟩).1, (Pa.readIP ⟨⟨s⟩⟩).2, ()) :=
  at_ok t13 (T := T61 s) rfl (by kernel_rfl) (T61_val h)
theorem ip61_ok : ip61C.Ok Tryz.prog Q 61 := con_at fun x hx => ip61 x.1 hx
noncomputable def kt7 : Tr Con := Tr.put (some ip61C) 31 kt6 61
theorem t14 : TOk Tryz.prog Q kt7 lt6 xt3 := t13.addK ip61_ok rfl
noncomputable abbrev adR : List AT := [.a adT, i64]
noncomputable def badA : AD adR := ((0, 0, 0, 0, 0), 7, ())
noncomputable def ipx (s : List UInt8) : Pa.Ip := (Pa.readIP ⟨⟨s⟩⟩).1
noncomputable def T37 (s H B : List UInt8) : DT (AD adR) := .br (one1 [58] && shB s) (.br (decide (ix 58 s ≥ 0)) (.br (shB H) (.br ((Pa.readIP ⟨⟨H⟩⟩).2 != 0) (.lf badA) (.br (!(Sdn.numberR ⟨⟨B⟩⟩ 65535).2) (.lf badA)
  (.lf (((ipx H).a, (ipx H).b, (ipx H).c, (ipx H).d, IntKind.u16.wrap (Sdn.numberR ⟨⟨B⟩⟩ 65535).1), 0, ())))) .no) (.br (shB s) (.lf badA) .no)) .no
noncomputable abbrev rd37C : Con := ⟨[str], adR, fun x => shB x.1, fun x => (rdP x.1, rdE x.1, ())⟩
theorem T37_val {s : List UInt8} (hs : shB s = true) : (T37 s (cutL s none (some (ix 58 s))) (cutL s (some (w64 (ix 58 s + 1))) none)).val = some (rdP s, rdE s, ()) := by
  have h1 : (one1 [58] && shB s) = true := by rw [hs]; rfl
  have hl := shB_lt hs
  unfold T37
  simp only [DT.val, h1, cond_true]
  rcases index_cases s 58 with ⟨g1, g2⟩ | ⟨x, y, rfl, g2, g3⟩
  · have e : ix 58 s = -1 := g1
    have hc : Pa.cutZ ⟨⟨s⟩⟩ ⟨#[58]⟩ = (⟨⟨s⟩⟩, Pa.ofL [], false) := by
      unfold Pa.cutZ
      rw [if_neg]
      show ¬ 0 < List.count 58 s
      have : List.count 58 s = 0 := by
        rw [List.count_eq_zero]
        intro hm
        have := List.all_eq_true.1 g2 58 hm
        simp at this
      omega
    have hr : Pa.readA ⟨⟨s⟩⟩ = (Pa.addr0, 7) := by
      unfold Pa.readA
      rw [if_neg]
      unfold Pa.readOk
      rw [hc]
      simp
    have hp : rdP s = (0, 0, 0, 0, 0) := by unfold rdP; rw [hr]; rfl
    have he : rdE s = 7 := by unfold rdE; rw [hr]
    rw [e, hs, hp, he]
    rfl
  · have e : ix 58 (x ++ 58 :: y) = (x.length : Nat) := g3
    have hlen : (x ++ 58 :: y).length = x.length + (y.length + 1) := by simp
    have hc : Pa.cutZ ⟨⟨x ++ 58 :: y⟩⟩ ⟨#[58]⟩ = (Pa.ofL x, Pa.ofL y, true) := by
      unfold Pa.cutZ
      have hix : Pa.indexZ ⟨⟨x ++ 58 :: y⟩⟩ ⟨#[58]⟩ = (x.length : Nat) := g3
      rw [if_pos]
      · rw [hix, Int.toNat_natCast]
        show (Pa.ofL ((x ++ 58 :: y).take x.length), Pa.ofL ((x ++ 58 :: y).drop (x.length + 1)), true) = _
        rw [List.take_left, List.drop_append, List.drop_eq_nil_of_le (by omega)]
        simp
      · show 0 < List.count 58 (x ++ 58 :: y)
        simp
        omega
    have e1 : cutL (x ++ 58 :: y) none (some (ix 58 (x ++ 58 :: y))) = x := by
      rw [e]
      show (x ++ 58 :: y).take ((x.length : Nat) : Int).toNat = x
      rw [Int.toNat_natCast, List.take_left]
    have e2 : cutL (x ++ 58 :: y) (some (w64 (ix 58 (x ++ 58 :: y) + 1))) none = y := by
      rw [e, w_id (by omega) (by omega)]
      show (x ++ 58 :: y).drop (((x.length : Nat) : Int) + 1).toNat = y
      rw [show (((x.length : Nat) : Int) + 1).toNat = x.length + 1 by omega, List.drop_append]
      simp
    have hx : shB x = true := by simp only [shB, decide_eq_true_eq]; omega
    have hok : Pa.readOk ⟨⟨x ++ 58 :: y⟩⟩ = ((Pa.readIP ⟨⟨x⟩⟩).2 == 0 && (Sdn.numberR ⟨⟨y⟩⟩ 65535).2) := by
      unfold Pa.readOk
      rw [hc]
      rfl
    rw [e1, e2, hx, e, decide_eq_true (by omega)]
    simp only [cond_true]
    unfold rdP rdE Pa.readA
    rw [hok, hc]
    have hne : ((Pa.readIP ⟨⟨x⟩⟩).2 != 0) = !((Pa.readIP ⟨⟨x⟩⟩).2 == 0) := rfl
    rw [hne]
    cases (Pa.readIP ⟨⟨x⟩⟩).2 == 0 with
    | false => rfl
    | true =>
      cases (Sdn.numberR ⟨⟨y⟩⟩ 65535).2 with
      | false => rfl
      | true => rfl
theorem rd37 (s : List UInt8) (h : shB s = true) : OkAt Tryz.prog Q 37 [str] adR (s, ()) (rdP s, rdE s, ()) :=
  at_ok t14 (T := T37 s (cutL s none (some (ix 58 s))) (cutL s (some (w64 (ix 58 s + 1))) none)) rfl (by kernel_rfl) (T37_val h)
theorem rd37_ok : rd37C.Ok Tryz.prog Q 37 := con_at fun x hx => rd37 x.1 hx
noncomputable def kt8 : Tr Con := Tr.put (some rd37C) 31 kt7 37
theorem t15 : TOk Tryz.prog Q kt8 lt6 xt3 := t14.addK rd37_ok rfl
end Go.Proofs.YtbhjimflcfnpaaaGreatDoor.Sd

set_option linter.all false
/-! What may stand behind a word (not: write, which ranges over a string). -/
namespace Go.Proofs.YtbhjimflcfnpaaaGreatDoor.Sd
open Go Go.Proofs Mo
def wCon : List UInt8 := [99, 111, 110, 110, 101, 99, 116]
def wWri : List UInt8 := [119, 114, 105, 116, 101]
def wLoo : List UInt8 := [108, 111, 111, 112]
def mTab : List (List UInt8 × Int) := [([108, 105, 115, 116, 101, 110], 65535), ([114, 101, 97, 100], 256), ([108, 111, 111, 112], 39)]
noncomputable def fitN (m : Int) (w a : List UInt8) : Bool := Lib.itoa (numA a) == a && (decide (numA a ≥ m) && decide (numA a ≤ getM 0 mTab w))
noncomputable def fitU (w a : List UInt8) : Bool := okA a && fitN (bif w == wLoo then 0 else 1) w a
noncomputable def nT (m : Int) (w a : List UInt8) : DT (AD [boo]) := .br (inI (numA a)) (.br (Lib.itoa (numA a) == a) (.br (decide (numA a ≥ m)) (.lf (decide (numA a ≤ getM 0 mTab w), ())) (.lf (false, ()))) (.lf (false, ()))) .no
noncomputable def T21 (w a : List UInt8) : DT (AD [boo]) :=
  .br (w == wCon) (.br (shB a) (.br (rdE a == 0) (.br ((rdP a).2.2.2.2 != 0) (.lf (!zIP (rdP a).1 (rdP a).2.1 (rdP a).2.2.1 (rdP a).2.2.2.1, ())) (.lf (false, ()))) (.lf (false, ()))) .no)
    (.br (w == wWri) .no (.br (decide (a.length ≤ 281474976710656)) (.br (okA a) (.br (w == wLoo) (nT 0 w a) (nT 1 w a)) (.br (w == wLoo) (.lf (false, ())) (.lf (false, ())))) .no))
theorem nT_val {m : Int} {w a : List UInt8} (h : inI (numA a) = true) : (nT m w a).val = some (fitN m w a, ()) := by
  unfold nT fitN
  simp only [DT.val, h, cond_true]
  cases Lib.itoa (numA a) == a with
  | false => rfl
  | true => cases decide (numA a ≥ m) <;> rfl
theorem T21_val {w a : List UInt8} (hs : shB a = true) (hi : inI (numA a) = true) (hw : (w == wWri) = false) : (T21 w a).val = some ((bif w == wCon then conB a else fitU w a), ()) := by
  have hl := shB_lt hs
  unfold T21
  simp only [DT.val, hs, hw, cond_true, cond_false]
  cases w == wCon with
  | true =>
    simp only [cond_true]
    unfold conB
    cases rdE a == 0 with
    | false => rfl
    | true => cases (rdP a).2.2.2.2 != 0 <;> rfl
  | false =>
    simp only [cond_false]
    rw [decide_eq_true (by omega)]
    simp only [cond_true]
    unfold fitU
    cases okA a with
    | false => cases w == wLoo <;> rfl
    | true => cases w == wLoo with
      | false => exact nT_val hi
      | true => exact nT_val hi
theorem fit21 (w a : List UInt8) (hs : shB a = true) (hi : inI (numA a) = true) (hw : (w == wWri) = false) : OkAt Tryz.prog Q 21 [str, str] [boo] (w, a, ()) ((bif w == wCon then conB a else fitU w a), ()) :=
  at_ok t15 (T := T21 w a) rfl (by kernel_rfl) (T21_val hs hi hw)
end Go.Proofs.YtbhjimflcfnpaaaGreatDoor.Sd

set_option linter.unusedVariables false
/-! fits at write: its loop ranges over a string. -/
namespace Sdn
open Go
/-- From byte i on. -/
def wrF (s : ByteArray) : Nat → Nat → Bool
  | 0, _ => true
  | b + 1, i => if i < s.size then
      (let r : Int := ((Utf8.decode s i).1 : Nat)
       if r < 32 ∨ 126 < r then false else wrF s b (i + (Utf8.decode s i).2))
    else true
def wrR (s : ByteArray) : Bool := wrF s s.size 0 && (!s.toList.isEmpty && decide ((s.size : Int) ≤ 200))
theorem wrR_bad {s : ByteArray} (h : wrF s s.size 0 = false) : wrR s = false := by simp [wrR, h]
theorem wrR_end {s : ByteArray} (h : wrF s s.size 0 = true) : wrR s = (!s.toList.isEmpty && decide ((s.size : Int) ≤ 200)) := by simp [wrR, h]
theorem wrF_end (s : ByteArray) (b pos : Nat) (h : ¬ pos < s.size) : wrF s b pos = true := by
  cases b with
  | zero => rfl
  | succ b => simp [wrF, h]
theorem wrF_bad {s : ByteArray} {b pos : Nat} {r : Int} (hp : pos < s.size) (hd : s.size ≤ pos + b) (hr : r = ((Utf8.decode s pos).1 : Nat)) (h : r < 32 ∨ 126 < r) : wrF s b pos = false := by
  cases b with
  | zero => omega
  | succ b => simp only [wrF, hp, if_true, ← hr, h]
theorem wrF_step {s : ByteArray} {b pos : Nat} {r : Int} (hp : pos < s.size) (hd : s.size ≤ pos + b) (hr : r = ((Utf8.decode s pos).1 : Nat)) (h1 : ¬ (r < 32 ∨ 126 < r)) :
    ∃ c, b = c + 1 ∧ wrF s b pos = wrF s c (pos + (Utf8.decode s pos).2) := by
  cases b with
  | zero => omega
  | succ b => exact ⟨b, rfl, by simp only [wrF, hp, if_true, ← hr, h1, if_false]⟩
end Sdn
namespace Go.Proofs.YtbhjimflcfnpaaaGreatDoor
open Go.RowKit Sdn
set_option maxRecDepth 1000000 in
theorem write_walk (s : ByteArray) (w : World) :
    Calls Tryz.prog 21 #[.string ⟨#[119, 114, 105, 116, 101]⟩, .string s] w fun e w' => e = .returned (.bool (wrR s)) ∧ ∃ pos, w' = w.iter s pos := by
  go_enter Tryz.func21, Tryz.ntmps21
  go_wp2
  go_loopw [] (fun w' => ∃ (pos b : Nat), w' = w.iter s pos ∧ wrF s b pos = wrF s s.size 0 ∧ s.size ≤ pos + b) (fun w' => s.size - w'.iterPos w.heap.size)
  case atStart => exact ⟨0, s.size, rfl, rfl, by omega⟩
  case round =>
    obtain ⟨pos, b, rfl, hc, hd⟩ := hrel
    by_cases hp : pos < s.size
    · have hnx : ∀ ty, (Instr.next (.pointer (some ⟨w.heap.size, 0, none⟩)) true ty).run Tryz.prog (w.iter s pos) = _ := fun ty => run_next_any w s pos ty hp
      have hwd := Sdn.width_pos s pos hp
      go_wp2
      all_goals clear hnx
      all_goals (try simp only [beq_iff_eq, beq_eq_false_iff_ne, ne_eq] at *)
      all_goals first
        | (have hz : wrF s b pos = false := wrF_bad hp hd rfl (by omega)
           rw [hc] at hz
           go_ret
           rw [wrR_bad hz]
           exact ⟨rfl, _, rfl⟩)
        | (obtain ⟨c, rfl, hz⟩ := wrF_step hp hd rfl (by omega)
           rw [hc] at hz
           go_roundw
           case rel => exact ⟨pos + (Utf8.decode s pos).2, c, rfl, hz.symm, by omega⟩
           case measure => simp; omega)
        | trace_state
    · have hnx : ∀ ty, (Instr.next (.pointer (some ⟨w.heap.size, 0, none⟩)) true ty).run Tryz.prog (w.iter s pos) = _ := fun ty => run_next_end w s pos ty hp
      have hz : wrR s = (!s.toList.isEmpty && decide ((s.size : Int) ≤ 200)) := wrR_end (hc ▸ wrF_end s b pos hp)
      clear hc
      go_wp2
      all_goals go_ret
      all_goals rw [hz]
      all_goals first
        | exact ⟨rfl, _, rfl⟩
        | (refine ⟨?_, _, rfl⟩
           simp_all)
end Go.Proofs.YtbhjimflcfnpaaaGreatDoor

set_option linter.all false
/-! fits, and the program's Parse. -/
namespace Go.Proofs.YtbhjimflcfnpaaaGreatDoor.Sd
open Go Go.Proofs Mo
noncomputable abbrev wrC : Con := ⟨[str, str], [boo], fun x => x.1 == wWri, fun x => (Sdn.wrR ⟨⟨x.2.1⟩⟩, ())⟩
theorem wr21_ok : wrC.Ok Tryz.prog Q 21 := con_lib fun pr w args x hq hpr hx hp => by
  rw [two_args hx]
  obtain ⟨s, t, u⟩ := x
  have hs : s = wWri := by
    have h : (s == wWri) = true := hp
    simpa using h
  subst hs
  exact (write_walk ⟨⟨t⟩⟩ w).mono fun e w' ⟨h1, pos, h2⟩ => ⟨_, h1, h2 ▸ (RowKit.Below.refl _ _).alloc (Nat.le_refl _) _, fun pr => bool_res (pr := pr)⟩
noncomputable def fitB (w a : List UInt8) : Bool := bif w == wWri then Sdn.wrR ⟨⟨a⟩⟩ else bif w == wCon then conB a else fitU w a
noncomputable abbrev fitC : BCon := ⟨[str, str], [boo], fun x => .br (shB x.2.1) (.br (inI (numA x.2.1)) (.br (fitB x.1 x.2.1) (.lf (true, ())) (.lf (false, ()))) .no) .no⟩
theorem fit21_ok : XOk Tryz.prog Q 21 fitC.call := BCon.xok Qm fun x r hr => by
  obtain ⟨w, a, u⟩ := x
  have hr' : (DT.br (shB a) (.br (inI (numA a)) (.br (fitB w a) (.lf (true, ())) (.lf (false, ()))) .no) .no : DT (AD [boo])).val = some r := hr
  simp only [DT.val] at hr'
  cases h1 : shB a with
  | false => rw [h1] at hr'; cases hr'
  | true =>
    rw [h1] at hr'
    cases h2 : inI (numA a) with
    | false => rw [h2] at hr'; cases hr'
    | true =>
      rw [h2] at hr'
      simp only [cond_true] at hr'
      have hv : r = (fitB w a, ()) := by
        cases h3 : fitB w a <;> (rw [h3] at hr'; cases hr'; rfl)
      subst hv
      unfold fitB
      cases hw : w == wWri with
      | true => exact at_con wr21_ok (x := (w, a, ())) hw
      | false => exact fit21 w a h1 h2 hw
noncomputable def xt4 : Tr CallC := Tr.put (some fitC.call) 31 xt3 21
theorem t16 : TOk Tryz.prog Q kt8 lt6 xt4 := t15.addX fit21_ok rfl
end Go.Proofs.YtbhjimflcfnpaaaGreatDoor.Sd

set_option linter.all false
/-! The program's Parse. -/
namespace Go.Proofs.YtbhjimflcfnpaaaGreatDoor.Sd
open Go Go.Proofs Mo
/-! Cut, with the same words whether it finds something or not: so that both roads come together again. -/
noncomputable def fnd (c : UInt8) (s : List UInt8) : Bool := decide (ix c s ≥ 0)
noncomputable def wOf (c : UInt8) (s : List UInt8) : List UInt8 := bif fnd c s then cutL s none (some (ix c s)) else s
noncomputable def aOf (c : UInt8) (s : List UInt8) : List UInt8 := bif fnd c s then cutL s (some (w64 (ix c s + 1))) none else []
noncomputable abbrev cutM : BCon := ⟨[str, str], [str, str, boo], fun x => .br (one1 x.2.1 && shB x.1) (.br (fnd (hd1 x.2.1) x.1) (.lf (wOf (hd1 x.2.1) x.1, aOf (hd1 x.2.1) x.1, true, ())) (.lf (wOf (hd1 x.2.1) x.1, aOf (hd1 x.2.1) x.1, false, ()))) .no⟩
theorem cutM_ok : XOk Tryz.prog Q 18 cutM.call := BCon.xok Qm fun x r hr => by
  obtain ⟨s, p, u⟩ := x
  have hr' : (DT.br (one1 p && shB s) (.br (fnd (hd1 p) s) (.lf (wOf (hd1 p) s, aOf (hd1 p) s, true, ())) (.lf (wOf (hd1 p) s, aOf (hd1 p) s, false, ()))) .no : DT (AD [str, str, boo])).val = some r := hr
  simp only [DT.val] at hr'
  cases hb : one1 p && shB s with
  | false => rw [hb] at hr'; cases hr'
  | true =>
    rw [hb] at hr'
    simp only [cond_true] at hr'
    rw [Bool.and_eq_true] at hb
    match p, hb.1, hr' with
    | [c], _, hr' =>
      refine cut18 c s (shB_lt hb.2) r ?_
      unfold cutT
      simp only [DT.val]
      have hr2 : (bif fnd c s then some (wOf c s, aOf c s, true, ()) else some (wOf c s, aOf c s, false, ())) = some r := hr'
      unfold wOf aOf at hr2
      show (bif fnd c s then _ else _) = _
      cases hf : fnd c s with
      | true => rw [hf] at hr2; exact hr2
      | false => rw [hf] at hr2; exact hr2
noncomputable def xt5 : Tr CallC := Tr.put (some cutM.call) 31 xt4 18
theorem t17 : TOk Tryz.prog Q kt8 lt6 xt5 := t16.addX cutM_ok rfl
def wTab : List (List UInt8 × Bool) := [([108, 105, 115, 116, 101, 110], true), ([97, 99, 99, 101, 112, 116], false), ([99, 111, 110, 110, 101, 99, 116], true), ([114, 101, 97, 100], true), ([119, 114, 105, 116, 101], true), ([101, 99, 104, 111], false), ([107, 101, 101, 112], false), ([115, 104, 111, 119], false), ([99, 108, 111, 115, 101], false), ([108, 111, 111, 112], true)]
noncomputable def bad7 : DT (VD parR) := .lf (none, (7 : Int), ())
noncomputable def dec (t : List UInt8) (k : DT (VD parR)) : DT (VD parR) :=
  .br (one1 [32] && shB t) (.br (fnd 32 t) (.br (!hasM wTab (wOf 32 t)) bad7 (.br (!(true == getM false wTab (wOf 32 t))) bad7 (.br (shB (aOf 32 t)) (.br (inI (numA (aOf 32 t))) (.br (fitB (wOf 32 t) (aOf 32 t)) k bad7) .no) .no)))
    (.br (!hasM wTab (wOf 32 t)) bad7 (.br (!(false == getM false wTab (wOf 32 t))) bad7 k))) .no
noncomputable def okT1 (p : List UInt8) (k : DT (VD parR)) : DT (VD parR) := .br (trmC.pre (p, [32], ())) (dec (Lib.trimB p 32) k) .no
noncomputable def oAt (p : List UInt8) : Ord := (wOf 32 (Lib.trimB p 32), aOf 32 (Lib.trimB p 32))
noncomputable def part (s : List UInt8) : List UInt8 := cutL s none (some (w64 (ix 59 s + 0)))
noncomputable def rest (s : List UInt8) : List UInt8 := cutL s (some (w64 (ix 59 s + 1))) none
noncomputable def node : Nat → List UInt8 → List Ord → DT (VD parR)
  | 0, s, acc => .br (decide (ix 59 s < 0)) (okT1 s (.lf (none, (4 : Int), ()))) (.br (cutOk s.length none (some (w64 (ix 59 s + 0))) none) (okT1 (part s) (.lf (none, (4 : Int), ()))) .no)
  | n + 1, s, acc => .br (decide (ix 59 s < 0)) (okT1 s (.lf (some (acc ++ [oAt s]), (0 : Int), ()))) (.br (cutOk s.length none (some (w64 (ix 59 s + 0))) none) (okT1 (part s) (.br (cutOk s.length (some (w64 (ix 59 s + 1))) none none) (node n (rest s) (acc ++ [oAt (part s)])) .no)) .no)
theorem run7 (s : List UInt8) : runV Tryz.prog (syL kt8 lt6 xt5) Moz.tb 1000 30 7 [str] parR (s, ()) = (node 40 s []).run (canonV parR) := by kernel_rfl
end Go.Proofs.YtbhjimflcfnpaaaGreatDoor.Sd

