/- Texts of this claim, merged (Shelf). -/
import Derived.Shelf.Strconv.Itoa0
import Derived.Shelf.Strconv.ParseIntEmpty
import Derived.Shelf.LaysM
import Derived.Shelf.Strconv.Clone
import Derived.Shelf.Strconv.SyntaxError
import Derived.Shelf.LaysC
import Derived.Shelf.Strconv.ToError
import Derived.Shelf.Strconv.Lower
import Derived.Shelf.Strconv.ParseUint10
import Derived.Shelf.Strconv.ParseUint10Empty
import Derived.Shelf.Strconv.ParseUint10Any
import Derived.Shelf.Strconv.ParseInt10
import Derived.Shelf.Strconv.RangeError
import Derived.Shelf.Strconv.ToErrorRange
import Derived.Shelf.Strconv.ParseUintEmpty
import Derived.Shelf.Strconv.ParseUint10b64
import Derived.Shelf.Strconv.ParseUint10b32
import Derived.Shelf.Strconv.ParseUint10b16
import Derived.Shelf.Strconv.ParseUint10b8
import Derived.Shelf.Strconv.ParseUint10At
import Derived.Shelf.Strconv.ParseInt10At64
import Derived.Shelf.Strconv.ParseInt10At32
import Derived.Shelf.Strconv.ParseInt10At16
import Derived.Shelf.Strconv.ParseInt10At8
import Derived.Shelf.Strconv.ParseInt10All
import Derived.Shelf.Strconv.ParseIntPublic10
import Derived.Shelf.Strconv.ErrVarParseInt
import Derived.Shelf.Strings.Prefix
import Derived.Shelf.Slices.Turned
import Derived.Ground.Names2Prog
import Derived.Shelf.Slices.Clone
import Derived.Ground.SlgnProg
import Derived.Shelf.SlicesE.Clone
import Derived.Test.YtcjlpkegkehghaaGreatDoorProg
section
namespace Go.Proofs
open Go.Shelf
def Tryz.laysC174_ren : Go.Shelf.Ren := ⟨fun | 174 => 232 | 247 => 267 | 245 => 268 | 287 => 282 | 279 => 283 | 280 => 284 | 281 => 285 | 282 => 286 | 321 => 295 | 322 => 296 | 316 => 297 | 171 => 299 | 205 => 298 | 243 => 301 | 246 => 302 | 283 => 303 | 284 => 304 | 285 => 305 | 286 => 306 | 129 => 308 | 317 => 307 | 318 => 309 | 319 => 310 | 320 => 311 | 337 => 182 | 338 => 312 | n => n, fun | 9 => 9 | 3 => 3 | 2 => 2 | 75 => 32 | 85 => 277 | 4 => 4 | 167 => 326 | 5 => 5 | 53 => 265 | 175 => 327 | 46 => 213 | 168 => 329 | 37 => 85 | 0 => 0 | 210 => 339 | 21 => 21 | 127 => 342 | 145 => 345 | 143 => 343 | 171 => 347 | 173 => 350 | 212 => 353 | 51 => 26 | 20 => 20 | 213 => 354 | 232 => 274 | 233 => 356 | 80 => 220 | n => n, fun | 15 => 2 | 16 => 3 | 17 => 4 | 18 => 1 | 19 => 5 | n => n⟩
theorem Tryz.laysC174 : Go.Proofs.LaysC.n174 Tryz.prog Tryz.laysC174_ren := {
 mixed := by kernel_rfl
 f129 := Tryz.func308.trans (congrArg some (by kernel_rfl))
 f171 := Tryz.func299.trans (congrArg some (by kernel_rfl))
 f174 := Tryz.func232.trans (congrArg some (by kernel_rfl))
 f205 := Tryz.func298.trans (congrArg some (by kernel_rfl))
 f243 := Tryz.func301.trans (congrArg some (by kernel_rfl))
 f245 := Tryz.func268.trans (congrArg some (by kernel_rfl))
 f246 := Tryz.func302.trans (congrArg some (by kernel_rfl))
 f247 := Tryz.func267.trans (congrArg some (by kernel_rfl))
 f279 := Tryz.func283.trans (congrArg some (by kernel_rfl))
 f280 := Tryz.func284.trans (congrArg some (by kernel_rfl))
 f281 := Tryz.func285.trans (congrArg some (by kernel_rfl))
 f282 := Tryz.func286.trans (congrArg some (by kernel_rfl))
 f283 := Tryz.func303.trans (congrArg some (by kernel_rfl))
 f284 := Tryz.func304.trans (congrArg some (by kernel_rfl))
 f285 := Tryz.func305.trans (congrArg some (by kernel_rfl))
 f286 := Tryz.func306.trans (congrArg some (by kernel_rfl))
 f287 := Tryz.func282.trans (congrArg some (by kernel_rfl))
 f316 := Tryz.func297.trans (congrArg some (by kernel_rfl))
 f317 := Tryz.func307.trans (congrArg some (by kernel_rfl))
 f318 := Tryz.func309.trans (congrArg some (by kernel_rfl))
 f319 := Tryz.func310.trans (congrArg some (by kernel_rfl))
 f320 := Tryz.func311.trans (congrArg some (by kernel_rfl))
 f321 := Tryz.func295.trans (congrArg some (by kernel_rfl))
 f322 := Tryz.func296.trans (congrArg some (by kernel_rfl))
 f337 := Tryz.func182.trans (congrArg some (by kernel_rfl))
 f338 := Tryz.func312.trans (congrArg some (by kernel_rfl))
 t0 := Tryz.underlying0
 a0 := Tryz.isAgg0
 z0 := Tryz.sizeOf0
 v0 := Tryz.zeroValue0
 t2 := Tryz.underlying2
 a2 := Tryz.isAgg2
 z2 := Tryz.sizeOf2
 v2 := Tryz.zeroValue2
 t3 := Tryz.underlying3
 a3 := Tryz.isAgg3
 z3 := Tryz.sizeOf3
 v3 := Tryz.zeroValue3
 t4 := Tryz.underlying4
 a4 := Tryz.isAgg4
 z4 := Tryz.sizeOf4
 v4 := Tryz.zeroValue4
 t5 := Tryz.underlying5
 a5 := Tryz.isAgg5
 z5 := Tryz.sizeOf5
 v5 := Tryz.zeroValue5
 t9 := Tryz.underlying9
 a9 := Tryz.isAgg9
 z9 := Tryz.sizeOf9
 v9 := Tryz.zeroValue9
 t20 := Tryz.underlying20
 a20 := Tryz.isAgg20
 z20 := Tryz.sizeOf20
 v20 := Tryz.zeroValue20
 t21 := Tryz.underlying21
 a21 := Tryz.isAgg21
 z21 := Tryz.sizeOf21
 v21 := Tryz.zeroValue21
 t37 := Tryz.underlying85
 a37 := Tryz.isAgg85
 z37 := Tryz.sizeOf85
 v37 := Tryz.zeroValue85
 t46 := Tryz.underlying213
 a46 := Tryz.isAgg213
 z46 := Tryz.sizeOf213
 v46 := Tryz.zeroValue213
 t51 := Tryz.underlying26
 a51 := Tryz.isAgg26
 z51 := Tryz.sizeOf26
 v51 := Tryz.zeroValue26
 t53 := Tryz.underlying265
 a53 := Tryz.isAgg265
 z53 := Tryz.sizeOf265
 v53 := Tryz.zeroValue265
 t75 := Tryz.underlying32
 a75 := Tryz.isAgg32
 z75 := Tryz.sizeOf32
 v75 := Tryz.zeroValue32
 t85 := Tryz.underlying277
 a85 := Tryz.isAgg277
 z85 := Tryz.sizeOf277
 v85 := Tryz.zeroValue277
 t127 := Tryz.underlying342
 a127 := Tryz.isAgg342
 z127 := Tryz.sizeOf342
 v127 := Tryz.zeroValue342
 t143 := Tryz.underlying343
 a143 := Tryz.isAgg343
 z143 := Tryz.sizeOf343
 v143 := Tryz.zeroValue343
 t145 := Tryz.underlying345
 a145 := Tryz.isAgg345
 z145 := Tryz.sizeOf345
 v145 := Tryz.zeroValue345
 t167 := Tryz.underlying326
 a167 := Tryz.isAgg326
 z167 := Tryz.sizeOf326
 v167 := Tryz.zeroValue326
 t168 := Tryz.underlying329
 a168 := Tryz.isAgg329
 z168 := Tryz.sizeOf329
 v168 := Tryz.zeroValue329
 t171 := Tryz.underlying347
 a171 := Tryz.isAgg347
 z171 := Tryz.sizeOf347
 v171 := Tryz.zeroValue347
 t173 := Tryz.underlying350
 a173 := Tryz.isAgg350
 z173 := Tryz.sizeOf350
 v173 := Tryz.zeroValue350
 t175 := Tryz.underlying327
 a175 := Tryz.isAgg327
 z175 := Tryz.sizeOf327
 v175 := Tryz.zeroValue327
 t210 := Tryz.underlying339
 a210 := Tryz.isAgg339
 z210 := Tryz.sizeOf339
 v210 := Tryz.zeroValue339
 t212 := Tryz.underlying353
 a212 := Tryz.isAgg353
 z212 := Tryz.sizeOf353
 v212 := Tryz.zeroValue353
 t213 := Tryz.underlying354
 a213 := Tryz.isAgg354
 z213 := Tryz.sizeOf354
 t232 := Tryz.underlying274
 a232 := Tryz.isAgg274
 z232 := Tryz.sizeOf274
 v232 := Tryz.zeroValue274
 t233 := Tryz.underlying356
 a233 := Tryz.isAgg356
 z233 := Tryz.sizeOf356
 v233 := Tryz.zeroValue356
 g15 := by kernel_rfl
 g16 := by kernel_rfl
 g17 := by kernel_rfl
 g18 := by kernel_rfl
 g19 := by kernel_rfl
 t80 := Tryz.underlying220
 a80 := Tryz.isAgg220
 z80 := Tryz.sizeOf220
 v80 := Tryz.zeroValue220
 i0 := by kernel_rfl
 i2 := by kernel_rfl
 i3 := by kernel_rfl
 i4 := by kernel_rfl
 i5 := by kernel_rfl
 i9 := by kernel_rfl
 i20 := by kernel_rfl
 i21 := by kernel_rfl
 i37 := by kernel_rfl
 i46 := by kernel_rfl
 i51 := by kernel_rfl
 i53 := by kernel_rfl
 i75 := by kernel_rfl
 i80 := by kernel_rfl
 i85 := by kernel_rfl
 i127 := by kernel_rfl
 i143 := by kernel_rfl
 i145 := by kernel_rfl
 i167 := by kernel_rfl
 i168 := by kernel_rfl
 i171 := by kernel_rfl
 i173 := by kernel_rfl
 i175 := by kernel_rfl
 i210 := by kernel_rfl
 i212 := by kernel_rfl
 i232 := by kernel_rfl
 i233 := by kernel_rfl
 m15 := by kernel_rfl
 m16 := by kernel_rfl
 m17 := by kernel_rfl
 m18 := by kernel_rfl
 m19 := by kernel_rfl
 c0 := by kernel_rfl
 c2 := by kernel_rfl
 c3 := by kernel_rfl
 c4 := by kernel_rfl
 c5 := by kernel_rfl
 c9 := by kernel_rfl
 c20 := by kernel_rfl
 c21 := by kernel_rfl
 c37 := by kernel_rfl
 c46 := by kernel_rfl
 c51 := by kernel_rfl
 c53 := by kernel_rfl
 c75 := by kernel_rfl
 c80 := by kernel_rfl
 c85 := by kernel_rfl
 c127 := by kernel_rfl
 c143 := by kernel_rfl
 c145 := by kernel_rfl
 c167 := by kernel_rfl
 c168 := by kernel_rfl
 c171 := by kernel_rfl
 c173 := by kernel_rfl
 c175 := by kernel_rfl
 c210 := by kernel_rfl
 c212 := by kernel_rfl
 c213 := by kernel_rfl
 c232 := by kernel_rfl
 c233 := by kernel_rfl }
open Go.RowKit in
theorem Tryz.strconv_ParseInt_10_at64_ok (s : ByteArray) (hmax : s.size ≤ 9223372036854775806) (v : Int) (h : Lib.parseIntB 64 s.data.toList = .ok v) (w : World) :
  Calls Tryz.prog 232 #[.string s, .int .i64 10, .int .i64 64] w fun e w' => e = .returned (.tuple #[.int .i64 v, .nilIface]) ∧ (w' = w ∨ ∃ t, w' = Lib.bytesWorld w 5 t) := Any.strconv_ParseInt_10_at64_ok Tryz.laysC174 s hmax v h w
open Go.RowKit in
theorem Tryz.strconv_ParseInt_10_at64_range_var (s : ByteArray) (hlim : s.size ≤ 281474976710656) (h : Lib.parseIntB 64 s.data.toList = .range) (tp : TypeId) (p : Value) (w : World) (hvar : w.var? Tryz.prog "strconv.ErrRange" = some #[.iface tp p]) :
  Calls Tryz.prog 232 #[.string s, .int .i64 10, .int .i64 64] w fun e w' => ∃ N, e = .returned (.tuple #[.int .i64 (Lib.intSat 64 s.data.toList), .iface 329 (.pointer (some ⟨N, 0, none⟩))]) ∧ w.heap.size ≤ N ∧ w'.heap[N]? = some (.cells #[.string ⟨#[80, 97, 114, 115, 101, 73, 110, 116]⟩, .string s, .iface tp p] 339 (0, 0)) ∧ Below w.heap.size w w' := Any.strconv_ParseInt_10_at64_range_var Tryz.laysC174 s hlim h tp p w hvar
def Tryz.lays99_ren : Go.Shelf.Ren := ⟨fun | 99 => 236 | 206 => 269 | n => n, fun | 9 => 9 | 4 => 4 | 3 => 3 | n => n, fun | n => n⟩
theorem Tryz.lays99 : Go.Proofs.Lays.n99 Tryz.prog Tryz.lays99_ren := {
 mixed := by kernel_rfl
 f99 := Tryz.func236.trans (congrArg some (by kernel_rfl))
 f206 := Tryz.func269.trans (congrArg some (by kernel_rfl))
 t3 := Tryz.underlying3
 a3 := Tryz.isAgg3
 z3 := Tryz.sizeOf3
 v3 := Tryz.zeroValue3
 t4 := Tryz.underlying4
 a4 := Tryz.isAgg4
 z4 := Tryz.sizeOf4
 v4 := Tryz.zeroValue4
 t9 := Tryz.underlying9
 a9 := Tryz.isAgg9
 z9 := Tryz.sizeOf9
 v9 := Tryz.zeroValue9 }
open Go.RowKit Go.Lib in
theorem Tryz.strings_HasPrefix (s p : ByteArray) (w : World) :
  Calls Tryz.prog 236 #[.string s, .string p] w fun e w' => e = .returned (.bool (Lib.hasPrefix s.data.toList p.data.toList)) ∧ w' = w := Any.strings_HasPrefix Tryz.lays99 s p w
end Go.Proofs
end
