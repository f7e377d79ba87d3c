/- Texts of this claim, merged (Shelf). -/
import Derived.Shelf.Strconv.ParseIntEmpty
import Derived.Shelf.LaysM
import Derived.Shelf.Strconv.Clone
import Derived.Shelf.Strconv.SyntaxError
import Derived.Shelf.LaysC
import Derived.Shelf.Strconv.ToError
import Derived.Shelf.Strconv.Lower
import Derived.Shelf.Strconv.ParseUint10
import Derived.Shelf.Strconv.ParseUint10Empty
import Derived.Shelf.Strconv.ParseUint10Any
import Derived.Shelf.Strconv.ParseInt10
import Derived.Shelf.Strconv.RangeError
import Derived.Shelf.Strconv.ToErrorRange
import Derived.Shelf.Strconv.ParseUintEmpty
import Derived.Shelf.Strconv.ParseUint10b64
import Derived.Shelf.Strconv.ParseUint10b32
import Derived.Shelf.Strconv.ParseUint10b16
import Derived.Shelf.Strconv.ParseUint10b8
import Derived.Shelf.Strconv.ParseUint10At
import Derived.Shelf.Strconv.ParseInt10At64
import Derived.Shelf.Strconv.ParseInt10At32
import Derived.Shelf.Strconv.ParseInt10At16
import Derived.Shelf.Strconv.ParseInt10At8
import Derived.Shelf.Strconv.ParseInt10All
import Derived.Shelf.Strconv.ParseIntPublic10
import Derived.Shelf.Strconv.ErrVarParseInt
import Derived.Shelf.Strings.Prefix
import Derived.Shelf.Slices.Turned
import Derived.Ground.Names2Prog
import Derived.Shelf.Slices.Clone
import Derived.Test.YtikilglbhnplaaaGreatDoorProg
section
namespace Go.Proofs
open Go.Shelf
def Tryz.laysC174_ren : Go.Shelf.Ren := ⟨fun | 174 => 117 | 247 => 135 | 245 => 136 | 287 => 146 | 279 => 147 | 280 => 148 | 281 => 149 | 282 => 150 | 321 => 156 | 322 => 157 | 316 => 158 | 171 => 160 | 205 => 159 | 243 => 169 | 246 => 170 | 283 => 171 | 284 => 172 | 285 => 173 | 286 => 174 | 129 => 176 | 317 => 175 | 318 => 177 | 319 => 178 | 320 => 179 | 337 => 97 | 338 => 180 | n => n, fun | 9 => 9 | 3 => 3 | 2 => 2 | 75 => 30 | 85 => 168 | 4 => 4 | 167 => 197 | 5 => 5 | 53 => 198 | 175 => 199 | 46 => 165 | 168 => 201 | 37 => 209 | 0 => 0 | 210 => 213 | 21 => 21 | 127 => 220 | 145 => 223 | 143 => 221 | 171 => 225 | 173 => 228 | 212 => 231 | 51 => 38 | 20 => 20 | 213 => 232 | 232 => 164 | 233 => 234 | 80 => 235 | n => n, fun | 15 => 1 | 16 => 2 | 17 => 3 | 18 => 0 | 19 => 4 | n => n⟩
theorem Tryz.laysC174 : Go.Proofs.LaysC.n174 Tryz.prog Tryz.laysC174_ren := {
 mixed := by kernel_rfl
 f129 := Tryz.func176.trans (congrArg some (by kernel_rfl))
 f171 := Tryz.func160.trans (congrArg some (by kernel_rfl))
 f174 := Tryz.func117.trans (congrArg some (by kernel_rfl))
 f205 := Tryz.func159.trans (congrArg some (by kernel_rfl))
 f243 := Tryz.func169.trans (congrArg some (by kernel_rfl))
 f245 := Tryz.func136.trans (congrArg some (by kernel_rfl))
 f246 := Tryz.func170.trans (congrArg some (by kernel_rfl))
 f247 := Tryz.func135.trans (congrArg some (by kernel_rfl))
 f279 := Tryz.func147.trans (congrArg some (by kernel_rfl))
 f280 := Tryz.func148.trans (congrArg some (by kernel_rfl))
 f281 := Tryz.func149.trans (congrArg some (by kernel_rfl))
 f282 := Tryz.func150.trans (congrArg some (by kernel_rfl))
 f283 := Tryz.func171.trans (congrArg some (by kernel_rfl))
 f284 := Tryz.func172.trans (congrArg some (by kernel_rfl))
 f285 := Tryz.func173.trans (congrArg some (by kernel_rfl))
 f286 := Tryz.func174.trans (congrArg some (by kernel_rfl))
 f287 := Tryz.func146.trans (congrArg some (by kernel_rfl))
 f316 := Tryz.func158.trans (congrArg some (by kernel_rfl))
 f317 := Tryz.func175.trans (congrArg some (by kernel_rfl))
 f318 := Tryz.func177.trans (congrArg some (by kernel_rfl))
 f319 := Tryz.func178.trans (congrArg some (by kernel_rfl))
 f320 := Tryz.func179.trans (congrArg some (by kernel_rfl))
 f321 := Tryz.func156.trans (congrArg some (by kernel_rfl))
 f322 := Tryz.func157.trans (congrArg some (by kernel_rfl))
 f337 := Tryz.func97.trans (congrArg some (by kernel_rfl))
 f338 := Tryz.func180.trans (congrArg some (by kernel_rfl))
 t0 := Tryz.underlying0
 a0 := Tryz.isAgg0
 z0 := Tryz.sizeOf0
 v0 := Tryz.zeroValue0
 t2 := Tryz.underlying2
 a2 := Tryz.isAgg2
 z2 := Tryz.sizeOf2
 v2 := Tryz.zeroValue2
 t3 := Tryz.underlying3
 a3 := Tryz.isAgg3
 z3 := Tryz.sizeOf3
 v3 := Tryz.zeroValue3
 t4 := Tryz.underlying4
 a4 := Tryz.isAgg4
 z4 := Tryz.sizeOf4
 v4 := Tryz.zeroValue4
 t5 := Tryz.underlying5
 a5 := Tryz.isAgg5
 z5 := Tryz.sizeOf5
 v5 := Tryz.zeroValue5
 t9 := Tryz.underlying9
 a9 := Tryz.isAgg9
 z9 := Tryz.sizeOf9
 v9 := Tryz.zeroValue9
 t20 := Tryz.underlying20
 a20 := Tryz.isAgg20
 z20 := Tryz.sizeOf20
 v20 := Tryz.zeroValue20
 t21 := Tryz.underlying21
 a21 := Tryz.isAgg21
 z21 := Tryz.sizeOf21
 v21 := Tryz.zeroValue21
 t37 := Tryz.underlying209
 a37 := Tryz.isAgg209
 z37 := Tryz.sizeOf209
 v37 := Tryz.zeroValue209
 t46 := Tryz.underlying165
 a46 := Tryz.isAgg165
 z46 := Tryz.sizeOf165
 v46 := Tryz.zeroValue165
 t51 := Tryz.underlying38
 a51 := Tryz.isAgg38
 z51 := Tryz.sizeOf38
 v51 := Tryz.zeroValue38
 t53 := Tryz.underlying198
 a53 := Tryz.isAgg198
 z53 := Tryz.sizeOf198
 v53 := Tryz.zeroValue198
 t75 := Tryz.underlying30
 a75 := Tryz.isAgg30
 z75 := Tryz.sizeOf30
 v75 := Tryz.zeroValue30
 t85 := Tryz.underlying168
 a85 := Tryz.isAgg168
 z85 := Tryz.sizeOf168
 v85 := Tryz.zeroValue168
 t127 := Tryz.underlying220
 a127 := Tryz.isAgg220
 z127 := Tryz.sizeOf220
 v127 := Tryz.zeroValue220
 t143 := Tryz.underlying221
 a143 := Tryz.isAgg221
 z143 := Tryz.sizeOf221
 v143 := Tryz.zeroValue221
 t145 := Tryz.underlying223
 a145 := Tryz.isAgg223
 z145 := Tryz.sizeOf223
 v145 := Tryz.zeroValue223
 t167 := Tryz.underlying197
 a167 := Tryz.isAgg197
 z167 := Tryz.sizeOf197
 v167 := Tryz.zeroValue197
 t168 := Tryz.underlying201
 a168 := Tryz.isAgg201
 z168 := Tryz.sizeOf201
 v168 := Tryz.zeroValue201
 t171 := Tryz.underlying225
 a171 := Tryz.isAgg225
 z171 := Tryz.sizeOf225
 v171 := Tryz.zeroValue225
 t173 := Tryz.underlying228
 a173 := Tryz.isAgg228
 z173 := Tryz.sizeOf228
 v173 := Tryz.zeroValue228
 t175 := Tryz.underlying199
 a175 := Tryz.isAgg199
 z175 := Tryz.sizeOf199
 v175 := Tryz.zeroValue199
 t210 := Tryz.underlying213
 a210 := Tryz.isAgg213
 z210 := Tryz.sizeOf213
 v210 := Tryz.zeroValue213
 t212 := Tryz.underlying231
 a212 := Tryz.isAgg231
 z212 := Tryz.sizeOf231
 v212 := Tryz.zeroValue231
 t213 := Tryz.underlying232
 a213 := Tryz.isAgg232
 z213 := Tryz.sizeOf232
 t232 := Tryz.underlying164
 a232 := Tryz.isAgg164
 z232 := Tryz.sizeOf164
 v232 := Tryz.zeroValue164
 t233 := Tryz.underlying234
 a233 := Tryz.isAgg234
 z233 := Tryz.sizeOf234
 v233 := Tryz.zeroValue234
 g15 := by kernel_rfl
 g16 := by kernel_rfl
 g17 := by kernel_rfl
 g18 := by kernel_rfl
 g19 := by kernel_rfl
 t80 := Tryz.underlying235
 a80 := Tryz.isAgg235
 z80 := Tryz.sizeOf235
 v80 := Tryz.zeroValue235
 i0 := by kernel_rfl
 i2 := by kernel_rfl
 i3 := by kernel_rfl
 i4 := by kernel_rfl
 i5 := by kernel_rfl
 i9 := by kernel_rfl
 i20 := by kernel_rfl
 i21 := by kernel_rfl
 i37 := by kernel_rfl
 i46 := by kernel_rfl
 i51 := by kernel_rfl
 i53 := by kernel_rfl
 i75 := by kernel_rfl
 i80 := by kernel_rfl
 i85 := by kernel_rfl
 i127 := by kernel_rfl
 i143 := by kernel_rfl
 i145 := by kernel_rfl
 i167 := by kernel_rfl
 i168 := by kernel_rfl
 i171 := by kernel_rfl
 i173 := by kernel_rfl
 i175 := by kernel_rfl
 i210 := by kernel_rfl
 i212 := by kernel_rfl
 i232 := by kernel_rfl
 i233 := by kernel_rfl
 m15 := by kernel_rfl
 m16 := by kernel_rfl
 m17 := by kernel_rfl
 m18 := by kernel_rfl
 m19 := by kernel_rfl
 c0 := by kernel_rfl
 c2 := by kernel_rfl
 c3 := by kernel_rfl
 c4 := by kernel_rfl
 c5 := by kernel_rfl
 c9 := by kernel_rfl
 c20 := by kernel_rfl
 c21 := by kernel_rfl
 c37 := by kernel_rfl
 c46 := by kernel_rfl
 c51 := by kernel_rfl
 c53 := by kernel_rfl
 c75 := by kernel_rfl
 c80 := by kernel_rfl
 c85 := by kernel_rfl
 c127 := by kernel_rfl
 c143 := by kernel_rfl
 c145 := by kernel_rfl
 c167 := by kernel_rfl
 c168 := by kernel_rfl
 c171 := by kernel_rfl
 c173 := by kernel_rfl
 c175 := by kernel_rfl
 c210 := by kernel_rfl
 c212 := by kernel_rfl
 c213 := by kernel_rfl
 c232 := by kernel_rfl
 c233 := by kernel_rfl }
open Go.RowKit in
theorem Tryz.strconv_ParseInt_10_at64_ok (s : ByteArray) (hmax : s.size ≤ 9223372036854775806) (v : Int) (h : Lib.parseIntB 64 s.data.toList = .ok v) (w : World) :
  Calls Tryz.prog 117 #[.string s, .int .i64 10, .int .i64 64] w fun e w' => e = .returned (.tuple #[.int .i64 v, .nilIface]) ∧ (w' = w ∨ ∃ t, w' = Lib.bytesWorld w 5 t) := Any.strconv_ParseInt_10_at64_ok Tryz.laysC174 s hmax v h w
open Go.RowKit in
theorem Tryz.strconv_ParseInt_10_at64_range_var (s : ByteArray) (hlim : s.size ≤ 281474976710656) (h : Lib.parseIntB 64 s.data.toList = .range) (tp : TypeId) (p : Value) (w : World) (hvar : w.var? Tryz.prog "strconv.ErrRange" = some #[.iface tp p]) :
  Calls Tryz.prog 117 #[.string s, .int .i64 10, .int .i64 64] w fun e w' => ∃ N, e = .returned (.tuple #[.int .i64 (Lib.intSat 64 s.data.toList), .iface 201 (.pointer (some ⟨N, 0, none⟩))]) ∧ w.heap.size ≤ N ∧ w'.heap[N]? = some (.cells #[.string ⟨#[80, 97, 114, 115, 101, 73, 110, 116]⟩, .string s, .iface tp p] 213 (0, 0)) ∧ Below w.heap.size w w' := Any.strconv_ParseInt_10_at64_range_var Tryz.laysC174 s hlim h tp p w hvar
def Tryz.lays99_ren : Go.Shelf.Ren := ⟨fun | 99 => 121 | 206 => 137 | n => n, fun | 9 => 9 | 4 => 4 | 3 => 3 | n => n, fun | n => n⟩
theorem Tryz.lays99 : Go.Proofs.Lays.n99 Tryz.prog Tryz.lays99_ren := {
 mixed := by kernel_rfl
 f99 := Tryz.func121.trans (congrArg some (by kernel_rfl))
 f206 := Tryz.func137.trans (congrArg some (by kernel_rfl))
 t3 := Tryz.underlying3
 a3 := Tryz.isAgg3
 z3 := Tryz.sizeOf3
 v3 := Tryz.zeroValue3
 t4 := Tryz.underlying4
 a4 := Tryz.isAgg4
 z4 := Tryz.sizeOf4
 v4 := Tryz.zeroValue4
 t9 := Tryz.underlying9
 a9 := Tryz.isAgg9
 z9 := Tryz.sizeOf9
 v9 := Tryz.zeroValue9 }
open Go.RowKit Go.Lib in
theorem Tryz.strings_HasPrefix (s p : ByteArray) (w : World) :
  Calls Tryz.prog 121 #[.string s, .string p] w fun e w' => e = .returned (.bool (Lib.hasPrefix s.data.toList p.data.toList)) ∧ w' = w := Any.strings_HasPrefix Tryz.lays99 s p w
end Go.Proofs
end
