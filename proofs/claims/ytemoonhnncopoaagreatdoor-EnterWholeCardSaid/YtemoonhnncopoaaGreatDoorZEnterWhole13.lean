/- Texts of this claim, merged (Shelf). -/
import Derived.Shelf.Strconv.Itoa0
import Derived.Shelf.Strconv.Itoa1
import Derived.Shelf.LaysM
import Derived.Shelf.Strconv.Itoa2
import Derived.Shelf.Strconv.Itoa3
import Derived.Shelf.Strconv.ParseIntEmpty
import Derived.Shelf.Strconv.Clone
import Derived.Shelf.Strconv.SyntaxError
import Derived.Shelf.LaysC
import Derived.Shelf.Strconv.ToError
import Derived.Shelf.Strconv.Lower
import Derived.Shelf.Strconv.ParseUint10
import Derived.Shelf.Strconv.ParseUint10Empty
import Derived.Shelf.Strconv.ParseUint10Any
import Derived.Shelf.Strconv.ParseInt10
import Derived.Shelf.Strconv.RangeError
import Derived.Shelf.Strconv.ToErrorRange
import Derived.Shelf.Strconv.ParseUintEmpty
import Derived.Shelf.Strconv.ParseUint10b64
import Derived.Shelf.Strconv.ParseUint10b32
import Derived.Shelf.Strconv.ParseUint10b16
import Derived.Shelf.Strconv.ParseUint10b8
import Derived.Shelf.Strconv.ParseUint10At
import Derived.Shelf.Strconv.ParseInt10At64
import Derived.Shelf.Strconv.ParseInt10At32
import Derived.Shelf.Strconv.ParseInt10At16
import Derived.Shelf.Strconv.ParseInt10At8
import Derived.Shelf.Strconv.ParseInt10All
import Derived.Shelf.Strconv.ParseIntPublic10
import Derived.Shelf.Strconv.ErrVarParseInt
import Derived.Shelf.Strings.Prefix
import Derived.Shelf.Slices.Turned
import Derived.Ground.Names2Prog
import Derived.Shelf.Slices.Clone
import Derived.Test.YtemoonhnncopoaaGreatDoorProg
section
namespace Go.Proofs
open Go.Shelf
def Tryz.laysC174_ren : Go.Shelf.Ren := ⟨fun | 174 => 148 | 247 => 171 | 245 => 172 | 287 => 176 | 279 => 177 | 280 => 178 | 281 => 179 | 282 => 180 | 321 => 182 | 322 => 183 | 316 => 184 | 171 => 186 | 205 => 185 | 243 => 188 | 246 => 189 | 283 => 190 | 284 => 191 | 285 => 192 | 286 => 193 | 129 => 195 | 317 => 194 | 318 => 196 | 319 => 197 | 320 => 198 | 337 => 134 | 338 => 199 | n => n, fun | 9 => 9 | 3 => 3 | 2 => 2 | 75 => 37 | 85 => 203 | 4 => 4 | 167 => 236 | 5 => 5 | 53 => 170 | 175 => 237 | 46 => 229 | 168 => 239 | 37 => 243 | 0 => 0 | 210 => 247 | 21 => 21 | 127 => 250 | 145 => 253 | 143 => 251 | 171 => 255 | 173 => 258 | 212 => 261 | 51 => 63 | 20 => 20 | 213 => 262 | 232 => 228 | 233 => 264 | 80 => 265 | n => n, fun | 15 => 2 | 16 => 3 | 17 => 4 | 18 => 1 | 19 => 5 | n => n⟩
theorem Tryz.laysC174 : Go.Proofs.LaysC.n174 Tryz.prog Tryz.laysC174_ren := {
 mixed := by kernel_rfl
 f129 := Tryz.func195.trans (congrArg some (by kernel_rfl))
 f171 := Tryz.func186.trans (congrArg some (by kernel_rfl))
 f174 := Tryz.func148.trans (congrArg some (by kernel_rfl))
 f205 := Tryz.func185.trans (congrArg some (by kernel_rfl))
 f243 := Tryz.func188.trans (congrArg some (by kernel_rfl))
 f245 := Tryz.func172.trans (congrArg some (by kernel_rfl))
 f246 := Tryz.func189.trans (congrArg some (by kernel_rfl))
 f247 := Tryz.func171.trans (congrArg some (by kernel_rfl))
 f279 := Tryz.func177.trans (congrArg some (by kernel_rfl))
 f280 := Tryz.func178.trans (congrArg some (by kernel_rfl))
 f281 := Tryz.func179.trans (congrArg some (by kernel_rfl))
 f282 := Tryz.func180.trans (congrArg some (by kernel_rfl))
 f283 := Tryz.func190.trans (congrArg some (by kernel_rfl))
 f284 := Tryz.func191.trans (congrArg some (by kernel_rfl))
 f285 := Tryz.func192.trans (congrArg some (by kernel_rfl))
 f286 := Tryz.func193.trans (congrArg some (by kernel_rfl))
 f287 := Tryz.func176.trans (congrArg some (by kernel_rfl))
 f316 := Tryz.func184.trans (congrArg some (by kernel_rfl))
 f317 := Tryz.func194.trans (congrArg some (by kernel_rfl))
 f318 := Tryz.func196.trans (congrArg some (by kernel_rfl))
 f319 := Tryz.func197.trans (congrArg some (by kernel_rfl))
 f320 := Tryz.func198.trans (congrArg some (by kernel_rfl))
 f321 := Tryz.func182.trans (congrArg some (by kernel_rfl))
 f322 := Tryz.func183.trans (congrArg some (by kernel_rfl))
 f337 := Tryz.func134.trans (congrArg some (by kernel_rfl))
 f338 := Tryz.func199.trans (congrArg some (by kernel_rfl))
 t0 := Tryz.underlying0
 a0 := Tryz.isAgg0
 z0 := Tryz.sizeOf0
 v0 := Tryz.zeroValue0
 t2 := Tryz.underlying2
 a2 := Tryz.isAgg2
 z2 := Tryz.sizeOf2
 v2 := Tryz.zeroValue2
 t3 := Tryz.underlying3
 a3 := Tryz.isAgg3
 z3 := Tryz.sizeOf3
 v3 := Tryz.zeroValue3
 t4 := Tryz.underlying4
 a4 := Tryz.isAgg4
 z4 := Tryz.sizeOf4
 v4 := Tryz.zeroValue4
 t5 := Tryz.underlying5
 a5 := Tryz.isAgg5
 z5 := Tryz.sizeOf5
 v5 := Tryz.zeroValue5
 t9 := Tryz.underlying9
 a9 := Tryz.isAgg9
 z9 := Tryz.sizeOf9
 v9 := Tryz.zeroValue9
 t20 := Tryz.underlying20
 a20 := Tryz.isAgg20
 z20 := Tryz.sizeOf20
 v20 := Tryz.zeroValue20
 t21 := Tryz.underlying21
 a21 := Tryz.isAgg21
 z21 := Tryz.sizeOf21
 v21 := Tryz.zeroValue21
 t37 := Tryz.underlying243
 a37 := Tryz.isAgg243
 z37 := Tryz.sizeOf243
 v37 := Tryz.zeroValue243
 t46 := Tryz.underlying229
 a46 := Tryz.isAgg229
 z46 := Tryz.sizeOf229
 v46 := Tryz.zeroValue229
 t51 := Tryz.underlying63
 a51 := Tryz.isAgg63
 z51 := Tryz.sizeOf63
 v51 := Tryz.zeroValue63
 t53 := Tryz.underlying170
 a53 := Tryz.isAgg170
 z53 := Tryz.sizeOf170
 v53 := Tryz.zeroValue170
 t75 := Tryz.underlying37
 a75 := Tryz.isAgg37
 z75 := Tryz.sizeOf37
 v75 := Tryz.zeroValue37
 t85 := Tryz.underlying203
 a85 := Tryz.isAgg203
 z85 := Tryz.sizeOf203
 v85 := Tryz.zeroValue203
 t127 := Tryz.underlying250
 a127 := Tryz.isAgg250
 z127 := Tryz.sizeOf250
 v127 := Tryz.zeroValue250
 t143 := Tryz.underlying251
 a143 := Tryz.isAgg251
 z143 := Tryz.sizeOf251
 v143 := Tryz.zeroValue251
 t145 := Tryz.underlying253
 a145 := Tryz.isAgg253
 z145 := Tryz.sizeOf253
 v145 := Tryz.zeroValue253
 t167 := Tryz.underlying236
 a167 := Tryz.isAgg236
 z167 := Tryz.sizeOf236
 v167 := Tryz.zeroValue236
 t168 := Tryz.underlying239
 a168 := Tryz.isAgg239
 z168 := Tryz.sizeOf239
 v168 := Tryz.zeroValue239
 t171 := Tryz.underlying255
 a171 := Tryz.isAgg255
 z171 := Tryz.sizeOf255
 v171 := Tryz.zeroValue255
 t173 := Tryz.underlying258
 a173 := Tryz.isAgg258
 z173 := Tryz.sizeOf258
 v173 := Tryz.zeroValue258
 t175 := Tryz.underlying237
 a175 := Tryz.isAgg237
 z175 := Tryz.sizeOf237
 v175 := Tryz.zeroValue237
 t210 := Tryz.underlying247
 a210 := Tryz.isAgg247
 z210 := Tryz.sizeOf247
 v210 := Tryz.zeroValue247
 t212 := Tryz.underlying261
 a212 := Tryz.isAgg261
 z212 := Tryz.sizeOf261
 v212 := Tryz.zeroValue261
 t213 := Tryz.underlying262
 a213 := Tryz.isAgg262
 z213 := Tryz.sizeOf262
 t232 := Tryz.underlying228
 a232 := Tryz.isAgg228
 z232 := Tryz.sizeOf228
 v232 := Tryz.zeroValue228
 t233 := Tryz.underlying264
 a233 := Tryz.isAgg264
 z233 := Tryz.sizeOf264
 v233 := Tryz.zeroValue264
 g15 := by kernel_rfl
 g16 := by kernel_rfl
 g17 := by kernel_rfl
 g18 := by kernel_rfl
 g19 := by kernel_rfl
 t80 := Tryz.underlying265
 a80 := Tryz.isAgg265
 z80 := Tryz.sizeOf265
 v80 := Tryz.zeroValue265
 i0 := by kernel_rfl
 i2 := by kernel_rfl
 i3 := by kernel_rfl
 i4 := by kernel_rfl
 i5 := by kernel_rfl
 i9 := by kernel_rfl
 i20 := by kernel_rfl
 i21 := by kernel_rfl
 i37 := by kernel_rfl
 i46 := by kernel_rfl
 i51 := by kernel_rfl
 i53 := by kernel_rfl
 i75 := by kernel_rfl
 i80 := by kernel_rfl
 i85 := by kernel_rfl
 i127 := by kernel_rfl
 i143 := by kernel_rfl
 i145 := by kernel_rfl
 i167 := by kernel_rfl
 i168 := by kernel_rfl
 i171 := by kernel_rfl
 i173 := by kernel_rfl
 i175 := by kernel_rfl
 i210 := by kernel_rfl
 i212 := by kernel_rfl
 i232 := by kernel_rfl
 i233 := by kernel_rfl
 m15 := by kernel_rfl
 m16 := by kernel_rfl
 m17 := by kernel_rfl
 m18 := by kernel_rfl
 m19 := by kernel_rfl
 c0 := by kernel_rfl
 c2 := by kernel_rfl
 c3 := by kernel_rfl
 c4 := by kernel_rfl
 c5 := by kernel_rfl
 c9 := by kernel_rfl
 c20 := by kernel_rfl
 c21 := by kernel_rfl
 c37 := by kernel_rfl
 c46 := by kernel_rfl
 c51 := by kernel_rfl
 c53 := by kernel_rfl
 c75 := by kernel_rfl
 c80 := by kernel_rfl
 c85 := by kernel_rfl
 c127 := by kernel_rfl
 c143 := by kernel_rfl
 c145 := by kernel_rfl
 c167 := by kernel_rfl
 c168 := by kernel_rfl
 c171 := by kernel_rfl
 c173 := by kernel_rfl
 c175 := by kernel_rfl
 c210 := by kernel_rfl
 c212 := by kernel_rfl
 c213 := by kernel_rfl
 c232 := by kernel_rfl
 c233 := by kernel_rfl }
open Go.RowKit in
theorem Tryz.strconv_ParseInt_10_at64_ok (s : ByteArray) (hmax : s.size ≤ 9223372036854775806) (v : Int) (h : Lib.parseIntB 64 s.data.toList = .ok v) (w : World) :
  Calls Tryz.prog 148 #[.string s, .int .i64 10, .int .i64 64] w fun e w' => e = .returned (.tuple #[.int .i64 v, .nilIface]) ∧ (w' = w ∨ ∃ t, w' = Lib.bytesWorld w 5 t) := Any.strconv_ParseInt_10_at64_ok Tryz.laysC174 s hmax v h w
open Go.RowKit in
theorem Tryz.strconv_ParseInt_10_at64_range_var (s : ByteArray) (hlim : s.size ≤ 281474976710656) (h : Lib.parseIntB 64 s.data.toList = .range) (tp : TypeId) (p : Value) (w : World) (hvar : w.var? Tryz.prog "strconv.ErrRange" = some #[.iface tp p]) :
  Calls Tryz.prog 148 #[.string s, .int .i64 10, .int .i64 64] w fun e w' => ∃ N, e = .returned (.tuple #[.int .i64 (Lib.intSat 64 s.data.toList), .iface 239 (.pointer (some ⟨N, 0, none⟩))]) ∧ w.heap.size ≤ N ∧ w'.heap[N]? = some (.cells #[.string ⟨#[80, 97, 114, 115, 101, 73, 110, 116]⟩, .string s, .iface tp p] 247 (0, 0)) ∧ Below w.heap.size w w' := Any.strconv_ParseInt_10_at64_range_var Tryz.laysC174 s hlim h tp p w hvar
def Tryz.lays99_ren : Go.Shelf.Ren := ⟨fun | 99 => 152 | 206 => 173 | n => n, fun | 9 => 9 | 4 => 4 | 3 => 3 | n => n, fun | n => n⟩
theorem Tryz.lays99 : Go.Proofs.Lays.n99 Tryz.prog Tryz.lays99_ren := {
 mixed := by kernel_rfl
 f99 := Tryz.func152.trans (congrArg some (by kernel_rfl))
 f206 := Tryz.func173.trans (congrArg some (by kernel_rfl))
 t3 := Tryz.underlying3
 a3 := Tryz.isAgg3
 z3 := Tryz.sizeOf3
 v3 := Tryz.zeroValue3
 t4 := Tryz.underlying4
 a4 := Tryz.isAgg4
 z4 := Tryz.sizeOf4
 v4 := Tryz.zeroValue4
 t9 := Tryz.underlying9
 a9 := Tryz.isAgg9
 z9 := Tryz.sizeOf9
 v9 := Tryz.zeroValue9 }
open Go.RowKit Go.Lib in
theorem Tryz.strings_HasPrefix (s p : ByteArray) (w : World) :
  Calls Tryz.prog 152 #[.string s, .string p] w fun e w' => e = .returned (.bool (Lib.hasPrefix s.data.toList p.data.toList)) ∧ w' = w := Any.strings_HasPrefix Tryz.lays99 s p w
end Go.Proofs
end
