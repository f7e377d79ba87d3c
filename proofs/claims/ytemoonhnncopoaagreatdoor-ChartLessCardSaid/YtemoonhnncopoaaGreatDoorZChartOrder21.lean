/- Texts of this claim, merged (As, Is, LaidE, Chup, ActArg, KdArg, ChFew, ChLaw, Laid, ChKidsLaw). -/
import Derived.LaidEql
import Derived.Stop.Asserts
import Derived.RowKitTokens
import Derived.OpenShut
import Derived.Test.YtemoonhnncopoaaGreatDoorRows
import Derived.LaidSub
import Derived.LaidHandle
import Derived.LaidLaws
import Derived.Lib.LaidU8
import Derived.Deep.DeepLaidRun
import Derived.Deep.RegionWith
import Derived.Test.YtemoonhnncopoaaGreatDoorZChartOrder17
import Derived.Test.YtemoonhnncopoaaGreatDoorZChartOrder19
import Derived.Test.YtemoonhnncopoaaGreatDoorZChartOrder20
import Derived.Test.YtemoonhnncopoaaGreatDoorZChartOrder1
import Derived.Test.YtemoonhnncopoaaGreatDoorZChartOrder14
import Derived.Test.YtemoonhnncopoaaGreatDoorZChartOrder15
import Derived.Test.YtemoonhnncopoaaGreatDoorZChartOrder16
section
namespace Go.Proofs.YtemoonhnncopoaaGreatDoor
open Go.RowKit Go.Extern.Stop Go.Stop Go.Extern
theorem as_valueOf27 (t : Addr) (w : World) : (ReflectliteValue.unpack (.iface 148 (.pointer (some t)))).run Tryz.prog w
    = .ok (.agg #[.pointer (some ⟨6, 148, none⟩), .pointer (some ⟨w.heap.size, 0, none⟩), .int .u64 150]) (w.alloc (.cells #[.pointer (some t)] 148)) := by kernel_rfl
theorem as_type27 (a : Addr) (w : World) : (ReflectliteValue.methodAny (ReflectliteValue.valueError "reflectlite.Value.Type" 0) (fun t _ _ _ => ReflectliteType.toType t) #[.agg #[.pointer (some ⟨6, 148, none⟩), .pointer (some a), .int .u64 150]]).run Tryz.prog w
    = .ok (.iface 213 (.agg #[.pointer (some ⟨6, 148, none⟩)])) w := by kernel_rfl
theorem as_methodKind (h : Value) (w : World) : (Go.method 392 213 (.agg #[h]) "Kind").run Tryz.prog w = .ok (214, h) w := by kernel_rfl
theorem as_kind27 (w : World) : ((ReflectliteType.abiMethod fun t => (fun a : Nat => Value.int IntKind.u8 (a : Int)) <$> Rtype.kind t) #[.pointer (some ⟨6, 148, none⟩)]).run Tryz.prog w = .ok (.int .u8 22) w := by kernel_rfl
theorem as_kind25 (w : World) : ((ReflectliteType.abiMethod fun t => (fun a : Nat => Value.int IntKind.u8 (a : Int)) <$> Rtype.kind t) #[.pointer (some ⟨6, 126, none⟩)]).run Tryz.prog w = .ok (.int .u8 22) w := by kernel_rfl
theorem rlm (z : Sem Value) (f : TypeId → Addr → Nat → Nat → Sem Value) (v : Value) :
    ReflectliteValue.method z f #[v] = (do match ← ReflectliteValue.parts v with | none => z | some (t, a, fl) => f t a fl (fl % 32)) := rfl
theorem as_parts27 (a : Addr) (w : World) : (ReflectliteValue.parts (.agg #[.pointer (some ⟨6, 148, none⟩), .pointer (some a), .int .u64 150])).run Tryz.prog w = .ok (some (148, a, 150)) w := by kernel_rfl
theorem as_isNil27 (a p : Addr) (W : World) (ha : W.cell? a = some (.pointer (some p))) :
    (ReflectliteValue.method (ReflectliteValue.valueError "reflectlite.Value.IsNil" 0) ReflectliteValue.isNil #[.agg #[.pointer (some ⟨6, 148, none⟩), .pointer (some a), .int .u64 150]]).run Tryz.prog W = .ok (.bool false) W := by
  rw [rlm]
  simp only [Sem.run_bind, as_parts27, Result.andThen]
  simp [ReflectliteValue.isNil, loadVar, isAgg, underlying, Tryz.underlying148, ha, Result.andThen]
theorem as_methodElem (h : Value) (w : World) : (Go.method 392 213 (.agg #[h]) "Elem").run Tryz.prog w = .ok (226, .agg #[h]) w := by kernel_rfl
theorem as_methodImplements (h : Value) (w : World) : (Go.method 392 213 (.agg #[h]) "Implements").run Tryz.prog w = .ok (227, .agg #[h]) w := by kernel_rfl
theorem as_methodAssignableTo (h : Value) (w : World) : (Go.method 392 213 (.agg #[h]) "AssignableTo").run Tryz.prog w = .ok (224, .agg #[h]) w := by kernel_rfl
theorem as_elem27 (w : World) : (ReflectliteType.method ReflectliteType.elem #[.agg #[.pointer (some ⟨6, 148, none⟩)]]).run Tryz.prog w = .ok (.iface 213 (.agg #[.pointer (some ⟨6, 126, none⟩)])) w := by kernel_rfl
theorem as_implements25 (w : World) : (ReflectliteType.relation "Implements" ReflectliteType.implements_ #[.agg #[.pointer (some ⟨6, 126, none⟩)], .iface 213 (.agg #[.pointer (some ⟨6, 37, none⟩)])]).run Tryz.prog w = .ok (.bool true) w := by kernel_rfl
theorem as_typeOf25 (v : Value) (w : World) : (ReflectliteType.typeOf #[.iface 126 v]).run Tryz.prog w = .ok (.iface 213 (.agg #[.pointer (some ⟨6, 126, none⟩)])) w := by kernel_rfl
theorem as_assignable25 (w : World) : (ReflectliteType.relation "AssignableTo" ReflectliteType.assignableTo #[.agg #[.pointer (some ⟨6, 126, none⟩)], .iface 213 (.agg #[.pointer (some ⟨6, 126, none⟩)])]).run Tryz.prog w = .ok (.bool true) w := by kernel_rfl
theorem as_valueOf25 (e : Addr) (w : World) : (ReflectliteValue.unpack (.iface 126 (.pointer (some e)))).run Tryz.prog w
    = .ok (.agg #[.pointer (some ⟨6, 126, none⟩), .pointer (some ⟨w.heap.size, 0, none⟩), .int .u64 150]) (w.alloc (.cells #[.pointer (some e)] 126)) := by kernel_rfl
theorem as_elemOf27 (w : World) : (Rtype.elem? 148).run Tryz.prog w = .ok (some 126) w := by kernel_rfl
theorem as_mk25 (p : Addr) (w : World) : (ReflectliteValue.mk 126 p ReflectliteValue.flagAddr).run Tryz.prog w = .ok (.agg #[.pointer (some ⟨6, 126, none⟩), .pointer (some p), .int .u64 406]) w := by kernel_rfl
theorem as_elemV27 (a p : Addr) (W : World) (ha : W.cell? a = some (.pointer (some p))) :
    (ReflectliteValue.method (ReflectliteValue.valueError "reflectlite.Value.Elem" 0) ReflectliteValue.elem #[.agg #[.pointer (some ⟨6, 148, none⟩), .pointer (some a), .int .u64 150]]).run Tryz.prog W
      = .ok (.agg #[.pointer (some ⟨6, 126, none⟩), .pointer (some p), .int .u64 406]) W := by
  rw [rlm]
  simp only [Sem.run_bind, as_parts27, Result.andThen]
  simp [ReflectliteValue.elem, loadVar, isAgg, underlying, Tryz.underlying148, ha, Result.andThen, as_elemOf27, as_mk25]
theorem rls (v x : Value) : ReflectliteValue.set #[v, x] = (do
    let (some (dst, a, fl), some (src, b, _)) := (← ReflectliteValue.parts v, ← ReflectliteValue.parts x)
      | unsupported (.noEntry "extern/(internal/reflectlite.Value).Set.zeroValue")
    if fl / ReflectliteValue.flagAddr % 2 == 0 then unsupported (.noEntry "extern/(internal/reflectlite.Value).Set.unaddressable")
    let val ← loadVar src b
    if ← Rtype.directlyAssignable dst src then storeVar dst a val
    else if ← Rtype.implements dst src then
      if (← Rtype.kind src) == 20 then
        match val with
        | .nilIface => unsupported (.noEntry "extern/reflectlite: a nil value of one interface type handed on as a value of another")
        | _ => storeVar dst a val
      else storeVar dst a (.iface src val)
    else panicString ("reflectlite.Set: value of type " ++ (← Rtype.spelt src) ++ " is not assignable to type " ++ (← Rtype.spelt dst))
    pure (.tuple #[])) := rfl
theorem as_parts25a (a : Addr) (w : World) : (ReflectliteValue.parts (.agg #[.pointer (some ⟨6, 126, none⟩), .pointer (some a), .int .u64 406])).run Tryz.prog w = .ok (some (126, a, 406)) w := by kernel_rfl
theorem as_parts25 (a : Addr) (w : World) : (ReflectliteValue.parts (.agg #[.pointer (some ⟨6, 126, none⟩), .pointer (some a), .int .u64 150])).run Tryz.prog w = .ok (some (126, a, 150)) w := by kernel_rfl
theorem as_direct25 (w : World) : (Rtype.directlyAssignable 126 126).run Tryz.prog w = .ok true w := by kernel_rfl
theorem as_set25 (ta b e : Addr) (old : Value) (W : World) (hb : W.cell? b = some (.pointer (some e))) (ht : W.cell? ta = some old) (hf : W.frozen? ta = false) :
    (ReflectliteValue.set #[.agg #[.pointer (some ⟨6, 126, none⟩), .pointer (some ta), .int .u64 406], .agg #[.pointer (some ⟨6, 126, none⟩), .pointer (some b), .int .u64 150]]).run Tryz.prog W
      = .ok (.tuple #[]) (W.setCell ta (.pointer (some e))) := by
  rw [rls]
  simp only [Sem.run_bind, as_parts25a, as_parts25, Result.andThen]
  simp [ReflectliteValue.flagAddr, loadVar, isAgg, underlying, Tryz.underlying126, hb, Result.andThen, as_direct25, storeVar, Value.cells, storeCells, Addr.add]
  rw [run_store Tryz.prog W ta _ _ (by rfl)]
  simp [ht, hf]
set_option maxHeartbeats 4000000 in
set_option maxRecDepth 100000 in
theorem as_hit (e t : Addr) (old : Value) (w : World) (hg : w.cell? ⟨0, 0, none⟩ = some (.iface 213 (.agg #[.pointer (some ⟨6, 37, none⟩)]))) (ht0 : w.cell? t = some old) (hf0 : w.frozen? t = false) :
    Calls Tryz.prog 89 #[.iface 126 (.pointer (some e)), .iface 148 (.pointer (some t))] w fun ev w' => ev = .returned (.bool true) ∧ w' = ((((w.alloc (.cells #[.pointer (some t)] 148)).alloc (.cells #[.pointer (some ⟨6, 148, none⟩), .pointer (some ⟨w.heap.size, 0, none⟩), .int .u64 150] 184)).alloc (.cells #[.pointer (some ⟨6, 148, none⟩), .pointer (some ⟨w.heap.size, 0, none⟩), .int .u64 150] 184)).alloc (.cells #[.pointer (some e)] 126)).setCell t (.pointer (some e)) := by
  have h6 := @run_callFunc_extern Tryz.prog 127 _ (fun args => ReflectliteValue.unpack (args.getD 0 (.tuple #[]))) Tryz.func127 (by kernel_rfl) (by kernel_rfl) (by kernel_rfl) (by kernel_rfl)
  have h7 := @run_callFunc_extern Tryz.prog 128 _ (ReflectliteValue.methodAny (ReflectliteValue.valueError "reflectlite.Value.Type" 0) (fun t _ _ _ => ReflectliteType.toType t)) Tryz.func128 (by kernel_rfl) (by kernel_rfl) (by kernel_rfl) (by kernel_rfl)
  have h8 := @run_callFunc_extern Tryz.prog 129 _ (ReflectliteValue.method (ReflectliteValue.valueError "reflectlite.Value.IsNil" 0) ReflectliteValue.isNil) Tryz.func129 (by kernel_rfl) (by kernel_rfl) (by kernel_rfl) (by kernel_rfl)
  have h27 := @run_callFunc_extern Tryz.prog 214 _ (ReflectliteType.abiMethod fun t => do pure (.int .u8 (← Rtype.kind t))) Tryz.func214 (by kernel_rfl) (by kernel_rfl) (by kernel_rfl) (by kernel_rfl)
  have h37 := @run_callFunc_extern Tryz.prog 226 _ (ReflectliteType.method ReflectliteType.elem) Tryz.func226 (by kernel_rfl) (by kernel_rfl) (by kernel_rfl) (by kernel_rfl)
  have h38 := @run_callFunc_extern Tryz.prog 227 _ (ReflectliteType.relation "Implements" ReflectliteType.implements_) Tryz.func227 (by kernel_rfl) (by kernel_rfl) (by kernel_rfl) (by kernel_rfl)
  have h10 := @run_callFunc_extern Tryz.prog 131 _ ReflectliteType.typeOf Tryz.func131 (by kernel_rfl) (by kernel_rfl) (by kernel_rfl) (by kernel_rfl)
  have h35 := @run_callFunc_extern Tryz.prog 224 _ (ReflectliteType.relation "AssignableTo" ReflectliteType.assignableTo) Tryz.func224 (by kernel_rfl) (by kernel_rfl) (by kernel_rfl) (by kernel_rfl)
  have h11 := @run_callFunc_extern Tryz.prog 160 _ (ReflectliteValue.method (ReflectliteValue.valueError "reflectlite.Value.Elem" 0) ReflectliteValue.elem) Tryz.func160 (by kernel_rfl) (by kernel_rfl) (by kernel_rfl) (by kernel_rfl)
  have h12 := @run_callFunc_extern Tryz.prog 161 _ ReflectliteValue.set Tryz.func161 (by kernel_rfl) (by kernel_rfl) (by kernel_rfl) (by kernel_rfl)
  have tO := as_typeOf25
  have mA := as_methodAssignableTo
  have a25 := as_assignable25
  have v25 := as_valueOf25
  have f6 := as_valueOf27
  have f7 := as_type27
  have mK := as_methodKind
  have mE := as_methodElem
  have mI := as_methodImplements
  have k27 := as_kind27
  have k25 := as_kind25
  have e27 := as_elem27
  have i25 := as_implements25
  have n8 := as_isNil27 ⟨w.heap.size, 0, none⟩ t ((w.alloc (.cells #[.pointer (some t)] 148)).alloc (.cells #[.pointer (some ⟨6, 148, none⟩), .pointer (some ⟨w.heap.size, 0, none⟩), .int .u64 150] 184)) (by simp)
  have hlt : 0 < w.heap.size := World.block_lt_of_cell? w _ hg
  have hg2 : ((w.alloc (.cells #[.pointer (some t)] 148)).alloc (.cells #[.pointer (some ⟨6, 148, none⟩), .pointer (some ⟨w.heap.size, 0, none⟩), .int .u64 150] 184)).cell? ⟨0, 0, none⟩ = some (.iface 213 (.agg #[.pointer (some ⟨6, 37, none⟩)])) := by
    rw [World.cell?_alloc_lt _ _ ⟨0, 0, none⟩ (by simp), World.cell?_alloc_lt _ _ ⟨0, 0, none⟩ hlt]; exact hg
  have htl : t.block < w.heap.size := by
    rcases Nat.lt_or_ge t.block w.heap.size with h | h
    · exact h
    · simp [World.cell?, Array.getElem?_eq_none h] at ht0
  have el := as_elemV27 ⟨w.heap.size, 0, none⟩ t (((w.alloc (.cells #[.pointer (some t)] 148)).alloc (.cells #[.pointer (some ⟨6, 148, none⟩), .pointer (some ⟨w.heap.size, 0, none⟩), .int .u64 150] 184)).alloc (.cells #[.pointer (some ⟨6, 148, none⟩), .pointer (some ⟨w.heap.size, 0, none⟩), .int .u64 150] 184)) (by rw [World.cell?_alloc_lt _ _ ⟨w.heap.size, 0, none⟩ (by simp; omega)]; simp)
  have st := as_set25 t ⟨w.heap.size + 1 + 1 + 1, 0, none⟩ e old ((((w.alloc (.cells #[.pointer (some t)] 148)).alloc (.cells #[.pointer (some ⟨6, 148, none⟩), .pointer (some ⟨w.heap.size, 0, none⟩), .int .u64 150] 184)).alloc (.cells #[.pointer (some ⟨6, 148, none⟩), .pointer (some ⟨w.heap.size, 0, none⟩), .int .u64 150] 184)).alloc (.cells #[.pointer (some e)] 126))
    (by rw [World.cell?_alloc_at _ _ _ _ (by simp)]; rfl)
    (by rw [World.cell?_alloc_lt _ _ t (by simp; omega), World.cell?_alloc_lt _ _ t (by simp; omega), World.cell?_alloc_lt _ _ t (by simp; omega), World.cell?_alloc_lt _ _ t htl]; exact ht0)
    (by rw [World.frozen?_alloc_old _ _ t (by simp; omega), World.frozen?_alloc_old _ _ t (by simp; omega), World.frozen?_alloc_old _ _ t (by simp; omega), World.frozen?_alloc_old _ _ t (Nat.ne_of_lt htl)]; exact hf0)
  go_enter Tryz.func89, Tryz.ntmps89
  go_wp2
  refine wp_loop_rounds 1 ?_
  rw [rounds_succ]
  go_wp2
  go_ret
  exact ⟨rfl, rfl⟩
end Go.Proofs.YtemoonhnncopoaaGreatDoor
end
section
namespace Go.Proofs.YtemoonhnncopoaaGreatDoor
open Go.RowKit Go.Extern.Stop Go.Stop Go.Extern
theorem is_typeOf (v : Value) (w : World) : (ReflectliteType.typeOf #[.iface 93 v]).run Tryz.prog w = .ok (.iface 213 (.agg #[.pointer (some ⟨6, 93, none⟩)])) w := by kernel_rfl
theorem is_methodComparable (h : Value) (w : World) : (Go.method 392 213 (.agg #[h]) "Comparable").run Tryz.prog w = .ok (225, .agg #[h]) w := by kernel_rfl
theorem is_comparable (w : World) : (ReflectliteType.method (fun t => do Rtype.noPackHeld "Comparable" t; (fun a : TypeInfo => Value.bool a.comparable) <$> typeInfo t) #[.agg #[.pointer (some ⟨6, 93, none⟩)]]).run Tryz.prog w = .ok (.bool true) w := by kernel_rfl
theorem is_types (p v : Value) (w : World) : (binOp .eql 37 (.iface 126 p) (.iface 93 v)).run Tryz.prog w = .ok (.bool false) w :=
  run_eql_iface_types _ _ _ _ Tryz.underlying37 (by decide) w
theorem is_noIs (v : Value) (xT : TypeId) (w : World) : (Instr.typeAssert (.iface 126 v) xT 225 true).run Tryz.prog w = .ok (.tuple #[.nilIface, .bool false]) w :=
  run_typeAssert_lacksB Tryz.underlying225 (by kernel_rfl) (by kernel_rfl) v xT w
theorem is_unwraps (v : Value) (xT : TypeId) (w : World) : (Instr.typeAssert (.iface 126 v) xT 220 true).run Tryz.prog w = .ok (.tuple #[.iface 126 v, .bool true]) w :=
  run_typeAssert_hasB Tryz.underlying220 (by kernel_rfl) v xT w
theorem unwrap_any (g : Nat) (a c : Int) (w : World) (h : w.heap[g]? = some (.cells #[.int .i64 a, .int .i64 c] 128 (0, 0))) :
    Calls Tryz.prog 219 #[.pointer (some ⟨g, 0, none⟩)] w fun e w' => e = .returned (.iface 93 (.int .i64 c)) ∧ w = w' := by
  have c1 := blk_cell h 1
  clear h
  go_enter Tryz.func219, Tryz.ntmps219
  go_wp2
  go_ret
  exact ⟨rfl, rfl⟩
theorem is_nilAhead (a : Addr) (w : World) : (nilAhead 392 126 (.pointer (some a)) "Unwrap").run Tryz.prog w = .ok (some false) w := by kernel_rfl
theorem is_methodUnwrap (a : Addr) (w : World) : (Go.method 392 126 (.pointer (some a)) "Unwrap").run Tryz.prog w = .ok (219, .pointer (some a)) w := by kernel_rfl
set_option maxHeartbeats 4000000 in
set_option maxRecDepth 100000 in
theorem is_inner (g : Nat) (a c : Int) (w : World) (h : w.heap[g]? = some (.cells #[.int .i64 a, .int .i64 c] 128 (0, 0))) :
    Calls Tryz.prog 132 #[.iface 126 (.pointer (some ⟨g, 0, none⟩)), .iface 93 (.int .i64 c), .bool true] w fun e w' => e = .returned (.bool true) ∧ w = w' := by
  have H := Lib.hid h
  clear h
  have k1 := is_types
  have k2 := is_noIs
  have k3 := is_unwraps
  have k4 := is_nilAhead
  have k5 := is_methodUnwrap
  have k6 := eqErr
  go_enter Tryz.func132, Tryz.ntmps132
  go_wp2_with fail
  refine wp_loop_rounds 2 ?_
  rw [rounds_succ]
  go_wp2_with fail
  refine (unwrap_any g a c _ H.out).mono ?_
  rintro e w1 ⟨rfl, rfl⟩
  go_wp2_with fail
  try rw [rounds_succ]
  go_wp2_with fail
  go_ret
  exact ⟨rfl, rfl⟩
set_option maxHeartbeats 4000000 in
set_option maxRecDepth 100000 in
theorem is_hit (g : Nat) (a c : Int) (w : World) (h : w.heap[g]? = some (.cells #[.int .i64 a, .int .i64 c] 128 (0, 0))) :
    Calls Tryz.prog 90 #[.iface 126 (.pointer (some ⟨g, 0, none⟩)), .iface 93 (.int .i64 c)] w fun e w' => e = .returned (.bool true) ∧ w = w' := by
  have H := Lib.hid h
  clear h
  have k1 := is_types
  have k2 := is_typeOf
  have k3 := is_methodComparable
  have k4 := is_comparable
  have h10 := @run_callFunc_extern Tryz.prog 131 _ ReflectliteType.typeOf Tryz.func131 (by kernel_rfl) (by kernel_rfl) (by kernel_rfl) (by kernel_rfl)
  have h72 := @run_callFunc_extern Tryz.prog 225 _ (ReflectliteType.method (fun t => do Rtype.noPackHeld "Comparable" t; pure (.bool (← typeInfo t).comparable))) Tryz.func225 (by kernel_rfl) (by kernel_rfl) (by kernel_rfl) (by kernel_rfl)
  go_enter Tryz.func90, Tryz.ntmps90
  go_wp2_with fail
  refine (is_inner g a c _ H.out).mono ?_
  rintro e w1 ⟨rfl, rfl⟩
  go_wp2_with fail
  go_ret
  exact ⟨rfl, rfl⟩
theorem run_neq_iface_ptr_same {P : Program} {w : World} {ti tp te : TypeId} {ms : Array (String × TypeId)} {i j : TypeInfo} (a : Addr)
    (hi : P.underlying ti = some (.interface ms)) (hp : P.underlying tp = some (.pointer te)) (hinfo : P.info? tp = some i) (hcomp : i.comparable = true) (hte : P.info? te = some j) :
    (binOp .neq ti (.iface tp (.pointer (some a))) (.iface tp (.pointer (some a)))).run P w = .ok (.bool false) w := by
  simp only [binOp]
  simp [Op.equal, Op.maxDepth, run_equalIn_iface_ptr_same w 9998 a hi hp hinfo hcomp hte]
theorem spot_info : (Tryz.prog.info? 126).map (·.comparable) = some true := by kernel_rfl
theorem spot_info2 : (Tryz.prog.info? 128).isSome = true := by kernel_rfl
theorem spot_eq (p : Addr) (w : World) : (binOp .neq 37 (.iface 126 (.pointer (some p))) (.iface 126 (.pointer (some p)))).run Tryz.prog w = .ok (.bool false) w := by
  obtain ⟨i, h, hc⟩ := Option.map_eq_some_iff.1 spot_info
  obtain ⟨j, h2⟩ := Option.isSome_iff_exists.1 spot_info2
  exact run_neq_iface_ptr_same p Tryz.underlying37 Tryz.underlying126 h hc h2
theorem as_spot (e : Addr) (w : World) (hg : w.cell? ⟨0, 0, none⟩ = some (.iface 213 (.agg #[.pointer (some ⟨6, 37, none⟩)]))) :
    Calls Tryz.prog 89 #[.iface 126 (.pointer (some e)), .iface 148 (.pointer (some ⟨w.heap.size, 0, none⟩))] (w.alloc (.cells #[.pointer none] 126)) fun ev w' =>
      ev = .returned (.bool true) ∧ w'.cell? ⟨w.heap.size, 0, none⟩ = some (.pointer (some e)) ∧ Below w.heap.size w w' := by
  have h0 := blk_new w (.cells #[.pointer none] 126)
  have hlt := World.block_lt_of_cell? w _ hg
  refine (as_hit e ⟨w.heap.size, 0, none⟩ (.pointer none) (w.alloc (.cells #[.pointer none] 126)) ?_ (blk_cell h0 0) (blk_free h0 0)).mono ?_
  · rw [World.cell?_alloc_lt _ _ _ hlt]; exact hg
  · rintro ev w' ⟨rfl, rfl⟩
    refine ⟨rfl, ?_, ?_⟩
    · have hb := blk_alloc (.cells #[.pointer (some e)] 126) (blk_alloc (.cells #[.pointer (some ⟨6, 148, none⟩), .pointer (some ⟨(w.alloc (.cells #[.pointer none] 126)).heap.size, 0, none⟩), .int .u64 150] 184) (blk_alloc (.cells #[.pointer (some ⟨6, 148, none⟩), .pointer (some ⟨(w.alloc (.cells #[.pointer none] 126)).heap.size, 0, none⟩), .int .u64 150] 184) (blk_alloc (.cells #[.pointer (some ⟨w.heap.size, 0, none⟩)] 148) h0)))
      have := blk_set hb 0 (.pointer (some e))
      rw [blk_cell this 0]
      rfl
    · refine Below.setCell ?_ (show w.heap.size ≤ (⟨w.heap.size, 0, none⟩ : Addr).block from Nat.le_refl _) _
      refine Below.alloc (Below.alloc (Below.alloc (Below.alloc (Below.alloc (Below.refl _ _) (Nat.le_refl _) _) ?_ _) ?_ _) ?_ _) ?_ _ <;> simp <;> omega
set_option maxHeartbeats 4000000 in
set_option maxRecDepth 100000 in
theorem lawIs_hit (g : Nat) (a c : Int) (w : World) (h : w.heap[g]? = some (.cells #[.int .i64 a, .int .i64 c] 128 (0, 0)))
    (hg : w.cell? ⟨0, 0, none⟩ = some (.iface 213 (.agg #[.pointer (some ⟨6, 37, none⟩)]))) :
    Calls Tryz.prog 55 #[.iface 126 (.pointer (some ⟨g, 0, none⟩)), .int .i64 a, .int .i64 c] w fun e w' => e = .returned (.bool true) ∧ Below w.heap.size w w' := by
  have H := Lib.hid h
  have HG := Lib.hid hg
  clear h hg
  have k1 := spot_eq
  go_enter Tryz.func55, Tryz.ntmps55
  go_wp2_with fail
  refine (as_spot ⟨g, 0, none⟩ w HG.out).mono ?_
  rintro ev w2 ⟨rfl, hc, hb⟩
  have hg2 := (hb.block g (lt_of_block H.out)).trans H.out
  have HG2 := Lib.hid hg2
  have d0 := blk_cell hg2 0
  have d1 := blk_cell hg2 1
  clear hg2
  go_wp2_with fail
  refine (is_hit g a c _ HG2.out).mono ?_
  rintro ev w3 ⟨rfl, rfl⟩
  go_wp2_with fail
  go_ret
  exact ⟨rfl, hb⟩
end Go.Proofs.YtemoonhnncopoaaGreatDoor
end
section
set_option linter.unusedVariables false
set_option linter.unusedSimpArgs false
namespace Go.Proofs.YtemoonhnncopoaaGreatDoor
open Go.RowKit PX Go.Proofs.YtemoonhnncopoaaGreatDoorW.PrintWords
structure LaidE (w : World) : Prop extends Laid w where
  typ : w.cell? ⟨0, 0, none⟩ = some (.iface 213 (.agg #[.pointer (some ⟨6, 37, none⟩)]))
theorem LaidE.below {w w' : World} (h : LaidE w) (hb : Below w.heap.size w w') : LaidE w' :=
  ⟨h.toLaid.below hb, (hb.cell (p := ⟨0, 0, none⟩) (World.block_lt_of_cell? w _ h.typ)).trans h.typ⟩
end Go.Proofs.YtemoonhnncopoaaGreatDoor
end
section
set_option linter.unusedVariables false
set_option linter.unusedSimpArgs false
namespace Go.Proofs.YtemoonhnncopoaaGreatDoor
open Go.RowKit Go.Proofs.YtemoonhnncopoaaGreatDoorW.PrintWords
open PX (T V)
theorem nilC {α : Type} (d : Kd α) (w : World) : d.C w none ([] : List α).length [] := ⟨rfl, by simp, fun h => by simp at h⟩
theorem one_new {W : World} {g ty : Nat} {x : Int} (h : W.heap[g]? = some (.cells #[.int .i64 x] ty (0, 0))) : (Kd.int .i64).C W (some ⟨g, 0, none⟩) ([x] : List Int).length [x] := by
  refine ⟨rfl, by simp, fun _ => ⟨_, rfl, ?_⟩⟩
  intro j p hj
  match j, hj with
  | 0, hj =>
    simp only [List.getElem?_cons_zero, Option.some.injEq] at hj
    subst hj
    refine ⟨[.int .i64 x], rfl, rfl, ?_⟩
    intro i u hi
    rw [add_at]
    match i, hi with
    | 0, hi => simp only [List.getElem?_cons_zero, Option.some.injEq] at hi; subst hi; exact blk_cell h 0
    | n + 1, hi => simp at hi
  | n + 1, hj => simp at hj
theorem states2 {W : World} {g : Nat} {k0 p0 k1 p1 : Int} {i0 : List Int} {A0 : Option Addr} {c0 : Nat}
    (h : W.heap[g]? = some (.cells #[.int .i64 k0, .int .i64 p0, .slice A0 i0.length c0, .slice none 0 0, .slice none 0 0, .int .i64 k1, .int .i64 p1, .slice none 0 0, .slice none 0 0, .slice none 0 0] 54 (0, 0)))
    (hc : i0.length ≤ c0) (hi : (Kd.int .i64).C W A0 i0.length i0) :
    Kd.C PAll.k54 W (some ⟨g, 0, none⟩) ([⟨k0, p0, i0, [], []⟩, ⟨k1, p1, [], [], []⟩] : List Sta).length [⟨k0, p0, i0, [], []⟩, ⟨k1, p1, [], [], []⟩] := by
  refine ⟨rfl, by simp, fun _ => ⟨_, rfl, ?_⟩⟩
  intro j p hj
  match j, hj with
  | 0, hj =>
    simp only [List.getElem?_cons_zero, Option.some.injEq] at hj
    subst hj
    refine ⟨_, rfl, PAll.k54_mk W _ (A2 := A0) (c2 := c0) hc hi (A3 := none) (c3 := 0) (Nat.le_refl _) (nilC _ W) (A4 := none) (c4 := 0) (Nat.le_refl _) (nilC _ W), ?_⟩
    intro i u hu
    rw [add_at]
    match i, hu with
    | 0, hu => simp only [List.getElem?_cons_zero, List.getElem?_cons_succ, Option.some.injEq] at hu; subst hu; exact blk_cell h 0
    | 1, hu => simp only [List.getElem?_cons_zero, List.getElem?_cons_succ, Option.some.injEq] at hu; subst hu; exact blk_cell h 1
    | 2, hu => simp only [List.getElem?_cons_zero, List.getElem?_cons_succ, Option.some.injEq] at hu; subst hu; exact blk_cell h 2
    | 3, hu => simp only [List.getElem?_cons_zero, List.getElem?_cons_succ, Option.some.injEq] at hu; subst hu; exact blk_cell h 3
    | 4, hu => simp only [List.getElem?_cons_zero, List.getElem?_cons_succ, Option.some.injEq] at hu; subst hu; exact blk_cell h 4
    | n + 5, hu => simp at hu
  | 1, hj =>
    simp only [List.getElem?_cons_zero, List.getElem?_cons_succ, Option.some.injEq] at hj
    subst hj
    refine ⟨_, rfl, PAll.k54_mk W _ (A2 := none) (c2 := 0) (Nat.le_refl _) (nilC _ W) (A3 := none) (c3 := 0) (Nat.le_refl _) (nilC _ W) (A4 := none) (c4 := 0) (Nat.le_refl _) (nilC _ W), ?_⟩
    intro i u hu
    rw [add_at]
    match i, hu with
    | 0, hu => simp only [List.getElem?_cons_zero, List.getElem?_cons_succ, Option.some.injEq] at hu; subst hu; exact blk_cell h 5
    | 1, hu => simp only [List.getElem?_cons_zero, List.getElem?_cons_succ, Option.some.injEq] at hu; subst hu; exact blk_cell h 6
    | 2, hu => simp only [List.getElem?_cons_zero, List.getElem?_cons_succ, Option.some.injEq] at hu; subst hu; exact blk_cell h 7
    | 3, hu => simp only [List.getElem?_cons_zero, List.getElem?_cons_succ, Option.some.injEq] at hu; subst hu; exact blk_cell h 8
    | 4, hu => simp only [List.getElem?_cons_zero, List.getElem?_cons_succ, Option.some.injEq] at hu; subst hu; exact blk_cell h 9
    | n + 5, hu => simp at hu
  | n + 2, hj => simp at hj
abbrev least2 : List Sta := [⟨2, -1, [1], [], []⟩, ⟨1, 0, [], [], []⟩]
abbrev least3 : List Sta := [⟨2, -1, [], [], []⟩, ⟨1, 0, [], [], []⟩]
theorem chk0 : chkP 0 [] [] = .code 3 := by unfold chkP; rw [if_pos (by simp)]
theorem chk2 : chkP 0 least2 [] = .none := by
  have a0 : stateP 0 least2 0 = 0 := by simp [stateP, parP, kidsP, kidsF, iniP, histP, inC, inF, actsP, PAll.rd_T54, rd]
  have a1 : stateP 0 least2 1 = 0 := by simp [stateP, parP, kidsP, kidsF, iniP, histP, inC, inF, actsP, PAll.rd_T54, rd]
  unfold chkP
  rw [if_neg (by simp)]
  simp [findBad, a0, a1]
theorem chk3 : chkP 0 least3 [] = .spot 0 11 := by
  have a0 : stateP 0 least3 0 = 11 := by simp [stateP, parP, kidsP, kidsF, iniP, histP, inC, inF, actsP, PAll.rd_T54, rd]
  unfold chkP
  rw [if_neg (by simp)]
  simp [findBad, a0]
theorem few2 (l : List Int) (tr : List Tra) (h : tr = []) : FewC [⟨2, -1, l, [], []⟩, ⟨1, 0, [], [], []⟩] tr := by
  subst h
  refine ⟨fun x hx => ?_, fun x hx => by cases hx⟩
  simp only [List.mem_cons, List.not_mem_nil, or_false] at hx
  rcases hx with rfl | rfl <;> simp
set_option maxHeartbeats 8000000 in
set_option maxRecDepth 100000 in
theorem up05 (w : World) (hw : LaidE w) : Calls Tryz.prog 42 #[] w fun e w' => e = .returned (.bool true) ∧ Below w.heap.size w w' := by
  have k6 := eqErr
  have HWE := Lib.hid hw
  have HW := Lib.hid hw.toLaid
  clear hw
  go_enter Tryz.func42, Tryz.ntmps42
  go_wp2_with fail
  refine (check_any 0 none none 0 0 [] [] ⟨fun x hx => (by cases hx), fun x hx => (by cases hx)⟩ _ HW.out ⟨nilC _ _, Nat.le_refl _, nilC _ _, Nat.le_refl _⟩).mono ?_
  rw [chk0]
  rintro e w1 ⟨ev1, rfl, he1, hb1⟩
  obtain rfl : ev1 = .iface 93 (.int .i64 3) := he1
  have hi1 := blk_alloc (.cells #[.int .i64 0, .slice (some ⟨w1.heap.size + 1, 0, none⟩) 2 2, .slice none 0 0] 47) (blk_alloc (.cells #[.int .i64 2, .int .i64 (-1), .slice (some ⟨w1.heap.size, 0, none⟩) 1 1, .slice none 0 0, .slice none 0 0, .int .i64 1, .int .i64 0, .slice none 0 0, .slice none 0 0, .slice none 0 0] 54) (blk_new w1 (.cells #[.int .i64 1] 3)))
  have hs1 := blk_alloc (.cells #[.int .i64 0, .slice (some ⟨w1.heap.size + 1, 0, none⟩) 2 2, .slice none 0 0] 47) (blk_new (w1.alloc (.cells #[.int .i64 1] 3)) (.cells #[.int .i64 2, .int .i64 (-1), .slice (some ⟨w1.heap.size, 0, none⟩) 1 1, .slice none 0 0, .slice none 0 0, .int .i64 1, .int .i64 0, .slice none 0 0, .slice none 0 0, .slice none 0 0] 54))
  have hc1 := blk_new ((w1.alloc (.cells #[.int .i64 1] 3)).alloc (.cells #[.int .i64 2, .int .i64 (-1), .slice (some ⟨w1.heap.size, 0, none⟩) 1 1, .slice none 0 0, .slice none 0 0, .int .i64 1, .int .i64 0, .slice none 0 0, .slice none 0 0, .slice none 0 0] 54)) (.cells #[.int .i64 0, .slice (some ⟨w1.heap.size + 1, 0, none⟩) 2 2, .slice none 0 0] 47)
  have hb1' : Below w1.heap.size w1 (((w1.alloc (.cells #[.int .i64 1] 3)).alloc (.cells #[.int .i64 2, .int .i64 (-1), .slice (some ⟨w1.heap.size, 0, none⟩) 1 1, .slice none 0 0, .slice none 0 0, .int .i64 1, .int .i64 0, .slice none 0 0, .slice none 0 0, .slice none 0 0] 54)).alloc (.cells #[.int .i64 0, .slice (some ⟨w1.heap.size + 1, 0, none⟩) 2 2, .slice none 0 0] 47)) :=
    (((Below.refl _ w1).alloc (Nat.le_refl _) _).alloc (by simp) _).alloc (by simp; omega) _
  rw [show (w1.alloc (.cells #[.int .i64 1] 3)).heap.size = w1.heap.size + 1 by simp] at hs1
  rw [show ((w1.alloc (.cells #[.int .i64 1] 3)).alloc (.cells #[.int .i64 2, .int .i64 (-1), .slice (some ⟨w1.heap.size, 0, none⟩) 1 1, .slice none 0 0, .slice none 0 0, .int .i64 1, .int .i64 0, .slice none 0 0, .slice none 0 0, .slice none 0 0] 54)).heap.size = w1.heap.size + 2 by simp] at hc1
  have HI1 := Lib.hid hi1
  have HS1 := Lib.hid hs1
  have HC1 := Lib.hid hc1
  have HB1 := Lib.hid (below_then hb1 hb1.size hb1')
  clear hi1 hs1 hc1 hb1'
  go_wp2_with fail
  generalize ((w1.alloc (.cells #[.int .i64 1] 3)).alloc (.cells #[.int .i64 2, .int .i64 (-1), .slice (some ⟨w1.heap.size, 0, none⟩) 1 1, .slice none 0 0, .slice none 0 0, .int .i64 1, .int .i64 0, .slice none 0 0, .slice none 0 0, .slice none 0 0] 54)).alloc (.cells #[.int .i64 0, .slice (some ⟨w1.heap.size + 1, 0, none⟩) 2 2, .slice none 0 0] 47) = W1 at HI1 HS1 HC1 HB1 ⊢
  refine (check_any 0 (some ⟨w1.heap.size + 1, 0, none⟩) none 2 0 least2 [] (few2 [1] [] rfl) _ (HW.out.below HB1.out) ⟨states2 HS1.out (by simp) (one_new HI1.out), Nat.le_refl _, nilC _ _, Nat.le_refl _⟩).mono ?_
  rw [chk2]
  rintro e w2 ⟨ev2, rfl, he2, hb2⟩
  obtain rfl : ev2 = .nilIface := he2
  have hs2 := (hb2.block _ (lt_of_block HS1.out)).trans HS1.out
  have hc2 := (hb2.block _ (lt_of_block HC1.out)).trans HC1.out
  have HB2 := Lib.hid (below_then HB1.out HB1.out.size hb2)
  have hle : w.heap.size ≤ w1.heap.size := hb1.size
  have HS2 := Lib.hid (blk_set hs2 2 (.slice none 0 0))
  have HC2 := Lib.hid (blk_far (p := ⟨w1.heap.size + 1, 2, none⟩) hc2 (by simp) (.slice none 0 0))
  have c0 : w2.cell? ⟨w1.heap.size + 2, 0, none⟩ = some (.int .i64 0) := blk_cell hc2 0
  have c1 : w2.cell? ⟨w1.heap.size + 2, 1, none⟩ = some (.slice (some ⟨w1.heap.size + 1, 0, none⟩) 2 2) := blk_cell hc2 1
  have c2 : w2.cell? ⟨w1.heap.size + 2, 2, none⟩ = some (.slice none 0 0) := blk_cell hc2 2
  have s2 : w2.cell? ⟨w1.heap.size + 1, 2, none⟩ = some (.slice (some ⟨w1.heap.size, 0, none⟩) 1 1) := blk_cell hs2 2
  have f2 : w2.frozen? ⟨w1.heap.size + 1, 2, none⟩ = false := blk_free hs2 2
  have HB3 := Lib.hid (HB2.out.setCell (p := ⟨w1.heap.size + 1, 2, none⟩) (show w.heap.size ≤ w1.heap.size + 1 by omega) (.slice none 0 0))
  clear hs2 hc2 hb2 hb1
  go_wp2_with fail
  generalize w2.setCell ⟨w1.heap.size + 1, 2, none⟩ (.slice none 0 0) = W2 at HS2 HC2 HB3 ⊢
  clear c0 c1 c2 s2 f2
  obtain ⟨c0, c1, c2⟩ : W2.cell? ⟨w1.heap.size + 2, 0, none⟩ = some (.int .i64 0) ∧ W2.cell? ⟨w1.heap.size + 2, 1, none⟩ = some (.slice (some ⟨w1.heap.size + 1, 0, none⟩) 2 2) ∧ W2.cell? ⟨w1.heap.size + 2, 2, none⟩ = some (.slice none 0 0) := ⟨blk_cell HC2.out 0, blk_cell HC2.out 1, blk_cell HC2.out 2⟩
  go_wp2_with fail
  refine (check_any 0 (some ⟨w1.heap.size + 1, 0, none⟩) none 2 0 least3 [] (few2 [] [] rfl) _ (HW.out.below HB3.out) ⟨states2 (i0 := []) (A0 := none) (c0 := 0) HS2.out (by simp) (nilC _ _), Nat.le_refl _, nilC _ _, Nat.le_refl _⟩).mono ?_
  rw [chk3]
  rintro e w3 ⟨ev3, rfl, ⟨g, rfl, _, hg⟩, hb3⟩
  have HG := Lib.hid hg
  have HB4 := Lib.hid (below_then HB3.out HB3.out.size hb3)
  clear hg hb3
  go_wp2_with fail
  refine (lawIs_hit g 0 11 _ HG.out (HWE.out.below HB4.out).typ).mono ?_
  rintro e w4 ⟨rfl, hb4⟩
  go_wp2_with fail
  go_ret
  exact ⟨rfl, below_then HB4.out HB4.out.size hb4⟩
end Go.Proofs.YtemoonhnncopoaaGreatDoor
end
section
set_option linter.unusedVariables false
set_option linter.unusedSimpArgs false
namespace Go.Proofs.YtemoonhnncopoaaGreatDoor
open Go.RowKit Go.Proofs.YtemoonhnncopoaaGreatDoorW.PrintWords
def RAct : Rep (Int × Int × Int × ByteArray × Unit) := (Rep.int .i64).pair ((Rep.int .i64).pair ((Rep.int .i64).pair (Rep.str.pair Rep.unit)))
set_option maxRecDepth 100000 in
theorem RAct.reads : Reads Tryz.prog 80 RAct :=
  reads_struct Tryz.underlying80 (fields_cons rfl (reads_int Tryz.underlying3 (by kernel_rfl)) (fields_cons rfl (reads_int Tryz.underlying3 (by kernel_rfl)) (fields_cons rfl (reads_int Tryz.underlying3 (by kernel_rfl)) (fields_cons rfl (reads_str Tryz.underlying9 (by kernel_rfl)) (fields_nil _ _))))) (by kernel_rfl)
end Go.Proofs.YtemoonhnncopoaaGreatDoor
end
section
set_option linter.unusedVariables false
set_option linter.unusedSimpArgs false
namespace Go.Proofs.YtemoonhnncopoaaGreatDoor
open Go.RowKit Go.Proofs.YtemoonhnncopoaaGreatDoorW.PrintWords
def RepK {α β : Type} (R : Rep α) (d : Kd β) (f : α → β) : Prop := ∀ F w cs x, R.ok F w cs x → d.K w (f x) cs
theorem repK_int (k : IntKind) : RepK (Rep.int k) (Kd.int k) id := fun F w cs x h => h.1
theorem repK_slice {α β : Type} {R : Rep α} {d : Kd β} {f : α → β} (e : Nat) (h : RepK R d f) (hs : R.size = d.sz) : RepK R.slice (Kd.slice e d) (List.map f) := by
  intro F w cs xs hx
  rcases hx with ⟨a, cap, rfl, rfl⟩ | ⟨b, off, cap, rfl, hF, hlt, hne, hl, hcap, hel⟩
  · exact ⟨a, cap, rfl, Nat.zero_le _, ⟨rfl, by simp, fun h => by simp at h⟩⟩
  · unfold maxLen at hcap
    refine ⟨some ⟨b, off, none⟩, cap, by rw [List.length_map], by rw [List.length_map]; exact hl, ⟨rfl, by rw [List.length_map]; omega, fun _ => ⟨_, rfl, ?_⟩⟩⟩
    intro j p hj
    rw [List.getElem?_map] at hj
    obtain ⟨t, ht, rfl⟩ := Option.map_eq_some_iff.1 hj
    obtain ⟨hjl, rfl⟩ := List.getElem?_eq_some_iff.1 ht
    obtain ⟨c, hc, hcell, hok⟩ := hel j hjl
    refine ⟨c, hc.trans hs, h _ _ _ _ hok, ?_⟩
    intro i u hi
    obtain ⟨hil, rfl⟩ := List.getElem?_eq_some_iff.1 hi
    rw [add_at, ← hs, ← Nat.add_assoc]
    exact hcell i hil
end Go.Proofs.YtemoonhnncopoaaGreatDoor
end
section
set_option linter.unusedVariables false
set_option linter.unusedSimpArgs false
namespace Go.Proofs.YtemoonhnncopoaaGreatDoor
open Go.RowKit Go.Proofs.YtemoonhnncopoaaGreatDoorW.PrintWords
open PX (T V)
def fewAP (l : List Ac) : Bool := (l.all fun a => decide (a.f3.size ≤ 500)) && decide (l.length ≤ 20)
theorem fewA_l0 (l : List Ac) (hl : l.length ≤ 9223372036854775807) (d : Nat) : ∀ a : Nat, a ≤ l.length → l.length - a = d → Ev (fun k => PAll.spinetref05_fewActs.l0 k l a) (((l.drop a).all fun x => decide (x.f3.size ≤ 500)) && decide (l.length ≤ 20)) := by
  induction d with
  | zero =>
    intro a ha hd
    obtain rfl : a = l.length := by omega
    refine Ev.step (fun k => rfl) ?_
    simp only [PAll.spinetref05_fewActs.l0]
    refine ev_neg (by omega) ?_
    have : (((l.drop l.length).all fun x => decide (x.f3.size ≤ 500)) && decide (l.length ≤ 20)) = decide ((l.length : Int) ≤ 20) := by
      rw [List.drop_length]
      simp
      omega
    rw [this]
    exact Ev.now _
  | succ d ih =>
    intro a ha hd
    have hlt : a < l.length := by omega
    refine Ev.step (fun k => rfl) ?_
    simp only [PAll.spinetref05_fewActs.l0]
    have hr : PAll.rd_T80 l (a : Int) = l[a] := by simp [PAll.rd_T80, List.getD_eq_getElem?_getD, List.getElem?_eq_getElem hlt]
    rw [hr, List.drop_eq_getElem_cons hlt]
    refine ev_pos (by omega) (ev_pos (by omega) ?_)
    by_cases h5 : 500 < l[a].f3.size
    · have : ((l[a] :: l.drop (a + 1)).all fun x => decide (x.f3.size ≤ 500)) = false := by
        rw [List.all_cons, decide_eq_false (by omega)]
        rfl
      rw [this]
      exact ev_pos (by omega) (Ev.now _)
    · refine ev_neg (by omega) ?_
      rw [w64 (by omega) (by omega)]
      rw [List.all_cons, decide_eq_true (show l[a].f3.size ≤ 500 by omega)]
      exact ih (a + 1) (by omega) (by omega)
theorem fewA_ev (l : List Ac) (hl : l.length ≤ 9223372036854775807) : Ev (fun k => PAll.spinetref05_fewActs.f k l) (fewAP l) := by
  have h := fewA_l0 l hl l.length 0 (by omega) (by omega)
  rw [List.drop_zero] at h
  exact h
def fewS (x : Sta) : Bool := fewAP x.f3 && fewAP x.f4 && decide (x.f2.length ≤ 20)
def fewT (x : Tra) : Bool := fewAP x.f5 && decide (x.f3.length ≤ 20) && decide (x.f2.size ≤ 500)
def fewP (st : List Sta) (tr : List Tra) : Bool := decide (st.length ≤ 40) && decide (tr.length ≤ 60) && st.all fewS && tr.all fewT
theorem few_l1 (v : Int) (st : List Sta) (tr : List Tra) (hT : ∀ x ∈ tr, x.f5.length ≤ 9223372036854775807) (hl : tr.length ≤ 60) (d : Nat) : ∀ a : Nat, a ≤ tr.length → tr.length - a = d →
    Ev (fun k => PAll.spinetref05_Few.l1 k a v st tr) ((tr.drop a).all fewT) := by
  induction d with
  | zero =>
    intro a ha hd
    obtain rfl : a = tr.length := by omega
    refine Ev.step (fun k => rfl) ?_
    simp only [PAll.spinetref05_Few.l1]
    rw [List.drop_length]
    exact ev_neg (by omega) (Ev.now _)
  | succ d ih =>
    intro a ha hd
    have hlt : a < tr.length := by omega
    refine Ev.step (fun k => rfl) ?_
    simp only [PAll.spinetref05_Few.l1]
    have hr : PAll.rd_T56 tr (a : Int) = tr[a] := by simp [PAll.rd_T56, List.getD_eq_getElem?_getD, List.getElem?_eq_getElem hlt]
    rw [hr, List.drop_eq_getElem_cons hlt, List.all_cons]
    refine ev_pos (by omega) (ev_pos (by omega) (Ev.bind (fewA_ev _ (hT _ (List.getElem_mem hlt))) ?_))
    cases h1 : fewAP tr[a].f5 with
    | false => exact ev_is (by simp [fewT, h1]) (ev_neg (by simp) (Ev.now _))
    | true =>
      refine ev_pos rfl ?_
      by_cases h2 : 20 < tr[a].f3.length
      · exact ev_is (by simp [fewT]; omega) (ev_pos (by omega) (Ev.now false))
      · refine ev_neg (by omega) ?_
        by_cases h3 : 500 < tr[a].f2.size
        · exact ev_is (by simp [fewT]; omega) (ev_pos (by omega) (Ev.now false))
        · refine ev_neg (by omega) ?_
          rw [w64 (by omega) (by omega)]
          refine ev_is ?_ (ih (a + 1) (by omega) (by omega))
          have : fewT tr[a] = true := by simp [fewT, h1]; omega
          rw [this, Bool.true_and]
theorem few_l0 (v : Int) (st : List Sta) (tr : List Tra) (hS : ∀ x ∈ st, x.f3.length ≤ 9223372036854775807 ∧ x.f4.length ≤ 9223372036854775807) (hT : ∀ x ∈ tr, x.f5.length ≤ 9223372036854775807) (hl : tr.length ≤ 60) (hn : st.length ≤ 40) (d : Nat) : ∀ a : Nat, a ≤ st.length → st.length - a = d →
    Ev (fun k => PAll.spinetref05_Few.l0 k a v st tr) ((st.drop a).all fewS && tr.all fewT) := by
  induction d with
  | zero =>
    intro a ha hd
    obtain rfl : a = st.length := by omega
    refine Ev.step (fun k => rfl) ?_
    simp only [PAll.spinetref05_Few.l0]
    rw [List.drop_length]
    have h := few_l1 v st tr hT hl tr.length 0 (by omega) (by omega)
    rw [List.drop_zero] at h
    exact ev_neg (by omega) h
  | succ d ih =>
    intro a ha hd
    have hlt : a < st.length := by omega
    refine Ev.step (fun k => rfl) ?_
    simp only [PAll.spinetref05_Few.l0]
    have hr : PAll.rd_T54 st (a : Int) = st[a] := by simp [PAll.rd_T54, List.getD_eq_getElem?_getD, List.getElem?_eq_getElem hlt]
    rw [hr, List.drop_eq_getElem_cons hlt, List.all_cons]
    refine ev_pos (by omega) (ev_pos (by omega) (Ev.bind (fewA_ev _ (hS _ (List.getElem_mem hlt)).1) (Ev.bind (fewA_ev _ (hS _ (List.getElem_mem hlt)).2) ?_)))
    cases h1 : fewAP st[a].f3 with
    | false => exact ev_is (by simp [fewS, h1]) (ev_neg (by simp) (Ev.now _))
    | true =>
      refine ev_pos rfl ?_
      cases h2 : fewAP st[a].f4 with
      | false => exact ev_is (by simp [fewS, h2]) (ev_neg (by simp) (Ev.now _))
      | true =>
        refine ev_pos rfl ?_
        by_cases h3 : 20 < st[a].f2.length
        · exact ev_is (by simp [fewS]; omega) (ev_pos (by omega) (Ev.now false))
        · refine ev_neg (by omega) ?_
          rw [w64 (by omega) (by omega)]
          refine ev_is ?_ (ih (a + 1) (by omega) (by omega))
          have : fewS st[a] = true := by simp [fewS, h1, h2]; omega
          rw [this, Bool.true_and]
theorem few_ev (v : Int) (st : List Sta) (tr : List Tra) (hS : ∀ x ∈ st, x.f3.length ≤ 9223372036854775807 ∧ x.f4.length ≤ 9223372036854775807) (hT : ∀ x ∈ tr, x.f5.length ≤ 9223372036854775807) : Ev (fun k => PAll.spinetref05_Few.f k v st tr) (fewP st tr) := by
  have stop : ∀ x : Bool, x = true → Ev (fun k => PAll.spinetref05_Few.j0 k x v st tr) false := by
    intro x hx
    refine Ev.step (fun k => rfl) ?_
    simp only [PAll.spinetref05_Few.j0]
    exact ev_pos hx (Ev.now _)
  unfold PAll.spinetref05_Few.f
  by_cases h1 : 40 < st.length
  · exact ev_is (by simp [fewP]; omega) (ev_pos (by omega) (stop _ rfl))
  · refine ev_neg (by omega) ?_
    by_cases h2 : 60 < tr.length
    · exact ev_is (by simp [fewP]; omega) (stop _ (decide_eq_true (by omega)))
    · have h := few_l0 v st tr hS hT (by omega) (by omega) st.length 0 (by omega) (by omega)
      rw [List.drop_zero] at h
      rw [decide_eq_false (show ¬ ((tr.length : Int) > 60) by omega)]
      refine Ev.step (fun k => rfl) ?_
      simp only [PAll.spinetref05_Few.j0]
      refine ev_neg (by simp) (ev_is ?_ h)
      simp only [fewP]
      rw [decide_eq_true (show st.length ≤ 40 by omega), decide_eq_true (show tr.length ≤ 60 by omega)]
      simp
theorem few_of {st : List Sta} {tr : List Tra} (h : fewP st tr = true) : FewC st tr ∧ st.length ≤ 40 ∧ tr.length ≤ 60 := by
  simp only [fewP, Bool.and_eq_true, decide_eq_true_eq, List.all_eq_true] at h
  obtain ⟨⟨⟨h1, h2⟩, h3⟩, h4⟩ := h
  refine ⟨⟨fun x hx => ?_, fun x hx => ?_⟩, h1, h2⟩
  · have := h3 x hx
    simp only [fewS, fewAP, Bool.and_eq_true, decide_eq_true_eq, List.all_eq_true] at this
    obtain ⟨⟨⟨a1, a2⟩, b1, b2⟩, _⟩ := this
    refine ⟨by omega, by omega, fun a ha => ?_⟩
    rcases List.mem_append.1 ha with ha | ha
    · have := a1 a ha; omega
    · have := b1 a ha; omega
  · have := h4 x hx
    simp only [fewT, fewAP, Bool.and_eq_true, decide_eq_true_eq, List.all_eq_true] at this
    obtain ⟨⟨⟨a1, a2⟩, _⟩, c1⟩ := this
    exact ⟨by omega, fun a ha => by have := a1 a ha; omega⟩
section
variable {A B : Option Addr} {ca cb : Nat} {st : List Sta} {tr : List Tra} {w : World}
theorem cs_len (h : ChM w A ca st B cb tr) : ∀ x ∈ st, x.f3.length ≤ 9223372036854775807 ∧ x.f4.length ≤ 9223372036854775807 := by
  intro x hx
  obtain ⟨q, hq, rfl⟩ := List.mem_iff_getElem.1 hx
  obtain ⟨ad, A2, c2, A3, c3, A4, c4, _, _, _, _, _, _, l3, g3, l4, g4⟩ := state_full h (q : Int) (by omega) (by omega)
  have hr : PAll.rd_T54 st (q : Int) = st[q] := by simp [PAll.rd_T54, List.getD_eq_getElem?_getD, List.getElem?_eq_getElem hq]
  rw [hr] at g3 g4
  exact ⟨g3.2.1, g4.2.1⟩
theorem ct_len (h : ChM w A ca st B cb tr) : ∀ x ∈ tr, x.f5.length ≤ 9223372036854775807 := by
  intro x hx
  obtain ⟨q, hq, rfl⟩ := List.mem_iff_getElem.1 hx
  obtain ⟨ad, A3, c3, A5, c5, _, _, _, _, _, _, _, l3, g3, l5, g5⟩ := PAll.at_T56 h.ct (q : Int) (by omega) (by omega)
  have hr : PAll.rd_T56 tr (q : Int) = tr[q] := by simp [PAll.rd_T56, List.getD_eq_getElem?_getD, List.getElem?_eq_getElem hq]
  rw [hr] at g5
  exact g5.2.1
theorem fewc_any (h : ChM w A ca st B cb tr) (v : Int) : Calls Tryz.prog 25 #[ckV v A B st.length tr.length ca cb] w fun e w' => e = .returned (.bool (fewP st tr)) ∧ Below w.heap.size w w' := by
  obtain ⟨k, hk⟩ := Ev.rounds (few_ev v st tr (cs_len h) (ct_len h))
  exact PAll.spinetref05_Few.calls k v A ca st B cb tr _ w h.cs h.sc h.ct h.tc hk
theorem rkids_l0 (st : List Sta) (tr : List Tra) (v s : Int) (hn : st.length ≤ 1000000) : ∀ (suf pre : List Sta) (acc : List Int), st = pre ++ suf → acc.length ≤ pre.length →
    Ev (fun k => PAll.spinetref05_Kids.l0 k s acc (pre.length : Int) v st tr) (acc ++ kidsF s suf (pre.length : Int)) := by
  intro suf
  induction suf with
  | nil =>
    intro pre acc h _
    refine Ev.step (fun k => rfl) ?_
    simp only [PAll.spinetref05_Kids.l0, kidsF, List.append_nil]
    exact ev_neg (by rw [h]; simp) (Ev.now _)
  | cons x suf ih =>
    intro pre acc h ha
    have hlen : st.length = pre.length + (suf.length + 1) := by rw [h]; simp
    have hrd : PAll.rd_T54 st (pre.length : Int) = x := by
      simp [PAll.rd_T54, List.getD_eq_getElem?_getD, h]
    have hw : wrap64 ((pre.length : Int) + 1) = ((pre ++ [x]).length : Int) := by rw [w64 (by omega) (by omega)]; simp
    have nx := fun acc' ha' => ih (pre ++ [x]) acc' (by rw [h]; simp) ha'
    have e1 : ((pre ++ [x]).length : Int) = (pre.length : Int) + 1 := by simp
    refine Ev.step (fun k => rfl) ?_
    simp only [PAll.spinetref05_Kids.l0]
    rw [hrd, hw]
    refine ev_pos (by omega) (ev_pos (by omega) ?_)
    by_cases c : x.f1 = s
    · refine ev_pos c ?_
      cases hh : histP x.f0 with
      | true =>
        have e : kidsF s (x :: suf) (pre.length : Int) = kidsF s suf ((pre ++ [x]).length : Int) := by rw [e1]; simp only [kidsF]; rw [if_neg]; simp [hh]
        have n1 := nx acc (by simp; omega)
        by_cases h5 : x.f0 = 5
        · exact ev_is (by rw [e]) (ev_pos h5 n1)
        · have h6 : x.f0 = 6 := by simpa [histP, h5] using hh
          exact ev_is (by rw [e]) (ev_neg h5 (ev_pos h6 n1))
      | false =>
        have h56 : x.f0 ≠ 5 ∧ x.f0 ≠ 6 := by simpa [histP] using hh
        have e : kidsF s (x :: suf) (pre.length : Int) = (pre.length : Int) :: kidsF s suf ((pre ++ [x]).length : Int) := by rw [e1]; simp only [kidsF]; rw [if_pos]; exact ⟨c, hh⟩
        have := nx (acc ++ [(pre.length : Int)]) (by simp; omega)
        exact ev_is (by rw [e]; simp) (ev_neg h56.1 (ev_neg h56.2 (ev_pos (by omega) this)))
    · have e : kidsF s (x :: suf) (pre.length : Int) = kidsF s suf ((pre ++ [x]).length : Int) := by rw [e1]; simp only [kidsF]; rw [if_neg]; exact fun h => c h.1
      exact ev_is (by rw [e]) (ev_neg c (nx acc (by simp; omega)))
theorem rkids_any (h : ChM w A ca st B cb tr) (v i : Int) (hn : st.length ≤ 1000000) : Calls Tryz.prog 44 #[ckV v A B st.length tr.length ca cb, .int .i64 i] w fun e w' => ∃ u : Value, e = .returned u ∧ Kd.R (Kd.int .i64) 3 w' w.heap.size (fun _ => True) u (kidsP st i) ∧ Below w.heap.size w w' := by
  have h0 := rkids_l0 st tr v i hn st [] [] rfl (by simp)
  rw [List.nil_append] at h0
  obtain ⟨k, hk⟩ := Ev.rounds (show Ev (fun k => PAll.spinetref05_Kids.f k v st tr i) (kidsP st i) from h0)
  exact PAll.spinetref05_Kids.calls k v A ca st B cb tr i _ w h.cs h.sc h.ct h.tc hk
theorem rin_ev (st : List Sta) (tr : List Tra) (v b : Int) (n : Nat) : ∀ a : Int, a.toNat ≤ n → Ev (fun k => PAll.spinetref05_In.f k v st tr a b) (decide (0 ≤ b) && inC st a b) := by
  have stop : ∀ (a : Int) (x : Bool), x = true → Ev (fun k => PAll.spinetref05_In.j0 k a b x v st tr) false := by
    intro a x hx
    refine Ev.step (fun k => rfl) ?_
    simp only [PAll.spinetref05_In.j0]
    exact ev_pos hx (Ev.now _)
  have small : ∀ a : Int, a < 1 → Ev (fun k => PAll.spinetref05_In.f k v st tr a b) (decide (0 ≤ b) && inC st a b) := by
    intro a h
    refine ev_is (by rw [inC_eq, if_neg (by omega), Bool.and_false]) (Ev.step (fun k => rfl) ?_)
    simp only [PAll.spinetref05_In.f]
    exact ev_pos h (stop a _ rfl)
  induction n with
  | zero => intro a h; exact small a (by omega)
  | succ n ih =>
    intro a h
    by_cases h1 : a < 1
    · exact small a h1
    refine Ev.step (fun k => rfl) ?_
    simp only [PAll.spinetref05_In.f]
    refine ev_neg h1 ?_
    by_cases h2 : a ≥ (st.length : Int)
    · exact ev_is (by rw [inC_eq, if_neg (by omega), Bool.and_false]) (ev_pos h2 (stop a _ rfl))
    refine ev_neg h2 ?_
    by_cases hb : b < 0
    · exact ev_is (by rw [decide_eq_false (by omega)]; rfl) (stop a _ (decide_eq_true hb))
    rw [decide_eq_false hb]
    refine Ev.step (fun k => rfl) ?_
    simp only [PAll.spinetref05_In.j0]
    rw [decide_eq_true (show 0 ≤ b by omega), Bool.true_and]
    refine ev_neg (by simp) (ev_pos (by omega) (ev_pos (by omega) ?_))
    by_cases p0 : (PAll.rd_T54 st a).f1 < 0
    · refine ev_is ?_ (ev_pos p0 (Ev.now false))
      rw [inC_eq]
      split
      · rw [if_neg (by omega), if_neg (by omega), inC_eq, if_neg (by omega)]
      · rfl
    refine ev_neg p0 ?_
    by_cases p1 : (PAll.rd_T54 st a).f1 ≥ a
    · refine ev_is ?_ (ev_pos p1 (Ev.now false))
      rw [inC_eq]
      split <;> first | rfl | rw [if_pos p1]
    refine ev_neg p1 ?_
    by_cases p2 : (PAll.rd_T54 st a).f1 = b
    · refine ev_is ?_ (ev_pos p2 (Ev.now true))
      rw [inC_eq, if_pos (by omega), if_neg p1, if_pos p2]
    refine ev_neg p2 ?_
    have i1 := ih (PAll.rd_T54 st a).f1 (by omega)
    rw [decide_eq_true (show 0 ≤ b by omega), Bool.true_and] at i1
    refine ev_is ?_ (Ev.bind i1 (Ev.now _))
    rw [inC_eq st a b]
    split
    · first | rfl | rw [if_neg p1, if_neg p2]
    · rename_i hc
      rw [inC_eq, if_neg (by omega)]
theorem rin_any (h : ChM w A ca st B cb tr) (v a b : Int) : Calls Tryz.prog 46 #[ckV v A B st.length tr.length ca cb, .int .i64 a, .int .i64 b] w fun e w' => e = .returned (.bool (decide (0 ≤ b) && inC st a b)) ∧ Below w.heap.size w w' := by
  obtain ⟨k, hk⟩ := Ev.rounds (rin_ev st tr v b a.toNat a (Nat.le_refl _))
  exact PAll.spinetref05_In.calls k v A ca st B cb tr a b _ w h.cs h.sc h.ct h.tc hk
end
abbrev ActT := Int × Int × Int × ByteArray × Unit
abbrev StaT := Int × Int × List Int × List ActT × List ActT × Unit
abbrev TraT := Int × Int × ByteArray × List Int × Bool × List ActT × Unit
def RSta : Rep StaT := (Rep.int .i64).pair ((Rep.int .i64).pair ((Rep.int .i64).slice.pair (RAct.slice.pair (RAct.slice.pair Rep.unit))))
def RTra : Rep TraT := (Rep.int .i64).pair ((Rep.int .i64).pair (Rep.str.pair ((Rep.int .i64).slice.pair (Rep.bool.pair (RAct.slice.pair Rep.unit)))))
def RChart : Rep (Int × List StaT × List TraT × Unit) := (Rep.int .i64).pair (RSta.slice.pair (RTra.slice.pair Rep.unit))
theorem ints_reads : Reads Tryz.prog 27 (Rep.int .i64).slice := reads_slice Tryz.underlying27 (by kernel_rfl) (reads_int Tryz.underlying3 (by kernel_rfl)) (by decide)
theorem acts_reads : Reads Tryz.prog 22 RAct.slice := reads_slice Tryz.underlying22 (by kernel_rfl) RAct.reads (by decide)
set_option maxRecDepth 100000 in
theorem RSta.reads : Reads Tryz.prog 54 RSta :=
  reads_struct Tryz.underlying54 (fields_cons rfl (reads_int Tryz.underlying3 (by kernel_rfl)) (fields_cons rfl (reads_int Tryz.underlying3 (by kernel_rfl)) (fields_cons rfl ints_reads (fields_cons rfl acts_reads (fields_cons rfl acts_reads (fields_nil _ _)))))) (by kernel_rfl)
set_option maxRecDepth 100000 in
theorem RTra.reads : Reads Tryz.prog 56 RTra :=
  reads_struct Tryz.underlying56 (fields_cons rfl (reads_int Tryz.underlying3 (by kernel_rfl)) (fields_cons rfl (reads_int Tryz.underlying3 (by kernel_rfl)) (fields_cons rfl (reads_str Tryz.underlying9 (by kernel_rfl)) (fields_cons rfl ints_reads (fields_cons rfl (reads_bool Tryz.underlying4 (by kernel_rfl)) (fields_cons rfl acts_reads (fields_nil _ _))))))) (by kernel_rfl)
set_option maxRecDepth 100000 in
theorem RChart.reads : Reads Tryz.prog 47 RChart :=
  reads_struct Tryz.underlying47 (fields_cons rfl (reads_int Tryz.underlying3 (by kernel_rfl)) (fields_cons rfl (reads_slice Tryz.underlying44 (by kernel_rfl) RSta.reads (by decide)) (fields_cons rfl (reads_slice Tryz.underlying45 (by kernel_rfl) RTra.reads (by decide)) (fields_nil _ _)))) (by kernel_rfl)
def acOf (t : ActT) : Ac := ⟨t.1, t.2.1, t.2.2.1, t.2.2.2.1⟩
def staOf (t : StaT) : Sta := ⟨t.1, t.2.1, t.2.2.1.map id, t.2.2.2.1.map acOf, t.2.2.2.2.1.map acOf⟩
def traOf (t : TraT) : Tra := ⟨t.1, t.2.1, t.2.2.1, t.2.2.2.1.map id, t.2.2.2.2.1, t.2.2.2.2.2.1.map acOf⟩
theorem repK_act : RepK RAct PAll.k80 acOf := by
  intro F w cs x h
  obtain ⟨c1, d1, rfl, _, ⟨rfl, _⟩, c2, d2, rfl, _, ⟨rfl, _⟩, c3, d3, rfl, _, ⟨rfl, _⟩, c4, d4, rfl, _, ⟨rfl, _⟩, rfl⟩ := h
  exact PAll.k80_mk w (acOf x)
theorem repK_sta : RepK RSta PAll.k54 staOf := by
  intro F w cs x h
  obtain ⟨c1, d1, rfl, _, ⟨rfl, _⟩, c2, d2, rfl, _, ⟨rfl, _⟩, c3, d3, rfl, _, h3, c4, d4, rfl, _, h4, c5, d5, rfl, _, h5, rfl⟩ := h
  obtain ⟨A2, n2, rfl, l2, g2⟩ := repK_slice 3 (repK_int .i64) rfl _ _ _ _ h3
  obtain ⟨A3, n3, rfl, l3, g3⟩ := repK_slice 80 repK_act rfl _ _ _ _ h4
  obtain ⟨A4, n4, rfl, l4, g4⟩ := repK_slice 80 repK_act rfl _ _ _ _ h5
  exact PAll.k54_mk w (staOf x) (c2 := n2) l2 g2 (c3 := n3) l3 g3 (c4 := n4) l4 g4
theorem repK_tra : RepK RTra PAll.k56 traOf := by
  intro F w cs x h
  obtain ⟨c1, d1, rfl, _, ⟨rfl, _⟩, c2, d2, rfl, _, ⟨rfl, _⟩, c3, d3, rfl, _, ⟨rfl, _⟩, c4, d4, rfl, _, h4, c5, d5, rfl, _, rfl, c6, d6, rfl, _, h6, rfl⟩ := h
  obtain ⟨A3, n3, rfl, l3, g3⟩ := repK_slice 3 (repK_int .i64) rfl _ _ _ _ h4
  obtain ⟨A5, n5, rfl, l5, g5⟩ := repK_slice 80 repK_act rfl _ _ _ _ h6
  exact PAll.k56_mk w (traOf x) (c3 := n3) l3 g3 (c5 := n5) l5 g5
theorem chartArg {w : World} {cs : Array Value} {x : Int × List StaT × List TraT × Unit} (h : RChart.ok (fun b => b < w.heap.size) w cs.toList x) :
    ∃ A ca B cb, ∃ st : List Sta, ∃ tr : List Tra, Value.agg cs = ckV x.1 A B st.length tr.length ca cb ∧ ChM w A ca st B cb tr := by
  obtain ⟨c1, d1, he, _, ⟨rfl, _⟩, c2, d2, rfl, _, h2, c3, d3, rfl, _, h3, rfl⟩ := h
  obtain ⟨A, n, rfl, l, g⟩ := repK_slice 54 repK_sta rfl _ _ _ _ h2
  obtain ⟨B, m, rfl, l', g'⟩ := repK_slice 56 repK_tra rfl _ _ _ _ h3
  refine ⟨A, n, B, m, _, _, ?_, ⟨g, l, g', l'⟩⟩
  have : cs = #[.int .i64 x.1, .slice A (x.2.1.map staOf).length n, .slice B (x.2.2.1.map traOf).length m] := by
    apply Array.ext'
    rw [he]; rfl
  rw [this]
end Go.Proofs.YtemoonhnncopoaaGreatDoor
end
section
set_option linter.unusedVariables false
set_option linter.unusedSimpArgs false
namespace Go.Proofs.YtemoonhnncopoaaGreatDoor
open Go.RowKit Go.Proofs.YtemoonhnncopoaaGreatDoorW.PrintWords
open PX (T V)
theorem chk_none {v : Int} {st : List Sta} {tr : List Tra} (h : chkP v st tr = .none) : (0 ≤ v ∧ v ≤ 8 ∧ 1 ≤ st.length ∧ st.length ≤ 24 ∧ tr.length ≤ 40) ∧ (∀ j : Int, 0 ≤ j → j < (st.length : Int) → stateP v st j = 0) ∧ ∀ j : Int, 0 ≤ j → j < (tr.length : Int) → transP v st (PAll.rd_T56 tr j) = 0 := by
  unfold chkP at h
  split at h
  · cases h
  · rename_i hb
    refine ⟨by omega, ?_⟩
    cases h1 : findBad (stateP v st) st.length 0 with
    | some x => rw [h1] at h; cases h
    | none =>
      rw [h1] at h
      simp only at h
      cases h2 : findBad (fun i => transP v st (PAll.rd_T56 tr i)) tr.length 0 with
      | some x => rw [h2] at h; cases h
      | none =>
        have a1 := (findBad_none _ _ _).1 h1
        have a2 := (findBad_none _ _ _).1 h2
        exact ⟨fun j h1 h2 => a1 j h1 (by omega), fun j h1 h2 => a2 j h1 (by omega)⟩
theorem chk_less {v : Int} {st : List Sta} {tr : List Tra} (h : chkP v st tr = .none) (n : Nat) (hn : n ≤ tr.length) : chkP v st (tr.take n) = .none := by
  obtain ⟨h0, h1, h2⟩ := chk_none h
  have hl : (tr.take n).length = n := by rw [List.length_take]; omega
  unfold chkP
  rw [if_neg (by omega)]
  have b1 : findBad (stateP v st) st.length 0 = none := (findBad_none _ _ _).2 (fun j a b => h1 j a (by omega))
  have b2 : findBad (fun i => transP v st (PAll.rd_T56 (tr.take n) i)) (tr.take n).length 0 = none := (findBad_none _ _ _).2 (fun j a b => by
    have e : PAll.rd_T56 (tr.take n) j = PAll.rd_T56 tr j := by
      simp only [PAll.rd_T56, List.getD_eq_getElem?_getD]
      rw [List.getElem?_take_of_lt (by omega)]
    rw [e]
    exact h2 j a (by omega))
  rw [b1]
  simp only
  rw [b2]
theorem in_trans {st : List Sta} {b c : Int} (h2 : inC st b c = true) (n : Nat) : ∀ a : Int, a.toNat ≤ n → inC st a b = true → inC st a c = true := by
  obtain ⟨q1, q2, q3⟩ := inC_lt h2
  induction n with
  | zero => intro a h h1; have := inC_lt h1; omega
  | succ n ih =>
    intro a h h1
    have hlt := inC_lt h1
    rw [inC_eq, if_pos (by omega)] at h1
    rw [inC_eq, if_pos (by omega)]
    split at h1
    · cases h1
    · rename_i p1
      rw [if_neg p1]
      split at h1
      · rename_i p2
        rw [p2, if_neg (by omega)]
        exact h2
      · rename_i p2
        split
        · rfl
        · exact ih _ (by omega) h1
theorem in_first {v : Int} {st : List Sta} (hz : ∀ j : Int, 0 ≤ j → j < (st.length : Int) → stateP v st j = 0) (n : Nat) : ∀ s : Int, 0 < s → s < (st.length : Int) → s.toNat ≤ n → inC st s 0 = true := by
  induction n with
  | zero => intro s h1 h2 h3; omega
  | succ n ih =>
    intro s h1 h2 h3
    obtain ⟨p1, p2⟩ := par_ok h1 (state_par (hz s (by omega) h2)).2
    have hl : (PAll.rd_T54 st s).f1 < s := by
      rcases p2 with p2 | p2
      · omega
      · have := inC_lt p2; omega
    rw [inC_eq, if_pos (by omega), if_neg (by omega)]
    split
    · rfl
    · exact ih _ (by omega) (by omega) (by omega)
theorem in_row {v : Int} {st : List Sta} (hz : ∀ j : Int, 0 ≤ j → j < (st.length : Int) → stateP v st j = 0) (x s : Int) (h1 : s + 1 < x) (h0 : 0 ≤ s) (h : inC st x s = true) : inC st (x - 1) s = true := by
  have hlt := inC_lt h
  obtain ⟨p1, p2⟩ := par_ok (by omega) (state_par (hz x (by omega) hlt.2.2)).2
  rw [inC_eq, if_pos (by omega)] at h
  split at h
  · cases h
  · split at h
    · rename_i e
      rcases p2 with p2 | p2
      · omega
      · rw [e] at p2; exact p2
    · rcases p2 with p2 | p2
      · rw [p2] at h; exact h
      · exact in_trans h (x - 1).toNat (x - 1) (Nat.le_refl _) p2
set_option maxHeartbeats 16000000 in
set_option maxRecDepth 100000 in
theorem ChartLess_walk (w : World) (hw : LaidE w) (cs : Array Value) (x0 : Int × List StaT × List TraT × Unit) (v1 : Value) (n : Int) (h0 : RChart.ok (fun b => b < w.heap.size) w cs.toList x0) (h1 : (Rep.int .i64).ok (fun b => b < w.heap.size) w [v1] n) :
    Calls Tryz.prog 12 #[.agg cs, v1] w fun e w' => e = .returned (.bool true) ∧ Below w.heap.size w w' := by
  obtain ⟨A, ca, B, cb, st, tr, hcs, hM⟩ := chartArg h0
  obtain ⟨h1, _⟩ := h1
  obtain rfl : v1 = .int .i64 n := by simpa using h1
  rw [hcs]
  generalize x0.1 = v at *
  clear h0 hcs h1
  have hb0 : Below w.heap.size w (w.alloc (.cells #[.int .i64 v, .slice A st.length ca, .slice B tr.length cb] 47)) := (Below.refl _ w).alloc (Nat.le_refl _) _
  have HB0 := Lib.hid hb0
  have HWE := Lib.hid (hw.below hb0)
  have HM := Lib.hid (hM.below hb0)
  have HG := Lib.hid (blk_new w (.cells #[.int .i64 v, .slice A st.length ca, .slice B tr.length cb] 47))
  obtain ⟨inf, hinf, hsz⟩ := Option.map_eq_some_iff.1 (show (Tryz.prog.info? 56).map (·.size) = some 6 by kernel_rfl)
  have HW0 := Lib.hid hw.toLaid
  clear hb0 hw
  go_enter Tryz.func12, Tryz.ntmps12
  go_wp2_with fail
  generalize w.alloc (.cells #[.int .i64 v, .slice A st.length ca, .slice B tr.length cb] 47) = w0 at HB0 HWE HM HG ⊢
  have hfin : ∀ wr, Below w0.heap.size w0 wr → Below w.heap.size w wr := fun wr h => HB0.out.trans (h.mono HB0.out.size)
  have HFin := Lib.hid hfin
  clear hfin
  refine (up05 _ HWE.out).mono ?_
  rintro e w1 ⟨rfl, hb1⟩
  have HB1 := Lib.hid hb1
  have hk := (hb1.block _ (lt_of_block HG.out)).trans HG.out
  obtain ⟨y0, y1, y2⟩ : w1.cell? ⟨w.heap.size, 0, none⟩ = some (.int .i64 v) ∧ w1.cell? ⟨w.heap.size, 1, none⟩ = some (.slice A st.length ca) ∧ w1.cell? ⟨w.heap.size, 2, none⟩ = some (.slice B tr.length cb) := ⟨blk_cell hk 0, blk_cell hk 1, blk_cell hk 2⟩
  clear hk hb1
  go_wp2_with fail
  refine (fewc_any (HM.out.below HB1.out) v).mono ?_
  cases hf : fewP st tr with
  | false =>
    rintro e w2 ⟨rfl, hb2⟩
    go_wp2_with fail
    go_ret
    exact ⟨rfl, HFin.out _ (below_then HB1.out HB1.out.size hb2)⟩
  | true =>
    obtain ⟨hfc, hl1, hl2⟩ := few_of hf
    have HFC := Lib.hid hfc
    clear hf hfc
    rintro e w2 ⟨rfl, hb2⟩
    have HB2 := Lib.hid (below_then HB1.out HB1.out.size hb2)
    have hk := (HB2.out.block _ (lt_of_block HG.out)).trans HG.out
    clear y0 y1 y2
    obtain ⟨y0, y1, y2⟩ : w2.cell? ⟨w.heap.size, 0, none⟩ = some (.int .i64 v) ∧ w2.cell? ⟨w.heap.size, 1, none⟩ = some (.slice A st.length ca) ∧ w2.cell? ⟨w.heap.size, 2, none⟩ = some (.slice B tr.length cb) := ⟨blk_cell hk 0, blk_cell hk 1, blk_cell hk 2⟩
    clear hk hb2
    by_cases hbad : n < 0 ∨ (tr.length : Int) < n
    · have hor : decide (n < 0) = true ∨ (decide (n < 0) = false ∧ decide (n > (tr.length : Int)) = true) := by
        by_cases c : n < 0
        · exact .inl (decide_eq_true c)
        · exact .inr ⟨decide_eq_false c, decide_eq_true (by omega)⟩
      clear hbad
      rcases hor with q1 | ⟨q1, q2⟩
      all_goals
        go_wp2_with fail
        go_ret
        exact ⟨rfl, HFin.out _ HB2.out⟩
    have q1 : decide (n < 0) = false := decide_eq_false (by omega)
    have q2 : decide (n > (tr.length : Int)) = false := decide_eq_false (by omega)
    obtain ⟨j, rfl, hj⟩ : ∃ j : Nat, n = (j : Int) ∧ j ≤ tr.length := ⟨n.toNat, by omega, by omega⟩
    have r1 : ((tr.length : Int) < (j : Int)) = False := eq_false (by omega)
    have r2 : ((j : Int) < 0) = False := eq_false (by omega)
    clear hbad
    go_wp2_with fail
    refine (check_any v A B ca cb st tr HFC.out _ (HWE.out.toLaid.below HB2.out) (HM.out.below HB2.out)).mono ?_
    rintro e w3 ⟨ev, rfl, hev, hb3⟩
    have HB3 := Lib.hid (below_then HB2.out HB2.out.size hb3)
    have hk := (HB3.out.block _ (lt_of_block HG.out)).trans HG.out
    have HK := Lib.hid hk
    clear y0 y1 y2
    obtain ⟨y0, y1, y2⟩ : w3.cell? ⟨w.heap.size, 0, none⟩ = some (.int .i64 v) ∧ w3.cell? ⟨w.heap.size, 1, none⟩ = some (.slice A st.length ca) ∧ w3.cell? ⟨w.heap.size, 2, none⟩ = some (.slice B tr.length cb) := ⟨blk_cell hk 0, blk_cell hk 1, blk_cell hk 2⟩
    by_cases he : chkP v st tr = .none
    · obtain rfl := er_nil hev he
      have HL := Lib.hid (chk_less he j hj)
      have hfr : w3.frozen? ⟨w.heap.size, 2, none⟩ = false := blk_free hk 2
      have kto := cut_to (P := Tryz.prog) 45 56 .i64 Tryz.underlying45 hinf B tr.length cb (j : Int) (by omega) (by omega) (hM.tc)
      rw [Int.toNat_natCast] at kto
      have HBs := Lib.hid (HFin.out _ HB3.out)
      have HK2 := Lib.hid (blk_set hk 2 (.slice B j cb))
      have HBf := Lib.hid (HBs.out.setCell (p := ⟨w.heap.size, 2, none⟩) (Nat.le_refl _) (.slice B j cb))
      have HMs : Hid (ChM (w3.setCell ⟨w.heap.size, 2, none⟩ (.slice B j cb)) A ca st B cb (tr.take j)) := Lib.hid (by
        have hm0 := hM.below HBf.out
        have hl : (tr.take j).length = j := by rw [List.length_take]; omega
        exact ⟨hm0.cs, hm0.sc, by have := Kd.C_take hm0.ct hj; rw [← hl] at this; rw [hl] at this; simpa [hl] using this, by rw [hl]; have := hm0.tc; omega⟩)
      have hlt : (tr.take j).length = j := by rw [List.length_take]; omega
      have HWf : Hid (Laid (w3.setCell ⟨w.heap.size, 2, none⟩ (.slice B j cb))) := Lib.hid (HW0.out.below HBf.out)
      clear he hev hk hb3
      go_wp2_with fail
      generalize w3.setCell ⟨w.heap.size, 2, none⟩ (.slice B j cb) = w4 at HK2 HBf HMs HWf ⊢
      clear y0 y1 y2
      obtain ⟨y0, y1, y2⟩ : w4.cell? ⟨w.heap.size, 0, none⟩ = some (.int .i64 v) ∧ w4.cell? ⟨w.heap.size, 1, none⟩ = some (.slice A st.length ca) ∧ w4.cell? ⟨w.heap.size, 2, none⟩ = some (.slice B j cb) := ⟨blk_cell HK2.out 0, blk_cell HK2.out 1, blk_cell HK2.out 2⟩
      go_wp2_with fail
      have hch := check_any v A B ca cb st (tr.take j) ⟨HFC.out.s, fun x hx => HFC.out.t x (List.mem_of_mem_take hx)⟩ _ HWf.out HMs.out
      rw [hlt] at hch
      refine hch.mono ?_
      rw [HL.out]
      rintro e w5 ⟨ev, rfl, hev5, hb5⟩
      obtain rfl : ev = .nilIface := hev5
      go_wp2_with fail
      go_ret
      exact ⟨rfl, below_then HBf.out HBf.out.size hb5⟩
    · rcases er_some hev he with ⟨c, rfl⟩ | ⟨c, rfl⟩
      all_goals
        clear hev he hb3 hk
        go_wp2_with fail
        go_ret
        exact ⟨rfl, HFin.out _ HB3.out⟩
set_option maxHeartbeats 16000000 in
set_option maxRecDepth 100000 in
theorem ChartOrder_walk (w : World) (hw : LaidE w) (cs : Array Value) (x0 : Int × List StaT × List TraT × Unit) (h0 : RChart.ok (fun b => b < w.heap.size) w cs.toList x0) :
    Calls Tryz.prog 11 #[.agg cs] w fun e w' => e = .returned (.bool true) ∧ Below w.heap.size w w' := by
  obtain ⟨A, ca, B, cb, st, tr, hcs, hM⟩ := chartArg h0
  rw [hcs]
  generalize x0.1 = v at *
  clear h0 hcs
  have hb0 : Below w.heap.size w (w.alloc (.cells #[.int .i64 v, .slice A st.length ca, .slice B tr.length cb] 47)) := (Below.refl _ w).alloc (Nat.le_refl _) _
  have HB0 := Lib.hid hb0
  have HWE := Lib.hid (hw.below hb0)
  have HM := Lib.hid (hM.below hb0)
  have HG := Lib.hid (blk_new w (.cells #[.int .i64 v, .slice A st.length ca, .slice B tr.length cb] 47))
  clear hb0 hw hM
  go_enter Tryz.func11, Tryz.ntmps11
  go_wp2_with fail
  generalize w.alloc (.cells #[.int .i64 v, .slice A st.length ca, .slice B tr.length cb] 47) = w0 at HB0 HWE HM HG ⊢
  have hfin : ∀ wr, Below w0.heap.size w0 wr → Below w.heap.size w wr := fun wr h => HB0.out.trans (h.mono HB0.out.size)
  have HFin := Lib.hid hfin
  clear hfin
  refine (up05 _ HWE.out).mono ?_
  rintro e w1 ⟨rfl, hb1⟩
  have HB1 := Lib.hid hb1
  have hk := (hb1.block _ (lt_of_block HG.out)).trans HG.out
  obtain ⟨y0, y1, y2⟩ : w1.cell? ⟨w.heap.size, 0, none⟩ = some (.int .i64 v) ∧ w1.cell? ⟨w.heap.size, 1, none⟩ = some (.slice A st.length ca) ∧ w1.cell? ⟨w.heap.size, 2, none⟩ = some (.slice B tr.length cb) := ⟨blk_cell hk 0, blk_cell hk 1, blk_cell hk 2⟩
  clear hk hb1
  go_wp2_with fail
  refine (fewc_any (HM.out.below HB1.out) v).mono ?_
  cases hf : fewP st tr with
  | false =>
    rintro e w2 ⟨rfl, hb2⟩
    go_wp2_with fail
    go_ret
    exact ⟨rfl, HFin.out _ (below_then HB1.out HB1.out.size hb2)⟩
  | true =>
    obtain ⟨hfc, hl1, hl2⟩ := few_of hf
    have HFC := Lib.hid hfc
    clear hf hfc
    rintro e w2 ⟨rfl, hb2⟩
    have HB2 := Lib.hid (below_then HB1.out HB1.out.size hb2)
    have hk := (HB2.out.block _ (lt_of_block HG.out)).trans HG.out
    clear y0 y1 y2
    obtain ⟨y0, y1, y2⟩ : w2.cell? ⟨w.heap.size, 0, none⟩ = some (.int .i64 v) ∧ w2.cell? ⟨w.heap.size, 1, none⟩ = some (.slice A st.length ca) ∧ w2.cell? ⟨w.heap.size, 2, none⟩ = some (.slice B tr.length cb) := ⟨blk_cell hk 0, blk_cell hk 1, blk_cell hk 2⟩
    clear hk hb2
    go_wp2_with fail
    refine (check_any v A B ca cb st tr HFC.out _ (HWE.out.toLaid.below HB2.out) (HM.out.below HB2.out)).mono ?_
    rintro e w3 ⟨ev, rfl, hev, hb3⟩
    have HB3 := Lib.hid (below_then HB2.out HB2.out.size hb3)
    clear y0 y1 y2 hb3
    by_cases he : chkP v st tr = .none
    · obtain rfl := er_nil hev he
      have HZ := Lib.hid (chk_none he).2.1
      clear he hev
      go_wp2_with fail
      go_loopw [5] (fun i wr => ∃ q : Nat, i = .int .i64 q ∧ q ≤ st.length ∧ Hid (Below w0.heap.size w0 wr)) (fun i _ => st.length - (intOf i).toNat)
      case atStart => exact ⟨0, rfl, Nat.zero_le _, HB3⟩
      case round =>
        clear HB3
        obtain ⟨q, rfl, hq, HB⟩ := hrel
        have hk := (HB.out.block _ (lt_of_block HG.out)).trans HG.out
        obtain ⟨y0, y1, y2⟩ : wr.cell? ⟨w.heap.size, 0, none⟩ = some (.int .i64 v) ∧ wr.cell? ⟨w.heap.size, 1, none⟩ = some (.slice A st.length ca) ∧ wr.cell? ⟨w.heap.size, 2, none⟩ = some (.slice B tr.length cb) := ⟨blk_cell hk 0, blk_cell hk 1, blk_cell hk 2⟩
        clear hk
        by_cases hlt : q < st.length
        · have p1 : ((q : Int) < (st.length : Int)) = True := eq_true (by omega)
          have hfirst : (decide ((0 : Int) ≤ 0) && inC st (q : Int) 0) = decide ((q : Int) > 0) := by
            by_cases z : q = 0
            · subst z; rw [inC_eq, if_neg (by omega)]; rfl
            · rw [in_first HZ.out q (q : Int) (by omega) (by omega) (by omega), decide_eq_true (show (q : Int) > 0 by omega)]; rfl
          have HF1 := Lib.hid hfirst
          clear hfirst
          go_wp2_with fail
          refine (rin_any (HM.out.below HB.out) v (q : Int) 0).mono ?_
          rw [HF1.out]
          rintro e w4 ⟨rfl, hb4⟩
          have HB4 := Lib.hid (below_then HB.out HB.out.size hb4)
          clear hb4 y0 y1 y2
          have hor : (decide ((q : Int) > 0) = true ∧ (0 < q) = True ∧ ((0 : Int) < (q : Int)) = True) ∨ (decide ((q : Int) > 0) = false ∧ (0 < q) = False ∧ ((0 : Int) < (q : Int)) = False) := by
            by_cases z : 0 < q
            · exact .inl ⟨decide_eq_true (by omega), eq_true z, eq_true (by omega)⟩
            · exact .inr ⟨decide_eq_false (by omega), eq_false z, eq_false (by omega)⟩
          rcases hor with ⟨dq, dq1, dq2⟩ | ⟨dq, dq1, dq2⟩
          all_goals
            rw [dq]
            go_wp2_with fail
            go_loopw [7, 8] (fun ov x wr => ∃ (k : Nat) (o : Bool), x = .int .i64 k ∧ q < k ∧ k ≤ st.length ∧ ov = .bool o ∧ Hid (o = (decide (q + 1 < k) && !inC st ((k : Int) - 1) (q : Int))) ∧ Hid (Below w0.heap.size w0 wr)) (fun _ x _ => st.length - (intOf x).toNat)
            case atStart => exact ⟨q + 1, false, by go_num, by omega, by omega, rfl, Lib.hid (by rw [decide_eq_false (by omega)]; rfl), HB4⟩
            case round =>
              clear HB4 HB
              obtain ⟨k, o, rfl, hqk, hk2, rfl, HO, HB5⟩ := hrel
              have hk := (HB5.out.block _ (lt_of_block HG.out)).trans HG.out
              obtain ⟨y0, y1, y2⟩ : wr.cell? ⟨w.heap.size, 0, none⟩ = some (.int .i64 v) ∧ wr.cell? ⟨w.heap.size, 1, none⟩ = some (.slice A st.length ca) ∧ wr.cell? ⟨w.heap.size, 2, none⟩ = some (.slice B tr.length cb) := ⟨blk_cell hk 0, blk_cell hk 1, blk_cell hk 2⟩
              clear hk
              by_cases hlk : k < st.length
              · have p2 : ((k : Int) < (st.length : Int)) = True := eq_true (by omega)
                go_wp2_with fail
                refine (rin_any (HM.out.below HB5.out) v (k : Int) (q : Int)).mono ?_
                rw [decide_eq_true (show (0 : Int) ≤ (q : Int) by omega), Bool.true_and]
                have HN : Hid (inC st (k : Int) (q : Int) = true → o = false) := Lib.hid (fun h => by
                  rw [HO.out]
                  by_cases c : q + 1 < k
                  · rw [in_row HZ.out (k : Int) (q : Int) (by omega) (by omega) h]; simp
                  · rw [decide_eq_false c]; rfl)
                cases hin : inC st (k : Int) (q : Int) with
                | true =>
                  have ho := HN.out hin
                  subst ho
                  have HO2 : Hid (false = (decide (q + 1 < k + 1) && !inC st (((k + 1 : Nat) : Int) - 1) (q : Int))) := Lib.hid (by rw [show ((k + 1 : Nat) : Int) - 1 = (k : Int) by omega, hin]; simp)
                  clear hin
                  rintro e w6 ⟨rfl, hb6⟩
                  have HB6 := Lib.hid (below_then HB5.out HB5.out.size hb6)
                  clear hb6 y0 y1 y2
                  go_wp2_with fail
                  go_roundw
                  case rel => exact ⟨k + 1, false, by go_num, by omega, by omega, rfl, HO2, HB6⟩
                  case measure => simp [intOf]; omega
                | false =>
                  have HO2 : Hid (true = (decide (q + 1 < k + 1) && !inC st (((k + 1 : Nat) : Int) - 1) (q : Int))) := Lib.hid (by rw [show ((k + 1 : Nat) : Int) - 1 = (k : Int) by omega, hin, decide_eq_true (by omega)]; rfl)
                  clear hin HN HO
                  rintro e w6 ⟨rfl, hb6⟩
                  have HB6 := Lib.hid (below_then HB5.out HB5.out.size hb6)
                  clear hb6 y0 y1 y2
                  cases o
                  all_goals
                    go_wp2_with fail
                    go_roundw
                    case rel => exact ⟨k + 1, true, by go_num, by omega, by omega, rfl, HO2, HB6⟩
                    case measure => simp [intOf]; omega
              · obtain rfl : k = st.length := by omega
                have p2 : ((st.length : Int) < (st.length : Int)) = False := eq_false (by omega)
                go_wp2_with fail
                go_roundw
                case rel => exact ⟨q + 1, by go_num, by omega, HB5⟩
                case measure => simp [intOf]; omega
        · obtain rfl : q = st.length := by omega
          have p2 : ((st.length : Int) < (st.length : Int)) = False := eq_false (by omega)
          go_wp2_with fail
          go_ret
          exact ⟨rfl, HFin.out _ HB.out⟩
    · rcases er_some hev he with ⟨c, rfl⟩ | ⟨c, rfl⟩
      all_goals
        clear hev he
        go_wp2_with fail
        go_ret
        exact ⟨rfl, HFin.out _ HB3.out⟩
end Go.Proofs.YtemoonhnncopoaaGreatDoor
end
section
set_option linter.unusedVariables false
set_option linter.unusedSimpArgs false
namespace Go.Proofs.YtemoonhnncopoaaGreatDoor
open Go.ChangeShapes Go.WideShapes Go.RowKit PX Go.Proofs.YtemoonhnncopoaaGreatDoorW.PrintWords
namespace Door
abbrev laid5 : List (String × DataW Unit) := [("math/bits.deBruijn32tab", Rows.laid_math_bits_deBruijn32tab), ("math/bits.deBruijn64tab", Rows.laid_math_bits_deBruijn64tab), ("internal/strconv.uint64pow10", Rows.laid_internal_strconv_uint64pow10), ("strconv.ErrRange", Rows.laid_strconv_ErrRange), ("strconv.ErrSyntax", Rows.laid_strconv_ErrSyntax)]
abbrev laid6 : List (String × DataW Unit) := [("math/bits.deBruijn32tab", Rows.laid_math_bits_deBruijn32tab), ("math/bits.deBruijn64tab", Rows.laid_math_bits_deBruijn64tab), ("internal/strconv.uint64pow10", Rows.laid_internal_strconv_uint64pow10), ("errors.errorType", Rows.laid_errors_errorType), ("strconv.ErrRange", Rows.laid_strconv_ErrRange), ("strconv.ErrSyntax", Rows.laid_strconv_ErrSyntax)]
theorem gRange : Tryz.prog.globalNamed "strconv.ErrRange" = some 3 := by kernel_rfl
theorem gRangeT : (Tryz.prog.globals[3]?).map (·.type) = some 37 := by kernel_rfl
theorem gPow : Tryz.prog.globalNamed "internal/strconv.uint64pow10" = some 4 := by kernel_rfl
theorem gPowT : (Tryz.prog.globals[4]?).map (·.type) = some 261 := by kernel_rfl
theorem powT : Tryz.prog.underlying 261 = some (.array 20 170) := by kernel_rfl
theorem powIs {H : Type} : (Rows.laid_internal_strconv_uint64pow10 : DataW H) = Lib.tabData .u64 Lib.pow10Tab := rfl
theorem laid_of_met5 {W : World} (h : laidMet Tryz.prog laid5 W) : Laid W := by
  obtain ⟨g, t, cs, fuel, p, h1, h2, h3, h4⟩ := Lib.laidMet.reads h (n := "strconv.ErrRange") (d := Rows.laid_strconv_ErrRange) (.tail _ (.tail _ (.tail _ (.head _))))
  obtain rfl := Option.some.inj (gRange.symm.trans h1)
  obtain rfl := Option.some.inj (gRangeT.symm.trans h2)
  obtain ⟨_, u, v, he, _, _⟩ := iface_of_trod Tryz.underlying37 h4
  have hc : cs = #[.iface u v] := Array.eq_one_of_toList he
  subst hc
  obtain ⟨g, t, cs, fuel, p, k1, k2, k3, k4⟩ := Lib.laidMet.reads h (n := "internal/strconv.uint64pow10") (d := Rows.laid_internal_strconv_uint64pow10) (.tail _ (.tail _ (.head _)))
  obtain rfl := Option.some.inj (gPow.symm.trans k1)
  obtain rfl := Option.some.inj (gPowT.symm.trans k2)
  refine ⟨⟨u, v, h3⟩, ?_⟩
  unfold Lib.TabIs
  rw [powIs] at k4
  rw [k3, ← Lib.cells_of_tab powT (by kernel_rfl) (by kernel_rfl) (by kernel_rfl) k4]
theorem gTyp : Tryz.prog.globalNamed "errors.errorType" = some 0 := by kernel_rfl
theorem rtyp : (Tryz.prog.cutTypes.find? (·.1 == "internal/reflectlite.rtype")).map (·.2) = some 213 := by kernel_rfl
theorem oneRow : ((List.range 292).filter fun t => Tryz.prog.rowNamed t [101, 114, 114, 111, 114]) = [37] := by kernel_rfl
theorem ntyp : Tryz.prog.types.size = 292 := by kernel_rfl
theorem laid_of6 {W : World} (h : laidMetH Tryz.prog laid6 W) : LaidE W := by
  obtain ⟨h1, h2⟩ := laidMetH_iff.1 h
  refine ⟨laid_of_met5 h1, ?_⟩
  obtain ⟨name, u, ty, e1, e2, e3, e4, e5⟩ := h2 ("errors.errorType", Rows.laid_errors_errorType) (List.mem_filter.2 ⟨.tail _ (.tail _ (.tail _ (.head _))), rfl⟩)
  have en : name = [101, 114, 114, 111, 114] := (Option.some.inj e1).symm
  subst en
  obtain rfl := Option.some.inj (rtyp.symm.trans e2)
  have hm : ty ∈ (List.range 292).filter fun t => Tryz.prog.rowNamed t [101, 114, 114, 111, 114] := List.mem_filter.2 ⟨List.mem_range.2 (by rw [← ntyp]; exact e3), e4⟩
  rw [oneRow] at hm
  obtain rfl := List.mem_singleton.1 hm
  have hh : typeHandle Tryz.prog 37 = .pointer (some ⟨6, 37, none⟩) := by kernel_rfl
  rw [hh] at e5
  simpa using World.var?_cell gTyp e5 0
def cellsOfData : DataW Unit → Array Value
  | .agg l => (l.map fun | .lit (.int k z) => Value.int k z | _ => .nilIface).toArray
  | _ => #[]
noncomputable def laidWorld (os : Os) : World :=
  let N := (World.holding Tryz.prog os ⟨#[], #[], []⟩).heap.size
  let w0 := World.holding Tryz.prog os ⟨#[.cells #[.string ⟨#[118, 97, 108, 117, 101, 32, 111, 117, 116, 32, 111, 102, 32, 114, 97, 110, 103, 101]⟩] 253, .cells #[.string ⟨#[105, 110, 118, 97, 108, 105, 100, 32, 115, 121, 110, 116, 97, 120]⟩] 253], #[], []⟩
  let put (h : Array Obj) (g : Nat) (cs : Array Value) : Array Obj := h.modify g fun
    | .cells _ t frozen => .cells cs t frozen
    | o => o
  { w0 with heap := put (put (put (put (put (put w0.heap
      1 (cellsOfData Rows.laid_math_bits_deBruijn32tab)) 5 (cellsOfData Rows.laid_math_bits_deBruijn64tab)) 4 (cellsOfData Rows.laid_internal_strconv_uint64pow10))
      0 #[.iface 213 (.agg #[.pointer (some ⟨6, 37, none⟩)])]) 3 #[.iface 251 (.pointer (some ⟨N, 0, none⟩))]) 2 #[.iface 251 (.pointer (some ⟨N + 1, 0, none⟩))] }
theorem met5 (os : Os) (args : Array Value) : laidMet Tryz.prog laid5 ((laidWorld os).forCall (fun _ _ => 0) ⟨#[], args, []⟩).memory :=
  laidMet_of_run3 10 (by kernel_rfl) (by kernel_rfl) (by kernel_rfl)
theorem met6H (os : Os) (args : Array Value) : laidMetH Tryz.prog laid6 ((laidWorld os).forCall (fun _ _ => 0) ⟨#[], args, []⟩).memory :=
  laidMetH_of_parts (met5 os args) (by kernel_rfl)
end Door
end Go.Proofs.YtemoonhnncopoaaGreatDoor
end
section
set_option linter.unusedVariables false
set_option linter.unusedSimpArgs false
namespace Go.Proofs.YtemoonhnncopoaaGreatDoor
open Go.RowKit Go.Proofs.YtemoonhnncopoaaGreatDoorW.PrintWords
open PX (T V)
open Go.Proofs.YtemoonhnncopoaaGreatDoorW.PrintLast
theorem ints_l0 (l : List Int) (hl : l.length ≤ 1000000) (d : Nat) : ∀ a : Nat, a ≤ l.length → l.length - a = d → Ev (fun k => PAll.spinetref05_Ints.l0 k l l a) true := by
  induction d with
  | zero =>
    intro a ha hd
    obtain rfl : a = l.length := by omega
    refine Ev.step (fun k => rfl) ?_
    simp only [PAll.spinetref05_Ints.l0]
    exact ev_neg (by omega) (Ev.now _)
  | succ d ih =>
    intro a ha hd
    refine Ev.step (fun k => rfl) ?_
    simp only [PAll.spinetref05_Ints.l0]
    refine ev_pos (by omega) (ev_pos (by omega) (ev_pos (by omega) (ev_pos (by first | rfl | trivial) ?_)))
    rw [w64 (by omega) (by omega)]
    exact ih (a + 1) (by omega) (by omega)
theorem ints_f (l : List Int) (hl : l.length ≤ 1000000) : ∃ k, PAll.spinetref05_Ints.f k l l = some true := by
  have h := ints_l0 l hl l.length 0 (by omega) (by omega)
  have : Ev (fun k => PAll.spinetref05_Ints.f k l l) true := by
    unfold PAll.spinetref05_Ints.f
    exact ev_pos rfl h
  exact Ev.rounds this
theorem ints_any (A B : Option Addr) (c d : Nat) (l : List Int) (hl : l.length ≤ 1000000) (w : World) (h1 : Kd.C (Kd.int .i64) w A l.length l) (hc : l.length ≤ c) (h2 : Kd.C (Kd.int .i64) w B l.length l) (hd : l.length ≤ d) :
    Calls Tryz.prog 19 #[.slice A l.length c, .slice B l.length d] w fun e w' => e = .returned (.bool true) ∧ Below w.heap.size w w' := by
  obtain ⟨k, h⟩ := ints_f l hl
  refine (PAll.spinetref05_Ints.calls k A c l B d l true w h1 hc h2 hd h).mono ?_
  rintro e w' ⟨rfl, hw⟩
  exact ⟨rfl, hw.below⟩
theorem kidsF_len (s : Int) (l : List Sta) : ∀ i : Int, (kidsF s l i).length ≤ l.length := by
  induction l with
  | nil => intro i; simp [kidsF]
  | cons x l ih => intro i; simp only [kidsF]; have := ih (i + 1); split <;> simp <;> omega
theorem kids_len (st : List Sta) (s : Int) : (kidsP st s).length ≤ st.length := kidsF_len s st 0
set_option maxHeartbeats 16000000 in
set_option maxRecDepth 100000 in
theorem ChartKids_walk (w : World) (hw : LaidE w) (cs : Array Value) (x0 : Int × List StaT × List TraT × Unit) (v1 : Value) (n : Int) (h0 : RChart.ok (fun b => b < w.heap.size) w cs.toList x0) (h1 : (Rep.int .i64).ok (fun b => b < w.heap.size) w [v1] n) :
    Calls Tryz.prog 10 #[.agg cs, v1] w fun e w' => e = .returned (.bool true) ∧ Below w.heap.size w w' := by
  obtain ⟨A, ca, B, cb, st, tr, hcs, hM⟩ := chartArg h0
  obtain ⟨h1, _⟩ := h1
  obtain rfl : v1 = .int .i64 n := by simpa using h1
  rw [hcs]
  generalize x0.1 = v at *
  clear h0 hcs h1
  have hb0 : Below w.heap.size w (w.alloc (.cells #[.int .i64 v, .slice A st.length ca, .slice B tr.length cb] 47)) := (Below.refl _ w).alloc (Nat.le_refl _) _
  have HB0 := Lib.hid hb0
  have HWE := Lib.hid (hw.below hb0)
  have HM := Lib.hid (hM.below hb0)
  have HG := Lib.hid (blk_new w (.cells #[.int .i64 v, .slice A st.length ca, .slice B tr.length cb] 47))
  clear hb0 hw hM
  go_enter Tryz.func10, Tryz.ntmps10
  go_wp2_with fail
  generalize w.alloc (.cells #[.int .i64 v, .slice A st.length ca, .slice B tr.length cb] 47) = w0 at HB0 HWE HM HG ⊢
  have hfin : ∀ wr, Below w0.heap.size w0 wr → Below w.heap.size w wr := fun wr h => HB0.out.trans (h.mono HB0.out.size)
  have HFin := Lib.hid hfin
  clear hfin
  refine (up05 _ HWE.out).mono ?_
  rintro e w1 ⟨rfl, hb1⟩
  have HB1 := Lib.hid hb1
  have hk := (hb1.block _ (lt_of_block HG.out)).trans HG.out
  obtain ⟨y0, y1, y2⟩ : w1.cell? ⟨w.heap.size, 0, none⟩ = some (.int .i64 v) ∧ w1.cell? ⟨w.heap.size, 1, none⟩ = some (.slice A st.length ca) ∧ w1.cell? ⟨w.heap.size, 2, none⟩ = some (.slice B tr.length cb) := ⟨blk_cell hk 0, blk_cell hk 1, blk_cell hk 2⟩
  clear hk hb1
  go_wp2_with fail
  refine (fewc_any (HM.out.below HB1.out) v).mono ?_
  cases hf : fewP st tr with
  | false =>
    rintro e w2 ⟨rfl, hb2⟩
    go_wp2_with fail
    go_ret
    exact ⟨rfl, HFin.out _ (below_then HB1.out HB1.out.size hb2)⟩
  | true =>
    obtain ⟨hfc, hl1, hl2⟩ := few_of hf
    clear hf hfc
    rintro e w2 ⟨rfl, hb2⟩
    have HB2 := Lib.hid (below_then HB1.out HB1.out.size hb2)
    have hk := (HB2.out.block _ (lt_of_block HG.out)).trans HG.out
    have HK2 := Lib.hid hk
    clear y0 y1 y2
    obtain ⟨y0, y1, y2⟩ : w2.cell? ⟨w.heap.size, 0, none⟩ = some (.int .i64 v) ∧ w2.cell? ⟨w.heap.size, 1, none⟩ = some (.slice A st.length ca) ∧ w2.cell? ⟨w.heap.size, 2, none⟩ = some (.slice B tr.length cb) := ⟨blk_cell hk 0, blk_cell hk 1, blk_cell hk 2⟩
    clear hk hb2
    go_wp2_with fail
    have hkl : (kidsP st n).length ≤ 1000000 := by have := kids_len st n; omega
    have HKID : Hid (∀ W, Below w0.heap.size w0 W → Calls Tryz.prog 43 #[ckV v A B st.length tr.length ca cb, .int .i64 n] W fun e w' => ∃ u : Value, e = .returned u ∧ Kd.R (Kd.int .i64) 3 w' W.heap.size (fun _ => True) u (kidsP st n) ∧ Below W.heap.size W w') := Lib.hid (fun W h => kids_any (HM.out.below h) v n (by omega))
    have HRKD : Hid (∀ W, Below w0.heap.size w0 W → Calls Tryz.prog 44 #[ckV v A B st.length tr.length ca cb, .int .i64 n] W fun e w' => ∃ u : Value, e = .returned u ∧ Kd.R (Kd.int .i64) 3 w' W.heap.size (fun _ => True) u (kidsP st n) ∧ Below W.heap.size W w') := Lib.hid (fun W h => rkids_any (HM.out.below h) v n (by omega))
    have HTH : Hid (∀ W W', Below w0.heap.size w0 W → Below W.heap.size W W' → Below w0.heap.size w0 W') := Lib.hid (fun W W' h k => below_then h h.size k)
    generalize kidsP st n = ks at HKID HRKD hkl
    have HB3 := Lib.hid (below_drew HB2.out)
    have HB3 := Lib.hid (below_drew HB2.out)
    have HB3 := Lib.hid (below_drew HB2.out)
    refine start_ (n := 11) (S := fun w' => w'.cell? ⟨w.heap.size, 0, none⟩ = some (.int .i64 v) ∧ w'.cell? ⟨w.heap.size, 1, none⟩ = some (.slice A st.length ca) ∧ w'.cell? ⟨w.heap.size, 2, none⟩ = some (.slice B tr.length cb)) (ds := [7, 8]) #[false, false, false, false, false, false, false, false, false, false, false] (by kernel_rfl) rfl rfl ⟨y0, y1, y2⟩ (fun hHeld => ?_)
    refine pure_ (i := 0) (N := some 13) (v := ?_) (a' := ?_) #[true, false, false, false, false, false, false, false, false, false, false] rfl rfl (by kernel_rfl) (fun _ _ _ h => h) (Or.inl ⟨by rfl, ?_⟩) ?_ ?_
    rotate_left
    · intro w'
      go_simp
      with_reducible rfl
    rotate_left
    · simp only [Act.put, List.setIfInBounds_toArray, List.set_cons_zero, List.set_cons_succ, i64_w, i32_w]
      rfl
    refine pure_ (i := 1) (N := some 14) (v := ?_) (a' := ?_) #[true, true, false, false, false, false, false, false, false, false, false] rfl rfl (by kernel_rfl) (fun _ _ _ h => h) (Or.inl ⟨by rfl, ?_⟩) ?_ ?_
    rotate_left
    · intro w'
      go_simp
      with_reducible rfl
    rotate_left
    · simp only [Act.put, List.setIfInBounds_toArray, List.set_cons_zero, List.set_cons_succ, i64_w, i32_w]
      rfl
    refine take_ (i := 2) (N := some 15) (v := ?_) (a' := ?_) #[true, true, true, false, false, false, false, false, false, false, false] rfl rfl (by kernel_rfl) (fun _ _ _ h => h) (Or.inl ⟨by rfl, ?_⟩) hHeld ?_ ?_
    rotate_left
    · rintro w' ⟨s0, s1, s2⟩
      go_simp
      with_reducible rfl
    rotate_left
    · simp only [Act.put, List.setIfInBounds_toArray, List.set_cons_zero, List.set_cons_succ, i64_w, i32_w]
      rfl
    refine pure_ (i := 3) (N := some 16) (v := ?_) (a' := ?_) #[true, true, true, true, false, false, false, false, false, false, false] rfl rfl (by kernel_rfl) (fun _ _ _ h => h) (Or.inl ⟨by rfl, ?_⟩) ?_ ?_
    rotate_left
    · intro w'
      go_simp
      with_reducible rfl
    rotate_left
    · simp only [Act.put, List.setIfInBounds_toArray, List.set_cons_zero, List.set_cons_succ, i64_w, i32_w]
      rfl
    refine take_ (i := 5) (N := some 18) (v := ?_) (a' := ?_) #[true, true, true, true, false, true, false, false, false, false, false] rfl rfl (by kernel_rfl) (fun _ _ _ h => h) (Or.inl ⟨by rfl, ?_⟩) hHeld ?_ ?_
    rotate_left
    · rintro w' ⟨s0, s1, s2⟩
      go_simp
      with_reducible rfl
    rotate_left
    · simp only [Act.put, List.setIfInBounds_toArray, List.set_cons_zero, List.set_cons_succ, i64_w, i32_w]
      rfl
    refine pure_ (i := 6) (N := some 19) (v := ?_) (a' := ?_) #[true, true, true, true, false, true, true, false, false, false, false] rfl rfl (by kernel_rfl) (fun _ _ _ h => h) (Or.inl ⟨by rfl, ?_⟩) ?_ ?_
    rotate_left
    · intro w'
      go_simp
      with_reducible rfl
    rotate_left
    · simp only [Act.put, List.setIfInBounds_toArray, List.set_cons_zero, List.set_cons_succ, i64_w, i32_w]
      rfl
    refine one_ (i := 4) (N := some 17) #[true, true, true, true, true, true, true, false, false, false, false] rfl rfl (by kernel_rfl) (by decide) (fun K hK => ?_)
    refine goes_ Tryz.func43 (by kernel_rfl) rfl #[ckV v A B st.length tr.length ca cb, .int .i64 n] (by rfl) rfl rfl (by first | rfl | (go_simp; done) | (go_simp; exact ⟨rfl, rfl⟩) | (go_simp; rfl)) ?_
    refine (HKID.out _ HB3.out).mono ?_
    rintro e3 w3 ⟨u, rfl, hu, hb⟩
    have hk := ((HTH.out _ _ HB3.out hb).block _ (lt_of_block HG.out)).trans HG.out
    refine ⟨_, rfl, hK.out _ _ ⟨blk_cell hk 0, blk_cell hk 1, blk_cell hk 2⟩ (fun _ => ?_)⟩
    clear hK K hk
    obtain ⟨P, Pc, rfl, hcP, hC⟩ := Kd.R_reads hu
    have HP := Lib.hid hC
    have HB4 := Lib.hid (HTH.out _ _ HB3.out hb)
    clear hu hb hC
    refine last_ (i := 7) (N := some 20) #[true, true, true, true, true, true, true, true, false, false, false] rfl rfl (by kernel_rfl) (by decide) (fun K hK => ?_)
    refine goes_ Tryz.func44 (by kernel_rfl) rfl #[ckV v A B st.length tr.length ca cb, .int .i64 n] (by rfl) rfl rfl (by first | rfl | (go_simp; done) | (go_simp; exact ⟨rfl, rfl⟩) | (go_simp; rfl)) ?_
    refine (HRKD.out _ HB4.out).mono ?_
    rintro e4 w4 ⟨u, rfl, hu, hb⟩
    refine ⟨_, rfl, hK.out _ _ ?_⟩
    clear hK K
    obtain ⟨Q, Qc, rfl, hcQ, hC⟩ := Kd.R_reads hu
    have HQ := Lib.hid hC
    have HP2 := Lib.hid (Kd.C_below HP.out hb)
    have HB5 := Lib.hid (HTH.out _ _ HB4.out hb)
    clear hu hb hC
    refine last_ (i := 8) (N := some 21) #[true, true, true, true, true, true, true, true, true, false, false] rfl rfl (by kernel_rfl) (by decide) (fun K hK => ?_)
    refine goes_ Tryz.func19 (by kernel_rfl) rfl #[.slice P ks.length Pc, .slice Q ks.length Qc] (by rfl) rfl rfl (by first | rfl | (go_simp; done) | (go_simp; exact ⟨rfl, rfl⟩) | (go_simp; rfl)) ?_
    refine (ints_any P Q Pc Qc ks hkl _ HP2.out hcP HQ.out hcQ).mono ?_
    rintro e5 w5 ⟨rfl, hb⟩
    refine ⟨_, rfl, hK.out _ _ ?_⟩
    clear hK K
    have HB6 := Lib.hid (HTH.out _ _ HB5.out hb)
    clear hb
    refine pure_ (i := 9) (N := some 22) (v := ?_) (a' := ?_) #[true, true, true, true, true, true, true, true, true, true, false] rfl rfl (by kernel_rfl) (fun _ _ _ h => h) (Or.inl ⟨by rfl, ?_⟩) ?_ ?_
    rotate_left
    · intro w'
      go_simp
      with_reducible rfl
    rotate_left
    · simp only [Act.put, List.setIfInBounds_toArray, List.set_cons_zero, List.set_cons_succ, i64_w, i32_w]
      rfl
    refine pure_ (i := 10) (N := some 4) (v := ?_) (a' := ?_) #[true, true, true, true, true, true, true, true, true, true, true] rfl rfl (by kernel_rfl) (fun _ _ _ h => h) (Or.inl ⟨by rfl, ?_⟩) ?_ ?_
    rotate_left
    · intro w'
      go_simp
      with_reducible rfl
    rotate_left
    · simp only [Act.put, List.setIfInBounds_toArray, List.set_cons_zero, List.set_cons_succ, i64_w, i32_w]
      rfl
    refine done_ (by kernel_rfl) ?_
    go_wp2_with fail
    go_ret
    exact ⟨rfl, HFin.out _ HB6.out⟩
end Go.Proofs.YtemoonhnncopoaaGreatDoor
end
