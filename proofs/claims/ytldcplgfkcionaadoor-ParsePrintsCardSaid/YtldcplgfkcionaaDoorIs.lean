/- errors.Is at a Spot, and what the statements ask of errors. -/
import Derived.Test.YtldcplgfkcionaaDoorAs
import Derived.Test.YtldcplgfkcionaaDoorErr
namespace Go.Proofs.YtldcplgfkcionaaDoor
open Go.RowKit Go.Extern.Stop Go.Stop Go.Extern
theorem is_typeOf (v : Value) (w : World) : (ReflectliteType.typeOf #[.iface 28 v]).run Tryd.prog w = .ok (.iface 160 (.agg #[.pointer (some ⟨7, 28, none⟩)])) w := by kernel_rfl
theorem is_methodComparable (h : Value) (w : World) : (Go.method 342 160 (.agg #[h]) "Comparable").run Tryd.prog w = .ok (172, .agg #[h]) w := by kernel_rfl
theorem is_comparable (w : World) : (ReflectliteType.method (fun t => do Rtype.noPackHeld "Comparable" t; (fun a : TypeInfo => Value.bool a.comparable) <$> typeInfo t) #[.agg #[.pointer (some ⟨7, 28, none⟩)]]).run Tryd.prog w = .ok (.bool true) w := by kernel_rfl
theorem is_types (p v : Value) (w : World) : (binOp .eql 25 (.iface 74 p) (.iface 28 v)).run Tryd.prog w = .ok (.bool false) w :=
  run_eql_iface_types _ _ _ _ Tryd.underlying25 (by decide) w
theorem is_noIs (v : Value) (xT : TypeId) (w : World) : (Instr.typeAssert (.iface 74 v) xT 172 true).run Tryd.prog w = .ok (.tuple #[.nilIface, .bool false]) w :=
  run_typeAssert_lacksB Tryd.underlying172 (by kernel_rfl) (by kernel_rfl) v xT w
theorem is_unwraps (v : Value) (xT : TypeId) (w : World) : (Instr.typeAssert (.iface 74 v) xT 167 true).run Tryd.prog w = .ok (.tuple #[.iface 74 v, .bool true]) w :=
  run_typeAssert_hasB Tryd.underlying167 (by kernel_rfl) v xT w
theorem unwrap_any (g : Nat) (a c : Int) (w : World) (h : w.heap[g]? = some (.cells #[.int .i64 a, .int .i64 c] 76 (0, 0))) :
    Calls Tryd.prog 165 #[.pointer (some ⟨g, 0, none⟩)] w fun e w' => e = .returned (.iface 28 (.int .i64 c)) ∧ w = w' := by
  have c1 := blk_cell h 1
  clear h
  go_enter Tryd.func165, Tryd.ntmps165
  go_wp2
  go_ret
  exact ⟨rfl, rfl⟩
theorem is_nilAhead (a : Addr) (w : World) : (nilAhead 342 74 (.pointer (some a)) "Unwrap").run Tryd.prog w = .ok (some false) w := by kernel_rfl
theorem is_methodUnwrap (a : Addr) (w : World) : (Go.method 342 74 (.pointer (some a)) "Unwrap").run Tryd.prog w = .ok (165, .pointer (some a)) w := by kernel_rfl
set_option maxHeartbeats 4000000 in
set_option maxRecDepth 100000 in
theorem is_inner (g : Nat) (a c : Int) (w : World) (h : w.heap[g]? = some (.cells #[.int .i64 a, .int .i64 c] 76 (0, 0))) :
    Calls Tryd.prog 74 #[.iface 74 (.pointer (some ⟨g, 0, none⟩)), .iface 28 (.int .i64 c), .bool true] w fun e w' => e = .returned (.bool true) ∧ w = w' := by
  have H := Lib.hid h
  clear h
  have k1 := is_types
  have k2 := is_noIs
  have k3 := is_unwraps
  have k4 := is_nilAhead
  have k5 := is_methodUnwrap
  have k6 := eqErr
  go_enter Tryd.func74, Tryd.ntmps74
  go_wp2_with fail
  refine wp_loop_rounds 2 ?_
  rw [rounds_succ]
  go_wp2_with fail
  refine (unwrap_any g a c _ H.out).mono ?_
  rintro e w1 ⟨rfl, rfl⟩
  go_wp2_with fail
  try rw [rounds_succ]
  go_wp2_with fail
  go_ret
  exact ⟨rfl, rfl⟩
set_option maxHeartbeats 4000000 in
set_option maxRecDepth 100000 in
theorem is_hit (g : Nat) (a c : Int) (w : World) (h : w.heap[g]? = some (.cells #[.int .i64 a, .int .i64 c] 76 (0, 0))) :
    Calls Tryd.prog 45 #[.iface 74 (.pointer (some ⟨g, 0, none⟩)), .iface 28 (.int .i64 c)] w fun e w' => e = .returned (.bool true) ∧ w = w' := by
  have H := Lib.hid h
  clear h
  have k1 := is_types
  have k2 := is_typeOf
  have k3 := is_methodComparable
  have k4 := is_comparable
  have h10 := @run_callFunc_extern Tryd.prog 73 _ ReflectliteType.typeOf Tryd.func73 (by kernel_rfl) (by kernel_rfl) (by kernel_rfl) (by kernel_rfl)
  have h72 := @run_callFunc_extern Tryd.prog 172 _ (ReflectliteType.method (fun t => do Rtype.noPackHeld "Comparable" t; pure (.bool (← typeInfo t).comparable))) Tryd.func172 (by kernel_rfl) (by kernel_rfl) (by kernel_rfl) (by kernel_rfl)
  go_enter Tryd.func45, Tryd.ntmps45
  go_wp2_with fail
  refine (is_inner g a c _ H.out).mono ?_
  rintro e w1 ⟨rfl, rfl⟩
  go_wp2_with fail
  go_ret
  exact ⟨rfl, rfl⟩
theorem run_neq_iface_ptr_same {P : Program} {w : World} {ti tp te : TypeId} {ms : Array (String × TypeId)} {i j : TypeInfo} (a : Addr)
    (hi : P.underlying ti = some (.interface ms)) (hp : P.underlying tp = some (.pointer te)) (hinfo : P.info? tp = some i) (hcomp : i.comparable = true) (hte : P.info? te = some j) :
    (binOp .neq ti (.iface tp (.pointer (some a))) (.iface tp (.pointer (some a)))).run P w = .ok (.bool false) w := by
  simp only [binOp]
  simp [Op.equal, Op.maxDepth, run_equalIn_iface_ptr_same w 9998 a hi hp hinfo hcomp hte]
theorem spot_info : (Tryd.prog.info? 74).map (·.comparable) = some true := by kernel_rfl
theorem spot_info2 : (Tryd.prog.info? 76).isSome = true := by kernel_rfl
theorem spot_eq (p : Addr) (w : World) : (binOp .neq 25 (.iface 74 (.pointer (some p))) (.iface 74 (.pointer (some p)))).run Tryd.prog w = .ok (.bool false) w := by
  obtain ⟨i, h, hc⟩ := Option.map_eq_some_iff.1 spot_info
  obtain ⟨j, h2⟩ := Option.isSome_iff_exists.1 spot_info2
  exact run_neq_iface_ptr_same p Tryd.underlying25 Tryd.underlying74 h hc h2
theorem as_spot (e : Addr) (w : World) (hg : w.cell? ⟨0, 0, none⟩ = some (.iface 160 (.agg #[.pointer (some ⟨7, 25, none⟩)]))) :
    Calls Tryd.prog 44 #[.iface 74 (.pointer (some e)), .iface 81 (.pointer (some ⟨w.heap.size, 0, none⟩))] (w.alloc (.cells #[.pointer none] 74)) fun ev w' =>
      ev = .returned (.bool true) ∧ w'.cell? ⟨w.heap.size, 0, none⟩ = some (.pointer (some e)) ∧ Below w.heap.size w w' := by
  have h0 := blk_new w (.cells #[.pointer none] 74)
  have hlt := World.block_lt_of_cell? w _ hg
  refine (as_hit e ⟨w.heap.size, 0, none⟩ (.pointer none) (w.alloc (.cells #[.pointer none] 74)) ?_ (blk_cell h0 0) (blk_free h0 0)).mono ?_
  · rw [World.cell?_alloc_lt _ _ _ hlt]; exact hg
  · rintro ev w' ⟨rfl, rfl⟩
    refine ⟨rfl, ?_, ?_⟩
    · have hb := blk_alloc (.cells #[.pointer (some e)] 74) (blk_alloc (.cells #[.pointer (some ⟨7, 81, none⟩), .pointer (some ⟨(w.alloc (.cells #[.pointer none] 74)).heap.size, 0, none⟩), .int .u64 150] 125) (blk_alloc (.cells #[.pointer (some ⟨7, 81, none⟩), .pointer (some ⟨(w.alloc (.cells #[.pointer none] 74)).heap.size, 0, none⟩), .int .u64 150] 125) (blk_alloc (.cells #[.pointer (some ⟨w.heap.size, 0, none⟩)] 81) h0)))
      have := blk_set hb 0 (.pointer (some e))
      rw [blk_cell this 0]
      rfl
    · refine Below.setCell ?_ (show w.heap.size ≤ (⟨w.heap.size, 0, none⟩ : Addr).block from Nat.le_refl _) _
      refine Below.alloc (Below.alloc (Below.alloc (Below.alloc (Below.alloc (Below.refl _ _) (Nat.le_refl _) _) ?_ _) ?_ _) ?_ _) ?_ _ <;> simp <;> omega
set_option maxHeartbeats 4000000 in
set_option maxRecDepth 100000 in
/-- Is: of a Spot with just this place and this number. -/
theorem lawIs_hit (g : Nat) (a c : Int) (w : World) (h : w.heap[g]? = some (.cells #[.int .i64 a, .int .i64 c] 76 (0, 0)))
    (hg : w.cell? ⟨0, 0, none⟩ = some (.iface 160 (.agg #[.pointer (some ⟨7, 25, none⟩)]))) :
    Calls Tryd.prog 16 #[.iface 74 (.pointer (some ⟨g, 0, none⟩)), .int .i64 a, .int .i64 c] w fun e w' => e = .returned (.bool true) ∧ Below w.heap.size w w' := by
  have H := Lib.hid h
  have HG := Lib.hid hg
  clear h hg
  have k1 := spot_eq
  go_enter Tryd.func16, Tryd.ntmps16
  go_wp2_with fail
  refine (as_spot ⟨g, 0, none⟩ w HG.out).mono ?_
  rintro ev w2 ⟨rfl, hc, hb⟩
  have hg2 := (hb.block g (lt_of_block H.out)).trans H.out
  have HG2 := Lib.hid hg2
  have d0 := blk_cell hg2 0
  have d1 := blk_cell hg2 1
  clear hg2
  go_wp2_with fail
  refine (is_hit g a c _ HG2.out).mono ?_
  rintro ev w3 ⟨rfl, rfl⟩
  go_wp2_with fail
  go_ret
  exact ⟨rfl, hb⟩
end Go.Proofs.YtldcplgfkcionaaDoor
