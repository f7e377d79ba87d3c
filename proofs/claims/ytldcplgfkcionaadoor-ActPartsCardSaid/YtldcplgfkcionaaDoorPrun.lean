/- What the parser's levels do. -/
import Derived.Test.YtldcplgfkcionaaDoorPread
set_option linter.unusedVariables false
set_option linter.unusedSimpArgs false
namespace Go.Proofs.YtldcplgfkcionaaDoor
open Go.RowKit PX Go.Proofs.YtldcplgfkcionaaDoorW.PrintWords
/-- A function on a reader reads what binds at least so strongly, where what is left is less than N. -/
def ReadsP (f : FuncId) (l : List T) (lv N : Nat) : Prop :=
  ∀ (g : Nat) (A : Option Addr) (cap B : Nat) (w : World) (s : St) (v : Value) (s' : St), RdrP g A cap l B w s v → s.at_ ≤ l.length → s.out.length ≤ s.at_ → (l.length - s.at_) * 8 + (7 - lv) < N → Pr l false lv s s' →
    Calls Tryd.prog f #[.pointer (some ⟨g, 0, none⟩)] w fun e w' => (∃ u, e = .returned u) ∧ ∃ v', RdrP g A cap l B w' s' v' ∧ ChgR g v w w' ∧ Own w v v'
theorem own_ne_of {w : World} {v v' : Value} {k : Nat} (h : Own w v v') (hk : k < w.heap.size) (hv : some k ≠ v.ownBlock) : some k ≠ v'.ownBlock := by
  rcases h with h | ⟨b, h, hb⟩
  · rw [h]; exact hv
  · rw [h]; intro e; injection e with e; omega
theorem run_and (args : Array Value) (w : World) : (callFunc 79 args).run Tryd.prog w = .ok (.enter 79 args) w := by
  simp [callFunc, Tryd.func79]
  rfl
theorem run_not (args : Array Value) (w : World) : (callFunc 103 args).run Tryd.prog w = .ok (.enter 103 args) w := by
  simp [callFunc, Tryd.func103]
  rfl
theorem run_product (args : Array Value) (w : World) : (callFunc 141 args).run Tryd.prog w = .ok (.enter 141 args) w := by
  simp [callFunc, Tryd.func141]
  rfl
theorem run_signed (args : Array Value) (w : World) : (callFunc 145 args).run Tryd.prog w = .ok (.enter 145 args) w := by
  simp [callFunc, Tryd.func145]
  rfl
set_option maxHeartbeats 8000000 in
set_option maxRecDepth 100000 in
theorem row_any (f : FuncId) (hrun : ∀ (args : Array Value) (w : World), (callFunc f args).run Tryd.prog w = .ok (.enter f args) w) (l : List T) (hl : l.length ≤ 100000) (lv N : Nat) (hv : lv = 1 ∨ lv = 2 ∨ lv = 4 ∨ lv = 5) (hone : ReadsP f l (lv + 1) N) (K : List Int) (hK : ∀ x, x ∈ K ↔ level x = lv) (hKl : K.length ≤ 100)
    (g : Nat) (A : Option Addr) (cap B : Nat) (w : World) (s : St) (v : Value) (s' : St) (hR : RdrP g A cap l B w s v) (hat : s.at_ ≤ l.length) (hout : s.out.length ≤ s.at_) (hN : (l.length - s.at_) * 8 + (7 - (lv + 1)) < N) (hp : Pr l false lv s s')
    (kb : Nat) (hkK : Kinds w kb K) (hkb : kb < w.heap.size) (hkg : kb ≠ g) (hkv : some kb ≠ v.ownBlock) :
    Calls Tryd.prog 78 #[.pointer (some ⟨g, 0, none⟩), .func (.func f) #[.pointer (some ⟨g, 0, none⟩)] #[], .slice (some ⟨kb, 0, none⟩) K.length K.length] w fun e w' => (∃ u, e = .returned u) ∧ ∃ v', RdrP g A cap l B w' s' v' ∧ ChgR g v w w' ∧ Own w v v' := by
  obtain ⟨s1, h1, h2⟩ : ∃ s1, Pr l false (lv + 1) s s1 ∧ Pr l true lv s1 s' := by
    cases hp with
    | row _ h1 h2 => exact ⟨_, h1, h2⟩
    | _ => omega
  have HP := Lib.hid h2
  have HR := Lib.hid hR
  have HKK := Lib.hid hkK
  have HK := Lib.hid hK
  have H1 := Lib.hid h1
  have HV := Lib.hid hkv
  clear hp h2 hR hkK hK h1 hkv
  go_enter Tryd.func78, Tryd.ntmps78
  go_wp2_with fail
  refine (hone g A cap B w s v s1 HR.out hat hout hN H1.out).mono ?_
  rintro e w1 ⟨⟨u, rfl⟩, v1, hR1, hc1, ho1⟩
  have hle1 := H1.out.le (by omega) hat
  have HR1 := Lib.hid hR1
  have HC1 := Lib.hid hc1
  have HO1 := Lib.hid ho1
  clear hR1 hc1 ho1
  go_wp2_with fail
  go_loopw [6, 7] (fun _ _ wr => Hid (∃ (s2 : St) (v2 : Value), RdrP g A cap l B wr s2 v2 ∧ ChgR g v w wr ∧ Own w v v2 ∧ s2.at_ ≤ l.length ∧ s2.out.length ≤ s2.at_ ∧ s.at_ ≤ s2.at_ ∧ Pr l true lv s2 s'))
    (fun _ _ wr => l.length - (intOf ((wr.cell? ⟨g, 1, none⟩).getD .nilIface)).toNat)
  case atStart => exact Lib.hid ⟨s1, v1, HR1.out, HC1.out, HO1.out, by omega, by omega, by omega, HP.out⟩
  case round =>
    obtain ⟨s2, v2, hR2, hc2, ho2, ha2, hb2, hd2, hp2⟩ := hrel.out
    clear hrel
    have hk2 := HKK.out.chg hc2 hkb (by rintro (e | e); exact hkg e; exact HV.out e)
    have hkb2 : kb < wr.heap.size := Nat.lt_of_lt_of_le hkb hc2.size
    have hm2 : wr.cell? ⟨g, 1, none⟩ = some (.int .i64 s2.at_) := hR2.cells.2.1
    have HR2 := Lib.hid hR2
    have HC2 := Lib.hid hc2
    have HO2 := Lib.hid ho2
    have HK2 := Lib.hid hk2
    clear hR2 hc2 ho2 hk2
    by_cases hlv : level (s2.see l) = lv
    · obtain ⟨s3, h3, h4⟩ : ∃ s3, Pr l false (lv + 1) s2.adv s3 ∧ Pr l true lv (s3.put (s2.see l) 0) s' := by
        cases hp2 with
        | stop h => exact absurd hlv h
        | more _ h3 h4 => exact ⟨_, h3, h4⟩
      have H3 := Lib.hid h3
      have H4 := Lib.hid h4
      clear hp2 h3 h4
      have hz := level_see hlv (by omega)
      have hlt := see_lt hz
      have hmem : s2.see l ∈ K := (HK.out _).2 hlv
      have h0 : (0 : Int) ∉ K := fun e => by have := (HK.out 0).1 e; simp [level] at this; omega
      have hle3 := H3.out.le (by omega) (by rw [adv_at]; omega)
      simp only [adv_at, adv_out] at hle3
      go_wp2_with fail
      refine (pis_hit HR2.out kb K HK2.out (by omega) hKl hmem h0).mono ?_
      rintro e w3 ⟨rfl, hR3, hc3⟩
      have HR3 := Lib.hid hR3
      have HC3 := Lib.hid hc3
      clear hR3 hc3
      go_wp2_with fail
      refine (hone g A cap B w3 s2.adv v2 s3 HR3.out (by rw [adv_at]; omega) (by rw [adv_at, adv_out]; omega) (by rw [adv_at]; omega) H3.out).mono ?_
      rintro e w4 ⟨⟨u', rfl⟩, v4, hR4, hc4, ho4⟩
      have HR4 := Lib.hid hR4
      have HC4 := Lib.hid (HC3.out.then (Own.refl _ _) hc4)
      have HO4 := Lib.hid ((Own.refl _ _).trans HC3.out.size ho4)
      clear hR4 hc4 ho4
      go_wp2_with fail
      refine (put_any HR4.out (s2.see l) 0 (by omega)).mono ?_
      rintro e w5 ⟨⟨u5, rfl⟩, v5, hR5, hc5, ho5⟩
      have HR5 := Lib.hid hR5
      have HC5 := Lib.hid (HC4.out.then HO4.out hc5)
      have HO5 := Lib.hid (HO4.out.trans HC4.out.size ho5)
      have hm5 : w5.cell? ⟨g, 1, none⟩ = some (.int .i64 s3.at_) := hR5.cells.2.1
      clear hR5 hc5 ho5
      go_wp2_with fail
      go_roundw
      case rel => exact Lib.hid ⟨_, v5, HR5.out, HC2.out.then HO2.out HC5.out, HO2.out.trans HC2.out.size HO5.out, by rw [put_at]; omega, by rw [put_at, put_out]; omega, by rw [put_at]; omega, H4.out⟩
      case measure => rw [hm5, hm2]; simp [intOf]; omega
    · obtain rfl : s2 = s' := by
        cases hp2 with
        | stop h => rfl
        | more h _ _ => exact absurd h hlv
      have hmem : s2.see l ∉ K := fun e => hlv ((HK.out _).1 e)
      go_wp2_with fail
      refine (pis_miss HR2.out kb K HK2.out (by omega) ha2 hKl hmem).mono ?_
      rintro e w3 ⟨rfl, n3, rfl⟩
      go_wp2_with fail
      refine bodyPost_ret (results_none rfl _ _ _) rfl ?_
      exact ⟨⟨_, rfl⟩, v2, HR2.out.drewN n3, HC2.out.drewN n3, HO2.out⟩
/-- What a level makes of what its row does. -/
theorem lv_done {l : List T} {g : Nat} {A : Option Addr} {cap B : Nat} {w w' : World} {v v' : Value} {s' : St} {o : Obj} (hR : RdrP g A cap l B w' s' v') (hc : ChgR g v (w.alloc o) w') (ho : Own (w.alloc o) v v') :
    RdrP g A cap l B w' s' v' ∧ ChgR g v w w' ∧ Own w v v' :=
  ⟨hR, ((Chg.refl _ w).alloc o).trans hc, by
    rcases ho with ho | ⟨b, h1, h2⟩
    · exact .inl ho
    · exact .inr ⟨b, h1, by simp at h2; omega⟩⟩
set_option maxHeartbeats 8000000 in
set_option maxRecDepth 100000 in
theorem or_any (l : List T) (hl : l.length ≤ 100000) (N : Nat) (hone : ReadsP 79 l 2 N) : ReadsP 50 l 1 (N + 1) := by
  intro g A cap B w s v s' hR hat hout hN hp
  have HR := Lib.hid hR
  have HP := Lib.hid hp
  clear hR hp
  have hmf : ∀ (fn : Fn) (first cap : Array Value) (w : World), (Instr.makeFunc fn first cap).run Tryd.prog w = .ok (.func fn first cap) w := fun _ _ _ _ => rfl
  go_enter Tryd.func50, Tryd.ntmps50
  go_wp2_with fail
  have hlt := HR.out.lt
  have hle := HR.out.le
  have hown := Kd.R_lt HR.out.out
  refine (row_any 79 run_and l hl 1 N (by omega) hone [13] (by intro x; simp only [level, List.mem_cons, List.not_mem_nil, or_false]; (repeat' split) <;> omega) (by decide) g A cap B (w.alloc (.cells #[.int .i64 13] 3)) s v s'
    (HR.out.below ((Below.refl _ _).alloc (Nat.le_refl _) _)) hat hout (by omega) HP.out w.heap.size ?kk (by simp) (by omega) (fun e => by have := hown _ e.symm; omega)).mono ?_
  case kk =>
    intro j hj
    have hb := blk_new w (.cells #[.int .i64 13] 3)
    match j, hj with
    | 0, _ => exact blk_cell hb 0
  rintro e w' ⟨⟨u, rfl⟩, v', hR', hc', ho'⟩
  have hd := lv_done hR' hc' ho'
  clear hR' hc' ho'
  go_wp2_with fail
  go_end0
  exact ⟨⟨_, rfl⟩, v', hd⟩
set_option maxHeartbeats 8000000 in
set_option maxRecDepth 100000 in
theorem and_any (l : List T) (hl : l.length ≤ 100000) (N : Nat) (hone : ReadsP 103 l 3 N) : ReadsP 79 l 2 (N + 1) := by
  intro g A cap B w s v s' hR hat hout hN hp
  have HR := Lib.hid hR
  have HP := Lib.hid hp
  clear hR hp
  have hmf : ∀ (fn : Fn) (first cap : Array Value) (w : World), (Instr.makeFunc fn first cap).run Tryd.prog w = .ok (.func fn first cap) w := fun _ _ _ _ => rfl
  go_enter Tryd.func79, Tryd.ntmps79
  go_wp2_with fail
  have hlt := HR.out.lt
  have hle := HR.out.le
  have hown := Kd.R_lt HR.out.out
  refine (row_any 103 run_not l hl 2 N (by omega) hone [12] (by intro x; simp only [level, List.mem_cons, List.not_mem_nil, or_false]; (repeat' split) <;> omega) (by decide) g A cap B (w.alloc (.cells #[.int .i64 12] 3)) s v s'
    (HR.out.below ((Below.refl _ _).alloc (Nat.le_refl _) _)) hat hout (by omega) HP.out w.heap.size ?kk (by simp) (by omega) (fun e => by have := hown _ e.symm; omega)).mono ?_
  case kk =>
    intro j hj
    have hb := blk_new w (.cells #[.int .i64 12] 3)
    match j, hj with
    | 0, _ => exact blk_cell hb 0
  rintro e w' ⟨⟨u, rfl⟩, v', hR', hc', ho'⟩
  have hd := lv_done hR' hc' ho'
  clear hR' hc' ho'
  go_wp2_with fail
  go_end0
  exact ⟨⟨_, rfl⟩, v', hd⟩
set_option maxHeartbeats 8000000 in
set_option maxRecDepth 100000 in
theorem sum_any (l : List T) (hl : l.length ≤ 100000) (N : Nat) (hone : ReadsP 141 l 5 N) : ReadsP 122 l 4 (N + 1) := by
  intro g A cap B w s v s' hR hat hout hN hp
  have HR := Lib.hid hR
  have HP := Lib.hid hp
  clear hR hp
  have hmf : ∀ (fn : Fn) (first cap : Array Value) (w : World), (Instr.makeFunc fn first cap).run Tryd.prog w = .ok (.func fn first cap) w := fun _ _ _ _ => rfl
  go_enter Tryd.func122, Tryd.ntmps122
  go_wp2_with fail
  have hlt := HR.out.lt
  have hle := HR.out.le
  have hown := Kd.R_lt HR.out.out
  refine (row_any 141 run_product l hl 4 N (by omega) hone [3, 4] (by intro x; simp only [level, List.mem_cons, List.not_mem_nil, or_false]; (repeat' split) <;> omega) (by decide) g A cap B (w.alloc (.cells #[.int .i64 3, .int .i64 4] 3)) s v s'
    (HR.out.below ((Below.refl _ _).alloc (Nat.le_refl _) _)) hat hout (by omega) HP.out w.heap.size ?kk (by simp) (by omega) (fun e => by have := hown _ e.symm; omega)).mono ?_
  case kk =>
    intro j hj
    have hb := blk_new w (.cells #[.int .i64 3, .int .i64 4] 3)
    match j, hj with
    | 0, _ => exact blk_cell hb 0
    | 1, _ => exact blk_cell hb 1
  rintro e w' ⟨⟨u, rfl⟩, v', hR', hc', ho'⟩
  have hd := lv_done hR' hc' ho'
  clear hR' hc' ho'
  go_wp2_with fail
  go_end0
  exact ⟨⟨_, rfl⟩, v', hd⟩
set_option maxHeartbeats 8000000 in
set_option maxRecDepth 100000 in
theorem product_any (l : List T) (hl : l.length ≤ 100000) (N : Nat) (hone : ReadsP 145 l 6 N) : ReadsP 141 l 5 (N + 1) := by
  intro g A cap B w s v s' hR hat hout hN hp
  have HR := Lib.hid hR
  have HP := Lib.hid hp
  clear hR hp
  have hmf : ∀ (fn : Fn) (first cap : Array Value) (w : World), (Instr.makeFunc fn first cap).run Tryd.prog w = .ok (.func fn first cap) w := fun _ _ _ _ => rfl
  go_enter Tryd.func141, Tryd.ntmps141
  go_wp2_with fail
  have hlt := HR.out.lt
  have hle := HR.out.le
  have hown := Kd.R_lt HR.out.out
  refine (row_any 145 run_signed l hl 5 N (by omega) hone [5, 6, 7] (by intro x; simp only [level, List.mem_cons, List.not_mem_nil, or_false]; (repeat' split) <;> omega) (by decide) g A cap B (w.alloc (.cells #[.int .i64 5, .int .i64 6, .int .i64 7] 3)) s v s'
    (HR.out.below ((Below.refl _ _).alloc (Nat.le_refl _) _)) hat hout (by omega) HP.out w.heap.size ?kk (by simp) (by omega) (fun e => by have := hown _ e.symm; omega)).mono ?_
  case kk =>
    intro j hj
    have hb := blk_new w (.cells #[.int .i64 5, .int .i64 6, .int .i64 7] 3)
    match j, hj with
    | 0, _ => exact blk_cell hb 0
    | 1, _ => exact blk_cell hb 1
    | 2, _ => exact blk_cell hb 2
  rintro e w' ⟨⟨u, rfl⟩, v', hR', hc', ho'⟩
  have hd := lv_done hR' hc' ho'
  clear hR' hc' ho'
  go_wp2_with fail
  go_end0
  exact ⟨⟨_, rfl⟩, v', hd⟩
end Go.Proofs.YtldcplgfkcionaaDoor
