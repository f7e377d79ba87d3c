/- Texts of this claim, merged (Prun, Prun2, Prun3, Ptotal, Lexp, Lex, LexNum, LexFirst, LexTokens, Parse, Exprof, Actp, Chw, Chacts, Chtg). -/
import Derived.Lib.ParseIntB
import Derived.Lib.Strings
import Derived.Lib.AtoiErrMem
import Derived.Lib.LaidTab
import Derived.Lib.ItoaNum
import Derived.OwnWalk
import Derived.Test.YtikilglbhnplaaaGreatDoorZMacroIdle12
import Derived.Test.YtikilglbhnplaaaGreatDoorZMacroIdle11
import Derived.Test.YtikilglbhnplaaaGreatDoorZMacroIdle3
import Derived.Test.YtikilglbhnplaaaGreatDoorZMacroIdle4
import Derived.Test.YtikilglbhnplaaaGreatDoorZMacroIdle5
set_option linter.unusedVariables false
set_option linter.unusedSimpArgs false
set_option maxRecDepth 100000
set_option maxHeartbeats 8000000
section
namespace Go.Proofs.YtikilglbhnplaaaGreatDoor
open Go.RowKit PX Go.Proofs.YtikilglbhnplaaaGreatDoorW.PrintWords
def ReadsP (f : FuncId) (l : List T) (lv N : Nat) : Prop :=
 ∀ (g : Nat) (A : Option Addr) (cap B : Nat) (w : World) (s : St) (v : Value) (s' : St), RdrP g A cap l B w s v → s.at_ ≤ l.length → s.out.length ≤ s.at_ → (l.length - s.at_) * 8 + (7 - lv) < N → Pr l false lv s s' →
  Calls Tryz.prog f #[.pointer (some ⟨g, 0, none⟩)] w fun e w' => (∃ u, e = .returned u) ∧ ∃ v', RdrP g A cap l B w' s' v' ∧ ChgR g v w w' ∧ Own w v v'
theorem run_and (args : Array Value) (w : World) : (callFunc 100 args).run Tryz.prog w = .ok (.enter 100 args) w := by
 simp [callFunc, Tryz.func100]
 rfl
theorem run_not (args : Array Value) (w : World) : (callFunc 124 args).run Tryz.prog w = .ok (.enter 124 args) w := by
 simp [callFunc, Tryz.func124]
 rfl
theorem run_product (args : Array Value) (w : World) : (callFunc 151 args).run Tryz.prog w = .ok (.enter 151 args) w := by
 simp [callFunc, Tryz.func151]
 rfl
theorem run_signed (args : Array Value) (w : World) : (callFunc 161 args).run Tryz.prog w = .ok (.enter 161 args) w := by
 simp [callFunc, Tryz.func161]
 rfl
theorem row_any (f : FuncId) (hrun : ∀ (args : Array Value) (w : World), (callFunc f args).run Tryz.prog w = .ok (.enter f args) w) (l : List T) (hl : l.length ≤ 100000) (lv N : Nat) (hv : lv = 1 ∨ lv = 2 ∨ lv = 4 ∨ lv = 5) (hone : ReadsP f l (lv + 1) N) (K : List Int) (hK : ∀ x, x ∈ K ↔ level x = lv) (hKl : K.length ≤ 100)
  (g : Nat) (A : Option Addr) (cap B : Nat) (w : World) (s : St) (v : Value) (s' : St) (hR : RdrP g A cap l B w s v) (hat : s.at_ ≤ l.length) (hout : s.out.length ≤ s.at_) (hN : (l.length - s.at_) * 8 + (7 - (lv + 1)) < N) (hp : Pr l false lv s s')
  (kb : Nat) (hkK : Kinds w kb K) (hkb : kb < w.heap.size) (hkg : kb ≠ g) (hkv : some kb ≠ v.ownBlock) :
  Calls Tryz.prog 99 #[.pointer (some ⟨g, 0, none⟩), .func (.func f) #[.pointer (some ⟨g, 0, none⟩)] #[], .slice (some ⟨kb, 0, none⟩) K.length K.length] w fun e w' => (∃ u, e = .returned u) ∧ ∃ v', RdrP g A cap l B w' s' v' ∧ ChgR g v w w' ∧ Own w v v' := by
 obtain ⟨s1, h1, h2⟩ : ∃ s1, Pr l false (lv + 1) s s1 ∧ Pr l true lv s1 s' := by
  cases hp with
  | row _ h1 h2 => exact ⟨_, h1, h2⟩
  | _ => omega
 have HP := Lib.hid h2
 have HR := Lib.hid hR
 have HKK := Lib.hid hkK
 have HK := Lib.hid hK
 have H1 := Lib.hid h1
 have HV := Lib.hid hkv
 clear hp h2 hR hkK hK h1 hkv
 go_enter Tryz.func99, Tryz.ntmps99
 go_wp2_with fail
 refine (hone g A cap B w s v s1 HR.out hat hout hN H1.out).mono ?_
 rintro e w1 ⟨⟨u, rfl⟩, v1, hR1, hc1, ho1⟩
 have hle1 := H1.out.le (by omega) hat
 have HR1 := Lib.hid hR1
 have HC1 := Lib.hid hc1
 have HO1 := Lib.hid ho1
 clear hR1 hc1 ho1
 go_wp2_with fail
 go_loopw [6, 7] (fun _ _ wr => Hid (∃ (s2 : St) (v2 : Value), RdrP g A cap l B wr s2 v2 ∧ ChgR g v w wr ∧ Own w v v2 ∧ s2.at_ ≤ l.length ∧ s2.out.length ≤ s2.at_ ∧ s.at_ ≤ s2.at_ ∧ Pr l true lv s2 s'))
  (fun _ _ wr => l.length - (intOf ((wr.cell? ⟨g, 1, none⟩).getD .nilIface)).toNat)
 case atStart => exact Lib.hid ⟨s1, v1, HR1.out, HC1.out, HO1.out, by omega, by omega, by omega, HP.out⟩
 case round =>
  obtain ⟨s2, v2, hR2, hc2, ho2, ha2, hb2, hd2, hp2⟩ := hrel.out
  clear hrel
  have hk2 := HKK.out.chg hc2 hkb (by rintro (e | e); exact hkg e; exact HV.out e)
  have hkb2 : kb < wr.heap.size := Nat.lt_of_lt_of_le hkb hc2.size
  have hm2 : wr.cell? ⟨g, 1, none⟩ = some (.int .i64 s2.at_) := hR2.cells.2.1
  have HR2 := Lib.hid hR2
  have HC2 := Lib.hid hc2
  have HO2 := Lib.hid ho2
  have HK2 := Lib.hid hk2
  clear hR2 hc2 ho2 hk2
  by_cases hlv : level (s2.see l) = lv
  ·obtain ⟨s3, h3, h4⟩ : ∃ s3, Pr l false (lv + 1) s2.adv s3 ∧ Pr l true lv (s3.put (s2.see l) 0) s' := by
    cases hp2 with
    | stop h => exact absurd hlv h
    | more _ h3 h4 => exact ⟨_, h3, h4⟩
   have H3 := Lib.hid h3
   have H4 := Lib.hid h4
   clear hp2 h3 h4
   have hz := level_see hlv (by omega)
   have hlt := see_lt hz
   have hmem : s2.see l ∈ K := (HK.out _).2 hlv
   have h0 : (0 : Int) ∉ K := fun e => by have := (HK.out 0).1 e; simp [level] at this; omega
   have hle3 := H3.out.le (by omega) (by rw [adv_at]; omega)
   simp only [adv_at, adv_out] at hle3
   go_wp2_with fail
   refine (pis_hit HR2.out kb K HK2.out (by omega) hKl hmem h0).mono ?_
   rintro e w3 ⟨rfl, hR3, hc3⟩
   have HR3 := Lib.hid hR3
   have HC3 := Lib.hid hc3
   clear hR3 hc3
   go_wp2_with fail
   refine (hone g A cap B w3 s2.adv v2 s3 HR3.out (by rw [adv_at]; omega) (by rw [adv_at, adv_out]; omega) (by rw [adv_at]; omega) H3.out).mono ?_
   rintro e w4 ⟨⟨u', rfl⟩, v4, hR4, hc4, ho4⟩
   have HR4 := Lib.hid hR4
   have HC4 := Lib.hid (HC3.out.then (Own.refl _ _) hc4)
   have HO4 := Lib.hid ((Own.refl _ _).trans HC3.out.size ho4)
   clear hR4 hc4 ho4
   go_wp2_with fail
   refine (put_any HR4.out (s2.see l) 0 (by omega)).mono ?_
   rintro e w5 ⟨⟨u5, rfl⟩, v5, hR5, hc5, ho5⟩
   have HR5 := Lib.hid hR5
   have HC5 := Lib.hid (HC4.out.then HO4.out hc5)
   have HO5 := Lib.hid (HO4.out.trans HC4.out.size ho5)
   have hm5 : w5.cell? ⟨g, 1, none⟩ = some (.int .i64 s3.at_) := hR5.cells.2.1
   clear hR5 hc5 ho5
   go_wp2_with fail
   go_roundw
   case rel => exact Lib.hid ⟨_, v5, HR5.out, HC2.out.then HO2.out HC5.out, HO2.out.trans HC2.out.size HO5.out, by rw [put_at]; omega, by rw [put_at, put_out]; omega, by rw [put_at]; omega, H4.out⟩
   case measure => rw [hm5, hm2]; simp [intOf]; omega
  ·obtain rfl : s2 = s' := by
    cases hp2 with
    | stop h => rfl
    | more h _ _ => exact absurd h hlv
   have hmem : s2.see l ∉ K := fun e => hlv ((HK.out _).1 e)
   go_wp2_with fail
   refine (pis_miss HR2.out kb K HK2.out (by omega) ha2 hKl hmem).mono ?_
   rintro e w3 ⟨rfl, n3, rfl⟩
   go_wp2_with fail
   refine bodyPost_ret (results_none rfl _ _ _) rfl ?_
   exact ⟨⟨_, rfl⟩, v2, HR2.out.drewN n3, HC2.out.drewN n3, HO2.out⟩
theorem lv_done {l : List T} {g : Nat} {A : Option Addr} {cap B : Nat} {w w' : World} {v v' : Value} {s' : St} {o : Obj} (hR : RdrP g A cap l B w' s' v') (hc : ChgR g v (w.alloc o) w') (ho : Own (w.alloc o) v v') :
  RdrP g A cap l B w' s' v' ∧ ChgR g v w w' ∧ Own w v v' :=
 ⟨hR, ((Chg.refl _ w).alloc o).trans hc, by
  rcases ho with ho | ⟨b, h1, h2⟩
  ·exact .inl ho
  ·exact .inr ⟨b, h1, by simp at h2; omega⟩⟩
theorem or_any (l : List T) (hl : l.length ≤ 100000) (N : Nat) (hone : ReadsP 100 l 2 N) : ReadsP 79 l 1 (N + 1) := by
 intro g A cap B w s v s' hR hat hout hN hp
 have HR := Lib.hid hR
 have HP := Lib.hid hp
 clear hR hp
 have hmf : ∀ (fn : Fn) (first cap : Array Value) (w : World), (Instr.makeFunc fn first cap).run Tryz.prog w = .ok (.func fn first cap) w := fun _ _ _ _ => rfl
 go_enter Tryz.func79, Tryz.ntmps79
 go_wp2_with fail
 have hlt := HR.out.lt
 have hle := HR.out.le
 have hown := Kd.R_lt HR.out.out
 refine (row_any 100 run_and l hl 1 N (by omega) hone [13] (by intro x; simp only [level, List.mem_cons, List.not_mem_nil, or_false]; (repeat' split) <;> omega) (by decide) g A cap B (w.alloc (.cells #[.int .i64 13] 3)) s v s'
  (HR.out.below ((Below.refl _ _).alloc (Nat.le_refl _) _)) hat hout (by omega) HP.out w.heap.size ?kk (by simp) (by omega) (fun e => by have := hown _ e.symm; omega)).mono ?_
 case kk =>
  intro j hj
  have hb := blk_new w (.cells #[.int .i64 13] 3)
  match j, hj with
  | 0, _ => exact blk_cell hb 0
 rintro e w' ⟨⟨u, rfl⟩, v', hR', hc', ho'⟩
 have hd := lv_done hR' hc' ho'
 clear hR' hc' ho'
 go_wp2_with fail
 go_end0
 exact ⟨⟨_, rfl⟩, v', hd⟩
theorem and_any (l : List T) (hl : l.length ≤ 100000) (N : Nat) (hone : ReadsP 124 l 3 N) : ReadsP 100 l 2 (N + 1) := by
 intro g A cap B w s v s' hR hat hout hN hp
 have HR := Lib.hid hR
 have HP := Lib.hid hp
 clear hR hp
 have hmf : ∀ (fn : Fn) (first cap : Array Value) (w : World), (Instr.makeFunc fn first cap).run Tryz.prog w = .ok (.func fn first cap) w := fun _ _ _ _ => rfl
 go_enter Tryz.func100, Tryz.ntmps100
 go_wp2_with fail
 have hlt := HR.out.lt
 have hle := HR.out.le
 have hown := Kd.R_lt HR.out.out
 refine (row_any 124 run_not l hl 2 N (by omega) hone [12] (by intro x; simp only [level, List.mem_cons, List.not_mem_nil, or_false]; (repeat' split) <;> omega) (by decide) g A cap B (w.alloc (.cells #[.int .i64 12] 3)) s v s'
  (HR.out.below ((Below.refl _ _).alloc (Nat.le_refl _) _)) hat hout (by omega) HP.out w.heap.size ?kk (by simp) (by omega) (fun e => by have := hown _ e.symm; omega)).mono ?_
 case kk =>
  intro j hj
  have hb := blk_new w (.cells #[.int .i64 12] 3)
  match j, hj with
  | 0, _ => exact blk_cell hb 0
 rintro e w' ⟨⟨u, rfl⟩, v', hR', hc', ho'⟩
 have hd := lv_done hR' hc' ho'
 clear hR' hc' ho'
 go_wp2_with fail
 go_end0
 exact ⟨⟨_, rfl⟩, v', hd⟩
theorem sum_any (l : List T) (hl : l.length ≤ 100000) (N : Nat) (hone : ReadsP 151 l 5 N) : ReadsP 138 l 4 (N + 1) := by
 intro g A cap B w s v s' hR hat hout hN hp
 have HR := Lib.hid hR
 have HP := Lib.hid hp
 clear hR hp
 have hmf : ∀ (fn : Fn) (first cap : Array Value) (w : World), (Instr.makeFunc fn first cap).run Tryz.prog w = .ok (.func fn first cap) w := fun _ _ _ _ => rfl
 go_enter Tryz.func138, Tryz.ntmps138
 go_wp2_with fail
 have hlt := HR.out.lt
 have hle := HR.out.le
 have hown := Kd.R_lt HR.out.out
 refine (row_any 151 run_product l hl 4 N (by omega) hone [3, 4] (by intro x; simp only [level, List.mem_cons, List.not_mem_nil, or_false]; (repeat' split) <;> omega) (by decide) g A cap B (w.alloc (.cells #[.int .i64 3, .int .i64 4] 3)) s v s'
  (HR.out.below ((Below.refl _ _).alloc (Nat.le_refl _) _)) hat hout (by omega) HP.out w.heap.size ?kk (by simp) (by omega) (fun e => by have := hown _ e.symm; omega)).mono ?_
 case kk =>
  intro j hj
  have hb := blk_new w (.cells #[.int .i64 3, .int .i64 4] 3)
  match j, hj with
  | 0, _ => exact blk_cell hb 0
  | 1, _ => exact blk_cell hb 1
 rintro e w' ⟨⟨u, rfl⟩, v', hR', hc', ho'⟩
 have hd := lv_done hR' hc' ho'
 clear hR' hc' ho'
 go_wp2_with fail
 go_end0
 exact ⟨⟨_, rfl⟩, v', hd⟩
theorem product_any (l : List T) (hl : l.length ≤ 100000) (N : Nat) (hone : ReadsP 161 l 6 N) : ReadsP 151 l 5 (N + 1) := by
 intro g A cap B w s v s' hR hat hout hN hp
 have HR := Lib.hid hR
 have HP := Lib.hid hp
 clear hR hp
 have hmf : ∀ (fn : Fn) (first cap : Array Value) (w : World), (Instr.makeFunc fn first cap).run Tryz.prog w = .ok (.func fn first cap) w := fun _ _ _ _ => rfl
 go_enter Tryz.func151, Tryz.ntmps151
 go_wp2_with fail
 have hlt := HR.out.lt
 have hle := HR.out.le
 have hown := Kd.R_lt HR.out.out
 refine (row_any 161 run_signed l hl 5 N (by omega) hone [5, 6, 7] (by intro x; simp only [level, List.mem_cons, List.not_mem_nil, or_false]; (repeat' split) <;> omega) (by decide) g A cap B (w.alloc (.cells #[.int .i64 5, .int .i64 6, .int .i64 7] 3)) s v s'
  (HR.out.below ((Below.refl _ _).alloc (Nat.le_refl _) _)) hat hout (by omega) HP.out w.heap.size ?kk (by simp) (by omega) (fun e => by have := hown _ e.symm; omega)).mono ?_
 case kk =>
  intro j hj
  have hb := blk_new w (.cells #[.int .i64 5, .int .i64 6, .int .i64 7] 3)
  match j, hj with
  | 0, _ => exact blk_cell hb 0
  | 1, _ => exact blk_cell hb 1
  | 2, _ => exact blk_cell hb 2
 rintro e w' ⟨⟨u, rfl⟩, v', hR', hc', ho'⟩
 have hd := lv_done hR' hc' ho'
 clear hR' hc' ho'
 go_wp2_with fail
 go_end0
 exact ⟨⟨_, rfl⟩, v', hd⟩
end Go.Proofs.YtikilglbhnplaaaGreatDoor
end
section
namespace Go.Proofs.YtikilglbhnplaaaGreatDoor
open Go.RowKit PX Go.Proofs.YtikilglbhnplaaaGreatDoorW.PrintWords
section
variable {g : Nat} {A : Option Addr} {cap : Nat} {l : List T} {B : Nat} {w : World} {s : St} {v : Value}
theorem kinds_new (w : World) (K : List Int) : Kinds (w.alloc (.cells (K.map (Value.int .i64)).toArray 3)) w.heap.size K := by
 intro j hj
 have := blk_cell (blk_new w (.cells (K.map (Value.int .i64)).toArray 3)) j
 rw [this]
 simp [hj]
theorem pis_miss_new (hR : RdrP g A cap l B w s v) (K : List Int) (n : Nat) (hn : n = K.length) (cs : Array Value) (hcs : cs = (K.map (Value.int .i64)).toArray) (hl : l.length ≤ 1000000) (hat : s.at_ ≤ l.length) (hKl : K.length ≤ 100) (h : s.see l ∉ K) :
  Calls Tryz.prog 122 #[.pointer (some ⟨g, 0, none⟩), .slice (some ⟨w.heap.size, 0, none⟩) n n] (w.alloc (.cells cs 3)) fun e w' => e = .returned (.tuple #[.int .i64 0, .bool false]) ∧ RdrP g A cap l B w' s v ∧ ChgR g v w w' := by
 subst hn; subst hcs
 have hR' := hR.below ((Below.refl _ _).alloc (Nat.le_refl _) (.cells (K.map (Value.int .i64)).toArray 3))
 refine (pis_miss hR' w.heap.size K (kinds_new w K) hl hat hKl h).mono ?_
 rintro e w' ⟨rfl, m, rfl⟩
 exact ⟨rfl, hR'.drewN m, ((Chg.refl _ w).alloc _).drewN m⟩
theorem pis_hit_new (hR : RdrP g A cap l B w s v) (K : List Int) (n : Nat) (hn : n = K.length) (cs : Array Value) (hcs : cs = (K.map (Value.int .i64)).toArray) (hl : l.length ≤ 1000000) (hKl : K.length ≤ 100) (h : s.see l ∈ K) (h0 : (0 : Int) ∉ K) :
  Calls Tryz.prog 122 #[.pointer (some ⟨g, 0, none⟩), .slice (some ⟨w.heap.size, 0, none⟩) n n] (w.alloc (.cells cs 3)) fun e w' => e = .returned (.tuple #[.int .i64 (s.see l), .bool true]) ∧ RdrP g A cap l B w' s.adv v ∧ ChgR g v w w' := by
 subst hn; subst hcs
 have hR' := hR.below ((Below.refl _ _).alloc (Nat.le_refl _) (.cells (K.map (Value.int .i64)).toArray 3))
 refine (pis_hit hR' w.heap.size K (kinds_new w K) hl hKl h h0).mono ?_
 rintro e w' ⟨rfl, h1, h2⟩
 exact ⟨rfl, h1, ((Chg.refl _ w).alloc _).trans h2⟩
end
theorem not_any (l : List T) (hl : l.length ≤ 100000) (N : Nat) (hn : ReadsP 124 l 3 N) (hs : ReadsP 138 l 4 N) : ReadsP 124 l 3 (N + 1) := by
 intro g A cap B w s v s' hR hat hout hN hp
 have HR := Lib.hid hR
 clear hR
 by_cases h14 : s.see l = 14
 ·obtain ⟨s1, h1, rfl⟩ : ∃ s1, Pr l false 3 s.adv s1 ∧ s' = s1.put 14 0 := by
   cases hp with
   | row hv => omega
   | not_ _ h1 => exact ⟨_, h1, rfl⟩
   | sum h => exact absurd h14 h
   | cmp h => exact absurd h14 h
  have H1 := Lib.hid h1
  clear hp h1
  have hlt := see_lt (l := l) (s := s) (by omega)
  have hle := H1.out.le (by omega) (by rw [adv_at]; omega)
  simp only [adv_at, adv_out] at hle
  go_enter Tryz.func124, Tryz.ntmps124
  go_wp2_with fail
  refine (pis_hit_new HR.out [14] 1 rfl _ rfl (by omega) (by decide) (by rw [h14]; simp) (by decide)).mono ?_
  rintro e w1 ⟨rfl, hR1, hc1⟩
  have HR1 := Lib.hid hR1
  have HC1 := Lib.hid hc1
  clear hR1 hc1
  go_wp2_with fail
  refine (hn g A cap B w1 s.adv v s1 HR1.out (by rw [adv_at]; omega) (by rw [adv_at, adv_out]; omega) (by rw [adv_at]; omega) H1.out).mono ?_
  rintro e w2 ⟨⟨u, rfl⟩, v2, hR2, hc2, ho2⟩
  have HR2 := Lib.hid hR2
  have HC2 := Lib.hid (HC1.out.then (Own.refl _ _) hc2)
  have HO2 := Lib.hid ((Own.refl w v).trans HC1.out.size ho2)
  clear hR2 hc2 ho2
  go_wp2_with fail
  refine (put_any HR2.out 14 0 (by omega)).mono ?_
  rintro e w3 ⟨⟨u3, rfl⟩, v3, hR3, hc3, ho3⟩
  have hd : RdrP g A cap l B w3 (s1.put 14 0) v3 ∧ ChgR g v w w3 ∧ Own w v v3 := ⟨hR3, HC2.out.then HO2.out hc3, HO2.out.trans HC2.out.size ho3⟩
  clear hR3 hc3 ho3
  go_wp2_with fail
  refine bodyPost_ret (results_none rfl _ _ _) rfl ?_
  exact ⟨⟨_, rfl⟩, v3, hd⟩
 ·obtain ⟨s1, h1, hcase⟩ : ∃ s1, Pr l false 4 s s1 ∧ ((level (s1.see l) ≠ 3 ∧ s' = s1) ∨ (level (s1.see l) = 3 ∧ ∃ s2, Pr l false 4 s1.adv s2 ∧ s' = s2.put (s1.see l) 0)) := by
   cases hp with
   | row hv => omega
   | not_ h _ => exact absurd h h14
   | sum _ h1 h2 => exact ⟨_, h1, .inl ⟨h2, rfl⟩⟩
   | cmp _ h1 h2 h3 => exact ⟨_, h1, .inr ⟨h2, _, h3, rfl⟩⟩
  have H1 := Lib.hid h1
  clear hp h1
  have hle := H1.out.le (by omega) hat
  have hmem : ∀ x : Int, x ∈ [8, 9, 10, 11] ↔ level x = 3 := by intro x; simp only [level, List.mem_cons, List.not_mem_nil, or_false]; (repeat' split) <;> omega
  have HM := Lib.hid hmem
  clear hmem
  rcases hcase with ⟨h3, rfl⟩ | ⟨h3, s2, h2, rfl⟩
  ·go_enter Tryz.func124, Tryz.ntmps124
   go_wp2_with fail
   refine (pis_miss_new HR.out [14] 1 rfl _ rfl (by omega) hat (by decide) (by simp; exact h14)).mono ?_
   rintro e w1 ⟨rfl, hR1, hc1⟩
   have HR1 := Lib.hid hR1
   have HC1 := Lib.hid hc1
   clear hR1 hc1
   go_wp2_with fail
   refine (hs g A cap B w1 s v s' HR1.out hat hout (by omega) H1.out).mono ?_
   rintro e w2 ⟨⟨u, rfl⟩, v2, hR2, hc2, ho2⟩
   have HR2 := Lib.hid hR2
   have HC2 := Lib.hid (HC1.out.then (Own.refl _ _) hc2)
   have HO2 := Lib.hid ((Own.refl w v).trans HC1.out.size ho2)
   clear hR2 hc2 ho2
   go_wp2_with fail
   refine (pis_miss_new HR2.out [8, 9, 10, 11] 4 rfl _ rfl (by omega) (by omega) (by decide) (fun e => h3 ((HM.out _).1 e))).mono ?_
   rintro e w3 ⟨rfl, hR3, hc3⟩
   have hd : RdrP g A cap l B w3 s' v2 ∧ ChgR g v w w3 ∧ Own w v v2 := ⟨hR3, HC2.out.then HO2.out hc3, HO2.out⟩
   clear hR3 hc3
   go_wp2_with fail
   go_end0
   exact ⟨⟨_, rfl⟩, v2, hd⟩
  ·have H2 := Lib.hid h2
   clear h2
   have hz := level_see h3 (by omega)
   have hlt := see_lt hz
   have hle2 := H2.out.le (by omega) (by rw [adv_at]; omega)
   simp only [adv_at, adv_out] at hle2
   go_enter Tryz.func124, Tryz.ntmps124
   go_wp2_with fail
   refine (pis_miss_new HR.out [14] 1 rfl _ rfl (by omega) hat (by decide) (by simp; exact h14)).mono ?_
   rintro e w1 ⟨rfl, hR1, hc1⟩
   have HR1 := Lib.hid hR1
   have HC1 := Lib.hid hc1
   clear hR1 hc1
   go_wp2_with fail
   refine (hs g A cap B w1 s v s1 HR1.out hat hout (by omega) H1.out).mono ?_
   rintro e w2 ⟨⟨u, rfl⟩, v2, hR2, hc2, ho2⟩
   have HR2 := Lib.hid hR2
   have HC2 := Lib.hid (HC1.out.then (Own.refl _ _) hc2)
   have HO2 := Lib.hid ((Own.refl w v).trans HC1.out.size ho2)
   clear hR2 hc2 ho2
   go_wp2_with fail
   refine (pis_hit_new HR2.out [8, 9, 10, 11] 4 rfl _ rfl (by omega) (by decide) ((HM.out _).2 h3) (by decide)).mono ?_
   rintro e w3 ⟨rfl, hR3, hc3⟩
   have HR3 := Lib.hid hR3
   have HC3 := Lib.hid (HC2.out.then HO2.out hc3)
   have HO3 := Lib.hid (Nat.le_trans HC2.out.size hc3.size)
   clear hR3 hc3
   go_wp2_with fail
   refine (hs g A cap B w3 s1.adv v2 s2 HR3.out (by rw [adv_at]; omega) (by rw [adv_at, adv_out]; omega) (by rw [adv_at]; omega) H2.out).mono ?_
   rintro e w4 ⟨⟨u4, rfl⟩, v4, hR4, hc4, ho4⟩
   have HR4 := Lib.hid hR4
   have HC4 := Lib.hid (HC3.out.then HO2.out hc4)
   have HO4 := Lib.hid (HO2.out.trans HO3.out ho4)
   clear hR4 hc4 ho4
   go_wp2_with fail
   refine (put_any HR4.out (s1.see l) 0 (by omega)).mono ?_
   rintro e w5 ⟨⟨u5, rfl⟩, v5, hR5, hc5, ho5⟩
   have hd : RdrP g A cap l B w5 (s2.put (s1.see l) 0) v5 ∧ ChgR g v w w5 ∧ Own w v v5 := ⟨hR5, HC4.out.then HO4.out hc5, HO4.out.trans HC4.out.size ho5⟩
   clear hR5 hc5 ho5
   go_wp2_with fail
   go_end0
   exact ⟨⟨_, rfl⟩, v5, hd⟩
end Go.Proofs.YtikilglbhnplaaaGreatDoor
end
section
namespace Go.Proofs.YtikilglbhnplaaaGreatDoor
open Go.RowKit PX Go.Proofs.YtikilglbhnplaaaGreatDoorW.PrintWords
theorem signed_any (l : List T) (hl : l.length ≤ 100000) (N : Nat) (hs : ReadsP 161 l 6 N) (ho : ReadsP 79 l 1 N) : ReadsP 161 l 6 (N + 1) := by
 intro g A cap B w s v s' hR hat hout hN hp
 have HR := Lib.hid hR
 clear hR
 by_cases h4 : s.see l = 4
 ·obtain ⟨s1, h1, rfl⟩ : ∃ s1, Pr l false 6 s.adv s1 ∧ s' = s1.put 19 0 := by
   cases hp with
   | row hv => omega
   | neg _ h1 => exact ⟨_, h1, rfl⟩
   | _ => omega
  have H1 := Lib.hid h1
  clear hp h1
  have hlt := see_lt (l := l) (s := s) (by omega)
  have hle := H1.out.le (by omega) (by rw [adv_at]; omega)
  simp only [adv_at, adv_out] at hle
  go_enter Tryz.func161, Tryz.ntmps161
  go_wp2_with fail
  refine (pis_hit_new HR.out [4] 1 rfl _ rfl (by omega) (by decide) (by rw [h4]; simp) (by decide)).mono ?_
  rintro e w1 ⟨rfl, hR1, hc1⟩
  have HR1 := Lib.hid hR1
  have HC1 := Lib.hid hc1
  clear hR1 hc1
  go_wp2_with fail
  refine (hs g A cap B w1 s.adv v s1 HR1.out (by rw [adv_at]; omega) (by rw [adv_at, adv_out]; omega) (by rw [adv_at]; omega) H1.out).mono ?_
  rintro e w2 ⟨⟨u, rfl⟩, v2, hR2, hc2, ho2⟩
  have HR2 := Lib.hid hR2
  have HC2 := Lib.hid (HC1.out.then (Own.refl _ _) hc2)
  have HO2 := Lib.hid ((Own.refl w v).trans HC1.out.size ho2)
  clear hR2 hc2 ho2
  go_wp2_with fail
  refine (put_any HR2.out 19 0 (by omega)).mono ?_
  rintro e w3 ⟨⟨u3, rfl⟩, v3, hR3, hc3, ho3⟩
  have hd : RdrP g A cap l B w3 (s1.put 19 0) v3 ∧ ChgR g v w w3 ∧ Own w v v3 := ⟨hR3, HC2.out.then HO2.out hc3, HO2.out.trans HC2.out.size ho3⟩
  clear hR3 hc3 ho3
  go_wp2_with fail
  refine bodyPost_ret (results_none rfl _ _ _) rfl ?_
  exact ⟨⟨_, rfl⟩, v3, hd⟩
 have n4 : s.see l ∉ [(4 : Int)] := by simp; exact h4
 by_cases hleaf : s.see l = 1 ∨ s.see l = 2 ∨ s.see l = 15 ∨ s.see l = 16
 ·obtain rfl : s' = s.adv.put (s.see l) (s.num l) := by
   cases hp with
   | row hv => omega
   | leaf _ => rfl
   | _ => omega
  clear hp
  have hlt := see_lt (l := l) (s := s) (by omega)
  have h17 : (s.see l == 17) = false := beq_eq_false_iff_ne.mpr (by omega)
  have hm : s.see l ∈ [(1 : Int), 2, 15, 16, 17] := by simp; omega
  have hnum : s.num l = (PAll.rd_T131 l s.at_).f1 := by
   unfold St.num
   simp [PAll.rd_T131, List.getD_eq_getElem?_getD]
   rfl
  have HN := Lib.hid hnum
  clear hnum
  generalize hsee : s.see l = sk at *
  have HS := Lib.hid hsee
  clear hsee
  go_enter Tryz.func161, Tryz.ntmps161
  go_wp2_with fail
  refine (pis_miss_new HR.out [4] 1 rfl _ rfl (by omega) hat (by decide) (by rw [HS.out]; exact n4)).mono ?_
  rintro e w1 ⟨rfl, hR1, hc1⟩
  have HR1 := Lib.hid hR1
  have HC1 := Lib.hid hc1
  clear hR1 hc1
  go_wp2_with fail
  refine (pis_hit_new HR1.out [1, 2, 15, 16, 17] 5 rfl _ rfl (by omega) (by decide) (by rw [HS.out]; exact hm) (by decide)).mono ?_
  rw [HS.out]
  rintro e w2 ⟨rfl, hR2, hc2⟩
  obtain ⟨c0, c1, c2, c3, f1, f2, f3⟩ := hR2.cells
  obtain ⟨ad, hA, x0, x1, x2⟩ := PAll.at_T131 hR2.row s.at_ (by omega) (by omega)
  subst hA
  rw [← HN.out] at x1
  simp only [Int.toNat_natCast] at x0 x1 x2
  rw [adv_at] at c1
  have p1 : (0 ≤ (s.at_ : Int)) = True := eq_true (by omega)
  have p2 : ((s.at_ : Int) < (l.length : Int)) = True := eq_true (by omega)
  have p3 : ((s.at_ + 1 : Nat) : Int) - 1 = (s.at_ : Int) := by omega
  have HR2 := Lib.hid hR2
  have HC2 := Lib.hid (HC1.out.then (Own.refl _ _) hc2)
  clear hR2 hc2 x0 x2
  go_wp2_with fail
  refine region_quiet_tail 14 (by kernel_rfl) (by kernel_rfl) ?_
  simp only [List.take_succ_cons, List.take_zero, List.drop_succ_cons, List.drop_zero]
  repeat (go_big_quiet_step (fail))
  refine wpQuiet_nil ?_
  intro w' hw'
  obtain ⟨nq, rfl⟩ := hw'
  go_wp2_with fail
  refine (put_any (HR2.out.drewN nq) sk (s.num l) (by rw [adv_out]; omega)).mono ?_
  rintro e w3 ⟨⟨u3, rfl⟩, v3, hR3, hc3, ho3⟩
  have hd : RdrP g (some ad) cap l B w3 (s.adv.put sk (s.num l)) v3 ∧ ChgR g v w w3 ∧ Own w v v3 := ⟨hR3, ChgR.then (HC2.out.drewN nq) (Own.refl _ _) hc3, (Own.refl w v).trans HC2.out.size ho3⟩
  clear hR3 hc3 ho3
  go_wp2_with fail
  go_end0
  exact ⟨⟨_, rfl⟩, v3, hd⟩
 by_cases h17 : s.see l = 17
 ·obtain ⟨s1, h1, hcase⟩ : ∃ s1, Pr l false 1 s.adv s1 ∧ ((s1.see l = 18 ∧ s' = s1.adv) ∨ (s1.see l ≠ 18 ∧ s' = s1.fail)) := by
   cases hp with
   | row hv => omega
   | open_ _ h1 h2 => exact ⟨_, h1, .inl ⟨h2, rfl⟩⟩
   | openBad _ h1 h2 => exact ⟨_, h1, .inr ⟨h2, rfl⟩⟩
   | _ => omega
  have H1 := Lib.hid h1
  clear hp h1
  have hlt := see_lt (l := l) (s := s) (by omega)
  have hle := H1.out.le (by omega) (by rw [adv_at]; omega)
  simp only [adv_at, adv_out] at hle
  rcases hcase with ⟨h18, rfl⟩ | ⟨h18, rfl⟩
  ·go_enter Tryz.func161, Tryz.ntmps161
   go_wp2_with fail
   refine (pis_miss_new HR.out [4] 1 rfl _ rfl (by omega) hat (by decide) n4).mono ?_
   rintro e w1 ⟨rfl, hR1, hc1⟩
   have HR1 := Lib.hid hR1
   have HC1 := Lib.hid hc1
   clear hR1 hc1
   go_wp2_with fail
   refine (pis_hit_new HR1.out [1, 2, 15, 16, 17] 5 rfl _ rfl (by omega) (by decide) (by rw [h17]; simp) (by decide)).mono ?_
   rw [h17]
   rintro e w2 ⟨rfl, hR2, hc2⟩
   have HR2 := Lib.hid hR2
   have HC2 := Lib.hid (HC1.out.then (Own.refl _ _) hc2)
   clear hR2 hc2
   go_wp2_with fail
   refine (ho g A cap B w2 s.adv v s1 HR2.out (by rw [adv_at]; omega) (by rw [adv_at, adv_out]; omega) (by rw [adv_at]; omega) H1.out).mono ?_
   rintro e w3 ⟨⟨u3, rfl⟩, v3, hR3, hc3, ho3⟩
   have HR3 := Lib.hid hR3
   have HC3 := Lib.hid (HC2.out.then (Own.refl _ _) hc3)
   have HO3 := Lib.hid ((Own.refl w v).trans HC2.out.size ho3)
   clear hR3 hc3 ho3
   go_wp2_with fail
   refine (pis_hit_new HR3.out [18] 1 rfl _ rfl (by omega) (by decide) (by rw [h18]; simp) (by decide)).mono ?_
   rintro e w4 ⟨rfl, hR4, hc4⟩
   have hd : RdrP g A cap l B w4 s1.adv v3 ∧ ChgR g v w w4 ∧ Own w v v3 := ⟨hR4, HC3.out.then HO3.out hc4, HO3.out⟩
   clear hR4 hc4
   go_wp2_with fail
   go_end0
   exact ⟨⟨_, rfl⟩, v3, hd⟩
  ·go_enter Tryz.func161, Tryz.ntmps161
   go_wp2_with fail
   refine (pis_miss_new HR.out [4] 1 rfl _ rfl (by omega) hat (by decide) n4).mono ?_
   rintro e w1 ⟨rfl, hR1, hc1⟩
   have HR1 := Lib.hid hR1
   have HC1 := Lib.hid hc1
   clear hR1 hc1
   go_wp2_with fail
   refine (pis_hit_new HR1.out [1, 2, 15, 16, 17] 5 rfl _ rfl (by omega) (by decide) (by rw [h17]; simp) (by decide)).mono ?_
   rw [h17]
   rintro e w2 ⟨rfl, hR2, hc2⟩
   have HR2 := Lib.hid hR2
   have HC2 := Lib.hid (HC1.out.then (Own.refl _ _) hc2)
   clear hR2 hc2
   go_wp2_with fail
   refine (ho g A cap B w2 s.adv v s1 HR2.out (by rw [adv_at]; omega) (by rw [adv_at, adv_out]; omega) (by rw [adv_at]; omega) H1.out).mono ?_
   rintro e w3 ⟨⟨u3, rfl⟩, v3, hR3, hc3, ho3⟩
   have HR3 := Lib.hid hR3
   have HC3 := Lib.hid (HC2.out.then (Own.refl _ _) hc3)
   have HO3 := Lib.hid ((Own.refl w v).trans HC2.out.size ho3)
   clear hR3 hc3 ho3
   go_wp2_with fail
   refine (pis_miss_new HR3.out [18] 1 rfl _ rfl (by omega) (by omega) (by decide) (by simp; exact h18)).mono ?_
   rintro e w4 ⟨rfl, hR4, hc4⟩
   obtain ⟨c0, c1, c2, c3, f1, f2, f3⟩ := hR4.cells
   have hd : RdrP g A cap l B (w4.setCell ⟨g, 3, none⟩ (.bool true)) s1.fail v3 ∧ ChgR g v w (w4.setCell ⟨g, 3, none⟩ (.bool true)) ∧ Own w v v3 := ⟨hR4.setBad (by decide) true, (HC3.out.then HO3.out hc4).trans (chg_setG v _ 3 _), HO3.out⟩
   clear hR4 hc4
   go_wp2_with fail
   go_end0
   exact ⟨⟨_, rfl⟩, v3, hd⟩
 ·obtain rfl : s' = s.fail := by
   cases hp with
   | row hv => omega
   | none_ _ => rfl
   | _ => omega
  clear hp
  go_enter Tryz.func161, Tryz.ntmps161
  go_wp2_with fail
  refine (pis_miss_new HR.out [4] 1 rfl _ rfl (by omega) hat (by decide) n4).mono ?_
  rintro e w1 ⟨rfl, hR1, hc1⟩
  have HR1 := Lib.hid hR1
  have HC1 := Lib.hid hc1
  clear hR1 hc1
  go_wp2_with fail
  refine (pis_miss_new HR1.out [1, 2, 15, 16, 17] 5 rfl _ rfl (by omega) hat (by decide) (by simp; omega)).mono ?_
  rintro e w2 ⟨rfl, hR2, hc2⟩
  obtain ⟨c0, c1, c2, c3, f1, f2, f3⟩ := hR2.cells
  have hd : RdrP g A cap l B (w2.setCell ⟨g, 3, none⟩ (.bool true)) s.fail v ∧ ChgR g v w (w2.setCell ⟨g, 3, none⟩ (.bool true)) ∧ Own w v v := ⟨hR2.setBad (by decide) true, (HC1.out.then (Own.refl _ _) hc2).trans (chg_setG v _ 3 _), Own.refl _ _⟩
  clear hR2 hc2
  go_wp2_with fail
  go_end0
  exact ⟨⟨_, rfl⟩, v, hd⟩
theorem reads_all (l : List T) (hl : l.length ≤ 100000) : ∀ N, ReadsP 79 l 1 N ∧ ReadsP 100 l 2 N ∧ ReadsP 124 l 3 N ∧ ReadsP 138 l 4 N ∧ ReadsP 151 l 5 N ∧ ReadsP 161 l 6 N
 | 0 => by refine ⟨?_, ?_, ?_, ?_, ?_, ?_⟩ <;> (intro g A cap B w s v s' _ _ _ h; omega)
 | N + 1 => by
  obtain ⟨h1, h2, h3, h4, h5, h6⟩ := reads_all l hl N
  exact ⟨or_any l hl N h2, and_any l hl N h3, not_any l hl N h3 h4, sum_any l hl N h5, product_any l hl N h6, signed_any l hl N h6 h1⟩
end Go.Proofs.YtikilglbhnplaaaGreatDoor
end
section
namespace Go.Proofs.YtikilglbhnplaaaGreatDoor.PX
theorem pr_total (l : List T) (n : Nat) : (∀ (v : Nat) (s : St), 1 ≤ v → v ≤ 6 → s.at_ ≤ l.length → (l.length - s.at_) * 8 + (7 - v) < n → ∃ s', Pr l false v s s') ∧
  (∀ (v : Nat) (s : St), (v = 1 ∨ v = 2 ∨ v = 4 ∨ v = 5) → s.at_ ≤ l.length → (l.length - s.at_) * 8 < n → ∃ s', Pr l true v s s') := by
 induction n with
 | zero => exact ⟨fun _ _ _ _ _ h => by omega, fun _ _ _ _ h => by omega⟩
 | succ n ih =>
  obtain ⟨i1, i2⟩ := ih
  have tails : ∀ (v : Nat) (s : St), (v = 1 ∨ v = 2 ∨ v = 4 ∨ v = 5) → s.at_ ≤ l.length → (l.length - s.at_) * 8 < n + 1 → ∃ s', Pr l true v s s' := by
   intro v s hv ha hn
   by_cases h : level (s.see l) = v
   ·have hlt := see_lt (level_see h (by omega))
    obtain ⟨s1, h1⟩ := i1 (v + 1) s.adv (by omega) (by omega) (by rw [adv_at]; omega) (by rw [adv_at]; omega)
    have hle := h1.le (by omega) (by rw [adv_at]; omega)
    rw [adv_at] at hle
    obtain ⟨s2, h2⟩ := i2 v (s1.put (s.see l) 0) hv (by rw [put_at]; omega) (by rw [put_at]; omega)
    exact ⟨s2, .more h h1 h2⟩
   ·exact ⟨s, .stop h⟩
  refine ⟨?_, tails⟩
  intro v s h1 h6 ha hn
  by_cases hr : v = 1 ∨ v = 2 ∨ v = 4 ∨ v = 5
  ·obtain ⟨s1, g1⟩ := i1 (v + 1) s (by omega) (by omega) ha (by omega)
   have hle := g1.le (by omega) ha
   obtain ⟨s2, g2⟩ := tails v s1 hr (by omega) (by omega)
   exact ⟨s2, .row hr g1 g2⟩
  ·by_cases h3 : v = 3
   ·subst h3
    by_cases h14 : s.see l = 14
    ·have hlt := see_at h14 (by omega)
     obtain ⟨s1, g1⟩ := i1 3 s.adv (by omega) (by omega) (by rw [adv_at]; omega) (by rw [adv_at]; omega)
     exact ⟨_, .not_ h14 g1⟩
    ·obtain ⟨s1, g1⟩ := i1 4 s (by omega) (by omega) ha (by omega)
     have hle := g1.le (by omega) ha
     by_cases hc : level (s1.see l) = 3
     ·have hlt := see_lt (level_see hc (by omega))
      obtain ⟨s2, g2⟩ := i1 4 s1.adv (by omega) (by omega) (by rw [adv_at]; omega) (by rw [adv_at]; omega)
      exact ⟨_, .cmp h14 g1 hc g2⟩
     ·exact ⟨_, .sum h14 g1 hc⟩
   ·obtain rfl : v = 6 := by omega
    by_cases h4 : s.see l = 4
    ·have hlt := see_at h4 (by omega)
     obtain ⟨s1, g1⟩ := i1 6 s.adv (by omega) (by omega) (by rw [adv_at]; omega) (by rw [adv_at]; omega)
     exact ⟨_, .neg h4 g1⟩
    ·by_cases hl : s.see l = 1 ∨ s.see l = 2 ∨ s.see l = 15 ∨ s.see l = 16
     ·exact ⟨_, .leaf hl⟩
     ·by_cases h17 : s.see l = 17
      ·have hlt := see_at h17 (by omega)
       obtain ⟨s1, g1⟩ := i1 1 s.adv (by omega) (by omega) (by rw [adv_at]; omega) (by rw [adv_at]; omega)
       by_cases h18 : s1.see l = 18
       ·exact ⟨_, .open_ h17 g1 h18⟩
       ·exact ⟨_, .openBad h17 g1 h18⟩
      ·exact ⟨_, .none_ (by omega)⟩
theorem pr_ex (l : List T) (v : Nat) (s : St) (h1 : 1 ≤ v) (h6 : v ≤ 6) (ha : s.at_ ≤ l.length) : ∃ s', Pr l false v s s' := (pr_total l ((l.length - s.at_) * 8 + 8)).1 v s h1 h6 ha (by omega)
end Go.Proofs.YtikilglbhnplaaaGreatDoor.PX
end
section
namespace Go.Proofs.YtikilglbhnplaaaGreatDoor.PX
def isDigit (c : UInt8) : Bool := decide (48 ≤ c.toNat) && decide (c.toNat ≤ 57)
def isLetter (c : UInt8) : Bool := decide (97 ≤ c.toNat) && decide (c.toNat ≤ 122)
def numOf (l : List UInt8) : Nat := l.foldl (fun n c => 10 * n + (c.toNat - 48)) 0
def wordOf (l : List UInt8) : Int :=
 if l = [116, 114, 117, 101] then 15 else if l = [102, 97, 108, 115, 101] then 16 else if l = [97, 110, 100] then 12 else if l = [111, 114] then 13 else if l = [110, 111, 116] then 14 else 0
def signOf : List UInt8 → Int × Nat
 | [] => (0, 0)
 | [c] => (oneSign c, if oneSign c = 0 then 0 else 1)
 | c :: d :: _ => if d = 61 ∧ c = 60 then (9, 2) else if d = 61 ∧ c = 61 then (10, 2) else if d = 61 ∧ c = 33 then (11, 2) else (oneSign c, if oneSign c = 0 then 0 else 1)
where oneSign (c : UInt8) : Int :=
 if c = 43 then 3 else if c = 45 then 4 else if c = 42 then 5 else if c = 47 then 6 else if c = 37 then 7 else if c = 60 then 8 else if c = 40 then 17 else if c = 41 then 18 else 0
def first (l : List UInt8) : Option (Int × Int × Nat) :=
 if 0 < (l.takeWhile isDigit).length then
  if numOf (l.takeWhile isDigit) ≤ 9223372036854775807 then some (1, numOf (l.takeWhile isDigit), (l.takeWhile isDigit).length) else none
 else if 0 < (l.takeWhile isLetter).length then
  if (l.takeWhile isLetter).length = 1 then some (2, (l.headD 0).toNat - 97, 1)
  else if wordOf (l.takeWhile isLetter) = 0 then none else some (wordOf (l.takeWhile isLetter), 0, (l.takeWhile isLetter).length)
 else if (signOf l).2 = 0 then none else some ((signOf l).1, 0, (signOf l).2)
theorem takeWhile_le {α : Type} (p : α → Bool) (l : List α) : (l.takeWhile p).length ≤ l.length := by
 induction l with
 | nil => simp
 | cons a l ih => simp only [List.takeWhile_cons]; split <;> simp; exact ih
theorem signOf_le (l : List UInt8) : (signOf l).2 ≤ l.length := by
 unfold signOf
 split
 ·simp
 ·simp only; split <;> simp
 ·simp only [List.length_cons]; split <;> (try split) <;> (try split) <;> (try split) <;> simp <;> omega
theorem first_pos {l : List UInt8} {k n : Int} {m : Nat} (h : first l = some (k, n, m)) : 0 < m ∧ m ≤ l.length := by
 have h1 := takeWhile_le isDigit l
 have h2 := takeWhile_le isLetter l
 have h3 := signOf_le l
 unfold first at h
 split at h
 ·split at h
  ·simp only [Option.some.injEq, Prod.mk.injEq] at h; omega
  ·cases h
 ·split at h
  ·split at h
   ·simp only [Option.some.injEq, Prod.mk.injEq] at h; omega
   ·split at h
    ·cases h
    ·simp only [Option.some.injEq, Prod.mk.injEq] at h; omega
  ·split at h
   ·cases h
   ·simp only [Option.some.injEq, Prod.mk.injEq] at h; omega
def lexAt (l : List UInt8) (at_ : Nat) : List T × Option Nat :=
 match l with
 | [] => ([], none)
 | c :: l' =>
  if c = 32 then lexAt l' (at_ + 1)
  else match h : first (c :: l') with
   | none => ([], some at_)
   | some (k, n, m) => (⟨k, n, (at_ : Int)⟩ :: (lexAt ((c :: l').drop m) (at_ + m)).1, (lexAt ((c :: l').drop m) (at_ + m)).2)
termination_by l.length
decreasing_by
 ·simp
 ·have := first_pos h; simp only [List.length_drop, List.length_cons] at *; omega
theorem lexAt_nil (a : Nat) : lexAt [] a = ([], none) := by rw [lexAt]
theorem lexAt_space (l : List UInt8) (a : Nat) : lexAt (32 :: l) a = lexAt l (a + 1) := by rw [lexAt]; simp
theorem lexAt_bad {c : UInt8} {l : List UInt8} (hc : c ≠ 32) (h : first (c :: l) = none) (a : Nat) : lexAt (c :: l) a = ([], some a) := by
 rw [lexAt]; rw [if_neg hc]; split
 ·rfl
 ·rename_i h'; rw [h] at h'; cases h'
theorem lexAt_tok {c : UInt8} {l : List UInt8} (hc : c ≠ 32) {k n : Int} {m : Nat} (h : first (c :: l) = some (k, n, m)) (a : Nat) :
  lexAt (c :: l) a = (⟨k, n, (a : Int)⟩ :: (lexAt ((c :: l).drop m) (a + m)).1, (lexAt ((c :: l).drop m) (a + m)).2) := by
 rw [lexAt]; rw [if_neg hc]; split
 ·rename_i h'; rw [h] at h'; cases h'
 ·rename_i k' n' m' h'
  rw [h] at h'
  simp only [Option.some.injEq, Prod.mk.injEq] at h'
  obtain ⟨rfl, rfl, rfl⟩ := h'
  rfl
end Go.Proofs.YtikilglbhnplaaaGreatDoor.PX
end
section
namespace Go.Proofs.YtikilglbhnplaaaGreatDoor
open Go.RowKit PX
theorem digit_any (c : UInt8) (w : World) : Calls Tryz.prog 116 #[.int .u8 (c.toNat : Int)] w fun e w' => e = .returned (.bool (isDigit c)) ∧ w = w' := by
 have e : isDigit c = (decide ((48 : Int) ≤ (c.toNat : Int)) && decide ((c.toNat : Int) ≤ 57)) := by
  unfold isDigit; rw [Bool.eq_iff_iff]; simp; omega
 by_cases h : (48 : Int) ≤ (c.toNat : Int)
 ·rw [decide_eq_true h] at e
  have E := Lib.hid e
  clear e
  go_enter Tryz.func116, Tryz.ntmps116
  go_wp2
  go_ret
  exact ⟨ret_bool (by rw [E.out]; simp), rfl⟩
 ·rw [decide_eq_false h] at e
  have E := Lib.hid e
  clear e
  go_enter Tryz.func116, Tryz.ntmps116
  go_wp2
  go_ret
  exact ⟨ret_bool (by rw [E.out]; simp), rfl⟩
theorem letter_any (c : UInt8) (w : World) : Calls Tryz.prog 118 #[.int .u8 (c.toNat : Int)] w fun e w' => e = .returned (.bool (isLetter c)) ∧ w = w' := by
 have e : isLetter c = (decide ((97 : Int) ≤ (c.toNat : Int)) && decide ((c.toNat : Int) ≤ 122)) := by
  unfold isLetter; rw [Bool.eq_iff_iff]; simp; omega
 by_cases h : (97 : Int) ≤ (c.toNat : Int)
 ·rw [decide_eq_true h] at e
  have E := Lib.hid e
  clear e
  go_enter Tryz.func118, Tryz.ntmps118
  go_wp2
  go_ret
  exact ⟨ret_bool (by rw [E.out]; simp), rfl⟩
 ·rw [decide_eq_false h] at e
  have E := Lib.hid e
  clear e
  go_enter Tryz.func118, Tryz.ntmps118
  go_wp2
  go_ret
  exact ⟨ret_bool (by rw [E.out]; simp), rfl⟩
theorem takeWhile_drop {α : Type} (p : α → Bool) (l : List α) (k : Nat) (hk : k ≤ l.length) (h : ∀ i (hi : i < k), p (l[i]'(by omega)) = true) : (l.takeWhile p).length = k + ((l.drop k).takeWhile p).length := by
 induction l generalizing k with
 | nil => simp at hk; subst hk; simp
 | cons a l ih =>
  cases k with
  | zero => simp
  | succ k =>
   have h0 := h 0 (by omega)
   simp only [List.getElem_cons_zero] at h0
   have := ih k (by simpa using hk) (fun i hi => by have := h (i + 1) (by omega); simpa using this)
   simp [List.takeWhile_cons, h0, this]; omega
theorem takeWhile_stop {α : Type} (p : α → Bool) (l : List α) (k : Nat) (hk : k < l.length) (h : ∀ i (hi : i < k), p (l[i]'(by omega)) = true) (hp : p l[k] = false) : (l.takeWhile p).length = k := by
 rw [takeWhile_drop p l k (by omega) h, List.drop_eq_getElem_cons hk, List.takeWhile_cons, hp]; simp
theorem takeWhile_all {α : Type} (p : α → Bool) (l : List α) (h : ∀ i (hi : i < l.length), p l[i] = true) : (l.takeWhile p).length = l.length := by
 rw [takeWhile_drop p l l.length (by omega) h]; simp
theorem run_digit (s : ByteArray) (hs : s.size ≤ 9223372036854775806) (w : World) : Calls Tryz.prog 115 #[.string s, .func (.func 116) #[] #[]] w fun e w' => e = .returned (.int .i64 ((s.data.toList.takeWhile isDigit).length : Nat)) ∧ w = w' := by
 have hsz : s.data.toList.length = s.size := by simp
 have HSZ := Lib.hid hsz
 clear hsz
 go_enter Tryz.func115, Tryz.ntmps115
 go_wp2
 go_loop [5] (fun i => ∃ k : Nat, k ≤ s.size ∧ i = .int .i64 k ∧ Hid (∀ i (_ : i < k) (hj : i < s.data.toList.length), isDigit s.data.toList[i] = true)) (fun i => s.size - (intOf i).toNat)
 case atStart => exact ⟨0, by omega, rfl, Lib.hid (fun i hi => by omega)⟩
 case round =>
  obtain ⟨k, hk, rfl, H⟩ := hrel
  by_cases hlt : k < s.size
  ·cases hd : isDigit s[k]
   ·have HD := Lib.hid hd
    clear hd
    go_wp2_with fail
    refine (digit_any s[k] _).mono ?_
    rw [HD.out]
    rintro e w' ⟨rfl, rfl⟩
    go_wp2
    go_ret
    exact ⟨ret_int (by rw [takeWhile_stop isDigit s.data.toList k (by rw [HSZ.out]; exact hlt) (fun i hi => H.out i hi _) HD.out]), rfl⟩
   ·have HD := Lib.hid hd
    clear hd
    go_wp2_with fail
    refine (digit_any s[k] _).mono ?_
    rw [HD.out]
    rintro e w' ⟨rfl, rfl⟩
    go_wp2
    go_round
    case rel =>
     refine ⟨k + 1, by omega, by go_num, Lib.hid (fun i hi hj => ?_)⟩
     rcases Nat.lt_or_ge i k with h | h
     ·exact H.out i h hj
     ·obtain rfl : i = k := by omega
      exact HD.out
    case measure => simp [intOf]; omega
  ·obtain rfl : k = s.size := by omega
   go_wp2
   go_ret
   exact ⟨ret_int (by rw [takeWhile_all isDigit s.data.toList (fun i hi => H.out i (by rw [← HSZ.out]; exact hi) hi), HSZ.out]), rfl⟩
theorem run_letter (s : ByteArray) (hs : s.size ≤ 9223372036854775806) (w : World) : Calls Tryz.prog 115 #[.string s, .func (.func 118) #[] #[]] w fun e w' => e = .returned (.int .i64 ((s.data.toList.takeWhile isLetter).length : Nat)) ∧ w = w' := by
 have hsz : s.data.toList.length = s.size := by simp
 have HSZ := Lib.hid hsz
 clear hsz
 go_enter Tryz.func115, Tryz.ntmps115
 go_wp2
 go_loop [5] (fun i => ∃ k : Nat, k ≤ s.size ∧ i = .int .i64 k ∧ Hid (∀ i (_ : i < k) (hj : i < s.data.toList.length), isLetter s.data.toList[i] = true)) (fun i => s.size - (intOf i).toNat)
 case atStart => exact ⟨0, by omega, rfl, Lib.hid (fun i hi => by omega)⟩
 case round =>
  obtain ⟨k, hk, rfl, H⟩ := hrel
  by_cases hlt : k < s.size
  ·cases hd : isLetter s[k]
   ·have HD := Lib.hid hd
    clear hd
    go_wp2_with fail
    refine (letter_any s[k] _).mono ?_
    rw [HD.out]
    rintro e w' ⟨rfl, rfl⟩
    go_wp2
    go_ret
    exact ⟨ret_int (by rw [takeWhile_stop isLetter s.data.toList k (by rw [HSZ.out]; exact hlt) (fun i hi => H.out i hi _) HD.out]), rfl⟩
   ·have HD := Lib.hid hd
    clear hd
    go_wp2_with fail
    refine (letter_any s[k] _).mono ?_
    rw [HD.out]
    rintro e w' ⟨rfl, rfl⟩
    go_wp2
    go_round
    case rel =>
     refine ⟨k + 1, by omega, by go_num, Lib.hid (fun i hi hj => ?_)⟩
     rcases Nat.lt_or_ge i k with h | h
     ·exact H.out i h hj
     ·obtain rfl : i = k := by omega
      exact HD.out
    case measure => simp [intOf]; omega
  ·obtain rfl : k = s.size := by omega
   go_wp2
   go_ret
   exact ⟨ret_int (by rw [takeWhile_all isLetter s.data.toList (fun i hi => H.out i (by rw [← HSZ.out]; exact hi) hi), HSZ.out]), rfl⟩
end Go.Proofs.YtikilglbhnplaaaGreatDoor
end
section
namespace Go.Proofs.YtikilglbhnplaaaGreatDoor
open Go.RowKit PX
theorem foldl_ge (l : List UInt8) (a : Nat) : a ≤ l.foldl (fun n c => 10 * n + (c.toNat - 48)) a := by
 induction l generalizing a with
 | nil => simp
 | cons c l ih => simp only [List.foldl_cons]; have := ih (10 * a + (c.toNat - 48)); omega
theorem parseUintM_digits (l : List UInt8) (h : ∀ c ∈ l, isDigit c = true) (a : Nat) (ha : a ≤ 18446744073709551615) (v : Nat) (hv : l.foldl (fun n c => 10 * n + (c.toNat - 48)) a = v) :
  Lib.parseUintM 18446744073709551615 a l = if v ≤ 18446744073709551615 then .ok v else .range := by
 induction l generalizing a with
 | nil => obtain rfl : a = v := hv; simp [Lib.parseUintM, ha]
 | cons c l ih =>
  have hc := h c (by simp)
  simp only [isDigit, Bool.and_eq_true, decide_eq_true_eq] at hc
  have hg := foldl_ge l (10 * a + (c.toNat - 48))
  rw [List.foldl_cons] at hv
  rw [hv] at hg
  simp only [Lib.parseUintM]
  rw [if_pos hc]
  by_cases h1 : 1844674407370955162 ≤ a
  ·rw [if_pos h1, if_neg (by omega)]
  ·rw [if_neg h1]
   by_cases h2 : 18446744073709551615 < a * 10 + (c.toNat - 48)
   ·rw [if_pos h2, if_neg (by omega)]
   ·rw [if_neg h2]
    exact ih (fun c hc => h c (by simp [hc])) _ (by omega) (by rw [Nat.mul_comm a 10]; exact hv)
theorem parseInt_digits (l : List UInt8) (hl : l ≠ []) (h : ∀ c ∈ l, isDigit c = true) :
  Lib.parseIntB 64 l = if numOf l ≤ 9223372036854775807 then .ok (numOf l : Int) else .range := by
 obtain ⟨c, r, rfl⟩ : ∃ c r, l = c :: r := by cases l with
  | nil => exact absurd rfl hl
  | cons c r => exact ⟨c, r, rfl⟩
 have hc := h c (by simp)
 simp only [isDigit, Bool.and_eq_true, decide_eq_true_eq] at hc
 have e : Lib.parseUintB 64 (c :: r) = if numOf (c :: r) ≤ 18446744073709551615 then .ok (numOf (c :: r)) else .range := by
  unfold Lib.parseUintB
  rw [if_neg (by simp)]
  exact parseUintM_digits (c :: r) h 0 (by omega) _ rfl
 simp only [Lib.parseIntB]
 rw [if_neg (by omega), e]
 by_cases h1 : numOf (c :: r) ≤ 18446744073709551615
 ·rw [if_pos h1]
  simp only
  by_cases h2 : numOf (c :: r) ≤ 9223372036854775807
  ·rw [if_pos h2, if_neg (by simp; omega), if_neg (by simp; omega), if_neg (by omega)]
  ·rw [if_neg h2, if_pos (by simp; omega)]
 ·rw [if_neg h1, if_neg (by omega)]
theorem takeWhile_mem {α : Type} (p : α → Bool) (l : List α) : ∀ c ∈ l.takeWhile p, p c = true := by
 induction l with
 | nil => simp
 | cons a l ih =>
  intro c hc
  rw [List.takeWhile_cons] at hc
  split at hc
  ·rename_i h
   rcases List.mem_cons.1 hc with rfl | hc
   ·exact h
   ·exact ih c hc
  ·simp at hc
theorem take_takeWhile {α : Type} (p : α → Bool) (l : List α) : l.take (l.takeWhile p).length = l.takeWhile p := by
 induction l with
 | nil => rfl
 | cons a l ih => rw [List.takeWhile_cons]; split <;> simp [*]
def wordL : List PAll.S173 := [⟨⟨#[116, 114, 117, 101]⟩, 15⟩, ⟨⟨#[102, 97, 108, 115, 101]⟩, 16⟩, ⟨⟨#[97, 110, 100]⟩, 12⟩, ⟨⟨#[111, 114]⟩, 13⟩, ⟨⟨#[110, 111, 116]⟩, 14⟩]
def signL : List PAll.S173 := [⟨⟨#[60, 61]⟩, 9⟩, ⟨⟨#[61, 61]⟩, 10⟩, ⟨⟨#[33, 61]⟩, 11⟩, ⟨⟨#[43]⟩, 3⟩, ⟨⟨#[45]⟩, 4⟩, ⟨⟨#[42]⟩, 5⟩, ⟨⟨#[47]⟩, 6⟩, ⟨⟨#[37]⟩, 7⟩, ⟨⟨#[60]⟩, 8⟩, ⟨⟨#[40]⟩, 17⟩, ⟨⟨#[41]⟩, 18⟩]
theorem words_f : PAll.lex_words.f = some wordL := rfl
theorem signs_f : PAll.lex_signs.f = some signL := rfl
theorem word_hit (k : Nat) (hk : k < 5) (l : List UInt8) (h : (PAll.rd_T173 wordL k).f0.data.toList = l) : wordOf l = (PAll.rd_T173 wordL k).f1 ∧ wordOf l ≠ 0 := by
 subst h
 obtain rfl | rfl | rfl | rfl | rfl : k = 0 ∨ k = 1 ∨ k = 2 ∨ k = 3 ∨ k = 4 := by omega
 all_goals exact ⟨by decide, by decide⟩
theorem word_miss (l : List UInt8) (h : ∀ k : Nat, k < 5 → (PAll.rd_T173 wordL k).f0.data.toList ≠ l) : wordOf l = 0 := by
 unfold wordOf
 rw [if_neg (fun e => h 0 (by omega) e.symm), if_neg (fun e => h 1 (by omega) e.symm), if_neg (fun e => h 2 (by omega) e.symm), if_neg (fun e => h 3 (by omega) e.symm), if_neg (fun e => h 4 (by omega) e.symm)]
def begins (l : List UInt8) (k : Nat) : Bool := Lib.hasPrefix l (PAll.rd_T173 signL k).f0.data.toList
theorem begins_nil (k : Nat) (hk : k < 11) : begins [] k = false := by
 obtain rfl | rfl | rfl | rfl | rfl | rfl | rfl | rfl | rfl | rfl | rfl : k = 0 ∨ k = 1 ∨ k = 2 ∨ k = 3 ∨ k = 4 ∨ k = 5 ∨ k = 6 ∨ k = 7 ∨ k = 8 ∨ k = 9 ∨ k = 10 := by omega
 all_goals rfl
theorem sign_hit (k : Nat) (hk : k < 11) (l : List UInt8) (h : ∀ j : Nat, j < k → begins l j = false) (hb : begins l k = true) :
  signOf l = ((PAll.rd_T173 signL k).f1, (PAll.rd_T173 signL k).f0.size) ∧ (signOf l).2 ≠ 0 := by
 match l, h, hb with
 | [], _, hb => rw [begins_nil k hk] at hb; cases hb
 | [c], h, hb =>
  obtain rfl | rfl | rfl | rfl | rfl | rfl | rfl | rfl | rfl | rfl | rfl : k = 0 ∨ k = 1 ∨ k = 2 ∨ k = 3 ∨ k = 4 ∨ k = 5 ∨ k = 6 ∨ k = 7 ∨ k = 8 ∨ k = 9 ∨ k = 10 := by omega
  all_goals
   simp [begins, Lib.hasPrefix, PAll.rd_T173, signL, List.isPrefixOf] at hb
   try (subst hb; exact ⟨rfl, by decide⟩)
 | c :: d :: r, h, hb =>
  have h0 := h 0
  have h1 := h 1
  have h2 := h 2
  obtain rfl | rfl | rfl | rfl | rfl | rfl | rfl | rfl | rfl | rfl | rfl : k = 0 ∨ k = 1 ∨ k = 2 ∨ k = 3 ∨ k = 4 ∨ k = 5 ∨ k = 6 ∨ k = 7 ∨ k = 8 ∨ k = 9 ∨ k = 10 := by omega
  all_goals
   simp [begins, Lib.hasPrefix, PAll.rd_T173, signL, List.isPrefixOf] at hb h0 h1 h2
  all_goals first
   | (obtain ⟨rfl, rfl⟩ := hb; exact ⟨rfl, by simp [signOf]⟩)
   | (subst hb; simp only [signOf]; rw [if_neg (by rintro ⟨e1, e2⟩; simp_all), if_neg (by rintro ⟨e1, e2⟩; simp_all), if_neg (by rintro ⟨e1, e2⟩; simp_all)]; exact ⟨rfl, by decide⟩)
theorem sign_miss (l : List UInt8) (h : ∀ k : Nat, k < 11 → begins l k = false) : (signOf l).2 = 0 := by
 have h0 := h 0 (by omega)
 have h1 := h 1 (by omega)
 have h2 := h 2 (by omega)
 have h3 := h 3 (by omega)
 have h4 := h 4 (by omega)
 have h5 := h 5 (by omega)
 have h6 := h 6 (by omega)
 have h7 := h 7 (by omega)
 have h8 := h 8 (by omega)
 have h9 := h 9 (by omega)
 have h10 := h 10 (by omega)
 match l, h0, h1, h2, h3, h4, h5, h6, h7, h8, h9, h10 with
 | [], _, _, _, _, _, _, _, _, _, _, _ => rfl
 | [c], h0, h1, h2, h3, h4, h5, h6, h7, h8, h9, h10 =>
  simp [begins, Lib.hasPrefix, PAll.rd_T173, signL, List.isPrefixOf] at h0 h1 h2 h3 h4 h5 h6 h7 h8 h9 h10
  simp [signOf, signOf.oneSign, Ne.symm h3, Ne.symm h4, Ne.symm h5, Ne.symm h6, Ne.symm h7, Ne.symm h8, Ne.symm h9, Ne.symm h10]
 | c :: d :: r, h0, h1, h2, h3, h4, h5, h6, h7, h8, h9, h10 =>
  simp [begins, Lib.hasPrefix, PAll.rd_T173, signL, List.isPrefixOf] at h0 h1 h2 h3 h4 h5 h6 h7 h8 h9 h10
  simp only [signOf]
  rw [if_neg (by rintro ⟨rfl, rfl⟩; simp at h0), if_neg (by rintro ⟨rfl, rfl⟩; simp at h1), if_neg (by rintro ⟨rfl, rfl⟩; simp at h2)]
  simp [signOf.oneSign, Ne.symm h3, Ne.symm h4, Ne.symm h5, Ne.symm h6, Ne.symm h7, Ne.symm h8, Ne.symm h9, Ne.symm h10]
end Go.Proofs.YtikilglbhnplaaaGreatDoor
end
section
namespace Go.Proofs.YtikilglbhnplaaaGreatDoor
open Go.RowKit PX Go.Proofs.YtikilglbhnplaaaGreatDoorW.PrintWords
structure Laid (w : World) : Prop where
 range : ∃ tp p, w.var? Tryz.prog "strconv.ErrRange" = some #[.iface tp p]
 pow : Lib.TabIs Tryz.prog w "internal/strconv.uint64pow10" .u64 Lib.pow10Tab
theorem var_below {P : Program} {w w' : World} (hb : Below w.heap.size w w') {n : String} {cs : Array Value} (h : w.var? P n = some cs) : w'.var? P n = some cs := by
 unfold World.var? at *
 obtain ⟨g, hg, h⟩ := Option.bind_eq_some_iff.1 h
 rw [hg]
 simp only [Option.bind_some]
 have hlt : g < w.heap.size := by
  rcases Nat.lt_or_ge g w.heap.size with hl | hl
  ·exact hl
  ·rw [Array.getElem?_eq_none hl] at h; cases h
 rw [hb.block g hlt]
 exact h
theorem Laid.below {w w' : World} (h : Laid w) (hb : Below w.heap.size w w') : Laid w' := by
 obtain ⟨tp, p, hv⟩ := h.range
 exact ⟨⟨tp, p, var_below hb hv⟩, var_below hb h.pow⟩
theorem parse_ok (s : ByteArray) (hs : s.size ≤ 9223372036854775806) (v : Int) (h : Lib.parseIntB 64 s.data.toList = .ok v) (w : World) :
  Calls Tryz.prog 117 #[.string s, .int .i64 10, .int .i64 64] w fun e w' => e = .returned (.tuple #[.int .i64 v, .nilIface]) ∧ Below w.heap.size w w' := by
 refine (Tryz.strconv_ParseInt_10_at64_ok s hs v h w).mono ?_
 rintro e w' ⟨rfl, rfl | ⟨t, rfl⟩⟩
 ·exact ⟨rfl, Below.refl _ _⟩
 ·exact ⟨rfl, Lib.bytesWorld_below _ _ _⟩
theorem parse_range (s : ByteArray) (hs : s.size ≤ 281474976710656) (h : Lib.parseIntB 64 s.data.toList = .range) (w : World) (hw : Laid w) :
  Calls Tryz.prog 117 #[.string s, .int .i64 10, .int .i64 64] w fun e w' => ∃ v tp p, e = .returned (.tuple #[.int .i64 v, .iface tp p]) ∧ Below w.heap.size w w' := by
 obtain ⟨tp, p, hv⟩ := hw.range
 refine (Tryz.strconv_ParseInt_10_at64_range_var s hs h tp p w hv).mono ?_
 rintro e w' ⟨N, rfl, _, _, hb⟩
 exact ⟨_, _, _, rfl, hb⟩
theorem head_of {α : Type} (p : α → Bool) (l : List α) (d : α) (h : 0 < (l.takeWhile p).length) : p (l.headD d) = true := by
 cases l with
 | nil => simp at h
 | cons a l =>
  rw [List.takeWhile_cons] at h
  split at h
  ·assumption
  ·simp at h
theorem headD_at (s : ByteArray) (h : 0 < s.size) : s.data.toList.headD 0 = s[0] := by
 obtain ⟨⟨l⟩⟩ := s
 cases l with
 | nil => simp [ByteArray.size] at h
 | cons a l => rfl
theorem words_any (w : World) : Calls Tryz.prog 119 #[] w fun e w' => ∃ ad cp, e = .returned (.slice (some ad) 5 cp) ∧ Kd.C PAll.k173 w' (some ad) 5 wordL ∧ Below w.heap.size w w' := by
 refine (PAll.lex_words.calls wordL w words_f).mono ?_
 rintro e w2 ⟨v2, rfl, hR, hb2⟩
 obtain ⟨A, cp, rfl, hcl, hC⟩ := Kd.R_reads hR
 obtain ⟨ad, rfl, _⟩ := PAll.at_T173 hC 0 (by omega) (by decide)
 exact ⟨ad, cp, rfl, hC, hb2⟩
theorem signs_any (w : World) : Calls Tryz.prog 120 #[] w fun e w' => ∃ ad cp, e = .returned (.slice (some ad) 11 cp) ∧ Kd.C PAll.k173 w' (some ad) 11 signL ∧ Below w.heap.size w w' := by
 refine (PAll.lex_signs.calls signL w signs_f).mono ?_
 rintro e w2 ⟨v2, rfl, hR, hb2⟩
 obtain ⟨A, cp, rfl, hcl, hC⟩ := Kd.R_reads hR
 obtain ⟨ad, rfl, _⟩ := PAll.at_T173 hC 0 (by omega) (by decide)
 exact ⟨ad, cp, rfl, hC, hb2⟩
def firstV : Option (Int × Int × Nat) → Value
 | none => .tuple #[.agg #[.int .i64 0, .int .i64 0, .int .i64 0], .int .i64 0]
 | some (k, n, m) => .tuple #[.agg #[.int .i64 k, .int .i64 n, .int .i64 0], .int .i64 (m : Nat)]
theorem extract_take (s : ByteArray) (n : Nat) : (s.extract 0 n).data.toList = s.data.toList.take n := by simp
theorem first_any (s : ByteArray) (hs : s.size ≤ 281474976710656) (w : World) (hw : Laid w) :
  Calls Tryz.prog 98 #[.string s] w fun e w' => e = .returned (firstV (first s.data.toList)) ∧ Below w.heap.size w w' := by
 have hl1 := takeWhile_le isDigit s.data.toList
 have hl2 := takeWhile_le isLetter s.data.toList
 have hsz : s.data.toList.length = s.size := by simp
 rw [hsz] at hl1 hl2
 have HSZ := Lib.hid hsz
 clear hsz
 by_cases hd : 0 < (s.data.toList.takeWhile isDigit).length
 ·have hp : Lib.parseIntB 64 (s.extract 0 (s.data.toList.takeWhile isDigit).length).data.toList = if numOf (s.data.toList.takeWhile isDigit) ≤ 9223372036854775807 then .ok (numOf (s.data.toList.takeWhile isDigit) : Int) else .range := by
   rw [extract_take, take_takeWhile]
   exact parseInt_digits (s.data.toList.takeWhile isDigit) (by intro e; rw [e] at hd; simp at hd) (takeWhile_mem _ _)
  have hf : first s.data.toList = if numOf (s.data.toList.takeWhile isDigit) ≤ 9223372036854775807 then some (1, (numOf (s.data.toList.takeWhile isDigit) : Int), (s.data.toList.takeWhile isDigit).length) else none := by
   rw [first, if_pos hd]
  by_cases hn : numOf (s.data.toList.takeWhile isDigit) ≤ 9223372036854775807
  ·rw [if_pos hn] at hp hf
   have HP := Lib.hid hp
   have HF := Lib.hid hf
   clear hp hf
   generalize hm : (s.data.toList.takeWhile isDigit).length = m at *
   have HM := Lib.hid hm
   clear hm
   go_enter Tryz.func98, Tryz.ntmps98
   go_wp2_with fail
   refine (run_digit s (by omega) _).mono ?_
   rw [HM.out]
   rintro e w1 ⟨rfl, rfl⟩
   go_wp2_with fail
   refine (parse_ok _ (by rw [ByteArray.size_extract]; omega) _ HP.out _).mono ?_
   rintro e w2 ⟨rfl, hb2⟩
   obtain ⟨c0, c1, c2, f0, f1, f2, hz2, hb⟩ := laid3 hb2
   go_wp2_with fail
   refine bodyPost_ret (v := .tuple #[.agg #[.int .i64 1, .int .i64 (numOf (s.data.toList.takeWhile isDigit) : Nat), .int .i64 0], .int .i64 (m : Nat)]) (by simp [results, Tryz.results98, go_sem, c0, c1, c2]) rfl ⟨by rw [HF.out]; rfl, below_set3 hb (Nat.le_refl _) _ _ _⟩
  ·rw [if_neg hn] at hp hf
   have HP := Lib.hid hp
   have HF := Lib.hid hf
   clear hp hf
   generalize hm : (s.data.toList.takeWhile isDigit).length = m at *
   have HM := Lib.hid hm
   clear hm
   go_enter Tryz.func98, Tryz.ntmps98
   go_wp2_with fail
   refine (run_digit s (by omega) _).mono ?_
   rw [HM.out]
   rintro e w1 ⟨rfl, rfl⟩
   go_wp2_with fail
   refine (parse_range _ (by rw [ByteArray.size_extract]; omega) HP.out _ (hw.below ((Below.refl _ _).alloc (Nat.le_refl _) _))).mono ?_
   rintro e w2 ⟨v2, tp, p, rfl, hb2⟩
   obtain ⟨c0, c1, c2, f0, f1, f2, hz2, hb⟩ := laid3 hb2
   go_wp2_with fail
   refine bodyPost_ret (v := .tuple #[.agg #[.int .i64 0, .int .i64 0, .int .i64 0], .int .i64 0]) (by simp [results, Tryz.results98, go_sem, c0, c1, c2]) rfl ⟨by rw [HF.out]; rfl, below_set3 hb (Nat.le_refl _) _ _ _⟩
 ·have hd0 : (s.data.toList.takeWhile isDigit).length = 0 := by omega
  have HD0 := Lib.hid hd0
  have hf0 : first s.data.toList = if 0 < (s.data.toList.takeWhile isLetter).length then
    if (s.data.toList.takeWhile isLetter).length = 1 then some (2, ((s.data.toList.headD 0).toNat : Int) - 97, 1)
    else if wordOf (s.data.toList.takeWhile isLetter) = 0 then none else some (wordOf (s.data.toList.takeWhile isLetter), 0, (s.data.toList.takeWhile isLetter).length)
   else if (signOf s.data.toList).2 = 0 then none else some ((signOf s.data.toList).1, 0, (signOf s.data.toList).2) := by
   rw [first, if_neg hd]
  clear hd hd0 hl1
  generalize hm : (s.data.toList.takeWhile isLetter).length = m at *
  have HM := Lib.hid hm
  clear hm
  by_cases hl : 0 < m
  ·rw [if_pos hl] at hf0
   by_cases h1 : m = 1
   ·rw [if_pos h1] at hf0
    have HF := Lib.hid hf0
    subst h1
    clear hf0
    have h0s : 0 < s.size := by omega
    go_enter Tryz.func98, Tryz.ntmps98
    go_wp2_with fail
    refine (run_digit s (by omega) _).mono ?_
    rw [HD0.out]
    rintro e w1 ⟨rfl, rfl⟩
    go_wp2_with fail
    refine (run_letter s (by omega) _).mono ?_
    rw [HM.out]
    rintro e w1 ⟨rfl, rfl⟩
    go_wp2_with fail
    have hle := head_of isLetter s.data.toList 0 (by rw [HM.out]; omega)
    rw [headD_at s h0s] at hle
    simp only [isLetter, Bool.and_eq_true, decide_eq_true_eq] at hle
    refine bodyPost_ret (v := .tuple #[.agg #[.int .i64 2, .int .i64 (((s[0].toNat : Int) - 97) % 256), .int .i64 0], .int .i64 1]) (by simp [results, Tryz.results98, go_sem]) rfl ⟨?_, (Below.refl _ _).alloc (Nat.le_refl _) _⟩
    rw [HF.out, headD_at s h0s]
    exact congrArg (fun x => Ending.returned (.tuple #[.agg #[.int .i64 2, .int .i64 x, .int .i64 0], .int .i64 1])) (by omega)
   ·rw [if_neg h1] at hf0
    have h2 : ((m : Int) == 1) = false := beq_eq_false_iff_ne.mpr (by omega)
    have HF := Lib.hid hf0
    clear hf0
    go_enter Tryz.func98, Tryz.ntmps98
    go_wp2_with fail
    refine (run_digit s (by omega) _).mono ?_
    rw [HD0.out]
    rintro e w1 ⟨rfl, rfl⟩
    go_wp2_with fail
    refine (run_letter s (by omega) _).mono ?_
    rw [HM.out]
    rintro e w1 ⟨rfl, rfl⟩
    go_wp2_with fail
    refine (words_any _).mono ?_
    rintro e w2 ⟨ad, cp, rfl, hC, hb2⟩
    obtain ⟨c0, c1, c2, f0, f1, f2, hz2, hb⟩ := laid3 hb2
    have HC := Lib.hid hC
    clear hC hb2
    go_wp2_with fail
    go_loopw [43] (fun i wr => ∃ k : Nat, k ≤ 5 ∧ i = .int .i64 k ∧ Hid (∀ j : Nat, j < k → (PAll.rd_T173 wordL j).f0 ≠ s.extract 0 m) ∧ Below w2.heap.size w2 wr) (fun i _ => 5 - (intOf i).toNat)
    case atStart => exact ⟨0, by omega, rfl, Lib.hid (fun j hj => by omega), Below.refl _ _⟩
    case round =>
     obtain ⟨k, hk, rfl, H, hbr⟩ := hrel
     have d0 := (hbr.cell (p := ⟨w.heap.size, 0, none⟩) hz2).trans c0
     have d1 := (hbr.cell (p := ⟨w.heap.size, 1, none⟩) hz2).trans c1
     have d2 := (hbr.cell (p := ⟨w.heap.size, 2, none⟩) hz2).trans c2
     have e0 := (hbr.frozen (p := ⟨w.heap.size, 0, none⟩) hz2).trans f0
     have e1 := (hbr.frozen (p := ⟨w.heap.size, 1, none⟩) hz2).trans f1
     have e2 := (hbr.frozen (p := ⟨w.heap.size, 2, none⟩) hz2).trans f2
     have hzr : w.heap.size < wr.heap.size := Nat.lt_of_lt_of_le hz2 hbr.size
     by_cases hlt : k < 5
     ·have hC := Kd.C_below HC.out hbr
      obtain ⟨ad', hh, x0, x1⟩ := PAll.at_T173 hC k (by omega) (by omega)
      injection hh with hh
      subst hh
      clear hC
      simp only [Int.toNat_natCast] at x0 x1
      generalize hwk : PAll.rd_T173 wordL k = wk at *
      have HWK := Lib.hid hwk
      clear hwk
      cases hx : (wk.f0.toList == (s.extract 0 m).toList)
      ·go_wp2_with fail
       go_quiet (fail)
       go_wp2_with fail
       go_roundw
       case rel =>
        refine ⟨k + 1, by omega, by go_num, Lib.hid (fun j hj => ?_), pw_below_drewN (hbr.alloc hbr.size _) _⟩
        rcases Nat.lt_or_ge j k with h | h
        ·exact H.out j h
        ·obtain rfl : j = k := by omega
         intro e
         rw [HWK.out] at e
         rw [e] at hx
         simp at hx
       case measure => simp [intOf]; omega
      ·have hw0 := word_hit k hlt ((s.data.toList.takeWhile isLetter)) (by
        rw [HWK.out, ← ByteArray.toList_eq, beq_iff_eq.1 hx, ByteArray.toList_eq, extract_take, ← HM.out, take_takeWhile])
       rw [HWK.out] at hw0
       have HW0 := Lib.hid hw0
       clear hw0
       go_wp2_with fail
       go_quiet (fail)
       go_wp2_with fail
       refine bodyPost_ret (v := .tuple #[.agg #[.int .i64 wk.f1, .int .i64 0, .int .i64 0], .int .i64 (m : Nat)]) (by simp [results, Tryz.results98, go_sem, d0, d1, d2, hzr]) rfl ⟨?_, below_set3 (pw_below_drewN ((hb.trans (hbr.mono (Nat.le_of_lt hz2))).alloc (Nat.le_of_lt hzr) _) _) (Nat.le_refl _) _ _ _⟩
       rw [HF.out, if_neg HW0.out.2, HW0.out.1]
       rfl
     ·go_wp2_with fail
      refine bodyPost_ret (v := .tuple #[.agg #[.int .i64 0, .int .i64 0, .int .i64 0], .int .i64 0]) (by simp [results, Tryz.results98, go_sem, d0, d1, d2]) rfl ⟨?_, below_set3 (hb.trans (hbr.mono (Nat.le_of_lt hz2))) (Nat.le_refl _) _ _ _⟩
      rw [HF.out, if_pos (word_miss _ (fun j hj e => H.out j (by omega) (Go.WideShapes.bytes_inj (by rw [e, extract_take, ← HM.out, take_takeWhile]))))]
      rfl
  ·rw [if_neg hl] at hf0
   obtain rfl : m = 0 := by omega
   have HF := Lib.hid hf0
   clear hf0
   go_enter Tryz.func98, Tryz.ntmps98
   go_wp2_with fail
   refine (run_digit s (by omega) _).mono ?_
   rw [HD0.out]
   rintro e w1 ⟨rfl, rfl⟩
   go_wp2_with fail
   refine (run_letter s (by omega) _).mono ?_
   rw [HM.out]
   rintro e w1 ⟨rfl, rfl⟩
   go_wp2_with fail
   refine (signs_any _).mono ?_
   rintro e w2 ⟨ad, cp, rfl, hC, hb2⟩
   obtain ⟨c0, c1, c2, f0, f1, f2, hz2, hb⟩ := laid3 hb2
   have HC := Lib.hid hC
   clear hC hb2
   go_wp2_with fail
   go_loopw [61] (fun i wr => ∃ k : Nat, k ≤ 11 ∧ i = .int .i64 k ∧ Hid (∀ j : Nat, j < k → begins s.data.toList j = false) ∧ Below w2.heap.size w2 wr) (fun i _ => 11 - (intOf i).toNat)
   case atStart => exact ⟨0, by omega, rfl, Lib.hid (fun j hj => by omega), Below.refl _ _⟩
   case round =>
    obtain ⟨k, hk, rfl, H, hbr⟩ := hrel
    have d0 := (hbr.cell (p := ⟨w.heap.size, 0, none⟩) hz2).trans c0
    have d1 := (hbr.cell (p := ⟨w.heap.size, 1, none⟩) hz2).trans c1
    have d2 := (hbr.cell (p := ⟨w.heap.size, 2, none⟩) hz2).trans c2
    have e0 := (hbr.frozen (p := ⟨w.heap.size, 0, none⟩) hz2).trans f0
    have e1 := (hbr.frozen (p := ⟨w.heap.size, 1, none⟩) hz2).trans f1
    have e2 := (hbr.frozen (p := ⟨w.heap.size, 2, none⟩) hz2).trans f2
    have hzr : w.heap.size < wr.heap.size := Nat.lt_of_lt_of_le hz2 hbr.size
    by_cases hlt : k < 11
    ·have hC := Kd.C_below HC.out hbr
     obtain ⟨ad', hh, x0, x1⟩ := PAll.at_T173 hC k (by omega) (by omega)
     injection hh with hh
     subst hh
     clear hC
     simp only [Int.toNat_natCast] at x0 x1
     have hbg : begins s.data.toList k = Lib.hasPrefix s.data.toList (PAll.rd_T173 signL k).f0.data.toList := rfl
     have hit := sign_hit k hlt s.data.toList H.out
     generalize hwk : PAll.rd_T173 signL k = wk at *
     have HBG := Lib.hid hbg
     have HIT := Lib.hid hit
     clear hwk hbg hit
     cases hx : begins s.data.toList k
     ·have HX := Lib.hid hx
      clear hx
      go_wp2_with fail
      refine (Tryz.strings_HasPrefix s wk.f0 _).mono ?_
      rw [← HBG.out, HX.out]
      rintro e w4 ⟨rfl, rfl⟩
      go_wp2_with fail
      go_roundw
      case rel =>
       refine ⟨k + 1, by omega, by go_num, Lib.hid (fun j hj => ?_), hbr.alloc hbr.size _⟩
       rcases Nat.lt_or_ge j k with h | h
       ·exact H.out j h
       ·obtain rfl : j = k := by omega
        exact HX.out
      case measure => simp [intOf]; omega
     ·have hh := HIT.out hx
      have HH := Lib.hid hh
      have HX := Lib.hid hx
      clear hx hh
      go_wp2_with fail
      refine (Tryz.strings_HasPrefix s wk.f0 _).mono ?_
      rw [← HBG.out, HX.out]
      rintro e w4 ⟨rfl, rfl⟩
      go_wp2_with fail
      go_region
      go_wp2_with fail
      all_goals
       refine bodyPost_ret (v := .tuple #[.agg #[.int .i64 wk.f1, .int .i64 0, .int .i64 0], .int .i64 (wk.f0.size : Nat)]) (by simp [results, Tryz.results98, go_sem, d0, d1, d2, hzr]) rfl ⟨by rw [HF.out, if_neg HH.out.2, HH.out.1]; rfl, ?_⟩
      exact ((below_set3 (hb.trans (hbr.mono (Nat.le_of_lt hz2))) (Nat.le_refl _) _ _ _).alloc (by simp [World.setCell]; omega) _).drew
    ·go_wp2_with fail
     refine bodyPost_ret (v := .tuple #[.agg #[.int .i64 0, .int .i64 0, .int .i64 0], .int .i64 0]) (by simp [results, Tryz.results98, go_sem, d0, d1, d2]) rfl ⟨?_, below_set3 (hb.trans (hbr.mono (Nat.le_of_lt hz2))) (Nat.le_refl _) _ _ _⟩
     rw [HF.out, if_pos (sign_miss _ (fun j hj => H.out j (by omega)))]
     rfl
end Go.Proofs.YtikilglbhnplaaaGreatDoor
end
section
namespace Go.Proofs.YtikilglbhnplaaaGreatDoor
open Go.RowKit PX Go.Proofs.YtikilglbhnplaaaGreatDoorW.PrintWords
def lexed (l : List UInt8) : List T × Er :=
 if 200 < l.length then ([], .code 3) else match (lexAt l 0).2 with
  | none => ((lexAt l 0).1, .none)
  | some a => ([], .spot a 2)
theorem lexAt_len (l : List UInt8) (a : Nat) : (lexAt l a).1.length ≤ l.length := by
 induction l, a using lexAt.induct with
 | case1 a => rw [lexAt_nil]; simp
 | case2 a l ih => rw [lexAt_space]; simp; omega
 | case3 a c l hc h => rw [lexAt_bad hc h]; simp
 | case4 a c l hc k n m h ih =>
  rw [lexAt_tok hc h]
  have := first_pos h
  simp only [List.length_cons, List.length_drop] at ih ⊢ this
  omega
theorem extract_drop (s : ByteArray) (k : Nat) : (s.extract k s.size).data.toList = s.data.toList.drop k := by
 simp only [ByteArray.data_extract, Array.toList_extract, List.extract_eq_take_drop]
 rw [List.take_of_length_le]
 simp
theorem tokens_any (s : ByteArray) (hs : s.size ≤ 281474976710656) (w : World) (hw : Laid w) :
  Calls Tryz.prog 78 #[.string s] w fun e w' => ∃ v ev, e = .returned (.tuple #[v, ev]) ∧ Toks w' w.heap.size v (lexed s.data.toList).1 ∧ ErV w.heap.size w' ev (lexed s.data.toList).2 ∧ Below w.heap.size w w' := by
 have hsz : s.data.toList.length = s.size := by simp
 by_cases h2 : 200 < s.size
 ·have hx : lexed s.data.toList = ([], .code 3) := by rw [lexed, if_pos (by omega)]
  have HX := Lib.hid hx
  clear hx hsz
  go_enter Tryz.func78, Tryz.ntmps78
  go_wp2
  go_ret2
  refine ⟨_, _, rfl, ?_, ?_, Below.refl _ _⟩
  ·rw [HX.out]; exact Kd.R_nil _ _ _ _ _
  ·rw [HX.out]; rfl
 ·have hx : lexed s.data.toList = match (lexAt s.data.toList 0).2 with
    | none => ((lexAt s.data.toList 0).1, .none)
    | some a => ([], .spot a 2) := by rw [lexed, if_neg (by omega)]
  have hlx := lexAt_len s.data.toList 0
  have HX := Lib.hid hx
  have HSZ := Lib.hid hsz
  have HLX := Lib.hid hlx
  clear hx hsz hlx
  go_enter Tryz.func78, Tryz.ntmps78
  go_wp2
  go_loopw [4, 5] (fun v i wr => ∃ (k : Nat) (xs : List T), k ≤ s.size ∧ i = .int .i64 k ∧ Hid (lexAt s.data.toList 0 = (xs ++ (lexAt (s.data.toList.drop k) k).1, (lexAt (s.data.toList.drop k) k).2)) ∧ Hid (Toks wr w.heap.size v xs) ∧ Below w.heap.size w wr) (fun _ i _ => s.size - (intOf i).toNat)
  case atStart => exact ⟨0, [], by omega, rfl, Lib.hid (by simp), Lib.hid (Kd.R_nil _ _ _ _ _), Below.refl _ _⟩
  case round =>
   obtain ⟨k, xs, hk, rfl, H, HT, hb⟩ := hrel
   by_cases hlt : k < s.size
   ·have hd : s.data.toList.drop k = s[k] :: s.data.toList.drop (k + 1) := List.drop_eq_getElem_cons (by rw [HSZ.out]; exact hlt)
    have HD := Lib.hid hd
    clear hd
    by_cases h32 : s[k] = 32
    ·have c32 : (((s[k].toNat : Nat) : Int) == 32) = true := by rw [h32]; rfl
     have HC := Lib.hid h32
     clear h32
     go_wp2_with fail
     go_roundw
     case rel =>
      refine ⟨k + 1, xs, by omega, by go_num, Lib.hid ?_, HT, hb⟩
      rw [H.out, HD.out, HC.out, lexAt_space]
     case measure => simp [intOf]; omega
    ·have c32 : (((s[k].toNat : Nat) : Int) == 32) = false := by
      refine beq_eq_false_iff_ne.mpr (fun e => h32 ?_)
      exact UInt8.toNat_inj.1 (by show s[k].toNat = 32; omega)
     have HC := Lib.hid h32
     have hxl : xs.length ≤ s.size := by
      have := HLX.out
      rw [H.out] at this
      simp only [List.length_append] at this
      rw [HSZ.out] at this
      omega
     clear h32
     go_wp2_with fail
     refine (first_any (s.extract k s.size) (by rw [ByteArray.size_extract]; omega) _ (hw.below hb)).mono ?_
     rw [extract_drop]
     cases hfi : first (s.data.toList.drop k) with
     | none =>
      have HFI := Lib.hid hfi
      clear hfi
      rintro e w2 ⟨rfl, hb2⟩
      simp only [firstV]
      have hb3 := below_then hb hb.size hb2
      go_wp2_with fail
      go_ret2
      refine ⟨_, _, rfl, ?_, ?_, (hb3.alloc hb3.size _).alloc (by have := hb3.size; simp; omega) _⟩
      all_goals
       have hl := H.out
       rw [HD.out, lexAt_bad HC.out (by rw [← HD.out]; exact HFI.out)] at hl
       rw [HX.out, hl]
      ·exact Kd.R_nil _ _ _ _ _
      ·exact ⟨_, rfl, by have := hb3.size; simp; omega, by simpa using blk_new (w2.alloc (.cells #[.int .i64 0, .int .i64 0, .int .i64 0] 131)) _⟩
     | some p =>
      obtain ⟨kk, n, m⟩ := p
      have hp := first_pos hfi
      have HFI := Lib.hid hfi
      rw [List.length_drop, HSZ.out] at hp
      obtain ⟨hp1, hp2⟩ := hp
      clear hfi
      rintro e w2 ⟨rfl, hb2⟩
      simp only [firstV]
      have hb3 := below_then hb hb.size hb2
      have hm0 : (((m : Nat) : Int) == 0) = false := beq_eq_false_iff_ne.mpr (by omega)
      have HT2 := Lib.hid (Kd.R_below HT.out hb2)
      go_wp2_with (at_builtin; refine tok_append rfl (.tmp 37) (.tmp 39) rfl w.heap.size _ xs kk n (k : Nat) rfl _ rfl ?aN ?aO ?aB ?aL ?_)
      case aN => simp
      case aO => exact Kd.R_alloc HT2.out _
      case aB => have := hb3.size; simp; omega
      case aL => omega
      intro v1 w4 hT4 hg4 _
      have hb4 : Below w.heap.size w w4 := (hb3.alloc hb3.size _).grown hg4 (by have := hb3.size; simp; omega) (fun j hj => (Kd.R_base HT.out j hj))
      have HT4 := Lib.hid hT4
      clear hT4 hg4
      go_wp2_with fail
      go_roundw
      case rel =>
       refine ⟨k + m, xs ++ [⟨kk, n, (k : Nat)⟩], by omega, by go_num, Lib.hid ?_, HT4, hb4⟩
       rw [H.out, HD.out, lexAt_tok HC.out (by rw [← HD.out]; exact HFI.out), ← HD.out, List.drop_drop]
       simp
      case measure => simp [intOf]; omega
   ·obtain rfl : k = s.size := by omega
    go_wp2_with fail
    go_ret2
    have hl := H.out
    rw [show s.data.toList.drop s.size = [] by rw [← HSZ.out]; simp, lexAt_nil] at hl
    refine ⟨_, _, rfl, ?_, ?_, hb⟩
    ·rw [HX.out, hl]; simp only [List.append_nil]; exact HT.out
    ·rw [HX.out, hl]; rfl
end Go.Proofs.YtikilglbhnplaaaGreatDoor
end
section
namespace Go.Proofs.YtikilglbhnplaaaGreatDoor
open Go.RowKit PX Go.Proofs.YtikilglbhnplaaaGreatDoorW.PrintWords
def parsedOf (l : List T) (n : Nat) (R : St) : List T × Er :=
 if R.bad = true ∨ R.at_ < l.length then ([], .spot (if R.at_ < l.length then (PAll.rd_T131 l R.at_).f2 else n) 2)
 else if 100 < R.out.length then ([], .code 3) else (R.out, .none)
def st0 : St := ⟨0, [], false⟩
def Parsed (s : List UInt8) (r : List T × Er) : Prop :=
 match (lexed s).2 with
 | .none => ∃ R, Pr (lexed s).1 false 1 st0 R ∧ r = parsedOf (lexed s).1 s.length R
 | e => r = ([], e)
theorem parsed_ex (s : List UInt8) : ∃ r, Parsed s r := by
 unfold Parsed
 cases (lexed s).2 with
 | none =>
  obtain ⟨R, hR⟩ := pr_ex (lexed s).1 1 st0 (by omega) (by omega) (Nat.zero_le _)
  exact ⟨_, R, hR, rfl⟩
 | code c => exact ⟨_, rfl⟩
 | spot a c => exact ⟨_, rfl⟩
theorem rdr_new {tb : Nat} {w1 : World} {A : Option Addr} {cap : Nat} {l : List T} (hC : ToksC w1 A l.length l) (hA : ∀ ad, A = some ad → ad.block < w1.heap.size) (hc : l.length ≤ cap) :
  Rdr tb w1.heap.size A cap l (w1.heap.size + 1) (w1.alloc (.cells #[.slice A l.length cap, .int .i64 0, .slice none 0 0, .bool false] tb)) st0 (.slice none 0 0) :=
 ⟨blk_new _ _, Kd.R_nil _ _ _ _ _, Kd.C_alloc hC _, fun ad h => by have := hA ad h; refine ⟨by omega, by omega, by simp; omega⟩, by omega, by simp, hc⟩
theorem parse_any (s : ByteArray) (hs : s.size ≤ 281474976710656) (w : World) (hw : Laid w) (r : List T × Er) (hr : Parsed s.data.toList r) :
  Calls Tryz.prog 34 #[.string s] w fun e w' => ∃ v ev, e = .returned (.tuple #[v, ev]) ∧ Toks w' w.heap.size v r.1 ∧ ErV w.heap.size w' ev r.2 ∧ Below w.heap.size w w' := by
 have HP := Lib.hid hr
 clear hr
 go_enter Tryz.func34, Tryz.ntmps34
 go_wp2_with fail
 refine (tokens_any s hs _ hw).mono ?_
 rintro e w1 ⟨v1, ev1, rfl, h1, he1, hb1⟩
 cases hx : (lexed s.data.toList).2 with
 | none =>
  rw [hx] at he1
  obtain rfl : ev1 = .nilIface := he1
  obtain ⟨R, hR, rfl⟩ : ∃ R, Pr (lexed s.data.toList).1 false 1 st0 R ∧ r = parsedOf (lexed s.data.toList).1 s.data.toList.length R := by
   have := HP.out
   unfold Parsed at this
   rw [hx] at this
   exact this
  have hln : (lexed s.data.toList).1.length ≤ 200 := by
   unfold lexed at hx ⊢
   split at hx
   ·cases hx
   ·rename_i h2
    rw [if_neg h2]
    have := lexAt_len s.data.toList 0
    split <;> simp <;> omega
  clear HP hx
  generalize hlx : (lexed s.data.toList).1 = l at *
  have HLX := Lib.hid hlx
  clear hlx
  obtain ⟨A1, c1, rfl, hc1, hC1⟩ := Kd.R_reads h1
  have HC1 := Lib.hid hC1
  have HR := Lib.hid hR
  have hle := hR.le (by omega) (Nat.zero_le _)
  have hA1 : ∀ ad, A1 = some ad → ad.block < w1.heap.size := fun ad h => Kd.R_lt h1 ad.block (by rw [h]; rfl)
  clear h1 hC1 hR
  go_wp2_with fail
  refine ((reads_all l (by omega) (l.length * 8 + 8)).1 _ _ _ _ _ st0 _ R (rdr_new HC1.out hA1 hc1) (Nat.zero_le _) (Nat.le_refl _) (by simp [st0]) HR.out).mono ?_
  rintro e w2 ⟨⟨u, rfl⟩, v2, hR2, hc2, ho2⟩
  obtain ⟨A2, c2, rfl⟩ := Kd.R_slice hR2.out
  have hb2 : Below w.heap.size w w2 := (hb1.alloc hb1.size _).trans ((hc2.below (B := w.heap.size) (by have := hb1.size; simp; omega) (fun k hk e => by
   rcases e with e | e
   ·have := hb1.size; omega
   ·cases e)))
  have HR2 := Lib.hid hR2
  have HT2 := Lib.hid (Kd.R_lower hR2.out (show w.heap.size ≤ w1.heap.size + 1 by have := hb1.size; omega))
  obtain ⟨k0, k1, k2, k3, f1, f2, f3⟩ := hR2.cells
  have hsz : s.data.toList.length = s.size := by simp
  clear hR2 hc2 ho2
  by_cases hlt : R.at_ < l.length
  ·have hpo : parsedOf l s.data.toList.length R = ([], .spot (PAll.rd_T131 l R.at_).f2 2) := by
    unfold parsedOf
    rw [if_pos (.inr hlt), if_pos hlt]
   have HPO := Lib.hid hpo
   clear hpo
   obtain ⟨ad, hA, x0, x1, x2⟩ := PAll.at_T131 HR2.out.row R.at_ (by omega) (by omega)
   subst hA
   simp only [Int.toNat_natCast] at x0 x1 x2
   have p1 : (0 ≤ (R.at_ : Int)) = True := eq_true (by omega)
   have p2 : ((R.at_ : Int) < (l.length : Int)) = True := eq_true (by omega)
   cases hbad : R.bad with
   | true =>
    rw [hbad] at k3
    go_wp2_with fail
    go_ret2
    rw [HLX.out, HPO.out]
    exact ⟨_, _, rfl, Kd.R_nil _ _ _ _ _, ⟨_, rfl, by have := hb2.size; omega, blk_new _ _⟩, hb2.alloc hb2.size _⟩
   | false =>
    rw [hbad] at k3
    go_wp2_with fail
    go_ret2
    rw [HLX.out, HPO.out]
    exact ⟨_, _, rfl, Kd.R_nil _ _ _ _ _, ⟨_, rfl, by have := hb2.size; omega, blk_new _ _⟩, hb2.alloc hb2.size _⟩
  ·have p1 : ((R.at_ : Int) < (l.length : Int)) = False := eq_false (by omega)
   cases hbad : R.bad with
   | true =>
    have hpo : parsedOf l s.data.toList.length R = ([], .spot (s.size : Nat) 2) := by
     unfold parsedOf
     rw [if_pos (.inl hbad), if_neg hlt, hsz]
    have HPO := Lib.hid hpo
    clear hpo hsz
    rw [hbad] at k3
    go_wp2_with fail
    go_ret2
    rw [HLX.out, HPO.out]
    exact ⟨_, _, rfl, Kd.R_nil _ _ _ _ _, ⟨_, rfl, by have := hb2.size; omega, blk_new _ _⟩, hb2.alloc hb2.size _⟩
   | false =>
    rw [hbad] at k3
    by_cases h100 : 100 < R.out.length
    ·have hpo : parsedOf l s.data.toList.length R = ([], .code 3) := by
      unfold parsedOf
      rw [if_neg (by rw [hbad]; simp; omega), if_pos h100]
     have HPO := Lib.hid hpo
     clear hpo hsz
     go_wp2_with fail
     go_ret2
     rw [HLX.out, HPO.out]
     exact ⟨_, _, rfl, Kd.R_nil _ _ _ _ _, rfl, hb2⟩
    ·have hpo : parsedOf l s.data.toList.length R = (R.out, .none) := by
      unfold parsedOf
      rw [if_neg (by rw [hbad]; simp; omega), if_neg h100]
     have HPO := Lib.hid hpo
     clear hpo hsz
     go_wp2_with fail
     go_ret2
     rw [HLX.out, HPO.out]
     exact ⟨_, _, rfl, HT2.out, rfl, hb2⟩
 | code c =>
  rw [hx] at he1
  obtain rfl : r = ([], .code c) := by
   have := HP.out
   unfold Parsed at this
   rw [hx] at this
   exact this
  obtain rfl : ev1 = .iface 67 (.int .i64 c) := he1
  clear h1 HP
  go_wp2_with fail
  go_ret2
  exact ⟨_, _, rfl, Kd.R_nil _ _ _ _ _, rfl, hb1⟩
 | spot a c =>
  rw [hx] at he1
  obtain rfl : r = ([], .spot a c) := by
   have := HP.out
   unfold Parsed at this
   rw [hx] at this
   exact this
  obtain ⟨g1, rfl, hg1, hs1⟩ := he1
  have HS1 := Lib.hid hs1
  clear h1 HP hs1
  go_wp2_with fail
  go_ret2
  exact ⟨_, _, rfl, Kd.R_nil _ _ _ _ _, ⟨g1, rfl, hg1, HS1.out⟩, hb1⟩
end Go.Proofs.YtikilglbhnplaaaGreatDoor
end
section
namespace Go.Proofs.YtikilglbhnplaaaGreatDoor
open Go.RowKit Go.Proofs.YtikilglbhnplaaaGreatDoorW.PrintWords
open PX (T V Tr takes may)
def ofR (r : List T × Er) (env : List Int) : V × Er :=
 match r.2 with
 | .none => (match runR (lookV false 0 env) false r.1 with | .ok v => (v, .none) | .error c => ((0, 0), .code c))
 | e => ((0, 0), e)
theorem of_any (s : ByteArray) (hs : s.size ≤ 281474976710656) (E : Option Addr) (ecap : Nat) (env : List Int) (w : World) (hw : Laid w) (hE : NumsC w E env.length env) (r : List T × Er) (hr : Parsed s.data.toList r) :
  Calls Tryz.prog 91 #[.string s, .slice E env.length ecap] w fun e w' => ∃ ev, e = .returned (.tuple #[agV (ofR r env).1, ev]) ∧ ErV w.heap.size w' ev (ofR r env).2 ∧ Below w.heap.size w w' := by
 have HR := Lib.hid hr
 have HE := Lib.hid hE
 have hw0 : Laid (w.alloc (.cells #[.int .i64 0, .int .i64 0] 147)) := hw.below ((Below.refl _ _).alloc (Nat.le_refl _) _)
 clear hr hE
 go_enter Tryz.func91, Tryz.ntmps91
 go_wp2_with fail
 refine (parse_any s hs _ hw0 r HR.out).mono ?_
 rintro e w1 ⟨v1, ev1, rfl, h1, he1, hb1⟩
 obtain ⟨hk, c0, c1, f0, f1, hlt, hbw⟩ := laid2 hb1
 have HK := Lib.hid hk
 obtain ⟨A1, c1', rfl, hc1, hC1⟩ := Kd.R_reads h1
 have HC1 := Lib.hid hC1
 have HE1 := Lib.hid he1
 clear hk h1 hC1 hb1 he1
 cases hx : r.2 with
 | none =>
  have hev : ev1 = .nilIface := by have := HE1.out; rw [hx] at this; exact this
  subst hev
  have HX := Lib.hid hx
  clear hx HE1
  go_wp2_with fail
  refine (eval_any A1 c1' r.1 E ecap env _ hc1 HC1.out (Kd.C_below HE.out hbw)).mono ?_
  rintro e w2 ⟨rfl, hb2⟩
  have HK2 := Lib.hid ((hb2.block w.heap.size hlt).trans HK.out)
  have hbw2 := hbw.trans (hb2.mono hbw.size)
  have d0 : w2.cell? ⟨w.heap.size, 0, none⟩ = some (.int .i64 0) := blk_cell HK2.out 0
  have d1 : w2.cell? ⟨w.heap.size, 1, none⟩ = some (.int .i64 0) := blk_cell HK2.out 1
  have g0 : w2.frozen? ⟨w.heap.size, 0, none⟩ = false := blk_free HK2.out 0
  have g1 : w2.frozen? ⟨w.heap.size, 1, none⟩ = false := blk_free HK2.out 1
  clear hb2 HK c0 c1 f0 f1
  cases hv : runR (lookV false 0 env) false r.1 with
  | ok v =>
   have HO : Hid (ofR r env = (v, .none)) := Lib.hid (by unfold ofR; rw [HX.out]; simp only; rw [hv])
   clear hv
   simp only [retE, agV]
   go_wp2_with fail
   refine bodyPost_ret (results_ct rfl _ _ w.heap.size 147 #[.int .i64 _, .int .i64 _] (0, 0) _ rfl (blk_set2 HK2.out _ _) Tryz.underlying147 rfl (by kernel_rfl)) rfl ?_
   exact ⟨.nilIface, by rw [HO.out]; rfl, by rw [HO.out]; rfl, below_set2 hbw2 (Nat.le_refl _) _ _⟩
  | error c =>
   have HO : Hid (ofR r env = ((0, 0), .code c)) := Lib.hid (by unfold ofR; rw [HX.out]; simp only; rw [hv])
   clear hv
   simp only [retE, agV]
   go_wp2_with fail
   refine bodyPost_ret (results_ct rfl _ _ w.heap.size 147 #[.int .i64 _, .int .i64 _] (0, 0) _ rfl (blk_set2 HK2.out _ _) Tryz.underlying147 rfl (by kernel_rfl)) rfl ?_
   exact ⟨_, by rw [HO.out]; rfl, by rw [HO.out]; rfl, below_set2 hbw2 (Nat.le_refl _) _ _⟩
 | code c =>
  have HO : Hid (ofR r env = ((0, 0), .code c)) := Lib.hid (by unfold ofR; rw [hx])
  have hev : ev1 = .iface 67 (.int .i64 c) := by have := HE1.out; rw [hx] at this; exact this
  subst hev
  clear hx HE1
  go_wp2_with fail
  refine bodyPost_ret (results_ct rfl _ _ w.heap.size 147 #[.int .i64 _, .int .i64 _] (0, 0) _ rfl (blk_set2 HK.out _ _) Tryz.underlying147 rfl (by kernel_rfl)) rfl ?_
  exact ⟨_, by rw [HO.out]; rfl, by rw [HO.out]; rfl, below_set2 hbw (Nat.le_refl _) _ _⟩
 | spot a c =>
  have HO : Hid (ofR r env = ((0, 0), .spot a c)) := Lib.hid (by unfold ofR; rw [hx])
  obtain ⟨g1, hev, hB, hs1⟩ : ∃ g, ev1 = .iface 132 (.pointer (some ⟨g, 0, none⟩)) ∧ (w.alloc (.cells #[.int .i64 0, .int .i64 0] 147)).heap.size ≤ g ∧ w1.heap[g]? = some (.cells #[.int .i64 a, .int .i64 c] 134 (0, 0)) := by
   have := HE1.out; rw [hx] at this; exact this
  subst hev
  have HS := Lib.hid hs1
  have hne : g1 ≠ w.heap.size := by simp at hB; omega
  clear hx HE1 hs1
  go_wp2_with fail
  refine bodyPost_ret (results_ct rfl _ _ w.heap.size 147 #[.int .i64 _, .int .i64 _] (0, 0) _ rfl (blk_set2 HK.out _ _) Tryz.underlying147 rfl (by kernel_rfl)) rfl ?_
  exact ⟨_, by rw [HO.out]; rfl, by rw [HO.out]; exact ⟨g1, rfl, by simp at hB; omega, blk_far (blk_far HS.out hne _) hne _⟩, below_set2 hbw (Nat.le_refl _) _ _⟩
end Go.Proofs.YtikilglbhnplaaaGreatDoor
end
section
namespace Go.Proofs.YtikilglbhnplaaaGreatDoor
open Go.RowKit Go.Proofs.YtikilglbhnplaaaGreatDoorW.PrintWords
open PX (T V)
abbrev Ac := PAll.S125
abbrev Ou := PAll.S185
structure Ds where
 env : List Int
 out : List Ou
 inn : List Int
def Er.ok : Er → Bool
 | .none => true
 | _ => false
noncomputable def parseT (s : ByteArray) : List T × Er := Classical.choose (parsed_ex s.data.toList)
theorem parseT_ok (s : ByteArray) : Parsed s.data.toList (parseT s) := Classical.choose_spec (parsed_ex s.data.toList)
noncomputable def valT (s : ByteArray) (env : List Int) : Int × Bool := ((ofR (parseT s) env).1.2, (ofR (parseT s) env).2.ok && (ofR (parseT s) env).1.1 == 1)
noncomputable def oneA (s : Ds) (a : Ac) : Ds × Bool :=
 if a.f0 = 2 then ({ s with inn := s.inn ++ [a.f1] }, true)
 else if a.f0 = 4 then ({ s with out := s.out ++ [⟨4, 0, 0, a.f1⟩] }, true)
 else if a.f0 = 1 ∨ a.f0 = 3 ∨ a.f0 = 5 then
  if (valT a.f3 s.env).2 then
   if a.f0 = 3 then ({ s with out := s.out ++ [⟨3, a.f1, a.f2, (valT a.f3 s.env).1⟩] }, true)
   else if a.f0 = 5 then ({ s with out := s.out ++ [⟨5, 0, 0, (valT a.f3 s.env).1⟩] }, true)
   else if a.f1 < 0 ∨ (s.env.length : Int) ≤ a.f1 then (s, false)
   else ({ s with env := s.env.set a.f1.toNat (valT a.f3 s.env).1 }, true)
  else (s, false)
 else (s, true)
noncomputable def doA : Ds → List Ac → Ds
 | s, [] => s
 | s, a :: l => if (oneA s a).2 then doA (oneA s a).1 l else { (oneA s a).1 with inn := (oneA s a).1.inn ++ [1001] }
abbrev EnvR (w : World) (B : Nat) (v : Value) (l : List Int) : Prop := Kd.R (Kd.int .i64) 2 w B (fun _ => True) v l
abbrev OutR (w : World) (B : Nat) (v : Value) (l : List Ou) : Prop := Kd.R PAll.k185 185 w B (fun _ => True) v l
abbrev InnR (w : World) (B : Nat) (v : Value) (l : List Int) : Prop := Kd.R (Kd.int .i64) 3 w B (fun _ => True) v l
abbrev ActsC (w : World) (A : Option Addr) (n : Nat) (l : List Ac) : Prop := Kd.C PAll.k125 w A n l
structure Doer (g B : Nat) (w : World) (s : Ds) (ve vo vi : Value) : Prop where
 blk : w.heap[g]? = some (.cells #[ve, vo, vi] 162 (0, 0))
 env : EnvR w B ve s.env
 out : OutR w B vo s.out
 inn : InnR w B vi s.inn
 lt : B ≤ g
 le : B ≤ w.heap.size
theorem Doer.below {g B : Nat} {w w' : World} {s : Ds} {ve vo vi : Value} (h : Doer g B w s ve vo vi) (hb : Below w.heap.size w w') : Doer g B w' s ve vo vi :=
 ⟨(hb.block g (lt_of_block h.blk)).trans h.blk, Kd.R_below h.env hb, Kd.R_below h.out hb, Kd.R_below h.inn hb, h.lt, Nat.le_trans h.le hb.size⟩
theorem Doer.cells {g B : Nat} {w : World} {s : Ds} {ve vo vi : Value} (h : Doer g B w s ve vo vi) : (w.cell? ⟨g, 0, none⟩ = some ve ∧ w.cell? ⟨g, 1, none⟩ = some vo ∧ w.cell? ⟨g, 2, none⟩ = some vi) ∧ w.frozen? ⟨g, 0, none⟩ = false ∧ w.frozen? ⟨g, 1, none⟩ = false ∧ w.frozen? ⟨g, 2, none⟩ = false :=
 ⟨⟨blk_cell h.blk 0, blk_cell h.blk 1, blk_cell h.blk 2⟩, blk_free h.blk 0, blk_free h.blk 1, blk_free h.blk 2⟩
theorem int_q {e q : Nat} {k : IntKind} (h : e ≠ q) : ∀ x, x ∈ e :: (Kd.int k).E → x ≠ q := by
 intro x hx
 rcases List.mem_cons.1 hx with rfl | hx
 ·exact h
 ·have hx' : x ∈ ([] : List Nat) := hx
  cases hx'
theorem out_q {q : Nat} (h : 185 ≠ q) : ∀ x, x ∈ 185 :: PAll.k185.E → x ≠ q := by
 intro x hx
 rcases List.mem_cons.1 hx with rfl | hx
 ·exact h
 ·have hx' : x ∈ ([] : List Nat) := hx
  cases hx'
theorem er_nil {B : Nat} {w : World} {v : Value} {e : Er} (h : ErV B w v e) (he : e = .none) : v = .nilIface := by subst he; exact h
theorem er_some {B : Nat} {w : World} {v : Value} {e : Er} (h : ErV B w v e) (he : e ≠ .none) : (∃ c, v = .iface 67 (.int .i64 c)) ∨ (∃ g, v = .iface 132 (.pointer (some ⟨g, 0, none⟩))) := by
 cases e with
 | none => exact absurd rfl he
 | code c => exact .inl ⟨c, h⟩
 | spot a c => obtain ⟨g, h1, _⟩ := h; exact .inr ⟨g, h1⟩
theorem value_any {g B : Nat} {w : World} {s : Ds} {ve vo vi : Value} (hw : Laid w) (h : Doer g B w s ve vo vi) (t : ByteArray) (ht : t.size ≤ 281474976710656) :
  Calls Tryz.prog 134 #[.pointer (some ⟨g, 0, none⟩), .string t] w fun e w' => e = .returned (.tuple #[.int .i64 (valT t s.env).1, .bool (valT t s.env).2]) ∧ Below w.heap.size w w' := by
 obtain ⟨⟨c0, _, _⟩, _⟩ := h.cells
 obtain ⟨E, cap, rfl⟩ := Kd.R_slice h.env
 obtain ⟨_, _, hE⟩ := Kd.R_reads' h.env
 have HE := Lib.hid hE
 have H := Lib.hid h
 clear h hE
 go_enter Tryz.func134, Tryz.ntmps134
 go_wp2_with fail
 refine (of_any t ht E cap s.env _ hw HE.out (parseT t) (parseT_ok t)).mono ?_
 rintro e w1 ⟨ev, rfl, hev, hb⟩
 have hval : valT t s.env = ((ofR (parseT t) s.env).1.2, (ofR (parseT t) s.env).2.ok && (ofR (parseT t) s.env).1.1 == 1) := rfl
 have HV := Lib.hid hval
 clear hval
 generalize ofR (parseT t) s.env = r at hev HV ⊢
 obtain ⟨⟨k, n⟩, er⟩ := r
 have hb' := hb.alloc hb.size (.cells #[.int .i64 k, .int .i64 n] 147)
 simp only [agV]
 by_cases he : er = .none
 ·subst he
  obtain rfl : ev = .nilIface := hev
  by_cases hk : k = 1
  ·subst hk
   go_wp2_with fail
   repeat (go_quiet (fail); try go_wp2)
   go_ret2
   exact ⟨by rw [HV.out]; rfl, below_drewN' hb' _⟩
  ·have k1 : (k == 1) = false := by simp [hk]
   go_wp2_with fail
   repeat (go_quiet (fail); try go_wp2)
   go_ret2
   exact ⟨by rw [HV.out]; simp only [k1]; rfl, below_drewN' hb' _⟩
 ·have hok : er.ok = false := by cases er <;> first | rfl | exact absurd rfl he
  rcases er_some hev he with ⟨c, rfl⟩ | ⟨c, rfl⟩
  all_goals
   go_wp2_with fail
   repeat (go_quiet (fail); try go_wp2)
   go_ret2
   exact ⟨by rw [HV.out]; simp only [hok]; rfl, below_drewN' hb' _⟩
end Go.Proofs.YtikilglbhnplaaaGreatDoor
end
section
namespace Go.Proofs.YtikilglbhnplaaaGreatDoor
open Go.RowKit Go.Proofs.YtikilglbhnplaaaGreatDoorW.PrintWords
open PX (T V)
noncomputable def typP (s : ByteArray) (kind vars : Int) : Bool :=
 (parseT s).2.ok && match runR (lookV true vars []) true (parseT s).1 with
  | .ok v => v.1 == kind
  | .error _ => false
theorem boxed {w w1 : World} {cs : Array Value} {t : TypeId} (hb : Below (w.alloc (.cells cs t)).heap.size (w.alloc (.cells cs t)) w1) :
  w1.heap[w.heap.size]? = some (.cells cs t (0, 0)) ∧ w.heap.size < w1.heap.size ∧ Below w.heap.size w w1 := by
 have h0 := blk_new w (.cells cs t)
 have hs : (w.alloc (.cells cs t)).heap.size = w.heap.size + 1 := by simp
 refine ⟨(hb.block _ (by omega)).trans h0, by have := hb.size; omega, ((Below.refl _ w).alloc (Nat.le_refl _) _).trans (hb.mono (by omega))⟩
abbrev ckV (v : Int) (A B : Option Addr) (n m ca cb : Nat) : Value := .agg #[.int .i64 v, .slice A n ca, .slice B m cb]
theorem typed_any (v : Int) (A B : Option Addr) (n m ca cb : Nat) (s : ByteArray) (hs : s.size ≤ 281474976710656) (kind : Int) (w : World) (hw : Laid w) :
  Calls Tryz.prog 109 #[ckV v A B n m ca cb, .string s, .int .i64 kind] w fun e w' => e = .returned (.bool (typP s kind v)) ∧ Below w.heap.size w w' := by
 have hw0 := hw.below ((Below.refl _ w).alloc (Nat.le_refl _) (.cells #[.int .i64 v, .slice A n ca, .slice B m cb] 136))
 have HW := Lib.hid hw0
 clear hw hw0
 go_enter Tryz.func109, Tryz.ntmps109
 go_wp2_with fail
 refine (parse_any s hs _ HW.out (parseT s) (parseT_ok s)).mono ?_
 rintro e w1 ⟨v1, ev1, rfl, h1, he1, hb1⟩
 obtain ⟨hk, hlt, hbw⟩ := boxed hb1
 obtain ⟨A1, c1, rfl, hc1, hC1⟩ := Kd.R_reads h1
 have HC1 := Lib.hid hC1
 have k0 : w1.cell? ⟨w.heap.size, 0, none⟩ = some (.int .i64 v) := blk_cell hk 0
 have htyp : typP s kind v = ((parseT s).2.ok && match runR (lookV true v []) true (parseT s).1 with | .ok x => x.1 == kind | .error _ => false) := rfl
 have HT := Lib.hid htyp
 clear h1 hC1 hb1 hk htyp
 generalize parseT s = r at *
 by_cases he : r.2 = .none
 ·obtain rfl := er_nil he1 he
  have hok : r.2.ok = true := by rw [he]; rfl
  have HOK := Lib.hid hok
  clear he1 he hok
  go_wp2_with fail
  refine (type_any A1 c1 r.1 v _ hc1 HC1.out).mono ?_
  rintro e w2 ⟨rfl, hb2⟩
  have hb12 := hbw.trans (hb2.mono hbw.size)
  cases hv : runR (lookV true v []) true r.1 with
  | ok x =>
   have HR : Hid (typP s kind v = (x.1 == kind)) := Lib.hid (by rw [HT.out, HOK.out, hv]; rfl)
   clear hv
   simp only [kindR, errR]
   go_wp2_with fail
   go_ret
   exact ⟨by rw [HR.out]; rfl, hb12⟩
  | error c =>
   have HR : Hid (typP s kind v = false) := Lib.hid (by rw [HT.out, HOK.out, hv]; rfl)
   clear hv
   simp only [kindR, errR]
   go_wp2_with fail
   go_ret
   exact ⟨by rw [HR.out]; rfl, hb12⟩
 ·have HR : Hid (typP s kind v = false) := Lib.hid (by rw [HT.out]; cases hx : r.2 <;> first | rfl | exact absurd hx he)
  rcases er_some he1 he with ⟨c, rfl⟩ | ⟨c, rfl⟩
  all_goals
   clear he he1
   go_wp2_with fail
   go_ret
   exact ⟨by rw [HR.out]; rfl, hbw⟩
end Go.Proofs.YtikilglbhnplaaaGreatDoor
end
section
namespace Go.Proofs.YtikilglbhnplaaaGreatDoor
open Go.RowKit Go.Proofs.YtikilglbhnplaaaGreatDoorW.PrintWords
open PX (T V)
theorem boxed2 {w w1 : World} {cs cs' : Array Value} {t t' : TypeId} (hb : Below ((w.alloc (.cells cs t)).alloc (.cells cs' t')).heap.size ((w.alloc (.cells cs t)).alloc (.cells cs' t')) w1) :
  w1.heap[w.heap.size]? = some (.cells cs t (0, 0)) ∧ w1.heap[w.heap.size + 1]? = some (.cells cs' t' (0, 0)) ∧ w.heap.size + 1 < w1.heap.size ∧ Below w.heap.size w w1 := by
 have hs : ((w.alloc (.cells cs t)).alloc (.cells cs' t')).heap.size = w.heap.size + 2 := by simp
 have h1 := blk_alloc (.cells cs' t') (blk_new w (.cells cs t))
 have h2 := blk_new (w.alloc (.cells cs t)) (.cells cs' t')
 rw [show (w.alloc (.cells cs t)).heap.size = w.heap.size + 1 by simp] at h2
 exact ⟨(hb.block _ (by omega)).trans h1, (hb.block _ (by omega)).trans h2, by have := hb.size; omega, (((Below.refl _ w).alloc (Nat.le_refl _) _).alloc (by simp) _).trans (hb.mono (by omega))⟩
noncomputable def actP (v : Int) (a : Ac) : Bool :=
 if a.f0 = 1 then decide (0 ≤ a.f1) && decide (a.f1 < v) && decide (a.f2 = 0) && typP a.f3 1 v
 else if a.f0 = 2 ∨ a.f0 = 4 then decide (1 ≤ a.f1 ∧ a.f1 ≤ 1000) && decide (a.f2 = 0) && a.f3.toList.isEmpty
 else if a.f0 = 3 then decide (1 ≤ a.f1 ∧ a.f1 ≤ 1000) && decide (0 ≤ a.f2) && decide (a.f2 ≤ 1000) && typP a.f3 1 v
 else if a.f0 = 5 then decide (a.f1 = 0) && decide (a.f2 = 0) && typP a.f3 1 v
 else false
theorem event_any (n : Int) (w : World) : Calls Tryz.prog 107 #[.int .i64 n] w fun e w' => e = .returned (.bool (decide (1 ≤ n ∧ n ≤ 1000))) ∧ Below w.heap.size w w' := by
 by_cases c : 1 ≤ n
 ·have d1 : decide (n ≥ 1) = true := decide_eq_true c
  have hr : decide (1 ≤ n ∧ n ≤ 1000) = decide (n ≤ 1000) := by rw [decide_eq_decide]; exact ⟨fun h => h.2, fun h => ⟨c, h⟩⟩
  rw [hr]
  clear c hr
  go_enter Tryz.func107, Tryz.ntmps107
  go_wp2_with fail
  go_ret
  exact ⟨rfl, Below.refl _ _⟩
 ·have d1 : decide (n ≥ 1) = false := decide_eq_false c
  rw [decide_eq_false (fun h => c h.1)]
  clear c
  go_enter Tryz.func107, Tryz.ntmps107
  go_wp2_with fail
  go_ret
  exact ⟨rfl, Below.refl _ _⟩
theorem act_any (v : Int) (A B : Option Addr) (n m ca cb : Nat) (a : Ac) (hs : a.f3.size ≤ 281474976710656) (w : World) (hw : Laid w) :
  Calls Tryz.prog 127 #[ckV v A B n m ca cb, .agg #[.int .i64 a.f0, .int .i64 a.f1, .int .i64 a.f2, .string a.f3]] w fun e w' => e = .returned (.bool (actP v a)) ∧ Below w.heap.size w w' := by
 obtain ⟨k, p, q, t⟩ := a
 simp only at hs ⊢
 have hb0 : Below w.heap.size w ((w.alloc (.cells #[.int .i64 v, .slice A n ca, .slice B m cb] 136)).alloc (.cells #[.int .i64 k, .int .i64 p, .int .i64 q, .string t] 125)) :=
  ((Below.refl _ w).alloc (Nat.le_refl _) _).alloc (by simp) _
 have HB0 := Lib.hid hb0
 have HW := Lib.hid (hw.below hb0)
 clear hb0 hw
 by_cases k1 : k = 1
 ·subst k1
  have hP : actP v ⟨1, p, q, t⟩ = (decide (0 ≤ p) && decide (p < v) && decide (q = 0) && typP t 1 v) := rfl
  have HP := Lib.hid hP
  clear hP
  by_cases c : 0 ≤ p ∧ p < v ∧ q = 0
  ·obtain ⟨c1, c2, rfl⟩ := c
   have HR : Hid (actP v ⟨1, p, 0, t⟩ = typP t 1 v) := Lib.hid (by rw [HP.out]; simp [c1, c2])
   have d1 : decide (p ≥ 0) = true := decide_eq_true c1
   have d2 : decide (p < v) = true := decide_eq_true c2
   clear c1 c2 HP
   go_enter Tryz.func127, Tryz.ntmps127
   go_wp2_with fail
   refine (typed_any v A B n m ca cb t hs 1 _ HW.out).mono ?_
   rintro e w1 ⟨rfl, hb1⟩
   go_wp2_with fail
   go_ret
   exact ⟨by rw [HR.out]; rfl, below_then HB0.out HB0.out.size hb1⟩
  ·have HR : Hid (actP v ⟨1, p, q, t⟩ = false) := Lib.hid (by rw [HP.out]; simp; omega)
   have hor : decide (p ≥ 0) = false ∨ decide (p ≥ 0) = true ∧ decide (p < v) = false ∨ decide (p ≥ 0) = true ∧ decide (p < v) = true ∧ (q == 0) = false := by
    by_cases c1 : 0 ≤ p
    ·by_cases c2 : p < v
     ·exact .inr (.inr ⟨decide_eq_true c1, decide_eq_true c2, by simp; omega⟩)
     ·exact .inr (.inl ⟨decide_eq_true c1, decide_eq_false c2⟩)
    ·exact .inl (decide_eq_false c1)
   clear c HP
   go_enter Tryz.func127, Tryz.ntmps127
   rcases hor with d1 | ⟨d1, d2⟩ | ⟨d1, d2, d3⟩
   all_goals
    go_wp2_with fail
    go_ret
    exact ⟨by rw [HR.out]; rfl, HB0.out⟩
 by_cases k24 : k = 2 ∨ k = 4
 ·have hP : actP v ⟨k, p, q, t⟩ = (decide (1 ≤ p ∧ p ≤ 1000) && decide (q = 0) && t.toList.isEmpty) := by unfold actP; simp only; rw [if_neg k1, if_pos k24]
  have HP := Lib.hid hP
  have f1 : (k == 1) = false := by simp [k1]
  clear hP k1
  cases hE : decide (1 ≤ p ∧ p ≤ 1000) with
  | true =>
   have HE := Lib.hid hE
   by_cases d : q = 0
   ·have HR : Hid (actP v ⟨k, p, q, t⟩ = t.toList.isEmpty) := Lib.hid (by rw [HP.out, hE]; simp [d])
    have d1 : (q == 0) = true := by simp [d]
    clear d HP hE
    rcases k24 with rfl | rfl
    all_goals
     go_enter Tryz.func127, Tryz.ntmps127
     go_wp2_with fail
     refine (event_any p _).mono ?_
     rw [HE.out]
     rintro e w1 ⟨rfl, hb1⟩
     obtain ⟨hk1, hk2, hlt, hbw⟩ := boxed2 hb1
     have HK1 := Lib.hid hk1
     have HK2 := Lib.hid hk2
     have y0 : w1.cell? ⟨w.heap.size, 0, none⟩ = some (.int .i64 v) := blk_cell hk1 0
     have y1 : w1.cell? ⟨w.heap.size, 1, none⟩ = some (.slice A n ca) := blk_cell hk1 1
     have y2 : w1.cell? ⟨w.heap.size, 2, none⟩ = some (.slice B m cb) := blk_cell hk1 2
     have x2 : w1.cell? ⟨w.heap.size + 1, 2, none⟩ = some (.int .i64 q) := blk_cell hk2 2
     have x3 : w1.cell? ⟨w.heap.size + 1, 3, none⟩ = some (.string t) := blk_cell hk2 3
     clear hk1 hk2
     go_wp2_with fail
     go_ret
     exact ⟨by rw [HR.out]; rfl, hbw⟩
   ·have HR : Hid (actP v ⟨k, p, q, t⟩ = false) := Lib.hid (by rw [HP.out]; simp [d])
    have d1 : (q == 0) = false := by simp [d]
    clear d HP hE
    rcases k24 with rfl | rfl
    all_goals
     go_enter Tryz.func127, Tryz.ntmps127
     go_wp2_with fail
     refine (event_any p _).mono ?_
     rw [HE.out]
     rintro e w1 ⟨rfl, hb1⟩
     obtain ⟨hk1, hk2, hlt, hbw⟩ := boxed2 hb1
     have HK1 := Lib.hid hk1
     have HK2 := Lib.hid hk2
     have y0 : w1.cell? ⟨w.heap.size, 0, none⟩ = some (.int .i64 v) := blk_cell hk1 0
     have y1 : w1.cell? ⟨w.heap.size, 1, none⟩ = some (.slice A n ca) := blk_cell hk1 1
     have y2 : w1.cell? ⟨w.heap.size, 2, none⟩ = some (.slice B m cb) := blk_cell hk1 2
     have x2 : w1.cell? ⟨w.heap.size + 1, 2, none⟩ = some (.int .i64 q) := blk_cell hk2 2
     have x3 : w1.cell? ⟨w.heap.size + 1, 3, none⟩ = some (.string t) := blk_cell hk2 3
     clear hk1 hk2
     go_wp2_with fail
     go_ret
     exact ⟨by rw [HR.out]; rfl, hbw⟩
  | false =>
   have HE := Lib.hid hE
   have HR : Hid (actP v ⟨k, p, q, t⟩ = false) := Lib.hid (by rw [HP.out, hE]; rfl)
   clear HP hE
   rcases k24 with rfl | rfl
   all_goals
    go_enter Tryz.func127, Tryz.ntmps127
    go_wp2_with fail
    refine (event_any p _).mono ?_
    rw [HE.out]
    rintro e w1 ⟨rfl, hb1⟩
    obtain ⟨hk1, hk2, hlt, hbw⟩ := boxed2 hb1
    have HK1 := Lib.hid hk1
    have HK2 := Lib.hid hk2
    have y0 : w1.cell? ⟨w.heap.size, 0, none⟩ = some (.int .i64 v) := blk_cell hk1 0
    have y1 : w1.cell? ⟨w.heap.size, 1, none⟩ = some (.slice A n ca) := blk_cell hk1 1
    have y2 : w1.cell? ⟨w.heap.size, 2, none⟩ = some (.slice B m cb) := blk_cell hk1 2
    have x2 : w1.cell? ⟨w.heap.size + 1, 2, none⟩ = some (.int .i64 q) := blk_cell hk2 2
    have x3 : w1.cell? ⟨w.heap.size + 1, 3, none⟩ = some (.string t) := blk_cell hk2 3
    clear hk1 hk2
    go_wp2_with fail
    go_ret
    exact ⟨by rw [HR.out]; rfl, hbw⟩
 have f1 : (k == 1) = false := by simp [k1]
 have f2 : (k == 2) = false := by simp; omega
 have f4 : (k == 4) = false := by simp; omega
 by_cases k3 : k = 3
 ·subst k3
  have hP : actP v ⟨3, p, q, t⟩ = (decide (1 ≤ p ∧ p ≤ 1000) && decide (0 ≤ q) && decide (q ≤ 1000) && typP t 1 v) := rfl
  have HP := Lib.hid hP
  clear hP k1 k24
  cases hE : decide (1 ≤ p ∧ p ≤ 1000) with
  | true =>
   have HE := Lib.hid hE
   by_cases c : 0 ≤ q ∧ q ≤ 1000
   ·obtain ⟨c1, c2⟩ := c
    have HR : Hid (actP v ⟨3, p, q, t⟩ = typP t 1 v) := Lib.hid (by rw [HP.out, hE]; simp [c1, c2])
    have d1 : decide (q ≥ 0) = true := decide_eq_true c1
    have d2 : decide (q ≤ 1000) = true := decide_eq_true c2
    clear c1 c2 HP hE
    go_enter Tryz.func127, Tryz.ntmps127
    go_wp2_with fail
    refine (event_any p _).mono ?_
    rw [HE.out]
    rintro e w1 ⟨rfl, hb1⟩
    obtain ⟨hk1, hk2, hlt, hbw⟩ := boxed2 hb1
    have HK1 := Lib.hid hk1
    have HK2 := Lib.hid hk2
    have y0 : w1.cell? ⟨w.heap.size, 0, none⟩ = some (.int .i64 v) := blk_cell hk1 0
    have y1 : w1.cell? ⟨w.heap.size, 1, none⟩ = some (.slice A n ca) := blk_cell hk1 1
    have y2 : w1.cell? ⟨w.heap.size, 2, none⟩ = some (.slice B m cb) := blk_cell hk1 2
    have x2 : w1.cell? ⟨w.heap.size + 1, 2, none⟩ = some (.int .i64 q) := blk_cell hk2 2
    have x3 : w1.cell? ⟨w.heap.size + 1, 3, none⟩ = some (.string t) := blk_cell hk2 3
    clear hk1 hk2
    go_wp2_with fail
    refine (typed_any v A B n m ca cb t hs 1 _ (HW.out.below hb1)).mono ?_
    rintro e w2 ⟨rfl, hb2⟩
    go_wp2_with fail
    go_ret
    exact ⟨by rw [HR.out]; rfl, below_then hbw (Nat.le_of_lt (by omega)) hb2⟩
   ·have HR : Hid (actP v ⟨3, p, q, t⟩ = false) := Lib.hid (by rw [HP.out]; simp; omega)
    have hor : decide (q ≥ 0) = false ∨ decide (q ≥ 0) = true ∧ decide (q ≤ 1000) = false := by
     by_cases c1 : 0 ≤ q
     ·exact .inr ⟨decide_eq_true c1, decide_eq_false (by omega)⟩
     ·exact .inl (decide_eq_false c1)
    clear c HP hE
    rcases hor with d1 | ⟨d1, d2⟩
    all_goals
     go_enter Tryz.func127, Tryz.ntmps127
     go_wp2_with fail
     refine (event_any p _).mono ?_
     rw [HE.out]
     rintro e w1 ⟨rfl, hb1⟩
     obtain ⟨hk1, hk2, hlt, hbw⟩ := boxed2 hb1
     have HK1 := Lib.hid hk1
     have HK2 := Lib.hid hk2
     have y0 : w1.cell? ⟨w.heap.size, 0, none⟩ = some (.int .i64 v) := blk_cell hk1 0
     have y1 : w1.cell? ⟨w.heap.size, 1, none⟩ = some (.slice A n ca) := blk_cell hk1 1
     have y2 : w1.cell? ⟨w.heap.size, 2, none⟩ = some (.slice B m cb) := blk_cell hk1 2
     have x2 : w1.cell? ⟨w.heap.size + 1, 2, none⟩ = some (.int .i64 q) := blk_cell hk2 2
     have x3 : w1.cell? ⟨w.heap.size + 1, 3, none⟩ = some (.string t) := blk_cell hk2 3
     clear hk1 hk2
     go_wp2_with fail
     go_ret
     exact ⟨by rw [HR.out]; rfl, hbw⟩
  | false =>
   have HE := Lib.hid hE
   have HR : Hid (actP v ⟨3, p, q, t⟩ = false) := Lib.hid (by rw [HP.out, hE]; rfl)
   clear HP hE
   go_enter Tryz.func127, Tryz.ntmps127
   go_wp2_with fail
   refine (event_any p _).mono ?_
   rw [HE.out]
   rintro e w1 ⟨rfl, hb1⟩
   obtain ⟨hk1, hk2, hlt, hbw⟩ := boxed2 hb1
   have HK1 := Lib.hid hk1
   have HK2 := Lib.hid hk2
   have y0 : w1.cell? ⟨w.heap.size, 0, none⟩ = some (.int .i64 v) := blk_cell hk1 0
   have y1 : w1.cell? ⟨w.heap.size, 1, none⟩ = some (.slice A n ca) := blk_cell hk1 1
   have y2 : w1.cell? ⟨w.heap.size, 2, none⟩ = some (.slice B m cb) := blk_cell hk1 2
   have x2 : w1.cell? ⟨w.heap.size + 1, 2, none⟩ = some (.int .i64 q) := blk_cell hk2 2
   have x3 : w1.cell? ⟨w.heap.size + 1, 3, none⟩ = some (.string t) := blk_cell hk2 3
   clear hk1 hk2
   go_wp2_with fail
   go_ret
   exact ⟨by rw [HR.out]; rfl, hbw⟩
 have f3 : (k == 3) = false := by simp [k3]
 by_cases k5 : k = 5
 ·subst k5
  have hP : actP v ⟨5, p, q, t⟩ = (decide (p = 0) && decide (q = 0) && typP t 1 v) := rfl
  have HP := Lib.hid hP
  clear hP k1 k24 k3
  by_cases c : p = 0 ∧ q = 0
  ·obtain ⟨rfl, rfl⟩ := c
   have HR : Hid (actP v ⟨5, 0, 0, t⟩ = typP t 1 v) := Lib.hid (by rw [HP.out]; simp)
   clear HP
   go_enter Tryz.func127, Tryz.ntmps127
   go_wp2_with fail
   refine (typed_any v A B n m ca cb t hs 1 _ HW.out).mono ?_
   rintro e w1 ⟨rfl, hb1⟩
   go_wp2_with fail
   go_ret
   exact ⟨by rw [HR.out]; rfl, below_then HB0.out HB0.out.size hb1⟩
  ·have HR : Hid (actP v ⟨5, p, q, t⟩ = false) := Lib.hid (by rw [HP.out]; simp; omega)
   have hor : (p == 0) = false ∨ (p == 0) = true ∧ (q == 0) = false := by
    by_cases c1 : p = 0
    ·exact .inr ⟨by simp [c1], by simp; omega⟩
    ·exact .inl (by simp [c1])
   clear c HP
   go_enter Tryz.func127, Tryz.ntmps127
   rcases hor with d1 | ⟨d1, d2⟩
   all_goals
    go_wp2_with fail
    go_ret
    exact ⟨by rw [HR.out]; rfl, HB0.out⟩
 have f5 : (k == 5) = false := by simp [k5]
 have HR : Hid (actP v ⟨k, p, q, t⟩ = false) := Lib.hid (by unfold actP; simp only; rw [if_neg k1, if_neg k24, if_neg k3, if_neg k5])
 clear k1 k24 k3 k5
 go_enter Tryz.func127, Tryz.ntmps127
 go_wp2_with fail
 go_ret
 exact ⟨by rw [HR.out]; rfl, HB0.out⟩
end Go.Proofs.YtikilglbhnplaaaGreatDoor
end
section
namespace Go.Proofs.YtikilglbhnplaaaGreatDoor
open Go.RowKit Go.Proofs.YtikilglbhnplaaaGreatDoorW.PrintWords
open PX (T V)
noncomputable def actsP (v : Int) (l : List Ac) : Bool := decide (l.length ≤ 5) && l.all (actP v)
theorem actsAt {w : World} {A : Option Addr} {l : List Ac} (h : ActsC w A l.length l) (q : Nat) (hq : q < l.length) : ∃ ad, A = some ad ∧ w.cell? (ad.add (q * 4)) = some (.int .i64 l[q].f0) ∧ w.cell? ⟨(ad.add (q * 4)).block, (ad.add (q * 4)).off + 1, none⟩ = some (.int .i64 l[q].f1) ∧ w.cell? ⟨(ad.add (q * 4)).block, (ad.add (q * 4)).off + 2, none⟩ = some (.int .i64 l[q].f2) ∧ w.cell? ⟨(ad.add (q * 4)).block, (ad.add (q * 4)).off + 3, none⟩ = some (.string l[q].f3) := by
 obtain ⟨ad, h1, h2⟩ := PAll.at_T125 h (q : Int) (by omega) (by omega)
 have hr : PAll.rd_T125 l (q : Int) = l[q] := by simp [PAll.rd_T125, List.getD_eq_getElem?_getD, List.getElem?_eq_getElem hq]
 rw [hr, Int.toNat_natCast] at h2
 exact ⟨ad, h1, h2⟩
theorem odd_any (g : Nat) (v : Int) (A B : Option Addr) (n m ca cb : Nat) (a : Ac) (hs : a.f3.size ≤ 281474976710656) (w : World) (hw : Laid w)
  (hg : w.heap[g]? = some (.cells #[.int .i64 v, .slice A n ca, .slice B m cb] 136 (0, 0))) :
  Calls Tryz.prog 126 #[.agg #[.int .i64 a.f0, .int .i64 a.f1, .int .i64 a.f2, .string a.f3], .pointer (some ⟨g, 0, none⟩)] w fun e w' => e = .returned (.bool (!actP v a)) ∧ Below w.heap.size w w' := by
 have hb0 : Below w.heap.size w (w.alloc (.cells #[.int .i64 a.f0, .int .i64 a.f1, .int .i64 a.f2, .string a.f3] 125)) := (Below.refl _ w).alloc (Nat.le_refl _) _
 have HB0 := Lib.hid hb0
 have HW := Lib.hid (hw.below hb0)
 have hg1 := blk_alloc (.cells #[.int .i64 a.f0, .int .i64 a.f1, .int .i64 a.f2, .string a.f3] 125) hg
 have g0 : (w.alloc (.cells #[.int .i64 a.f0, .int .i64 a.f1, .int .i64 a.f2, .string a.f3] 125)).cell? ⟨g, 0, none⟩ = some (.int .i64 v) := blk_cell hg1 0
 have g1 : (w.alloc (.cells #[.int .i64 a.f0, .int .i64 a.f1, .int .i64 a.f2, .string a.f3] 125)).cell? ⟨g, 1, none⟩ = some (.slice A n ca) := blk_cell hg1 1
 have g2 : (w.alloc (.cells #[.int .i64 a.f0, .int .i64 a.f1, .int .i64 a.f2, .string a.f3] 125)).cell? ⟨g, 2, none⟩ = some (.slice B m cb) := blk_cell hg1 2
 clear hb0 hw hg hg1
 go_enter Tryz.func126, Tryz.ntmps126
 go_wp2_with fail
 refine (act_any v A B n m ca cb a hs _ HW.out).mono ?_
 rintro e w1 ⟨rfl, hb1⟩
 go_wp2_with fail
 go_ret
 exact ⟨rfl, below_then HB0.out HB0.out.size hb1⟩
noncomputable def oddAt (v : Int) : List Ac → Int → Int
 | [], _ => -1
 | a :: l, i => if actP v a = true then oddAt v l (i + 1) else i
theorem oddAt_neg (v : Int) (l : List Ac) : ∀ i : Int, 0 ≤ i → (oddAt v l i < 0 ↔ l.all (actP v) = true) := by
 induction l with
 | nil => intro i h; simp [oddAt]
 | cons a l ih =>
  intro i h
  simp only [oddAt, List.all_cons, Bool.and_eq_true]
  cases hp : actP v a with
  | true => rw [if_pos rfl]; simpa using ih (i + 1) (by omega)
  | false => rw [if_neg (by simp)]; simp; omega
theorem oddIdx_any (g : Nat) (v : Int) (A B : Option Addr) (n m ca cb : Nat) (S : Option Addr) (c : Nat) (l : List Ac) (hs : ∀ a ∈ l, a.f3.size ≤ 281474976710656) (w : World) (hw : Laid w)
  (hg : w.heap[g]? = some (.cells #[.int .i64 v, .slice A n ca, .slice B m cb] 136 (0, 0))) (hS : ActsC w S l.length l) (hc : l.length ≤ c) (hl : l.length ≤ 1000000) :
  Calls Tryz.prog 139 #[.slice S l.length c, .func (.func 126) #[] #[.pointer (some ⟨g, 0, none⟩)]] w fun e w' => e = .returned (.int .i64 (oddAt v l 0)) ∧ Below w.heap.size w w' := by
 have hrun : ∀ args w, (callFunc 126 args).run Tryz.prog w = .ok (.enter 126 args) w := fun _ _ => rfl
 have HG := Lib.hid hg
 have HS := Lib.hid hS
 have HZ := Lib.hid hs
 clear hg hS hs
 go_enter Tryz.func139, Tryz.ntmps139
 go_wp2_with fail
 go_loopw [8] (fun i wr => ∃ q : Nat, i = .int .i64 q ∧ q ≤ l.length ∧ Hid (Below w.heap.size w wr) ∧ Hid (oddAt v l 0 = oddAt v (l.drop q) q)) (fun i _ => l.length - (intOf i).toNat)
 case atStart => exact ⟨0, rfl, Nat.zero_le _, Lib.hid (Below.refl _ _), Lib.hid (by simp)⟩
 case round =>
  obtain ⟨q, rfl, hq, HB, HE⟩ := hrel
  by_cases hlt : q < l.length
  ·obtain ⟨ad, rfl, a0, a1, a2, a3⟩ := actsAt (Kd.C_below HS.out HB.out) q hlt
   have hds : l.drop q = l[q] :: l.drop (q + 1) := List.drop_eq_getElem_cons hlt
   have HE2 := HE.out
   rw [hds] at HE2
   have HZ2 := Lib.hid (HZ.out l[q] (List.getElem_mem hlt))
   have p1 : ((q : Int) < (l.length : Int)) = True := eq_true (by omega)
   clear hds HE
   generalize l[q] = a at *
   have HE := Lib.hid HE2
   clear HE2
   go_wp2_with fail
   refine (odd_any g v A B n m ca cb a HZ2.out _ (hw.below HB.out) ((HB.out.block g (lt_of_block HG.out)).trans HG.out)).mono ?_
   rintro e w2 ⟨rfl, hb2⟩
   have HB2 := Lib.hid (below_then HB.out HB.out.size hb2)
   clear hb2 a0 a1 a2 a3
   cases hp : actP v a with
   | true =>
    have HE3 : Hid (oddAt v l 0 = oddAt v (l.drop (q + 1)) ((q + 1 : Nat) : Int)) := Lib.hid (by have := HE.out; simp only [oddAt] at this; rw [if_pos hp] at this; rw [this]; rfl)
    simp only [Bool.not_true]
    go_wp2_with fail
    go_roundw
    case rel => exact ⟨q + 1, by go_num, by omega, HB2, HE3⟩
    case measure => simp [intOf]; omega
   | false =>
    have HE3 : Hid (oddAt v l 0 = (q : Int)) := Lib.hid (by have := HE.out; simp only [oddAt] at this; rw [if_neg (by rw [hp]; simp)] at this; exact this)
    simp only [Bool.not_false]
    go_wp2_with fail
    go_ret
    exact ⟨by rw [HE3.out]; rfl, HB2.out⟩
  ·obtain rfl : q = l.length := by omega
   have HE3 : Hid (oddAt v l 0 = -1) := Lib.hid (by rw [HE.out, List.drop_length]; rfl)
   go_wp2_with fail
   go_ret
   exact ⟨by rw [HE3.out]; rfl, HB.out⟩
theorem oddHas_any (g : Nat) (v : Int) (A B : Option Addr) (n m ca cb : Nat) (S : Option Addr) (c : Nat) (l : List Ac) (hs : ∀ a ∈ l, a.f3.size ≤ 281474976710656) (w : World) (hw : Laid w)
  (hg : w.heap[g]? = some (.cells #[.int .i64 v, .slice A n ca, .slice B m cb] 136 (0, 0))) (hS : ActsC w S l.length l) (hc : l.length ≤ c) (hl : l.length ≤ 1000000) :
  Calls Tryz.prog 128 #[.slice S l.length c, .func (.func 126) #[] #[.pointer (some ⟨g, 0, none⟩)]] w fun e w' => e = .returned (.bool (!l.all (actP v))) ∧ Below w.heap.size w w' := by
 have HG := Lib.hid hg
 have HS := Lib.hid hS
 have hz := oddAt_neg v l 0 (Int.le_refl _)
 have hr : decide (oddAt v l 0 ≥ 0) = !l.all (actP v) := by
  cases h : l.all (actP v) with
  | true => have := hz.2 h; simp; omega
  | false => have : ¬ (oddAt v l 0 < 0) := (fun hh => by rw [hz.1 hh] at h; cases h); simp; omega
 have HR := Lib.hid hr
 clear hg hS hz hr
 go_enter Tryz.func128, Tryz.ntmps128
 go_wp2_with fail
 refine (oddIdx_any g v A B n m ca cb S c l hs w hw HG.out HS.out hc hl).mono ?_
 rintro e w1 ⟨rfl, hb1⟩
 go_wp2_with fail
 go_ret
 exact ⟨by rw [← HR.out]; rfl, hb1⟩
theorem acts_any (v : Int) (A B : Option Addr) (n m ca cb : Nat) (S : Option Addr) (c : Nat) (l : List Ac) (hs : ∀ a ∈ l, a.f3.size ≤ 281474976710656) (w : World) (hw : Laid w) (hS : ActsC w S l.length l) (hc : l.length ≤ c) :
  Calls Tryz.prog 105 #[ckV v A B n m ca cb, .slice S l.length c] w fun e w' => e = .returned (.bool (actsP v l)) ∧ Below w.heap.size w w' := by
 have hmf : ∀ (fn : Fn) (first cap : Array Value) (w : World), (Instr.makeFunc fn first cap).run Tryz.prog w = .ok (.func fn first cap) w := fun _ _ _ _ => rfl
 have hb0 : Below w.heap.size w (w.alloc (.cells #[.int .i64 v, .slice A n ca, .slice B m cb] 136)) := (Below.refl _ w).alloc (Nat.le_refl _) _
 have HB0 := Lib.hid hb0
 have HW := Lib.hid (hw.below hb0)
 have HS := Lib.hid (Kd.C_below hS hb0)
 have HG := Lib.hid (blk_new w (.cells #[.int .i64 v, .slice A n ca, .slice B m cb] 136))
 clear hb0 hw hS
 by_cases h5 : l.length ≤ 5
 ·have HR : Hid (actsP v l = l.all (actP v)) := Lib.hid (by unfold actsP; rw [decide_eq_true h5, Bool.true_and])
  have d1 : decide ((l.length : Int) ≤ 5) = true := decide_eq_true (by omega)
  go_enter Tryz.func105, Tryz.ntmps105
  go_wp2_with fail
  refine (oddHas_any w.heap.size v A B n m ca cb S c l hs _ HW.out HG.out HS.out hc (by omega)).mono ?_
  rintro e w1 ⟨rfl, hb1⟩
  go_wp2_with fail
  go_ret
  exact ⟨by rw [HR.out]; simp, below_then HB0.out HB0.out.size hb1⟩
 ·have HR : Hid (actsP v l = false) := Lib.hid (by unfold actsP; rw [decide_eq_false h5]; rfl)
  have d1 : decide ((l.length : Int) ≤ 5) = false := decide_eq_false (by omega)
  go_enter Tryz.func105, Tryz.ntmps105
  go_wp2_with fail
  go_ret
  exact ⟨by rw [HR.out]; rfl, HB0.out⟩
end Go.Proofs.YtikilglbhnplaaaGreatDoor
end
