/- The records that follow one another, out of any list of what was found and from any number on, are what the document says; for every input. (This text: part 3 of 5.) -/
import Derived.Test.YtdgefplbfffenaaLogRunsM2
import Derived.Shelf.Abstract
import Derived.Deep.RegionHeld3
import Derived.Lib.Bytealg
import Derived.WalkLawsBesides
import Derived.WalkSpells
import Derived.Lib.OthersKept
import Derived.Deep.RegionWith
import Derived.Deep.RegionLaw
set_option linter.unusedVariables false
set_option linter.unusedSimpArgs false
namespace Go.Proofs.Ytdgefplbfffenaa.X
open Go.Shelf Go.RowKit Go.Proofs.YtdgefplbfffenaaW.PrintWords Go.Proofs.YtdgefplbfffenaaW.PrintLast Go.Proofs.YtdgefplbfffenaaW.PrintMore
theorem eg44 : ∀ args w, (callFunc 44 args).run Try.prog w = .ok (.enter 44 args) w := enters_of Try.func44 (by kernel_rfl) rfl
theorem eg83 : ∀ args w, (callFunc 83 args).run Try.prog w = .ok (.enter 83 args) w := enters_of Try.func83 (by kernel_rfl) rfl
theorem fidx_nonneg (p : S52 → Bool) (l : List S52) : decide (0 ≤ fidx p l) = l.any p := by
  unfold fidx
  split
  · rename_i h; rw [h]; exact decide_eq_true (by omega)
  · rename_i h; rw [Bool.eq_false_iff.mpr h]; decide
set_option maxHeartbeats 4000000 in
set_option maxRecDepth 100000 in
theorem containsFunc_zone (g : Nat) (lb : Array Value) (p : S52 → Bool) (A : Option Addr) (c : Nat) (l : List S52) (w : World)
    (eg : ∀ args w, (callFunc g args).run Try.prog w = .ok (.enter g args) w)
    (hp : ∀ (W : World) (z : S52) (cs : List Value), Below w.heap.size w W → k52.K W z cs → Calls Try.prog g (#[.agg cs.toArray] ++ lb) W fun e w' => e = .returned (.bool (p z)) ∧ Below W.heap.size W w')
    (hr : k52.C w A l.length l) :
    Calls Try.prog 43 #[.slice A l.length c, .func (.func g) #[] lb] w fun e w' => e = .returned (.bool (l.any p)) ∧ Below w.heap.size w w' := by
  have HC := Aside0.mk (indexFunc_zone g lb p A c l w eg hp hr)
  have HN := Aside0.mk (fidx_nonneg p l)
  clear hr hp
  generalize fidx p l = ix at HC HN
  generalize l.any p = b at HN
  go_enter Try.func43, Try.ntmps43
  go_wp2_with fail
  refine HC.out.mono ?_
  rintro e w' ⟨rfl, hb⟩
  go_wp2
  go_ret
  exact ⟨by show Ending.returned (.bool (decide (0 ≤ ix))) = _; rw [HN.out], hb⟩
def dok (a0 : Int) (l : List S52) : Bool := !(l.any fun z => !zok z a0) && decide (0 < (l.length : Int)) && decide ((l.length : Int) ≤ 64) && decide (0 < a0) && decide (a0 ≤ 1048576)
def dev_Check.f (a0_0 : Int) (l0_1 : List (S52)) (a0_2 : Int) (a0_3 : Bool) (a0_4 : Int) : Option (Bool) := some (dok a0_0 l0_1)
set_option maxHeartbeats 4000000 in
set_option maxRecDepth 100000 in
theorem dev_Check.calls (a0_0 : Int) (A0_1 : Option Addr) (c0_1 : Nat) (l0_1 : List (S52)) (a0_2 : Int) (a0_3 : Bool) (a0_4 : Int) (r : Bool) (w : World) (hr0_1 : Kd.C k52 w A0_1 l0_1.length l0_1) (hc0_1 : l0_1.length ≤ c0_1) (h : dev_Check.f a0_0 l0_1 a0_2 a0_3 a0_4 = some r) :
    Calls Try.prog 20 #[.agg #[.int .i64 a0_0, .slice A0_1 l0_1.length c0_1, .int .i64 a0_2, .bool a0_3, .int .i64 a0_4]] w fun e w' => e = .returned (.bool r) ∧ Below w.heap.size w w' := by
  obtain rfl := Option.some.inj h
  clear h
  have hu27 := Try.underlying27
  have hb0 := below_alloc (Below.refl w.heap.size w) (.cells #[.int .i64 a0_0, .slice A0_1 l0_1.length c0_1, .int .i64 a0_2, .bool a0_3, .int .i64 a0_4] 27)
  have HC := Aside0.mk (containsFunc_zone 44 #[.pointer (some ⟨w.heap.size, 0, none⟩)] (fun z => !zok z a0_0) A0_1 c0_1 l0_1 (w.alloc (.cells #[.int .i64 a0_0, .slice A0_1 l0_1.length c0_1, .int .i64 a0_2, .bool a0_3, .int .i64 a0_4] 27)) eg44
    (devCheck1_calls w.heap.size a0_0 _ (by simp) (by simp)) (Kd.C_below hr0_1 hb0))
  have hn : w.heap.size ≠ w.heap.size + 1 := by omega
  clear hr0_1 hc0_1 hb0
  unfold dok
  generalize (l0_1.any fun z => !zok z a0_0) = b at HC
  have fin : ∀ (x : Bool) W', (Below (w.alloc (.cells #[.int .i64 a0_0, .slice A0_1 l0_1.length c0_1, .int .i64 a0_2, .bool a0_3, .int .i64 a0_4] 27)).heap.size (w.alloc (.cells #[.int .i64 a0_0, .slice A0_1 l0_1.length c0_1, .int .i64 a0_2, .bool a0_3, .int .i64 a0_4] 27)) W') → Below w.heap.size w W' := fun _ W' hb => (below_alloc (Below.refl _ w) _).trans (hb.mono (by simp))
  have FIN := Aside0.mk fin
  clear fin
  by_cases h1 : b = true
  all_goals (first | subst h1 | (have h1 := Bool.eq_false_iff.mpr h1; subst h1))
  · go_enter Try.func20, Try.ntmps20
    go_wp2_with fail
    refine HC.out.mono ?_
    rintro e w' ⟨rfl, hb⟩
    have HB := Aside0.mk hb
    clear hb HC
    go_wp2
    go_ret
    exact ⟨rfl, FIN.out false _ HB.out⟩
  · have key : ∀ x1 x2 x3 x4 : Bool, decide (0 < (l0_1.length : Int)) = x1 → decide ((l0_1.length : Int) ≤ 64) = x2 → decide (0 < a0_0) = x3 → decide (a0_0 ≤ 1048576) = x4 →
        Calls Try.prog 20 #[.agg #[.int .i64 a0_0, .slice A0_1 l0_1.length c0_1, .int .i64 a0_2, .bool a0_3, .int .i64 a0_4]] w fun e w' => e = .returned (.bool (x1 && x2 && x3 && x4)) ∧ Below w.heap.size w w' := by
      intro x1 x2 x3 x4 h1 h2 h3 h4
      have g1 : decide (0 < l0_1.length) = x1 := by rw [← h1]; congr 1; simp
      have g2 : decide (l0_1.length ≤ 64) = x2 := by rw [← h2]; congr 1; simp; omega
      cases x1 <;> cases x2 <;> cases x3 <;> cases x4
      all_goals
        go_enter Try.func20, Try.ntmps20
        go_wp2_with fail
        refine HC.out.mono ?_
        rintro e w' ⟨rfl, hb⟩
        have HB := Aside0.mk hb
        have hs : w'.cell? ⟨w.heap.size, 0, none⟩ = some (.int .i64 a0_0) := (hb.cell (p := ⟨w.heap.size, 0, none⟩) (by simp)).trans (by simp)
        have hz : w'.cell? ⟨w.heap.size, 1, none⟩ = some (.slice A0_1 l0_1.length c0_1) := (hb.cell (p := ⟨w.heap.size, 1, none⟩) (by simp)).trans (by simp)
        clear hb HC
        go_wp2
        go_ret
        exact ⟨rfl, FIN.out false _ HB.out⟩
    simpa using key _ _ _ _ rfl rfl rfl rfl
end Go.Proofs.Ytdgefplbfffenaa.X
namespace Go.Proofs.Ytdgefplbfffenaa.X
open Go.Shelf Go.RowKit Go.Proofs.YtdgefplbfffenaaW.PrintWords Go.Proofs.YtdgefplbfffenaaW.PrintLast Go.Proofs.YtdgefplbfffenaaW.PrintMore
set_option maxHeartbeats 4000000 in
set_option maxRecDepth 100000 in
/-- log.first's closure: a zone of a state that has room; the state, the device and the number lie in three blocks. -/
theorem logFirst1_calls (Bs Bd Bn : Nat) (st size n : Int) (w : World) (hs : w.cell? ⟨Bs, 0, none⟩ = some (.int .i64 st)) (hd : w.cell? ⟨Bd, 0, none⟩ = some (.int .i64 size)) (hn : w.cell? ⟨Bn, 0, none⟩ = some (.int .i64 n)) (W : World) (z : S52) (cs : List Value) (hb : Below w.heap.size w W) (hK : k52.K W z cs) :
    Calls Try.prog 83 (#[.agg cs.toArray] ++ #[.pointer (some ⟨Bs, 0, none⟩), .pointer (some ⟨Bd, 0, none⟩), .pointer (some ⟨Bn, 0, none⟩)]) W fun e w' => e = .returned (.bool (z.f0 == st && decide (n ≤ zroom z size))) ∧ Below W.heap.size W w' := by
  obtain ⟨A2, c2, rfl, hl, hC⟩ := k52_open hK
  have hu52 := Try.underlying52
  have hs' : W.cell? ⟨Bs, 0, none⟩ = some (.int .i64 st) := (hb.cell (World.block_lt_of_cell? w _ hs)).trans hs
  have hd' : W.cell? ⟨Bd, 0, none⟩ = some (.int .i64 size) := (hb.cell (World.block_lt_of_cell? w _ hd)).trans hd
  have hn' : W.cell? ⟨Bn, 0, none⟩ = some (.int .i64 n) := (hb.cell (World.block_lt_of_cell? w _ hn)).trans hn
  have hrm := fun X (h : k52.K X z _) => zroom_calls z [.int .i64 z.f0, .int .i64 z.f1, .slice A2 z.f2.length c2, .int .i64 z.f3] size X h
  generalize zroom z size = rm at hrm ⊢
  simp only [List.append_toArray, List.cons_append, List.nil_append]
  have HK := Aside0.mk hK
  have HRM := Aside0.mk hrm
  have ls := World.block_lt_of_cell? W _ hs'
  have ld := World.block_lt_of_cell? W _ hd'
  have ln := World.block_lt_of_cell? W _ hn'
  simp only at ls ld ln
  have hb1 := Aside0.mk (below_alloc (Below.refl W.heap.size W) (.cells #[.int .i64 z.f0, .int .i64 z.f1, .slice A2 z.f2.length c2, .int .i64 z.f3] 52))
  have es := hb1.out.cell (p := ⟨Bs, 0, none⟩) ls
  have ed := hb1.out.cell (p := ⟨Bd, 0, none⟩) ld
  have en := hb1.out.cell (p := ⟨Bn, 0, none⟩) ln
  rw [hs'] at es
  rw [hd'] at ed
  rw [hn'] at en
  have c0 : (W.alloc (.cells #[.int .i64 z.f0, .int .i64 z.f1, .slice A2 z.f2.length c2, .int .i64 z.f3] 52)).cell? ⟨W.heap.size, 0, none⟩ = some (.int .i64 z.f0) := by simp
  have c1 : (W.alloc (.cells #[.int .i64 z.f0, .int .i64 z.f1, .slice A2 z.f2.length c2, .int .i64 z.f3] 52)).cell? ⟨W.heap.size, 1, none⟩ = some (.int .i64 z.f1) := by simp
  have cc2 : (W.alloc (.cells #[.int .i64 z.f0, .int .i64 z.f1, .slice A2 z.f2.length c2, .int .i64 z.f3] 52)).cell? ⟨W.heap.size, 2, none⟩ = some (.slice A2 z.f2.length c2) := by simp
  have c3 : (W.alloc (.cells #[.int .i64 z.f0, .int .i64 z.f1, .slice A2 z.f2.length c2, .int .i64 z.f3] 52)).cell? ⟨W.heap.size, 3, none⟩ = some (.int .i64 z.f3) := by simp
  have hK1 := Aside0.mk (k52.K_below hb1.out hK)
  have hz1 : W.heap.size < (W.alloc (.cells #[.int .i64 z.f0, .int .i64 z.f1, .slice A2 z.f2.length c2, .int .i64 z.f3] 52)).heap.size := by simp
  clear hb hK hl hC hs' hd' hn' hs hd hn hrm
  go_enter Try.func83, Try.ntmps83
  go_wp2
  generalize W.alloc (.cells #[.int .i64 z.f0, .int .i64 z.f1, .slice A2 z.f2.length c2, .int .i64 z.f3] 52) = W1 at *
  cases h1 : (z.f0 == st) with
  | false =>
    go_quiet (fail)
    go_wp2
    go_ret
    exact ⟨by rw [h1]; rfl, pw_below_drewN hb1.out _⟩
  | true =>
    go_region_held3 (fun w' => w'.cell? ⟨Bs, 0, none⟩ = some (.int .i64 st) ∧ w'.cell? ⟨Bd, 0, none⟩ = some (.int .i64 size) ∧ w'.cell? ⟨Bn, 0, none⟩ = some (.int .i64 n) ∧ w'.cell? ⟨W.heap.size, 0, none⟩ = some (.int .i64 z.f0) ∧ w'.cell? ⟨W.heap.size, 1, none⟩ = some (.int .i64 z.f1) ∧ w'.cell? ⟨W.heap.size, 2, none⟩ = some (.slice A2 z.f2.length c2) ∧ w'.cell? ⟨W.heap.size, 3, none⟩ = some (.int .i64 z.f3))
      (first
        | exact ⟨es, ed, en, c0, c1, cc2, c3⟩
        | exact ⟨pw_cell_below hb2 es, pw_cell_below hb2 ed, pw_cell_below hb2 en, pw_cell_below hb2 c0, pw_cell_below hb2 c1, pw_cell_below hb2 cc2, pw_cell_below hb2 c3⟩)
      (first | (go_at_call 84; refine (HRM.out _ (k52.K_below (below_drew (Below.refl _ _)) hK1.out)).mono ?_; rintro e w' ⟨rfl, hb2⟩))
    go_wp2
    go_ret
    exact ⟨by rw [h1]; rfl, hb1.out.trans ((below_drew (Below.refl _ _)).trans (hb2.mono (by have := hz1; show _ ≤ W1.heap.size; omega)))⟩
def log_first.f (a0_0 : Int) (l0_1 : List (S52)) (_a0_2 : Int) (_a0_3 : Bool) (_a0_4 : Int) (a1 : Int) (a2 : Int) : Option (Int) := some (fidx (fun z => z.f0 == a1 && decide (a2 ≤ zroom z a0_0)) l0_1)
set_option maxHeartbeats 4000000 in
set_option maxRecDepth 100000 in
theorem log_first.calls (a0_0 : Int) (A0_1 : Option Addr) (c0_1 : Nat) (l0_1 : List (S52)) (a0_2 : Int) (a0_3 : Bool) (a0_4 : Int) (a1 : Int) (a2 : Int) (r : Int) (w : World) (hr0_1 : Kd.C k52 w A0_1 l0_1.length l0_1) (_hc0_1 : l0_1.length ≤ c0_1) (h : log_first.f a0_0 l0_1 a0_2 a0_3 a0_4 a1 a2 = some r) :
    Calls Try.prog 64 #[.agg #[.int .i64 a0_0, .slice A0_1 l0_1.length c0_1, .int .i64 a0_2, .bool a0_3, .int .i64 a0_4], .int .i64 a1, .int .i64 a2] w fun e w' => e = .returned (.int .i64 r) ∧ Below w.heap.size w w' := by
  obtain rfl := Option.some.inj h
  clear h
  have hu27 := Try.underlying27
  have hb0 := ((below_alloc (Below.refl w.heap.size w) (.cells #[.int .i64 a0_0, .slice A0_1 l0_1.length c0_1, .int .i64 a0_2, .bool a0_3, .int .i64 a0_4] 27)).alloc (by simp) (.cells #[.int .i64 a1] 3)).alloc (by simp; omega) (.cells #[.int .i64 a2] 3)
  have k1 : (((w.alloc (.cells #[.int .i64 a0_0, .slice A0_1 l0_1.length c0_1, .int .i64 a0_2, .bool a0_3, .int .i64 a0_4] 27)).alloc (.cells #[.int .i64 a1] 3)).alloc (.cells #[.int .i64 a2] 3)).cell? ⟨w.heap.size + 1, 0, none⟩ = some (.int .i64 a1) := by go_simp
  have k2 : (((w.alloc (.cells #[.int .i64 a0_0, .slice A0_1 l0_1.length c0_1, .int .i64 a0_2, .bool a0_3, .int .i64 a0_4] 27)).alloc (.cells #[.int .i64 a1] 3)).alloc (.cells #[.int .i64 a2] 3)).cell? ⟨w.heap.size, 0, none⟩ = some (.int .i64 a0_0) := by go_simp
  have k3 : (((w.alloc (.cells #[.int .i64 a0_0, .slice A0_1 l0_1.length c0_1, .int .i64 a0_2, .bool a0_3, .int .i64 a0_4] 27)).alloc (.cells #[.int .i64 a1] 3)).alloc (.cells #[.int .i64 a2] 3)).cell? ⟨w.heap.size + 2, 0, none⟩ = some (.int .i64 a2) := by go_simp
  have HC := Aside0.mk (indexFunc_zone 83 #[.pointer (some ⟨w.heap.size + 1, 0, none⟩), .pointer (some ⟨w.heap.size, 0, none⟩), .pointer (some ⟨w.heap.size + 2, 0, none⟩)] (fun z => z.f0 == a1 && decide (a2 ≤ zroom z a0_0)) A0_1 c0_1 l0_1 (((w.alloc (.cells #[.int .i64 a0_0, .slice A0_1 l0_1.length c0_1, .int .i64 a0_2, .bool a0_3, .int .i64 a0_4] 27)).alloc (.cells #[.int .i64 a1] 3)).alloc (.cells #[.int .i64 a2] 3)) eg83
    (logFirst1_calls (w.heap.size + 1) w.heap.size (w.heap.size + 2) a1 a0_0 a2 _ k1 k2 k3) (Kd.C_below hr0_1 hb0))
  have HB := Aside0.mk hb0
  clear hr0_1 hb0 k1 k2 k3
  generalize (fidx (fun z => z.f0 == a1 && decide (a2 ≤ zroom z a0_0)) l0_1) = ix at HC ⊢
  go_enter Try.func64, Try.ntmps64
  go_wp2_with fail
  refine HC.out.mono ?_
  rintro e w' ⟨rfl, hb⟩
  have HB2 := Aside0.mk (HB.out.trans (hb.mono (by simp; omega)))
  clear hb HC
  go_wp2
  go_ret
  exact ⟨rfl, HB2.out⟩
end Go.Proofs.Ytdgefplbfffenaa.X
namespace Go.Proofs.Ytdgefplbfffenaa.X
open Go.RowKit Go.Proofs.YtdgefplbfffenaaW.PrintWords Go.Proofs.YtdgefplbfffenaaW.PrintLast Go.Proofs.YtdgefplbfffenaaW.PrintMore
attribute [local go_sem] max2_int min2_int max_two min_two max_three min_three max_four min_four   -- for this text's walks alone
set_option linter.unusedVariables false
set_option linter.unusedSimpArgs false
def le_Put.l0 : Nat → Int → List Int → Int → Int → Option (List Int × Int)
 | 0, _, _, _, _ => none
 | k + 1, x1, x8, x15, x16 => if x16 < x15 then (if x8.length < 140737488355328 then (le_Put.l0 k (x1 / 256) (x8 ++ [(x1) % 256]) x15 (wrap64 (x16 + 1))) else (none)) else (some (x8, 0))
def le_Put.f (k : Nat) (l0 : List Int) (a1 : Int) (a2 : Int) : Option (List Int × Int) := (le_may.f a1 a2).bind fun t136 => (if t136 = true then ((bytes_Clone.f l0).bind fun t137 => (le_Put.l0 k a1 t137 a2 0)) else (some (([] : List Int), 10)))
set_option maxHeartbeats 8000000 in
set_option maxRecDepth 100000 in
theorem le_Put.calls (k : Nat) (A0 : Option Addr) (c0 : Nat) (l0 : List Int) (a1 : Int) (a2 : Int) (r1 : List Int) (r2 : Int) (w : World) (hr0 : Kd.C (Kd.int .u8) w A0 l0.length l0) (hc0 : l0.length ≤ c0) (h : le_Put.f k l0 a1 a2 = some (r1, r2)) :
  Calls Try.prog 77 #[.slice A0 l0.length c0, .int .u64 a1, .int .i64 a2] w fun e w' => ∃ v0_ : Value, e = .returned (.tuple #[v0_, .int .i64 r2]) ∧ Kd.R (Kd.int .u8) 5 w' w.heap.size (fun _ => True) v0_ r1 ∧ Below w.heap.size w w' := by
 have HR0 := Aside0.mk hr0
 have HC0 := Aside0.mk hc0
 clear hr0 hc0
 have HB := Aside0.mk (Below.refl w.heap.size w)
 have H : ((le_may.f a1 a2).bind fun t136 => (if t136 = true then ((bytes_Clone.f l0).bind fun t137 => (le_Put.l0 k a1 t137 a2 0)) else (some (([] : List Int), 10)))) = some (r1, r2) := h
 clear h
 replace H := Option.bind_eq_some_iff.mp H
 obtain ⟨t136, A40, H⟩ := H
 replace H : (if t136 = true then ((bytes_Clone.f l0).bind fun t137 => (le_Put.l0 k a1 t137 a2 0)) else (some (([] : List Int), 10))) = some (r1, r2) := H
 have A4 := Aside0.mk A40
 clear A40
 by_cases c5 : t136 = true
 ·subst c5
  have H1 : ((bytes_Clone.f l0).bind fun t137 => (le_Put.l0 k a1 t137 a2 0)) = some (r1, r2) := by rw [if_pos rfl] at H; exact H
  clear H
  have H := H1
  clear H1
  replace H := Option.bind_eq_some_iff.mp H
  obtain ⟨t137, A60, H⟩ := H
  replace H : (le_Put.l0 k a1 t137 a2 0) = some (r1, r2) := H
  have A6 := Aside0.mk A60
  clear A60
  have H' := Aside0.mk H
  clear H
  go_enter Try.func77, Try.ntmps77
  go_wp2_with (first | ((with_reducible refine gate_callee (f := 94) rfl ?_); refine goesL_ (some 11) rfl rfl Try.func94 (by kernel_rfl) rfl #[.int .u64 a1, .int .i64 a2] rfl (by (try simp only [List.map_toArray, List.map_cons, List.map_nil]); first | done | rfl | (simp only [List.length_drop, List.length_take]; rfl)) ?_; (with_reducible refine (le_may.calls a1 a2 true _ A4.out).mono ?_); rintro e w' ⟨rfl, ⟨nd, rfl⟩⟩; refine ⟨_, rfl, ?_⟩) | ((with_reducible refine gate_callee (f := 70) rfl ?_); refine goesL_ (some 14) rfl rfl Try.func70 (by kernel_rfl) rfl #[.slice A0 l0.length c0] rfl (by (try simp only [List.map_toArray, List.map_cons, List.map_nil]); first | done | rfl | (simp only [List.length_drop, List.length_take]; rfl)) ?_; (with_reducible refine (bytes_Clone.calls _ _ l0 t137 _ ?side1 ?side2 A6.out).mono ?_); (case side1 => repeat (first | exact HR0.out | (with_reducible refine Kd.C_alloc ?_ _) | (with_reducible refine Kd.C_drewN ?_ _) | (with_reducible refine Kd.C_drew ?_))); (case side2 => exact HC0.out); rintro e w7 ⟨v138, rfl, ho0, hb⟩; refine ⟨_, rfl, ?_⟩; have n0_ := Aside0.mk (Kd.R_lower ho0 (below_size (by repeat (first | (with_reducible first | exact HB.out | apply below_alloc | apply pw_below_drewN | apply below_drew1) | exact HB.out)))); have n1_ := Aside0.mk (below_step (by repeat (first | (with_reducible first | exact HB.out | apply below_alloc | apply pw_below_drewN | apply below_drew1) | exact HB.out)) hb); clear HB; have HO139 := n0_; have HB := n1_; clear n0_ n1_; (try clear hb); (try clear hb2); (try clear hk); (try clear hi); (try clear ho0)))
  go_loopg [1, 8, 16] k (fun kq v1 v8 v16 w' => ∃ (x1_1 : Int) (x8_1 : List Int) (x16_1 : Int), v1 = .int .u64 x1_1 ∧ v16 = .int .i64 x16_1 ∧ Aside0 (le_Put.l0 kq x1_1 x8_1 a2 x16_1 = some (r1, r2)) ∧ Aside0 (kq ≤ k) ∧ Aside0 (Kd.R (Kd.int .u8) 5 w' w.heap.size (fun _ => True) v8 x8_1) ∧ Aside0 (Below w.heap.size w w'))
  case atStart => exact ⟨(a1), (t137), (0), (by first | rfl | (simp; done) | (simp [*]; done)), (by first | rfl | (simp; done) | (simp [*]; done)), H', ⟨Nat.le_refl _⟩, ⟨by (with_reducible repeat (first | apply Kd.R_alloc | apply Kd.R_drewN | apply Kd.R_drew)); exact HO139.out⟩, ⟨by repeat (first | (with_reducible first | exact HB.out | apply below_alloc | apply pw_below_drewN | apply below_drew1) | exact HB.out)⟩⟩
  case round =>
   clear H'
   try clear p2
   try clear c5
   try clear c7
   obtain ⟨x1_1, x8_1, x16_1, rfl, rfl, HA, HK1, HO_8, HB⟩ := hrel
   cases gk with
   | zero => exact absurd HA.out (by simp [le_Put.l0])
   | succ k1 =>
    have H := HA.out
    clear HA
    simp only [le_Put.l0] at H
    by_cases c8 : x16_1 < a2
    ·rw [if_pos c8] at H
     have c8b0 : decide (x16_1 < a2) = true := decide_eq_true c8
     clear c8
     by_cases c9 : x8_1.length < 140737488355328
     ·rw [if_pos c9] at H
      have LMc9 := Aside0.mk c9
      clear c9
      obtain ⟨y140, hy140⟩ : ∃ y_ : List Int, y_ = (x8_1 ++ [(x1_1) % 256]) := ⟨_, rfl⟩
      replace H : (le_Put.l0 k1 (x1_1 / 256) y140 a2 (wrap64 (x16_1 + 1))) = some (r1, r2) := by first | (rw [hy140]; with_reducible exact H) | (have H2_ := (Option.bind_some _ _).symm.trans H; rw [hy140]; with_reducible exact H2_) | (have H2_ := (Option.bind_some _ _).symm.trans H; with_reducible exact H2_) | with_reducible exact H | (rw [hy140]; exact H) | exact H
      have Ny140 := Aside0.mk hy140
      clear hy140
      have H' := Aside0.mk H
      clear H
      go_wp2_with (first | ((with_reducible refine gate_builtin (b := .append) (xs := #[.tmp 18, .tmp 21]) rfl ?_); at_builtin; refine Kd.R_append (Kd.int .u8) (w0 := w) w.heap.size rfl (.tmp 18) (.tmp 21) 34 5 (.int .u8 0) 1 rfl Try.underlying34 info5 rfl (by decide) (by omega) u8 x8_1 ((x1_1) % 256) [.int .u8 ((x1_1) % 256)] (fun _ => True) (fun _ => False) rfl rfl ?aP (fun _ hk => hk.elim) ?aF ?aO ?aB ?aS ?aL ?_; (case aP => exact rfl); (case aB => exact (by repeat (first | (with_reducible first | exact HB.out | apply below_alloc | apply pw_below_drewN | apply below_drew1) | exact HB.out))); (case aF => exact (fun _ _ => trivial)); (case aO => exact (by (with_reducible repeat (first | apply Kd.R_alloc | apply Kd.R_drewN | apply Kd.R_drew)); exact HO_8.out)); (case aS => exact (below_size (by repeat (first | (with_reducible first | exact HB.out | apply below_alloc | apply pw_below_drewN | apply below_drew1) | exact HB.out)))); (case aL => have := LMc9.out; omega); intro v141 w10 ho hb hg hat; rw [← Ny140.out] at ho; have n0_ := Aside0.mk (hb); have n1_ := Aside0.mk (ho); clear HB; clear HO_8; have HB := n0_; have HO142 := n1_; clear n0_ n1_; clear ho hb hg hat))
      go_roundg k1
      case measure => have := HK1.out; omega
      case rel => exact ⟨(x1_1 / 256), (y140), (wrap64 (x16_1 + 1)), (by first | rfl | (simp; done) | (simp [*]; done)), (by first | rfl | (simp; done) | (simp [*]; done)), H', ⟨by have := HK1.out; omega⟩, ⟨by (with_reducible repeat (first | apply Kd.R_alloc | apply Kd.R_drewN | apply Kd.R_drew)); exact HO142.out⟩, ⟨by repeat (first | (with_reducible first | exact HB.out | apply below_alloc | apply pw_below_drewN | apply below_drew1) | exact HB.out)⟩⟩
     ·rw [if_neg c9] at H
      exact absurd H (by simp)
    ·rw [if_neg c8] at H
     have c8b0 : decide (x16_1 < a2) = false := decide_eq_false c8
     clear c8
     simp only [Option.some.injEq, Prod.mk.injEq] at H
     obtain ⟨rfl, rfl⟩ := H
     go_wp2
     go_ret2
     exact ⟨_, by first | rfl | (simp [errW_none, errW_some] <;> rfl) | (simp [*, errW_none, errW_some] <;> rfl), by (with_reducible repeat (first | apply Kd.R_alloc | apply Kd.R_drewN | apply Kd.R_drew)); exact HO_8.out, by repeat (first | (with_reducible first | exact HB.out | apply below_alloc | apply pw_below_drewN | apply below_drew1) | exact HB.out)⟩
 ·replace c5 := Bool.eq_false_iff.mpr c5
  subst c5
  have H1 : (some (([] : List Int), 10)) = some (r1, r2) := by rw [if_neg (show ¬ (false = true) by decide)] at H; exact H
  clear H
  have H := H1
  clear H1
  simp only [Option.some.injEq, Prod.mk.injEq] at H
  obtain ⟨rfl, rfl⟩ := H
  go_enter Try.func77, Try.ntmps77
  go_wp2_with (first | ((with_reducible refine gate_callee (f := 94) rfl ?_); refine goesL_ (some 11) rfl rfl Try.func94 (by kernel_rfl) rfl #[.int .u64 a1, .int .i64 a2] rfl (by (try simp only [List.map_toArray, List.map_cons, List.map_nil]); first | done | rfl | (simp only [List.length_drop, List.length_take]; rfl)) ?_; (with_reducible refine (le_may.calls a1 a2 false _ A4.out).mono ?_); rintro e w' ⟨rfl, ⟨nd, rfl⟩⟩; refine ⟨_, rfl, ?_⟩))
  go_ret2
  exact ⟨_, by first | rfl | (simp [errW_none, errW_some] <;> rfl) | (simp [*, errW_none, errW_some] <;> rfl), by first | exact Kd.R_nil _ _ _ _ _ | exact Kd.N_nil _ _ _ _ _ | exact Kd.V_nil _ _ _ _ _ | exact Kd.Q_nil _ _ _ _ _ | exact Kd.S_nil _ _ _ _ _, by repeat (first | (with_reducible first | exact HB.out | apply below_alloc | apply pw_below_drewN | apply below_drew1) | exact HB.out)⟩
def crc_Sum.f (l0 : List Int) : Option (Int) := (crc_More.f 0 l0).bind fun t143 => (some t143)
set_option maxHeartbeats 8000000 in
set_option maxRecDepth 100000 in
theorem crc_Sum.calls (A0 : Option Addr) (c0 : Nat) (l0 : List Int) (r : Int) (w : World) (hr0 : Kd.C (Kd.int .u8) w A0 l0.length l0) (hc0 : l0.length ≤ c0) (h : crc_Sum.f l0 = some r) :
  Calls Try.prog 79 #[.slice A0 l0.length c0] w fun e w' => e = .returned (.int .u32 r) ∧ Below w.heap.size w w' := by
 have HR0 := Aside0.mk hr0
 have HC0 := Aside0.mk hc0
 clear hr0 hc0
 have HB := Aside0.mk (Below.refl w.heap.size w)
 have H : ((crc_More.f 0 l0).bind fun t143 => (some t143)) = some r := h
 clear h
 replace H := Option.bind_eq_some_iff.mp H
 obtain ⟨t143, A20, H⟩ := H
 replace H : (some t143) = some r := H
 have A2 := Aside0.mk A20
 clear A20
 obtain rfl := Option.some.inj H
 go_enter Try.func79, Try.ntmps79
 go_wp2_with (first | ((with_reducible refine gate_callee (f := 96) rfl ?_); refine goesL_ (some 4) rfl rfl Try.func96 (by kernel_rfl) rfl #[.int .u32 0, .slice A0 l0.length c0] rfl (by (try simp only [List.map_toArray, List.map_cons, List.map_nil]); first | done | rfl | (simp only [List.length_drop, List.length_take]; rfl)) ?_; (with_reducible refine (crc_More.calls 0 _ _ l0 t143 _ ?side1 ?side2 A2.out).mono ?_); (case side1 => repeat (first | exact HR0.out | (with_reducible refine Kd.C_alloc ?_ _) | (with_reducible refine Kd.C_drewN ?_ _) | (with_reducible refine Kd.C_drew ?_))); (case side2 => exact HC0.out); rintro e w3 ⟨rfl, hb⟩; refine ⟨_, rfl, ?_⟩; have n0_ := Aside0.mk (below_step (by repeat (first | (with_reducible first | exact HB.out | apply below_alloc | apply pw_below_drewN | apply below_drew1) | exact HB.out)) hb); clear HB; have HB := n0_; clear n0_; (try clear hb); (try clear hb2); (try clear hk); (try clear hi)))
 go_ret
 exact ⟨by first | rfl | (simp [errW_none, errW_some] <;> rfl) | (simp [*, errW_none, errW_some] <;> rfl), by repeat (first | (with_reducible first | exact HB.out | apply below_alloc | apply pw_below_drewN | apply below_drew1) | exact HB.out)⟩
def crc_Seal.f (k : Nat) (l0 : List Int) : Option (List Int) := (crc_Sum.f l0).bind fun t144 => ((le_Put.f k l0 (IntKind.u64.wrap (t144)) 4).bind fun bt145 => (some bt145.1))
set_option maxHeartbeats 8000000 in
set_option maxRecDepth 100000 in
theorem crc_Seal.calls (k : Nat) (A0 : Option Addr) (c0 : Nat) (l0 : List Int) (r : List Int) (w : World) (hr0 : Kd.C (Kd.int .u8) w A0 l0.length l0) (hc0 : l0.length ≤ c0) (h : crc_Seal.f k l0 = some r) :
  Calls Try.prog 56 #[.slice A0 l0.length c0] w fun e w' => ∃ v0_ : Value, e = .returned (v0_) ∧ Kd.R (Kd.int .u8) 5 w' w.heap.size (fun _ => True) v0_ r ∧ Below w.heap.size w w' := by
 have HR0 := Aside0.mk hr0
 have HC0 := Aside0.mk hc0
 clear hr0 hc0
 have HB := Aside0.mk (Below.refl w.heap.size w)
 have H : ((crc_Sum.f l0).bind fun t144 => ((le_Put.f k l0 (IntKind.u64.wrap (t144)) 4).bind fun bt145 => (some bt145.1))) = some r := h
 clear h
 replace H := Option.bind_eq_some_iff.mp H
 obtain ⟨t144, A20, H⟩ := H
 replace H : ((le_Put.f k l0 (IntKind.u64.wrap (t144)) 4).bind fun bt145 => (some bt145.1)) = some r := H
 have A2 := Aside0.mk A20
 clear A20
 replace H := Option.bind_eq_some_iff.mp H
 obtain ⟨⟨t145, t146⟩, A30, H⟩ := H
 replace H : (some t145) = some r := H
 have A3 := Aside0.mk A30
 clear A30
 obtain rfl := Option.some.inj H
 go_enter Try.func56, Try.ntmps56
 go_wp2_with (first | ((with_reducible refine gate_callee (f := 79) rfl ?_); refine goesL_ (some 8) rfl rfl Try.func79 (by kernel_rfl) rfl #[.slice A0 l0.length c0] rfl (by (try simp only [List.map_toArray, List.map_cons, List.map_nil]); first | done | rfl | (simp only [List.length_drop, List.length_take]; rfl)) ?_; (with_reducible refine (crc_Sum.calls _ _ l0 t144 _ ?side1 ?side2 A2.out).mono ?_); (case side1 => repeat (first | exact HR0.out | (with_reducible refine Kd.C_alloc ?_ _) | (with_reducible refine Kd.C_drewN ?_ _) | (with_reducible refine Kd.C_drew ?_))); (case side2 => exact HC0.out); rintro e w4 ⟨rfl, hb⟩; refine ⟨_, rfl, ?_⟩; have n0_ := Aside0.mk (below_step (by repeat (first | (with_reducible first | exact HB.out | apply below_alloc | apply pw_below_drewN | apply below_drew1) | exact HB.out)) hb); clear HB; have HB := n0_; clear n0_; (try clear hb); (try clear hb2); (try clear hk); (try clear hi)) | ((with_reducible refine gate_callee (f := 77) rfl ?_); refine goesL_ (some 10) rfl rfl Try.func77 (by kernel_rfl) rfl #[.slice A0 l0.length c0, .int .u64 (IntKind.u64.wrap (t144)), .int .i64 4] rfl (by (try simp only [List.map_toArray, List.map_cons, List.map_nil]); first | done | rfl | (simp only [List.length_drop, List.length_take]; rfl)) ?_; (with_reducible refine (le_Put.calls k _ _ l0 (IntKind.u64.wrap (t144)) 4 t145 t146 _ ?side1 ?side2 A3.out).mono ?_); (case side1 => repeat (first | exact (Kd.C_below HR0.out HB.out) | (with_reducible refine Kd.C_alloc ?_ _) | (with_reducible refine Kd.C_drewN ?_ _) | (with_reducible refine Kd.C_drew ?_))); (case side2 => exact HC0.out); rintro e w5 ⟨v147, rfl, ho0, hb⟩; refine ⟨_, rfl, ?_⟩; have n0_ := Aside0.mk (Kd.R_lower ho0 (below_size (by repeat (first | (with_reducible first | exact HB.out | apply below_alloc | apply pw_below_drewN | apply below_drew1) | exact HB.out)))); have n1_ := Aside0.mk (below_step (by repeat (first | (with_reducible first | exact HB.out | apply below_alloc | apply pw_below_drewN | apply below_drew1) | exact HB.out)) hb); clear HB; have HO148 := n0_; have HB := n1_; clear n0_ n1_; (try clear hb); (try clear hb2); (try clear hk); (try clear hi); (try clear ho0)))
 go_ret
 exact ⟨_, by first | rfl | (simp [errW_none, errW_some] <;> rfl) | (simp [*, errW_none, errW_some] <;> rfl), by (with_reducible repeat (first | apply Kd.R_alloc | apply Kd.R_drewN | apply Kd.R_drew)); exact HO148.out, by repeat (first | (with_reducible first | exact HB.out | apply below_alloc | apply pw_below_drewN | apply below_drew1) | exact HB.out)⟩
def log_Place.j0 : Nat → Int → Bool → Int → List (S52) → Int → Bool → Int → Option (Int × (List (S56)) × Int)
 | 0, _, _, _, _, _, _, _ => none
 | k + 1, x1, x21, x168000, x168001, x168002, x168003, x168004 => if x21 = true then (some (0, ([] : List (S56)), 1)) else ((log_first.f x168000 x168001 x168002 x168003 x168004 1 x1).bind fun t169 => (if t169 ≥ 0 then (some (t169, ([] : List (S56)), 0)) else ((log_first.f x168000 x168001 x168002 x168003 x168004 0 x1).bind fun t170 => (if t170 < 0 then (some (0, ([] : List (S56)), 60)) else ((dev_Open.f k x168000 x168001 x168002 x168003 x168004).bind fun t171 => (if t171 ≥ 3 then ((log_first.f x168000 x168001 x168002 x168003 x168004 1 0).bind fun t172 => (some (t170, (([(⟨3, t172, ([] : List Int)⟩ : S56)] : List (S56))), 0))) else (some (t170, ([] : List (S56)), 0))))))))
def log_Place.f (k : Nat) (a0_0 : Int) (l0_1 : List (S52)) (a0_2 : Int) (a0_3 : Bool) (a0_4 : Int) (a1 : Int) : Option (Int × (List (S56)) × Int) := (dev_Check.f a0_0 l0_1 a0_2 a0_3 a0_4).bind fun t168 => (if t168 = true then (if a1 < 1 then (log_Place.j0 k a1 true a0_0 l0_1 a0_2 a0_3 a0_4) else (log_Place.j0 k a1 (decide (a1 > a0_0)) a0_0 l0_1 a0_2 a0_3 a0_4)) else (log_Place.j0 k a1 true a0_0 l0_1 a0_2 a0_3 a0_4))
set_option maxHeartbeats 8000000 in
set_option maxRecDepth 100000 in
theorem log_Place.calls (k : Nat) (a0_0 : Int) (A0_1 : Option Addr) (c0_1 : Nat) (l0_1 : List (S52)) (a0_2 : Int) (a0_3 : Bool) (a0_4 : Int) (a1 : Int) (r1 : Int) (r2 : List (S56)) (r3 : Int) (w : World) (hr0_1 : Kd.C k52 w A0_1 l0_1.length l0_1) (hc0_1 : l0_1.length ≤ c0_1) (h : log_Place.f k a0_0 l0_1 a0_2 a0_3 a0_4 a1 = some (r1, r2, r3)) :
  Calls Try.prog 41 #[.agg #[.int .i64 a0_0, .slice A0_1 l0_1.length c0_1, .int .i64 a0_2, .bool a0_3, .int .i64 a0_4], .int .i64 a1] w fun e w' => ∃ v1_ : Value, e = .returned (.tuple #[.int .i64 r1, v1_, .int .i64 r3]) ∧ Kd.S k56 56 w' w.heap.size (fun _ => True) v1_ r2 ∧ Below w.heap.size w w' := by
 have hu27 := Try.underlying27
 have hu56 := Try.underlying56
 have HR0_1 := Aside0.mk hr0_1
 have HC0_1 := Aside0.mk hc0_1
 clear hr0_1 hc0_1
 have HB := Aside0.mk (Below.refl w.heap.size w)
 have H : ((dev_Check.f a0_0 l0_1 a0_2 a0_3 a0_4).bind fun t168 => (if t168 = true then (if a1 < 1 then (log_Place.j0 k a1 true a0_0 l0_1 a0_2 a0_3 a0_4) else (log_Place.j0 k a1 (decide (a1 > a0_0)) a0_0 l0_1 a0_2 a0_3 a0_4)) else (log_Place.j0 k a1 true a0_0 l0_1 a0_2 a0_3 a0_4))) = some (r1, r2, r3) := h
 clear h
 have HC3 := Aside0.mk H
 clear H
 go_enter Try.func41, Try.ntmps41
 go_upto_region 1 with (first | ((with_reducible refine gate_dst (N := 2) rfl ?_); refine box_event ?hg (N := 2) ?hd (cs := #[.int .i64 a0_0, .slice A0_1 l0_1.length c0_1, .int .i64 a0_2, .bool a0_3, .int .i64 a0_4]) (t := 27) ?hr ?_; (case hd => rfl); (case hg => rfl); (case hr => first | (go_simp; done) | (go_simp; rfl)); intro gb167 hg w4 hbox hb; have n0_ := Aside0.mk (below_step (by repeat (first | (with_reducible first | exact HB.out | apply below_alloc | apply pw_below_drewN | apply below_drew1) | exact HB.out)) hb); have n1_ := Aside0.mk (hbox); have n2_ := Aside0.mk ((by rw [hg]; exact (below_size (by repeat (first | (with_reducible first | exact HB.out | apply below_alloc | apply pw_below_drewN | apply below_drew1) | exact HB.out))) : w.heap.size ≤ gb167)); have n3_ := Aside0.mk ((by rw [hg]; exact (below_size (by repeat (first | (with_reducible first | exact HB.out | apply below_alloc | apply pw_below_drewN | apply below_drew1) | exact HB.out))) : w.heap.size ≤ gb167)); clear HB; have HB := n0_; have BK167 := n1_; have GW167 := n2_; have GE167 := n3_; clear n0_ n1_ n2_ n3_; clear hb hbox hg))
 (try simp only [Act.put, List.setIfInBounds_toArray, List.set_cons_zero, List.set_cons_succ])
 go_cut [21] (fun v21 wc => ∃ (kq : Nat) (x21_2 : Bool), v21 = .bool x21_2 ∧ Aside0 (log_Place.j0 kq a1 x21_2 a0_0 l0_1 a0_2 a0_3 a0_4 = some (r1, r2, r3)) ∧ Aside0 (kq ≤ k) ∧ Aside0 (wc.heap[gb167]? = some (.cells #[.int .i64 a0_0, (.slice A0_1 l0_1.length c0_1), .int .i64 a0_2, .bool a0_3, .int .i64 a0_4] 27 (0, 0))) ∧ Aside0 (Below w.heap.size w wc))
 case first =>
  have H := HC3.out
  clear HC3
  replace H := Option.bind_eq_some_iff.mp H
  obtain ⟨t168, A50, H⟩ := H
  replace H : (if t168 = true then (if a1 < 1 then (log_Place.j0 k a1 true a0_0 l0_1 a0_2 a0_3 a0_4) else (log_Place.j0 k a1 (decide (a1 > a0_0)) a0_0 l0_1 a0_2 a0_3 a0_4)) else (log_Place.j0 k a1 true a0_0 l0_1 a0_2 a0_3 a0_4)) = some (r1, r2, r3) := H
  have A5 := Aside0.mk A50
  clear A50
  by_cases c6 : t168 = true
  ·subst c6
   have H1 : (if a1 < 1 then (log_Place.j0 k a1 true a0_0 l0_1 a0_2 a0_3 a0_4) else (log_Place.j0 k a1 (decide (a1 > a0_0)) a0_0 l0_1 a0_2 a0_3 a0_4)) = some (r1, r2, r3) := by rw [if_pos rfl] at H; exact H
   clear H
   have H := H1
   clear H1
   by_cases c7 : a1 < 1
   ·rw [if_pos c7] at H
    have c7b0 : decide (a1 < 1) = true := decide_eq_true c7
    clear c7
    (first | rw [c7b0] | (simp only [i64_w, i32_w]; rw [c7b0]) | skip)
    have H' := Aside0.mk H
    clear H
    have hcz8_0 : w4.cell? ⟨gb167, 0, none⟩ = some (.int .i64 a0_0) := (blk_cell BK167.out 0).trans rfl
    have hcz8_1 : w4.cell? ⟨gb167, 1, none⟩ = some (.slice A0_1 l0_1.length c0_1) := (blk_cell BK167.out 1).trans rfl
    have hcz8_2 : w4.cell? ⟨gb167, 2, none⟩ = some (.int .i64 a0_2) := (blk_cell BK167.out 2).trans rfl
    have hcz8_3 : w4.cell? ⟨gb167, 3, none⟩ = some (.bool a0_3) := (blk_cell BK167.out 3).trans rfl
    have hcz8_4 : w4.cell? ⟨gb167, 4, none⟩ = some (.int .i64 a0_4) := (blk_cell BK167.out 4).trans rfl
    have hfz8_0 := blk_frozen BK167.out 0
    have hfz8_1 := blk_frozen BK167.out 1
    have hfz8_2 := blk_frozen BK167.out 2
    have hfz8_3 := blk_frozen BK167.out 3
    have hfz8_4 := blk_frozen BK167.out 4
    go_wp2_with (first | ((with_reducible refine gate_callee (f := 20) rfl ?_); refine goesL_ (some 10) rfl rfl Try.func20 (by kernel_rfl) rfl #[.agg #[.int .i64 a0_0, .slice A0_1 l0_1.length c0_1, .int .i64 a0_2, .bool a0_3, .int .i64 a0_4]] rfl (by (try simp only [List.map_toArray, List.map_cons, List.map_nil]); first | done | rfl | (simp only [List.length_drop, List.length_take]; rfl)) ?_; (with_reducible refine (dev_Check.calls a0_0 _ _ l0_1 a0_2 a0_3 a0_4 true _ ?side1 ?side2 A5.out).mono ?_); (case side1 => repeat (first | exact (Kd.C_below HR0_1.out HB.out) | (with_reducible refine Kd.C_alloc ?_ _) | (with_reducible refine Kd.C_drewN ?_ _) | (with_reducible refine Kd.C_drew ?_))); (case side2 => exact HC0_1.out); rintro e w9 ⟨rfl, hb⟩; refine ⟨_, rfl, ?_⟩; have n0_ := Aside0.mk (blk_below (g := gb167) (o := .cells #[.int .i64 a0_0, .slice A0_1 l0_1.length c0_1, .int .i64 a0_2, .bool a0_3, .int .i64 a0_4] 27 (0, 0)) (by (with_reducible repeat (first | refine blk_drewN ?_ _ | refine blk_drew ?_ | refine blk_alloc ?_ _)); exact BK167.out) hb); have n1_ := Aside0.mk (below_step (by repeat (first | (with_reducible first | exact HB.out | apply below_alloc | apply pw_below_drewN | apply below_drew1 | refine below_set ?_ GE167.out) | exact HB.out)) hb); clear BK167; clear HB; have BK167 := n0_; have HB := n1_; clear n0_ n1_; (try clear hb); (try clear hb2); (try clear hk); (try clear hi)))
    go_meet
    case rel => exact ⟨_, (true), (by first | rfl | (simp; done) | (simp [*]; done)), H', ⟨by first | omega | exact Nat.le_refl _⟩, ⟨by (with_reducible repeat (first | refine blk_drewN ?_ _ | refine blk_drew ?_ | refine blk_alloc ?_ _)); exact BK167.out⟩, ⟨by repeat (first | (with_reducible first | exact HB.out | apply below_alloc | apply pw_below_drewN | apply below_drew1 | refine below_set ?_ GE167.out) | exact HB.out)⟩⟩
   ·rw [if_neg c7] at H
    have c7b0 : decide (a1 < 1) = false := decide_eq_false c7
    clear c7
    (first | rw [c7b0] | (simp only [i64_w, i32_w]; rw [c7b0]) | skip)
    have H' := Aside0.mk H
    clear H
    have hcz10_0 : w4.cell? ⟨gb167, 0, none⟩ = some (.int .i64 a0_0) := (blk_cell BK167.out 0).trans rfl
    have hcz10_1 : w4.cell? ⟨gb167, 1, none⟩ = some (.slice A0_1 l0_1.length c0_1) := (blk_cell BK167.out 1).trans rfl
    have hcz10_2 : w4.cell? ⟨gb167, 2, none⟩ = some (.int .i64 a0_2) := (blk_cell BK167.out 2).trans rfl
    have hcz10_3 : w4.cell? ⟨gb167, 3, none⟩ = some (.bool a0_3) := (blk_cell BK167.out 3).trans rfl
    have hcz10_4 : w4.cell? ⟨gb167, 4, none⟩ = some (.int .i64 a0_4) := (blk_cell BK167.out 4).trans rfl
    have hfz10_0 := blk_frozen BK167.out 0
    have hfz10_1 := blk_frozen BK167.out 1
    have hfz10_2 := blk_frozen BK167.out 2
    have hfz10_3 := blk_frozen BK167.out 3
    have hfz10_4 := blk_frozen BK167.out 4
    go_wp2_with (first | ((with_reducible refine gate_callee (f := 20) rfl ?_); refine goesL_ (some 10) rfl rfl Try.func20 (by kernel_rfl) rfl #[.agg #[.int .i64 a0_0, .slice A0_1 l0_1.length c0_1, .int .i64 a0_2, .bool a0_3, .int .i64 a0_4]] rfl (by (try simp only [List.map_toArray, List.map_cons, List.map_nil]); first | done | rfl | (simp only [List.length_drop, List.length_take]; rfl)) ?_; (with_reducible refine (dev_Check.calls a0_0 _ _ l0_1 a0_2 a0_3 a0_4 true _ ?side1 ?side2 A5.out).mono ?_); (case side1 => repeat (first | exact (Kd.C_below HR0_1.out HB.out) | (with_reducible refine Kd.C_alloc ?_ _) | (with_reducible refine Kd.C_drewN ?_ _) | (with_reducible refine Kd.C_drew ?_))); (case side2 => exact HC0_1.out); rintro e w11 ⟨rfl, hb⟩; refine ⟨_, rfl, ?_⟩; have n0_ := Aside0.mk (blk_below (g := gb167) (o := .cells #[.int .i64 a0_0, .slice A0_1 l0_1.length c0_1, .int .i64 a0_2, .bool a0_3, .int .i64 a0_4] 27 (0, 0)) (by (with_reducible repeat (first | refine blk_drewN ?_ _ | refine blk_drew ?_ | refine blk_alloc ?_ _)); exact BK167.out) hb); have n1_ := Aside0.mk (below_step (by repeat (first | (with_reducible first | exact HB.out | apply below_alloc | apply pw_below_drewN | apply below_drew1 | refine below_set ?_ GE167.out) | exact HB.out)) hb); clear BK167; clear HB; have BK167 := n0_; have HB := n1_; clear n0_ n1_; (try clear hb); (try clear hb2); (try clear hk); (try clear hi); have hcz12_0 : w11.cell? ⟨gb167, 0, none⟩ = some (.int .i64 a0_0) := (blk_cell BK167.out 0).trans rfl; have hcz12_1 : w11.cell? ⟨gb167, 1, none⟩ = some (.slice A0_1 l0_1.length c0_1) := (blk_cell BK167.out 1).trans rfl; have hcz12_2 : w11.cell? ⟨gb167, 2, none⟩ = some (.int .i64 a0_2) := (blk_cell BK167.out 2).trans rfl; have hcz12_3 : w11.cell? ⟨gb167, 3, none⟩ = some (.bool a0_3) := (blk_cell BK167.out 3).trans rfl; have hcz12_4 : w11.cell? ⟨gb167, 4, none⟩ = some (.int .i64 a0_4) := (blk_cell BK167.out 4).trans rfl; have hfz12_0 := blk_frozen BK167.out 0; have hfz12_1 := blk_frozen BK167.out 1; have hfz12_2 := blk_frozen BK167.out 2; have hfz12_3 := blk_frozen BK167.out 3; have hfz12_4 := blk_frozen BK167.out 4))
    go_meet
    case rel => exact ⟨_, (decide (a1 > a0_0)), (by first | rfl | (simp; done) | (simp [*]; done)), H', ⟨by first | omega | exact Nat.le_refl _⟩, ⟨by (with_reducible repeat (first | refine blk_drewN ?_ _ | refine blk_drew ?_ | refine blk_alloc ?_ _)); exact BK167.out⟩, ⟨by repeat (first | (with_reducible first | exact HB.out | apply below_alloc | apply pw_below_drewN | apply below_drew1 | refine below_set ?_ GE167.out) | exact HB.out)⟩⟩
  ·replace c6 := Bool.eq_false_iff.mpr c6
   subst c6
   have H1 : (log_Place.j0 k a1 true a0_0 l0_1 a0_2 a0_3 a0_4) = some (r1, r2, r3) := by rw [if_neg (show ¬ (false = true) by decide)] at H; exact H
   clear H
   have H := H1
   clear H1
   have H' := Aside0.mk H
   clear H
   have hcz13_0 : w4.cell? ⟨gb167, 0, none⟩ = some (.int .i64 a0_0) := (blk_cell BK167.out 0).trans rfl
   have hcz13_1 : w4.cell? ⟨gb167, 1, none⟩ = some (.slice A0_1 l0_1.length c0_1) := (blk_cell BK167.out 1).trans rfl
   have hcz13_2 : w4.cell? ⟨gb167, 2, none⟩ = some (.int .i64 a0_2) := (blk_cell BK167.out 2).trans rfl
   have hcz13_3 : w4.cell? ⟨gb167, 3, none⟩ = some (.bool a0_3) := (blk_cell BK167.out 3).trans rfl
   have hcz13_4 : w4.cell? ⟨gb167, 4, none⟩ = some (.int .i64 a0_4) := (blk_cell BK167.out 4).trans rfl
   have hfz13_0 := blk_frozen BK167.out 0
   have hfz13_1 := blk_frozen BK167.out 1
   have hfz13_2 := blk_frozen BK167.out 2
   have hfz13_3 := blk_frozen BK167.out 3
   have hfz13_4 := blk_frozen BK167.out 4
   go_wp2_with (first | ((with_reducible refine gate_callee (f := 20) rfl ?_); refine goesL_ (some 10) rfl rfl Try.func20 (by kernel_rfl) rfl #[.agg #[.int .i64 a0_0, .slice A0_1 l0_1.length c0_1, .int .i64 a0_2, .bool a0_3, .int .i64 a0_4]] rfl (by (try simp only [List.map_toArray, List.map_cons, List.map_nil]); first | done | rfl | (simp only [List.length_drop, List.length_take]; rfl)) ?_; (with_reducible refine (dev_Check.calls a0_0 _ _ l0_1 a0_2 a0_3 a0_4 false _ ?side1 ?side2 A5.out).mono ?_); (case side1 => repeat (first | exact (Kd.C_below HR0_1.out HB.out) | (with_reducible refine Kd.C_alloc ?_ _) | (with_reducible refine Kd.C_drewN ?_ _) | (with_reducible refine Kd.C_drew ?_))); (case side2 => exact HC0_1.out); rintro e w14 ⟨rfl, hb⟩; refine ⟨_, rfl, ?_⟩; have n0_ := Aside0.mk (blk_below (g := gb167) (o := .cells #[.int .i64 a0_0, .slice A0_1 l0_1.length c0_1, .int .i64 a0_2, .bool a0_3, .int .i64 a0_4] 27 (0, 0)) (by (with_reducible repeat (first | refine blk_drewN ?_ _ | refine blk_drew ?_ | refine blk_alloc ?_ _)); exact BK167.out) hb); have n1_ := Aside0.mk (below_step (by repeat (first | (with_reducible first | exact HB.out | apply below_alloc | apply pw_below_drewN | apply below_drew1 | refine below_set ?_ GE167.out) | exact HB.out)) hb); clear BK167; clear HB; have BK167 := n0_; have HB := n1_; clear n0_ n1_; (try clear hb); (try clear hb2); (try clear hk); (try clear hi)))
   go_meet
   case rel => exact ⟨_, (true), (by first | rfl | (simp; done) | (simp [*]; done)), H', ⟨by first | omega | exact Nat.le_refl _⟩, ⟨by (with_reducible repeat (first | refine blk_drewN ?_ _ | refine blk_drew ?_ | refine blk_alloc ?_ _)); exact BK167.out⟩, ⟨by repeat (first | (with_reducible first | exact HB.out | apply below_alloc | apply pw_below_drewN | apply below_drew1 | refine below_set ?_ GE167.out) | exact HB.out)⟩⟩
 case rest =>
  clear HC3
  try clear c2
  try clear p2
  try clear c4
  try clear c6
  try clear c7
  try clear c7b0
  try clear hcz10_0
  try clear hcz10_1
  try clear hcz10_2
  try clear hcz10_3
  try clear hcz10_4
  try clear hcz12_0
  try clear hcz12_1
  try clear hcz12_2
  try clear hcz12_3
  try clear hcz12_4
  try clear hcz13_0
  try clear hcz13_1
  try clear hcz13_2
  try clear hcz13_3
  try clear hcz13_4
  try clear hcz8_0
  try clear hcz8_1
  try clear hcz8_2
  try clear hcz8_3
  try clear hcz8_4
  try clear hfz10_0
  try clear hfz10_1
  try clear hfz10_2
  try clear hfz10_3
  try clear hfz10_4
  try clear hfz12_0
  try clear hfz12_1
  try clear hfz12_2
  try clear hfz12_3
  try clear hfz12_4
  try clear hfz13_0
  try clear hfz13_1
  try clear hfz13_2
  try clear hfz13_3
  try clear hfz13_4
  try clear hfz8_0
  try clear hfz8_1
  try clear hfz8_2
  try clear hfz8_3
  try clear hfz8_4
  obtain ⟨kq, x21_2, rfl, HA, HJ2, BK167, HB⟩ := hcut
  cases kq with
  | zero => exact absurd HA.out (by simp [log_Place.j0])
  | succ kj2 =>
   have H := HA.out
   clear HA
   simp only [log_Place.j0] at H
   by_cases c15 : x21_2 = true
   ·subst c15
    have H1 : (some (0, ([] : List (S56)), 1)) = some (r1, r2, r3) := by rw [if_pos rfl] at H; exact H
    clear H
    have H := H1
    clear H1
    simp only [Option.some.injEq, Prod.mk.injEq] at H
    obtain ⟨rfl, rfl, rfl⟩ := H
    go_wp2
    go_ret3
    exact ⟨_, by first | rfl | (simp [errW_none, errW_some] <;> rfl) | (simp [*, errW_none, errW_some] <;> rfl), by first | exact Kd.S_nil _ _ _ _ _ | exact Kd.N_nil _ _ _ _ _ | exact Kd.V_nil _ _ _ _ _ | exact Kd.Q_nil _ _ _ _ _ | exact Kd.R_nil _ _ _ _ _, by repeat (first | (with_reducible first | exact HB.out | apply below_alloc | apply pw_below_drewN | apply below_drew1 | refine below_set ?_ GE167.out) | exact HB.out)⟩
   ·replace c15 := Bool.eq_false_iff.mpr c15
    subst c15
    have H1 : ((log_first.f a0_0 l0_1 a0_2 a0_3 a0_4 1 a1).bind fun t169 => (if t169 ≥ 0 then (some (t169, ([] : List (S56)), 0)) else ((log_first.f a0_0 l0_1 a0_2 a0_3 a0_4 0 a1).bind fun t170 => (if t170 < 0 then (some (0, ([] : List (S56)), 60)) else ((dev_Open.f kj2 a0_0 l0_1 a0_2 a0_3 a0_4).bind fun t171 => (if t171 ≥ 3 then ((log_first.f a0_0 l0_1 a0_2 a0_3 a0_4 1 0).bind fun t172 => (some (t170, (([(⟨3, t172, ([] : List Int)⟩ : S56)] : List (S56))), 0))) else (some (t170, ([] : List (S56)), 0)))))))) = some (r1, r2, r3) := by rw [if_neg (show ¬ (false = true) by decide)] at H; exact H
    clear H
    have H := H1
    clear H1
    replace H := Option.bind_eq_some_iff.mp H
    obtain ⟨t169, A160, H⟩ := H
    replace H : (if t169 ≥ 0 then (some (t169, ([] : List (S56)), 0)) else ((log_first.f a0_0 l0_1 a0_2 a0_3 a0_4 0 a1).bind fun t170 => (if t170 < 0 then (some (0, ([] : List (S56)), 60)) else ((dev_Open.f kj2 a0_0 l0_1 a0_2 a0_3 a0_4).bind fun t171 => (if t171 ≥ 3 then ((log_first.f a0_0 l0_1 a0_2 a0_3 a0_4 1 0).bind fun t172 => (some (t170, (([(⟨3, t172, ([] : List Int)⟩ : S56)] : List (S56))), 0))) else (some (t170, ([] : List (S56)), 0))))))) = some (r1, r2, r3) := H
    have A16 := Aside0.mk A160
    clear A160
    by_cases c17 : t169 ≥ 0
    ·rw [if_pos c17] at H
     have c17b0 : decide (0 ≤ t169) = true := decide_eq_true c17
     clear c17
     simp only [Option.some.injEq, Prod.mk.injEq] at H
     obtain ⟨rfl, rfl, rfl⟩ := H
     have hcz18_0 : wc.cell? ⟨gb167, 0, none⟩ = some (.int .i64 a0_0) := (blk_cell BK167.out 0).trans rfl
     have hcz18_1 : wc.cell? ⟨gb167, 1, none⟩ = some (.slice A0_1 l0_1.length c0_1) := (blk_cell BK167.out 1).trans rfl
     have hcz18_2 : wc.cell? ⟨gb167, 2, none⟩ = some (.int .i64 a0_2) := (blk_cell BK167.out 2).trans rfl
     have hcz18_3 : wc.cell? ⟨gb167, 3, none⟩ = some (.bool a0_3) := (blk_cell BK167.out 3).trans rfl
     have hcz18_4 : wc.cell? ⟨gb167, 4, none⟩ = some (.int .i64 a0_4) := (blk_cell BK167.out 4).trans rfl
     have hfz18_0 := blk_frozen BK167.out 0
     have hfz18_1 := blk_frozen BK167.out 1
     have hfz18_2 := blk_frozen BK167.out 2
     have hfz18_3 := blk_frozen BK167.out 3
     have hfz18_4 := blk_frozen BK167.out 4
     go_wp2_with (first | ((with_reducible refine gate_callee (f := 64) rfl ?_); refine goesL_ (some 24) rfl rfl Try.func64 (by kernel_rfl) rfl #[.agg #[.int .i64 a0_0, .slice A0_1 l0_1.length c0_1, .int .i64 a0_2, .bool a0_3, .int .i64 a0_4], .int .i64 1, .int .i64 a1] rfl (by (try simp only [List.map_toArray, List.map_cons, List.map_nil]); first | done | rfl | (simp only [List.length_drop, List.length_take]; rfl)) ?_; (with_reducible refine (log_first.calls a0_0 _ _ l0_1 a0_2 a0_3 a0_4 1 a1 t169 _ ?side1 ?side2 A16.out).mono ?_); (case side1 => repeat (first | exact (Kd.C_below HR0_1.out HB.out) | (with_reducible refine Kd.C_alloc ?_ _) | (with_reducible refine Kd.C_drewN ?_ _) | (with_reducible refine Kd.C_drew ?_))); (case side2 => exact HC0_1.out); rintro e w19 ⟨rfl, hb⟩; refine ⟨_, rfl, ?_⟩; have n0_ := Aside0.mk (blk_below (g := gb167) (o := .cells #[.int .i64 a0_0, .slice A0_1 l0_1.length c0_1, .int .i64 a0_2, .bool a0_3, .int .i64 a0_4] 27 (0, 0)) (by (with_reducible repeat (first | refine blk_drewN ?_ _ | refine blk_drew ?_ | refine blk_alloc ?_ _)); exact BK167.out) hb); have n1_ := Aside0.mk (below_step (by repeat (first | (with_reducible first | exact HB.out | apply below_alloc | apply pw_below_drewN | apply below_drew1 | refine below_set ?_ GE167.out) | exact HB.out)) hb); clear BK167; clear HB; have BK167 := n0_; have HB := n1_; clear n0_ n1_; (try clear hb); (try clear hb2); (try clear hk); (try clear hi)))
     go_ret3
     exact ⟨_, by first | rfl | (simp [errW_none, errW_some] <;> rfl) | (simp [*, errW_none, errW_some] <;> rfl), by first | exact Kd.S_nil _ _ _ _ _ | exact Kd.N_nil _ _ _ _ _ | exact Kd.V_nil _ _ _ _ _ | exact Kd.Q_nil _ _ _ _ _ | exact Kd.R_nil _ _ _ _ _, by repeat (first | (with_reducible first | exact HB.out | apply below_alloc | apply pw_below_drewN | apply below_drew1 | refine below_set ?_ GE167.out) | exact HB.out)⟩
    ·rw [if_neg c17] at H
     have c17b0 : decide (0 ≤ t169) = false := decide_eq_false c17
     clear c17
     replace H := Option.bind_eq_some_iff.mp H
     obtain ⟨t170, A200, H⟩ := H
     replace H : (if t170 < 0 then (some (0, ([] : List (S56)), 60)) else ((dev_Open.f kj2 a0_0 l0_1 a0_2 a0_3 a0_4).bind fun t171 => (if t171 ≥ 3 then ((log_first.f a0_0 l0_1 a0_2 a0_3 a0_4 1 0).bind fun t172 => (some (t170, (([(⟨3, t172, ([] : List Int)⟩ : S56)] : List (S56))), 0))) else (some (t170, ([] : List (S56)), 0))))) = some (r1, r2, r3) := H
     have A20 := Aside0.mk A200
     clear A200
     by_cases c21 : t170 < 0
     ·rw [if_pos c21] at H
      have c21b0 : decide (t170 < 0) = true := decide_eq_true c21
      clear c21
      simp only [Option.some.injEq, Prod.mk.injEq] at H
      obtain ⟨rfl, rfl, rfl⟩ := H
      have hcz22_0 : wc.cell? ⟨gb167, 0, none⟩ = some (.int .i64 a0_0) := (blk_cell BK167.out 0).trans rfl
      have hcz22_1 : wc.cell? ⟨gb167, 1, none⟩ = some (.slice A0_1 l0_1.length c0_1) := (blk_cell BK167.out 1).trans rfl
      have hcz22_2 : wc.cell? ⟨gb167, 2, none⟩ = some (.int .i64 a0_2) := (blk_cell BK167.out 2).trans rfl
      have hcz22_3 : wc.cell? ⟨gb167, 3, none⟩ = some (.bool a0_3) := (blk_cell BK167.out 3).trans rfl
      have hcz22_4 : wc.cell? ⟨gb167, 4, none⟩ = some (.int .i64 a0_4) := (blk_cell BK167.out 4).trans rfl
      have hfz22_0 := blk_frozen BK167.out 0
      have hfz22_1 := blk_frozen BK167.out 1
      have hfz22_2 := blk_frozen BK167.out 2
      have hfz22_3 := blk_frozen BK167.out 3
      have hfz22_4 := blk_frozen BK167.out 4
      go_wp2_with (first | ((with_reducible refine gate_callee (f := 64) rfl ?_); refine goesL_ (some 24) rfl rfl Try.func64 (by kernel_rfl) rfl #[.agg #[.int .i64 a0_0, .slice A0_1 l0_1.length c0_1, .int .i64 a0_2, .bool a0_3, .int .i64 a0_4], .int .i64 1, .int .i64 a1] rfl (by (try simp only [List.map_toArray, List.map_cons, List.map_nil]); first | done | rfl | (simp only [List.length_drop, List.length_take]; rfl)) ?_; (with_reducible refine (log_first.calls a0_0 _ _ l0_1 a0_2 a0_3 a0_4 1 a1 t169 _ ?side1 ?side2 A16.out).mono ?_); (case side1 => repeat (first | exact (Kd.C_below HR0_1.out HB.out) | (with_reducible refine Kd.C_alloc ?_ _) | (with_reducible refine Kd.C_drewN ?_ _) | (with_reducible refine Kd.C_drew ?_))); (case side2 => exact HC0_1.out); rintro e w23 ⟨rfl, hb⟩; refine ⟨_, rfl, ?_⟩; have n0_ := Aside0.mk (blk_below (g := gb167) (o := .cells #[.int .i64 a0_0, .slice A0_1 l0_1.length c0_1, .int .i64 a0_2, .bool a0_3, .int .i64 a0_4] 27 (0, 0)) (by (with_reducible repeat (first | refine blk_drewN ?_ _ | refine blk_drew ?_ | refine blk_alloc ?_ _)); exact BK167.out) hb); have n1_ := Aside0.mk (below_step (by repeat (first | (with_reducible first | exact HB.out | apply below_alloc | apply pw_below_drewN | apply below_drew1 | refine below_set ?_ GE167.out) | exact HB.out)) hb); clear BK167; clear HB; have BK167 := n0_; have HB := n1_; clear n0_ n1_; (try clear hb); (try clear hb2); (try clear hk); (try clear hi); have hcz24_0 : w23.cell? ⟨gb167, 0, none⟩ = some (.int .i64 a0_0) := (blk_cell BK167.out 0).trans rfl; have hcz24_1 : w23.cell? ⟨gb167, 1, none⟩ = some (.slice A0_1 l0_1.length c0_1) := (blk_cell BK167.out 1).trans rfl; have hcz24_2 : w23.cell? ⟨gb167, 2, none⟩ = some (.int .i64 a0_2) := (blk_cell BK167.out 2).trans rfl; have hcz24_3 : w23.cell? ⟨gb167, 3, none⟩ = some (.bool a0_3) := (blk_cell BK167.out 3).trans rfl; have hcz24_4 : w23.cell? ⟨gb167, 4, none⟩ = some (.int .i64 a0_4) := (blk_cell BK167.out 4).trans rfl; have hfz24_0 := blk_frozen BK167.out 0; have hfz24_1 := blk_frozen BK167.out 1; have hfz24_2 := blk_frozen BK167.out 2; have hfz24_3 := blk_frozen BK167.out 3; have hfz24_4 := blk_frozen BK167.out 4) | ((with_reducible refine gate_callee (f := 64) rfl ?_); refine goesL_ (some 30) rfl rfl Try.func64 (by kernel_rfl) rfl #[.agg #[.int .i64 a0_0, .slice A0_1 l0_1.length c0_1, .int .i64 a0_2, .bool a0_3, .int .i64 a0_4], .int .i64 0, .int .i64 a1] rfl (by (try simp only [List.map_toArray, List.map_cons, List.map_nil]); first | done | rfl | (simp only [List.length_drop, List.length_take]; rfl)) ?_; (with_reducible refine (log_first.calls a0_0 _ _ l0_1 a0_2 a0_3 a0_4 0 a1 t170 _ ?side1 ?side2 A20.out).mono ?_); (case side1 => repeat (first | exact (Kd.C_below HR0_1.out HB.out) | (with_reducible refine Kd.C_alloc ?_ _) | (with_reducible refine Kd.C_drewN ?_ _) | (with_reducible refine Kd.C_drew ?_))); (case side2 => exact HC0_1.out); rintro e w25 ⟨rfl, hb⟩; refine ⟨_, rfl, ?_⟩; have n0_ := Aside0.mk (blk_below (g := gb167) (o := .cells #[.int .i64 a0_0, .slice A0_1 l0_1.length c0_1, .int .i64 a0_2, .bool a0_3, .int .i64 a0_4] 27 (0, 0)) (by (with_reducible repeat (first | refine blk_drewN ?_ _ | refine blk_drew ?_ | refine blk_alloc ?_ _)); exact BK167.out) hb); have n1_ := Aside0.mk (below_step (by repeat (first | (with_reducible first | exact HB.out | apply below_alloc | apply pw_below_drewN | apply below_drew1 | refine below_set ?_ GE167.out) | exact HB.out)) hb); clear BK167; clear HB; have BK167 := n0_; have HB := n1_; clear n0_ n1_; (try clear hb); (try clear hb2); (try clear hk); (try clear hi)))
      go_ret3
      exact ⟨_, by first | rfl | (simp [errW_none, errW_some] <;> rfl) | (simp [*, errW_none, errW_some] <;> rfl), by first | exact Kd.S_nil _ _ _ _ _ | exact Kd.N_nil _ _ _ _ _ | exact Kd.V_nil _ _ _ _ _ | exact Kd.Q_nil _ _ _ _ _ | exact Kd.R_nil _ _ _ _ _, by repeat (first | (with_reducible first | exact HB.out | apply below_alloc | apply pw_below_drewN | apply below_drew1 | refine below_set ?_ GE167.out) | exact HB.out)⟩
     ·rw [if_neg c21] at H
      have c21b0 : decide (t170 < 0) = false := decide_eq_false c21
      clear c21
      replace H := Option.bind_eq_some_iff.mp H
      obtain ⟨t171, A260, H⟩ := H
      replace H : (if t171 ≥ 3 then ((log_first.f a0_0 l0_1 a0_2 a0_3 a0_4 1 0).bind fun t172 => (some (t170, (([(⟨3, t172, ([] : List Int)⟩ : S56)] : List (S56))), 0))) else (some (t170, ([] : List (S56)), 0))) = some (r1, r2, r3) := H
      have A26 := Aside0.mk A260
      clear A260
      by_cases c27 : t171 ≥ 3
      ·rw [if_pos c27] at H
       have c27b0 : decide (3 ≤ t171) = true := decide_eq_true c27
       clear c27
       replace H := Option.bind_eq_some_iff.mp H
       obtain ⟨t172, A280, H⟩ := H
       replace H : (some (t170, (([(⟨3, t172, ([] : List Int)⟩ : S56)] : List (S56))), 0)) = some (r1, r2, r3) := H
       have A28 := Aside0.mk A280
       clear A280
       obtain ⟨y173, hy173⟩ : ∃ y_ : List (S56), y_ = (([(⟨3, t172, ([] : List Int)⟩ : S56)] : List (S56))) := ⟨_, rfl⟩
       replace H : (some (t170, y173, 0)) = some (r1, r2, r3) := by first | (rw [hy173]; with_reducible exact H) | (have H2_ := (Option.bind_some _ _).symm.trans H; rw [hy173]; with_reducible exact H2_) | (have H2_ := (Option.bind_some _ _).symm.trans H; with_reducible exact H2_) | with_reducible exact H | (rw [hy173]; exact H) | exact H
       have Ny173 := Aside0.mk hy173
       clear hy173
       simp only [Option.some.injEq, Prod.mk.injEq] at H
       obtain ⟨rfl, rfl, rfl⟩ := H
       have hcz29_0 : wc.cell? ⟨gb167, 0, none⟩ = some (.int .i64 a0_0) := (blk_cell BK167.out 0).trans rfl
       have hcz29_1 : wc.cell? ⟨gb167, 1, none⟩ = some (.slice A0_1 l0_1.length c0_1) := (blk_cell BK167.out 1).trans rfl
       have hcz29_2 : wc.cell? ⟨gb167, 2, none⟩ = some (.int .i64 a0_2) := (blk_cell BK167.out 2).trans rfl
       have hcz29_3 : wc.cell? ⟨gb167, 3, none⟩ = some (.bool a0_3) := (blk_cell BK167.out 3).trans rfl
       have hcz29_4 : wc.cell? ⟨gb167, 4, none⟩ = some (.int .i64 a0_4) := (blk_cell BK167.out 4).trans rfl
       have hfz29_0 := blk_frozen BK167.out 0
       have hfz29_1 := blk_frozen BK167.out 1
       have hfz29_2 := blk_frozen BK167.out 2
       have hfz29_3 := blk_frozen BK167.out 3
       have hfz29_4 := blk_frozen BK167.out 4
       go_wp2_with (first | ((with_reducible refine gate_callee (f := 64) rfl ?_); refine goesL_ (some 24) rfl rfl Try.func64 (by kernel_rfl) rfl #[.agg #[.int .i64 a0_0, .slice A0_1 l0_1.length c0_1, .int .i64 a0_2, .bool a0_3, .int .i64 a0_4], .int .i64 1, .int .i64 a1] rfl (by (try simp only [List.map_toArray, List.map_cons, List.map_nil]); first | done | rfl | (simp only [List.length_drop, List.length_take]; rfl)) ?_; (with_reducible refine (log_first.calls a0_0 _ _ l0_1 a0_2 a0_3 a0_4 1 a1 t169 _ ?side1 ?side2 A16.out).mono ?_); (case side1 => repeat (first | exact (Kd.C_below HR0_1.out HB.out) | (with_reducible refine Kd.C_alloc ?_ _) | (with_reducible refine Kd.C_drewN ?_ _) | (with_reducible refine Kd.C_drew ?_))); (case side2 => exact HC0_1.out); rintro e w30 ⟨rfl, hb⟩; refine ⟨_, rfl, ?_⟩; have n0_ := Aside0.mk (blk_below (g := gb167) (o := .cells #[.int .i64 a0_0, .slice A0_1 l0_1.length c0_1, .int .i64 a0_2, .bool a0_3, .int .i64 a0_4] 27 (0, 0)) (by (with_reducible repeat (first | refine blk_drewN ?_ _ | refine blk_drew ?_ | refine blk_alloc ?_ _)); exact BK167.out) hb); have n1_ := Aside0.mk (below_step (by repeat (first | (with_reducible first | exact HB.out | apply below_alloc | apply pw_below_drewN | apply below_drew1 | refine below_set ?_ GE167.out) | exact HB.out)) hb); clear BK167; clear HB; have BK167 := n0_; have HB := n1_; clear n0_ n1_; (try clear hb); (try clear hb2); (try clear hk); (try clear hi); have hcz31_0 : w30.cell? ⟨gb167, 0, none⟩ = some (.int .i64 a0_0) := (blk_cell BK167.out 0).trans rfl; have hcz31_1 : w30.cell? ⟨gb167, 1, none⟩ = some (.slice A0_1 l0_1.length c0_1) := (blk_cell BK167.out 1).trans rfl; have hcz31_2 : w30.cell? ⟨gb167, 2, none⟩ = some (.int .i64 a0_2) := (blk_cell BK167.out 2).trans rfl; have hcz31_3 : w30.cell? ⟨gb167, 3, none⟩ = some (.bool a0_3) := (blk_cell BK167.out 3).trans rfl; have hcz31_4 : w30.cell? ⟨gb167, 4, none⟩ = some (.int .i64 a0_4) := (blk_cell BK167.out 4).trans rfl; have hfz31_0 := blk_frozen BK167.out 0; have hfz31_1 := blk_frozen BK167.out 1; have hfz31_2 := blk_frozen BK167.out 2; have hfz31_3 := blk_frozen BK167.out 3; have hfz31_4 := blk_frozen BK167.out 4) | ((with_reducible refine gate_callee (f := 64) rfl ?_); refine goesL_ (some 30) rfl rfl Try.func64 (by kernel_rfl) rfl #[.agg #[.int .i64 a0_0, .slice A0_1 l0_1.length c0_1, .int .i64 a0_2, .bool a0_3, .int .i64 a0_4], .int .i64 0, .int .i64 a1] rfl (by (try simp only [List.map_toArray, List.map_cons, List.map_nil]); first | done | rfl | (simp only [List.length_drop, List.length_take]; rfl)) ?_; (with_reducible refine (log_first.calls a0_0 _ _ l0_1 a0_2 a0_3 a0_4 0 a1 t170 _ ?side1 ?side2 A20.out).mono ?_); (case side1 => repeat (first | exact (Kd.C_below HR0_1.out HB.out) | (with_reducible refine Kd.C_alloc ?_ _) | (with_reducible refine Kd.C_drewN ?_ _) | (with_reducible refine Kd.C_drew ?_))); (case side2 => exact HC0_1.out); rintro e w32 ⟨rfl, hb⟩; refine ⟨_, rfl, ?_⟩; have n0_ := Aside0.mk (blk_below (g := gb167) (o := .cells #[.int .i64 a0_0, .slice A0_1 l0_1.length c0_1, .int .i64 a0_2, .bool a0_3, .int .i64 a0_4] 27 (0, 0)) (by (with_reducible repeat (first | refine blk_drewN ?_ _ | refine blk_drew ?_ | refine blk_alloc ?_ _)); exact BK167.out) hb); have n1_ := Aside0.mk (below_step (by repeat (first | (with_reducible first | exact HB.out | apply below_alloc | apply pw_below_drewN | apply below_drew1 | refine below_set ?_ GE167.out) | exact HB.out)) hb); clear BK167; clear HB; have BK167 := n0_; have HB := n1_; clear n0_ n1_; (try clear hb); (try clear hb2); (try clear hk); (try clear hi); have hcz33_0 : w32.cell? ⟨gb167, 0, none⟩ = some (.int .i64 a0_0) := (blk_cell BK167.out 0).trans rfl; have hcz33_1 : w32.cell? ⟨gb167, 1, none⟩ = some (.slice A0_1 l0_1.length c0_1) := (blk_cell BK167.out 1).trans rfl; have hcz33_2 : w32.cell? ⟨gb167, 2, none⟩ = some (.int .i64 a0_2) := (blk_cell BK167.out 2).trans rfl; have hcz33_3 : w32.cell? ⟨gb167, 3, none⟩ = some (.bool a0_3) := (blk_cell BK167.out 3).trans rfl; have hcz33_4 : w32.cell? ⟨gb167, 4, none⟩ = some (.int .i64 a0_4) := (blk_cell BK167.out 4).trans rfl; have hfz33_0 := blk_frozen BK167.out 0; have hfz33_1 := blk_frozen BK167.out 1; have hfz33_2 := blk_frozen BK167.out 2; have hfz33_3 := blk_frozen BK167.out 3; have hfz33_4 := blk_frozen BK167.out 4) | ((with_reducible refine gate_callee (f := 65) rfl ?_); refine goesL_ (some 36) rfl rfl Try.func65 (by kernel_rfl) rfl #[.agg #[.int .i64 a0_0, .slice A0_1 l0_1.length c0_1, .int .i64 a0_2, .bool a0_3, .int .i64 a0_4]] rfl (by (try simp only [List.map_toArray, List.map_cons, List.map_nil]); first | done | rfl | (simp only [List.length_drop, List.length_take]; rfl)) ?_; (with_reducible refine (dev_Open.calls kj2 a0_0 _ _ l0_1 a0_2 a0_3 a0_4 t171 _ ?side1 ?side2 A26.out).mono ?_); (case side1 => repeat (first | exact (Kd.C_below HR0_1.out HB.out) | (with_reducible refine Kd.C_alloc ?_ _) | (with_reducible refine Kd.C_drewN ?_ _) | (with_reducible refine Kd.C_drew ?_))); (case side2 => exact HC0_1.out); rintro e w34 ⟨rfl, hb⟩; refine ⟨_, rfl, ?_⟩; have n0_ := Aside0.mk (blk_below (g := gb167) (o := .cells #[.int .i64 a0_0, .slice A0_1 l0_1.length c0_1, .int .i64 a0_2, .bool a0_3, .int .i64 a0_4] 27 (0, 0)) (by (with_reducible repeat (first | refine blk_drewN ?_ _ | refine blk_drew ?_ | refine blk_alloc ?_ _)); exact BK167.out) hb); have n1_ := Aside0.mk (below_step (by repeat (first | (with_reducible first | exact HB.out | apply below_alloc | apply pw_below_drewN | apply below_drew1 | refine below_set ?_ GE167.out) | exact HB.out)) hb); clear BK167; clear HB; have BK167 := n0_; have HB := n1_; clear n0_ n1_; (try clear hb); (try clear hb2); (try clear hk); (try clear hi); have hcz35_0 : w34.cell? ⟨gb167, 0, none⟩ = some (.int .i64 a0_0) := (blk_cell BK167.out 0).trans rfl; have hcz35_1 : w34.cell? ⟨gb167, 1, none⟩ = some (.slice A0_1 l0_1.length c0_1) := (blk_cell BK167.out 1).trans rfl; have hcz35_2 : w34.cell? ⟨gb167, 2, none⟩ = some (.int .i64 a0_2) := (blk_cell BK167.out 2).trans rfl; have hcz35_3 : w34.cell? ⟨gb167, 3, none⟩ = some (.bool a0_3) := (blk_cell BK167.out 3).trans rfl; have hcz35_4 : w34.cell? ⟨gb167, 4, none⟩ = some (.int .i64 a0_4) := (blk_cell BK167.out 4).trans rfl; have hfz35_0 := blk_frozen BK167.out 0; have hfz35_1 := blk_frozen BK167.out 1; have hfz35_2 := blk_frozen BK167.out 2; have hfz35_3 := blk_frozen BK167.out 3; have hfz35_4 := blk_frozen BK167.out 4) | ((with_reducible refine gate_callee (f := 64) rfl ?_); refine goesL_ (some 40) rfl rfl Try.func64 (by kernel_rfl) rfl #[.agg #[.int .i64 a0_0, .slice A0_1 l0_1.length c0_1, .int .i64 a0_2, .bool a0_3, .int .i64 a0_4], .int .i64 1, .int .i64 0] rfl (by (try simp only [List.map_toArray, List.map_cons, List.map_nil]); first | done | rfl | (simp only [List.length_drop, List.length_take]; rfl)) ?_; (with_reducible refine (log_first.calls a0_0 _ _ l0_1 a0_2 a0_3 a0_4 1 0 t172 _ ?side1 ?side2 A28.out).mono ?_); (case side1 => repeat (first | exact (Kd.C_below HR0_1.out HB.out) | (with_reducible refine Kd.C_alloc ?_ _) | (with_reducible refine Kd.C_drewN ?_ _) | (with_reducible refine Kd.C_drew ?_))); (case side2 => exact HC0_1.out); rintro e w36 ⟨rfl, hb⟩; refine ⟨_, rfl, ?_⟩; have n0_ := Aside0.mk (blk_below (g := gb167) (o := .cells #[.int .i64 a0_0, .slice A0_1 l0_1.length c0_1, .int .i64 a0_2, .bool a0_3, .int .i64 a0_4] 27 (0, 0)) (by (with_reducible repeat (first | refine blk_drewN ?_ _ | refine blk_drew ?_ | refine blk_alloc ?_ _)); exact BK167.out) hb); have n1_ := Aside0.mk (below_step (by repeat (first | (with_reducible first | exact HB.out | apply below_alloc | apply pw_below_drewN | apply below_drew1 | refine below_set ?_ GE167.out) | exact HB.out)) hb); clear BK167; clear HB; have BK167 := n0_; have HB := n1_; clear n0_ n1_; (try clear hb); (try clear hb2); (try clear hk); (try clear hi)) | ((with_reducible refine gate_dst (N := 42) rfl ?_); refine Kd.S_lit k56 _ 56 ?hg (N := 42) ?hd (xs := ([(⟨3, t172, ([] : List Int)⟩ : S56)] : List (S56))) (inner := [.int .i64 3, .int .i64 t172, .slice none 0 0]) (ok := fun _ => True) (okp := fun _ => True) ?hr ?hp (fun _ hk => hk) trivial (Below.refl _ _) (Nat.le_refl _) (by simp) ?_; (case hd => rfl); (case hg => rfl); (case hr => first | (go_simp; done) | (go_simp; rfl)); (case hp => exact (Reps.c3 (show Kd.M k56 _ _ _ (⟨3, t172, ([] : List Int)⟩ : S56) [.int .i64 3, .int .i64 t172, .slice none 0 0] from (k56_mkM _ _ _ (⟨3, t172, ([] : List Int)⟩ : S56) (Kd.R_nil _ _ _ _ _))) (Reps.none _ _))); intro v174 w37 ho38 hb hg_ hnew_; clear hg_ hnew_; (first | rw [← Ny173.out] at ho38 | (simp only [Int.reduceToNat] at ho38; rw [← Ny173.out] at ho38)); have n0_ := Aside0.mk (Kd.S_lower ho38 (below_size (by repeat (first | (with_reducible first | exact HB.out | apply below_alloc | apply pw_below_drewN | apply below_drew1 | refine below_set ?_ GE167.out) | exact HB.out)))); have n1_ := Aside0.mk (blk_below (g := gb167) (o := .cells #[.int .i64 a0_0, .slice A0_1 l0_1.length c0_1, .int .i64 a0_2, .bool a0_3, .int .i64 a0_4] 27 (0, 0)) (by (with_reducible repeat (first | refine blk_drewN ?_ _ | refine blk_drew ?_ | refine blk_alloc ?_ _)); exact BK167.out) hb); have n2_ := Aside0.mk (below_step (by repeat (first | (with_reducible first | exact HB.out | apply below_alloc | apply pw_below_drewN | apply below_drew1 | refine below_set ?_ GE167.out) | exact HB.out)) hb); clear BK167; clear HB; have HO175 := n0_; have BK167 := n1_; have HB := n2_; clear n0_ n1_ n2_; clear hb ho38))
       go_ret3
       exact ⟨_, by first | rfl | (simp [errW_none, errW_some] <;> rfl) | (simp [*, errW_none, errW_some] <;> rfl), by (with_reducible repeat (first | apply Kd.S_alloc | apply Kd.S_drewN | apply Kd.S_drew)); exact HO175.out, by repeat (first | (with_reducible first | exact HB.out | apply below_alloc | apply pw_below_drewN | apply below_drew1 | refine below_set ?_ GE167.out) | exact HB.out)⟩
      ·rw [if_neg c27] at H
       have c27b0 : decide (3 ≤ t171) = false := decide_eq_false c27
       clear c27
       simp only [Option.some.injEq, Prod.mk.injEq] at H
       obtain ⟨rfl, rfl, rfl⟩ := H
       have hcz39_0 : wc.cell? ⟨gb167, 0, none⟩ = some (.int .i64 a0_0) := (blk_cell BK167.out 0).trans rfl
       have hcz39_1 : wc.cell? ⟨gb167, 1, none⟩ = some (.slice A0_1 l0_1.length c0_1) := (blk_cell BK167.out 1).trans rfl
       have hcz39_2 : wc.cell? ⟨gb167, 2, none⟩ = some (.int .i64 a0_2) := (blk_cell BK167.out 2).trans rfl
       have hcz39_3 : wc.cell? ⟨gb167, 3, none⟩ = some (.bool a0_3) := (blk_cell BK167.out 3).trans rfl
       have hcz39_4 : wc.cell? ⟨gb167, 4, none⟩ = some (.int .i64 a0_4) := (blk_cell BK167.out 4).trans rfl
       have hfz39_0 := blk_frozen BK167.out 0
       have hfz39_1 := blk_frozen BK167.out 1
       have hfz39_2 := blk_frozen BK167.out 2
       have hfz39_3 := blk_frozen BK167.out 3
       have hfz39_4 := blk_frozen BK167.out 4
       go_wp2_with (first | ((with_reducible refine gate_callee (f := 64) rfl ?_); refine goesL_ (some 24) rfl rfl Try.func64 (by kernel_rfl) rfl #[.agg #[.int .i64 a0_0, .slice A0_1 l0_1.length c0_1, .int .i64 a0_2, .bool a0_3, .int .i64 a0_4], .int .i64 1, .int .i64 a1] rfl (by (try simp only [List.map_toArray, List.map_cons, List.map_nil]); first | done | rfl | (simp only [List.length_drop, List.length_take]; rfl)) ?_; (with_reducible refine (log_first.calls a0_0 _ _ l0_1 a0_2 a0_3 a0_4 1 a1 t169 _ ?side1 ?side2 A16.out).mono ?_); (case side1 => repeat (first | exact (Kd.C_below HR0_1.out HB.out) | (with_reducible refine Kd.C_alloc ?_ _) | (with_reducible refine Kd.C_drewN ?_ _) | (with_reducible refine Kd.C_drew ?_))); (case side2 => exact HC0_1.out); rintro e w40 ⟨rfl, hb⟩; refine ⟨_, rfl, ?_⟩; have n0_ := Aside0.mk (blk_below (g := gb167) (o := .cells #[.int .i64 a0_0, .slice A0_1 l0_1.length c0_1, .int .i64 a0_2, .bool a0_3, .int .i64 a0_4] 27 (0, 0)) (by (with_reducible repeat (first | refine blk_drewN ?_ _ | refine blk_drew ?_ | refine blk_alloc ?_ _)); exact BK167.out) hb); have n1_ := Aside0.mk (below_step (by repeat (first | (with_reducible first | exact HB.out | apply below_alloc | apply pw_below_drewN | apply below_drew1 | refine below_set ?_ GE167.out) | exact HB.out)) hb); clear BK167; clear HB; have BK167 := n0_; have HB := n1_; clear n0_ n1_; (try clear hb); (try clear hb2); (try clear hk); (try clear hi); have hcz41_0 : w40.cell? ⟨gb167, 0, none⟩ = some (.int .i64 a0_0) := (blk_cell BK167.out 0).trans rfl; have hcz41_1 : w40.cell? ⟨gb167, 1, none⟩ = some (.slice A0_1 l0_1.length c0_1) := (blk_cell BK167.out 1).trans rfl; have hcz41_2 : w40.cell? ⟨gb167, 2, none⟩ = some (.int .i64 a0_2) := (blk_cell BK167.out 2).trans rfl; have hcz41_3 : w40.cell? ⟨gb167, 3, none⟩ = some (.bool a0_3) := (blk_cell BK167.out 3).trans rfl; have hcz41_4 : w40.cell? ⟨gb167, 4, none⟩ = some (.int .i64 a0_4) := (blk_cell BK167.out 4).trans rfl; have hfz41_0 := blk_frozen BK167.out 0; have hfz41_1 := blk_frozen BK167.out 1; have hfz41_2 := blk_frozen BK167.out 2; have hfz41_3 := blk_frozen BK167.out 3; have hfz41_4 := blk_frozen BK167.out 4) | ((with_reducible refine gate_callee (f := 64) rfl ?_); refine goesL_ (some 30) rfl rfl Try.func64 (by kernel_rfl) rfl #[.agg #[.int .i64 a0_0, .slice A0_1 l0_1.length c0_1, .int .i64 a0_2, .bool a0_3, .int .i64 a0_4], .int .i64 0, .int .i64 a1] rfl (by (try simp only [List.map_toArray, List.map_cons, List.map_nil]); first | done | rfl | (simp only [List.length_drop, List.length_take]; rfl)) ?_; (with_reducible refine (log_first.calls a0_0 _ _ l0_1 a0_2 a0_3 a0_4 0 a1 t170 _ ?side1 ?side2 A20.out).mono ?_); (case side1 => repeat (first | exact (Kd.C_below HR0_1.out HB.out) | (with_reducible refine Kd.C_alloc ?_ _) | (with_reducible refine Kd.C_drewN ?_ _) | (with_reducible refine Kd.C_drew ?_))); (case side2 => exact HC0_1.out); rintro e w42 ⟨rfl, hb⟩; refine ⟨_, rfl, ?_⟩; have n0_ := Aside0.mk (blk_below (g := gb167) (o := .cells #[.int .i64 a0_0, .slice A0_1 l0_1.length c0_1, .int .i64 a0_2, .bool a0_3, .int .i64 a0_4] 27 (0, 0)) (by (with_reducible repeat (first | refine blk_drewN ?_ _ | refine blk_drew ?_ | refine blk_alloc ?_ _)); exact BK167.out) hb); have n1_ := Aside0.mk (below_step (by repeat (first | (with_reducible first | exact HB.out | apply below_alloc | apply pw_below_drewN | apply below_drew1 | refine below_set ?_ GE167.out) | exact HB.out)) hb); clear BK167; clear HB; have BK167 := n0_; have HB := n1_; clear n0_ n1_; (try clear hb); (try clear hb2); (try clear hk); (try clear hi); have hcz43_0 : w42.cell? ⟨gb167, 0, none⟩ = some (.int .i64 a0_0) := (blk_cell BK167.out 0).trans rfl; have hcz43_1 : w42.cell? ⟨gb167, 1, none⟩ = some (.slice A0_1 l0_1.length c0_1) := (blk_cell BK167.out 1).trans rfl; have hcz43_2 : w42.cell? ⟨gb167, 2, none⟩ = some (.int .i64 a0_2) := (blk_cell BK167.out 2).trans rfl; have hcz43_3 : w42.cell? ⟨gb167, 3, none⟩ = some (.bool a0_3) := (blk_cell BK167.out 3).trans rfl; have hcz43_4 : w42.cell? ⟨gb167, 4, none⟩ = some (.int .i64 a0_4) := (blk_cell BK167.out 4).trans rfl; have hfz43_0 := blk_frozen BK167.out 0; have hfz43_1 := blk_frozen BK167.out 1; have hfz43_2 := blk_frozen BK167.out 2; have hfz43_3 := blk_frozen BK167.out 3; have hfz43_4 := blk_frozen BK167.out 4) | ((with_reducible refine gate_callee (f := 65) rfl ?_); refine goesL_ (some 36) rfl rfl Try.func65 (by kernel_rfl) rfl #[.agg #[.int .i64 a0_0, .slice A0_1 l0_1.length c0_1, .int .i64 a0_2, .bool a0_3, .int .i64 a0_4]] rfl (by (try simp only [List.map_toArray, List.map_cons, List.map_nil]); first | done | rfl | (simp only [List.length_drop, List.length_take]; rfl)) ?_; (with_reducible refine (dev_Open.calls kj2 a0_0 _ _ l0_1 a0_2 a0_3 a0_4 t171 _ ?side1 ?side2 A26.out).mono ?_); (case side1 => repeat (first | exact (Kd.C_below HR0_1.out HB.out) | (with_reducible refine Kd.C_alloc ?_ _) | (with_reducible refine Kd.C_drewN ?_ _) | (with_reducible refine Kd.C_drew ?_))); (case side2 => exact HC0_1.out); rintro e w44 ⟨rfl, hb⟩; refine ⟨_, rfl, ?_⟩; have n0_ := Aside0.mk (blk_below (g := gb167) (o := .cells #[.int .i64 a0_0, .slice A0_1 l0_1.length c0_1, .int .i64 a0_2, .bool a0_3, .int .i64 a0_4] 27 (0, 0)) (by (with_reducible repeat (first | refine blk_drewN ?_ _ | refine blk_drew ?_ | refine blk_alloc ?_ _)); exact BK167.out) hb); have n1_ := Aside0.mk (below_step (by repeat (first | (with_reducible first | exact HB.out | apply below_alloc | apply pw_below_drewN | apply below_drew1 | refine below_set ?_ GE167.out) | exact HB.out)) hb); clear BK167; clear HB; have BK167 := n0_; have HB := n1_; clear n0_ n1_; (try clear hb); (try clear hb2); (try clear hk); (try clear hi)))
       go_ret3
       exact ⟨_, by first | rfl | (simp [errW_none, errW_some] <;> rfl) | (simp [*, errW_none, errW_some] <;> rfl), by first | exact Kd.S_nil _ _ _ _ _ | exact Kd.N_nil _ _ _ _ _ | exact Kd.V_nil _ _ _ _ _ | exact Kd.Q_nil _ _ _ _ _ | exact Kd.R_nil _ _ _ _ _, by repeat (first | (with_reducible first | exact HB.out | apply below_alloc | apply pw_below_drewN | apply below_drew1 | refine below_set ?_ GE167.out) | exact HB.out)⟩
end Go.Proofs.Ytdgefplbfffenaa.X
namespace Go.Proofs.Ytdgefplbfffenaa.X
open Go.RowKit Go.Proofs.YtdgefplbfffenaaW.PrintWords Go.Proofs.YtdgefplbfffenaaW.PrintLast Go.Proofs.YtdgefplbfffenaaW.PrintMore
set_option maxHeartbeats 4000000 in
set_option maxRecDepth 100000 in
theorem lite_calls (s : ByteArray) (c : Int) (w : World) : Calls Try.prog 114 #[.string s, .int .u8 c] w fun e w' => e = .returned (.int .i64 (Lib.indexByte s.data.toList c.toNat.toUInt8)) ∧ w' = w := by
  go_enter Try.func114, Try.ntmps114
  go_wp2
  rw [run_callFunc_extern Try.func115 (by kernel_rfl) (by kernel_rfl) (by kernel_rfl) (e := Extern.BytealgIndexByte.indexByte) (by kernel_rfl), Lib.run_indexByteString]
  simp only [Result.andThen]
  rw [Oper.upon_value]
  go_wp2
  go_ret
  exact ⟨rfl, rfl⟩
set_option maxHeartbeats 4000000 in
set_option maxRecDepth 100000 in
theorem indexByte_calls (s : ByteArray) (c : Int) (w : World) : Calls Try.prog 104 #[.string s, .int .u8 c] w fun e w' => e = .returned (.int .i64 (Lib.indexByte s.data.toList c.toNat.toUInt8)) ∧ w' = w := by
  go_enter Try.func104, Try.ntmps104
  go_wp2_with (go_at_call 114; refine (lite_calls _ _ _).mono ?_; rintro e w' ⟨rfl, rfl⟩)
  go_ret
  exact ⟨rfl, rfl⟩
def le_size (c : Int) : Int := if c = 98 then 1 else if c = 104 then 2 else if c = 119 then 4 else if c = 113 then 8 else 0
set_option maxHeartbeats 4000000 in
set_option maxRecDepth 100000 in
theorem indexRune_calls (s : ByteArray) (r : Int) (w : World) (h0 : 0 ≤ r) (h1 : r < 128) : Calls Try.prog 95 #[.string s, .int .i32 r] w fun e w' => e = .returned (.int .i64 (Lib.indexByte s.data.toList r.toNat.toUInt8)) ∧ w' = w := by
  go_enter Try.func95, Try.ntmps95
  go_wp2_with (go_at_call 104; refine (indexByte_calls _ _ _).mono ?_; rintro e w' ⟨rfl, hw⟩; rw [hw])
  go_ret
  exact ⟨rfl, rfl⟩
theorem ib_bhwq (r : Int) (h0 : 0 ≤ r) (h1 : r < 128) : Lib.indexByte (ByteArray.mk #[98, 104, 119, 113]).data.toList r.toNat.toUInt8 = if r = 98 then 0 else if r = 104 then 1 else if r = 119 then 2 else if r = 113 then 3 else -1 := by
  have hx : ∀ n : Fin 128, Lib.indexByte (ByteArray.mk #[98, 104, 119, 113]).data.toList (n.val.toUInt8) = if (n.val : Int) = 98 then 0 else if (n.val : Int) = 104 then 1 else if (n.val : Int) = 119 then 2 else if (n.val : Int) = 113 then 3 else -1 := by decide
  have h := hx ⟨r.toNat, by omega⟩
  rw [show ((⟨r.toNat, by omega⟩ : Fin 128).val : Int) = r from by show ((r.toNat : Nat) : Int) = r; omega] at h
  exact h
set_option maxHeartbeats 4000000 in
set_option maxRecDepth 100000 in
theorem size_calls (r : Int) (w : World) (h0 : 0 ≤ r) (h1 : r < 128) : Calls Try.prog 78 #[.int .i32 r] w fun e w' => e = .returned (.int .i64 (le_size r)) ∧ w' = w := by
  have hi := ib_bhwq r h0 h1
  have hk : Lib.indexByte (ByteArray.mk #[98, 104, 119, 113]).data.toList r.toNat.toUInt8 = 0 ∧ le_size r = 1 ∨ Lib.indexByte (ByteArray.mk #[98, 104, 119, 113]).data.toList r.toNat.toUInt8 = 1 ∧ le_size r = 2 ∨ Lib.indexByte (ByteArray.mk #[98, 104, 119, 113]).data.toList r.toNat.toUInt8 = 2 ∧ le_size r = 4 ∨ Lib.indexByte (ByteArray.mk #[98, 104, 119, 113]).data.toList r.toNat.toUInt8 = 3 ∧ le_size r = 8 ∨ Lib.indexByte (ByteArray.mk #[98, 104, 119, 113]).data.toList r.toNat.toUInt8 = -1 ∧ le_size r = 0 := by
    rw [hi]; unfold le_size
    split
    · exact .inl ⟨rfl, rfl⟩
    · split
      · exact .inr (.inl ⟨rfl, rfl⟩)
      · split
        · exact .inr (.inr (.inl ⟨rfl, rfl⟩))
        · split
          · exact .inr (.inr (.inr (.inl ⟨rfl, rfl⟩)))
          · exact .inr (.inr (.inr (.inr ⟨rfl, rfl⟩)))
  clear hi
  have HI := indexRune_calls (ByteArray.mk #[98, 104, 119, 113]) r w h0 h1
  rcases hk with ⟨hk, hz⟩ | ⟨hk, hz⟩ | ⟨hk, hz⟩ | ⟨hk, hz⟩ | ⟨hk, hz⟩
  all_goals
    rw [hk] at HI
    rw [hz]
    have HI2 := Aside0.mk HI
    clear HI hk hz
    go_enter Try.func78, Try.ntmps78
    go_wp2_with fail
    refine HI2.out.mono ?_
    rintro e w' ⟨rfl, hw⟩
    rw [hw]
    go_wp2
    go_ret
    exact ⟨rfl, rfl⟩
end Go.Proofs.Ytdgefplbfffenaa.X
namespace Go.Proofs.Ytdgefplbfffenaa.X
open Go.RowKit Go.Proofs.YtdgefplbfffenaaW.PrintWords Go.Proofs.YtdgefplbfffenaaW.PrintLast Go.Proofs.YtdgefplbfffenaaW.PrintMore
/-- le.Pack, from a place of its form on: the bytes so far go before. -/
def packL : List UInt8 → List Int → List Int → Option (List Int × Int)
  | [], [], acc => some (acc, 0)
  | [], _ :: _, _ => some ([], 10)
  | _ :: _, [], _ => some ([], 10)
  | c :: cs, v :: vs, acc => if c.toNat < 128 then (match le_Put.f 12 acc v (le_size c.toNat) with | none => none | some (a, e) => if e = 0 then packL cs vs a else some ([], e)) else none
def le_Pack.f (a0 : ByteArray) (l1 : List Int) : Option (List Int × Int) := packL a0.data.toList l1 []
theorem blkAny_below {w w1 : World} {k : Nat} {o : Obj} (h : w.heap[k]? = some o) (hb : Below w.heap.size w w1) : w1.heap[k]? = some o := (hb.block k (blk_lt h)).trans h
theorem rowIter {w : World} {base k : Nat} {v : Value} {xs : List Int} {s : ByteArray} {p : Nat} (hR : (Kd.int .u8).R 5 w base (fun _ => True) v xs) (hk : w.heap[k]? = some (.stringIter s p)) (p' : Nat) : (Kd.int .u8).R 5 (w.iterAt k s p') base (fun _ => True) v xs :=
  Kd.R_mono (Kd.R_move (Kd.R_bound hR) (fun j hj => Lib.iterAt_other w k j s p' (fun he => by obtain ⟨_, _, _, q, _, cs, hc⟩ := hj; rw [he, hk] at hc; cases hc))) (fun _ _ => trivial)
theorem cellU64 {w : World} {A : Option Addr} {l : List Int} (h : (Kd.int .u64).C w A l.length l) (i : Nat) (hi : i < l.length) : ∃ ad : Addr, ∃ _x : Unit, A = some ad ∧ w.cell? (ad.add i) = some (.int .u64 l[i]) := by
  obtain ⟨ad, c, hA, _, hK, hc⟩ := Kd.C_get h (0 : Int) (i : Int) (by omega) (by omega)
  have hK' : c = [.int .u64 l[i]] := by
    have h2 : c = [.int .u64 (l.getD (i : Int).toNat 0)] := hK
    rw [h2, Int.toNat_natCast, List.getD_eq_getElem?_getD, List.getElem?_eq_getElem hi]; rfl
  have h3 := hc 0 _ (by rw [hK']; rfl)
  refine ⟨ad, (), hA, ?_⟩
  rw [show (i : Int).toNat * (Kd.int .u64).sz + 0 = i from by show (i : Int).toNat * 1 + 0 = i; omega] at h3
  exact h3
set_option maxHeartbeats 8000000 in
set_option maxRecDepth 100000 in
theorem le_Pack.calls (a0 : ByteArray) (A1 : Option Addr) (c1 : Nat) (l1 : List Int) (r1 : List Int) (r2 : Int) (w : World) (hr1 : Kd.C (Kd.int .u64) w A1 l1.length l1) (hc1 : l1.length ≤ c1) (h : le_Pack.f a0 l1 = some (r1, r2)) :
    Calls Try.prog 55 #[.string a0, .slice A1 l1.length c1] w fun e w' => ∃ v0_ : Value, e = .returned (.tuple #[v0_, .int .i64 r2]) ∧ Kd.R (Kd.int .u8) 5 w' w.heap.size (fun _ => True) v0_ r1 ∧ Below w.heap.size w w' := by
  unfold le_Pack.f at h
  have HC := Aside0.mk hr1
  have HP := Aside0.mk h
  have hlen : l1.length ≤ 9223372036854775807 := hr1.2.1
  clear hr1 hc1 h
  go_enter Try.func55, Try.ntmps55
  go_wp2
  go_loopw [4, 5, 6] (fun v4 v5 v6 wr => ∃ (i : Nat) (acc : List Int), v6 = .int .i64 i ∧ v5 = .int .i64 0 ∧ i ≤ a0.size ∧ i ≤ l1.length ∧ Aside0 (Kd.R (Kd.int .u8) 5 wr w.heap.size (fun _ => True) v4 acc) ∧ Aside0 (wr.heap[w.heap.size]? = some (.stringIter a0 i)) ∧ Aside0 (Below w.heap.size w wr) ∧ Aside0 (packL (a0.data.toList.drop i) (l1.drop i) acc = some (r1, r2))) (fun _ _ v6 _ => a0.size - (intOf v6).toNat)
  case atStart => exact ⟨0, [], rfl, rfl, Nat.zero_le _, Nat.zero_le _, ⟨Kd.R_nil _ _ _ _ _⟩, ⟨World.iter_heap w a0 0⟩, ⟨(Below.refl _ w).alloc (Nat.le_refl _) _⟩, ⟨HP.out⟩⟩
  case round =>
    obtain ⟨i, acc, rfl, rfl, hi, hil, HR, HI, HB, HL⟩ := hrel
    obtain ⟨A4, c4, rfl⟩ := Kd.R_slice HR.out
    by_cases hps : i < a0.size
    · have hdr : a0.data.toList.drop i = a0[i] :: a0.data.toList.drop (i + 1) := List.drop_eq_getElem_cons (by simpa using hps)
      by_cases hv : i < l1.length
      · have hdv : l1.drop i = l1[i] :: l1.drop (i + 1) := List.drop_eq_getElem_cons hv
        have hq := HL.out
        rw [hdr, hdv] at hq
        unfold packL at hq
        split at hq
        · rename_i hasc
          have hnx : ∀ ty, (Instr.next (.pointer (some ⟨w.heap.size, 0, none⟩)) true ty).run Try.prog wr = _ := fun ty => Lib.run_next_ascii_at wr w.heap.size a0 i ty HI.out hps hasc
          have HI2 := Aside0.mk (Lib.iterAt_heap wr w.heap.size a0 i (i + 1) HI.out)
          have HB2 := Aside0.mk (Lib.below_iterAt HB.out (k := w.heap.size) (Nat.le_refl _) a0 (i + 1))
          have HR2 := Aside0.mk (rowIter HR.out HI.out (i + 1))
          generalize wr.iterAt w.heap.size a0 (i + 1) = W at *
          have HC2 := Aside0.mk (Kd.C_below HC.out HB2.out)
          obtain ⟨ad, cx, rfl, hx⟩ := cellU64 HC2.out i hv
          have hc0 : (0 : Int) ≤ (a0[i].toNat : Int) := by omega
          have hc1 : (a0[i].toNat : Int) < 128 := by omega
          have HS := Aside0.mk (size_calls (a0[i].toNat : Int) W.drew hc0 hc1)
          generalize (a0[i].toNat : Int) = ch at *
          generalize l1[i] = vi at *
          have hne : ((i : Int) == (l1.length : Int)) = false := beq_eq_false_iff_ne.mpr (by omega)
          have hne2 : (i == l1.length) = false := beq_eq_false_iff_ne.mpr (by omega)
          have hi0 : (0 : Int) ≤ (i : Int) := by omega
          have hi1 : (i : Int) < (l1.length : Int) := by omega
          have HQ := Aside0.mk hq
          clear hq
          have Hle := Aside0.mk (And.intro hi (And.intro hil (And.intro hps hv)))
          clear hi hil hps hv hdr hdv hc0 hc1 hasc
          go_wp2_with fail
          cases hput : le_Put.f 12 acc vi (le_size ch) with
          | none => have hq := HQ.out; rw [hput] at hq; cases hq
          | some ae =>
            obtain ⟨ra, re⟩ := ae
            have HPUT := Aside0.mk hput
            have hq := HQ.out
            rw [hput] at hq
            replace HQ := Aside0.mk hq
            clear hq hput
            have HRW := Aside0.mk (Kd.R_reads' HR2.out)
            go_region_held3 (fun w' => w'.cell? (ad.add i) = some (.int .u64 vi))
              (first
                | with_reducible exact pw_cell_below hb6.out hx
                | exact hx)
              (first
                | (go_at_call 78; refine HS.out.mono ?_; rintro e w5 ⟨rfl, hw⟩; rw [hw])
                | (go_at_call 77; refine (le_Put.calls 12 A4 c4 acc vi (le_size ch) ra re W.drew (Kd.C_below HRW.out.2.2 (below_drew (Below.refl _ _))) HRW.out.2.1 HPUT.out).mono ?_; rintro e w6 ⟨v6, rfl, hR6, hb⟩; obtain ⟨A6, c6, rfl⟩ := Kd.R_slice hR6; have hb6 := Aside0.mk (show Below W.heap.size W w6 from (below_drew (Below.refl _ _)).trans hb); have HR6 := Aside0.mk (show (Kd.int .u8).R 5 w6 W.heap.size (fun _ => True) _ _ from hR6); clear hR6 hb))
            all_goals
              have hK6 := Aside0.mk (HB2.out.trans (hb6.out.mono HB2.out.size))
              have hI6 := Aside0.mk (blkAny_below HI2.out hb6.out)
              by_cases hre : re = 0
              · subst hre
                have hq := HQ.out
                simp only [if_true] at hq
                replace HQ := Aside0.mk hq
                clear hq
                go_wp2
                go_roundw
                case rel => exact ⟨i + 1, ra, by go_num, rfl, by have := Hle.out; omega, by have := Hle.out; omega, ⟨Kd.R_lower HR6.out HB2.out.size⟩, hI6, hK6, HQ⟩
                case measure => have := Hle.out; simp [intOf]; omega
              · have hrn : (re != 0) = true := bne_iff_ne.mpr hre
                have hq := HQ.out
                simp only [if_neg hre] at hq
                obtain ⟨hr1, hr2⟩ := Prod.mk.inj (Option.some.inj hq)
                subst hr1 hr2
                go_wp2
                refine bodyPost_ret (results_tmp2 rfl _ _ _) rfl ?_
                exact ⟨_, rfl, Kd.R_nil _ _ _ _ _, hK6.out⟩
        · cases hq
      · obtain rfl : i = l1.length := by omega
        have hnx : ∀ ty, (Instr.next (.pointer (some ⟨w.heap.size, 0, none⟩)) true ty).run Try.prog wr = _ := fun ty => Lib.run_next_any_at wr w.heap.size a0 l1.length ty HI.out hps
        have HB2 := Aside0.mk (Lib.below_iterAt HB.out (k := w.heap.size) (Nat.le_refl _) a0 (l1.length + (Utf8.decode a0 l1.length).2))
        have hq := HL.out
        rw [hdr, List.drop_eq_nil_of_le (Nat.le_refl _)] at hq
        unfold packL at hq
        obtain ⟨hr1, hr2⟩ := Prod.mk.inj (Option.some.inj hq)
        subst hr1 hr2
        clear hq hdr
        generalize wr.iterAt w.heap.size a0 (l1.length + (Utf8.decode a0 l1.length).2) = W at *
        generalize ((Utf8.decode a0 l1.length).1 : Int) = ch at *
        go_wp2
        refine bodyPost_ret (results_tmp2 rfl _ _ _) rfl ?_
        exact ⟨_, rfl, Kd.R_nil _ _ _ _ _, HB2.out⟩
    · obtain rfl : i = a0.size := by omega
      have hnx : ∀ ty, (Instr.next (.pointer (some ⟨w.heap.size, 0, none⟩)) true ty).run Try.prog wr = _ := fun ty => Lib.run_next_end_at wr w.heap.size a0 a0.size ty HI.out hps
      have hq := HL.out
      rw [List.drop_eq_nil_of_le (by simp)] at hq
      by_cases hv : a0.size < l1.length
      · rw [List.drop_eq_getElem_cons hv] at hq
        unfold packL at hq
        obtain ⟨hr1, hr2⟩ := Prod.mk.inj (Option.some.inj hq)
        subst hr1 hr2
        clear hq
        go_wp2
        refine bodyPost_ret (results_tmp2 rfl _ _ _) rfl ?_
        exact ⟨_, rfl, Kd.R_nil _ _ _ _ _, HB.out⟩
      · rw [List.drop_eq_nil_of_le (by omega)] at hq
        unfold packL at hq
        obtain ⟨hr1, hr2⟩ := Prod.mk.inj (Option.some.inj hq)
        subst hr1 hr2
        clear hq
        go_wp2
        refine bodyPost_ret (results_tmp2 rfl _ _ _) rfl ?_
        exact ⟨_, rfl, HR.out, HB.out⟩
end Go.Proofs.Ytdgefplbfffenaa.X
namespace Go.Proofs.Ytdgefplbfffenaa.X
open Go.RowKit Go.Proofs.YtdgefplbfffenaaW.PrintWords Go.Proofs.YtdgefplbfffenaaW.PrintLast Go.Proofs.YtdgefplbfffenaaW.PrintMore
attribute [local go_sem] max2_int min2_int max_two min_two max_three min_three max_four min_four   -- for this text's walks alone
set_option linter.unusedVariables false
set_option linter.unusedSimpArgs false
def record_Write.f (k : Nat) (a0_0 : Int) (a0_1 : Int) (l0_2 : List Int) : Option (List Int × Int) := (record_Check.f a0_0 a0_1 l0_2).bind fun t150 => (if t150 = 0 then ((le_Pack.f (⟨#[119, 104, 104, 113]⟩ : ByteArray) (([1196184151, IntKind.u64.wrap (a0_0), IntKind.u64.wrap ((l0_2.length : Int)), IntKind.u64.wrap (a0_1)] : List Int))).bind fun bt154 => (if bt154.2 = 0 then (if bt154.1.length + l0_2.length < 140737488355328 then ((crc_Seal.f k (bt154.1 ++ l0_2)).bind fun t161 => (some (t161, 0))) else (none)) else (some (([] : List Int), 50)))) else (some (([] : List Int), t150)))
set_option maxHeartbeats 8000000 in
set_option maxRecDepth 100000 in
theorem record_Write.calls (k : Nat) (a0_0 : Int) (a0_1 : Int) (A0_2 : Option Addr) (c0_2 : Nat) (l0_2 : List Int) (r1 : List Int) (r2 : Int) (w : World) (hr0_2 : Kd.C (Kd.int .u8) w A0_2 l0_2.length l0_2) (hc0_2 : l0_2.length ≤ c0_2) (h : record_Write.f k a0_0 a0_1 l0_2 = some (r1, r2)) :
  Calls Try.prog 27 #[.agg #[.int .i64 a0_0, .int .i64 a0_1, .slice A0_2 l0_2.length c0_2]] w fun e w' => ∃ v0_ : Value, e = .returned (.tuple #[v0_, .int .i64 r2]) ∧ Kd.R (Kd.int .u8) 5 w' w.heap.size (fun _ => True) v0_ r1 ∧ Below w.heap.size w w' := by
 have hu36 := Try.underlying36
 have HR0_2 := Aside0.mk hr0_2
 have HC0_2 := Aside0.mk hc0_2
 clear hr0_2 hc0_2
 have HB := Aside0.mk (Below.refl w.heap.size w)
 have H : ((record_Check.f a0_0 a0_1 l0_2).bind fun t150 => (if t150 = 0 then ((le_Pack.f (⟨#[119, 104, 104, 113]⟩ : ByteArray) (([1196184151, IntKind.u64.wrap (a0_0), IntKind.u64.wrap ((l0_2.length : Int)), IntKind.u64.wrap (a0_1)] : List Int))).bind fun bt154 => (if bt154.2 = 0 then (if bt154.1.length + l0_2.length < 140737488355328 then ((crc_Seal.f k (bt154.1 ++ l0_2)).bind fun t161 => (some (t161, 0))) else (none)) else (some (([] : List Int), 50)))) else (some (([] : List Int), t150)))) = some (r1, r2) := h
 clear h
 replace H := Option.bind_eq_some_iff.mp H
 obtain ⟨t150, A20, H⟩ := H
 replace H : (if t150 = 0 then ((le_Pack.f (⟨#[119, 104, 104, 113]⟩ : ByteArray) (([1196184151, IntKind.u64.wrap (a0_0), IntKind.u64.wrap ((l0_2.length : Int)), IntKind.u64.wrap (a0_1)] : List Int))).bind fun bt154 => (if bt154.2 = 0 then (if bt154.1.length + l0_2.length < 140737488355328 then ((crc_Seal.f k (bt154.1 ++ l0_2)).bind fun t161 => (some (t161, 0))) else (none)) else (some (([] : List Int), 50)))) else (some (([] : List Int), t150))) = some (r1, r2) := H
 have A2 := Aside0.mk A20
 clear A20
 by_cases c3 : t150 = 0
 ·rw [if_pos c3] at H
  have c3b0 : (t150 == 0) = true := beq_iff_eq.mpr c3
  have c3b1 : (t150 != 0) = false := bne_eq_false_iff_eq.mpr c3
  clear c3
  obtain ⟨y151, hy151⟩ : ∃ y_ : List Int, y_ = (([1196184151, IntKind.u64.wrap (a0_0), IntKind.u64.wrap ((l0_2.length : Int)), IntKind.u64.wrap (a0_1)] : List Int)) := ⟨_, rfl⟩
  replace H : ((le_Pack.f (⟨#[119, 104, 104, 113]⟩ : ByteArray) y151).bind fun bt154 => (if bt154.2 = 0 then (if bt154.1.length + l0_2.length < 140737488355328 then ((crc_Seal.f k (bt154.1 ++ l0_2)).bind fun t161 => (some (t161, 0))) else (none)) else (some (([] : List Int), 50)))) = some (r1, r2) := by first | (rw [hy151]; with_reducible exact H) | (have H2_ := (Option.bind_some _ _).symm.trans H; rw [hy151]; with_reducible exact H2_) | (have H2_ := (Option.bind_some _ _).symm.trans H; with_reducible exact H2_) | with_reducible exact H | (rw [hy151]; exact H) | exact H
  have Ny151 := Aside0.mk hy151
  clear hy151
  replace H := Option.bind_eq_some_iff.mp H
  obtain ⟨⟨t154, t155⟩, A40, H⟩ := H
  replace H : (if t155 = 0 then (if t154.length + l0_2.length < 140737488355328 then ((crc_Seal.f k (t154 ++ l0_2)).bind fun t161 => (some (t161, 0))) else (none)) else (some (([] : List Int), 50))) = some (r1, r2) := H
  have A4 := Aside0.mk A40
  clear A40
  by_cases c5 : t155 = 0
  ·rw [if_pos c5] at H
   have c5b0 : (t155 == 0) = true := beq_iff_eq.mpr c5
   have c5b1 : (t155 != 0) = false := bne_eq_false_iff_eq.mpr c5
   clear c5
   by_cases c6 : t154.length + l0_2.length < 140737488355328
   ·rw [if_pos c6] at H
    have LMc6 := Aside0.mk c6
    clear c6
    obtain ⟨y158, hy158⟩ : ∃ y_ : List Int, y_ = (t154 ++ l0_2) := ⟨_, rfl⟩
    replace H : ((crc_Seal.f k y158).bind fun t161 => (some (t161, 0))) = some (r1, r2) := by first | (rw [hy158]; with_reducible exact H) | (have H2_ := (Option.bind_some _ _).symm.trans H; rw [hy158]; with_reducible exact H2_) | (have H2_ := (Option.bind_some _ _).symm.trans H; with_reducible exact H2_) | with_reducible exact H | (rw [hy158]; exact H) | exact H
    have Ny158 := Aside0.mk hy158
    clear hy158
    replace H := Option.bind_eq_some_iff.mp H
    obtain ⟨t161, A70, H⟩ := H
    replace H : (some (t161, 0)) = some (r1, r2) := H
    have A7 := Aside0.mk A70
    clear A70
    simp only [Option.some.injEq, Prod.mk.injEq] at H
    obtain ⟨rfl, rfl⟩ := H
    go_enter Try.func27, Try.ntmps27
    go_wp2_with (first | ((with_reducible refine gate_dst (N := 1) rfl ?_); refine box_event ?hg (N := 1) ?hd (cs := #[.int .i64 a0_0, .int .i64 a0_1, .slice A0_2 l0_2.length c0_2]) (t := 36) ?hr ?_; (case hd => rfl); (case hg => rfl); (case hr => first | (go_simp; done) | (go_simp; rfl)); intro gb149 hg w8 hbox hb; have n0_ := Aside0.mk (below_step (by repeat (first | (with_reducible first | exact HB.out | apply below_alloc | apply pw_below_drewN | apply below_drew1) | exact HB.out)) hb); have n1_ := Aside0.mk (hbox); have n2_ := Aside0.mk ((by rw [hg]; exact (below_size (by repeat (first | (with_reducible first | exact HB.out | apply below_alloc | apply pw_below_drewN | apply below_drew1) | exact HB.out))) : w.heap.size ≤ gb149)); have n3_ := Aside0.mk ((by rw [hg]; exact (below_size (by repeat (first | (with_reducible first | exact HB.out | apply below_alloc | apply pw_below_drewN | apply below_drew1) | exact HB.out))) : w.heap.size ≤ gb149)); clear HB; have HB := n0_; have BK149 := n1_; have GW149 := n2_; have GE149 := n3_; clear n0_ n1_ n2_ n3_; clear hb hbox hg; have hcz9_0 : w8.cell? ⟨gb149, 0, none⟩ = some (.int .i64 a0_0) := (blk_cell BK149.out 0).trans rfl; have hcz9_1 : w8.cell? ⟨gb149, 1, none⟩ = some (.int .i64 a0_1) := (blk_cell BK149.out 1).trans rfl; have hcz9_2 : w8.cell? ⟨gb149, 2, none⟩ = some (.slice A0_2 l0_2.length c0_2) := (blk_cell BK149.out 2).trans rfl; have hfz9_0 := blk_frozen BK149.out 0; have hfz9_1 := blk_frozen BK149.out 1; have hfz9_2 := blk_frozen BK149.out 2) | ((with_reducible refine gate_callee (f := 26) rfl ?_); refine goesL_ (some 8) rfl rfl Try.func26 (by kernel_rfl) rfl #[.agg #[.int .i64 a0_0, .int .i64 a0_1, .slice A0_2 l0_2.length c0_2]] rfl (by (try simp only [List.map_toArray, List.map_cons, List.map_nil]); first | done | rfl | (simp only [List.length_drop, List.length_take]; rfl)) ?_; (with_reducible refine (record_Check.calls a0_0 a0_1 _ _ l0_2 t150 _ ?side1 ?side2 A2.out).mono ?_); (case side1 => repeat (first | exact (Kd.C_below HR0_2.out HB.out) | (with_reducible refine Kd.C_alloc ?_ _) | (with_reducible refine Kd.C_drewN ?_ _) | (with_reducible refine Kd.C_drew ?_))); (case side2 => exact HC0_2.out); rintro e w10 ⟨rfl, hb⟩; refine ⟨_, rfl, ?_⟩; have n0_ := Aside0.mk (blk_below (g := gb149) (o := .cells #[.int .i64 a0_0, .int .i64 a0_1, .slice A0_2 l0_2.length c0_2] 36 (0, 0)) (by (with_reducible repeat (first | refine blk_drewN ?_ _ | refine blk_drew ?_ | refine blk_alloc ?_ _)); exact BK149.out) hb); have n1_ := Aside0.mk (below_step (by repeat (first | (with_reducible first | exact HB.out | apply below_alloc | apply pw_below_drewN | apply below_drew1 | refine below_set ?_ GE149.out) | exact HB.out)) hb); clear BK149; clear HB; have BK149 := n0_; have HB := n1_; clear n0_ n1_; (try clear hb); (try clear hb2); (try clear hk); (try clear hi); have hcz11_0 : w10.cell? ⟨gb149, 0, none⟩ = some (.int .i64 a0_0) := (blk_cell BK149.out 0).trans rfl; have hcz11_1 : w10.cell? ⟨gb149, 1, none⟩ = some (.int .i64 a0_1) := (blk_cell BK149.out 1).trans rfl; have hcz11_2 : w10.cell? ⟨gb149, 2, none⟩ = some (.slice A0_2 l0_2.length c0_2) := (blk_cell BK149.out 2).trans rfl; have hfz11_0 := blk_frozen BK149.out 0; have hfz11_1 := blk_frozen BK149.out 1; have hfz11_2 := blk_frozen BK149.out 2) | ((with_reducible refine gate_dst (N := 23) rfl ?_); refine Kd.R_lit (Kd.int .u64) _ 101 ?hg (N := 23) ?hd (xs := ([1196184151, IntKind.u64.wrap (a0_0), IntKind.u64.wrap ((l0_2.length : Int)), IntKind.u64.wrap (a0_1)] : List Int)) (inner := [.int .u64 1196184151, .int .u64 (IntKind.u64.wrap (a0_0)), .int .u64 (IntKind.u64.wrap ((l0_2.length : Int))), .int .u64 (IntKind.u64.wrap (a0_1))]) (ok := fun _ => True) (okp := fun _ => True) ?hr ?hp (fun _ hk => hk) trivial (Below.refl _ _) (Nat.le_refl _) (by simp) ?_; (case hd => rfl); (case hg => rfl); (case hr => first | (go_simp; done) | (go_simp; rfl)); (case hp => exact (Reps.one (show Kd.M (Kd.int .u64) _ _ _ 1196184151 [.int .u64 1196184151] from rfl) (Reps.one (show Kd.M (Kd.int .u64) _ _ _ (IntKind.u64.wrap (a0_0)) [.int .u64 (IntKind.u64.wrap (a0_0))] from rfl) (Reps.one (show Kd.M (Kd.int .u64) _ _ _ (IntKind.u64.wrap ((l0_2.length : Int))) [.int .u64 (IntKind.u64.wrap ((l0_2.length : Int)))] from rfl) (Reps.one (show Kd.M (Kd.int .u64) _ _ _ (IntKind.u64.wrap (a0_1)) [.int .u64 (IntKind.u64.wrap (a0_1))] from rfl) (Reps.none _ _)))))); intro v152 w12 ho13 hb hg_ hnew_; clear hg_ hnew_; (first | rw [← Ny151.out] at ho13 | (simp only [Int.reduceToNat] at ho13; rw [← Ny151.out] at ho13)); have n0_ := Aside0.mk (Kd.R_lower ho13 (below_size (by repeat (first | (with_reducible first | exact HB.out | apply below_alloc | apply pw_below_drewN | apply below_drew1 | refine below_set ?_ GE149.out) | exact HB.out)))); have n1_ := Aside0.mk (blk_below (g := gb149) (o := .cells #[.int .i64 a0_0, .int .i64 a0_1, .slice A0_2 l0_2.length c0_2] 36 (0, 0)) (by (with_reducible repeat (first | refine blk_drewN ?_ _ | refine blk_drew ?_ | refine blk_alloc ?_ _)); exact BK149.out) hb); have n2_ := Aside0.mk (below_step (by repeat (first | (with_reducible first | exact HB.out | apply below_alloc | apply pw_below_drewN | apply below_drew1 | refine below_set ?_ GE149.out) | exact HB.out)) hb); clear BK149; clear HB; have HO153 := n0_; have BK149 := n1_; have HB := n2_; clear n0_ n1_ n2_; clear hb ho13; obtain ⟨Ao14, co14, eo14⟩ := Kd.R_slice HO153.out; subst eo14) | ((with_reducible refine gate_callee (f := 55) rfl ?_); refine goesL_ (some 24) rfl rfl Try.func55 (by kernel_rfl) rfl #[.string (⟨#[119, 104, 104, 113]⟩ : ByteArray), .slice Ao14 y151.length co14] rfl (by (try simp only [List.map_toArray, List.map_cons, List.map_nil]); first | done | rfl | (simp only [List.length_drop, List.length_take]; rfl)) ?_; (with_reducible refine (le_Pack.calls (⟨#[119, 104, 104, 113]⟩ : ByteArray) _ _ y151 t154 t155 _ ?side1 ?side2 A4.out).mono ?_); (case side1 => repeat (first | exact (Kd.R_reads' HO153.out).2.2 | (with_reducible refine Kd.C_alloc ?_ _) | (with_reducible refine Kd.C_drewN ?_ _) | (with_reducible refine Kd.C_drew ?_))); (case side2 => exact (Kd.R_reads' HO153.out).2.1); rintro e w15 ⟨v156, rfl, ho0, hb⟩; refine ⟨_, rfl, ?_⟩; have n0_ := Aside0.mk (Kd.R_below (by (with_reducible repeat (first | apply Kd.R_alloc | apply Kd.R_drewN | apply Kd.R_drew)); exact HO153.out) hb); have n1_ := Aside0.mk (Kd.R_lower ho0 (below_size (by repeat (first | (with_reducible first | exact HB.out | apply below_alloc | apply pw_below_drewN | apply below_drew1 | refine below_set ?_ GE149.out) | exact HB.out)))); have n2_ := Aside0.mk (blk_below (g := gb149) (o := .cells #[.int .i64 a0_0, .int .i64 a0_1, .slice A0_2 l0_2.length c0_2] 36 (0, 0)) (by (with_reducible repeat (first | refine blk_drewN ?_ _ | refine blk_drew ?_ | refine blk_alloc ?_ _)); exact BK149.out) hb); have n3_ := Aside0.mk (below_step (by repeat (first | (with_reducible first | exact HB.out | apply below_alloc | apply pw_below_drewN | apply below_drew1 | refine below_set ?_ GE149.out) | exact HB.out)) hb); clear HO153; clear BK149; clear HB; have HO153 := n0_; have HO157 := n1_; have BK149 := n2_; have HB := n3_; clear n0_ n1_ n2_ n3_; (try clear hb); (try clear hb2); (try clear hk); (try clear hi); (try clear ho0); have hcz16_0 : w15.cell? ⟨gb149, 0, none⟩ = some (.int .i64 a0_0) := (blk_cell BK149.out 0).trans rfl; have hcz16_1 : w15.cell? ⟨gb149, 1, none⟩ = some (.int .i64 a0_1) := (blk_cell BK149.out 1).trans rfl; have hcz16_2 : w15.cell? ⟨gb149, 2, none⟩ = some (.slice A0_2 l0_2.length c0_2) := (blk_cell BK149.out 2).trans rfl; have hfz16_0 := blk_frozen BK149.out 0; have hfz16_1 := blk_frozen BK149.out 1; have hfz16_2 := blk_frozen BK149.out 2) | ((with_reducible refine gate_builtin (b := .append) (xs := #[.tmp 29, .tmp 31]) rfl ?_); at_builtin; refine Kd.R_append_rows (Kd.int .u8) (w0 := w) w.heap.size rfl (.tmp 29) (.tmp 31) 34 5 (.int .u8 0) 1 rfl Try.underlying34 info5 rfl (by decide) (by omega) v156 t154 l0_2 _ _ _ (fun _ => True) (fun _ => False) rfl rfl ?aO ?aR (fun _ _ h => h) (fun _ h => h.elim) ?aF ?aB ?aS ?aL ?_; (case aR => repeat (first | exact (Kd.C_below HR0_2.out HB.out) | (with_reducible refine Kd.C_alloc ?_ _) | (with_reducible refine Kd.C_drewN ?_ _) | (with_reducible refine Kd.C_drew ?_))); (case aB => exact (by repeat (first | (with_reducible first | exact HB.out | apply below_alloc | apply pw_below_drewN | apply below_drew1 | refine below_set ?_ GE149.out) | exact HB.out))); (case aF => exact (fun _ _ => trivial)); (case aO => exact (by (with_reducible repeat (first | apply Kd.R_alloc | apply Kd.R_drewN | apply Kd.R_drew)); exact HO157.out)); (case aS => exact (below_size (by repeat (first | (with_reducible first | exact HB.out | apply below_alloc | apply pw_below_drewN | apply below_drew1 | refine below_set ?_ GE149.out) | exact HB.out)))); (case aL => have := LMc6.out; omega); intro v159 w17 ho hb hg hat; rw [← Ny158.out] at ho; have n0_ := Aside0.mk (blk_grown (g := gb149) (o := .cells #[.int .i64 a0_0, .int .i64 a0_1, .slice A0_2 l0_2.length c0_2] 36 (0, 0)) (by (with_reducible repeat (first | refine blk_drewN ?_ _ | refine blk_drew ?_ | refine blk_alloc ?_ _)); exact BK149.out) hg (Kd.R_ne HO157.out BK149.out (by decide))); have n1_ := Aside0.mk (Kd.R_over' (by (with_reducible repeat (first | apply Kd.R_alloc | apply Kd.R_drewN | apply Kd.R_drew)); exact HO153.out) (Kd.R_typed (by (with_reducible repeat (first | apply Kd.R_alloc | apply Kd.R_drewN | apply Kd.R_drew)); exact HO157.out)) (by decide) hg); have n2_ := Aside0.mk (hb); have n3_ := Aside0.mk (ho); clear BK149; clear HO153; clear HB; clear HO157; have BK149 := n0_; have HO153 := n1_; have HB := n2_; have HO160 := n3_; clear n0_ n1_ n2_ n3_; clear ho hb hg hat; obtain ⟨Ao18, co18, eo18⟩ := Kd.R_slice HO160.out; subst eo18) | ((with_reducible refine gate_callee (f := 56) rfl ?_); refine goesL_ (some 33) rfl rfl Try.func56 (by kernel_rfl) rfl #[.slice Ao18 y158.length co18] rfl (by (try simp only [List.map_toArray, List.map_cons, List.map_nil]); first | done | rfl | (simp only [List.length_drop, List.length_take]; rfl)) ?_; (with_reducible refine (crc_Seal.calls k _ _ y158 t161 _ ?side1 ?side2 A7.out).mono ?_); (case side1 => repeat (first | exact (Kd.R_reads' HO160.out).2.2 | (with_reducible refine Kd.C_alloc ?_ _) | (with_reducible refine Kd.C_drewN ?_ _) | (with_reducible refine Kd.C_drew ?_))); (case side2 => exact (Kd.R_reads' HO160.out).2.1); rintro e w19 ⟨v162, rfl, ho0, hb⟩; refine ⟨_, rfl, ?_⟩; have n0_ := Aside0.mk (Kd.R_below (by (with_reducible repeat (first | apply Kd.R_alloc | apply Kd.R_drewN | apply Kd.R_drew)); exact HO153.out) hb); have n1_ := Aside0.mk (Kd.R_elder' (by (with_reducible repeat (first | apply Kd.R_alloc | apply Kd.R_drewN | apply Kd.R_drew)); exact HO160.out) (Kd.R_base ho0) hb); have n2_ := Aside0.mk (Kd.R_lower (Kd.R_new' ho0 (Kd.R_lt (by (with_reducible repeat (first | apply Kd.R_alloc | apply Kd.R_drewN | apply Kd.R_drew)); exact HO160.out))) (below_size (by repeat (first | (with_reducible first | exact HB.out | apply below_alloc | apply pw_below_drewN | apply below_drew1 | refine below_set ?_ GE149.out) | exact HB.out)))); have n3_ := Aside0.mk (blk_below (g := gb149) (o := .cells #[.int .i64 a0_0, .int .i64 a0_1, .slice A0_2 l0_2.length c0_2] 36 (0, 0)) (by (with_reducible repeat (first | refine blk_drewN ?_ _ | refine blk_drew ?_ | refine blk_alloc ?_ _)); exact BK149.out) hb); have n4_ := Aside0.mk (below_step (by repeat (first | (with_reducible first | exact HB.out | apply below_alloc | apply pw_below_drewN | apply below_drew1 | refine below_set ?_ GE149.out) | exact HB.out)) hb); clear HO153; clear HO160; clear BK149; clear HB; have HO153 := n0_; have HO160 := n1_; have HO163 := n2_; have BK149 := n3_; have HB := n4_; clear n0_ n1_ n2_ n3_ n4_; (try clear hb); (try clear hb2); (try clear hk); (try clear hi); (try clear ho0)))
    go_ret2
    exact ⟨_, by first | rfl | (simp [errW_none, errW_some] <;> rfl) | (simp [*, errW_none, errW_some] <;> rfl), by (with_reducible repeat (first | apply Kd.R_alloc | apply Kd.R_drewN | apply Kd.R_drew)); exact Kd.R_mono HO163.out (fun _ hk => trivial), by repeat (first | (with_reducible first | exact HB.out | apply below_alloc | apply pw_below_drewN | apply below_drew1 | refine below_set ?_ GE149.out) | exact HB.out)⟩
   ·rw [if_neg c6] at H
    exact absurd H (by simp)
  ·rw [if_neg c5] at H
   have c5b0 : (t155 == 0) = false := beq_eq_false_iff_ne.mpr c5
   have c5b1 : (t155 != 0) = true := bne_iff_ne.mpr c5
   simp only [Option.some.injEq, Prod.mk.injEq] at H
   obtain ⟨rfl, rfl⟩ := H
   go_enter Try.func27, Try.ntmps27
   go_wp2_with (first | ((with_reducible refine gate_dst (N := 1) rfl ?_); refine box_event ?hg (N := 1) ?hd (cs := #[.int .i64 a0_0, .int .i64 a0_1, .slice A0_2 l0_2.length c0_2]) (t := 36) ?hr ?_; (case hd => rfl); (case hg => rfl); (case hr => first | (go_simp; done) | (go_simp; rfl)); intro gb149 hg w20 hbox hb; have n0_ := Aside0.mk (below_step (by repeat (first | (with_reducible first | exact HB.out | apply below_alloc | apply pw_below_drewN | apply below_drew1) | exact HB.out)) hb); have n1_ := Aside0.mk (hbox); have n2_ := Aside0.mk ((by rw [hg]; exact (below_size (by repeat (first | (with_reducible first | exact HB.out | apply below_alloc | apply pw_below_drewN | apply below_drew1) | exact HB.out))) : w.heap.size ≤ gb149)); have n3_ := Aside0.mk ((by rw [hg]; exact (below_size (by repeat (first | (with_reducible first | exact HB.out | apply below_alloc | apply pw_below_drewN | apply below_drew1) | exact HB.out))) : w.heap.size ≤ gb149)); clear HB; have HB := n0_; have BK149 := n1_; have GW149 := n2_; have GE149 := n3_; clear n0_ n1_ n2_ n3_; clear hb hbox hg; have hcz21_0 : w20.cell? ⟨gb149, 0, none⟩ = some (.int .i64 a0_0) := (blk_cell BK149.out 0).trans rfl; have hcz21_1 : w20.cell? ⟨gb149, 1, none⟩ = some (.int .i64 a0_1) := (blk_cell BK149.out 1).trans rfl; have hcz21_2 : w20.cell? ⟨gb149, 2, none⟩ = some (.slice A0_2 l0_2.length c0_2) := (blk_cell BK149.out 2).trans rfl; have hfz21_0 := blk_frozen BK149.out 0; have hfz21_1 := blk_frozen BK149.out 1; have hfz21_2 := blk_frozen BK149.out 2) | ((with_reducible refine gate_callee (f := 26) rfl ?_); refine goesL_ (some 8) rfl rfl Try.func26 (by kernel_rfl) rfl #[.agg #[.int .i64 a0_0, .int .i64 a0_1, .slice A0_2 l0_2.length c0_2]] rfl (by (try simp only [List.map_toArray, List.map_cons, List.map_nil]); first | done | rfl | (simp only [List.length_drop, List.length_take]; rfl)) ?_; (with_reducible refine (record_Check.calls a0_0 a0_1 _ _ l0_2 t150 _ ?side1 ?side2 A2.out).mono ?_); (case side1 => repeat (first | exact (Kd.C_below HR0_2.out HB.out) | (with_reducible refine Kd.C_alloc ?_ _) | (with_reducible refine Kd.C_drewN ?_ _) | (with_reducible refine Kd.C_drew ?_))); (case side2 => exact HC0_2.out); rintro e w22 ⟨rfl, hb⟩; refine ⟨_, rfl, ?_⟩; have n0_ := Aside0.mk (blk_below (g := gb149) (o := .cells #[.int .i64 a0_0, .int .i64 a0_1, .slice A0_2 l0_2.length c0_2] 36 (0, 0)) (by (with_reducible repeat (first | refine blk_drewN ?_ _ | refine blk_drew ?_ | refine blk_alloc ?_ _)); exact BK149.out) hb); have n1_ := Aside0.mk (below_step (by repeat (first | (with_reducible first | exact HB.out | apply below_alloc | apply pw_below_drewN | apply below_drew1 | refine below_set ?_ GE149.out) | exact HB.out)) hb); clear BK149; clear HB; have BK149 := n0_; have HB := n1_; clear n0_ n1_; (try clear hb); (try clear hb2); (try clear hk); (try clear hi); have hcz23_0 : w22.cell? ⟨gb149, 0, none⟩ = some (.int .i64 a0_0) := (blk_cell BK149.out 0).trans rfl; have hcz23_1 : w22.cell? ⟨gb149, 1, none⟩ = some (.int .i64 a0_1) := (blk_cell BK149.out 1).trans rfl; have hcz23_2 : w22.cell? ⟨gb149, 2, none⟩ = some (.slice A0_2 l0_2.length c0_2) := (blk_cell BK149.out 2).trans rfl; have hfz23_0 := blk_frozen BK149.out 0; have hfz23_1 := blk_frozen BK149.out 1; have hfz23_2 := blk_frozen BK149.out 2) | ((with_reducible refine gate_dst (N := 23) rfl ?_); refine Kd.R_lit (Kd.int .u64) _ 101 ?hg (N := 23) ?hd (xs := ([1196184151, IntKind.u64.wrap (a0_0), IntKind.u64.wrap ((l0_2.length : Int)), IntKind.u64.wrap (a0_1)] : List Int)) (inner := [.int .u64 1196184151, .int .u64 (IntKind.u64.wrap (a0_0)), .int .u64 (IntKind.u64.wrap ((l0_2.length : Int))), .int .u64 (IntKind.u64.wrap (a0_1))]) (ok := fun _ => True) (okp := fun _ => True) ?hr ?hp (fun _ hk => hk) trivial (Below.refl _ _) (Nat.le_refl _) (by simp) ?_; (case hd => rfl); (case hg => rfl); (case hr => first | (go_simp; done) | (go_simp; rfl)); (case hp => exact (Reps.one (show Kd.M (Kd.int .u64) _ _ _ 1196184151 [.int .u64 1196184151] from rfl) (Reps.one (show Kd.M (Kd.int .u64) _ _ _ (IntKind.u64.wrap (a0_0)) [.int .u64 (IntKind.u64.wrap (a0_0))] from rfl) (Reps.one (show Kd.M (Kd.int .u64) _ _ _ (IntKind.u64.wrap ((l0_2.length : Int))) [.int .u64 (IntKind.u64.wrap ((l0_2.length : Int)))] from rfl) (Reps.one (show Kd.M (Kd.int .u64) _ _ _ (IntKind.u64.wrap (a0_1)) [.int .u64 (IntKind.u64.wrap (a0_1))] from rfl) (Reps.none _ _)))))); intro v152 w24 ho25 hb hg_ hnew_; clear hg_ hnew_; (first | rw [← Ny151.out] at ho25 | (simp only [Int.reduceToNat] at ho25; rw [← Ny151.out] at ho25)); have n0_ := Aside0.mk (Kd.R_lower ho25 (below_size (by repeat (first | (with_reducible first | exact HB.out | apply below_alloc | apply pw_below_drewN | apply below_drew1 | refine below_set ?_ GE149.out) | exact HB.out)))); have n1_ := Aside0.mk (blk_below (g := gb149) (o := .cells #[.int .i64 a0_0, .int .i64 a0_1, .slice A0_2 l0_2.length c0_2] 36 (0, 0)) (by (with_reducible repeat (first | refine blk_drewN ?_ _ | refine blk_drew ?_ | refine blk_alloc ?_ _)); exact BK149.out) hb); have n2_ := Aside0.mk (below_step (by repeat (first | (with_reducible first | exact HB.out | apply below_alloc | apply pw_below_drewN | apply below_drew1 | refine below_set ?_ GE149.out) | exact HB.out)) hb); clear BK149; clear HB; have HO153 := n0_; have BK149 := n1_; have HB := n2_; clear n0_ n1_ n2_; clear hb ho25; obtain ⟨Ao26, co26, eo26⟩ := Kd.R_slice HO153.out; subst eo26) | ((with_reducible refine gate_callee (f := 55) rfl ?_); refine goesL_ (some 24) rfl rfl Try.func55 (by kernel_rfl) rfl #[.string (⟨#[119, 104, 104, 113]⟩ : ByteArray), .slice Ao26 y151.length co26] rfl (by (try simp only [List.map_toArray, List.map_cons, List.map_nil]); first | done | rfl | (simp only [List.length_drop, List.length_take]; rfl)) ?_; (with_reducible refine (le_Pack.calls (⟨#[119, 104, 104, 113]⟩ : ByteArray) _ _ y151 t154 t155 _ ?side1 ?side2 A4.out).mono ?_); (case side1 => repeat (first | exact (Kd.R_reads' HO153.out).2.2 | (with_reducible refine Kd.C_alloc ?_ _) | (with_reducible refine Kd.C_drewN ?_ _) | (with_reducible refine Kd.C_drew ?_))); (case side2 => exact (Kd.R_reads' HO153.out).2.1); rintro e w27 ⟨v156, rfl, ho0, hb⟩; refine ⟨_, rfl, ?_⟩; have n0_ := Aside0.mk (Kd.R_below (by (with_reducible repeat (first | apply Kd.R_alloc | apply Kd.R_drewN | apply Kd.R_drew)); exact HO153.out) hb); have n1_ := Aside0.mk (Kd.R_lower ho0 (below_size (by repeat (first | (with_reducible first | exact HB.out | apply below_alloc | apply pw_below_drewN | apply below_drew1 | refine below_set ?_ GE149.out) | exact HB.out)))); have n2_ := Aside0.mk (blk_below (g := gb149) (o := .cells #[.int .i64 a0_0, .int .i64 a0_1, .slice A0_2 l0_2.length c0_2] 36 (0, 0)) (by (with_reducible repeat (first | refine blk_drewN ?_ _ | refine blk_drew ?_ | refine blk_alloc ?_ _)); exact BK149.out) hb); have n3_ := Aside0.mk (below_step (by repeat (first | (with_reducible first | exact HB.out | apply below_alloc | apply pw_below_drewN | apply below_drew1 | refine below_set ?_ GE149.out) | exact HB.out)) hb); clear HO153; clear BK149; clear HB; have HO153 := n0_; have HO157 := n1_; have BK149 := n2_; have HB := n3_; clear n0_ n1_ n2_ n3_; (try clear hb); (try clear hb2); (try clear hk); (try clear hi); (try clear ho0)))
   go_ret2
   exact ⟨_, by first | rfl | (simp [errW_none, errW_some] <;> rfl) | (simp [*, errW_none, errW_some] <;> rfl), by first | exact Kd.R_nil _ _ _ _ _ | exact Kd.N_nil _ _ _ _ _ | exact Kd.V_nil _ _ _ _ _ | exact Kd.Q_nil _ _ _ _ _ | exact Kd.S_nil _ _ _ _ _, by repeat (first | (with_reducible first | exact HB.out | apply below_alloc | apply pw_below_drewN | apply below_drew1 | refine below_set ?_ GE149.out) | exact HB.out)⟩
 ·rw [if_neg c3] at H
  have c3b0 : (t150 == 0) = false := beq_eq_false_iff_ne.mpr c3
  have c3b1 : (t150 != 0) = true := bne_iff_ne.mpr c3
  simp only [Option.some.injEq, Prod.mk.injEq] at H
  obtain ⟨rfl, rfl⟩ := H
  go_enter Try.func27, Try.ntmps27
  go_wp2_with (first | ((with_reducible refine gate_dst (N := 1) rfl ?_); refine box_event ?hg (N := 1) ?hd (cs := #[.int .i64 a0_0, .int .i64 a0_1, .slice A0_2 l0_2.length c0_2]) (t := 36) ?hr ?_; (case hd => rfl); (case hg => rfl); (case hr => first | (go_simp; done) | (go_simp; rfl)); intro gb149 hg w28 hbox hb; have n0_ := Aside0.mk (below_step (by repeat (first | (with_reducible first | exact HB.out | apply below_alloc | apply pw_below_drewN | apply below_drew1) | exact HB.out)) hb); have n1_ := Aside0.mk (hbox); have n2_ := Aside0.mk ((by rw [hg]; exact (below_size (by repeat (first | (with_reducible first | exact HB.out | apply below_alloc | apply pw_below_drewN | apply below_drew1) | exact HB.out))) : w.heap.size ≤ gb149)); have n3_ := Aside0.mk ((by rw [hg]; exact (below_size (by repeat (first | (with_reducible first | exact HB.out | apply below_alloc | apply pw_below_drewN | apply below_drew1) | exact HB.out))) : w.heap.size ≤ gb149)); clear HB; have HB := n0_; have BK149 := n1_; have GW149 := n2_; have GE149 := n3_; clear n0_ n1_ n2_ n3_; clear hb hbox hg; have hcz29_0 : w28.cell? ⟨gb149, 0, none⟩ = some (.int .i64 a0_0) := (blk_cell BK149.out 0).trans rfl; have hcz29_1 : w28.cell? ⟨gb149, 1, none⟩ = some (.int .i64 a0_1) := (blk_cell BK149.out 1).trans rfl; have hcz29_2 : w28.cell? ⟨gb149, 2, none⟩ = some (.slice A0_2 l0_2.length c0_2) := (blk_cell BK149.out 2).trans rfl; have hfz29_0 := blk_frozen BK149.out 0; have hfz29_1 := blk_frozen BK149.out 1; have hfz29_2 := blk_frozen BK149.out 2) | ((with_reducible refine gate_callee (f := 26) rfl ?_); refine goesL_ (some 8) rfl rfl Try.func26 (by kernel_rfl) rfl #[.agg #[.int .i64 a0_0, .int .i64 a0_1, .slice A0_2 l0_2.length c0_2]] rfl (by (try simp only [List.map_toArray, List.map_cons, List.map_nil]); first | done | rfl | (simp only [List.length_drop, List.length_take]; rfl)) ?_; (with_reducible refine (record_Check.calls a0_0 a0_1 _ _ l0_2 t150 _ ?side1 ?side2 A2.out).mono ?_); (case side1 => repeat (first | exact (Kd.C_below HR0_2.out HB.out) | (with_reducible refine Kd.C_alloc ?_ _) | (with_reducible refine Kd.C_drewN ?_ _) | (with_reducible refine Kd.C_drew ?_))); (case side2 => exact HC0_2.out); rintro e w30 ⟨rfl, hb⟩; refine ⟨_, rfl, ?_⟩; have n0_ := Aside0.mk (blk_below (g := gb149) (o := .cells #[.int .i64 a0_0, .int .i64 a0_1, .slice A0_2 l0_2.length c0_2] 36 (0, 0)) (by (with_reducible repeat (first | refine blk_drewN ?_ _ | refine blk_drew ?_ | refine blk_alloc ?_ _)); exact BK149.out) hb); have n1_ := Aside0.mk (below_step (by repeat (first | (with_reducible first | exact HB.out | apply below_alloc | apply pw_below_drewN | apply below_drew1 | refine below_set ?_ GE149.out) | exact HB.out)) hb); clear BK149; clear HB; have BK149 := n0_; have HB := n1_; clear n0_ n1_; (try clear hb); (try clear hb2); (try clear hk); (try clear hi)))
  go_ret2
  exact ⟨_, by first | rfl | (simp [errW_none, errW_some] <;> rfl) | (simp [*, errW_none, errW_some] <;> rfl), by first | exact Kd.R_nil _ _ _ _ _ | exact Kd.N_nil _ _ _ _ _ | exact Kd.V_nil _ _ _ _ _ | exact Kd.Q_nil _ _ _ _ _ | exact Kd.S_nil _ _ _ _ _, by repeat (first | (with_reducible first | exact HB.out | apply below_alloc | apply pw_below_drewN | apply below_drew1 | refine below_set ?_ GE149.out) | exact HB.out)⟩
end Go.Proofs.Ytdgefplbfffenaa.X
namespace Go.Proofs.Ytdgefplbfffenaa.X
open Go.Shelf Go.RowKit Go.Proofs.YtdgefplbfffenaaW.PrintWords Go.Proofs.YtdgefplbfffenaaW.PrintLast Go.Proofs.YtdgefplbfffenaaW.PrintMore
/-- What a change of a zone in a block does: the block holds the new zone; other zones' blocks stay. -/
def DonePost (w W : World) (B : Nat) (z' : S52) (e : Ending) (w' : World) : Prop :=
  e = .returned (.tuple #[]) ∧ ∃ v', w'.heap[B]? = some (.cells #[.int .i64 z'.f0, .int .i64 z'.f1, v', .int .i64 z'.f3] 52 (0, 0)) ∧ (Kd.int .u8).R 5 w' w.heap.size (fun _ => True) v' z'.f2 ∧ Below w.heap.size w w' ∧
    (∀ k o, k ≠ B → W.heap[k]? = some (.cells o 52 (0, 0)) → w'.heap[k]? = some (.cells o 52 (0, 0)))
/-- A function value that changes a zone. -/
def DoesZone (g : Nat) (lb : Array Value) (w : World) (z z' : S52) : Prop :=
  ∀ (W : World) (B : Nat) (v : Value), w.heap.size ≤ B → W.heap[B]? = some (.cells #[.int .i64 z.f0, .int .i64 z.f1, v, .int .i64 z.f3] 52 (0, 0)) → (Kd.int .u8).R 5 W w.heap.size (fun _ => True) v z.f2 → Below w.heap.size w W →
    Calls Try.prog g (#[.pointer (some ⟨B, 0, none⟩)] ++ lb) W (DonePost w W B z')
def ZonePost (w : World) (z' : S52) (er : Int) (e : Ending) (w' : World) : Prop :=
  ∃ v, e = .returned (.tuple #[.agg #[.int .i64 z'.f0, .int .i64 z'.f1, v, .int .i64 z'.f3], .int .i64 er]) ∧ (Kd.int .u8).R 5 w' w.heap.size (fun _ => True) v z'.f2 ∧ Below w.heap.size w w'
theorem put4 {W : World} {B t : Nat} {x0 x1 x2 x3 : Value} (h : W.heap[B]? = some (.cells #[x0, x1, x2, x3] t (0, 0))) (y0 y1 y2 y3 : Value) :
    ((((W.setCell ⟨B, 0, none⟩ y0).setCell ⟨B, 1, none⟩ y1).setCell ⟨B, 2, none⟩ y2).setCell ⟨B, 3, none⟩ y3).heap[B]? = some (.cells #[y0, y1, y2, y3] t (0, 0)) :=
  blk_put (blk_put (blk_put (blk_put h 0 _ rfl) 1 _ rfl) 2 _ rfl) 3 _ rfl
theorem set1_R {W : World} {B j t base : Nat} {cs : Array Value} {ok : Nat → Prop} {v : Value} {xs : List Int} (hR : (Kd.int .u8).R 5 W base ok v xs) (h : W.heap[B]? = some (.cells cs t (0, 0))) (ht : t ≠ 5) (u : Value) : (Kd.int .u8).R 5 (W.setCell ⟨B, j, none⟩ u) base ok v xs :=
  Kd.R_set hR h (fun q hq => by simp [Kd.int, Kd.scalar] at hq; omega) j u
theorem set4_R {W : World} {B t base : Nat} {x0 x1 x2 x3 : Value} {ok : Nat → Prop} {v : Value} {xs : List Int} (hR : (Kd.int .u8).R 5 W base ok v xs) (h : W.heap[B]? = some (.cells #[x0, x1, x2, x3] t (0, 0))) (ht : t ≠ 5) (y0 y1 y2 y3 : Value) :
    (Kd.int .u8).R 5 ((((W.setCell ⟨B, 0, none⟩ y0).setCell ⟨B, 1, none⟩ y1).setCell ⟨B, 2, none⟩ y2).setCell ⟨B, 3, none⟩ y3) base ok v xs :=
  set1_R (set1_R (set1_R (set1_R hR h ht y0) (blk_set h 0 y0) ht y1) (blk_set (blk_set h 0 y0) 1 y1) ht y2) (blk_set (blk_set (blk_set h 0 y0) 1 y1) 2 y2) ht y3
theorem set4_below {w W : World} {B : Nat} (h : Below w.heap.size w W) (hB : w.heap.size ≤ B) (y0 y1 y2 y3 : Value) :
    Below w.heap.size w ((((W.setCell ⟨B, 0, none⟩ y0).setCell ⟨B, 1, none⟩ y1).setCell ⟨B, 2, none⟩ y2).setCell ⟨B, 3, none⟩ y3) :=
  below_set (below_set (below_set (below_set h hB) hB) hB) hB
theorem blk_new2 (w : World) (o o' : Obj) : ((w.alloc o).alloc o').heap[w.heap.size + 1]? = some o' := by
  have h := blk_new (w.alloc o) o'
  have e : (w.alloc o).heap.size = w.heap.size + 1 := by simp
  rwa [e] at h
theorem grown_below {w w1 : World} (h : w.grownBy w1 none) : Below w.heap.size w w1 := (Below.refl _ _).grown h (Nat.le_refl _) (fun k e => by cases e)
set_option maxHeartbeats 4000000 in
set_option maxRecDepth 100000 in
theorem zoneDone_yes (g : Nat) (lb : Array Value) (z z' : S52) (A2 : Option Addr) (c2 : Nat) (w : World) (hC : (Kd.int .u8).C w A2 z.f2.length z.f2) (hlim : z.f2.length < 140737488355328)
    (eg : ∀ args w, (callFunc g args).run Try.prog w = .ok (.enter g args) w) (hdo : DoesZone g lb w z z') :
    Calls Try.prog 80 #[.agg #[.int .i64 z.f0, .int .i64 z.f1, .slice A2 z.f2.length c2, .int .i64 z.f3], .bool true, .func (.func g) #[] lb] w (ZonePost w z' 0) := by
  have hu52 := Try.underlying52
  have hB0 := (below_alloc (Below.refl w.heap.size w) (.cells #[.int .i64 z.f0, .int .i64 z.f1, .slice A2 z.f2.length c2, .int .i64 z.f3] 52)).alloc (by simp) (.cells #[.int .i64 0, .int .i64 0, .slice none 0 0, .int .i64 0] 52)
  have HC := Aside0.mk (Kd.C_below hC hB0)
  have HB0 := Aside0.mk hB0
  have HL := Aside0.mk hlim
  have HD := Aside0.mk hdo
  clear hB0 hC hlim hdo
  go_enter Try.func80, Try.ntmps80
  go_wp2_with (first
    | ((with_reducible refine gate_dst (N := 8) rfl ?_); refine Kd.R_lit (Kd.int .u8) (w0 := w) w.heap.size 5 ?hg (N := 8) ?hd (xs := ([] : List Int)) (inner := []) (ok := fun _ => True) (okp := fun _ => True) ?hr ?hp (fun _ hk => hk) trivial HB0.out HB0.out.size (by simp) ?_; (case hd => rfl); (case hg => rfl); (case hr => first | (go_simp; done) | (go_simp; rfl)); (case hp => exact (Reps.none _ _)); intro v1 w1 hR1 hB1 hg1 _; have bA := Aside0.mk (blk_grown (blk_alloc (blk_new w _) (.cells #[.int .i64 0, .int .i64 0, .slice none 0 0, .int .i64 0] 52)) hg1 (by simp)); have bB := Aside0.mk (blk_grown (blk_new2 w (.cells #[.int .i64 z.f0, .int .i64 z.f1, .slice A2 z.f2.length c2, .int .i64 z.f3] 52) (.cells #[.int .i64 0, .int .i64 0, .slice none 0 0, .int .i64 0] 52)) hg1 (by simp)); have k2 : w1.cell? ⟨w.heap.size, 2, none⟩ = some (.slice A2 z.f2.length c2) := (blk_cell bA.out 2).trans rfl; have HR1 := Aside0.mk hR1; have HB1 := Aside0.mk hB1; have HC1 := Aside0.mk (Kd.C_below HC.out ((grown_below hg1))); clear hR1 hB1 hg1 HC HB0)
    | (at_builtin; refine Kd.R_append_rows (Kd.int .u8) (w0 := w) w.heap.size rfl (.tmp 8) (.tmp 10) 34 5 (.int .u8 0) 1 rfl Try.underlying34 info5 rfl (by decide) (by omega) v1 [] z.f2 _ _ _ (fun _ => True) (fun _ => False) rfl rfl HR1.out HC1.out (fun _ _ h => h) (fun _ h => h.elim) (fun _ _ => trivial) HB1.out HB1.out.size ?_ ?_; (case _ => have := HL.out; simp; omega); intro v2 w2 hR2 hB2 hg2 _; simp only [List.nil_append] at hR2; obtain ⟨A3, c3, rfl⟩ := Kd.R_slice hR2; have bA2 := Aside0.mk (blk_grown bA.out hg2 (Kd.R_ne HR1.out bA.out (by decide))); have bB2 := Aside0.mk (blk_grown bB.out hg2 (Kd.R_ne HR1.out bB.out (by decide))); have HR2 := Aside0.mk hR2; have HB2 := Aside0.mk hB2; have a0 : w2.cell? ⟨w.heap.size, 0, none⟩ = some (.int .i64 z.f0) := (blk_cell bA2.out 0).trans rfl; have a1 : w2.cell? ⟨w.heap.size, 1, none⟩ = some (.int .i64 z.f1) := (blk_cell bA2.out 1).trans rfl; have a2 : w2.cell? ⟨w.heap.size, 2, none⟩ = some (.slice A2 z.f2.length c2) := (blk_cell bA2.out 2).trans rfl; have a3 : w2.cell? ⟨w.heap.size, 3, none⟩ = some (.int .i64 z.f3) := (blk_cell bA2.out 3).trans rfl; have f2 : w2.frozen? ⟨w.heap.size, 2, none⟩ = false := blk_frozen bA2.out 2; have b0 : w2.cell? ⟨w.heap.size + 1, 0, none⟩ = some (.int .i64 0) := (blk_cell bB2.out 0).trans rfl; have b1 : w2.cell? ⟨w.heap.size + 1, 1, none⟩ = some (.int .i64 0) := (blk_cell bB2.out 1).trans rfl; have b2 : w2.cell? ⟨w.heap.size + 1, 2, none⟩ = some (.slice none 0 0) := (blk_cell bB2.out 2).trans rfl; have b3 : w2.cell? ⟨w.heap.size + 1, 3, none⟩ = some (.int .i64 0) := (blk_cell bB2.out 3).trans rfl; have g0 : w2.frozen? ⟨w.heap.size + 1, 0, none⟩ = false := blk_frozen bB2.out 0; have g1 : w2.frozen? ⟨w.heap.size + 1, 1, none⟩ = false := blk_frozen bB2.out 1; have g2 : w2.frozen? ⟨w.heap.size + 1, 2, none⟩ = false := blk_frozen bB2.out 2; have g3 : w2.frozen? ⟨w.heap.size + 1, 3, none⟩ = false := blk_frozen bB2.out 3; clear hR2 hB2 hg2 k2 bA bB HR1 HB1 HC1)
    )
  refine (HD.out _ w.heap.size (.slice A3 z.f2.length c3) (Nat.le_refl _) (blk_put bA2.out 2 _ rfl) (set1_R HR2.out bA2.out (by decide) _) (below_set HB2.out (Nat.le_refl _))).mono ?_
  rintro e w' ⟨rfl, v', hB', hR', hb', hkeep⟩
  have bA3 := Aside0.mk hB'
  have bB3 := Aside0.mk (hkeep (w.heap.size + 1) _ (by omega) (blk_far bB2.out (by simp) _))
  have HR3 := Aside0.mk hR'
  have HB3 := Aside0.mk hb'
  obtain ⟨A4, c4, rfl⟩ := Kd.R_slice hR'
  clear hB' hR' hb' hkeep a0 a1 a2 a3 f2 b0 b1 b2 b3 g0 g1 g2 g3
  have a0 : w'.cell? ⟨w.heap.size, 0, none⟩ = some (.int .i64 z'.f0) := (blk_cell bA3.out 0).trans rfl
  have a1 : w'.cell? ⟨w.heap.size, 1, none⟩ = some (.int .i64 z'.f1) := (blk_cell bA3.out 1).trans rfl
  have a2 : w'.cell? ⟨w.heap.size, 2, none⟩ = some (.slice A4 z'.f2.length c4) := (blk_cell bA3.out 2).trans rfl
  have a3 : w'.cell? ⟨w.heap.size, 3, none⟩ = some (.int .i64 z'.f3) := (blk_cell bA3.out 3).trans rfl
  have b0 : w'.cell? ⟨w.heap.size + 1, 0, none⟩ = some (.int .i64 0) := (blk_cell bB3.out 0).trans rfl
  have b1 : w'.cell? ⟨w.heap.size + 1, 1, none⟩ = some (.int .i64 0) := (blk_cell bB3.out 1).trans rfl
  have b2 : w'.cell? ⟨w.heap.size + 1, 2, none⟩ = some (.slice none 0 0) := (blk_cell bB3.out 2).trans rfl
  have b3 : w'.cell? ⟨w.heap.size + 1, 3, none⟩ = some (.int .i64 0) := (blk_cell bB3.out 3).trans rfl
  have g0 : w'.frozen? ⟨w.heap.size + 1, 0, none⟩ = false := blk_frozen bB3.out 0
  have g1 : w'.frozen? ⟨w.heap.size + 1, 1, none⟩ = false := blk_frozen bB3.out 1
  have g2 : w'.frozen? ⟨w.heap.size + 1, 2, none⟩ = false := blk_frozen bB3.out 2
  have g3 : w'.frozen? ⟨w.heap.size + 1, 3, none⟩ = false := blk_frozen bB3.out 3
  go_wp2
  refine bodyPost_ret (results_ct rfl _ _ (w.heap.size + 1) 52 _ (0, 0) _ rfl (put4 bB3.out _ _ _ _) Try.underlying52 rfl (by kernel_rfl)) rfl ?_
  exact ⟨_, rfl, set4_R HR3.out bB3.out (by decide) _ _ _ _, set4_below HB3.out (by omega) _ _ _ _⟩
end Go.Proofs.Ytdgefplbfffenaa.X
namespace Go.Proofs.Ytdgefplbfffenaa.X
open Go.Shelf Go.RowKit Go.Proofs.YtdgefplbfffenaaW.PrintWords Go.Proofs.YtdgefplbfffenaaW.PrintLast Go.Proofs.YtdgefplbfffenaaW.PrintMore
theorem ne552 : (5 : Nat) ≠ 52 := by decide
def zfill (n : Int) (size some_ : Int) : Int := if n = 0 then 0 else if n = size then 3 else some_
theorem zfilled_calls (z : S52) (a size some_ : Int) (A2 : Option Addr) (c2 : Nat) (w : World) (hC : (Kd.int .u8).C w A2 z.f2.length z.f2) (hl : z.f2.length ≤ c2) :
    Calls Try.prog 82 #[.agg #[.int .i64 a, .int .i64 z.f1, .slice A2 z.f2.length c2, .int .i64 z.f3], .int .i64 size, .int .i64 some_] w fun e w' => e = .returned (.int .i64 (zfill z.f2.length size some_)) ∧ Below w.heap.size w w' := by
  refine zone_filled.calls a z.f1 A2 c2 z.f2 z.f3 size some_ _ w hC hl ?_
  unfold zone_filled.f zfill
  split
  · rfl
  · split <;> rfl
def zappended (z : S52) (b : List Int) (size : Int) : S52 := ⟨zfill ((z.f2.length + b.length : Nat) : Int) size 1, z.f1, z.f2 ++ b, z.f3⟩
set_option maxHeartbeats 8000000 in
set_option maxRecDepth 100000 in
theorem append1_does (C1 C2 : Nat) (size : Int) (Ab : Option Addr) (cb : Nat) (b : List Int) (w : World) (z : S52) (hb : w.cell? ⟨C1, 0, none⟩ = some (.slice Ab b.length cb)) (hs : w.cell? ⟨C2, 0, none⟩ = some (.int .i64 size))
    (hCb : (Kd.int .u8).C w Ab b.length b) (hlim : z.f2.length + b.length < 140737488355328) :
    DoesZone 109 #[.pointer (some ⟨C1, 0, none⟩), .pointer (some ⟨C2, 0, none⟩)] w z (zappended z b size) := by
  intro W B v hB hblk hR hbe
  simp only [List.append_toArray, List.cons_append, List.nil_append]
  obtain ⟨A0, c0, rfl⟩ := Kd.R_slice hR
  have k1 : W.cell? ⟨C1, 0, none⟩ = some (.slice Ab b.length cb) := pw_cell_below hbe hb
  have k2 : W.cell? ⟨C2, 0, none⟩ = some (.int .i64 size) := pw_cell_below hbe hs
  have HCb := Aside0.mk (Kd.C_below hCb hbe)
  have hL1 := World.block_lt_of_cell? w _ hb
  have hL2 := World.block_lt_of_cell? w _ hs
  simp only at hL1 hL2
  have bA := Aside0.mk hblk
  have HS := Aside0.mk hs
  have HR := Aside0.mk hR
  have HB := Aside0.mk hbe
  have a0 : W.cell? ⟨B, 0, none⟩ = some (.int .i64 z.f0) := (blk_cell bA.out 0).trans rfl
  have a1 : W.cell? ⟨B, 1, none⟩ = some (.int .i64 z.f1) := (blk_cell bA.out 1).trans rfl
  have a2 : W.cell? ⟨B, 2, none⟩ = some (.slice A0 z.f2.length c0) := (blk_cell bA.out 2).trans rfl
  have a3 : W.cell? ⟨B, 3, none⟩ = some (.int .i64 z.f3) := (blk_cell bA.out 3).trans rfl
  have hlB := Aside0.mk (show (z.f2.length + b.length) * 1 ≤ 140737488355328 by omega)
  have hu52 := Try.underlying52
  clear hblk hR hbe hb hs hCb hlim
  go_enter Try.func109, Try.ntmps109
  go_wp2_with fail
  go_region_law (refine Kd.R_append_rows_step (Kd.int .u8) (w0 := w) w.heap.size rfl (.tmp 8) (.tmp 9) 34 5 (.int .u8 0) 1 rfl Try.underlying34 info5 rfl Nat.one_pos Nat.one_pos (.slice A0 z.f2.length c0) z.f2 b _ _ _ (fun _ => True) (fun _ => False) rfl rfl HR.out HCb.out (fun _ _ h => h) (fun _ h => h.elim) (fun _ _ => trivial) HB.out.drew HB.out.size hlB.out ?_; intro v2 w2 hR2 hB2 hg2 _; obtain ⟨A3, c3, rfl⟩ := Kd.R_slice hR2; have bA2 := Aside0.mk (blk_grown (blk_drew bA.out) hg2 (Kd.R_ne HR.out bA.out ne552)); have HR2 := Aside0.mk hR2; have HB2 := Aside0.mk hB2; have e2 : w2.cell? ⟨B, 2, none⟩ = some (.slice A0 z.f2.length c0) := (blk_cell bA2.out 2).trans rfl; have f2 : w2.frozen? ⟨B, 2, none⟩ = false := blk_frozen bA2.out 2; have hq := Aside0.mk hg2; clear hR2 hB2 hg2; have hg2 := hq; clear hq)
  all_goals
    have hl3 := (Kd.R_reads' HR2.out).2.1
    have bA3 := Aside0.mk (show (w2.setCell ⟨B, 2, none⟩ (.slice A3 (z.f2.length + b.length) c3)).heap[B]? = some (.cells #[.int .i64 z.f0, .int .i64 z.f1, .slice A3 (z.f2.length + b.length) c3, .int .i64 z.f3] 52 (0, 0)) from blk_put bA2.out 2 _ rfl)
    have HR3 := Aside0.mk (set1_R (j := 2) HR2.out bA2.out (by decide) (.slice A3 (z.f2.length + b.length) c3))
    have HB3 := Aside0.mk (below_set (j := 2) (v := .slice A3 (z.f2.length + b.length) c3) HB2.out hB)
    have hk3 := Aside0.mk (show ∀ k o, k ≠ B → W.heap[k]? = some (.cells o 52 (0, 0)) → (w2.setCell ⟨B, 2, none⟩ (.slice A3 (z.f2.length + b.length) c3)).heap[k]? = some (.cells o 52 (0, 0)) from fun k o hk ho => blk_far (blk_grown (blk_drew ho) hg2.out (Kd.R_ne HR.out ho ne552)) hk _)
    clear e2 f2 bA2 HR2 HB2 hg2 HR HB bA k1 k2 a0 a1 a2 a3 HCb
    have s2 : (w2.setCell ⟨B, 2, none⟩ (.slice A3 (z.f2.length + b.length) c3)).cell? ⟨C2, 0, none⟩ = some (.int .i64 size) := pw_cell_below HB3.out HS.out
    have hHC := zfilled_calls ⟨z.f0, z.f1, z.f2 ++ b, z.f3⟩ z.f0 size 1 A3 c3
    simp only [List.length_append] at hHC hl3 HR3
    have HZC := Aside0.mk hHC
    clear hHC HS
    generalize w2.setCell ⟨B, 2, none⟩ (.slice A3 (z.f2.length + b.length) c3) = W3 at *
    have d0 : W3.cell? ⟨B, 0, none⟩ = some (.int .i64 z.f0) := (blk_cell bA3.out 0).trans rfl
    have d1 : W3.cell? ⟨B, 1, none⟩ = some (.int .i64 z.f1) := (blk_cell bA3.out 1).trans rfl
    have d2 : W3.cell? ⟨B, 2, none⟩ = some (.slice A3 (z.f2.length + b.length) c3) := (blk_cell bA3.out 2).trans rfl
    have d3 : W3.cell? ⟨B, 3, none⟩ = some (.int .i64 z.f3) := (blk_cell bA3.out 3).trans rfl
    have hC3 := (Kd.R_reads' HR3.out).2.2
    rw [List.length_append] at hC3
    have HC3 := Aside0.mk hC3
    have HL3 := Aside0.mk hl3
    clear hC3 hl3
    go_wp2_with fail
    go_region_with (first | (go_at_call 82; refine (HZC.out W3.drew HC3.out HL3.out).mono ?_; rintro e w4 ⟨rfl, hb4⟩; have q0 : w4.cell? ⟨B, 0, none⟩ = some (.int .i64 z.f0) := pw_cell_below hb4 d0; have q1 : w4.frozen? ⟨B, 0, none⟩ = false := blk_frozen (blk_below (blk_drew bA3.out) hb4) 0; have hb5 := Aside0.mk hb4; clear hb4))
    all_goals
      go_wp2
      go_end0
      have bA4 := blk_below (blk_drew bA3.out) hb5.out
      exact ⟨rfl, _, blk_put bA4 0 _ rfl, set1_R (Kd.R_below (w := W3.drew) HR3.out hb5.out) bA4 (by decide) _, below_set (HB3.out.drew.trans (hb5.out.mono HB3.out.size)) hB, fun k o hk ho => blk_far (blk_below (blk_drew (hk3.out k o hk ho)) hb5.out) hk _⟩
end Go.Proofs.Ytdgefplbfffenaa.X
namespace Go.Proofs.Ytdgefplbfffenaa.X
open Go.Shelf Go.RowKit Go.Proofs.YtdgefplbfffenaaW.PrintWords Go.Proofs.YtdgefplbfffenaaW.PrintLast Go.Proofs.YtdgefplbfffenaaW.PrintMore
theorem cell_far1 {w : World} {p q : Addr} {u x : Value} (h : w.cell? p = some u) (hne : p.block ≠ q.block) : (w.setCell q x).cell? p = some u := by
  rw [World.cell?_of_block (w := w) (Below.heap_setCell w q x p.block hne)]; exact h
theorem cell_far4 {w : World} {p : Addr} {B : Nat} {u y0 y1 y2 y3 : Value} (h : w.cell? p = some u) (hne : p.block ≠ B) : ((((w.setCell ⟨B, 0, none⟩ y0).setCell ⟨B, 1, none⟩ y1).setCell ⟨B, 2, none⟩ y2).setCell ⟨B, 3, none⟩ y3).cell? p = some u :=
  cell_far1 (cell_far1 (cell_far1 (cell_far1 h hne) hne) hne) hne
theorem ne_s3 (n k : Nat) (h : k < 3) : n + k ≠ n + 1 + 1 + 1 := by omega
theorem blk_new3 (w : World) (o1 o2 o : Obj) : (((w.alloc o1).alloc o2).alloc o).heap[w.heap.size + 2]? = some o := by
  have h := blk_new2 (w.alloc o1) o2 o
  have e : (w.alloc o1).heap.size = w.heap.size + 1 := by simp
  rwa [e] at h
theorem blk_new4 (w : World) (o1 o2 o3 o : Obj) : ((((w.alloc o1).alloc o2).alloc o3).alloc o).heap[w.heap.size + 3]? = some o := by
  have h := blk_new3 (w.alloc o1) o2 o3 o
  have e : (w.alloc o1).heap.size = w.heap.size + 1 := by simp
  rwa [e] at h
theorem eg109 : ∀ args w, (callFunc 109 args).run Try.prog w = .ok (.enter 109 args) w := enters_of Try.func109 (by kernel_rfl) rfl
set_option maxHeartbeats 8000000 in
set_option maxRecDepth 100000 in
theorem zoneAppend_calls (z : S52) (size : Int) (A2 : Option Addr) (c2 : Nat) (Ab : Option Addr) (cb : Nat) (b : List Int) (w : World) (hC : (Kd.int .u8).C w A2 z.f2.length z.f2) (hl : z.f2.length ≤ c2) (hCb : (Kd.int .u8).C w Ab b.length b)
    (hok : zok z size = true) (hpos : 0 < b.length) (hroom : (b.length : Int) ≤ zroom z size) (hlim : z.f2.length + b.length < 140737488355328) :
    Calls Try.prog 97 #[.agg #[.int .i64 z.f0, .int .i64 z.f1, .slice A2 z.f2.length c2, .int .i64 z.f3], .int .i64 size, .slice Ab b.length cb] w (ZonePost w (zappended z b size) 0) := by
  have hu52 := Try.underlying52
  have hb4 := (((below_alloc (Below.refl w.heap.size w) (.cells #[.int .i64 z.f0, .int .i64 z.f1, .slice A2 z.f2.length c2, .int .i64 z.f3] 52)).alloc (by simp) (.cells #[.int .i64 size] 3)).alloc (by simp; omega) (.cells #[.slice Ab b.length cb] 34)).alloc (by simp; omega) (.cells #[.int .i64 0, .int .i64 0, .slice none 0 0, .int .i64 0] 52)
  have bA := blk_alloc (blk_alloc (blk_alloc (blk_new w (.cells #[.int .i64 z.f0, .int .i64 z.f1, .slice A2 z.f2.length c2, .int .i64 z.f3] 52)) (.cells #[.int .i64 size] 3)) (.cells #[.slice Ab b.length cb] 34)) (.cells #[.int .i64 0, .int .i64 0, .slice none 0 0, .int .i64 0] 52)
  have bS := blk_alloc (blk_alloc (blk_new2 w (.cells #[.int .i64 z.f0, .int .i64 z.f1, .slice A2 z.f2.length c2, .int .i64 z.f3] 52) (.cells #[.int .i64 size] 3)) (.cells #[.slice Ab b.length cb] 34)) (.cells #[.int .i64 0, .int .i64 0, .slice none 0 0, .int .i64 0] 52)
  have bB := blk_alloc (blk_new3 w (.cells #[.int .i64 z.f0, .int .i64 z.f1, .slice A2 z.f2.length c2, .int .i64 z.f3] 52) (.cells #[.int .i64 size] 3) (.cells #[.slice Ab b.length cb] 34)) (.cells #[.int .i64 0, .int .i64 0, .slice none 0 0, .int .i64 0] 52)
  have bR := blk_new4 w (.cells #[.int .i64 z.f0, .int .i64 z.f1, .slice A2 z.f2.length c2, .int .i64 z.f3] 52) (.cells #[.int .i64 size] 3) (.cells #[.slice Ab b.length cb] 34) (.cells #[.int .i64 0, .int .i64 0, .slice none 0 0, .int .i64 0] 52)
  have HC := Aside0.mk hC
  have HCb := Aside0.mk hCb
  have HL := Aside0.mk hl
  have HLim := Aside0.mk hlim
  have HOK := Aside0.mk hok
  have HRM := Aside0.mk hroom
  have HP := Aside0.mk hpos
  clear hC hCb hl hlim hok hroom
  go_enter Try.func97, Try.ntmps97
  go_wp2_with fail
  generalize (((w.alloc (.cells #[.int .i64 z.f0, .int .i64 z.f1, .slice A2 z.f2.length c2, .int .i64 z.f3] 52)).alloc (.cells #[.int .i64 size] 3)).alloc (.cells #[.slice Ab b.length cb] 34)).alloc (.cells #[.int .i64 0, .int .i64 0, .slice none 0 0, .int .i64 0] 52) = W at *
  have HBA := Aside0.mk bA
  have HBS := Aside0.mk bS
  have HBB := Aside0.mk bB
  have HBR := Aside0.mk bR
  have HB := Aside0.mk hb4
  clear bA bS bB bR hb4
  have HK := Aside0.mk (k52_mk W z HL.out (Kd.C_below HC.out HB.out))
  refine (zcheck_calls z _ size W HK.out).mono ?_
  rw [HOK.out]
  rintro e W2 ⟨rfl, hb⟩
  have KBA := Aside0.mk (blk_below HBA.out hb)
  have KBS := Aside0.mk (blk_below HBS.out hb)
  have KBB := Aside0.mk (blk_below HBB.out hb)
  have KBR := Aside0.mk (blk_below HBR.out hb)
  have KB := Aside0.mk (HB.out.trans (hb.mono HB.out.size))
  have KK := Aside0.mk (k52.K_below hb HK.out)
  have hsz : w.heap.size + 3 < W2.heap.size := blk_lt KBR.out
  clear hb HBA HBS HBB HBR HB HK
  have a0 : W2.cell? ⟨w.heap.size, 0, none⟩ = some (.int .i64 z.f0) := (blk_cell KBA.out 0).trans rfl
  have a1 : W2.cell? ⟨w.heap.size, 1, none⟩ = some (.int .i64 z.f1) := (blk_cell KBA.out 1).trans rfl
  have a2 : W2.cell? ⟨w.heap.size, 2, none⟩ = some (.slice A2 z.f2.length c2) := (blk_cell KBA.out 2).trans rfl
  have a3 : W2.cell? ⟨w.heap.size, 3, none⟩ = some (.int .i64 z.f3) := (blk_cell KBA.out 3).trans rfl
  have s0 : W2.cell? ⟨w.heap.size + 1, 0, none⟩ = some (.int .i64 size) := (blk_cell KBS.out 0).trans rfl
  have b0 : W2.cell? ⟨w.heap.size + 2, 0, none⟩ = some (.slice Ab b.length cb) := (blk_cell KBB.out 0).trans rfl
  have hn0 : ((b.length : Int) == 0) = false := beq_eq_false_iff_ne.mpr (by omega)
  have hn1 : (b.length == 0) = false := beq_eq_false_iff_ne.mpr (by omega)
  go_wp2_with fail
  have HZR := Aside0.mk (fun X (h : k52.K X z [.int .i64 z.f0, .int .i64 z.f1, .slice A2 z.f2.length c2, .int .i64 z.f3]) => zroom_calls z [.int .i64 z.f0, .int .i64 z.f1, .slice A2 z.f2.length c2, .int .i64 z.f3] size X h)
  have hle : decide ((b.length : Int) ≤ zroom z size) = true := decide_eq_true HRM.out
  generalize zroom z size = rm at HZR hle HRM
  go_region_held3 (fun w' => w'.cell? ⟨w.heap.size, 0, none⟩ = some (.int .i64 z.f0) ∧ w'.cell? ⟨w.heap.size, 1, none⟩ = some (.int .i64 z.f1) ∧ w'.cell? ⟨w.heap.size, 2, none⟩ = some (.slice A2 z.f2.length c2) ∧ w'.cell? ⟨w.heap.size, 3, none⟩ = some (.int .i64 z.f3) ∧ w'.cell? ⟨w.heap.size + 1, 0, none⟩ = some (.int .i64 size) ∧ w'.cell? ⟨w.heap.size + 2, 0, none⟩ = some (.slice Ab b.length cb))
    (first
      | with_reducible exact ⟨pw_cell_below hb5.out a0, pw_cell_below hb5.out a1, pw_cell_below hb5.out a2, pw_cell_below hb5.out a3, pw_cell_below hb5.out s0, pw_cell_below hb5.out b0⟩
      | with_reducible exact ⟨cell_far4 (pw_cell_below hb6.out a0) (ne_s3 _ 0 (by omega)), cell_far4 (pw_cell_below hb6.out a1) (ne_s3 _ 0 (by omega)), cell_far4 (pw_cell_below hb6.out a2) (ne_s3 _ 0 (by omega)), cell_far4 (pw_cell_below hb6.out a3) (ne_s3 _ 0 (by omega)), cell_far4 (pw_cell_below hb6.out s0) (ne_s3 _ 1 (by omega)), cell_far4 (pw_cell_below hb6.out b0) (ne_s3 _ 2 (by omega))⟩
      | with_reducible exact ⟨pw_cell_below hb6.out a0, pw_cell_below hb6.out a1, pw_cell_below hb6.out a2, pw_cell_below hb6.out a3, pw_cell_below hb6.out s0, pw_cell_below hb6.out b0⟩
      | exact ⟨a0, a1, a2, a3, s0, b0⟩)
    (first
      | (go_at_call 84; refine (HZR.out W2.drew (k52.K_below (below_drew (Below.refl _ _)) KK.out)).mono ?_; rintro e w5 ⟨rfl, hb⟩; have hb5 := Aside0.mk (show Below W2.heap.size W2 w5 from (below_drew (Below.refl _ _)).trans hb); clear hb)
      | (go_at_call 80; refine (zoneDone_yes 109 _ z (zappended z b size) A2 c2 w5 (Kd.C_below HC.out (KB.out.trans (hb5.out.mono KB.out.size))) (Nat.lt_of_le_of_lt (Nat.le_add_right _ _) HLim.out) eg109 (append1_does (w.heap.size + 1 + 1) (w.heap.size + 1) size Ab cb b w5 z (pw_cell_below hb5.out b0) (pw_cell_below hb5.out s0) (Kd.C_below HCb.out (KB.out.trans (hb5.out.mono KB.out.size))) HLim.out)).mono ?_; rintro e w6 ⟨v, rfl, hR, hb⟩; obtain ⟨A6, c6, rfl⟩ := Kd.R_slice hR; have hb6 := Aside0.mk (hb5.out.trans (hb.mono hb5.out.size)); have HR6 := Aside0.mk (Kd.R_lower hR (Nat.le_trans KB.out.size hb5.out.size)); have BR6 := Aside0.mk (blk_below (blk_below KBR.out hb5.out) hb); clear hb hR; have r0 : w6.cell? ⟨w.heap.size + 3, 0, none⟩ = some (.int .i64 0) := (blk_cell BR6.out 0).trans rfl; have r1 : w6.cell? ⟨w.heap.size + 3, 1, none⟩ = some (.int .i64 0) := (blk_cell BR6.out 1).trans rfl; have r2 : w6.cell? ⟨w.heap.size + 3, 2, none⟩ = some (.slice none 0 0) := (blk_cell BR6.out 2).trans rfl; have r3 : w6.cell? ⟨w.heap.size + 3, 3, none⟩ = some (.int .i64 0) := (blk_cell BR6.out 3).trans rfl; have g0 : w6.frozen? ⟨w.heap.size + 3, 0, none⟩ = false := blk_frozen BR6.out 0; have g1 : w6.frozen? ⟨w.heap.size + 3, 1, none⟩ = false := blk_frozen BR6.out 1; have g2 : w6.frozen? ⟨w.heap.size + 3, 2, none⟩ = false := blk_frozen BR6.out 2; have g3 : w6.frozen? ⟨w.heap.size + 3, 3, none⟩ = false := blk_frozen BR6.out 3))
  all_goals
    go_wp2
    refine bodyPost_ret (results_ct rfl _ _ (w.heap.size + 1 + 1 + 1) 52 _ (0, 0) _ rfl (put4 BR6.out _ _ _ _) Try.underlying52 rfl (by kernel_rfl)) rfl ?_
    exact ⟨_, rfl, set4_R HR6.out BR6.out (by decide) _ _ _ _, set4_below (KB.out.trans (hb6.out.mono KB.out.size)) (by omega) _ _ _ _⟩
end Go.Proofs.Ytdgefplbfffenaa.X
namespace Go.Proofs.Ytdgefplbfffenaa.X
open Go.Shelf Go.RowKit Go.Proofs.YtdgefplbfffenaaW.PrintWords Go.Proofs.YtdgefplbfffenaaW.PrintLast Go.Proofs.YtdgefplbfffenaaW.PrintMore
theorem eg111 : ∀ args w, (callFunc 111 args).run Try.prog w = .ok (.enter 111 args) w := enters_of Try.func111 (by kernel_rfl) rfl
def zfinished (z : S52) : S52 := ⟨3, z.f1, z.f2, z.f3⟩
set_option maxHeartbeats 8000000 in
set_option maxRecDepth 100000 in
theorem finish1_does (w : World) (z : S52) : DoesZone 111 #[] w z (zfinished z) := by
  intro W B v hB hblk hR hbe
  obtain ⟨A0, c0, rfl⟩ := Kd.R_slice hR
  have hu52 := Try.underlying52
  have bA := Aside0.mk hblk
  have HR := Aside0.mk hR
  have HB := Aside0.mk hbe
  have a0 : W.cell? ⟨B, 0, none⟩ = some (.int .i64 z.f0) := (blk_cell bA.out 0).trans rfl
  have f0 : W.frozen? ⟨B, 0, none⟩ = false := blk_frozen bA.out 0
  clear hblk hR hbe
  show Calls Try.prog 111 #[.pointer (some ⟨B, 0, none⟩)] W _
  go_enter Try.func111, Try.ntmps111
  go_wp2
  go_end0
  exact ⟨rfl, _, blk_put bA.out 0 _ rfl, set1_R HR.out bA.out (by decide) _, below_set HB.out hB, fun k o hk ho => blk_far ho hk _⟩
set_option maxHeartbeats 8000000 in
set_option maxRecDepth 100000 in
theorem zoneFinish_calls (z : S52) (A2 : Option Addr) (c2 : Nat) (w : World) (hC : (Kd.int .u8).C w A2 z.f2.length z.f2) (hl : z.f2.length ≤ c2) (ht : ztakes z = true) (h0 : z.f0 ≠ 0) (hlim : z.f2.length < 140737488355328) :
    Calls Try.prog 99 #[.agg #[.int .i64 z.f0, .int .i64 z.f1, .slice A2 z.f2.length c2, .int .i64 z.f3]] w (ZonePost w (zfinished z) 0) := by
  have hu52 := Try.underlying52
  have hb4 := (below_alloc (Below.refl w.heap.size w) (.cells #[.int .i64 z.f0, .int .i64 z.f1, .slice A2 z.f2.length c2, .int .i64 z.f3] 52)).alloc (by simp) (.cells #[.int .i64 0, .int .i64 0, .slice none 0 0, .int .i64 0] 52)
  have bA := blk_alloc (blk_new w (.cells #[.int .i64 z.f0, .int .i64 z.f1, .slice A2 z.f2.length c2, .int .i64 z.f3] 52)) (.cells #[.int .i64 0, .int .i64 0, .slice none 0 0, .int .i64 0] 52)
  have bR := blk_new2 w (.cells #[.int .i64 z.f0, .int .i64 z.f1, .slice A2 z.f2.length c2, .int .i64 z.f3] 52) (.cells #[.int .i64 0, .int .i64 0, .slice none 0 0, .int .i64 0] 52)
  have HC := Aside0.mk hC
  have HL := Aside0.mk hl
  have HLim := Aside0.mk hlim
  have hne : (z.f0 != 0) = true := bne_iff_ne.mpr h0
  have HTE := Aside0.mk (show zone_takes.f z.f0 z.f1 z.f2 z.f3 = some true by rw [takes_eq, ht])
  clear hC hl hlim ht h0
  go_enter Try.func99, Try.ntmps99
  go_wp2
  generalize (w.alloc (.cells #[.int .i64 z.f0, .int .i64 z.f1, .slice A2 z.f2.length c2, .int .i64 z.f3] 52)).alloc (.cells #[.int .i64 0, .int .i64 0, .slice none 0 0, .int .i64 0] 52) = W at *
  have KBA := Aside0.mk bA
  have KBR := Aside0.mk bR
  have KB := Aside0.mk hb4
  have a0 : W.cell? ⟨w.heap.size, 0, none⟩ = some (.int .i64 z.f0) := (blk_cell bA 0).trans rfl
  have a1 : W.cell? ⟨w.heap.size, 1, none⟩ = some (.int .i64 z.f1) := (blk_cell bA 1).trans rfl
  have a2 : W.cell? ⟨w.heap.size, 2, none⟩ = some (.slice A2 z.f2.length c2) := (blk_cell bA 2).trans rfl
  have a3 : W.cell? ⟨w.heap.size, 3, none⟩ = some (.int .i64 z.f3) := (blk_cell bA 3).trans rfl
  clear bA bR hb4
  go_region_held3 (fun w' => w'.cell? ⟨w.heap.size, 0, none⟩ = some (.int .i64 z.f0) ∧ w'.cell? ⟨w.heap.size, 1, none⟩ = some (.int .i64 z.f1) ∧ w'.cell? ⟨w.heap.size, 2, none⟩ = some (.slice A2 z.f2.length c2) ∧ w'.cell? ⟨w.heap.size, 3, none⟩ = some (.int .i64 z.f3))
    (first
      | with_reducible exact ⟨pw_cell_below hb5.out a0, pw_cell_below hb5.out a1, pw_cell_below hb5.out a2, pw_cell_below hb5.out a3⟩
      | with_reducible exact ⟨cell_far4 (pw_cell_below hb6.out a0) (Nat.ne_of_lt (Nat.lt_succ_self _)), cell_far4 (pw_cell_below hb6.out a1) (Nat.ne_of_lt (Nat.lt_succ_self _)), cell_far4 (pw_cell_below hb6.out a2) (Nat.ne_of_lt (Nat.lt_succ_self _)), cell_far4 (pw_cell_below hb6.out a3) (Nat.ne_of_lt (Nat.lt_succ_self _))⟩
      | with_reducible exact ⟨pw_cell_below hb6.out a0, pw_cell_below hb6.out a1, pw_cell_below hb6.out a2, pw_cell_below hb6.out a3⟩
      | exact ⟨a0, a1, a2, a3⟩)
    (first
      | (go_at_call 68; refine (zone_takes.calls z.f0 z.f1 A2 c2 z.f2 z.f3 true W.drew (Kd.C_below HC.out KB.out.drew) HL.out HTE.out).mono ?_; rintro e w5 ⟨rfl, hb⟩; have hb5 := Aside0.mk (show Below W.heap.size W w5 from (below_drew (Below.refl _ _)).trans hb); clear hb)
      | (go_at_call 80; refine (zoneDone_yes 111 _ z (zfinished z) A2 c2 w5 (Kd.C_below HC.out (KB.out.trans (hb5.out.mono KB.out.size))) HLim.out eg111 (finish1_does w5 z)).mono ?_; rintro e w6 ⟨v, rfl, hR, hb⟩; obtain ⟨A6, c6, rfl⟩ := Kd.R_slice hR; have hb6 := Aside0.mk (hb5.out.trans (hb.mono hb5.out.size)); have HR6 := Aside0.mk (Kd.R_lower hR (Nat.le_trans KB.out.size hb5.out.size)); have BR6 := Aside0.mk (blk_below (blk_below KBR.out hb5.out) hb); clear hb hR; have r0 : w6.cell? ⟨w.heap.size + 1, 0, none⟩ = some (.int .i64 0) := (blk_cell BR6.out 0).trans rfl; have r1 : w6.cell? ⟨w.heap.size + 1, 1, none⟩ = some (.int .i64 0) := (blk_cell BR6.out 1).trans rfl; have r2 : w6.cell? ⟨w.heap.size + 1, 2, none⟩ = some (.slice none 0 0) := (blk_cell BR6.out 2).trans rfl; have r3 : w6.cell? ⟨w.heap.size + 1, 3, none⟩ = some (.int .i64 0) := (blk_cell BR6.out 3).trans rfl; have g0 : w6.frozen? ⟨w.heap.size + 1, 0, none⟩ = false := blk_frozen BR6.out 0; have g1 : w6.frozen? ⟨w.heap.size + 1, 1, none⟩ = false := blk_frozen BR6.out 1; have g2 : w6.frozen? ⟨w.heap.size + 1, 2, none⟩ = false := blk_frozen BR6.out 2; have g3 : w6.frozen? ⟨w.heap.size + 1, 3, none⟩ = false := blk_frozen BR6.out 3))
  all_goals
    go_wp2
    refine bodyPost_ret (results_ct rfl _ _ (w.heap.size + 1) 52 _ (0, 0) _ rfl (put4 BR6.out _ _ _ _) Try.underlying52 rfl (by kernel_rfl)) rfl ?_
    exact ⟨_, rfl, set4_R HR6.out BR6.out (by decide) _ _ _ _, set4_below (KB.out.trans (hb6.out.mono KB.out.size)) (by omega) _ _ _ _⟩
end Go.Proofs.Ytdgefplbfffenaa.X
namespace Go.Proofs.Ytdgefplbfffenaa.X
open Go.Shelf Go.RowKit Go.Proofs.YtdgefplbfffenaaW.PrintWords Go.Proofs.YtdgefplbfffenaaW.PrintLast Go.Proofs.YtdgefplbfffenaaW.PrintMore
/-- How many zones of a list are open. -/
def dopen (l : List S52) : Nat := l.countP fun z => z.f0 == 1
theorem open_l0 (l : List S52) (hlen : l.length ≤ 9223372036854775806) : ∀ (m k i : Nat) (x : Int), i + m = l.length → m < k → 0 ≤ x → x ≤ i → dev_Open.l0 k x l (l.length : Int) i = some (x + ((l.drop i).countP fun z => z.f0 == 1 : Nat)) := by
  intro m
  induction m with
  | zero =>
    intro k i x hi hk h0 hx
    obtain ⟨k, rfl⟩ : ∃ j, k = j + 1 := ⟨k - 1, by omega⟩
    simp only [dev_Open.l0]
    rw [if_neg (by omega), List.drop_eq_nil_of_le (by omega)]
    simp
  | succ m ih =>
    intro k i x hi hk h0 hx
    obtain ⟨k, rfl⟩ : ∃ j, k = j + 1 := ⟨k - 1, by omega⟩
    simp only [dev_Open.l0]
    have hlt : i < l.length := by omega
    rw [if_pos (by omega), if_pos (by omega)]
    have e1 : wrap64 ((i : Int) + 1) = ((i + 1 : Nat) : Int) := by unfold wrap64; omega
    have e2 : rd_T52 l (i : Int) = l[i] := by simp [rd_T52, List.getD_eq_getElem?_getD, List.getElem?_eq_getElem hlt]
    rw [List.drop_eq_getElem_cons hlt, List.countP_cons, e1, e2]
    by_cases hz : l[i].f0 = 1
    · have e3 : wrap64 (x + 1) = x + 1 := by unfold wrap64; omega
      rw [if_pos (by omega), if_pos hz, e3, ih k (i + 1) (x + 1) (by omega) (by omega) (by omega) (by omega)]
      simp [hz]; omega
    · rw [if_pos (by omega), if_neg hz, ih k (i + 1) x (by omega) (by omega) h0 (by omega)]
      simp [hz]
theorem open_eq (l : List S52) (hlen : l.length ≤ 9223372036854775806) (a : Int) (b : Int) (c : Bool) (d : Int) : dev_Open.f (l.length + 1) a l b c d = some (dopen l : Int) := by
  unfold dev_Open.f dopen
  have h := open_l0 l hlen l.length (l.length + 1) 0 0 (by omega) (by omega) (by omega) (by omega)
  simpa using h
theorem dopen_calls (a : Int) (A : Option Addr) (c : Nat) (l : List S52) (b : Int) (q : Bool) (d : Int) (w : World) (hC : k52.C w A l.length l) (hl : l.length ≤ c) (hlen : l.length ≤ 9223372036854775806) :
    Calls Try.prog 65 #[.agg #[.int .i64 a, .slice A l.length c, .int .i64 b, .bool q, .int .i64 d]] w fun e w' => e = .returned (.int .i64 (dopen l)) ∧ Below w.heap.size w w' :=
  dev_Open.calls (l.length + 1) a A c l b q d _ w hC hl (open_eq l hlen a b q d)
set_option maxHeartbeats 8000000 in
set_option maxRecDepth 100000 in
theorem cmdAppend_calls (z : S52) (A2 : Option Addr) (c2 : Nat) (kd kn : Int) (Ab : Option Addr) (cb : Nat) (b : List Int) (D : Nat) (size : Int) (A : Option Addr) (c : Nat) (l : List S52) (left : Int) (down : Bool) (done : Int) (w : World)
    (hC : (Kd.int .u8).C w A2 z.f2.length z.f2) (hl : z.f2.length ≤ c2) (hCb : (Kd.int .u8).C w Ab b.length b) (hD : w.heap[D]? = some (.cells #[.int .i64 size, .slice A l.length c, .int .i64 left, .bool down, .int .i64 done] 27 (0, 0)))
    (hCl : k52.C w A l.length l) (hlc : l.length ≤ c) (hlen : l.length ≤ 9223372036854775806)
    (hopen : z.f0 = 1 ∨ dopen l < 3) (hok : zok z size = true) (hpos : 0 < b.length) (hroom : (b.length : Int) ≤ zroom z size) (hlim : z.f2.length + b.length < 140737488355328) :
    Calls Try.prog 85 #[.agg #[.int .i64 kd, .int .i64 kn, .slice Ab b.length cb], .pointer (some ⟨D, 0, none⟩), .agg #[.int .i64 z.f0, .int .i64 z.f1, .slice A2 z.f2.length c2, .int .i64 z.f3]] w (ZonePost w (zappended z b size) 0) := by
  have hu52 := Try.underlying52
  have hu27 := Try.underlying27
  have hu114 := Try.underlying114
  have hb4 := ((below_alloc (Below.refl w.heap.size w) (.cells #[.int .i64 kd, .int .i64 kn, .slice Ab b.length cb] 114)).alloc (by simp) (.cells #[.int .i64 z.f0, .int .i64 z.f1, .slice A2 z.f2.length c2, .int .i64 z.f3] 52)).alloc (by simp; omega) (.cells #[.int .i64 0, .int .i64 0, .slice none 0 0, .int .i64 0] 52)
  have bC := blk_alloc (blk_alloc (blk_new w (.cells #[.int .i64 kd, .int .i64 kn, .slice Ab b.length cb] 114)) (.cells #[.int .i64 z.f0, .int .i64 z.f1, .slice A2 z.f2.length c2, .int .i64 z.f3] 52)) (.cells #[.int .i64 0, .int .i64 0, .slice none 0 0, .int .i64 0] 52)
  have bA := blk_alloc (blk_new2 w (.cells #[.int .i64 kd, .int .i64 kn, .slice Ab b.length cb] 114) (.cells #[.int .i64 z.f0, .int .i64 z.f1, .slice A2 z.f2.length c2, .int .i64 z.f3] 52)) (.cells #[.int .i64 0, .int .i64 0, .slice none 0 0, .int .i64 0] 52)
  have bR := blk_new3 w (.cells #[.int .i64 kd, .int .i64 kn, .slice Ab b.length cb] 114) (.cells #[.int .i64 z.f0, .int .i64 z.f1, .slice A2 z.f2.length c2, .int .i64 z.f3] 52) (.cells #[.int .i64 0, .int .i64 0, .slice none 0 0, .int .i64 0] 52)
  have HD := Aside0.mk (blk_below hD hb4)
  have hDlt := blk_lt hD
  have HC := Aside0.mk hC
  have HCb := Aside0.mk hCb
  have HCl := Aside0.mk hCl
  have HLC := Aside0.mk hlc
  have HLen := Aside0.mk hlen
  have HL := Aside0.mk hl
  have HLim := Aside0.mk hlim
  have HOK := Aside0.mk hok
  have HRM := Aside0.mk hroom
  have HP := Aside0.mk hpos
  have HO := Aside0.mk hopen
  clear hC hCb hl hlim hok hroom hpos hopen hCl hlc hD hlen
  by_cases h1 : z.f0 = 1
  · have hz0 : (z.f0 != 1) = false := bne_eq_false_iff_eq.mpr h1
    have hz1 := Aside0.mk h1
    clear h1
    have a0 : (((w.alloc (.cells #[.int .i64 kd, .int .i64 kn, .slice Ab b.length cb] 114)).alloc (.cells #[.int .i64 z.f0, .int .i64 z.f1, .slice A2 z.f2.length c2, .int .i64 z.f3] 52)).alloc (.cells #[.int .i64 0, .int .i64 0, .slice none 0 0, .int .i64 0] 52)).cell? ⟨w.heap.size + 1, 0, none⟩ = some (.int .i64 z.f0) := (blk_cell bA 0).trans rfl
    have a1 : (((w.alloc (.cells #[.int .i64 kd, .int .i64 kn, .slice Ab b.length cb] 114)).alloc (.cells #[.int .i64 z.f0, .int .i64 z.f1, .slice A2 z.f2.length c2, .int .i64 z.f3] 52)).alloc (.cells #[.int .i64 0, .int .i64 0, .slice none 0 0, .int .i64 0] 52)).cell? ⟨w.heap.size + 1, 1, none⟩ = some (.int .i64 z.f1) := (blk_cell bA 1).trans rfl
    have a2 : (((w.alloc (.cells #[.int .i64 kd, .int .i64 kn, .slice Ab b.length cb] 114)).alloc (.cells #[.int .i64 z.f0, .int .i64 z.f1, .slice A2 z.f2.length c2, .int .i64 z.f3] 52)).alloc (.cells #[.int .i64 0, .int .i64 0, .slice none 0 0, .int .i64 0] 52)).cell? ⟨w.heap.size + 1, 2, none⟩ = some (.slice A2 z.f2.length c2) := (blk_cell bA 2).trans rfl
    have a3 : (((w.alloc (.cells #[.int .i64 kd, .int .i64 kn, .slice Ab b.length cb] 114)).alloc (.cells #[.int .i64 z.f0, .int .i64 z.f1, .slice A2 z.f2.length c2, .int .i64 z.f3] 52)).alloc (.cells #[.int .i64 0, .int .i64 0, .slice none 0 0, .int .i64 0] 52)).cell? ⟨w.heap.size + 1, 3, none⟩ = some (.int .i64 z.f3) := (blk_cell bA 3).trans rfl
    have ne_a := Aside0.mk (show w.heap.size + 1 ≠ w.heap.size + 1 + 1 by omega)
    have ne_d := Aside0.mk (show D ≠ w.heap.size + 1 + 1 by omega)
    have ne_e := Aside0.mk (show w.heap.size ≠ w.heap.size + 1 + 1 by omega)
    go_enter Try.func85, Try.ntmps85
    go_wp2_with fail
    generalize (((w.alloc (.cells #[.int .i64 kd, .int .i64 kn, .slice Ab b.length cb] 114)).alloc (.cells #[.int .i64 z.f0, .int .i64 z.f1, .slice A2 z.f2.length c2, .int .i64 z.f3] 52)).alloc (.cells #[.int .i64 0, .int .i64 0, .slice none 0 0, .int .i64 0] 52)) = W at *
    have KBC := Aside0.mk bC
    have KBA := Aside0.mk bA
    have KBR := Aside0.mk bR
    have KB := Aside0.mk hb4
    clear bC bA bR hb4
    have d0 : W.cell? ⟨D, 0, none⟩ = some (.int .i64 size) := (blk_cell HD.out 0).trans rfl
    have e2 : W.cell? ⟨w.heap.size, 2, none⟩ = some (.slice Ab b.length cb) := (blk_cell KBC.out 2).trans rfl
    go_region_held3 (fun w' => w'.cell? ⟨w.heap.size + 1, 0, none⟩ = some (.int .i64 z.f0) ∧ w'.cell? ⟨w.heap.size + 1, 1, none⟩ = some (.int .i64 z.f1) ∧ w'.cell? ⟨w.heap.size + 1, 2, none⟩ = some (.slice A2 z.f2.length c2) ∧ w'.cell? ⟨w.heap.size + 1, 3, none⟩ = some (.int .i64 z.f3) ∧ w'.cell? ⟨D, 0, none⟩ = some (.int .i64 size) ∧ w'.cell? ⟨w.heap.size, 2, none⟩ = some (.slice Ab b.length cb))
      (first
        | with_reducible exact ⟨pw_cell_below hb6.out a0, pw_cell_below hb6.out a1, pw_cell_below hb6.out a2, pw_cell_below hb6.out a3, pw_cell_below hb6.out d0, pw_cell_below hb6.out e2⟩
        | with_reducible exact ⟨cell_far4 (pw_cell_below hb6.out a0) ne_a.out, cell_far4 (pw_cell_below hb6.out a1) ne_a.out, cell_far4 (pw_cell_below hb6.out a2) ne_a.out, cell_far4 (pw_cell_below hb6.out a3) ne_a.out, cell_far4 (pw_cell_below hb6.out d0) ne_d.out, cell_far4 (pw_cell_below hb6.out e2) ne_e.out⟩
        | exact ⟨a0, a1, a2, a3, d0, e2⟩)
      (first
        | (go_at_call 97; refine (zoneAppend_calls z size A2 c2 Ab cb b W.drew (Kd.C_below HC.out KB.out.drew) HL.out (Kd.C_below HCb.out KB.out.drew) HOK.out HP.out HRM.out HLim.out).mono ?_; rintro e w6 ⟨v, rfl, hR, hb⟩; obtain ⟨A6, c6, rfl⟩ := Kd.R_slice hR; have hb6 := Aside0.mk (show Below W.heap.size W w6 from (below_drew (Below.refl _ _)).trans hb); have HR6 := Aside0.mk (Kd.R_lower hR (show w.heap.size ≤ W.heap.size from KB.out.size)); have BR6 := Aside0.mk (blk_below (blk_drew KBR.out) hb); clear hb hR; have r0 : w6.cell? ⟨w.heap.size + 1 + 1, 0, none⟩ = some (.int .i64 0) := (blk_cell BR6.out 0).trans rfl; have r1 : w6.cell? ⟨w.heap.size + 1 + 1, 1, none⟩ = some (.int .i64 0) := (blk_cell BR6.out 1).trans rfl; have r2 : w6.cell? ⟨w.heap.size + 1 + 1, 2, none⟩ = some (.slice none 0 0) := (blk_cell BR6.out 2).trans rfl; have r3 : w6.cell? ⟨w.heap.size + 1 + 1, 3, none⟩ = some (.int .i64 0) := (blk_cell BR6.out 3).trans rfl; have g0 : w6.frozen? ⟨w.heap.size + 1 + 1, 0, none⟩ = false := blk_frozen BR6.out 0; have g1 : w6.frozen? ⟨w.heap.size + 1 + 1, 1, none⟩ = false := blk_frozen BR6.out 1; have g2 : w6.frozen? ⟨w.heap.size + 1 + 1, 2, none⟩ = false := blk_frozen BR6.out 2; have g3 : w6.frozen? ⟨w.heap.size + 1 + 1, 3, none⟩ = false := blk_frozen BR6.out 3)
        | fail)
    all_goals
      go_wp2
      refine bodyPost_ret (results_ct rfl _ _ (w.heap.size + 1 + 1) 52 _ (0, 0) _ rfl (put4 BR6.out _ _ _ _) Try.underlying52 rfl (by kernel_rfl)) rfl ?_
      exact ⟨_, rfl, set4_R HR6.out BR6.out (by decide) _ _ _ _, set4_below (KB.out.trans (hb6.out.mono KB.out.size)) (by omega) _ _ _ _⟩
  · have hz0 : (z.f0 != 1) = true := bne_iff_ne.mpr h1
    have hz1 := Aside0.mk h1
    have HN := Aside0.mk (HO.out.resolve_left h1)
    clear h1
    have a0 : (((w.alloc (.cells #[.int .i64 kd, .int .i64 kn, .slice Ab b.length cb] 114)).alloc (.cells #[.int .i64 z.f0, .int .i64 z.f1, .slice A2 z.f2.length c2, .int .i64 z.f3] 52)).alloc (.cells #[.int .i64 0, .int .i64 0, .slice none 0 0, .int .i64 0] 52)).cell? ⟨w.heap.size + 1, 0, none⟩ = some (.int .i64 z.f0) := (blk_cell bA 0).trans rfl
    have a1 : (((w.alloc (.cells #[.int .i64 kd, .int .i64 kn, .slice Ab b.length cb] 114)).alloc (.cells #[.int .i64 z.f0, .int .i64 z.f1, .slice A2 z.f2.length c2, .int .i64 z.f3] 52)).alloc (.cells #[.int .i64 0, .int .i64 0, .slice none 0 0, .int .i64 0] 52)).cell? ⟨w.heap.size + 1, 1, none⟩ = some (.int .i64 z.f1) := (blk_cell bA 1).trans rfl
    have a2 : (((w.alloc (.cells #[.int .i64 kd, .int .i64 kn, .slice Ab b.length cb] 114)).alloc (.cells #[.int .i64 z.f0, .int .i64 z.f1, .slice A2 z.f2.length c2, .int .i64 z.f3] 52)).alloc (.cells #[.int .i64 0, .int .i64 0, .slice none 0 0, .int .i64 0] 52)).cell? ⟨w.heap.size + 1, 2, none⟩ = some (.slice A2 z.f2.length c2) := (blk_cell bA 2).trans rfl
    have a3 : (((w.alloc (.cells #[.int .i64 kd, .int .i64 kn, .slice Ab b.length cb] 114)).alloc (.cells #[.int .i64 z.f0, .int .i64 z.f1, .slice A2 z.f2.length c2, .int .i64 z.f3] 52)).alloc (.cells #[.int .i64 0, .int .i64 0, .slice none 0 0, .int .i64 0] 52)).cell? ⟨w.heap.size + 1, 3, none⟩ = some (.int .i64 z.f3) := (blk_cell bA 3).trans rfl
    have q0 : (((w.alloc (.cells #[.int .i64 kd, .int .i64 kn, .slice Ab b.length cb] 114)).alloc (.cells #[.int .i64 z.f0, .int .i64 z.f1, .slice A2 z.f2.length c2, .int .i64 z.f3] 52)).alloc (.cells #[.int .i64 0, .int .i64 0, .slice none 0 0, .int .i64 0] 52)).cell? ⟨D, 0, none⟩ = some (.int .i64 size) := (blk_cell HD.out 0).trans rfl
    have q1 : (((w.alloc (.cells #[.int .i64 kd, .int .i64 kn, .slice Ab b.length cb] 114)).alloc (.cells #[.int .i64 z.f0, .int .i64 z.f1, .slice A2 z.f2.length c2, .int .i64 z.f3] 52)).alloc (.cells #[.int .i64 0, .int .i64 0, .slice none 0 0, .int .i64 0] 52)).cell? ⟨D, 1, none⟩ = some (.slice A l.length c) := (blk_cell HD.out 1).trans rfl
    have q2 : (((w.alloc (.cells #[.int .i64 kd, .int .i64 kn, .slice Ab b.length cb] 114)).alloc (.cells #[.int .i64 z.f0, .int .i64 z.f1, .slice A2 z.f2.length c2, .int .i64 z.f3] 52)).alloc (.cells #[.int .i64 0, .int .i64 0, .slice none 0 0, .int .i64 0] 52)).cell? ⟨D, 2, none⟩ = some (.int .i64 left) := (blk_cell HD.out 2).trans rfl
    have q3 : (((w.alloc (.cells #[.int .i64 kd, .int .i64 kn, .slice Ab b.length cb] 114)).alloc (.cells #[.int .i64 z.f0, .int .i64 z.f1, .slice A2 z.f2.length c2, .int .i64 z.f3] 52)).alloc (.cells #[.int .i64 0, .int .i64 0, .slice none 0 0, .int .i64 0] 52)).cell? ⟨D, 3, none⟩ = some (.bool down) := (blk_cell HD.out 3).trans rfl
    have q4 : (((w.alloc (.cells #[.int .i64 kd, .int .i64 kn, .slice Ab b.length cb] 114)).alloc (.cells #[.int .i64 z.f0, .int .i64 z.f1, .slice A2 z.f2.length c2, .int .i64 z.f3] 52)).alloc (.cells #[.int .i64 0, .int .i64 0, .slice none 0 0, .int .i64 0] 52)).cell? ⟨D, 4, none⟩ = some (.int .i64 done) := (blk_cell HD.out 4).trans rfl
    have ne_a := Aside0.mk (show w.heap.size + 1 ≠ w.heap.size + 1 + 1 by omega)
    have ne_d := Aside0.mk (show D ≠ w.heap.size + 1 + 1 by omega)
    have ne_e := Aside0.mk (show w.heap.size ≠ w.heap.size + 1 + 1 by omega)
    go_enter Try.func85, Try.ntmps85
    go_wp2_with fail
    generalize (((w.alloc (.cells #[.int .i64 kd, .int .i64 kn, .slice Ab b.length cb] 114)).alloc (.cells #[.int .i64 z.f0, .int .i64 z.f1, .slice A2 z.f2.length c2, .int .i64 z.f3] 52)).alloc (.cells #[.int .i64 0, .int .i64 0, .slice none 0 0, .int .i64 0] 52)) = W at *
    have KBC := Aside0.mk bC
    have KBA := Aside0.mk bA
    have KBR := Aside0.mk bR
    have KB := Aside0.mk hb4
    clear bC bA bR hb4
    refine (dopen_calls size A c l left down done W (Kd.C_below HCl.out KB.out) HLC.out HLen.out).mono ?_
    rintro e W2 ⟨rfl, hb⟩
    have hn3 : decide (3 ≤ dopen l) = false := decide_eq_false (by have := HN.out; omega)
    have hn4 : decide ((3 : Int) ≤ (dopen l : Int)) = false := decide_eq_false (by have := HN.out; omega)
    replace HD := Aside0.mk (blk_below HD.out hb)
    replace KBC := Aside0.mk (blk_below KBC.out hb)
    replace KBA := Aside0.mk (blk_below KBA.out hb)
    replace KBR := Aside0.mk (blk_below KBR.out hb)
    replace KB := Aside0.mk (KB.out.trans (hb.mono KB.out.size))
    clear a0 a1 a2 a3 q0 q1 q2 q3 q4 hb
    have a0 : W2.cell? ⟨w.heap.size + 1, 0, none⟩ = some (.int .i64 z.f0) := (blk_cell KBA.out 0).trans rfl
    have a1 : W2.cell? ⟨w.heap.size + 1, 1, none⟩ = some (.int .i64 z.f1) := (blk_cell KBA.out 1).trans rfl
    have a2 : W2.cell? ⟨w.heap.size + 1, 2, none⟩ = some (.slice A2 z.f2.length c2) := (blk_cell KBA.out 2).trans rfl
    have a3 : W2.cell? ⟨w.heap.size + 1, 3, none⟩ = some (.int .i64 z.f3) := (blk_cell KBA.out 3).trans rfl
    have d0 : W2.cell? ⟨D, 0, none⟩ = some (.int .i64 size) := (blk_cell HD.out 0).trans rfl
    have e2 : W2.cell? ⟨w.heap.size, 2, none⟩ = some (.slice Ab b.length cb) := (blk_cell KBC.out 2).trans rfl
    go_wp2_with fail
    go_region_held3 (fun w' => w'.cell? ⟨w.heap.size + 1, 0, none⟩ = some (.int .i64 z.f0) ∧ w'.cell? ⟨w.heap.size + 1, 1, none⟩ = some (.int .i64 z.f1) ∧ w'.cell? ⟨w.heap.size + 1, 2, none⟩ = some (.slice A2 z.f2.length c2) ∧ w'.cell? ⟨w.heap.size + 1, 3, none⟩ = some (.int .i64 z.f3) ∧ w'.cell? ⟨D, 0, none⟩ = some (.int .i64 size) ∧ w'.cell? ⟨w.heap.size, 2, none⟩ = some (.slice Ab b.length cb))
      (first
        | with_reducible exact ⟨pw_cell_below hb6.out a0, pw_cell_below hb6.out a1, pw_cell_below hb6.out a2, pw_cell_below hb6.out a3, pw_cell_below hb6.out d0, pw_cell_below hb6.out e2⟩
        | with_reducible exact ⟨cell_far4 (pw_cell_below hb6.out a0) ne_a.out, cell_far4 (pw_cell_below hb6.out a1) ne_a.out, cell_far4 (pw_cell_below hb6.out a2) ne_a.out, cell_far4 (pw_cell_below hb6.out a3) ne_a.out, cell_far4 (pw_cell_below hb6.out d0) ne_d.out, cell_far4 (pw_cell_below hb6.out e2) ne_e.out⟩
        | exact ⟨a0, a1, a2, a3, d0, e2⟩)
      (first
        | (go_at_call 97; refine (zoneAppend_calls z size A2 c2 Ab cb b W2.drew (Kd.C_below HC.out KB.out.drew) HL.out (Kd.C_below HCb.out KB.out.drew) HOK.out HP.out HRM.out HLim.out).mono ?_; rintro e w6 ⟨v, rfl, hR, hb⟩; obtain ⟨A6, c6, rfl⟩ := Kd.R_slice hR; have hb6 := Aside0.mk (show Below W2.heap.size W2 w6 from (below_drew (Below.refl _ _)).trans hb); have HR6 := Aside0.mk (Kd.R_lower hR (show w.heap.size ≤ W2.heap.size from KB.out.size)); have BR6 := Aside0.mk (blk_below (blk_drew KBR.out) hb); clear hb hR; have r0 : w6.cell? ⟨w.heap.size + 1 + 1, 0, none⟩ = some (.int .i64 0) := (blk_cell BR6.out 0).trans rfl; have r1 : w6.cell? ⟨w.heap.size + 1 + 1, 1, none⟩ = some (.int .i64 0) := (blk_cell BR6.out 1).trans rfl; have r2 : w6.cell? ⟨w.heap.size + 1 + 1, 2, none⟩ = some (.slice none 0 0) := (blk_cell BR6.out 2).trans rfl; have r3 : w6.cell? ⟨w.heap.size + 1 + 1, 3, none⟩ = some (.int .i64 0) := (blk_cell BR6.out 3).trans rfl; have g0 : w6.frozen? ⟨w.heap.size + 1 + 1, 0, none⟩ = false := blk_frozen BR6.out 0; have g1 : w6.frozen? ⟨w.heap.size + 1 + 1, 1, none⟩ = false := blk_frozen BR6.out 1; have g2 : w6.frozen? ⟨w.heap.size + 1 + 1, 2, none⟩ = false := blk_frozen BR6.out 2; have g3 : w6.frozen? ⟨w.heap.size + 1 + 1, 3, none⟩ = false := blk_frozen BR6.out 3)
        | fail)
    all_goals
      go_wp2
      refine bodyPost_ret (results_ct rfl _ _ (w.heap.size + 1 + 1) 52 _ (0, 0) _ rfl (put4 BR6.out _ _ _ _) Try.underlying52 rfl (by kernel_rfl)) rfl ?_
      exact ⟨_, rfl, set4_R HR6.out BR6.out (by decide) _ _ _ _, set4_below (KB.out.trans (hb6.out.mono KB.out.size)) (by omega) _ _ _ _⟩
end Go.Proofs.Ytdgefplbfffenaa.X
namespace Go.Proofs.Ytdgefplbfffenaa.X
open Go.Shelf Go.RowKit Go.Proofs.YtdgefplbfffenaaW.PrintWords Go.Proofs.YtdgefplbfffenaaW.PrintLast Go.Proofs.YtdgefplbfffenaaW.PrintMore
set_option maxHeartbeats 8000000 in
set_option maxRecDepth 100000 in
theorem cmdFinish_calls (z : S52) (A2 : Option Addr) (c2 : Nat) (kd kn : Int) (Ab : Option Addr) (nb cb : Nat) (D : Nat) (w : World) (hC : (Kd.int .u8).C w A2 z.f2.length z.f2) (hl : z.f2.length ≤ c2) (ht : ztakes z = true) (h0 : z.f0 ≠ 0) (hlim : z.f2.length < 140737488355328) :
    Calls Try.prog 87 #[.agg #[.int .i64 kd, .int .i64 kn, .slice Ab nb cb], .pointer (some ⟨D, 0, none⟩), .agg #[.int .i64 z.f0, .int .i64 z.f1, .slice A2 z.f2.length c2, .int .i64 z.f3]] w (ZonePost w (zfinished z) 0) := by
  have hu52 := Try.underlying52
  have hu114 := Try.underlying114
  have hb4 := ((below_alloc (Below.refl w.heap.size w) (.cells #[.int .i64 kd, .int .i64 kn, .slice Ab nb cb] 114)).alloc (by simp) (.cells #[.int .i64 z.f0, .int .i64 z.f1, .slice A2 z.f2.length c2, .int .i64 z.f3] 52)).alloc (by simp; omega) (.cells #[.int .i64 0, .int .i64 0, .slice none 0 0, .int .i64 0] 52)
  have bA := blk_alloc (blk_new2 w (.cells #[.int .i64 kd, .int .i64 kn, .slice Ab nb cb] 114) (.cells #[.int .i64 z.f0, .int .i64 z.f1, .slice A2 z.f2.length c2, .int .i64 z.f3] 52)) (.cells #[.int .i64 0, .int .i64 0, .slice none 0 0, .int .i64 0] 52)
  have bR := blk_new3 w (.cells #[.int .i64 kd, .int .i64 kn, .slice Ab nb cb] 114) (.cells #[.int .i64 z.f0, .int .i64 z.f1, .slice A2 z.f2.length c2, .int .i64 z.f3] 52) (.cells #[.int .i64 0, .int .i64 0, .slice none 0 0, .int .i64 0] 52)
  have HC := Aside0.mk (Kd.C_below hC hb4)
  have a0 : (((w.alloc (.cells #[.int .i64 kd, .int .i64 kn, .slice Ab nb cb] 114)).alloc (.cells #[.int .i64 z.f0, .int .i64 z.f1, .slice A2 z.f2.length c2, .int .i64 z.f3] 52)).alloc (.cells #[.int .i64 0, .int .i64 0, .slice none 0 0, .int .i64 0] 52)).cell? ⟨w.heap.size + 1, 0, none⟩ = some (.int .i64 z.f0) := (blk_cell bA 0).trans rfl
  have a1 : (((w.alloc (.cells #[.int .i64 kd, .int .i64 kn, .slice Ab nb cb] 114)).alloc (.cells #[.int .i64 z.f0, .int .i64 z.f1, .slice A2 z.f2.length c2, .int .i64 z.f3] 52)).alloc (.cells #[.int .i64 0, .int .i64 0, .slice none 0 0, .int .i64 0] 52)).cell? ⟨w.heap.size + 1, 1, none⟩ = some (.int .i64 z.f1) := (blk_cell bA 1).trans rfl
  have a2 : (((w.alloc (.cells #[.int .i64 kd, .int .i64 kn, .slice Ab nb cb] 114)).alloc (.cells #[.int .i64 z.f0, .int .i64 z.f1, .slice A2 z.f2.length c2, .int .i64 z.f3] 52)).alloc (.cells #[.int .i64 0, .int .i64 0, .slice none 0 0, .int .i64 0] 52)).cell? ⟨w.heap.size + 1, 2, none⟩ = some (.slice A2 z.f2.length c2) := (blk_cell bA 2).trans rfl
  have a3 : (((w.alloc (.cells #[.int .i64 kd, .int .i64 kn, .slice Ab nb cb] 114)).alloc (.cells #[.int .i64 z.f0, .int .i64 z.f1, .slice A2 z.f2.length c2, .int .i64 z.f3] 52)).alloc (.cells #[.int .i64 0, .int .i64 0, .slice none 0 0, .int .i64 0] 52)).cell? ⟨w.heap.size + 1, 3, none⟩ = some (.int .i64 z.f3) := (blk_cell bA 3).trans rfl
  have HX := Aside0.mk (zoneFinish_calls z A2 c2 (((w.alloc (.cells #[.int .i64 kd, .int .i64 kn, .slice Ab nb cb] 114)).alloc (.cells #[.int .i64 z.f0, .int .i64 z.f1, .slice A2 z.f2.length c2, .int .i64 z.f3] 52)).alloc (.cells #[.int .i64 0, .int .i64 0, .slice none 0 0, .int .i64 0] 52)) HC.out hl ht h0 hlim)
  clear HC
  go_enter Try.func87, Try.ntmps87
  go_wp2_with fail
  generalize (((w.alloc (.cells #[.int .i64 kd, .int .i64 kn, .slice Ab nb cb] 114)).alloc (.cells #[.int .i64 z.f0, .int .i64 z.f1, .slice A2 z.f2.length c2, .int .i64 z.f3] 52)).alloc (.cells #[.int .i64 0, .int .i64 0, .slice none 0 0, .int .i64 0] 52)) = W at *
  have KBR := Aside0.mk bR
  have KB := Aside0.mk hb4
  clear bA bR hb4
  refine HX.out.mono ?_
  rintro e w6 ⟨v, rfl, hR, hb⟩
  obtain ⟨A6, c6, rfl⟩ := Kd.R_slice hR
  have hb6 := Aside0.mk hb
  have HR6 := Aside0.mk (Kd.R_lower hR KB.out.size)
  have BR6 := Aside0.mk (blk_below KBR.out hb)
  clear hb hR a0 a1 a2 a3
  have r0 : w6.cell? ⟨w.heap.size + 1 + 1, 0, none⟩ = some (.int .i64 0) := (blk_cell BR6.out 0).trans rfl
  have r1 : w6.cell? ⟨w.heap.size + 1 + 1, 1, none⟩ = some (.int .i64 0) := (blk_cell BR6.out 1).trans rfl
  have r2 : w6.cell? ⟨w.heap.size + 1 + 1, 2, none⟩ = some (.slice none 0 0) := (blk_cell BR6.out 2).trans rfl
  have r3 : w6.cell? ⟨w.heap.size + 1 + 1, 3, none⟩ = some (.int .i64 0) := (blk_cell BR6.out 3).trans rfl
  have g0 : w6.frozen? ⟨w.heap.size + 1 + 1, 0, none⟩ = false := blk_frozen BR6.out 0
  have g1 : w6.frozen? ⟨w.heap.size + 1 + 1, 1, none⟩ = false := blk_frozen BR6.out 1
  have g2 : w6.frozen? ⟨w.heap.size + 1 + 1, 2, none⟩ = false := blk_frozen BR6.out 2
  have g3 : w6.frozen? ⟨w.heap.size + 1 + 1, 3, none⟩ = false := blk_frozen BR6.out 3
  go_wp2
  refine bodyPost_ret (results_ct rfl _ _ (w.heap.size + 1 + 1) 52 _ (0, 0) _ rfl (put4 BR6.out _ _ _ _) Try.underlying52 rfl (by kernel_rfl)) rfl ?_
  exact ⟨_, rfl, set4_R HR6.out BR6.out (by decide) _ _ _ _, set4_below (KB.out.trans (hb6.out.mono KB.out.size)) (by omega) _ _ _ _⟩
end Go.Proofs.Ytdgefplbfffenaa.X
namespace Go.Proofs.Ytdgefplbfffenaa.X
open Go.Shelf Go.RowKit Go.Proofs.YtdgefplbfffenaaW.PrintWords Go.Proofs.YtdgefplbfffenaaW.PrintLast Go.Proofs.YtdgefplbfffenaaW.PrintMore
def fnv (g : Nat) : Value := .func (.func g) #[] #[]
theorem ins_run (W : World) (r : Nat) (es : Array MapEntry) (cl : Nat) (n : Int) (v : Value) (hW : W.heap[r]? = some (.map es cl)) (hf : Instr.findNow (.int .i64) (.int .i64 n) es.toList 0 = some none) :
    (Instr.mapUpdate 111 (.map (some r)) (.int .i64 n) v).run Try.prog W = .ok () { W with heap := W.heap.setIfInBounds r (.map (es.push { key := .int .i64 n, val := v, born := cl }) (cl + 1)) } := by
  have hc : (Instr.checkKey false 10000 3 (.int .i64 n)).run Try.prog W = .ok () W := by
    unfold Instr.checkKey; simp [run_underlying Try.underlying3]
  have hk : (Instr.findKey 3 (.int .i64 n) es.toList).run Try.prog W = .ok none W := by
    unfold Instr.findKey; simp [run_underlying Try.underlying3, hf]
  simp [Instr.mapUpdate, run_underlying Try.underlying111, getObj, setObj, Sem.run, hW, hc, hk]
theorem alloc_set (w : World) (o o' : Obj) : { (w.alloc o) with heap := (w.alloc o).heap.setIfInBounds w.heap.size o' } = w.alloc o' := by
  have h : (w.alloc o).heap.setIfInBounds w.heap.size o' = (w.alloc o').heap := by
    show (w.heap.push o).setIfInBounds w.heap.size o' = w.heap.push o'
    apply Array.ext_getElem?
    intro i
    rw [Array.getElem?_setIfInBounds, Array.getElem?_push, Array.getElem?_push, Array.size_push]
    by_cases hi : w.heap.size = i
    · subst hi; simp
    · rw [if_neg hi, if_neg (fun e => hi e.symm), if_neg (fun e => hi e.symm)]
  rw [h]; rfl
theorem ins_alloc (w : World) (es : Array MapEntry) (cl : Nat) (n : Int) (v : Value) (hf : Instr.findNow (.int .i64) (.int .i64 n) es.toList 0 = some none) :
    (Instr.mapUpdate 111 (.map (some w.heap.size)) (.int .i64 n) v).run Try.prog (w.alloc (.map es cl)) = .ok () (w.alloc (.map (es.push { key := .int .i64 n, val := v, born := cl }) (cl + 1))) := by
  rw [ins_run (w.alloc (.map es cl)) w.heap.size es cl n v (blk_new w _) hf, alloc_set]
def e4 : Array MapEntry := #[{ key := .int .i64 1, val := fnv 85, born := 0 }, { key := .int .i64 2, val := fnv 86, born := 1 }, { key := .int .i64 3, val := fnv 87, born := 2 }, { key := .int .i64 4, val := fnv 88, born := 3 }]
set_option maxHeartbeats 8000000 in
set_option maxRecDepth 100000 in
theorem does_calls (w : World) : Calls Try.prog 71 #[] w fun e w' => e = .returned (.map (some w.heap.size)) ∧ w.alloc (.map e4 4) = w' := by
  have hmm := @run_makeMap Try.prog
  have i1 : (Instr.mapUpdate 111 (.map (some w.heap.size)) (.int .i64 1) (fnv 85)).run Try.prog (w.alloc (.map #[] 0)) = .ok () (w.alloc (.map #[{ key := .int .i64 1, val := fnv 85, born := 0 }] 1)) := ins_alloc w #[] 0 1 (fnv 85) rfl
  have i2 : (Instr.mapUpdate 111 (.map (some w.heap.size)) (.int .i64 2) (fnv 86)).run Try.prog (w.alloc (.map #[{ key := .int .i64 1, val := fnv 85, born := 0 }] 1)) = .ok () (w.alloc (.map #[{ key := .int .i64 1, val := fnv 85, born := 0 }, { key := .int .i64 2, val := fnv 86, born := 1 }] 2)) := ins_alloc w #[{ key := .int .i64 1, val := fnv 85, born := 0 }] 1 2 (fnv 86) rfl
  have i3 : (Instr.mapUpdate 111 (.map (some w.heap.size)) (.int .i64 3) (fnv 87)).run Try.prog (w.alloc (.map #[{ key := .int .i64 1, val := fnv 85, born := 0 }, { key := .int .i64 2, val := fnv 86, born := 1 }] 2)) = .ok () (w.alloc (.map #[{ key := .int .i64 1, val := fnv 85, born := 0 }, { key := .int .i64 2, val := fnv 86, born := 1 }, { key := .int .i64 3, val := fnv 87, born := 2 }] 3)) := ins_alloc w #[{ key := .int .i64 1, val := fnv 85, born := 0 }, { key := .int .i64 2, val := fnv 86, born := 1 }] 2 3 (fnv 87) rfl
  have i4 : (Instr.mapUpdate 111 (.map (some w.heap.size)) (.int .i64 4) (fnv 88)).run Try.prog (w.alloc (.map #[{ key := .int .i64 1, val := fnv 85, born := 0 }, { key := .int .i64 2, val := fnv 86, born := 1 }, { key := .int .i64 3, val := fnv 87, born := 2 }] 3)) = .ok () (w.alloc (.map #[{ key := .int .i64 1, val := fnv 85, born := 0 }, { key := .int .i64 2, val := fnv 86, born := 1 }, { key := .int .i64 3, val := fnv 87, born := 2 }, { key := .int .i64 4, val := fnv 88, born := 3 }] 4)) := ins_alloc w #[{ key := .int .i64 1, val := fnv 85, born := 0 }, { key := .int .i64 2, val := fnv 86, born := 1 }, { key := .int .i64 3, val := fnv 87, born := 2 }] 3 4 (fnv 88) rfl
  unfold fnv at i1 i2 i3 i4
  go_enter Try.func71, Try.ntmps71
  go_wp2
  go_ret
  exact ⟨rfl, rfl⟩
theorem look_run (W : World) (r : Nat) (hW : W.heap[r]? = some (.map e4 4)) (n : Int) (g : Nat) (hn : n = 1 ∧ g = 85 ∨ n = 2 ∧ g = 86 ∨ n = 3 ∧ g = 87 ∨ n = 4 ∧ g = 88) :
    (Instr.lookup 111 (.map (some r)) (.int .i64 n) true).run Try.prog W = .ok (.tuple #[fnv g, .bool true]) W := by
  have hc : ∀ b, (Instr.checkKey b 10000 3 (.int .i64 n)).run Try.prog W = .ok () W := by
    intro b; unfold Instr.checkKey; simp [run_underlying Try.underlying3]
  have hk : ∃ i, (Instr.findKey 3 (.int .i64 n) e4.toList).run Try.prog W = .ok (some (i, fnv g)) W := by
    unfold Instr.findKey
    rcases hn with ⟨rfl, rfl⟩ | ⟨rfl, rfl⟩ | ⟨rfl, rfl⟩ | ⟨rfl, rfl⟩
    · exact ⟨0, by simp [run_underlying Try.underlying3, e4, Instr.findNow, Instr.sameNow]⟩
    · exact ⟨1, by simp [run_underlying Try.underlying3, e4, Instr.findNow, Instr.sameNow]⟩
    · exact ⟨2, by simp [run_underlying Try.underlying3, e4, Instr.findNow, Instr.sameNow]⟩
    · exact ⟨3, by simp [run_underlying Try.underlying3, e4, Instr.findNow, Instr.sameNow]⟩
  obtain ⟨i, hk⟩ := hk
  simp [Instr.lookup, run_underlying Try.underlying111, getObj, Sem.run, hW, hc, hk]
end Go.Proofs.Ytdgefplbfffenaa.X
namespace Go.Proofs.Ytdgefplbfffenaa.X
open Go.Shelf Go.RowKit Go.Proofs.YtdgefplbfffenaaW.PrintWords Go.Proofs.YtdgefplbfffenaaW.PrintLast Go.Proofs.YtdgefplbfffenaaW.PrintMore
/-- What a command does that changes one zone in the device's own row: the row's block is G. -/
def DonePost50 (w w0 : World) (base G c : Nat) (l' : List S52) (e : Ending) (w' : World) : Prop :=
  e = .returned (.int .i64 0) ∧ Kd.S k52 52 w' base (fun _ => True) (.slice (some ⟨G, 0, none⟩) l'.length c) l' ∧ Below base w0 w' ∧ ∀ k, k < w.heap.size → k ≠ G → w'.heap[k]? = w.heap[k]?
theorem DonePost50.mk0 {w w0 W3 W7 : World} {base G c o : Nat} {u0 u1 u2 u3 : Value} {l' : List S52} (hS : Kd.S k52 52 ((((W7.setCell ⟨G, o, none⟩ u0).setCell ⟨G, o + 1, none⟩ u1).setCell ⟨G, o + 2, none⟩ u2).setCell ⟨G, o + 3, none⟩ u3) base (fun _ => True) (.slice (some ⟨G, 0, none⟩) l'.length c) l')
    (hb3 : Below w.heap.size w W3) (hb7 : Below W3.heap.size W3 W7) (hB : Below base w0 w) (hbase : base ≤ w.heap.size) (hG : base ≤ G) (_hg : G < W3.heap.size) :
    DonePost50 w w0 base G c l' (.returned (.int .i64 0)) ((((W7.setCell ⟨G, o, none⟩ u0).setCell ⟨G, o + 1, none⟩ u1).setCell ⟨G, o + 2, none⟩ u2).setCell ⟨G, o + 3, none⟩ u3) := by
  have h1 : Below base w0 W7 := hB.trans ((hb3.mono hbase).trans (hb7.mono (Nat.le_trans hbase hb3.size)))
  refine ⟨rfl, hS, (((h1.setCell hG _).setCell hG _).setCell hG _).setCell hG _, fun k hk hne => ?_⟩
  rw [Below.heap_setCell _ _ _ _ hne, Below.heap_setCell _ _ _ _ hne, Below.heap_setCell _ _ _ _ hne, Below.heap_setCell _ _ _ _ hne, hb7.block k (Nat.lt_of_lt_of_le hk hb3.size), hb3.block k hk]
theorem DonePost50.mk1 {w w0 W3 W7 : World} {base G c o : Nat} {u0 u1 u2 u3 : Value} {l' : List S52} (hS : Kd.S k52 52 ((((W7.setCell ⟨G, o, none⟩ u0).setCell ⟨G, o + 1, none⟩ u1).setCell ⟨G, o + 2, none⟩ u2).setCell ⟨G, o + 3, none⟩ u3) base (fun _ => True) (.slice (some ⟨G, 0, none⟩) l'.length c) l')
    (hb3 : Below w.heap.size w W3) (hb7 : Below W3.heap.size W3 W7) (hB : Below base w0 w) (hbase : base ≤ w.heap.size) (hG : base ≤ G) (hg : G < W3.heap.size) :
    DonePost50 w w0 base G c l' (.returned (.int .i64 0)) ((((W7.setCell ⟨G, o, none⟩ u0).setCell ⟨G, o + 1, none⟩ u1).setCell ⟨G, o + 2, none⟩ u2).setCell ⟨G, o + 3, none⟩ u3).drew := by
  obtain ⟨h1, h2, h3, h4⟩ := DonePost50.mk0 hS hb3 hb7 hB hbase hG hg
  exact ⟨h1, Kd.S_drew h2, h3.drew, h4⟩
theorem zone_back {W3 W7 : World} {base G c : Nat} {kn : Int} {l : List S52} {z' : S52} {v : Value} (hS : Kd.S k52 52 W3 base (fun _ => True) (.slice (some ⟨G, 0, none⟩) l.length c) l) (hk0 : 0 ≤ kn) (hk1 : kn < l.length)
    (hb : Below W3.heap.size W3 W7) (hR : (Kd.int .u8).R 5 W7 W3.heap.size (fun _ => True) v z'.f2) (hbase : base ≤ W3.heap.size) :
    (∀ j, W7.frozen? ⟨G, kn.toNat * 4 + j, none⟩ = false) ∧ base ≤ G ∧ G < W3.heap.size ∧
    Kd.S k52 52 ((((W7.setCell ⟨G, kn.toNat * 4, none⟩ (.int .i64 z'.f0)).setCell ⟨G, kn.toNat * 4 + 1, none⟩ (.int .i64 z'.f1)).setCell ⟨G, kn.toNat * 4 + 2, none⟩ v).setCell ⟨G, kn.toNat * 4 + 3, none⟩ (.int .i64 z'.f3)) base (fun _ => True) (.slice (some ⟨G, 0, none⟩) (l.set kn.toNat z').length c) (l.set kn.toNat z') := by
  have hlt := Kd.S_lt hS G (by simp [Value.ownBlock])
  have hS2 : Kd.S k52 52 W3 base (fun k => True ∧ ¬ (W3.heap.size ≤ k)) (.slice (some ⟨G, 0, none⟩) l.length c) l := Kd.S_mono (Kd.S_bound hS) (fun k hk => ⟨trivial, Nat.not_le.mpr hk.2.2.1⟩)
  obtain ⟨oki, cl, hcl, hM, hcc, hfr, hoki, hH⟩ := Kd.S_elem hS2 z52 kn hk0 hk1
  have hH7 := Kd.H_below hH hb
  have hcl4 : cl.length = 4 := hcl
  have h2 := Kd.S_seg (okp := fun k => W3.heap.size ≤ k) (okg := fun k => W3.heap.size ≤ k) hH7 hk0 hk1 (seg := [.int .i64 z'.f0, .int .i64 z'.f1, v, .int .i64 z'.f3]) (j := 0) (x' := z') (Nat.le_refl 4)
    (by
      rw [List.take_zero, List.nil_append, List.drop_eq_nil_of_le (by show cl.length ≤ 4; omega), List.append_nil]
      exact k52_mkM W7 base _ z' (Kd.R_reok rfl (Kd.R_lower hR hbase) (fun k hk => Kd.R_base hR k hk)))
    (fun k hk => .inr hk) (fun k hk => ⟨trivial, fun he => by subst he; exact absurd hlt (Nat.not_lt.mpr hk)⟩)
  refine ⟨(Kd.H_at hH7 hk0 hk1).2, Kd.S_base hS G (by simp [Value.ownBlock]), hlt, ?_⟩
  rw [List.length_set]
  exact h2.1
theorem cell_drew1 {w : World} {p : Addr} {u : Value} (h : w.cell? p = some u) : w.drew.cell? p = some u := h
theorem does_calls2 (w : World) : Calls Try.prog 71 #[] w fun e w' => ∃ r, e = .returned (.map (some r)) ∧ w'.heap[r]? = some (.map e4 4) ∧ Below w.heap.size w w' := by
  refine (does_calls w).mono ?_
  rintro e w' ⟨rfl, rfl⟩
  exact ⟨_, rfl, blk_new _ _, below_alloc (Below.refl _ _) _⟩
set_option maxHeartbeats 8000000 in
set_option maxRecDepth 100000 in
theorem done85_calls (z' : S52) (kn : Int) (Ab : Option Addr) (nb cb : Nat) (D G : Nat) (size : Int) (c : Nat) (l : List S52) (left : Int) (down : Bool) (done : Int) (base : Nat) (w0 w : World)
    (hk0 : 0 ≤ kn) (hk1 : kn < l.length) (hlen : l.length ≤ 9223372036854775806)
    (hD : w.heap[D]? = some (.cells #[.int .i64 size, .slice (some ⟨G, 0, none⟩) l.length c, .int .i64 left, .bool down, .int .i64 done] 27 (0, 0)))
    (hS : Kd.S k52 52 w base (fun _ => True) (.slice (some ⟨G, 0, none⟩) l.length c) l) (hB : Below base w0 w) (hbase : base ≤ w.heap.size)
    (hdo : ∀ (W : World) (A2 : Option Addr) (c2 : Nat), Below w.heap.size w W → (Kd.int .u8).C W A2 (rd_T52 l kn).f2.length (rd_T52 l kn).f2 → (rd_T52 l kn).f2.length ≤ c2 →
      Calls Try.prog 85 #[.agg #[.int .i64 1, .int .i64 kn, .slice Ab nb cb], .pointer (some ⟨D, 0, none⟩), .agg #[.int .i64 (rd_T52 l kn).f0, .int .i64 (rd_T52 l kn).f1, .slice A2 (rd_T52 l kn).f2.length c2, .int .i64 (rd_T52 l kn).f3]] W (ZonePost W z' 0)) :
    Calls Try.prog 50 #[.pointer (some ⟨D, 0, none⟩), .agg #[.int .i64 1, .int .i64 kn, .slice Ab nb cb]] w (DonePost50 w w0 base G c (l.set kn.toNat z')) := by
  have hu52 := Try.underlying52
  have hu27 := Try.underlying27
  have hu56 := Try.underlying56
  have hu25 := Try.underlying25
  have hkl : decide (kn < 0) = false := decide_eq_false (by omega)
  have hkh : decide ((l.length : Int) ≤ kn) = false := decide_eq_false (by omega)
  have hb1 := below_alloc (Below.refl w.heap.size w) (.cells #[.int .i64 1, .int .i64 kn, .slice Ab nb cb] 56)
  have bC := blk_new w (.cells #[.int .i64 1, .int .i64 kn, .slice Ab nb cb] 56)
  have HD := Aside0.mk (blk_below hD hb1)
  have HK := Aside0.mk (And.intro hk0 (And.intro hk1 hlen))
  have HDO := Aside0.mk hdo
  have HS := Aside0.mk hS
  have HB := Aside0.mk hB
  have HBS := Aside0.mk hbase
  clear hk0 hk1 hlen hD hdo hS hB hbase
  go_enter Try.func50, Try.ntmps50
  go_wp2_with fail
  generalize (w.alloc (.cells #[.int .i64 1, .int .i64 kn, .slice Ab nb cb] 56)) = W at *
  have KBC := Aside0.mk bC
  have KB := Aside0.mk hb1
  have c0 : W.cell? ⟨w.heap.size, 0, none⟩ = some (.int .i64 1) := (blk_cell bC 0).trans rfl
  clear bC hb1
  go_region_held3 (fun w' => w'.cell? ⟨w.heap.size, 0, none⟩ = some (.int .i64 1))
    (first
      | with_reducible exact pw_cell_below hb2.out c0
      | exact c0)
    (first
      | (go_at_call 71; refine (does_calls2 W.drew).mono ?_; rintro e w2 ⟨r, rfl, hm, hb⟩; have hb2 := Aside0.mk (show Below W.heap.size W w2 from (below_drew (Below.refl _ _)).trans hb); have lk := look_run w2 r hm 1 85 (by decide); unfold fnv at lk; clear hb hm)
      | fail)
  all_goals
    have c0' := pw_cell_below hb2.out c0
    have c1' : w2.cell? ⟨w.heap.size, 1, none⟩ = some (.int .i64 kn) := pw_cell_below hb2.out ((blk_cell KBC.out 1).trans rfl)
    have c2' : w2.cell? ⟨w.heap.size, 2, none⟩ = some (.slice Ab nb cb) := pw_cell_below hb2.out ((blk_cell KBC.out 2).trans rfl)
    have d1' : w2.cell? ⟨D, 1, none⟩ = some (.slice (some ⟨G, 0, none⟩) l.length c) := pw_cell_below hb2.out ((blk_cell HD.out 1).trans rfl)
    go_wp2_with fail
    go_quiet (fail)
    go_wp2_with fail
    have KB3 := Aside0.mk (show Below w.heap.size w (w2.drewN nq) from pw_below_drewN (KB.out.trans (hb2.out.mono KB.out.size)) nq)
    have Kd3 := Aside0.mk (show (w2.drewN nq).heap[D]? = _ from blk_below HD.out (pw_below_drewN hb2.out nq))
    have KC3 := Aside0.mk (show (w2.drewN nq).heap[w.heap.size]? = _ from blk_below KBC.out (pw_below_drewN hb2.out nq))
    clear c0 c0' c1' c2' d1'
    generalize w2.drewN nq = W3 at *
    clear hb2 lk KB KBC HD
    have HS3 := Aside0.mk (Kd.S_below HS.out KB3.out)
    obtain ⟨ad, A2, cz, ea, e0, e1, e2, e3, l2, C2⟩ := at_T52 (Kd.S_reads' HS3.out).2.2 kn HK.out.1 HK.out.2.1
    obtain rfl := Option.some.inj ea
    clear ea
    have HL2 := Aside0.mk l2
    have HC2 := Aside0.mk C2
    clear l2 C2
    have c0 : W3.cell? ⟨w.heap.size, 0, none⟩ = some (.int .i64 1) := (blk_cell KC3.out 0).trans rfl
    have c1 : W3.cell? ⟨w.heap.size, 1, none⟩ = some (.int .i64 kn) := (blk_cell KC3.out 1).trans rfl
    have c2 : W3.cell? ⟨w.heap.size, 2, none⟩ = some (.slice Ab nb cb) := (blk_cell KC3.out 2).trans rfl
    have d1 : W3.cell? ⟨D, 1, none⟩ = some (.slice (some ⟨G, 0, none⟩) l.length c) := (blk_cell Kd3.out 1).trans rfl
    have hk0 : 0 ≤ kn := HK.out.1
    have hk1 : kn < (l.length : Int) := HK.out.2.1
    have ead : (⟨G, 0, none⟩ : Addr).add (kn.toNat * 4) = ⟨G, kn.toNat * 4, none⟩ := by exact add_plain _ _
    simp only [ead] at e0 e1 e2 e3
    clear ead
    have HB9 := Aside0.mk (below_alloc (Below.refl W3.heap.size W3) (.cells #[.int .i64 0, .int .i64 0, .slice none 0 0, .int .i64 0] 52))
    have BL9 := Aside0.mk (blk_new W3 (.cells #[.int .i64 0, .int .i64 0, .slice none 0 0, .int .i64 0] 52))
    have lt_c := Aside0.mk (World.block_lt_of_cell? W3 _ c0)
    have lt_d := Aside0.mk (World.block_lt_of_cell? W3 _ d1)
    have lt_g := Aside0.mk (World.block_lt_of_cell? W3 _ e0)
    go_region_held3 (fun w' => w'.cell? ⟨w.heap.size, 0, none⟩ = some (.int .i64 1) ∧ w'.cell? ⟨w.heap.size, 1, none⟩ = some (.int .i64 kn) ∧ w'.cell? ⟨w.heap.size, 2, none⟩ = some (.slice Ab nb cb) ∧ w'.cell? ⟨D, 1, none⟩ = some (.slice (some ⟨G, 0, none⟩) l.length c) ∧ w'.cell? ⟨G, kn.toNat * 4, none⟩ = some (.int .i64 (rd_T52 l kn).f0) ∧ w'.cell? ⟨G, kn.toNat * 4 + 1, none⟩ = some (.int .i64 (rd_T52 l kn).f1) ∧ w'.cell? ⟨G, kn.toNat * 4 + 2, none⟩ = some (.slice A2 (rd_T52 l kn).f2.length cz) ∧ w'.cell? ⟨G, kn.toNat * 4 + 3, none⟩ = some (.int .i64 (rd_T52 l kn).f3))
      (first
        | with_reducible exact ⟨cell_far4 (pw_cell_below hb6.out c0) (Nat.ne_of_lt lt_c.out), cell_far4 (pw_cell_below hb6.out c1) (Nat.ne_of_lt lt_c.out), cell_far4 (pw_cell_below hb6.out c2) (Nat.ne_of_lt lt_c.out), cell_far4 (pw_cell_below hb6.out d1) (Nat.ne_of_lt lt_d.out), cell_far4 (pw_cell_below hb6.out e0) (Nat.ne_of_lt lt_g.out), cell_far4 (pw_cell_below hb6.out e1) (Nat.ne_of_lt lt_g.out), cell_far4 (pw_cell_below hb6.out e2) (Nat.ne_of_lt lt_g.out), cell_far4 (pw_cell_below hb6.out e3) (Nat.ne_of_lt lt_g.out)⟩
        | with_reducible exact ⟨cell_far4 (pw_cell_below (below_alloc hb6.out _) c0) (Nat.ne_of_lt (Nat.lt_of_lt_of_le lt_c.out hb6.out.size)), cell_far4 (pw_cell_below (below_alloc hb6.out _) c1) (Nat.ne_of_lt (Nat.lt_of_lt_of_le lt_c.out hb6.out.size)), cell_far4 (pw_cell_below (below_alloc hb6.out _) c2) (Nat.ne_of_lt (Nat.lt_of_lt_of_le lt_c.out hb6.out.size)), cell_far4 (pw_cell_below (below_alloc hb6.out _) d1) (Nat.ne_of_lt (Nat.lt_of_lt_of_le lt_d.out hb6.out.size)), cell_far4 (pw_cell_below (below_alloc hb6.out _) e0) (Nat.ne_of_lt (Nat.lt_of_lt_of_le lt_g.out hb6.out.size)), cell_far4 (pw_cell_below (below_alloc hb6.out _) e1) (Nat.ne_of_lt (Nat.lt_of_lt_of_le lt_g.out hb6.out.size)), cell_far4 (pw_cell_below (below_alloc hb6.out _) e2) (Nat.ne_of_lt (Nat.lt_of_lt_of_le lt_g.out hb6.out.size)), cell_far4 (pw_cell_below (below_alloc hb6.out _) e3) (Nat.ne_of_lt (Nat.lt_of_lt_of_le lt_g.out hb6.out.size))⟩
        | with_reducible exact ⟨pw_cell_below (below_alloc hb6.out _) c0, pw_cell_below (below_alloc hb6.out _) c1, pw_cell_below (below_alloc hb6.out _) c2, pw_cell_below (below_alloc hb6.out _) d1, pw_cell_below (below_alloc hb6.out _) e0, pw_cell_below (below_alloc hb6.out _) e1, pw_cell_below (below_alloc hb6.out _) e2, pw_cell_below (below_alloc hb6.out _) e3⟩
        | with_reducible exact ⟨pw_cell_below hb6.out c0, pw_cell_below hb6.out c1, pw_cell_below hb6.out c2, pw_cell_below hb6.out d1, pw_cell_below hb6.out e0, pw_cell_below hb6.out e1, pw_cell_below hb6.out e2, pw_cell_below hb6.out e3⟩
        | with_reducible exact ⟨pw_cell_below HB9.out.drew c0, pw_cell_below HB9.out.drew c1, pw_cell_below HB9.out.drew c2, pw_cell_below HB9.out.drew d1, pw_cell_below HB9.out.drew e0, pw_cell_below HB9.out.drew e1, pw_cell_below HB9.out.drew e2, pw_cell_below HB9.out.drew e3⟩
        | with_reducible exact ⟨pw_cell_below HB9.out c0, pw_cell_below HB9.out c1, pw_cell_below HB9.out c2, pw_cell_below HB9.out d1, pw_cell_below HB9.out e0, pw_cell_below HB9.out e1, pw_cell_below HB9.out e2, pw_cell_below HB9.out e3⟩
        | exact ⟨c0, c1, c2, d1, e0, e1, e2, e3⟩)
      (first
        | (go_at_call 85; refine (HDO.out W3.drew A2 cz (KB3.out.drew) (Kd.C_below HC2.out (below_drew (Below.refl _ _))) HL2.out).mono ?_; rintro e w6 ⟨v, rfl, hR, hb⟩; obtain ⟨A6, c6, rfl⟩ := Kd.R_slice hR; have hb6 := Aside0.mk (show Below W3.heap.size W3 w6 from (below_drew (Below.refl _ _)).trans hb); have HR6 := Aside0.mk (show (Kd.int .u8).R 5 w6 W3.heap.size (fun _ => True) _ _ from hR); clear hb hR)
        | (go_at_call 85; refine (HDO.out (W3.alloc (.cells #[.int .i64 0, .int .i64 0, .slice none 0 0, .int .i64 0] 52)).drew A2 cz ((KB3.out.trans (HB9.out.mono KB3.out.size)).drew) (Kd.C_below HC2.out HB9.out.drew) HL2.out).mono ?_; rintro e w6 ⟨v, rfl, hR, hb⟩; obtain ⟨A6, c6, rfl⟩ := Kd.R_slice hR; have hb6 := Aside0.mk (show Below W3.heap.size W3 w6 from HB9.out.drew.trans (hb.mono HB9.out.size)); have HR6 := Aside0.mk (Kd.R_lower hR (show W3.heap.size ≤ (W3.alloc (.cells #[.int .i64 0, .int .i64 0, .slice none 0 0, .int .i64 0] 52)).drew.heap.size from HB9.out.size)); have BR6 := Aside0.mk (blk_below (blk_drew BL9.out) hb); clear hb hR; have r0 : w6.cell? ⟨W3.heap.size, 0, none⟩ = some (.int .i64 0) := (blk_cell BR6.out 0).trans rfl; have r1 : w6.cell? ⟨W3.heap.size, 1, none⟩ = some (.int .i64 0) := (blk_cell BR6.out 1).trans rfl; have r2 : w6.cell? ⟨W3.heap.size, 2, none⟩ = some (.slice none 0 0) := (blk_cell BR6.out 2).trans rfl; have r3 : w6.cell? ⟨W3.heap.size, 3, none⟩ = some (.int .i64 0) := (blk_cell BR6.out 3).trans rfl; have g0 : w6.frozen? ⟨W3.heap.size, 0, none⟩ = false := blk_frozen BR6.out 0; have g1 : w6.frozen? ⟨W3.heap.size, 1, none⟩ = false := blk_frozen BR6.out 1; have g2 : w6.frozen? ⟨W3.heap.size, 2, none⟩ = false := blk_frozen BR6.out 2; have g3 : w6.frozen? ⟨W3.heap.size, 3, none⟩ = false := blk_frozen BR6.out 3))
    all_goals
      first
        | (have B7 := Aside0.mk (put4 BR6.out (.int .i64 z'.f0) (.int .i64 z'.f1) (.slice A6 z'.f2.length c6) (.int .i64 z'.f3)); have hb7 := Aside0.mk (set4_below hb6.out (Nat.le_refl _) (.int .i64 z'.f0) (.int .i64 z'.f1) (.slice A6 z'.f2.length c6) (.int .i64 z'.f3)); have HR7 := Aside0.mk (set4_R HR6.out BR6.out (by decide) (.int .i64 z'.f0) (.int .i64 z'.f1) (.slice A6 z'.f2.length c6) (.int .i64 z'.f3)); generalize ((((w6.setCell ⟨W3.heap.size, 0, none⟩ (.int .i64 z'.f0)).setCell ⟨W3.heap.size, 1, none⟩ (.int .i64 z'.f1)).setCell ⟨W3.heap.size, 2, none⟩ (.slice A6 z'.f2.length c6)).setCell ⟨W3.heap.size, 3, none⟩ (.int .i64 z'.f3)) = W7 at *; clear hb6 HR6 BR6 r0 r1 r2 r3 g0 g1 g2 g3; generalize hbb : W3.heap.size = b9 at B7 ⊢; have hb9 := Aside0.mk (Nat.le_of_eq hbb); clear hbb)
        | (have B7 := Aside0.mk (blk_new w6 (.cells #[.int .i64 z'.f0, .int .i64 z'.f1, .slice A6 z'.f2.length c6, .int .i64 z'.f3] 52)); have hb7 := Aside0.mk (below_alloc hb6.out (.cells #[.int .i64 z'.f0, .int .i64 z'.f1, .slice A6 z'.f2.length c6, .int .i64 z'.f3] 52)); have HR7 := Aside0.mk (Kd.R_alloc HR6.out (.cells #[.int .i64 z'.f0, .int .i64 z'.f1, .slice A6 z'.f2.length c6, .int .i64 z'.f3] 52)); have hb9 := Aside0.mk hb6.out.size; generalize (w6.alloc (.cells #[.int .i64 z'.f0, .int .i64 z'.f1, .slice A6 z'.f2.length c6, .int .i64 z'.f3] 52)) = W7 at *; clear hb6 HR6; generalize w6.heap.size = b9 at *)
      obtain ⟨hfr, hbG, hGl, hSn⟩ := zone_back HS3.out hk0 hk1 hb7.out HR7.out (Nat.le_trans HBS.out KB3.out.size)
      have HSN := Aside0.mk hSn
      obtain ⟨cg, hcg⟩ := Kd.S_typed HS3.out G (by simp [Value.ownBlock])
      have neC := Aside0.mk (show w.heap.size ≠ G from fun h => by have h2 := KC3.out; rw [h, hcg] at h2; injection h2 with h2; injection h2 with _ h2; exact absurd h2 (by decide))
      have neD := Aside0.mk (show D ≠ G from fun h => by have h2 := Kd3.out; rw [h, hcg] at h2; injection h2 with h2; injection h2 with _ h2; exact absurd h2 (by decide))
      have neB := Aside0.mk (show b9 ≠ G from by have := hb9.out; omega)
      clear hcg
      have HGL := Aside0.mk hGl
      have HBG := Aside0.mk hbG
      clear hSn hGl hbG
      replace c1 := pw_cell_below hb7.out c1
      replace d1 := pw_cell_below hb7.out d1
      replace e0 := pw_cell_below hb7.out e0
      replace e1 := pw_cell_below hb7.out e1
      replace e2 := pw_cell_below hb7.out e2
      replace e3 := pw_cell_below hb7.out e3
      have f0 : W7.frozen? ⟨G, kn.toNat * 4, none⟩ = false := hfr 0
      have f1 := hfr 1
      have f2 := hfr 2
      have f3 := hfr 3
      have b0 : W7.cell? ⟨b9, 0, none⟩ = some (.int .i64 z'.f0) := (blk_cell B7.out 0).trans rfl
      have b1 : W7.cell? ⟨b9, 1, none⟩ = some (.int .i64 z'.f1) := (blk_cell B7.out 1).trans rfl
      have b2 : W7.cell? ⟨b9, 2, none⟩ = some (.slice A6 z'.f2.length c6) := (blk_cell B7.out 2).trans rfl
      have b3 : W7.cell? ⟨b9, 3, none⟩ = some (.int .i64 z'.f3) := (blk_cell B7.out 3).trans rfl
      clear c0 c2 hfr
      go_wp2_with fail
      go_region_held3 (fun w' => w'.cell? ⟨w.heap.size, 1, none⟩ = some (.int .i64 kn) ∧ w'.cell? ⟨D, 1, none⟩ = some (.slice (some ⟨G, 0, none⟩) l.length c) ∧ w'.cell? ⟨b9, 0, none⟩ = some (.int .i64 z'.f0) ∧ w'.cell? ⟨b9, 1, none⟩ = some (.int .i64 z'.f1) ∧ w'.cell? ⟨b9, 2, none⟩ = some (.slice A6 z'.f2.length c6) ∧ w'.cell? ⟨b9, 3, none⟩ = some (.int .i64 z'.f3))
        (first
          | with_reducible exact ⟨cell_far1 (cell_far1 (cell_far1 (cell_far1 c1 neC.out) neC.out) neC.out) neC.out, cell_far1 (cell_far1 (cell_far1 (cell_far1 d1 neD.out) neD.out) neD.out) neD.out, cell_far1 (cell_far1 (cell_far1 (cell_far1 b0 neB.out) neB.out) neB.out) neB.out, cell_far1 (cell_far1 (cell_far1 (cell_far1 b1 neB.out) neB.out) neB.out) neB.out, cell_far1 (cell_far1 (cell_far1 (cell_far1 b2 neB.out) neB.out) neB.out) neB.out, cell_far1 (cell_far1 (cell_far1 (cell_far1 b3 neB.out) neB.out) neB.out) neB.out⟩
          | with_reducible exact ⟨cell_drew1 (cell_far1 (cell_far1 (cell_far1 (cell_far1 c1 neC.out) neC.out) neC.out) neC.out), cell_drew1 (cell_far1 (cell_far1 (cell_far1 (cell_far1 d1 neD.out) neD.out) neD.out) neD.out), cell_drew1 (cell_far1 (cell_far1 (cell_far1 (cell_far1 b0 neB.out) neB.out) neB.out) neB.out), cell_drew1 (cell_far1 (cell_far1 (cell_far1 (cell_far1 b1 neB.out) neB.out) neB.out) neB.out), cell_drew1 (cell_far1 (cell_far1 (cell_far1 (cell_far1 b2 neB.out) neB.out) neB.out) neB.out), cell_drew1 (cell_far1 (cell_far1 (cell_far1 (cell_far1 b3 neB.out) neB.out) neB.out) neB.out)⟩
          | exact ⟨c1, d1, b0, b1, b2, b3⟩)
        (first | fail)
      all_goals
        go_wp2_with fail
        go_ret
        first
          | exact DonePost50.mk1 HSN.out KB3.out hb7.out HB.out HBS.out HBG.out HGL.out
          | exact DonePost50.mk0 HSN.out KB3.out hb7.out HB.out HBS.out HBG.out HGL.out
set_option maxHeartbeats 8000000 in
set_option maxRecDepth 100000 in
theorem done87_calls (z' : S52) (kn : Int) (Ab : Option Addr) (nb cb : Nat) (D G : Nat) (size : Int) (c : Nat) (l : List S52) (left : Int) (down : Bool) (done : Int) (base : Nat) (w0 w : World)
    (hk0 : 0 ≤ kn) (hk1 : kn < l.length) (hlen : l.length ≤ 9223372036854775806)
    (hD : w.heap[D]? = some (.cells #[.int .i64 size, .slice (some ⟨G, 0, none⟩) l.length c, .int .i64 left, .bool down, .int .i64 done] 27 (0, 0)))
    (hS : Kd.S k52 52 w base (fun _ => True) (.slice (some ⟨G, 0, none⟩) l.length c) l) (hB : Below base w0 w) (hbase : base ≤ w.heap.size)
    (hdo : ∀ (W : World) (A2 : Option Addr) (c2 : Nat), Below w.heap.size w W → (Kd.int .u8).C W A2 (rd_T52 l kn).f2.length (rd_T52 l kn).f2 → (rd_T52 l kn).f2.length ≤ c2 →
      Calls Try.prog 87 #[.agg #[.int .i64 3, .int .i64 kn, .slice Ab nb cb], .pointer (some ⟨D, 0, none⟩), .agg #[.int .i64 (rd_T52 l kn).f0, .int .i64 (rd_T52 l kn).f1, .slice A2 (rd_T52 l kn).f2.length c2, .int .i64 (rd_T52 l kn).f3]] W (ZonePost W z' 0)) :
    Calls Try.prog 50 #[.pointer (some ⟨D, 0, none⟩), .agg #[.int .i64 3, .int .i64 kn, .slice Ab nb cb]] w (DonePost50 w w0 base G c (l.set kn.toNat z')) := by
  have hu52 := Try.underlying52
  have hu27 := Try.underlying27
  have hu56 := Try.underlying56
  have hu25 := Try.underlying25
  have hkl : decide (kn < 0) = false := decide_eq_false (by omega)
  have hkh : decide ((l.length : Int) ≤ kn) = false := decide_eq_false (by omega)
  have hb1 := below_alloc (Below.refl w.heap.size w) (.cells #[.int .i64 3, .int .i64 kn, .slice Ab nb cb] 56)
  have bC := blk_new w (.cells #[.int .i64 3, .int .i64 kn, .slice Ab nb cb] 56)
  have HD := Aside0.mk (blk_below hD hb1)
  have HK := Aside0.mk (And.intro hk0 (And.intro hk1 hlen))
  have HDO := Aside0.mk hdo
  have HS := Aside0.mk hS
  have HB := Aside0.mk hB
  have HBS := Aside0.mk hbase
  clear hk0 hk1 hlen hD hdo hS hB hbase
  go_enter Try.func50, Try.ntmps50
  go_wp2_with fail
  generalize (w.alloc (.cells #[.int .i64 3, .int .i64 kn, .slice Ab nb cb] 56)) = W at *
  have KBC := Aside0.mk bC
  have KB := Aside0.mk hb1
  have c0 : W.cell? ⟨w.heap.size, 0, none⟩ = some (.int .i64 3) := (blk_cell bC 0).trans rfl
  clear bC hb1
  go_region_held3 (fun w' => w'.cell? ⟨w.heap.size, 0, none⟩ = some (.int .i64 3))
    (first
      | with_reducible exact pw_cell_below hb2.out c0
      | exact c0)
    (first
      | (go_at_call 71; refine (does_calls2 W.drew).mono ?_; rintro e w2 ⟨r, rfl, hm, hb⟩; have hb2 := Aside0.mk (show Below W.heap.size W w2 from (below_drew (Below.refl _ _)).trans hb); have lk := look_run w2 r hm 3 87 (by decide); unfold fnv at lk; clear hb hm)
      | fail)
  all_goals
    have c0' := pw_cell_below hb2.out c0
    have c1' : w2.cell? ⟨w.heap.size, 1, none⟩ = some (.int .i64 kn) := pw_cell_below hb2.out ((blk_cell KBC.out 1).trans rfl)
    have c2' : w2.cell? ⟨w.heap.size, 2, none⟩ = some (.slice Ab nb cb) := pw_cell_below hb2.out ((blk_cell KBC.out 2).trans rfl)
    have d1' : w2.cell? ⟨D, 1, none⟩ = some (.slice (some ⟨G, 0, none⟩) l.length c) := pw_cell_below hb2.out ((blk_cell HD.out 1).trans rfl)
    go_wp2_with fail
    go_quiet (fail)
    go_wp2_with fail
    have KB3 := Aside0.mk (show Below w.heap.size w (w2.drewN nq) from pw_below_drewN (KB.out.trans (hb2.out.mono KB.out.size)) nq)
    have Kd3 := Aside0.mk (show (w2.drewN nq).heap[D]? = _ from blk_below HD.out (pw_below_drewN hb2.out nq))
    have KC3 := Aside0.mk (show (w2.drewN nq).heap[w.heap.size]? = _ from blk_below KBC.out (pw_below_drewN hb2.out nq))
    clear c0 c0' c1' c2' d1'
    generalize w2.drewN nq = W3 at *
    clear hb2 lk KB KBC HD
    have HS3 := Aside0.mk (Kd.S_below HS.out KB3.out)
    obtain ⟨ad, A2, cz, ea, e0, e1, e2, e3, l2, C2⟩ := at_T52 (Kd.S_reads' HS3.out).2.2 kn HK.out.1 HK.out.2.1
    obtain rfl := Option.some.inj ea
    clear ea
    have HL2 := Aside0.mk l2
    have HC2 := Aside0.mk C2
    clear l2 C2
    have c0 : W3.cell? ⟨w.heap.size, 0, none⟩ = some (.int .i64 3) := (blk_cell KC3.out 0).trans rfl
    have c1 : W3.cell? ⟨w.heap.size, 1, none⟩ = some (.int .i64 kn) := (blk_cell KC3.out 1).trans rfl
    have c2 : W3.cell? ⟨w.heap.size, 2, none⟩ = some (.slice Ab nb cb) := (blk_cell KC3.out 2).trans rfl
    have d1 : W3.cell? ⟨D, 1, none⟩ = some (.slice (some ⟨G, 0, none⟩) l.length c) := (blk_cell Kd3.out 1).trans rfl
    have hk0 : 0 ≤ kn := HK.out.1
    have hk1 : kn < (l.length : Int) := HK.out.2.1
    have ead : (⟨G, 0, none⟩ : Addr).add (kn.toNat * 4) = ⟨G, kn.toNat * 4, none⟩ := by exact add_plain _ _
    simp only [ead] at e0 e1 e2 e3
    clear ead
    have HB9 := Aside0.mk (below_alloc (Below.refl W3.heap.size W3) (.cells #[.int .i64 0, .int .i64 0, .slice none 0 0, .int .i64 0] 52))
    have BL9 := Aside0.mk (blk_new W3 (.cells #[.int .i64 0, .int .i64 0, .slice none 0 0, .int .i64 0] 52))
    have lt_c := Aside0.mk (World.block_lt_of_cell? W3 _ c0)
    have lt_d := Aside0.mk (World.block_lt_of_cell? W3 _ d1)
    have lt_g := Aside0.mk (World.block_lt_of_cell? W3 _ e0)
    go_region_held3 (fun w' => w'.cell? ⟨w.heap.size, 0, none⟩ = some (.int .i64 3) ∧ w'.cell? ⟨w.heap.size, 1, none⟩ = some (.int .i64 kn) ∧ w'.cell? ⟨w.heap.size, 2, none⟩ = some (.slice Ab nb cb) ∧ w'.cell? ⟨D, 1, none⟩ = some (.slice (some ⟨G, 0, none⟩) l.length c) ∧ w'.cell? ⟨G, kn.toNat * 4, none⟩ = some (.int .i64 (rd_T52 l kn).f0) ∧ w'.cell? ⟨G, kn.toNat * 4 + 1, none⟩ = some (.int .i64 (rd_T52 l kn).f1) ∧ w'.cell? ⟨G, kn.toNat * 4 + 2, none⟩ = some (.slice A2 (rd_T52 l kn).f2.length cz) ∧ w'.cell? ⟨G, kn.toNat * 4 + 3, none⟩ = some (.int .i64 (rd_T52 l kn).f3))
      (first
        | with_reducible exact ⟨cell_far4 (pw_cell_below hb6.out c0) (Nat.ne_of_lt lt_c.out), cell_far4 (pw_cell_below hb6.out c1) (Nat.ne_of_lt lt_c.out), cell_far4 (pw_cell_below hb6.out c2) (Nat.ne_of_lt lt_c.out), cell_far4 (pw_cell_below hb6.out d1) (Nat.ne_of_lt lt_d.out), cell_far4 (pw_cell_below hb6.out e0) (Nat.ne_of_lt lt_g.out), cell_far4 (pw_cell_below hb6.out e1) (Nat.ne_of_lt lt_g.out), cell_far4 (pw_cell_below hb6.out e2) (Nat.ne_of_lt lt_g.out), cell_far4 (pw_cell_below hb6.out e3) (Nat.ne_of_lt lt_g.out)⟩
        | with_reducible exact ⟨cell_far4 (pw_cell_below (below_alloc hb6.out _) c0) (Nat.ne_of_lt (Nat.lt_of_lt_of_le lt_c.out hb6.out.size)), cell_far4 (pw_cell_below (below_alloc hb6.out _) c1) (Nat.ne_of_lt (Nat.lt_of_lt_of_le lt_c.out hb6.out.size)), cell_far4 (pw_cell_below (below_alloc hb6.out _) c2) (Nat.ne_of_lt (Nat.lt_of_lt_of_le lt_c.out hb6.out.size)), cell_far4 (pw_cell_below (below_alloc hb6.out _) d1) (Nat.ne_of_lt (Nat.lt_of_lt_of_le lt_d.out hb6.out.size)), cell_far4 (pw_cell_below (below_alloc hb6.out _) e0) (Nat.ne_of_lt (Nat.lt_of_lt_of_le lt_g.out hb6.out.size)), cell_far4 (pw_cell_below (below_alloc hb6.out _) e1) (Nat.ne_of_lt (Nat.lt_of_lt_of_le lt_g.out hb6.out.size)), cell_far4 (pw_cell_below (below_alloc hb6.out _) e2) (Nat.ne_of_lt (Nat.lt_of_lt_of_le lt_g.out hb6.out.size)), cell_far4 (pw_cell_below (below_alloc hb6.out _) e3) (Nat.ne_of_lt (Nat.lt_of_lt_of_le lt_g.out hb6.out.size))⟩
        | with_reducible exact ⟨pw_cell_below (below_alloc hb6.out _) c0, pw_cell_below (below_alloc hb6.out _) c1, pw_cell_below (below_alloc hb6.out _) c2, pw_cell_below (below_alloc hb6.out _) d1, pw_cell_below (below_alloc hb6.out _) e0, pw_cell_below (below_alloc hb6.out _) e1, pw_cell_below (below_alloc hb6.out _) e2, pw_cell_below (below_alloc hb6.out _) e3⟩
        | with_reducible exact ⟨pw_cell_below hb6.out c0, pw_cell_below hb6.out c1, pw_cell_below hb6.out c2, pw_cell_below hb6.out d1, pw_cell_below hb6.out e0, pw_cell_below hb6.out e1, pw_cell_below hb6.out e2, pw_cell_below hb6.out e3⟩
        | with_reducible exact ⟨pw_cell_below HB9.out.drew c0, pw_cell_below HB9.out.drew c1, pw_cell_below HB9.out.drew c2, pw_cell_below HB9.out.drew d1, pw_cell_below HB9.out.drew e0, pw_cell_below HB9.out.drew e1, pw_cell_below HB9.out.drew e2, pw_cell_below HB9.out.drew e3⟩
        | with_reducible exact ⟨pw_cell_below HB9.out c0, pw_cell_below HB9.out c1, pw_cell_below HB9.out c2, pw_cell_below HB9.out d1, pw_cell_below HB9.out e0, pw_cell_below HB9.out e1, pw_cell_below HB9.out e2, pw_cell_below HB9.out e3⟩
        | exact ⟨c0, c1, c2, d1, e0, e1, e2, e3⟩)
      (first
        | (go_at_call 87; refine (HDO.out W3.drew A2 cz (KB3.out.drew) (Kd.C_below HC2.out (below_drew (Below.refl _ _))) HL2.out).mono ?_; rintro e w6 ⟨v, rfl, hR, hb⟩; obtain ⟨A6, c6, rfl⟩ := Kd.R_slice hR; have hb6 := Aside0.mk (show Below W3.heap.size W3 w6 from (below_drew (Below.refl _ _)).trans hb); have HR6 := Aside0.mk (show (Kd.int .u8).R 5 w6 W3.heap.size (fun _ => True) _ _ from hR); clear hb hR)
        | (go_at_call 87; refine (HDO.out (W3.alloc (.cells #[.int .i64 0, .int .i64 0, .slice none 0 0, .int .i64 0] 52)).drew A2 cz ((KB3.out.trans (HB9.out.mono KB3.out.size)).drew) (Kd.C_below HC2.out HB9.out.drew) HL2.out).mono ?_; rintro e w6 ⟨v, rfl, hR, hb⟩; obtain ⟨A6, c6, rfl⟩ := Kd.R_slice hR; have hb6 := Aside0.mk (show Below W3.heap.size W3 w6 from HB9.out.drew.trans (hb.mono HB9.out.size)); have HR6 := Aside0.mk (Kd.R_lower hR (show W3.heap.size ≤ (W3.alloc (.cells #[.int .i64 0, .int .i64 0, .slice none 0 0, .int .i64 0] 52)).drew.heap.size from HB9.out.size)); have BR6 := Aside0.mk (blk_below (blk_drew BL9.out) hb); clear hb hR; have r0 : w6.cell? ⟨W3.heap.size, 0, none⟩ = some (.int .i64 0) := (blk_cell BR6.out 0).trans rfl; have r1 : w6.cell? ⟨W3.heap.size, 1, none⟩ = some (.int .i64 0) := (blk_cell BR6.out 1).trans rfl; have r2 : w6.cell? ⟨W3.heap.size, 2, none⟩ = some (.slice none 0 0) := (blk_cell BR6.out 2).trans rfl; have r3 : w6.cell? ⟨W3.heap.size, 3, none⟩ = some (.int .i64 0) := (blk_cell BR6.out 3).trans rfl; have g0 : w6.frozen? ⟨W3.heap.size, 0, none⟩ = false := blk_frozen BR6.out 0; have g1 : w6.frozen? ⟨W3.heap.size, 1, none⟩ = false := blk_frozen BR6.out 1; have g2 : w6.frozen? ⟨W3.heap.size, 2, none⟩ = false := blk_frozen BR6.out 2; have g3 : w6.frozen? ⟨W3.heap.size, 3, none⟩ = false := blk_frozen BR6.out 3))
    all_goals
      first
        | (have B7 := Aside0.mk (put4 BR6.out (.int .i64 z'.f0) (.int .i64 z'.f1) (.slice A6 z'.f2.length c6) (.int .i64 z'.f3)); have hb7 := Aside0.mk (set4_below hb6.out (Nat.le_refl _) (.int .i64 z'.f0) (.int .i64 z'.f1) (.slice A6 z'.f2.length c6) (.int .i64 z'.f3)); have HR7 := Aside0.mk (set4_R HR6.out BR6.out (by decide) (.int .i64 z'.f0) (.int .i64 z'.f1) (.slice A6 z'.f2.length c6) (.int .i64 z'.f3)); generalize ((((w6.setCell ⟨W3.heap.size, 0, none⟩ (.int .i64 z'.f0)).setCell ⟨W3.heap.size, 1, none⟩ (.int .i64 z'.f1)).setCell ⟨W3.heap.size, 2, none⟩ (.slice A6 z'.f2.length c6)).setCell ⟨W3.heap.size, 3, none⟩ (.int .i64 z'.f3)) = W7 at *; clear hb6 HR6 BR6 r0 r1 r2 r3 g0 g1 g2 g3; generalize hbb : W3.heap.size = b9 at B7 ⊢; have hb9 := Aside0.mk (Nat.le_of_eq hbb); clear hbb)
        | (have B7 := Aside0.mk (blk_new w6 (.cells #[.int .i64 z'.f0, .int .i64 z'.f1, .slice A6 z'.f2.length c6, .int .i64 z'.f3] 52)); have hb7 := Aside0.mk (below_alloc hb6.out (.cells #[.int .i64 z'.f0, .int .i64 z'.f1, .slice A6 z'.f2.length c6, .int .i64 z'.f3] 52)); have HR7 := Aside0.mk (Kd.R_alloc HR6.out (.cells #[.int .i64 z'.f0, .int .i64 z'.f1, .slice A6 z'.f2.length c6, .int .i64 z'.f3] 52)); have hb9 := Aside0.mk hb6.out.size; generalize (w6.alloc (.cells #[.int .i64 z'.f0, .int .i64 z'.f1, .slice A6 z'.f2.length c6, .int .i64 z'.f3] 52)) = W7 at *; clear hb6 HR6; generalize w6.heap.size = b9 at *)
      obtain ⟨hfr, hbG, hGl, hSn⟩ := zone_back HS3.out hk0 hk1 hb7.out HR7.out (Nat.le_trans HBS.out KB3.out.size)
      have HSN := Aside0.mk hSn
      obtain ⟨cg, hcg⟩ := Kd.S_typed HS3.out G (by simp [Value.ownBlock])
      have neC := Aside0.mk (show w.heap.size ≠ G from fun h => by have h2 := KC3.out; rw [h, hcg] at h2; injection h2 with h2; injection h2 with _ h2; exact absurd h2 (by decide))
      have neD := Aside0.mk (show D ≠ G from fun h => by have h2 := Kd3.out; rw [h, hcg] at h2; injection h2 with h2; injection h2 with _ h2; exact absurd h2 (by decide))
      have neB := Aside0.mk (show b9 ≠ G from by have := hb9.out; omega)
      clear hcg
      have HGL := Aside0.mk hGl
      have HBG := Aside0.mk hbG
      clear hSn hGl hbG
      replace c1 := pw_cell_below hb7.out c1
      replace d1 := pw_cell_below hb7.out d1
      replace e0 := pw_cell_below hb7.out e0
      replace e1 := pw_cell_below hb7.out e1
      replace e2 := pw_cell_below hb7.out e2
      replace e3 := pw_cell_below hb7.out e3
      have f0 : W7.frozen? ⟨G, kn.toNat * 4, none⟩ = false := hfr 0
      have f1 := hfr 1
      have f2 := hfr 2
      have f3 := hfr 3
      have b0 : W7.cell? ⟨b9, 0, none⟩ = some (.int .i64 z'.f0) := (blk_cell B7.out 0).trans rfl
      have b1 : W7.cell? ⟨b9, 1, none⟩ = some (.int .i64 z'.f1) := (blk_cell B7.out 1).trans rfl
      have b2 : W7.cell? ⟨b9, 2, none⟩ = some (.slice A6 z'.f2.length c6) := (blk_cell B7.out 2).trans rfl
      have b3 : W7.cell? ⟨b9, 3, none⟩ = some (.int .i64 z'.f3) := (blk_cell B7.out 3).trans rfl
      clear c0 c2 hfr
      go_wp2_with fail
      go_region_held3 (fun w' => w'.cell? ⟨w.heap.size, 1, none⟩ = some (.int .i64 kn) ∧ w'.cell? ⟨D, 1, none⟩ = some (.slice (some ⟨G, 0, none⟩) l.length c) ∧ w'.cell? ⟨b9, 0, none⟩ = some (.int .i64 z'.f0) ∧ w'.cell? ⟨b9, 1, none⟩ = some (.int .i64 z'.f1) ∧ w'.cell? ⟨b9, 2, none⟩ = some (.slice A6 z'.f2.length c6) ∧ w'.cell? ⟨b9, 3, none⟩ = some (.int .i64 z'.f3))
        (first
          | with_reducible exact ⟨cell_far1 (cell_far1 (cell_far1 (cell_far1 c1 neC.out) neC.out) neC.out) neC.out, cell_far1 (cell_far1 (cell_far1 (cell_far1 d1 neD.out) neD.out) neD.out) neD.out, cell_far1 (cell_far1 (cell_far1 (cell_far1 b0 neB.out) neB.out) neB.out) neB.out, cell_far1 (cell_far1 (cell_far1 (cell_far1 b1 neB.out) neB.out) neB.out) neB.out, cell_far1 (cell_far1 (cell_far1 (cell_far1 b2 neB.out) neB.out) neB.out) neB.out, cell_far1 (cell_far1 (cell_far1 (cell_far1 b3 neB.out) neB.out) neB.out) neB.out⟩
          | with_reducible exact ⟨cell_drew1 (cell_far1 (cell_far1 (cell_far1 (cell_far1 c1 neC.out) neC.out) neC.out) neC.out), cell_drew1 (cell_far1 (cell_far1 (cell_far1 (cell_far1 d1 neD.out) neD.out) neD.out) neD.out), cell_drew1 (cell_far1 (cell_far1 (cell_far1 (cell_far1 b0 neB.out) neB.out) neB.out) neB.out), cell_drew1 (cell_far1 (cell_far1 (cell_far1 (cell_far1 b1 neB.out) neB.out) neB.out) neB.out), cell_drew1 (cell_far1 (cell_far1 (cell_far1 (cell_far1 b2 neB.out) neB.out) neB.out) neB.out), cell_drew1 (cell_far1 (cell_far1 (cell_far1 (cell_far1 b3 neB.out) neB.out) neB.out) neB.out)⟩
          | exact ⟨c1, d1, b0, b1, b2, b3⟩)
        (first | fail)
      all_goals
        go_wp2_with fail
        go_ret
        first
          | exact DonePost50.mk1 HSN.out KB3.out hb7.out HB.out HBS.out HBG.out HGL.out
          | exact DonePost50.mk0 HSN.out KB3.out hb7.out HB.out HBS.out HBG.out HGL.out
end Go.Proofs.Ytdgefplbfffenaa.X
namespace Go.Proofs.Ytdgefplbfffenaa.X
open Go.Shelf Go.RowKit Go.Proofs.YtdgefplbfffenaaW.PrintWords Go.Proofs.YtdgefplbfffenaaW.PrintLast Go.Proofs.YtdgefplbfffenaaW.PrintMore
/-- A zone's cells, its data's slice value given. -/
def zr (z : S52) (v : Value) : List Value := [.int .i64 z.f0, .int .i64 z.f1, v, .int .i64 z.f3]
/-- That the values of a list are slices that read the zones' data. -/
def Datas (w : World) (l : List S52) (vs : List Value) : Prop :=
  vs.length = l.length ∧ ∀ i (h : i < l.length), ∃ A2 c2, vs[i]? = some (.slice A2 l[i].f2.length c2) ∧ l[i].f2.length ≤ c2 ∧ (Kd.int .u8).C w A2 l[i].f2.length l[i].f2
theorem c_rows {w : World} {A : Option Addr} {l : List S52} (h : k52.C w A l.length l) : ∃ vs, Datas w l vs ∧ (Kd.raw 4).C w A l.length (List.zipWith zr l vs) := by
  rcases Nat.eq_zero_or_pos l.length with h0 | h0
  · obtain rfl := List.eq_nil_of_length_eq_zero h0
    exact ⟨[], ⟨rfl, fun i hi => absurd hi (Nat.not_lt_zero _)⟩, rfl, h.2.1, fun h => absurd h (Nat.lt_irrefl _)⟩
  · obtain ⟨ad, hA, hc⟩ := h.2.2 h0
    have hj : ∀ j : Fin l.length, ∃ v : Value, ∃ A2 c2, v = .slice A2 l[j].f2.length c2 ∧ l[j].f2.length ≤ c2 ∧ (Kd.int .u8).C w A2 l[j].f2.length l[j].f2 ∧ (∀ i u, (zr l[j] v)[i]? = some u → w.cell? (ad.add (j.val * 4 + i)) = some u) ∧ ∀ u ∈ zr l[j] v, u.oneCell' = true := by
      intro j
      obtain ⟨c, hcl, hK, hcell⟩ := hc j.val l[j] (List.getElem?_eq_getElem j.isLt)
      have hone := k52.K_one hK
      obtain ⟨A2, c2, rfl, hl, hC⟩ := k52_open hK
      exact ⟨_, A2, c2, rfl, hl, hC, hcell, hone⟩
    obtain ⟨f, hf⟩ := Classical.axiomOfChoice hj
    refine ⟨List.ofFn f, ⟨List.length_ofFn, fun i hi => ?_⟩, by rw [List.length_zipWith, List.length_ofFn, Nat.min_self], h.2.1, fun _ => ⟨ad, hA, fun j p hp => ?_⟩⟩
    · obtain ⟨A2, c2, he, hl, hC, _⟩ := hf ⟨i, hi⟩
      exact ⟨A2, c2, by rw [List.getElem?_ofFn, dif_pos hi, he]; rfl, hl, hC⟩
    · have hjl : j < l.length := by have := (List.getElem?_eq_some_iff.1 hp).1; rw [List.length_zipWith, List.length_ofFn] at this; omega
      obtain ⟨A2, c2, he, hl, hC, hcell, hone⟩ := hf ⟨j, hjl⟩
      have hpe : p = zr l[j] (f ⟨j, hjl⟩) := by
        rw [List.getElem?_zipWith, List.getElem?_eq_getElem hjl, List.getElem?_ofFn, dif_pos hjl] at hp
        exact (Option.some.inj hp).symm
      subst hpe
      exact ⟨_, rfl, ⟨rfl, rfl, hone⟩, hcell⟩
set_option maxHeartbeats 4000000 in
set_option maxRecDepth 100000 in
/-- slices.Clone of zones: a row of its own, the datas' slices as they were. -/
theorem zonesClone_calls (A : Option Addr) (c : Nat) (l : List S52) (vs : List Value) (w : World) (hv : vs.length = l.length) (hR : (Kd.raw 4).C w A l.length (List.zipWith zr l vs)) (hlim : l.length * 48 ≤ 140737488355328) :
    Calls Try.prog 69 #[.slice A l.length c] w fun e w' => ∃ v : Value, e = .returned v ∧ (Kd.raw 4).R 52 w' w.heap.size (fun _ => True) v (List.zipWith zr l vs) ∧ Below w.heap.size w w' := by
  have hlr : (List.zipWith zr l vs).length = l.length := by rw [List.length_zipWith, hv, Nat.min_self]
  have HR := Aside0.mk hR
  have HL := Aside0.mk hlim
  have HLR := Aside0.mk hlr
  clear hR hlim hlr
  cases A with
  | none =>
    have h0 : l = [] := by
      rcases Nat.eq_zero_or_pos l.length with h0 | h0
      · exact List.eq_nil_of_length_eq_zero h0
      · obtain ⟨ad, h, _⟩ := HR.out.2.2 h0
        cases h
    subst h0
    obtain rfl := List.eq_nil_of_length_eq_zero hv
    have qT : ∀ (w : World) (a : Option Addr) (n c n' c' : Nat), (binOp .eql 25 (.slice a n c) (.slice none n' c')).run Try.prog w = .ok (.bool a.isNone) w := fun w a n c n' c' => Lib.run_eql_slice_nil w _ _ a n c n' c' Try.underlying25
    go_enter Try.func69, Try.ntmps69
    go_wp2
    go_ret
    exact ⟨_, rfl, Kd.R_nil _ _ _ _ _, Below.refl _ _⟩
  | some ad =>
    have qT : ∀ (w : World) (a : Option Addr) (n c n' c' : Nat), (binOp .eql 25 (.slice a n c) (.slice none n' c')).run Try.prog w = .ok (.bool a.isNone) w := fun w a n c n' c' => Lib.run_eql_slice_nil w _ _ a n c n' c' Try.underlying25
    go_enter Try.func69, Try.ntmps69
    go_wp2_with (first
      | ((with_reducible refine gate_dst (N := 5) rfl ?_); refine Kd.R_lit (Kd.raw 4) (w0 := w) w.heap.size 52 ?hg (N := 5) ?hd (xs := ([] : List (List Value))) (inner := []) (ok := fun _ => True) (okp := fun _ => True) ?hr ?hp (fun _ hk => hk) trivial (Below.refl _ _) (Nat.le_refl _) (by simp) ?_; (case hd => rfl); (case hg => rfl); (case hr => first | (go_simp; done) | (go_simp; rfl)); (case hp => exact (Reps.none _ _)); intro v1 w1 hR1 hB1 _ _)
      | (at_builtin; refine Kd.R_append_rows (Kd.raw 4) (w0 := w) w.heap.size rfl (.tmp 5) (.tmp 6) 25 52 _ 48 rfl Try.underlying25 info52 rfl (by decide) (by omega) v1 [] (List.zipWith zr l vs) _ _ _ (fun _ => True) (fun _ => False) rfl rfl hR1 (Kd.C_below HR.out hB1) (fun _ _ h => h) (fun _ h => h.elim) (fun _ _ => trivial) hB1 hB1.size ?_ ?_; (case _ => have := HL.out; simp; omega); intro v2 w2 hR2 hB2 _ _))
    go_ret
    exact ⟨_, rfl, hR2, hB2⟩
end Go.Proofs.Ytdgefplbfffenaa.X
namespace Go.Proofs.Ytdgefplbfffenaa.X
open Go.Shelf Go.RowKit Go.Proofs.YtdgefplbfffenaaW.PrintWords Go.Proofs.YtdgefplbfffenaaW.PrintLast Go.Proofs.YtdgefplbfffenaaW.PrintMore
/-- dev.own's loop: the datas of the zones ahead of i are the row's own by now. -/
def OwnInv (W : World) (b G cap : Nat) (l : List S52) (vs0 : List Value) (i : Nat) : Prop :=
  ∃ (vs : List Value) (f : Nat → Nat), vs.length = l.length ∧ (Kd.raw 4).R 52 W b (fun _ => True) (.slice (some ⟨G, 0, none⟩) l.length cap) (List.zipWith zr l vs) ∧ (∀ j, i ≤ j → vs[j]? = vs0[j]?) ∧
    ∀ j (h : j < l.length), j < i → ∃ u, vs[j]? = some u ∧ (Kd.int .u8).R 5 W b (fun k => f k = j ∧ k ≠ G) u l[j].f2
theorem own_start {W : World} {b G cap : Nat} {l : List S52} {vs0 : List Value} (hv : vs0.length = l.length) (hR : (Kd.raw 4).R 52 W b (fun _ => True) (.slice (some ⟨G, 0, none⟩) l.length cap) (List.zipWith zr l vs0)) : OwnInv W b G cap l vs0 0 :=
  ⟨vs0, fun _ => 0, hv, hR, fun _ _ => rfl, fun _ _ h => absurd h (Nat.not_lt_zero _)⟩
theorem own_below {W W1 : World} {b G cap : Nat} {l : List S52} {vs0 : List Value} {i : Nat} (h : OwnInv W b G cap l vs0 i) (hb : Below W.heap.size W W1) : OwnInv W1 b G cap l vs0 i := by
  obtain ⟨vs, f, h1, h2, h3, h4⟩ := h
  exact ⟨vs, f, h1, Kd.R_below h2 hb, h3, fun j hj hi => by obtain ⟨u, e, hR⟩ := h4 j hj hi; exact ⟨u, e, Kd.R_below hR hb⟩⟩
theorem own_elem {w W : World} {b G cap : Nat} {l : List S52} {vs0 : List Value} {i : Nat} (h : OwnInv W b G cap l vs0 i) (hi : i < l.length) (hD : Datas w l vs0) (hb : Below w.heap.size w W) :
    ∃ A2 c2, W.cell? ⟨G, i * 4 + 2, none⟩ = some (.slice A2 l[i].f2.length c2) ∧ W.frozen? ⟨G, i * 4 + 2, none⟩ = false ∧ l[i].f2.length ≤ c2 ∧ (Kd.int .u8).C W A2 l[i].f2.length l[i].f2 := by
  obtain ⟨vs, f, hv, hR, h3, _⟩ := h
  obtain ⟨A2, c2, he, hl, hC⟩ := hD.2 i hi
  have hve : vs[i]? = some (.slice A2 l[i].f2.length c2) := (h3 i (Nat.le_refl _)).trans he
  obtain ⟨c, _, hM, hcell, hfr⟩ := Kd.R_elem hR [] (i : Int) (by omega) (by omega)
  have hx : (List.zipWith zr l vs).getD (i : Int).toNat [] = zr l[i] (.slice A2 l[i].f2.length c2) := by
    rw [Int.toNat_natCast, List.getD_eq_getElem?_getD, List.getElem?_zipWith, List.getElem?_eq_getElem hi, hve]; rfl
  have hc : c = zr l[i] (.slice A2 l[i].f2.length c2) := by rw [← hx]; exact hM.1
  subst hc
  exact ⟨A2, c2, hcell 2 _ rfl, hfr 2, hl, Kd.C_below hC hb⟩
theorem own_slot {W W6 : World} {b G cap : Nat} {l : List S52} {vs0 : List Value} {i : Nat} (h : OwnInv W b G cap l vs0 i) (hi : i < l.length) (hb : Below W.heap.size W W6) :
    (∃ u, W6.cell? ⟨G, i * 4 + 2, none⟩ = some u) ∧ W6.frozen? ⟨G, i * 4 + 2, none⟩ = false := by
  obtain ⟨vs, f, hvl, hR, _, _⟩ := own_below h hb
  obtain ⟨c, hcl, _, hcell, hfr⟩ := Kd.R_elem hR [] (i : Int) (by omega) (by omega)
  have h4 : c.length = 4 := hcl
  exact ⟨⟨_, hcell 2 _ (List.getElem?_eq_getElem (show 2 < c.length by omega))⟩, hfr 2⟩
theorem zip_set (l : List S52) (vs : List Value) (i : Nat) (hi : i < l.length) (v : Value) : (List.zipWith zr l vs).set i (zr l[i] v) = List.zipWith zr l (vs.set i v) := by
  apply List.ext_getElem?
  intro j
  rw [List.getElem?_zipWith, List.getElem?_set, List.getElem?_set]
  by_cases hj : i = j
  · subst hj
    simp only [if_true, List.length_zipWith, List.getElem?_eq_getElem hi]
    by_cases hv : i < vs.length
    · rw [if_pos (by omega), if_pos hv]
    · rw [if_neg (by omega), if_neg hv]
  · rw [if_neg hj, if_neg hj, List.getElem?_zipWith]
open Classical in
theorem own_step {W W6 : World} {b G cap : Nat} {l : List S52} {vs0 : List Value} {i : Nat} {v : Value} (h : OwnInv W b G cap l vs0 i) (hi : i < l.length) (hbw : b ≤ W.heap.size) (hb : Below W.heap.size W W6) (hv : (Kd.int .u8).R 5 W6 W.heap.size (fun _ => True) v l[i].f2) :
    OwnInv (W6.setCell ⟨G, i * 4 + 2, none⟩ v) b G cap l vs0 (i + 1) := by
  have h6 := own_below h hb
  obtain ⟨vs, f, hvl, hR, h3, h4⟩ := h
  have hGl : G < W.heap.size := Kd.R_lt hR G (by simp [Value.ownBlock])
  have hR6 := Kd.R_below hR hb
  obtain ⟨cg, hcg⟩ := Kd.R_typed hR6 G (by simp [Value.ownBlock])
  obtain ⟨c, hcl, hM, hcell, hfr⟩ := Kd.R_elem hR6 [] (i : Int) (by omega) (by omega)
  have hil : i < vs.length := by omega
  have hx : (List.zipWith zr l vs).getD (i : Int).toNat [] = zr l[i] vs[i] := by
    rw [Int.toNat_natCast, List.getD_eq_getElem?_getD, List.getElem?_zipWith, List.getElem?_eq_getElem hi, List.getElem?_eq_getElem hil]; rfl
  have hc : c = zr l[i] vs[i] := by rw [← hx]; exact hM.1
  subst hc
  have hvo := (Kd.R_val hv).2
  have hone : ∀ u ∈ zr l[i] v, u.oneCell' = true := by
    intro u hu
    simp only [zr, List.mem_cons, List.not_mem_nil, or_false] at hu
    rcases hu with rfl | rfl | rfl | rfl
    · rfl
    · rfl
    · exact hvo
    · rfl
  have hs := (Kd.R_seg (okp := fun _ => False) hR6 (i : Int) (by omega) (by omega) (c := zr l[i] vs[i]) (seg := [v]) (j := 2) rfl hcell (show 2 + 1 ≤ 4 by omega) (x' := zr l[i] v) ⟨rfl, rfl, hone⟩ (fun _ hk => hk.elim)).1
  rw [Int.toNat_natCast, zip_set l vs i hi] at hs
  refine ⟨vs.set i v, fun k => if W.heap.size ≤ k then i else f k, by rw [List.length_set]; exact hvl, hs, fun j hj => by rw [List.getElem?_set_ne (by omega)]; exact h3 j (by omega), fun j hj hji => ?_⟩
  by_cases hjj : j = i
  · subst hjj
    refine ⟨v, List.getElem?_set_self hil, ?_⟩
    refine Kd.R_set (Kd.R_reok rfl (Kd.R_lower hv hbw) (fun k hk => ?_)) hcg (fun q hq => by simp [Kd.int, Kd.scalar] at hq; omega) _ _
    have hk2 := Kd.R_base hv k hk
    exact ⟨if_pos hk2, by omega⟩
  · obtain ⟨u, hu, hRu⟩ := h4 j hj (by omega)
    refine ⟨u, by rw [List.getElem?_set_ne (Ne.symm hjj)]; exact hu, ?_⟩
    refine Kd.R_set (Kd.R_below (Kd.R_mono (Kd.R_bound hRu) (fun k hk => ?_)) hb) hcg (fun q hq => by simp [Kd.int, Kd.scalar] at hq; omega) _ _
    exact ⟨(if_neg (Nat.not_le.mpr hk.2.2.1)).trans hk.1.1, hk.1.2⟩
theorem own_end {W : World} {b G cap : Nat} {l : List S52} {vs0 : List Value} (h : OwnInv W b G cap l vs0 l.length) : Kd.S k52 52 W b (fun _ => True) (.slice (some ⟨G, 0, none⟩) l.length cap) l := by
  obtain ⟨vs, f, hvl, ⟨hok, inner, ho, hr⟩, _, h4⟩ := h
  have hzl : (List.zipWith zr l vs).length = l.length := by rw [List.length_zipWith, hvl, Nat.min_self]
  refine ⟨f, hok, inner, by rw [List.length_zipIdx]; rw [hzl] at ho; exact ho, by rw [List.length_zipIdx]; have := hr.1; rw [hzl] at this; exact this, fun j p hp => ?_⟩
  rw [List.getElem?_zipIdx, Nat.zero_add] at hp
  obtain ⟨q, hq, rfl⟩ := Option.map_eq_some_iff.1 hp
  obtain ⟨hj, hqe⟩ := List.getElem?_eq_some_iff.1 hq
  obtain ⟨u, hu, hRu⟩ := h4 j hj hj
  have hz : (List.zipWith zr l vs)[j]? = some (zr q u) := by rw [List.getElem?_zipWith, hq, hu]
  have hm := (hr.2 j _ hz).1
  show k52.M W b _ q ((inner.drop (j * 4)).take 4)
  rw [show (inner.drop (j * 4)).take 4 = zr q u from hm]
  subst hqe
  exact k52_mkM W b _ l[j] (Kd.R_mono hRu (fun k hk => ⟨⟨trivial, fun he => hk.2 (by simp [Value.ownBlock] at he; exact he)⟩, hk.1⟩))
theorem put5 {W : World} {B t : Nat} {x0 x1 x2 x3 x4 : Value} (h : W.heap[B]? = some (.cells #[x0, x1, x2, x3, x4] t (0, 0))) (y0 y1 y2 y3 y4 : Value) :
    (((((W.setCell ⟨B, 0, none⟩ y0).setCell ⟨B, 1, none⟩ y1).setCell ⟨B, 2, none⟩ y2).setCell ⟨B, 3, none⟩ y3).setCell ⟨B, 4, none⟩ y4).heap[B]? = some (.cells #[y0, y1, y2, y3, y4] t (0, 0)) :=
  blk_put (blk_put (blk_put (blk_put (blk_put h 0 _ rfl) 1 _ rfl) 2 _ rfl) 3 _ rfl) 4 _ rfl
theorem set5_far {W : World} {B k : Nat} (y0 y1 y2 y3 y4 : Value) (h : k ≠ B) :
    (((((W.setCell ⟨B, 0, none⟩ y0).setCell ⟨B, 1, none⟩ y1).setCell ⟨B, 2, none⟩ y2).setCell ⟨B, 3, none⟩ y3).setCell ⟨B, 4, none⟩ y4).heap[k]? = W.heap[k]? := by
  rw [Below.heap_setCell _ _ _ _ h, Below.heap_setCell _ _ _ _ h, Below.heap_setCell _ _ _ _ h, Below.heap_setCell _ _ _ _ h, Below.heap_setCell _ _ _ _ h]
theorem set5_S {W : World} {B t base n cap G : Nat} {x0 x1 x2 x3 x4 : Value} {ok : Nat → Prop} {xs : List S52} (hS : Kd.S k52 52 W base ok (.slice (some ⟨G, 0, none⟩) n cap) xs) (h : W.heap[B]? = some (.cells #[x0, x1, x2, x3, x4] t (0, 0))) (ht : t = 27) (y0 y1 y2 y3 y4 : Value) :
    Kd.S k52 52 (((((W.setCell ⟨B, 0, none⟩ y0).setCell ⟨B, 1, none⟩ y1).setCell ⟨B, 2, none⟩ y2).setCell ⟨B, 3, none⟩ y3).setCell ⟨B, 4, none⟩ y4) base ok (.slice (some ⟨G, 0, none⟩) n cap) xs := by
  subst ht
  have hq : ∀ q, q ∈ 52 :: k52.E → q ≠ 27 := by decide
  exact Kd.S_set (Kd.S_set (Kd.S_set (Kd.S_set (Kd.S_set hS h hq 0 y0) (blk_set h 0 y0) hq 1 y1) (blk_set (blk_set h 0 y0) 1 y1) hq 2 y2) (blk_set (blk_set (blk_set h 0 y0) 1 y1) 2 y2) hq 3 y3) (blk_set (blk_set (blk_set (blk_set h 0 y0) 1 y1) 2 y2) 3 y3) hq 4 y4
theorem below0_trans {w W W1 : World} {B : Nat} (h : Below B w W) (h1 : Below 0 W W1) : Below 0 w W1 := (h.mono (Nat.zero_le _)).trans h1
theorem set5_below0 {w W : World} {B : Nat} (h : Below 0 w W) (y0 y1 y2 y3 y4 : Value) :
    Below 0 w (((((W.setCell ⟨B, 0, none⟩ y0).setCell ⟨B, 1, none⟩ y1).setCell ⟨B, 2, none⟩ y2).setCell ⟨B, 3, none⟩ y3).setCell ⟨B, 4, none⟩ y4) :=
  ((((h.setCell (Nat.zero_le _) _).setCell (Nat.zero_le _) _).setCell (Nat.zero_le _) _).setCell (Nat.zero_le _) _).setCell (Nat.zero_le _) _
/-- What a closure that dev.own calls does to the device of its own at D: the fields and zones are those of d' behind it; no block but D, the zones' rows and E (the closure's own) changes. -/
def ClosePost (W : World) (b D G E cap : Nat) (l' : List S52) (size' left' : Int) (down' : Bool) (done' : Int) (oE : Option Obj) (e : Ending) (W' : World) : Prop :=
  e = .returned (.tuple #[]) ∧ W'.heap[D]? = some (.cells #[.int .i64 size', .slice (some ⟨G, 0, none⟩) l'.length cap, .int .i64 left', .bool down', .int .i64 done'] 27 (0, 0)) ∧
    Kd.S k52 52 W' b (fun _ => True) (.slice (some ⟨G, 0, none⟩) l'.length cap) l' ∧ Below 0 W W' ∧ (∀ k, k < W.heap.size → k ≠ D → k ≠ G → k ≠ E → W'.heap[k]? = W.heap[k]?) ∧ W'.heap[E]? = oE
def OwnPost (w : World) (E : Nat) (l' : List S52) (size' left' : Int) (down' : Bool) (done' : Int) (oE : Option Obj) (e : Ending) (w' : World) : Prop :=
  ∃ v, e = .returned (.agg #[.int .i64 size', v, .int .i64 left', .bool down', .int .i64 done']) ∧ Kd.S k52 52 w' w.heap.size (fun _ => True) v l' ∧ Below 0 w w' ∧ (∀ k, k < w.heap.size → k ≠ E → w'.heap[k]? = w.heap[k]?) ∧ w'.heap[E]? = oE
set_option maxHeartbeats 8000000 in
set_option maxRecDepth 100000 in
theorem own_calls (g : Nat) (lb : Array Value) (eg : ∀ args w, (callFunc g args).run Try.prog w = .ok (.enter g args) w) (size : Int) (A : Option Addr) (c : Nat) (l : List S52) (left : Int) (down : Bool) (done : Int) (E : Nat) (l' : List S52) (size' left' : Int) (down' : Bool) (done' : Int) (oE : Option Obj) (w : World)
    (hC : k52.C w A l.length l) (hl : l.length ≤ c) (hpos : 0 < l.length) (hlim : l.length * 48 ≤ 140737488355328) (hdat : ∀ z ∈ l, z.f2.length < 140737488355328) (hE : E < w.heap.size)
    (hf : ∀ (W : World) (D G cap : Nat), w.heap.size ≤ D → W.heap[D]? = some (.cells #[.int .i64 size, .slice (some ⟨G, 0, none⟩) l.length cap, .int .i64 left, .bool down, .int .i64 done] 27 (0, 0)) → Kd.S k52 52 W w.heap.size (fun _ => True) (.slice (some ⟨G, 0, none⟩) l.length cap) l → Below w.heap.size w W →
      Calls Try.prog g (#[.pointer (some ⟨D, 0, none⟩)] ++ lb) W (ClosePost W w.heap.size D G E cap l' size' left' down' done' oE)) :
    Calls Try.prog 48 #[.agg #[.int .i64 size, .slice A l.length c, .int .i64 left, .bool down, .int .i64 done], .func (.func g) #[] lb] w (OwnPost w E l' size' left' down' done' oE) := by
  have hu52 := Try.underlying52
  have hu27 := Try.underlying27
  have hu25 := Try.underlying25
  have hb1 := (below_alloc (Below.refl w.heap.size w) (.cells #[.int .i64 size, .slice A l.length c, .int .i64 left, .bool down, .int .i64 done] 27)).alloc (by simp) (.cells #[.int .i64 0, .slice none 0 0, .int .i64 0, .bool false, .int .i64 0] 27)
  have bD := blk_alloc (blk_new w (.cells #[.int .i64 size, .slice A l.length c, .int .i64 left, .bool down, .int .i64 done] 27)) (.cells #[.int .i64 0, .slice none 0 0, .int .i64 0, .bool false, .int .i64 0] 27)
  have bR := blk_new2 w (.cells #[.int .i64 size, .slice A l.length c, .int .i64 left, .bool down, .int .i64 done] 27) (.cells #[.int .i64 0, .slice none 0 0, .int .i64 0, .bool false, .int .i64 0] 27)
  obtain ⟨vs, hDt, hRw⟩ := c_rows hC
  have HDT := Aside0.mk hDt
  have HRW := Aside0.mk hRw
  clear hDt hRw
  have HL := Aside0.mk (And.intro hpos (And.intro hlim hl))
  have HDAT := Aside0.mk hdat
  have HE := Aside0.mk hE
  have HF := Aside0.mk hf
  clear hC hl hpos hlim hdat hE hf
  have d1 : ((w.alloc (.cells #[.int .i64 size, .slice A l.length c, .int .i64 left, .bool down, .int .i64 done] 27)).alloc (.cells #[.int .i64 0, .slice none 0 0, .int .i64 0, .bool false, .int .i64 0] 27)).cell? ⟨w.heap.size, 1, none⟩ = some (.slice A l.length c) := (blk_cell bD 1).trans rfl
  go_enter Try.func48, Try.ntmps48
  go_wp2_with fail
  generalize ((w.alloc (.cells #[.int .i64 size, .slice A l.length c, .int .i64 left, .bool down, .int .i64 done] 27)).alloc (.cells #[.int .i64 0, .slice none 0 0, .int .i64 0, .bool false, .int .i64 0] 27)) = W at *
  have KD := Aside0.mk bD
  have KR := Aside0.mk bR
  have KB := Aside0.mk hb1
  clear bD bR hb1 d1
  refine (zonesClone_calls A c l vs W HDT.out.1 (Kd.C_below HRW.out KB.out) HL.out.2.1).mono ?_
  rintro e w2 ⟨v, rfl, hR, hb⟩
  have hlz : (List.zipWith zr l vs).length = l.length := by rw [List.length_zipWith, HDT.out.1, Nat.min_self]
  obtain ⟨G, cap, rfl, hGb, hGl, cg, hcg⟩ := Kd.R_form hR (by rw [hlz]; exact HL.out.1)
  rw [hlz] at hR ⊢
  have KG := Aside0.mk (show w.heap.size ≤ G from Nat.le_trans KB.out.size hGb)
  have hRG : w.heap.size + 1 ≠ G := fun h => by have h2 := blk_below KR.out hb; rw [h, hcg] at h2; injection h2 with h2; injection h2 with _ h2; exact absurd h2 (by decide)
  have hDG : w.heap.size ≠ G := fun h => by have h2 := blk_below KD.out hb; rw [h, hcg] at h2; injection h2 with h2; injection h2 with _ h2; exact absurd h2 (by decide)
  have HR := Aside0.mk (Kd.R_lower hR KB.out.size)
  replace KB := Aside0.mk (KB.out.trans (hb.mono KB.out.size))
  replace KD := Aside0.mk (blk_below KD.out hb)
  replace KR := Aside0.mk (blk_below KR.out hb)
  clear hR hb hGb hGl hcg hlz
  have d1 : w2.cell? ⟨w.heap.size, 1, none⟩ = some (.slice A l.length c) := (blk_cell KD.out 1).trans rfl
  have f1 : w2.frozen? ⟨w.heap.size, 1, none⟩ = false := blk_frozen KD.out 1
  have KI := Aside0.mk (own_start HDT.out.1 (Kd.R_set HR.out KD.out (fun q hq => by simp [Kd.raw] at hq; omega) 1 (.slice (some ⟨G, 0, none⟩) l.length cap)))
  have KD2 := Aside0.mk (show (w2.setCell ⟨w.heap.size, 1, none⟩ (.slice (some ⟨G, 0, none⟩) l.length cap)).heap[w.heap.size]? = some (.cells #[.int .i64 size, .slice (some ⟨G, 0, none⟩) l.length cap, .int .i64 left, .bool down, .int .i64 done] 27 (0, 0)) from blk_put KD.out 1 _ rfl)
  have KR2 := Aside0.mk (blk_far KR.out (p := ⟨w.heap.size, 1, none⟩) (by simp) (.slice (some ⟨G, 0, none⟩) l.length cap))
  have KB2 := Aside0.mk (below_set (j := 1) (v := .slice (some ⟨G, 0, none⟩) l.length cap) KB.out (Nat.le_refl _))
  have d1' : (w2.setCell ⟨w.heap.size, 1, none⟩ (.slice (some ⟨G, 0, none⟩) l.length cap)).cell? ⟨w.heap.size, 1, none⟩ = some (.slice (some ⟨G, 0, none⟩) l.length cap) := (blk_cell KD2.out 1).trans rfl
  clear HR KD KR
  go_wp2_with fail
  go_loopw [13] (fun v13 wr => ∃ i : Nat, v13 = .int .i64 i ∧ i ≤ l.length ∧ Aside0 (OwnInv wr w.heap.size G cap l vs i) ∧ Aside0 (wr.heap[w.heap.size]? = some (.cells #[.int .i64 size, .slice (some ⟨G, 0, none⟩) l.length cap, .int .i64 left, .bool down, .int .i64 done] 27 (0, 0))) ∧ Aside0 (wr.heap[w.heap.size + 1]? = some (.cells #[.int .i64 0, .slice none 0 0, .int .i64 0, .bool false, .int .i64 0] 27 (0, 0))) ∧ Aside0 (Below w.heap.size w wr)) (fun v13 _ => l.length - (intOf v13).toNat)
  case atStart => exact ⟨0, rfl, Nat.zero_le _, KI, KD2, KR2, KB2⟩
  case round =>
    clear KI KD2 KR2 KB2 d1' d1 f1 KB
    obtain ⟨i, rfl, hi, HI, KD, KR, KB⟩ := hrel
    have d1 : wr.cell? ⟨w.heap.size, 1, none⟩ = some (.slice (some ⟨G, 0, none⟩) l.length cap) := (blk_cell KD.out 1).trans rfl
    have hlen : l.length ≤ 4000000000000 := by have := HL.out.2.1; omega
    by_cases hlt : i < l.length
    · obtain ⟨A2, c2, hx2, hf2, hl2, hC2⟩ := own_elem HI.out hlt HDT.out KB.out
      have HL2 := Aside0.mk hl2
      have HC2 := Aside0.mk hC2
      have HLT := Aside0.mk hlt
      have hz := HDAT.out l[i] (List.getElem_mem hlt)
      have HF1 := Aside0.mk (show bytes_Clone.f l[i].f2 = some l[i].f2 from if_pos hz)
      clear hl2 hC2 hz
      have hi0 : (0 : Int) ≤ (i : Int) := by omega
      have hi1 : (i : Int) < (l.length : Int) := by omega
      go_wp2_with fail
      refine start_ (n := 13) (S := fun w' => w'.cell? ⟨w.heap.size, 1, none⟩ = some (.slice (some ⟨G, 0, none⟩) l.length cap) ∧ w'.cell? ⟨G, i * 4 + 2, none⟩ = some (.slice A2 l[i].f2.length c2)) (ds := [12]) #[false, false, false, false, false, false, false, false, false, false, false, false, false] (by kernel_rfl) rfl rfl ⟨pw_cell_below (below_drew (Below.refl wr.heap.size wr)) d1, pw_cell_below (below_drew (Below.refl wr.heap.size wr)) hx2⟩ (fun hHeld => ?_)
      refine pure_ (i := 0) (N := some 16) (v := ?_) (a' := ?_) #[true, false, false, false, false, false, false, false, false, false, false, false, false] rfl rfl (by kernel_rfl) (fun _ _ _ h => h) (Or.inl ⟨by rfl, ?_⟩) ?_ ?_
      rotate_left
      · intro w'
        go_simp
        with_reducible rfl
      rotate_left
      · simp only [Act.put, List.setIfInBounds_toArray, List.set_cons_zero, List.set_cons_succ, i64_w, i32_w]
        rfl
      refine pure_ (i := 2) (N := some 18) (v := ?_) (a' := ?_) #[true, false, true, false, false, false, false, false, false, false, false, false, false] rfl rfl (by kernel_rfl) (fun _ _ _ h => h) (Or.inl ⟨by rfl, ?_⟩) ?_ ?_
      rotate_left
      · intro w'
        go_simp
        with_reducible rfl
      rotate_left
      · simp only [Act.put, List.setIfInBounds_toArray, List.set_cons_zero, List.set_cons_succ, i64_w, i32_w]
        rfl
      refine pure_ (i := 3) (N := some 19) (v := ?_) (a' := ?_) #[true, false, true, true, false, false, false, false, false, false, false, false, false] rfl rfl (by kernel_rfl) (fun _ _ _ h => h) (Or.inl ⟨by rfl, ?_⟩) ?_ ?_
      rotate_left
      · intro w'
        go_simp
        with_reducible rfl
      rotate_left
      · simp only [Act.put, List.setIfInBounds_toArray, List.set_cons_zero, List.set_cons_succ, i64_w, i32_w]
        rfl
      refine pure_ (i := 5) (N := some 21) (v := ?_) (a' := ?_) #[true, false, true, true, false, true, false, false, false, false, false, false, false] rfl rfl (by kernel_rfl) (fun _ _ _ h => h) (Or.inl ⟨by rfl, ?_⟩) ?_ ?_
      rotate_left
      · intro w'
        go_simp
        with_reducible rfl
      rotate_left
      · simp only [Act.put, List.setIfInBounds_toArray, List.set_cons_zero, List.set_cons_succ, i64_w, i32_w]
        rfl
      refine take_ (i := 1) (N := some 17) (v := ?_) (a' := ?_) #[true, true, true, true, false, true, false, false, false, false, false, false, false] rfl rfl (by kernel_rfl) (fun _ _ _ h => h) (Or.inl ⟨by rfl, ?_⟩) hHeld ?_ ?_
      rotate_left
      · rintro w' ⟨s0, s1⟩
        go_simp
        with_reducible rfl
      rotate_left
      · simp only [Act.put, List.setIfInBounds_toArray, List.set_cons_zero, List.set_cons_succ, i64_w, i32_w]
        rfl
      refine take_ (i := 4) (N := some 20) (v := ?_) (a' := ?_) #[true, true, true, true, true, true, false, false, false, false, false, false, false] rfl rfl (by kernel_rfl) (fun _ _ _ h => h) (Or.inl ⟨by rfl, ?_⟩) hHeld ?_ ?_
      rotate_left
      · rintro w' ⟨s0, s1⟩
        go_simp
        with_reducible rfl
      rotate_left
      · simp only [Act.put, List.setIfInBounds_toArray, List.set_cons_zero, List.set_cons_succ, i64_w, i32_w]
        rfl
      refine pure_ (i := 6) (N := some 22) (v := ?_) (a' := ?_) #[true, true, true, true, true, true, true, false, false, false, false, false, false] rfl rfl (by kernel_rfl) (fun _ _ _ h => h) (Or.inl ⟨by rfl, ?_⟩) ?_ ?_
      rotate_left
      · intro w'
        go_simp
        with_reducible rfl
      rotate_left
      · simp only [Act.put, List.setIfInBounds_toArray, List.set_cons_zero, List.set_cons_succ, i64_w, i32_w]
        rfl
      refine pure_ (i := 7) (N := some 23) (v := ?_) (a' := ?_) #[true, true, true, true, true, true, true, true, false, false, false, false, false] rfl rfl (by kernel_rfl) (fun _ _ _ h => h) (Or.inl ⟨by rfl, ?_⟩) ?_ ?_
      rotate_left
      · intro w'
        go_simp
        with_reducible rfl
      rotate_left
      · simp only [Act.put, List.setIfInBounds_toArray, List.set_cons_zero, List.set_cons_succ, i64_w, i32_w]
        rfl
      refine take_ (i := 8) (N := some 24) (v := ?_) (a' := ?_) #[true, true, true, true, true, true, true, true, true, false, false, false, false] rfl rfl (by kernel_rfl) (fun _ _ _ h => h) (Or.inl ⟨by rfl, ?_⟩) hHeld ?_ ?_
      rotate_left
      · rintro w' ⟨s0, s1⟩
        go_simp
        with_reducible rfl
      rotate_left
      · simp only [Act.put, List.setIfInBounds_toArray, List.set_cons_zero, List.set_cons_succ, i64_w, i32_w]
        rfl
      refine one_ (i := 9) (N := some 25) #[true, true, true, true, true, true, true, true, true, true, false, false, false] rfl rfl (by kernel_rfl) (by decide) (fun K hK => ?_)
      refine goes_ Try.func70 (by kernel_rfl) rfl #[.slice A2 l[i].f2.length c2] (by rfl) rfl rfl (by simp only [List.map_toArray, List.map_cons, List.map_nil]; rfl) ?_
      with_reducible refine (bytes_Clone.calls A2 c2 l[i].f2 l[i].f2 wr.drew (Kd.C_below HC2.out (below_drew (Below.refl _ _))) HL2.out HF1.out).mono ?_
      rintro e w6 ⟨v6, rfl, hR6, hb⟩
      refine ⟨_, rfl, ?_⟩
      obtain ⟨A6, c6, rfl⟩ := Kd.R_slice hR6
      have hb6 := Aside0.mk (show Below wr.heap.size wr w6 from (below_drew (Below.refl _ _)).trans hb)
      have HR6 := Aside0.mk (show (Kd.int .u8).R 5 w6 wr.heap.size (fun _ => True) _ _ from hR6)
      clear hR6 hb
      obtain ⟨⟨u6, hx6⟩, hf6⟩ := own_slot HI.out HLT.out hb6.out
      refine hK.out _ _ ⟨pw_cell_below hb6.out d1, pw_cell_below hb6.out hx2⟩ (fun hHeld => ?_)
      clear hK K
      refine norm_ (a' := ?_) ?_ ?_
      rotate_left
      · show Act.put _ (some 25) _ = _
        simp only [Act.put, List.setIfInBounds_toArray, List.set_cons_zero, List.set_cons_succ, i64_w, i32_w]
        rfl
      refine pure_ (i := 10) (N := some 26) (v := ?_) (a' := ?_) #[true, true, true, true, true, true, true, true, true, true, true, false, false] rfl rfl (by kernel_rfl) (fun _ _ _ h => h) (Or.inl ⟨by rfl, ?_⟩) ?_ ?_
      rotate_left
      · intro w'
        go_simp
        with_reducible rfl
      rotate_left
      · simp only [Act.put, List.setIfInBounds_toArray, List.set_cons_zero, List.set_cons_succ, i64_w, i32_w]
        rfl
      refine pure_ (i := 11) (N := some 27) (v := ?_) (a' := ?_) #[true, true, true, true, true, true, true, true, true, true, true, true, false] rfl rfl (by kernel_rfl) (fun _ _ _ h => h) (Or.inl ⟨by rfl, ?_⟩) ?_ ?_
      rotate_left
      · intro w'
        go_simp
        with_reducible rfl
      rotate_left
      · simp only [Act.put, List.setIfInBounds_toArray, List.set_cons_zero, List.set_cons_succ, i64_w, i32_w]
        rfl
      refine last_ (i := 12) (N := none) #[true, true, true, true, true, true, true, true, true, true, true, true, true] rfl rfl (by kernel_rfl) (by decide) (fun K hK => ?_)
      refine skip_ (w1 := ?_) (by rfl) rfl ?_ ?_
      rotate_left
      · go_simp
        rfl
      refine hK.out _ _ ?_
      clear hK K
      refine done_ (by kernel_rfl) ?_
      have HN := Aside0.mk (own_step HI.out hlt KB.out.size hb6.out HR6.out)
      have KD6 := Aside0.mk (blk_far (blk_below KD.out hb6.out) (p := ⟨G, i * 4 + 2, none⟩) hDG (.slice A6 l[i].f2.length c6))
      have KR6 := Aside0.mk (blk_far (blk_below KR.out hb6.out) (p := ⟨G, i * 4 + 2, none⟩) hRG (.slice A6 l[i].f2.length c6))
      have KB6 := Aside0.mk (below_set (j := i * 4 + 2) (v := .slice A6 l[i].f2.length c6) (KB.out.trans (hb6.out.mono KB.out.size)) KG.out)
      go_wp2
      go_roundw
      case rel =>
        first
          | exact ⟨i + 1, by go_num, by omega, HN, KD6, KR6, KB6⟩
          | exact ⟨i + 1, by go_num, by omega, ⟨own_below HN.out (below_drew (Below.refl _ _))⟩, ⟨KD6.out⟩, ⟨KR6.out⟩, ⟨KB6.out.drew⟩⟩
      case measure => simp [intOf]; omega
    · obtain rfl : i = l.length := by omega
      have HS := Aside0.mk (own_end HI.out)
      go_wp2_with fail
      refine (HF.out wr w.heap.size G cap (Nat.le_refl _) KD.out HS.out KB.out).mono ?_
      rintro e w5 ⟨rfl, hD5, hS5, hb5, hk5, hE5⟩
      have KR5 := Aside0.mk ((hk5 _ (blk_lt KR.out) (by omega) hRG (by have := HE.out; omega)).trans KR.out)
      have HD5 := Aside0.mk hD5
      have HS5 := Aside0.mk hS5
      have HB5 := Aside0.mk hb5
      have HK5 := Aside0.mk hk5
      have HE5 := Aside0.mk hE5
      clear hD5 hS5 hb5 hk5 hE5 d1
      have a0 : w5.cell? ⟨w.heap.size, 0, none⟩ = some (.int .i64 size') := (blk_cell HD5.out 0).trans rfl
      have a1 : w5.cell? ⟨w.heap.size, 1, none⟩ = some (.slice (some ⟨G, 0, none⟩) l'.length cap) := (blk_cell HD5.out 1).trans rfl
      have a2 : w5.cell? ⟨w.heap.size, 2, none⟩ = some (.int .i64 left') := (blk_cell HD5.out 2).trans rfl
      have a3 : w5.cell? ⟨w.heap.size, 3, none⟩ = some (.bool down') := (blk_cell HD5.out 3).trans rfl
      have a4 : w5.cell? ⟨w.heap.size, 4, none⟩ = some (.int .i64 done') := (blk_cell HD5.out 4).trans rfl
      have r0 : w5.cell? ⟨w.heap.size + 1, 0, none⟩ = some (.int .i64 0) := (blk_cell KR5.out 0).trans rfl
      have r1 : w5.cell? ⟨w.heap.size + 1, 1, none⟩ = some (.slice none 0 0) := (blk_cell KR5.out 1).trans rfl
      have r2 : w5.cell? ⟨w.heap.size + 1, 2, none⟩ = some (.int .i64 0) := (blk_cell KR5.out 2).trans rfl
      have r3 : w5.cell? ⟨w.heap.size + 1, 3, none⟩ = some (.bool false) := (blk_cell KR5.out 3).trans rfl
      have r4 : w5.cell? ⟨w.heap.size + 1, 4, none⟩ = some (.int .i64 0) := (blk_cell KR5.out 4).trans rfl
      have g0 : w5.frozen? ⟨w.heap.size + 1, 0, none⟩ = false := blk_frozen KR5.out 0
      have g1 : w5.frozen? ⟨w.heap.size + 1, 1, none⟩ = false := blk_frozen KR5.out 1
      have g2 : w5.frozen? ⟨w.heap.size + 1, 2, none⟩ = false := blk_frozen KR5.out 2
      have g3 : w5.frozen? ⟨w.heap.size + 1, 3, none⟩ = false := blk_frozen KR5.out 3
      have g4 : w5.frozen? ⟨w.heap.size + 1, 4, none⟩ = false := blk_frozen KR5.out 4
      go_wp2
      refine bodyPost_ret (results_cell_row rfl _ _ (w.heap.size + 1) 27 _ (0, 0) _ rfl (put5 KR5.out _ _ _ _ _) Try.underlying27 rfl (by kernel_rfl)) rfl ?_
      refine ⟨_, rfl, set5_S HS5.out KR5.out (by decide) _ _ _ _ _, set5_below0 (below0_trans KB.out HB5.out) _ _ _ _ _, fun k hk hne => ?_, ?_⟩
      · rw [set5_far _ _ _ _ _ (show k ≠ w.heap.size + 1 by omega), HK5.out k (Nat.lt_of_lt_of_le hk KB.out.size) (by omega) (by have := KG.out; omega) hne, KB.out.block k hk]
      · rw [set5_far _ _ _ _ _ (show E ≠ w.heap.size + 1 by have := HE.out; omega)]; exact HE5.out
end Go.Proofs.Ytdgefplbfffenaa.X
namespace Go.Proofs.Ytdgefplbfffenaa.X
open Go.Shelf Go.RowKit Go.Proofs.YtdgefplbfffenaaW.PrintWords Go.Proofs.YtdgefplbfffenaaW.PrintLast Go.Proofs.YtdgefplbfffenaaW.PrintMore
theorem eg49 : ∀ args w, (callFunc 49 args).run Try.prog w = .ok (.enter 49 args) w := enters_of Try.func49 (by kernel_rfl) rfl
/-- The device's count of what is left, behind one command. -/
def dleft (left : Int) : Int := if 0 < left then left - 1 else left
set_option maxHeartbeats 8000000 in
set_option maxRecDepth 100000 in
theorem doClose1_calls (z' : S52) (kn : Int) (Ab : Option Addr) (nb cb : Nat) (size left done : Int) (l : List S52) (D G cap E Cb b : Nat) (w W : World)
    (hk0 : 0 ≤ kn) (hk1 : kn < l.length) (hlen : l.length ≤ 9223372036854775806) (hok : dok size l = true) (hleft : left ≠ 0) (hlb : -9223372036854775808 < left) (hlu : left < 9223372036854775807)
    (hE : w.heap[E]? = some (.cells #[.int .i64 0] 28 (0, 0))) (hCb : w.heap[Cb]? = some (.cells #[.int .i64 1, .int .i64 kn, .slice Ab nb cb] 56 (0, 0))) (hbw : b = w.heap.size) (hDw : b ≤ D)
    (hD : W.heap[D]? = some (.cells #[.int .i64 size, .slice (some ⟨G, 0, none⟩) l.length cap, .int .i64 left, .bool false, .int .i64 done] 27 (0, 0))) (hS : Kd.S k52 52 W b (fun _ => True) (.slice (some ⟨G, 0, none⟩) l.length cap) l) (hB : Below b w W)
    (hdo : ∀ (W' : World) (A2 : Option Addr) (c2 : Nat), W'.heap[D]? = some (.cells #[.int .i64 size, .slice (some ⟨G, 0, none⟩) l.length cap, .int .i64 (dleft left), .bool false, .int .i64 (wrap64 (done + 1))] 27 (0, 0)) → k52.C W' (some ⟨G, 0, none⟩) l.length l → Below b w W' → (Kd.int .u8).C W' A2 (rd_T52 l kn).f2.length (rd_T52 l kn).f2 → (rd_T52 l kn).f2.length ≤ c2 →
      Calls Try.prog 85 #[.agg #[.int .i64 1, .int .i64 kn, .slice Ab nb cb], .pointer (some ⟨D, 0, none⟩), .agg #[.int .i64 (rd_T52 l kn).f0, .int .i64 (rd_T52 l kn).f1, .slice A2 (rd_T52 l kn).f2.length c2, .int .i64 (rd_T52 l kn).f3]] W' (ZonePost W' z' 0)) :
    Calls Try.prog 49 (#[.pointer (some ⟨D, 0, none⟩)] ++ #[.pointer (some ⟨E, 0, none⟩), .pointer (some ⟨Cb, 0, none⟩)]) W (ClosePost W b D G E cap (l.set kn.toNat z') size (dleft left) false (wrap64 (done + 1)) (some (.cells #[.int .i64 0] 28 (0, 0)))) := by
  have hu52 := Try.underlying52
  have hu27 := Try.underlying27
  have hu56 := Try.underlying56
  have hu25 := Try.underlying25
  subst hbw
  have hEl : E < w.heap.size := blk_lt hE
  have hCl : Cb < w.heap.size := blk_lt hCb
  have hGb : w.heap.size ≤ G := Kd.S_base hS G (by simp [Value.ownBlock])
  have hEW : W.heap[E]? = _ := (hB.block E hEl).trans hE
  have hCW : W.heap[Cb]? = _ := (hB.block Cb hCl).trans hCb
  have hsz : w.heap.size ≤ W.heap.size := Nat.le_trans hDw (Nat.le_of_lt (blk_lt hD))
  have HLT := Aside0.mk (And.intro hEl (And.intro hCl (And.intro hGb (And.intro hDw hsz))))
  have HD := Aside0.mk hD
  have HS := Aside0.mk hS
  have HB := Aside0.mk hB
  have HE := Aside0.mk hEW
  have HC := Aside0.mk hCW
  have HK := Aside0.mk (And.intro hk0 (And.intro hk1 hlen))
  have HLF := Aside0.mk (And.intro hleft (And.intro hlb hlu))
  have HCK := Aside0.mk (show dev_Check.f size l left false done = some true by unfold dev_Check.f; rw [hok])
  have HDO := Aside0.mk hdo
  clear hk0 hk1 hlen hok hleft hlb hlu hE hCb hDw hD hS hB hdo hEl hCl hGb hEW hCW hsz
  have d0 : W.cell? ⟨D, 0, none⟩ = some (.int .i64 size) := (blk_cell HD.out 0).trans rfl
  have d1 : W.cell? ⟨D, 1, none⟩ = some (.slice (some ⟨G, 0, none⟩) l.length cap) := (blk_cell HD.out 1).trans rfl
  have d2 : W.cell? ⟨D, 2, none⟩ = some (.int .i64 left) := (blk_cell HD.out 2).trans rfl
  have d3 : W.cell? ⟨D, 3, none⟩ = some (.bool false) := (blk_cell HD.out 3).trans rfl
  have d4 : W.cell? ⟨D, 4, none⟩ = some (.int .i64 done) := (blk_cell HD.out 4).trans rfl
  simp only [List.append_toArray, List.cons_append, List.nil_append]
  go_enter Try.func49, Try.ntmps49
  go_wp2_with fail
  refine (dev_Check.calls size (some ⟨G, 0, none⟩) cap l left false done true W (Kd.S_reads' HS.out).2.2 (Kd.S_reads' HS.out).2.1 HCK.out).mono ?_
  rintro e W1 ⟨rfl, hb1⟩
  replace HD := Aside0.mk (blk_below HD.out hb1)
  replace HS := Aside0.mk (Kd.S_below HS.out hb1)
  replace HE := Aside0.mk (blk_below HE.out hb1)
  replace HC := Aside0.mk (blk_below HC.out hb1)
  have HB1 := Aside0.mk hb1
  clear d0 d1 d2 d3 d4 hb1
  have d0 : W1.cell? ⟨D, 0, none⟩ = some (.int .i64 size) := (blk_cell HD.out 0).trans rfl
  have d1 : W1.cell? ⟨D, 1, none⟩ = some (.slice (some ⟨G, 0, none⟩) l.length cap) := (blk_cell HD.out 1).trans rfl
  have d2 : W1.cell? ⟨D, 2, none⟩ = some (.int .i64 left) := (blk_cell HD.out 2).trans rfl
  have d3 : W1.cell? ⟨D, 3, none⟩ = some (.bool false) := (blk_cell HD.out 3).trans rfl
  have d4 : W1.cell? ⟨D, 4, none⟩ = some (.int .i64 done) := (blk_cell HD.out 4).trans rfl
  have f2 : W1.frozen? ⟨D, 2, none⟩ = false := blk_frozen HD.out 2
  have f4 : W1.frozen? ⟨D, 4, none⟩ = false := blk_frozen HD.out 4
  have hl0 : (left == 0) = false := beq_eq_false_iff_ne.mpr HLF.out.1
  have neDG := Aside0.mk (show D ≠ G from fun h => by obtain ⟨cg, hcg⟩ := Kd.S_typed HS.out G (by simp [Value.ownBlock]); have h2 := HD.out; rw [h, hcg] at h2; injection h2 with h2; injection h2 with _ h2; exact absurd h2 (by decide))
  have neEG := Aside0.mk (show E ≠ G by have := HLT.out; omega)
  have neDC := Aside0.mk (show Cb ≠ D by have := HLT.out; omega)
  have neDE := Aside0.mk (show E ≠ D by have := HLT.out; omega)
  have cc0 : W1.cell? ⟨Cb, 0, none⟩ = some (.int .i64 1) := (blk_cell HC.out 0).trans rfl
  have cc1 : W1.cell? ⟨Cb, 1, none⟩ = some (.int .i64 kn) := (blk_cell HC.out 1).trans rfl
  have cc2 : W1.cell? ⟨Cb, 2, none⟩ = some (.slice Ab nb cb) := (blk_cell HC.out 2).trans rfl
  by_cases hpos : 0 < left
  · have hlp : decide (0 < left) = true := decide_eq_true hpos
    have hw1 : wrap64 (left - 1) = left - 1 := by unfold wrap64; have := HLF.out; omega
    have hdl : dleft left = left - 1 := if_pos hpos
    rw [hdl] at HDO ⊢
    have HD2 := Aside0.mk (show ((W1.setCell ⟨D, 2, none⟩ (.int .i64 (left - 1))).setCell ⟨D, 4, none⟩ (.int .i64 (wrap64 (done + 1)))).heap[D]? = some (.cells #[.int .i64 size, .slice (some ⟨G, 0, none⟩) l.length cap, .int .i64 (left - 1), .bool false, .int .i64 (wrap64 (done + 1))] 27 (0, 0)) from blk_put (blk_put HD.out 2 _ rfl) 4 _ rfl)
    have HS2 := Aside0.mk (Kd.S_set (Kd.S_set HS.out HD.out (by decide) 2 (.int .i64 (left - 1))) (blk_set HD.out 2 (.int .i64 (left - 1))) (by decide) 4 (.int .i64 (wrap64 (done + 1))))
    have HE2 := Aside0.mk (blk_far (blk_far HE.out (p := ⟨D, 2, none⟩) neDE.out (.int .i64 (left - 1))) (p := ⟨D, 4, none⟩) neDE.out (.int .i64 (wrap64 (done + 1))))
    have HB2 := Aside0.mk (((HB.out.trans (HB1.out.mono HLT.out.2.2.2.2)).setCell (p := ⟨D, 2, none⟩) HLT.out.2.2.2.1 (.int .i64 (left - 1))).setCell (p := ⟨D, 4, none⟩) HLT.out.2.2.2.1 (.int .i64 (wrap64 (done + 1))))
    have HK2 := Aside0.mk (show ∀ k, k < W.heap.size → k ≠ D → ((W1.setCell ⟨D, 2, none⟩ (.int .i64 (left - 1))).setCell ⟨D, 4, none⟩ (.int .i64 (wrap64 (done + 1)))).heap[k]? = W.heap[k]? from fun k hk hne => by rw [Below.heap_setCell _ _ _ _ hne, Below.heap_setCell _ _ _ _ hne, HB1.out.block k hk])
    have HZ2 := Aside0.mk (show Below 0 W ((W1.setCell ⟨D, 2, none⟩ (.int .i64 (left - 1))).setCell ⟨D, 4, none⟩ (.int .i64 (wrap64 (done + 1)))) from ((HB1.out.mono (Nat.zero_le _)).setCell (Nat.zero_le _) _).setCell (Nat.zero_le _) _)
    have HC2 := Aside0.mk (blk_far (blk_far HC.out (p := ⟨D, 2, none⟩) neDC.out (.int .i64 (left - 1))) (p := ⟨D, 4, none⟩) neDC.out (.int .i64 (wrap64 (done + 1))))
    have cx0 : ((W1.setCell ⟨D, 2, none⟩ (.int .i64 (left - 1))).setCell ⟨D, 4, none⟩ (.int .i64 (wrap64 (done + 1)))).cell? ⟨Cb, 0, none⟩ = some (.int .i64 1) := (blk_cell HC2.out 0).trans rfl
    have cx1 : ((W1.setCell ⟨D, 2, none⟩ (.int .i64 (left - 1))).setCell ⟨D, 4, none⟩ (.int .i64 (wrap64 (done + 1)))).cell? ⟨Cb, 1, none⟩ = some (.int .i64 kn) := (blk_cell HC2.out 1).trans rfl
    have cx2 : ((W1.setCell ⟨D, 2, none⟩ (.int .i64 (left - 1))).setCell ⟨D, 4, none⟩ (.int .i64 (wrap64 (done + 1)))).cell? ⟨Cb, 2, none⟩ = some (.slice Ab nb cb) := (blk_cell HC2.out 2).trans rfl
    go_wp2_with fail
    generalize ((W1.setCell ⟨D, 2, none⟩ (.int .i64 (left - 1))).setCell ⟨D, 4, none⟩ (.int .i64 (wrap64 (done + 1)))) = W2 at *
    clear d0 d1 d2 d3 d4 f2 f4 cc0 cc1 cc2 cx0 cx1 cx2
    refine (done85_calls z' kn Ab nb cb D G size cap l (left - 1) false (wrap64 (done + 1)) w.heap.size W2 W2 HK.out.1 HK.out.2.1 HK.out.2.2 HD2.out HS2.out (Below.refl _ _) HB2.out.size (fun W' A2 c2 hb' hC' hl' => HDO.out W' A2 c2 (blk_below HD2.out hb') (Kd.C_below (Kd.S_reads' HS2.out).2.2 hb') (HB2.out.trans (hb'.mono HB2.out.size)) hC' hl')).mono ?_
    rintro e W3 ⟨rfl, hS3, hB3, hk3⟩
    have hD3 := Aside0.mk ((hk3 D (blk_lt HD2.out) neDG.out).trans HD2.out)
    have hE3 := Aside0.mk ((hk3 E (blk_lt HE2.out) neEG.out).trans HE2.out)
    have HS3 := Aside0.mk hS3
    have HB3 := Aside0.mk hB3
    have HK3 := Aside0.mk hk3
    clear hS3 hB3 hk3
    have e0 : W3.cell? ⟨E, 0, none⟩ = some (.int .i64 0) := (blk_cell hE3.out 0).trans rfl
    have fe : W3.frozen? ⟨E, 0, none⟩ = false := blk_frozen hE3.out 0
    go_wp2
    go_end0
    refine ⟨rfl, ?_, Kd.S_set HS3.out hE3.out (by decide) 0 _, ((HZ2.out.trans (HB3.out.mono (Nat.zero_le _))).setCell (Nat.zero_le _) _), fun k hk h1 h2 h3 => ?_, blk_put hE3.out 0 _ rfl⟩
    · rw [hdl, List.length_set]
      exact blk_far hD3.out (p := ⟨E, 0, none⟩) neDE.out.symm _
    · rw [Below.heap_setCell _ _ _ _ h3, HK3.out k (Nat.lt_of_lt_of_le hk HZ2.out.size) h2, HK2.out k hk h1]
  · have hlp : decide (0 < left) = false := decide_eq_false hpos
    have hdl : dleft left = left := if_neg hpos
    rw [hdl] at HDO ⊢
    have HD2 := Aside0.mk (show (W1.setCell ⟨D, 4, none⟩ (.int .i64 (wrap64 (done + 1)))).heap[D]? = some (.cells #[.int .i64 size, .slice (some ⟨G, 0, none⟩) l.length cap, .int .i64 left, .bool false, .int .i64 (wrap64 (done + 1))] 27 (0, 0)) from blk_put HD.out 4 _ rfl)
    have HS2 := Aside0.mk (Kd.S_set HS.out HD.out (by decide) 4 (.int .i64 (wrap64 (done + 1))))
    have HE2 := Aside0.mk (blk_far HE.out (p := ⟨D, 4, none⟩) neDE.out (.int .i64 (wrap64 (done + 1))))
    have HB2 := Aside0.mk ((HB.out.trans (HB1.out.mono HLT.out.2.2.2.2)).setCell (p := ⟨D, 4, none⟩) HLT.out.2.2.2.1 (.int .i64 (wrap64 (done + 1))))
    have HK2 := Aside0.mk (show ∀ k, k < W.heap.size → k ≠ D → (W1.setCell ⟨D, 4, none⟩ (.int .i64 (wrap64 (done + 1)))).heap[k]? = W.heap[k]? from fun k hk hne => by rw [Below.heap_setCell _ _ _ _ hne, HB1.out.block k hk])
    have HZ2 := Aside0.mk (show Below 0 W (W1.setCell ⟨D, 4, none⟩ (.int .i64 (wrap64 (done + 1)))) from (HB1.out.mono (Nat.zero_le _)).setCell (Nat.zero_le _) _)
    have HC2 := Aside0.mk (blk_far HC.out (p := ⟨D, 4, none⟩) neDC.out (.int .i64 (wrap64 (done + 1))))
    have cx0 : (W1.setCell ⟨D, 4, none⟩ (.int .i64 (wrap64 (done + 1)))).cell? ⟨Cb, 0, none⟩ = some (.int .i64 1) := (blk_cell HC2.out 0).trans rfl
    have cx1 : (W1.setCell ⟨D, 4, none⟩ (.int .i64 (wrap64 (done + 1)))).cell? ⟨Cb, 1, none⟩ = some (.int .i64 kn) := (blk_cell HC2.out 1).trans rfl
    have cx2 : (W1.setCell ⟨D, 4, none⟩ (.int .i64 (wrap64 (done + 1)))).cell? ⟨Cb, 2, none⟩ = some (.slice Ab nb cb) := (blk_cell HC2.out 2).trans rfl
    go_wp2_with fail
    generalize (W1.setCell ⟨D, 4, none⟩ (.int .i64 (wrap64 (done + 1)))) = W2 at *
    clear d0 d1 d2 d3 d4 f2 f4 cc0 cc1 cc2 cx0 cx1 cx2
    refine (done85_calls z' kn Ab nb cb D G size cap l left false (wrap64 (done + 1)) w.heap.size W2 W2 HK.out.1 HK.out.2.1 HK.out.2.2 HD2.out HS2.out (Below.refl _ _) HB2.out.size (fun W' A2 c2 hb' hC' hl' => HDO.out W' A2 c2 (blk_below HD2.out hb') (Kd.C_below (Kd.S_reads' HS2.out).2.2 hb') (HB2.out.trans (hb'.mono HB2.out.size)) hC' hl')).mono ?_
    rintro e W3 ⟨rfl, hS3, hB3, hk3⟩
    have hD3 := Aside0.mk ((hk3 D (blk_lt HD2.out) neDG.out).trans HD2.out)
    have hE3 := Aside0.mk ((hk3 E (blk_lt HE2.out) neEG.out).trans HE2.out)
    have HS3 := Aside0.mk hS3
    have HB3 := Aside0.mk hB3
    have HK3 := Aside0.mk hk3
    clear hS3 hB3 hk3
    have e0 : W3.cell? ⟨E, 0, none⟩ = some (.int .i64 0) := (blk_cell hE3.out 0).trans rfl
    have fe : W3.frozen? ⟨E, 0, none⟩ = false := blk_frozen hE3.out 0
    go_wp2
    go_end0
    refine ⟨rfl, ?_, Kd.S_set HS3.out hE3.out (by decide) 0 _, ((HZ2.out.trans (HB3.out.mono (Nat.zero_le _))).setCell (Nat.zero_le _) _), fun k hk h1 h2 h3 => ?_, blk_put hE3.out 0 _ rfl⟩
    · rw [hdl, List.length_set]
      exact blk_far hD3.out (p := ⟨E, 0, none⟩) neDE.out.symm _
    · rw [Below.heap_setCell _ _ _ _ h3, HK3.out k (Nat.lt_of_lt_of_le hk HZ2.out.size) h2, HK2.out k hk h1]
set_option maxHeartbeats 8000000 in
set_option maxRecDepth 100000 in
theorem doClose3_calls (z' : S52) (kn : Int) (Ab : Option Addr) (nb cb : Nat) (size left done : Int) (l : List S52) (D G cap E Cb b : Nat) (w W : World)
    (hk0 : 0 ≤ kn) (hk1 : kn < l.length) (hlen : l.length ≤ 9223372036854775806) (hok : dok size l = true) (hleft : left ≠ 0) (hlb : -9223372036854775808 < left) (hlu : left < 9223372036854775807)
    (hE : w.heap[E]? = some (.cells #[.int .i64 0] 28 (0, 0))) (hCb : w.heap[Cb]? = some (.cells #[.int .i64 3, .int .i64 kn, .slice Ab nb cb] 56 (0, 0))) (hbw : b = w.heap.size) (hDw : b ≤ D)
    (hD : W.heap[D]? = some (.cells #[.int .i64 size, .slice (some ⟨G, 0, none⟩) l.length cap, .int .i64 left, .bool false, .int .i64 done] 27 (0, 0))) (hS : Kd.S k52 52 W b (fun _ => True) (.slice (some ⟨G, 0, none⟩) l.length cap) l) (hB : Below b w W)
    (hdo : ∀ (W' : World) (A2 : Option Addr) (c2 : Nat), W'.heap[D]? = some (.cells #[.int .i64 size, .slice (some ⟨G, 0, none⟩) l.length cap, .int .i64 (dleft left), .bool false, .int .i64 (wrap64 (done + 1))] 27 (0, 0)) → k52.C W' (some ⟨G, 0, none⟩) l.length l → Below b w W' → (Kd.int .u8).C W' A2 (rd_T52 l kn).f2.length (rd_T52 l kn).f2 → (rd_T52 l kn).f2.length ≤ c2 →
      Calls Try.prog 87 #[.agg #[.int .i64 3, .int .i64 kn, .slice Ab nb cb], .pointer (some ⟨D, 0, none⟩), .agg #[.int .i64 (rd_T52 l kn).f0, .int .i64 (rd_T52 l kn).f1, .slice A2 (rd_T52 l kn).f2.length c2, .int .i64 (rd_T52 l kn).f3]] W' (ZonePost W' z' 0)) :
    Calls Try.prog 49 (#[.pointer (some ⟨D, 0, none⟩)] ++ #[.pointer (some ⟨E, 0, none⟩), .pointer (some ⟨Cb, 0, none⟩)]) W (ClosePost W b D G E cap (l.set kn.toNat z') size (dleft left) false (wrap64 (done + 1)) (some (.cells #[.int .i64 0] 28 (0, 0)))) := by
  have hu52 := Try.underlying52
  have hu27 := Try.underlying27
  have hu56 := Try.underlying56
  have hu25 := Try.underlying25
  subst hbw
  have hEl : E < w.heap.size := blk_lt hE
  have hCl : Cb < w.heap.size := blk_lt hCb
  have hGb : w.heap.size ≤ G := Kd.S_base hS G (by simp [Value.ownBlock])
  have hEW : W.heap[E]? = _ := (hB.block E hEl).trans hE
  have hCW : W.heap[Cb]? = _ := (hB.block Cb hCl).trans hCb
  have hsz : w.heap.size ≤ W.heap.size := Nat.le_trans hDw (Nat.le_of_lt (blk_lt hD))
  have HLT := Aside0.mk (And.intro hEl (And.intro hCl (And.intro hGb (And.intro hDw hsz))))
  have HD := Aside0.mk hD
  have HS := Aside0.mk hS
  have HB := Aside0.mk hB
  have HE := Aside0.mk hEW
  have HC := Aside0.mk hCW
  have HK := Aside0.mk (And.intro hk0 (And.intro hk1 hlen))
  have HLF := Aside0.mk (And.intro hleft (And.intro hlb hlu))
  have HCK := Aside0.mk (show dev_Check.f size l left false done = some true by unfold dev_Check.f; rw [hok])
  have HDO := Aside0.mk hdo
  clear hk0 hk1 hlen hok hleft hlb hlu hE hCb hDw hD hS hB hdo hEl hCl hGb hEW hCW hsz
  have d0 : W.cell? ⟨D, 0, none⟩ = some (.int .i64 size) := (blk_cell HD.out 0).trans rfl
  have d1 : W.cell? ⟨D, 1, none⟩ = some (.slice (some ⟨G, 0, none⟩) l.length cap) := (blk_cell HD.out 1).trans rfl
  have d2 : W.cell? ⟨D, 2, none⟩ = some (.int .i64 left) := (blk_cell HD.out 2).trans rfl
  have d3 : W.cell? ⟨D, 3, none⟩ = some (.bool false) := (blk_cell HD.out 3).trans rfl
  have d4 : W.cell? ⟨D, 4, none⟩ = some (.int .i64 done) := (blk_cell HD.out 4).trans rfl
  simp only [List.append_toArray, List.cons_append, List.nil_append]
  go_enter Try.func49, Try.ntmps49
  go_wp2_with fail
  refine (dev_Check.calls size (some ⟨G, 0, none⟩) cap l left false done true W (Kd.S_reads' HS.out).2.2 (Kd.S_reads' HS.out).2.1 HCK.out).mono ?_
  rintro e W1 ⟨rfl, hb1⟩
  replace HD := Aside0.mk (blk_below HD.out hb1)
  replace HS := Aside0.mk (Kd.S_below HS.out hb1)
  replace HE := Aside0.mk (blk_below HE.out hb1)
  replace HC := Aside0.mk (blk_below HC.out hb1)
  have HB1 := Aside0.mk hb1
  clear d0 d1 d2 d3 d4 hb1
  have d0 : W1.cell? ⟨D, 0, none⟩ = some (.int .i64 size) := (blk_cell HD.out 0).trans rfl
  have d1 : W1.cell? ⟨D, 1, none⟩ = some (.slice (some ⟨G, 0, none⟩) l.length cap) := (blk_cell HD.out 1).trans rfl
  have d2 : W1.cell? ⟨D, 2, none⟩ = some (.int .i64 left) := (blk_cell HD.out 2).trans rfl
  have d3 : W1.cell? ⟨D, 3, none⟩ = some (.bool false) := (blk_cell HD.out 3).trans rfl
  have d4 : W1.cell? ⟨D, 4, none⟩ = some (.int .i64 done) := (blk_cell HD.out 4).trans rfl
  have f2 : W1.frozen? ⟨D, 2, none⟩ = false := blk_frozen HD.out 2
  have f4 : W1.frozen? ⟨D, 4, none⟩ = false := blk_frozen HD.out 4
  have hl0 : (left == 0) = false := beq_eq_false_iff_ne.mpr HLF.out.1
  have neDG := Aside0.mk (show D ≠ G from fun h => by obtain ⟨cg, hcg⟩ := Kd.S_typed HS.out G (by simp [Value.ownBlock]); have h2 := HD.out; rw [h, hcg] at h2; injection h2 with h2; injection h2 with _ h2; exact absurd h2 (by decide))
  have neEG := Aside0.mk (show E ≠ G by have := HLT.out; omega)
  have neDC := Aside0.mk (show Cb ≠ D by have := HLT.out; omega)
  have neDE := Aside0.mk (show E ≠ D by have := HLT.out; omega)
  have cc0 : W1.cell? ⟨Cb, 0, none⟩ = some (.int .i64 3) := (blk_cell HC.out 0).trans rfl
  have cc1 : W1.cell? ⟨Cb, 1, none⟩ = some (.int .i64 kn) := (blk_cell HC.out 1).trans rfl
  have cc2 : W1.cell? ⟨Cb, 2, none⟩ = some (.slice Ab nb cb) := (blk_cell HC.out 2).trans rfl
  by_cases hpos : 0 < left
  · have hlp : decide (0 < left) = true := decide_eq_true hpos
    have hw1 : wrap64 (left - 1) = left - 1 := by unfold wrap64; have := HLF.out; omega
    have hdl : dleft left = left - 1 := if_pos hpos
    rw [hdl] at HDO ⊢
    have HD2 := Aside0.mk (show ((W1.setCell ⟨D, 2, none⟩ (.int .i64 (left - 1))).setCell ⟨D, 4, none⟩ (.int .i64 (wrap64 (done + 1)))).heap[D]? = some (.cells #[.int .i64 size, .slice (some ⟨G, 0, none⟩) l.length cap, .int .i64 (left - 1), .bool false, .int .i64 (wrap64 (done + 1))] 27 (0, 0)) from blk_put (blk_put HD.out 2 _ rfl) 4 _ rfl)
    have HS2 := Aside0.mk (Kd.S_set (Kd.S_set HS.out HD.out (by decide) 2 (.int .i64 (left - 1))) (blk_set HD.out 2 (.int .i64 (left - 1))) (by decide) 4 (.int .i64 (wrap64 (done + 1))))
    have HE2 := Aside0.mk (blk_far (blk_far HE.out (p := ⟨D, 2, none⟩) neDE.out (.int .i64 (left - 1))) (p := ⟨D, 4, none⟩) neDE.out (.int .i64 (wrap64 (done + 1))))
    have HB2 := Aside0.mk (((HB.out.trans (HB1.out.mono HLT.out.2.2.2.2)).setCell (p := ⟨D, 2, none⟩) HLT.out.2.2.2.1 (.int .i64 (left - 1))).setCell (p := ⟨D, 4, none⟩) HLT.out.2.2.2.1 (.int .i64 (wrap64 (done + 1))))
    have HK2 := Aside0.mk (show ∀ k, k < W.heap.size → k ≠ D → ((W1.setCell ⟨D, 2, none⟩ (.int .i64 (left - 1))).setCell ⟨D, 4, none⟩ (.int .i64 (wrap64 (done + 1)))).heap[k]? = W.heap[k]? from fun k hk hne => by rw [Below.heap_setCell _ _ _ _ hne, Below.heap_setCell _ _ _ _ hne, HB1.out.block k hk])
    have HZ2 := Aside0.mk (show Below 0 W ((W1.setCell ⟨D, 2, none⟩ (.int .i64 (left - 1))).setCell ⟨D, 4, none⟩ (.int .i64 (wrap64 (done + 1)))) from ((HB1.out.mono (Nat.zero_le _)).setCell (Nat.zero_le _) _).setCell (Nat.zero_le _) _)
    have HC2 := Aside0.mk (blk_far (blk_far HC.out (p := ⟨D, 2, none⟩) neDC.out (.int .i64 (left - 1))) (p := ⟨D, 4, none⟩) neDC.out (.int .i64 (wrap64 (done + 1))))
    have cx0 : ((W1.setCell ⟨D, 2, none⟩ (.int .i64 (left - 1))).setCell ⟨D, 4, none⟩ (.int .i64 (wrap64 (done + 1)))).cell? ⟨Cb, 0, none⟩ = some (.int .i64 3) := (blk_cell HC2.out 0).trans rfl
    have cx1 : ((W1.setCell ⟨D, 2, none⟩ (.int .i64 (left - 1))).setCell ⟨D, 4, none⟩ (.int .i64 (wrap64 (done + 1)))).cell? ⟨Cb, 1, none⟩ = some (.int .i64 kn) := (blk_cell HC2.out 1).trans rfl
    have cx2 : ((W1.setCell ⟨D, 2, none⟩ (.int .i64 (left - 1))).setCell ⟨D, 4, none⟩ (.int .i64 (wrap64 (done + 1)))).cell? ⟨Cb, 2, none⟩ = some (.slice Ab nb cb) := (blk_cell HC2.out 2).trans rfl
    go_wp2_with fail
    generalize ((W1.setCell ⟨D, 2, none⟩ (.int .i64 (left - 1))).setCell ⟨D, 4, none⟩ (.int .i64 (wrap64 (done + 1)))) = W2 at *
    clear d0 d1 d2 d3 d4 f2 f4 cc0 cc1 cc2 cx0 cx1 cx2
    refine (done87_calls z' kn Ab nb cb D G size cap l (left - 1) false (wrap64 (done + 1)) w.heap.size W2 W2 HK.out.1 HK.out.2.1 HK.out.2.2 HD2.out HS2.out (Below.refl _ _) HB2.out.size (fun W' A2 c2 hb' hC' hl' => HDO.out W' A2 c2 (blk_below HD2.out hb') (Kd.C_below (Kd.S_reads' HS2.out).2.2 hb') (HB2.out.trans (hb'.mono HB2.out.size)) hC' hl')).mono ?_
    rintro e W3 ⟨rfl, hS3, hB3, hk3⟩
    have hD3 := Aside0.mk ((hk3 D (blk_lt HD2.out) neDG.out).trans HD2.out)
    have hE3 := Aside0.mk ((hk3 E (blk_lt HE2.out) neEG.out).trans HE2.out)
    have HS3 := Aside0.mk hS3
    have HB3 := Aside0.mk hB3
    have HK3 := Aside0.mk hk3
    clear hS3 hB3 hk3
    have e0 : W3.cell? ⟨E, 0, none⟩ = some (.int .i64 0) := (blk_cell hE3.out 0).trans rfl
    have fe : W3.frozen? ⟨E, 0, none⟩ = false := blk_frozen hE3.out 0
    go_wp2
    go_end0
    refine ⟨rfl, ?_, Kd.S_set HS3.out hE3.out (by decide) 0 _, ((HZ2.out.trans (HB3.out.mono (Nat.zero_le _))).setCell (Nat.zero_le _) _), fun k hk h1 h2 h3 => ?_, blk_put hE3.out 0 _ rfl⟩
    · rw [hdl, List.length_set]
      exact blk_far hD3.out (p := ⟨E, 0, none⟩) neDE.out.symm _
    · rw [Below.heap_setCell _ _ _ _ h3, HK3.out k (Nat.lt_of_lt_of_le hk HZ2.out.size) h2, HK2.out k hk h1]
  · have hlp : decide (0 < left) = false := decide_eq_false hpos
    have hdl : dleft left = left := if_neg hpos
    rw [hdl] at HDO ⊢
    have HD2 := Aside0.mk (show (W1.setCell ⟨D, 4, none⟩ (.int .i64 (wrap64 (done + 1)))).heap[D]? = some (.cells #[.int .i64 size, .slice (some ⟨G, 0, none⟩) l.length cap, .int .i64 left, .bool false, .int .i64 (wrap64 (done + 1))] 27 (0, 0)) from blk_put HD.out 4 _ rfl)
    have HS2 := Aside0.mk (Kd.S_set HS.out HD.out (by decide) 4 (.int .i64 (wrap64 (done + 1))))
    have HE2 := Aside0.mk (blk_far HE.out (p := ⟨D, 4, none⟩) neDE.out (.int .i64 (wrap64 (done + 1))))
    have HB2 := Aside0.mk ((HB.out.trans (HB1.out.mono HLT.out.2.2.2.2)).setCell (p := ⟨D, 4, none⟩) HLT.out.2.2.2.1 (.int .i64 (wrap64 (done + 1))))
    have HK2 := Aside0.mk (show ∀ k, k < W.heap.size → k ≠ D → (W1.setCell ⟨D, 4, none⟩ (.int .i64 (wrap64 (done + 1)))).heap[k]? = W.heap[k]? from fun k hk hne => by rw [Below.heap_setCell _ _ _ _ hne, HB1.out.block k hk])
    have HZ2 := Aside0.mk (show Below 0 W (W1.setCell ⟨D, 4, none⟩ (.int .i64 (wrap64 (done + 1)))) from (HB1.out.mono (Nat.zero_le _)).setCell (Nat.zero_le _) _)
    have HC2 := Aside0.mk (blk_far HC.out (p := ⟨D, 4, none⟩) neDC.out (.int .i64 (wrap64 (done + 1))))
    have cx0 : (W1.setCell ⟨D, 4, none⟩ (.int .i64 (wrap64 (done + 1)))).cell? ⟨Cb, 0, none⟩ = some (.int .i64 3) := (blk_cell HC2.out 0).trans rfl
    have cx1 : (W1.setCell ⟨D, 4, none⟩ (.int .i64 (wrap64 (done + 1)))).cell? ⟨Cb, 1, none⟩ = some (.int .i64 kn) := (blk_cell HC2.out 1).trans rfl
    have cx2 : (W1.setCell ⟨D, 4, none⟩ (.int .i64 (wrap64 (done + 1)))).cell? ⟨Cb, 2, none⟩ = some (.slice Ab nb cb) := (blk_cell HC2.out 2).trans rfl
    go_wp2_with fail
    generalize (W1.setCell ⟨D, 4, none⟩ (.int .i64 (wrap64 (done + 1)))) = W2 at *
    clear d0 d1 d2 d3 d4 f2 f4 cc0 cc1 cc2 cx0 cx1 cx2
    refine (done87_calls z' kn Ab nb cb D G size cap l left false (wrap64 (done + 1)) w.heap.size W2 W2 HK.out.1 HK.out.2.1 HK.out.2.2 HD2.out HS2.out (Below.refl _ _) HB2.out.size (fun W' A2 c2 hb' hC' hl' => HDO.out W' A2 c2 (blk_below HD2.out hb') (Kd.C_below (Kd.S_reads' HS2.out).2.2 hb') (HB2.out.trans (hb'.mono HB2.out.size)) hC' hl')).mono ?_
    rintro e W3 ⟨rfl, hS3, hB3, hk3⟩
    have hD3 := Aside0.mk ((hk3 D (blk_lt HD2.out) neDG.out).trans HD2.out)
    have hE3 := Aside0.mk ((hk3 E (blk_lt HE2.out) neEG.out).trans HE2.out)
    have HS3 := Aside0.mk hS3
    have HB3 := Aside0.mk hB3
    have HK3 := Aside0.mk hk3
    clear hS3 hB3 hk3
    have e0 : W3.cell? ⟨E, 0, none⟩ = some (.int .i64 0) := (blk_cell hE3.out 0).trans rfl
    have fe : W3.frozen? ⟨E, 0, none⟩ = false := blk_frozen hE3.out 0
    go_wp2
    go_end0
    refine ⟨rfl, ?_, Kd.S_set HS3.out hE3.out (by decide) 0 _, ((HZ2.out.trans (HB3.out.mono (Nat.zero_le _))).setCell (Nat.zero_le _) _), fun k hk h1 h2 h3 => ?_, blk_put hE3.out 0 _ rfl⟩
    · rw [hdl, List.length_set]
      exact blk_far hD3.out (p := ⟨E, 0, none⟩) neDE.out.symm _
    · rw [Below.heap_setCell _ _ _ _ h3, HK3.out k (Nat.lt_of_lt_of_le hk HZ2.out.size) h2, HK2.out k hk h1]
end Go.Proofs.Ytdgefplbfffenaa.X
