/- Records of at most 4096 bytes each, at most sixty, appended one by one to a new device of sixty zones of at least 8192 bytes, take no more zones than space.Takes tells of their bytes together: the statement SpaceHolds, for every list of sizes and every size of a zone that it lets in. (This text: part 4 of 4.) -/
import Derived.Test.YtdgefplbfffenaaSpaceHoldsM1
import Derived.Test.YtdgefplbfffenaaSpaceHoldsM2
import Derived.Test.YtdgefplbfffenaaSpaceHoldsM3
import Derived.Test.YtdgefplbfffenaaRows
import Derived.WalkKit
import Derived.ProofKit
import Derived.OpenShut
import Derived.ShutString
import Derived.ChangeOld
import Derived.Below
import Derived.SizedLaws
import Derived.Test.YtdgefplbfffenaaWSized
set_option linter.unusedVariables false
set_option linter.unusedSimpArgs false
namespace Go.Proofs.Ytdgefplbfffenaa.X
open Go.RowKit Go.Proofs.YtdgefplbfffenaaW.PrintWords Go.Proofs.YtdgefplbfffenaaW.PrintLast Go.Proofs.YtdgefplbfffenaaW.PrintMore
attribute [local go_sem] max2_int min2_int max_two min_two max_three min_three max_four min_four   -- for this text's walks alone
set_option linter.unusedVariables false
set_option linter.unusedSimpArgs false
def waggonerlaw13_SpaceHolds.l0 : Nat → List Int → Bool → Int → Int → Int → Int → Int → List (S52) → Int → Bool → Int → Option (Bool)
 | 0, _, _, _, _, _, _, _, _, _, _, _ => none
 | k + 1, x0, x5, x6, x8, x9, x10, x238000, x238001, x238002, x238003, x238004 => if x10 < (x0.length : Int) then (if 0 ≤ x10 then (if 0 ≤ (Int.tmod (wrap64 (rd x0 x10)) 4097) then (if (Int.tmod (wrap64 (rd x0 x10)) 4097 : Int).toNat ≤ 281474976710656 then ((log_Append.f k x238000 x238001 x238002 x238003 x238004 (([(⟨1, x10, (List.replicate (Int.tmod (wrap64 (rd x0 x10)) 4097 : Int).toNat 0)⟩ : S36)] : List (S36)))).bind fun bt245 => (if bt245.2.2.2.2.2.2 = 0 then (waggonerlaw13_SpaceHolds.l0 k x0 x5 x6 x8 (wrap64 ((wrap64 (x9 + (Int.tmod (wrap64 (rd x0 x10)) 4097))) + 20)) (wrap64 (x10 + 1)) bt245.1 bt245.2.1 bt245.2.2.1 bt245.2.2.2.1 bt245.2.2.2.2.1) else (some false))) else (none)) else (none)) else (none)) else ((log_Empty.f k x238000 x238001 x238002 x238003 x238004).bind fun t257 => (if x5 = true then (if x8 = 0 then (if (x0.length : Int) = 0 then (if (wrap64 (60 - t257)) = 0 then (some true) else ((space_Takes.f x9 x6).bind fun t258 => (some (decide ((wrap64 (60 - t257)) ≤ t258))))) else ((space_Takes.f x9 x6).bind fun t259 => (some (decide ((wrap64 (60 - t257)) ≤ t259))))) else (some false)) else (some false)))
def waggonerlaw13_SpaceHolds.f (k : Nat) (l0 : List Int) (a1 : Int) : Option (Bool) := (waggonerlaw13_awake.f).bind fun t228 => (if (l0.length : Int) > 60 then (some t228) else ((dev_New.f 60 (wrap64 (8192 + (Int.tmod (wrap64 (a1)) 8000)))).bind fun bt229 => (waggonerlaw13_SpaceHolds.l0 k l0 t228 (wrap64 (8192 + (Int.tmod (wrap64 (a1)) 8000))) bt229.2.2.2.2.2 0 0 bt229.1 bt229.2.1 bt229.2.2.1 bt229.2.2.2.1 bt229.2.2.2.2.1)))
def waggonerlaw13_SpaceHolds.T11 : Bool × List (List Nat × List Nat) := (true, [([], []), ([], []), ([], []), ([2, 2], [2]), ([1, 3], [1, 3]), ([4], [4]), ([0, 5], [0, 5]), ([6], [6]), ([7], [7]), ([7], [7]), ([7], [7]), ([], []), ([11, 8, 6, 0, 1, 2, 3, 4, 5, 6, 7, 8, 11], [8, 11]), ([9, 12, 0, 1, 2, 3, 4, 5, 6, 7, 8, 9, 11, 12], [9]), ([10, 13, 0, 1, 2, 3, 4, 5, 6, 7, 8, 9, 10, 11, 12, 13], [10])])
def waggonerlaw13_SpaceHolds.B11 : List Nat := [0, 0, 0, 4, 14, 30, 63, 127, 255, 255, 255, 0, 2559, 7167, 16383]
theorem waggonerlaw13_SpaceHolds.tab11 : rtab .any (opsOf Try.f3 11) = waggonerlaw13_SpaceHolds.T11 := by kernel_rfl
theorem waggonerlaw13_SpaceHolds.bits11 : waitsOk waggonerlaw13_SpaceHolds.T11.2 waggonerlaw13_SpaceHolds.B11 = true := by kernel_rfl
set_option maxHeartbeats 8000000 in
set_option maxRecDepth 100000 in
theorem waggonerlaw13_SpaceHolds.calls (k : Nat) (A0 : Option Addr) (c0 : Nat) (l0 : List Int) (a1 : Int) (r : Bool) (w : World) (hr0 : Kd.C (Kd.int .u16) w A0 l0.length l0) (hc0 : l0.length ≤ c0) (h : waggonerlaw13_SpaceHolds.f k l0 a1 = some r) (hr_ : r = true) :
  Calls Try.prog 3 #[.slice A0 l0.length c0, .int .u16 a1] w fun e w' => e = .returned (.bool r) ∧ Below w.heap.size w w' := by
 have HR_ := Aside0.mk hr_
 clear hr_
 have hu27 := Try.underlying27
 have hu36 := Try.underlying36
 have HR0 := Aside0.mk hr0
 have HC0 := Aside0.mk hc0
 clear hr0 hc0
 have HB := Aside0.mk (Below.refl w.heap.size w)
 have H : ((waggonerlaw13_awake.f).bind fun t228 => (if (l0.length : Int) > 60 then (some t228) else ((dev_New.f 60 (wrap64 (8192 + (Int.tmod (wrap64 (a1)) 8000)))).bind fun bt229 => (waggonerlaw13_SpaceHolds.l0 k l0 t228 (wrap64 (8192 + (Int.tmod (wrap64 (a1)) 8000))) bt229.2.2.2.2.2 0 0 bt229.1 bt229.2.1 bt229.2.2.1 bt229.2.2.2.1 bt229.2.2.2.2.1)))) = some r := h
 clear h
 replace H := Option.bind_eq_some_iff.mp H
 obtain ⟨t228, A30, H⟩ := H
 replace H : (if (l0.length : Int) > 60 then (some t228) else ((dev_New.f 60 (wrap64 (8192 + (Int.tmod (wrap64 (a1)) 8000)))).bind fun bt229 => (waggonerlaw13_SpaceHolds.l0 k l0 t228 (wrap64 (8192 + (Int.tmod (wrap64 (a1)) 8000))) bt229.2.2.2.2.2 0 0 bt229.1 bt229.2.1 bt229.2.2.1 bt229.2.2.2.1 bt229.2.2.2.2.1))) = some r := H
 have A3 := Aside0.mk A30
 clear A30
 by_cases c4 : (l0.length : Int) > 60
 ·rw [if_pos c4] at H
  have c4b0 : decide (60 < (l0.length : Int)) = true := decide_eq_true c4
  have c4b1 : decide (60 < l0.length) = true := decide_eq_true (by omega)
  clear c4
  obtain rfl := Option.some.inj H
  go_enter Try.func3, Try.ntmps3
  go_wp2_with (first | ((with_reducible refine gate_callee (f := 10) rfl ?_); refine goesL_ (some 16) rfl rfl Try.func10 (by kernel_rfl) rfl #[] rfl (by (try simp only [List.map_toArray, List.map_cons, List.map_nil]); first | done | rfl | (simp only [List.length_drop, List.length_take]; rfl)) ?_; (with_reducible refine (waggonerlaw13_awake.calls  t228 _ A3.out).mono ?_); rintro e w5 ⟨rfl, hb⟩; refine ⟨_, rfl, ?_⟩; have n0_ := Aside0.mk (below_step (by repeat (first | (with_reducible first | exact HB.out | apply below_alloc | apply pw_below_drewN | apply below_drew1) | exact HB.out)) hb); clear HB; have HB := n0_; clear n0_; (try clear hb); (try clear hb2); (try clear hk); (try clear hi)))
  go_ret
  exact ⟨by first | rfl | (simp [errW_none, errW_some] <;> rfl) | (simp [*, errW_none, errW_some] <;> rfl), by repeat (first | (with_reducible first | exact HB.out | apply below_alloc | apply pw_below_drewN | apply below_drew1) | exact HB.out)⟩
 ·rw [if_neg c4] at H
  have c4b0 : decide (60 < (l0.length : Int)) = false := decide_eq_false c4
  have c4b1 : decide (60 < l0.length) = false := decide_eq_false (by omega)
  clear c4
  replace H := Option.bind_eq_some_iff.mp H
  obtain ⟨⟨t229, t230, t233, t234, t235, t236⟩, A60, H⟩ := H
  replace H : (waggonerlaw13_SpaceHolds.l0 k l0 t228 (wrap64 (8192 + (Int.tmod (wrap64 (a1)) 8000))) t236 0 0 t229 t230 t233 t234 t235) = some r := H
  have A6 := Aside0.mk A60
  clear A60
  have H' := Aside0.mk H
  clear H
  go_enter Try.func3, Try.ntmps3
  go_wp2_with (first | ((with_reducible refine gate_callee (f := 10) rfl ?_); refine goesL_ (some 16) rfl rfl Try.func10 (by kernel_rfl) rfl #[] rfl (by (try simp only [List.map_toArray, List.map_cons, List.map_nil]); first | done | rfl | (simp only [List.length_drop, List.length_take]; rfl)) ?_; (with_reducible refine (waggonerlaw13_awake.calls  t228 _ A3.out).mono ?_); rintro e w7 ⟨rfl, hb⟩; refine ⟨_, rfl, ?_⟩; have n0_ := Aside0.mk (below_step (by repeat (first | (with_reducible first | exact HB.out | apply below_alloc | apply pw_below_drewN | apply below_drew1) | exact HB.out)) hb); clear HB; have HB := n0_; clear n0_; (try clear hb); (try clear hb2); (try clear hk); (try clear hi)) | ((with_reducible refine gate_callee (f := 11) rfl ?_); refine goesL_ (some 27) rfl rfl Try.func11 (by kernel_rfl) rfl #[.int .i64 60, .int .i64 (wrap64 (8192 + (Int.tmod (wrap64 (a1)) 8000)))] rfl (by (try simp only [List.map_toArray, List.map_cons, List.map_nil]); first | done | rfl | (simp only [List.length_drop, List.length_take]; rfl)) ?_; (with_reducible refine (dev_New.calls 60 (wrap64 (8192 + (Int.tmod (wrap64 (a1)) 8000))) t229 t230 t233 t234 t235 t236 _ A6.out).mono ?_); rintro e w8 ⟨v231, rfl, ho0, hb⟩; refine ⟨_, rfl, ?_⟩; have n0_ := Aside0.mk (Kd.N_lower (Kd.N_mono (ok' := fun k_ => True) (Kd.S_N (Kd.S_bound ho0)) (fun k_ hk_ => trivial)) (below_size (by repeat (first | (with_reducible first | exact HB.out | apply below_alloc | apply pw_below_drewN | apply below_drew1) | exact HB.out)))); have n1_ := Aside0.mk (below_step (by repeat (first | (with_reducible first | exact HB.out | apply below_alloc | apply pw_below_drewN | apply below_drew1) | exact HB.out)) hb); clear HB; have HO232 := n0_; have HB := n1_; clear n0_ n1_; (try clear hb); (try clear hb2); (try clear hk); (try clear hi); (try clear ho0)) | ((with_reducible refine gate_dst (N := 7) rfl ?_); (try (refine gate_guard (by rfl) ?_; dsimp only)); refine box_event ?hg (N := 7) ?hd (cs := #[.int .i64 0, .slice none 0 0, .int .i64 0, .bool false, .int .i64 0]) (t := 27) ?hr ?_; (case hd => rfl); (case hg => rfl); (case hr => first | (go_simp; done) | (go_simp; rfl)); intro gb237 hg w9 hbox hb; have n0_ := Aside0.mk (Kd.N_below (Kd.N_elderB (by (with_reducible repeat (first | apply Kd.N_alloc | apply Kd.N_drewN | apply Kd.N_drew)); exact HO232.out) gb237 (Nat.le_of_eq hg.symm)) hb); have n1_ := Aside0.mk (below_step (by repeat (first | (with_reducible first | exact HB.out | apply below_alloc | apply pw_below_drewN | apply below_drew1) | exact HB.out)) hb); have n2_ := Aside0.mk (hbox); have n3_ := Aside0.mk ((by rw [hg]; exact (below_size (by repeat (first | (with_reducible first | exact HB.out | apply below_alloc | apply pw_below_drewN | apply below_drew1) | exact HB.out))) : w.heap.size ≤ gb237)); have n4_ := Aside0.mk ((by rw [hg]; exact (below_size (by repeat (first | (with_reducible first | exact HB.out | apply below_alloc | apply pw_below_drewN | apply below_drew1) | exact HB.out))) : w.heap.size ≤ gb237)); clear HO232; clear HB; have HO232 := n0_; have HB := n1_; have BK237 := n2_; have GW237 := n3_; have GE237 := n4_; clear n0_ n1_ n2_ n3_ n4_; clear hb hbox hg; have hcz10_0 : w9.cell? ⟨gb237, 0, none⟩ = some (.int .i64 0) := (blk_cell BK237.out 0).trans rfl; have hcz10_1 : w9.cell? ⟨gb237, 1, none⟩ = some (.slice none 0 0) := (blk_cell BK237.out 1).trans rfl; have hcz10_2 : w9.cell? ⟨gb237, 2, none⟩ = some (.int .i64 0) := (blk_cell BK237.out 2).trans rfl; have hcz10_3 : w9.cell? ⟨gb237, 3, none⟩ = some (.bool false) := (blk_cell BK237.out 3).trans rfl; have hcz10_4 : w9.cell? ⟨gb237, 4, none⟩ = some (.int .i64 0) := (blk_cell BK237.out 4).trans rfl; have hfz10_0 := blk_frozen BK237.out 0; have hfz10_1 := blk_frozen BK237.out 1; have hfz10_2 := blk_frozen BK237.out 2; have hfz10_3 := blk_frozen BK237.out 3; have hfz10_4 := blk_frozen BK237.out 4; obtain ⟨Ao11, co11, eo11⟩ := Kd.N_slice HO232.out; subst eo11))
  go_loopg [9, 10] k (fun kq v9 v10 w' => ∃ (x9_1 : Int) (x10_1 : Int) (x238000_1 : Int) (x238001_1 : List (S52)) (x238002_1 : Int) (x238003_1 : Bool) (x238004_1 : Int) (u238001 : Value), v9 = .int .i64 x9_1 ∧ v10 = .int .i64 x10_1 ∧ Aside0 (waggonerlaw13_SpaceHolds.l0 kq l0 t228 (wrap64 (8192 + (Int.tmod (wrap64 (a1)) 8000))) t236 x9_1 x10_1 x238000_1 x238001_1 x238002_1 x238003_1 x238004_1 = some r) ∧ Aside0 (kq ≤ k) ∧ Aside0 (Kd.V k52 52 w' w.heap.size (fun k_ => k_ ≠ gb237) u238001 x238001_1) ∧ Aside0 (w'.heap[gb237]? = some (.cells #[.int .i64 x238000_1, u238001, .int .i64 x238002_1, .bool x238003_1, .int .i64 x238004_1] 27 (0, 0))) ∧ Aside0 (Below w.heap.size w w'))
  case atStart => exact ⟨(0), (0), (t229), (t230), (t233), (t234), (t235), (.slice Ao11 t230.length co11), (by first | rfl | (simp; done) | (simp [*]; done)), (by first | rfl | (simp; done) | (simp [*]; done)), H', ⟨Nat.le_refl _⟩, ⟨Kd.N_V (by (with_reducible repeat (first | apply Kd.N_alloc | apply Kd.N_drewN | apply Kd.N_drew)); exact Kd.N_mono (Kd.N_far (p := ⟨gb237, 4, none⟩) (Kd.N_far (p := ⟨gb237, 3, none⟩) (Kd.N_far (p := ⟨gb237, 2, none⟩) (Kd.N_far (p := ⟨gb237, 1, none⟩) (Kd.N_far (p := ⟨gb237, 0, none⟩) (Kd.N_mono HO232.out (fun k_ hk => (⟨hk, hk.2⟩ : _ ∧ k_ ≠ gb237))) (fun _ hk => hk.2) (.int .i64 t229)) (fun _ hk => hk.2) (.slice Ao11 t230.length co11)) (fun _ hk => hk.2) (.int .i64 t233)) (fun _ hk => hk.2) (.bool t234)) (fun _ hk => hk.2) (.int .i64 t235)) (fun _ hk => hk.1.2))⟩, ⟨by (with_reducible repeat (first | refine blk_drewN ?_ _ | refine blk_drew ?_ | refine blk_alloc ?_ _)); refine blk_put (cs := #[.int .i64 t229, .slice Ao11 t230.length co11, .int .i64 t233, .bool t234, .int .i64 0]) ?_ 4 _ rfl; (with_reducible repeat (first | refine blk_drewN ?_ _ | refine blk_drew ?_ | refine blk_alloc ?_ _)); refine blk_put (cs := #[.int .i64 t229, .slice Ao11 t230.length co11, .int .i64 t233, .bool false, .int .i64 0]) ?_ 3 _ rfl; (with_reducible repeat (first | refine blk_drewN ?_ _ | refine blk_drew ?_ | refine blk_alloc ?_ _)); refine blk_put (cs := #[.int .i64 t229, .slice Ao11 t230.length co11, .int .i64 0, .bool false, .int .i64 0]) ?_ 2 _ rfl; (with_reducible repeat (first | refine blk_drewN ?_ _ | refine blk_drew ?_ | refine blk_alloc ?_ _)); refine blk_put (cs := #[.int .i64 t229, .slice none 0 0, .int .i64 0, .bool false, .int .i64 0]) ?_ 1 _ rfl; (with_reducible repeat (first | refine blk_drewN ?_ _ | refine blk_drew ?_ | refine blk_alloc ?_ _)); refine blk_put (cs := #[.int .i64 0, .slice none 0 0, .int .i64 0, .bool false, .int .i64 0]) ?_ 0 _ rfl; (with_reducible repeat (first | refine blk_drewN ?_ _ | refine blk_drew ?_ | refine blk_alloc ?_ _)); exact BK237.out⟩, ⟨by repeat (first | (with_reducible first | exact HB.out | apply below_alloc | apply pw_below_drewN | apply below_drew1 | refine below_set ?_ GE237.out) | exact HB.out)⟩⟩
  case round =>
   clear H'
   try clear c1
   try clear p2
   try clear c3
   try clear c4
   try clear c4b0
   try clear c4b1
   try clear p6
   try clear c10
   try clear c11
   try clear hcz10_0
   try clear hcz10_1
   try clear hcz10_2
   try clear hcz10_3
   try clear hcz10_4
   try clear hfz10_0
   try clear hfz10_1
   try clear hfz10_2
   try clear hfz10_3
   try clear hfz10_4
   obtain ⟨x9_1, x10_1, x238000_1, x238001_1, x238002_1, x238003_1, x238004_1, u238001, rfl, rfl, HA, HK1, HO_238001, BK237, HB⟩ := hrel
   cases gk with
   | zero => exact absurd HA.out (by simp [waggonerlaw13_SpaceHolds.l0])
   | succ k1 =>
    have H := HA.out
    clear HA
    simp only [waggonerlaw13_SpaceHolds.l0] at H
    by_cases c12 : x10_1 < (l0.length : Int)
    ·rw [if_pos c12] at H
     have c12b0 : decide (x10_1 < (l0.length : Int)) = true := decide_eq_true c12
     clear c12
     by_cases c13 : 0 ≤ x10_1
     ·rw [if_pos c13] at H
      have c13b0 : decide (0 ≤ x10_1) = true := decide_eq_true c13
      clear c13
      obtain ⟨ji14, hji14⟩ : ∃ j_ : Int, (Int.tmod (wrap64 (rd l0 x10_1)) 4097) = j_ := ⟨_, rfl⟩
      replace H : (if 0 ≤ (ji14) then (if (ji14 : Int).toNat ≤ 281474976710656 then ((log_Append.f k1 x238000_1 x238001_1 x238002_1 x238003_1 x238004_1 (([(⟨1, x10_1, (List.replicate (ji14 : Int).toNat 0)⟩ : S36)] : List (S36)))).bind fun bt245 => (if bt245.2.2.2.2.2.2 = 0 then (waggonerlaw13_SpaceHolds.l0 k1 l0 t228 (wrap64 (8192 + (Int.tmod (wrap64 (a1)) 8000))) t236 (wrap64 ((wrap64 (x9_1 + (ji14))) + 20)) (wrap64 (x10_1 + 1)) bt245.1 bt245.2.1 bt245.2.2.1 bt245.2.2.2.1 bt245.2.2.2.2.1) else (some false))) else (none)) else (none)) = some r := by first | (rw [hji14] at H; exact H) | (simp only [hji14] at H ⊢; exact H)
      by_cases c15 : 0 ≤ (ji14)
      ·rw [if_pos c15] at H
       have c15b0 := eq_true c15
       have c15b1 : decide (0 ≤ (ji14)) = true := decide_eq_true c15
       clear c15
       by_cases c16 : (ji14 : Int).toNat ≤ 281474976710656
       ·rw [if_pos c16] at H
        have c16b0 := eq_true c16
        have c16b1 : decide ((ji14 : Int).toNat ≤ 281474976710656) = true := decide_eq_true c16
        clear c16
        obtain ⟨y239, hy239⟩ : ∃ y_ : List Int, y_ = (List.replicate (ji14 : Int).toNat 0) := ⟨_, rfl⟩
        replace H : ((log_Append.f k1 x238000_1 x238001_1 x238002_1 x238003_1 x238004_1 (([(⟨1, x10_1, y239⟩ : S36)] : List (S36)))).bind fun bt245 => (if bt245.2.2.2.2.2.2 = 0 then (waggonerlaw13_SpaceHolds.l0 k1 l0 t228 (wrap64 (8192 + (Int.tmod (wrap64 (a1)) 8000))) t236 (wrap64 ((wrap64 (x9_1 + (ji14))) + 20)) (wrap64 (x10_1 + 1)) bt245.1 bt245.2.1 bt245.2.2.1 bt245.2.2.2.1 bt245.2.2.2.2.1) else (some false))) = some r := by first | (rw [hy239]; with_reducible exact H) | (have H2_ := (Option.bind_some _ _).symm.trans H; rw [hy239]; with_reducible exact H2_) | (have H2_ := (Option.bind_some _ _).symm.trans H; with_reducible exact H2_) | with_reducible exact H | (rw [hy239]; exact H) | exact H
        have Ny239 := Aside0.mk hy239
        clear hy239
        obtain ⟨y242, hy242⟩ : ∃ y_ : List (S36), y_ = (([(⟨1, x10_1, y239⟩ : S36)] : List (S36))) := ⟨_, rfl⟩
        replace H : ((log_Append.f k1 x238000_1 x238001_1 x238002_1 x238003_1 x238004_1 y242).bind fun bt245 => (if bt245.2.2.2.2.2.2 = 0 then (waggonerlaw13_SpaceHolds.l0 k1 l0 t228 (wrap64 (8192 + (Int.tmod (wrap64 (a1)) 8000))) t236 (wrap64 ((wrap64 (x9_1 + (ji14))) + 20)) (wrap64 (x10_1 + 1)) bt245.1 bt245.2.1 bt245.2.2.1 bt245.2.2.2.1 bt245.2.2.2.2.1) else (some false))) = some r := by first | (rw [hy242]; with_reducible exact H) | (have H2_ := (Option.bind_some _ _).symm.trans H; rw [hy242]; with_reducible exact H2_) | (have H2_ := (Option.bind_some _ _).symm.trans H; with_reducible exact H2_) | with_reducible exact H | (rw [hy242]; exact H) | exact H
        have Ny242 := Aside0.mk hy242
        clear hy242
        replace H := Option.bind_eq_some_iff.mp H
        obtain ⟨⟨t245, t246, t249, t250, t251, t252, t255⟩, A170, H⟩ := H
        replace H : (if t255 = 0 then (waggonerlaw13_SpaceHolds.l0 k1 l0 t228 (wrap64 (8192 + (Int.tmod (wrap64 (a1)) 8000))) t236 (wrap64 ((wrap64 (x9_1 + (ji14))) + 20)) (wrap64 (x10_1 + 1)) t245 t246 t249 t250 t251) else (some false)) = some r := H
        have A17 := Aside0.mk A170
        clear A170
        by_cases c18 : t255 = 0
        ·rw [if_pos c18] at H
         have c18b0 : (t255 == 0) = true := beq_iff_eq.mpr c18
         have c18b1 : (t255 != 0) = false := bne_eq_false_iff_eq.mpr c18
         clear c18
         have H' := Aside0.mk H
         clear H
         have p238 : 0 ≤ (x10_1 : Int) := of_decide_eq_true (by first | (with_reducible assumption) | assumption)
         have q238 : x10_1 < (l0.length : Int) := of_decide_eq_true (by first | (with_reducible assumption) | assumption)
         obtain ⟨ad238, e238, hx238_0⟩ := Kd.at_int HR0.out x10_1 p238 q238
         cases e238
         replace hx238_0 := (HB.out.cell (World.block_lt_of_cell? w _ hx238_0)).trans hx238_0
         replace p238 := eq_true p238
         replace q238 := eq_true q238
         obtain ⟨Ao19, co19, eo19⟩ := Kd.V_slice HO_238001.out
         subst eo19
         try go_wp2
         have n0_ := Aside0.mk (Kd.V_drew HO_238001.out)
         have n1_ := Aside0.mk (blk_drew BK237.out)
         have n2_ := Aside0.mk (below_drew1 HB.out)
         clear HO_238001
         clear BK237
         clear HB
         have HO_238001 := n0_
         have BK237 := n1_
         have HB := n2_
         clear n0_ n1_ n2_
         refine start_ (n := 15) (S := fun w' => w'.cell? ⟨gb237, 0, none⟩ = some (.int .i64 x238000_1) ∧ w'.cell? ⟨gb237, 1, none⟩ = some (.slice Ao19 x238001_1.length co19) ∧ w'.cell? ⟨gb237, 2, none⟩ = some (.int .i64 x238002_1) ∧ w'.cell? ⟨gb237, 3, none⟩ = some (.bool x238003_1) ∧ w'.cell? ⟨gb237, 4, none⟩ = some (.int .i64 x238004_1)) (ds := []) #[false, false, false, false, false, false, false, false, false, false, false, false, false, false, false] (by kernel_rfl) rfl rfl ⟨(blk_cell BK237.out 0).trans rfl, (blk_cell BK237.out 1).trans rfl, (blk_cell BK237.out 2).trans rfl, (blk_cell BK237.out 3).trans rfl, (blk_cell BK237.out 4).trans rfl⟩ (fun hHeld => ?_); refine with_tabW waggonerlaw13_SpaceHolds.tab11 waggonerlaw13_SpaceHolds.bits11 (fun HT_ HW_ => ?_)
         generalize wr.drew = w20 at HO_238001 BK237 HB hHeld ⊢
         refine pure_ (i := 1) (N := some 44) (v := ?_) (a' := ?_) #[false, true, false, false, false, false, false, false, false, false, false, false, false, false, false] rfl rfl (any_of HT_.out (by kernel_rfl)) (fun _ _ _ h => h) (Or.inl ⟨by rfl, ?_⟩) ?_ ?_
         rotate_left
         ·intro w'
          go_simp
          with_reducible rfl
         rotate_left
         ·simp only [Act.put, List.setIfInBounds_toArray, List.set_cons_zero, List.set_cons_succ, i64_w, i32_w]
          rfl
         refine pure_ (i := 2) (N := some 45) (v := ?_) (a' := ?_) #[false, true, true, false, false, false, false, false, false, false, false, false, false, false, false] rfl rfl (any_of HT_.out (by kernel_rfl)) (fun _ _ _ h => h) (Or.inl ⟨by rfl, ?_⟩) ?_ ?_
         rotate_left
         ·intro w'
          go_simp
          with_reducible rfl
         rotate_left
         ·simp only [Act.put, List.setIfInBounds_toArray, List.set_cons_zero, List.set_cons_succ, i64_w, i32_w]
          rfl
         refine take_ (i := 0) (N := some 43) (v := ?_) (a' := ?_) #[true, true, true, false, false, false, false, false, false, false, false, false, false, false, false] rfl rfl (take_ofW HT_.out HW_.out (by kernel_rfl)) (fun _ _ _ h => h) (Or.inl ⟨by rfl, ?_⟩) hHeld ?_ ?_
         rotate_left
         ·rintro w' ⟨s0, s1, s2, s3, s4⟩
          go_simp
          with_reducible rfl
         rotate_left
         ·simp only [Act.put, List.setIfInBounds_toArray, List.set_cons_zero, List.set_cons_succ, i64_w, i32_w]
          rfl
         refine join_ (σ := Value × Value × Value × Value × Nat) 3 #[true, true, true, true, true, true, true, true, true, true, true, true, false, false, false] (fun s_ => [(46, s_.1), (48, s_.2.1), (49, .tuple #[.agg #[.int .i64 t245, s_.2.2.1, .int .i64 t249, .bool t250, .int .i64 t251], s_.2.2.2.1, .int .i64 t255]), (12, .pointer (some ⟨s_.2.2.2.2, 0, none⟩)), (47, .agg #[.int .i64 1, .int .i64 x10_1, s_.1]), (42, .tuple #[.agg #[.int .i64 t245, s_.2.2.1, .int .i64 t249, .bool t250, .int .i64 t251], s_.2.2.2.1, .int .i64 t255]), (50, .agg #[.int .i64 t245, s_.2.2.1, .int .i64 t249, .bool t250, .int .i64 t251]), (51, s_.2.2.2.1), (52, .int .i64 t255)]) (fun s_ w' => (w'.cell? ⟨gb237, 0, none⟩ = some (.int .i64 x238000_1) ∧ w'.cell? ⟨gb237, 1, none⟩ = some (.slice Ao19 x238001_1.length co19) ∧ w'.cell? ⟨gb237, 2, none⟩ = some (.int .i64 x238002_1) ∧ w'.cell? ⟨gb237, 3, none⟩ = some (.bool x238003_1) ∧ w'.cell? ⟨gb237, 4, none⟩ = some (.int .i64 x238004_1)) ∧ (Kd.N k36 36 w' w.heap.size (fun k_ => some k_ ≠ (s_.2.2.2.1 : Value).ownBlock ∧ k_ ≠ gb237 ∧ k_ ≠ s_.2.2.2.2) s_.2.1 y242) ∧ (Kd.V k52 52 w' w.heap.size (fun k_ => some k_ ≠ (s_.2.1 : Value).ownBlock ∧ some k_ ≠ (s_.2.2.2.1 : Value).ownBlock ∧ k_ ≠ gb237 ∧ k_ ≠ s_.2.2.2.2) s_.2.2.1 t246) ∧ (Kd.R kCx 58 w' w.heap.size (fun _ => True) s_.2.2.2.1 t252) ∧ (Kd.V k52 52 w' w.heap.size (fun k_ => some k_ ≠ (s_.2.1 : Value).ownBlock ∧ some k_ ≠ (s_.2.2.2.1 : Value).ownBlock ∧ k_ ≠ gb237 ∧ k_ ≠ s_.2.2.2.2) (.slice Ao19 x238001_1.length co19) x238001_1) ∧ (w'.heap[gb237]? = some (.cells #[.int .i64 x238000_1, .slice Ao19 x238001_1.length co19, .int .i64 x238002_1, .bool x238003_1, .int .i64 x238004_1] 27 (0, 0))) ∧ (w'.heap[s_.2.2.2.2]? = some (.cells #[.int .i64 0, .slice none 0 0, .int .i64 0, .bool false, .int .i64 0] 27 (0, 0))) ∧ (w.heap.size ≤ s_.2.2.2.2) ∧ (w.heap.size ≤ s_.2.2.2.2) ∧ (gb237 ≠ s_.2.2.2.2) ∧ (s_.2.2.2.2 ≠ gb237) ∧ (Below w.heap.size w w')) ?_ ?_
         rotate_left
         ·intro hCont
          refine two_ (i := 3) (j := 11) (Ni := some 46) (Nj := some 12) #[true, true, true, true, false, false, false, false, false, false, false, false, false, false, false] #[true, true, true, false, false, false, false, false, false, false, false, true, false, false, false] rfl rfl rfl rfl (two_of HT_.out (by kernel_rfl)) (by decide) (by decide) (fun K hK => ?_) (fun K hK => ?_)
          ·skip
           refine Kd.R_make_step (Kd.int .u8) _ 5 (by rfl) (N := 46) rfl 34 _ _ rfl ji14 rfl rfl Try.underlying34 (.int .u8 0) 1 info5 rfl (by decide) (by omega) 0 (ok := fun _ => True) (okp := fun _ => True) rfl (fun _ hk => hk) trivial (of_decide_eq_true (by first | (with_reducible assumption) | assumption)) (Nat.le_trans (Nat.mul_le_mul_right _ (of_decide_eq_true (by first | (with_reducible assumption) | assumption) : ji14.toNat ≤ 281474976710656)) (by omega)) (Below.refl _ _) (Nat.le_refl _) ?_
           intro v240 w21 ho22 hb hg_ hnew_
           clear hg_ hnew_
           (first | rw [← Ny239.out] at ho22 | (simp only [Int.reduceToNat] at ho22; rw [← Ny239.out] at ho22))
           have n0_ := Aside0.mk (Kd.V_elder' (by (with_reducible repeat (first | apply Kd.V_alloc | apply Kd.V_drewN | apply Kd.V_drew)); exact HO_238001.out) (Kd.R_base ho22) hb)
           have n1_ := Aside0.mk (Kd.R_lower ho22 (below_size (by repeat (first | (with_reducible first | exact HB.out | apply below_alloc | apply pw_below_drewN | apply below_drew1 | refine below_set ?_ GE237.out) | exact HB.out))))
           have n2_ := Aside0.mk (blk_below (g := gb237) (o := .cells #[.int .i64 x238000_1, .slice Ao19 x238001_1.length co19, .int .i64 x238002_1, .bool x238003_1, .int .i64 x238004_1] 27 (0, 0)) (by (with_reducible repeat (first | refine blk_drewN ?_ _ | refine blk_drew ?_ | refine blk_alloc ?_ _)); exact BK237.out) hb)
           have n3_ := Aside0.mk (below_step (by repeat (first | (with_reducible first | exact HB.out | apply below_alloc | apply pw_below_drewN | apply below_drew1 | refine below_set ?_ GE237.out) | exact HB.out)) hb)
           clear HO_238001
           clear BK237
           clear HB
           have HO_238001 := n0_
           have HO241 := n1_
           have BK237 := n2_
           have HB := n3_
           clear n0_ n1_ n2_ n3_
           clear hb ho22
           obtain ⟨Ao23, co23, eo23⟩ := Kd.R_slice HO241.out
           (first | subst eo23 | (injection eo23 with f1_ f2_ f3_; have f4_ := f1_.symm; have f5_ := f3_.symm; clear f1_ f2_ f3_; subst f4_; subst f5_))
           refine hK.out _ _ ⟨(blk_cell BK237.out 0).trans rfl, (blk_cell BK237.out 1).trans rfl, (blk_cell BK237.out 2).trans rfl, (blk_cell BK237.out 3).trans rfl, (blk_cell BK237.out 4).trans rfl⟩ (fun hHeld => ?_)
           clear hK K
           refine norm_ (a' := ?_) ?_ ?_
           rotate_left
           ·show Act.put _ (some 46) _ = _
            simp only [Act.put, List.setIfInBounds_toArray, List.set_cons_zero, List.set_cons_succ, i64_w, i32_w]
            rfl
           refine pure_ (i := 4) (N := some 47) (v := ?_) (a' := ?_) #[true, true, true, true, true, false, false, false, false, false, false, false, false, false, false] rfl rfl (any_of HT_.out (by kernel_rfl)) (fun _ _ _ h => h) (Or.inl ⟨by rfl, ?_⟩) ?_ ?_
           rotate_left
           ·intro w'
            go_simp
            with_reducible rfl
           rotate_left
           ·simp only [Act.put, List.setIfInBounds_toArray, List.set_cons_zero, List.set_cons_succ, i64_w, i32_w]
            rfl
           refine two_ (i := 5) (j := 11) (Ni := some 48) (Nj := some 12) #[true, true, true, true, true, true, false, false, false, false, false, false, false, false, false] #[true, true, true, true, true, false, false, false, false, false, false, true, false, false, false] rfl rfl rfl rfl (two_of HT_.out (by kernel_rfl)) (by decide) (by decide) (fun K hK => ?_) (fun K hK => ?_)
           ·skip
            refine Kd.N_lit_step k36 _ 36 ?hg (N' := 48) ?hd (xs := ([(⟨1, x10_1, y239⟩ : S36)] : List (S36))) (inner := [.int .i64 1, .int .i64 x10_1, .slice Ao23 y239.length co23]) (ok := (fun k_ => k_ ≠ gb237)) (okp := (fun k_ => k_ ≠ gb237)) ?hr ?hp (fun _ hk => hk) ((show ∀ k_, w21.heap.size ≤ k_ → (fun k_ => k_ ≠ gb237) k_ from fun k_ hk => Kd.freshB (g := gb237) (o := .cells #[.int .i64 x238000_1, .slice Ao19 x238001_1.length co19, .int .i64 x238002_1, .bool x238003_1, .int .i64 x238004_1] 27 (0, 0)) (by (with_reducible repeat (first | refine blk_drewN ?_ _ | refine blk_drew ?_ | refine blk_alloc ?_ _)); exact BK237.out) k_ hk) _ (Nat.le_refl _)) (Below.refl _ _) (Nat.le_refl _) (by simp) ?_; (case hd => rfl); (case hg => rfl); (case hr => first | (go_simp; done) | (go_simp; rfl)); (case hp => exact (Reps.c3 (show Kd.FK k36 _ _ (⟨1, x10_1, y239⟩ : S36) [.int .i64 1, .int .i64 x10_1, .slice Ao23 y239.length co23] from (k36_mkF _ _ (⟨1, x10_1, y239⟩ : S36) (Kd.R_reads' (Kd.R_mono (ok' := (fun k_ => k_ ≠ gb237)) (Kd.R_types (HO241.out) BK237.out (by decide)) (fun k_ hk => hk.2))).2.1 (Kd.R_F (Kd.R_mono (ok' := (fun k_ => k_ ≠ gb237)) (Kd.R_types (HO241.out) BK237.out (by decide)) (fun k_ hk => hk.2))))) (Reps.none _ _)))
            intro v243 w24 ho25 hb hg_ hnew_
            clear hg_ hnew_
            (first | rw [← Ny242.out] at ho25 | (simp only [Int.reduceToNat] at ho25; rw [← Ny242.out] at ho25))
            have n0_ := Aside0.mk (Kd.V_elder' (by (with_reducible repeat (first | apply Kd.V_alloc | apply Kd.V_drewN | apply Kd.V_drew)); exact HO_238001.out) (Kd.N_base ho25) hb)
            have n1_ := Aside0.mk (Kd.N_lower ho25 (below_size (by repeat (first | (with_reducible first | exact HB.out | apply below_alloc | apply pw_below_drewN | apply below_drew1 | refine below_set ?_ GE237.out) | exact HB.out))))
            have n2_ := Aside0.mk (blk_below (g := gb237) (o := .cells #[.int .i64 x238000_1, .slice Ao19 x238001_1.length co19, .int .i64 x238002_1, .bool x238003_1, .int .i64 x238004_1] 27 (0, 0)) (by (with_reducible repeat (first | refine blk_drewN ?_ _ | refine blk_drew ?_ | refine blk_alloc ?_ _)); exact BK237.out) hb)
            have n3_ := Aside0.mk (below_step (by repeat (first | (with_reducible first | exact HB.out | apply below_alloc | apply pw_below_drewN | apply below_drew1 | refine below_set ?_ GE237.out) | exact HB.out)) hb)
            clear HO_238001
            clear BK237
            clear HB
            clear HO241
            have HO_238001 := n0_
            have HO244 := n1_
            have BK237 := n2_
            have HB := n3_
            clear n0_ n1_ n2_ n3_
            clear hb ho25
            obtain ⟨Ao26, co26, eo26⟩ := Kd.N_slice HO244.out
            (first | subst eo26 | (injection eo26 with f1_ f2_ f3_; have f4_ := f1_.symm; have f5_ := f3_.symm; clear f1_ f2_ f3_; subst f4_; subst f5_))
            refine hK.out _ _ ⟨(blk_cell BK237.out 0).trans rfl, (blk_cell BK237.out 1).trans rfl, (blk_cell BK237.out 2).trans rfl, (blk_cell BK237.out 3).trans rfl, (blk_cell BK237.out 4).trans rfl⟩ (fun hHeld => ?_)
            clear hK K
            refine norm_ (a' := ?_) ?_ ?_
            rotate_left
            ·show Act.put _ (some 48) _ = _
             simp only [Act.put, List.setIfInBounds_toArray, List.set_cons_zero, List.set_cons_succ, i64_w, i32_w]
             rfl
            refine two_ (i := 6) (j := 11) (Ni := some 49) (Nj := some 12) #[true, true, true, true, true, true, true, false, false, false, false, false, false, false, false] #[true, true, true, true, true, true, false, false, false, false, false, true, false, false, false] rfl rfl rfl rfl (two_of HT_.out (by kernel_rfl)) (by decide) (by decide) (fun K hK => ?_) (fun K hK => ?_)
            ·skip
             refine goes_ Try.func12 (by kernel_rfl) rfl #[.agg #[.int .i64 x238000_1, .slice Ao19 x238001_1.length co19, .int .i64 x238002_1, .bool x238003_1, .int .i64 x238004_1], .slice Ao26 y242.length co26] (by rfl) rfl rfl (by (try simp only [List.map_toArray, List.map_cons, List.map_nil]); first | done | rfl | (simp only [List.length_drop, List.length_take]; rfl)) ?_
             with_reducible refine (log_Append.calls k1 x238000_1 _ _ x238001_1 x238002_1 x238003_1 x238004_1 _ _ y242 t245 t246 t249 t250 t251 t252 t255 _ ?side1 ?side2 ?side3 ?side4 A17.out).mono ?_
             (case side1 => repeat (first | exact (Kd.V_reads' HO_238001.out).2.2 | (with_reducible refine Kd.C_alloc ?_ _) | (with_reducible refine Kd.C_drewN ?_ _) | (with_reducible refine Kd.C_drew ?_)))
             (case side2 => exact (Kd.V_reads' HO_238001.out).2.1)
             (case side3 => repeat (first | exact (Kd.N_reads' HO244.out).2.2 | (with_reducible refine Kd.C_alloc ?_ _) | (with_reducible refine Kd.C_drewN ?_ _) | (with_reducible refine Kd.C_drew ?_)))
             (case side4 => exact (Kd.N_reads' HO244.out).2.1)
             rintro e w27 ⟨v247, v253, rfl, ho0, ho1, hb⟩
             refine ⟨_, rfl, ?_⟩
             have n0_ := Aside0.mk (Kd.V_elder' (by (with_reducible repeat (first | apply Kd.V_alloc | apply Kd.V_drewN | apply Kd.V_drew)); exact HO_238001.out) (Kd.R_base ho1) hb)
             have n1_ := Aside0.mk (Kd.N_elder' (by (with_reducible repeat (first | apply Kd.N_alloc | apply Kd.N_drewN | apply Kd.N_drew)); exact HO244.out) (Kd.R_base ho1) hb)
             have n2_ := Aside0.mk (Kd.V_lower (Kd.V_mono (ok' := fun k_ => some k_ ≠ (v253 : Value).ownBlock ∧ some k_ ≠ (.slice Ao26 y242.length co26 : Value).ownBlock ∧ k_ ≠ gb237) ho0 (fun k_ hk_ => ⟨hk_.2, (Kd.fresh' (Kd.N_lt (by (with_reducible repeat (first | apply Kd.N_alloc | apply Kd.N_drewN | apply Kd.N_drew)); exact HO244.out)) k_ hk_.1), (Kd.freshB (g := gb237) (o := .cells #[.int .i64 x238000_1, .slice Ao19 x238001_1.length co19, .int .i64 x238002_1, .bool x238003_1, .int .i64 x238004_1] 27 (0, 0)) (by (with_reducible repeat (first | refine blk_drewN ?_ _ | refine blk_drew ?_ | refine blk_alloc ?_ _)); exact BK237.out) k_ hk_.1)⟩)) (below_size (by repeat (first | (with_reducible first | exact HB.out | apply below_alloc | apply pw_below_drewN | apply below_drew1 | refine below_set ?_ GE237.out) | exact HB.out))))
             have n3_ := Aside0.mk (Kd.R_lower (Kd.R_mono (ok' := fun k_ => True) ho1 (fun _ hk_ => trivial)) (below_size (by repeat (first | (with_reducible first | exact HB.out | apply below_alloc | apply pw_below_drewN | apply below_drew1 | refine below_set ?_ GE237.out) | exact HB.out))))
             have n4_ := Aside0.mk (blk_below (g := gb237) (o := .cells #[.int .i64 x238000_1, .slice Ao19 x238001_1.length co19, .int .i64 x238002_1, .bool x238003_1, .int .i64 x238004_1] 27 (0, 0)) (by (with_reducible repeat (first | refine blk_drewN ?_ _ | refine blk_drew ?_ | refine blk_alloc ?_ _)); exact BK237.out) hb)
             have n5_ := Aside0.mk (below_step (by repeat (first | (with_reducible first | exact HB.out | apply below_alloc | apply pw_below_drewN | apply below_drew1 | refine below_set ?_ GE237.out) | exact HB.out)) hb)
             clear HO_238001
             clear HO244
             clear BK237
             clear HB
             have HO_238001 := n0_
             have HO244 := n1_
             have HO248 := n2_
             have HO254 := n3_
             have BK237 := n4_
             have HB := n5_
             clear n0_ n1_ n2_ n3_ n4_ n5_
             (try clear hb)
             (try clear hb2)
             (try clear hk)
             (try clear hi)
             (try clear ho0)
             (try clear ho1)
             refine hK.out _ _ ⟨(blk_cell BK237.out 0).trans rfl, (blk_cell BK237.out 1).trans rfl, (blk_cell BK237.out 2).trans rfl, (blk_cell BK237.out 3).trans rfl, (blk_cell BK237.out 4).trans rfl⟩ (fun hHeld => ?_)
             clear hK K
             refine norm_ (a' := ?_) ?_ ?_
             rotate_left
             ·show Act.put _ (some 49) _ = _
              simp only [Act.put, List.setIfInBounds_toArray, List.set_cons_zero, List.set_cons_succ, i64_w, i32_w]
              rfl
             refine pure_ (i := 7) (N := some 42) (v := ?_) (a' := ?_) #[true, true, true, true, true, true, true, true, false, false, false, false, false, false, false] rfl rfl (any_of HT_.out (by kernel_rfl)) (fun _ _ _ h => h) (Or.inl ⟨by rfl, ?_⟩) ?_ ?_
             rotate_left
             ·intro w'
              go_simp
              with_reducible rfl
             rotate_left
             ·simp only [Act.put, List.setIfInBounds_toArray, List.set_cons_zero, List.set_cons_succ, i64_w, i32_w]
              rfl
             refine pure_ (i := 8) (N := some 50) (v := ?_) (a' := ?_) #[true, true, true, true, true, true, true, true, true, false, false, false, false, false, false] rfl rfl (any_of HT_.out (by kernel_rfl)) (fun _ _ _ h => h) (Or.inl ⟨by rfl, ?_⟩) ?_ ?_
             rotate_left
             ·intro w'
              go_simp
              with_reducible rfl
             rotate_left
             ·simp only [Act.put, List.setIfInBounds_toArray, List.set_cons_zero, List.set_cons_succ, i64_w, i32_w]
              rfl
             refine pure_ (i := 9) (N := some 51) (v := ?_) (a' := ?_) #[true, true, true, true, true, true, true, true, true, true, false, false, false, false, false] rfl rfl (any_of HT_.out (by kernel_rfl)) (fun _ _ _ h => h) (Or.inl ⟨by rfl, ?_⟩) ?_ ?_
             rotate_left
             ·intro w'
              go_simp
              with_reducible rfl
             rotate_left
             ·simp only [Act.put, List.setIfInBounds_toArray, List.set_cons_zero, List.set_cons_succ, i64_w, i32_w]
              rfl
             refine pure_ (i := 10) (N := some 52) (v := ?_) (a' := ?_) #[true, true, true, true, true, true, true, true, true, true, true, false, false, false, false] rfl rfl (any_of HT_.out (by kernel_rfl)) (fun _ _ _ h => h) (Or.inl ⟨by rfl, ?_⟩) ?_ ?_
             rotate_left
             ·intro w'
              go_simp
              with_reducible rfl
             rotate_left
             ·simp only [Act.put, List.setIfInBounds_toArray, List.set_cons_zero, List.set_cons_succ, i64_w, i32_w]
              rfl
             refine one_ (i := 11) (N := some 12) #[true, true, true, true, true, true, true, true, true, true, true, true, false, false, false] rfl rfl (one_of HT_.out (by kernel_rfl)) (by decide) (fun K hK => ?_)
             refine box_step ?hg (N := 12) ?hd (cs := #[.int .i64 0, .slice none 0 0, .int .i64 0, .bool false, .int .i64 0]) (t := 27) ?hr ?_; (case hd => rfl); (case hg => rfl); (case hr => first | (go_simp; done) | (go_simp; rfl))
             intro gb256 hg w28 hbox hb
             have n0_ := Aside0.mk (Kd.V_below (Kd.V_elderB (by (with_reducible repeat (first | apply Kd.V_alloc | apply Kd.V_drewN | apply Kd.V_drew)); exact HO_238001.out) gb256 (Nat.le_of_eq hg.symm)) hb)
             have n1_ := Aside0.mk (Kd.N_below (Kd.N_elderB (by (with_reducible repeat (first | apply Kd.N_alloc | apply Kd.N_drewN | apply Kd.N_drew)); exact HO244.out) gb256 (Nat.le_of_eq hg.symm)) hb)
             have n2_ := Aside0.mk (Kd.V_below (Kd.V_elderB (by (with_reducible repeat (first | apply Kd.V_alloc | apply Kd.V_drewN | apply Kd.V_drew)); exact HO248.out) gb256 (Nat.le_of_eq hg.symm)) hb)
             have n3_ := Aside0.mk (Kd.R_below (by (with_reducible repeat (first | apply Kd.R_alloc | apply Kd.R_drewN | apply Kd.R_drew)); exact HO254.out) hb)
             have n4_ := Aside0.mk (blk_below (g := gb237) (o := .cells #[.int .i64 x238000_1, .slice Ao19 x238001_1.length co19, .int .i64 x238002_1, .bool x238003_1, .int .i64 x238004_1] 27 (0, 0)) (by (with_reducible repeat (first | refine blk_drewN ?_ _ | refine blk_drew ?_ | refine blk_alloc ?_ _)); exact BK237.out) hb)
             have n5_ := Aside0.mk (below_step (by repeat (first | (with_reducible first | exact HB.out | apply below_alloc | apply pw_below_drewN | apply below_drew1 | refine below_set ?_ GE237.out) | exact HB.out)) hb)
             have n6_ := Aside0.mk (hbox)
             have n7_ := Aside0.mk ((by rw [hg]; exact (below_size (by repeat (first | (with_reducible first | exact HB.out | apply below_alloc | apply pw_below_drewN | apply below_drew1 | refine below_set ?_ GE237.out) | exact HB.out))) : w.heap.size ≤ gb256))
             have n8_ := Aside0.mk ((by rw [hg]; exact (below_size (by repeat (first | (with_reducible first | exact HB.out | apply below_alloc | apply pw_below_drewN | apply below_drew1 | refine below_set ?_ GE237.out) | exact HB.out))) : w.heap.size ≤ gb256))
             have n9_ := Aside0.mk ((by rw [hg]; exact Nat.ne_of_lt (blk_lt (g := gb237) (o := .cells #[.int .i64 x238000_1, .slice Ao19 x238001_1.length co19, .int .i64 x238002_1, .bool x238003_1, .int .i64 x238004_1] 27 (0, 0)) (by (with_reducible repeat (first | refine blk_drewN ?_ _ | refine blk_drew ?_ | refine blk_alloc ?_ _)); exact BK237.out)) : gb237 ≠ gb256))
             have n10_ := Aside0.mk ((by rw [hg]; exact Nat.ne_of_gt (blk_lt (g := gb237) (o := .cells #[.int .i64 x238000_1, .slice Ao19 x238001_1.length co19, .int .i64 x238002_1, .bool x238003_1, .int .i64 x238004_1] 27 (0, 0)) (by (with_reducible repeat (first | refine blk_drewN ?_ _ | refine blk_drew ?_ | refine blk_alloc ?_ _)); exact BK237.out)) : gb256 ≠ gb237))
             clear HO_238001
             clear HO244
             clear HO248
             clear HO254
             clear BK237
             clear HB
             have HO_238001 := n0_
             have HO244 := n1_
             have HO248 := n2_
             have HO254 := n3_
             have BK237 := n4_
             have HB := n5_
             have BK256 := n6_
             have GW256 := n7_
             have GE256 := n8_
             have NB237_256 := n9_
             have NB256_237 := n10_
             clear n0_ n1_ n2_ n3_ n4_ n5_ n6_ n7_ n8_ n9_ n10_
             clear hb hbox hg
             refine hK.out _ _ ⟨(blk_cell BK237.out 0).trans rfl, (blk_cell BK237.out 1).trans rfl, (blk_cell BK237.out 2).trans rfl, (blk_cell BK237.out 3).trans rfl, (blk_cell BK237.out 4).trans rfl⟩ (fun hHeld => ?_)
             clear hK K
             refine norm_ (a' := ?_) ?_ ?_
             rotate_left
             ·show Act.put _ (some 12) _ = _
              simp only [Act.put, List.setIfInBounds_toArray, List.set_cons_zero, List.set_cons_succ, i64_w, i32_w]
              rfl
             exact norm_ (by simp only [putAll, Act.put, List.setIfInBounds_toArray, List.set_cons_zero, List.set_cons_succ]) (hCont (.slice Ao23 y239.length co23, .slice Ao26 y242.length co26, v247, v253, gb256) _ ⟨hHeld, (by (with_reducible repeat (first | apply Kd.N_alloc | apply Kd.N_drewN | apply Kd.N_drew)); exact Kd.N_mono HO244.out (fun _ hk => ⟨hk.1.2, ⟨hk.1.1, hk.2⟩⟩)), (by (with_reducible repeat (first | apply Kd.V_alloc | apply Kd.V_drewN | apply Kd.V_drew)); exact Kd.V_mono HO248.out (fun _ hk => ⟨hk.1.2.1, ⟨hk.1.1, ⟨hk.1.2.2, hk.2⟩⟩⟩)), (by (with_reducible repeat (first | apply Kd.R_alloc | apply Kd.R_drewN | apply Kd.R_drew)); exact HO254.out), (by (with_reducible repeat (first | apply Kd.V_alloc | apply Kd.V_drewN | apply Kd.V_drew)); exact Kd.V_mono HO_238001.out (fun _ hk => ⟨hk.1.1.2, ⟨hk.1.2, ⟨hk.1.1.1.1, hk.2⟩⟩⟩)), (by (with_reducible repeat (first | refine blk_drewN ?_ _ | refine blk_drew ?_ | refine blk_alloc ?_ _)); exact BK237.out), (by (with_reducible repeat (first | refine blk_drewN ?_ _ | refine blk_drew ?_ | refine blk_alloc ?_ _)); exact BK256.out), GW256.out, GE256.out, NB237_256.out, NB256_237.out, (by repeat (first | (with_reducible first | exact HB.out | apply below_alloc | apply pw_below_drewN | apply below_drew1 | refine below_set ?_ GE237.out | refine below_set ?_ GE256.out) | exact HB.out))⟩)
            ·skip
             refine box_step ?hg (N := 12) ?hd (cs := #[.int .i64 0, .slice none 0 0, .int .i64 0, .bool false, .int .i64 0]) (t := 27) ?hr ?_; (case hd => rfl); (case hg => rfl); (case hr => first | (go_simp; done) | (go_simp; rfl))
             intro gb256 hg w26 hbox hb
             have n0_ := Aside0.mk (Kd.V_below (Kd.V_elderB (by (with_reducible repeat (first | apply Kd.V_alloc | apply Kd.V_drewN | apply Kd.V_drew)); exact HO_238001.out) gb256 (Nat.le_of_eq hg.symm)) hb)
             have n1_ := Aside0.mk (Kd.N_below (Kd.N_elderB (by (with_reducible repeat (first | apply Kd.N_alloc | apply Kd.N_drewN | apply Kd.N_drew)); exact HO244.out) gb256 (Nat.le_of_eq hg.symm)) hb)
             have n2_ := Aside0.mk (blk_below (g := gb237) (o := .cells #[.int .i64 x238000_1, .slice Ao19 x238001_1.length co19, .int .i64 x238002_1, .bool x238003_1, .int .i64 x238004_1] 27 (0, 0)) (by (with_reducible repeat (first | refine blk_drewN ?_ _ | refine blk_drew ?_ | refine blk_alloc ?_ _)); exact BK237.out) hb)
             have n3_ := Aside0.mk (below_step (by repeat (first | (with_reducible first | exact HB.out | apply below_alloc | apply pw_below_drewN | apply below_drew1 | refine below_set ?_ GE237.out) | exact HB.out)) hb)
             have n4_ := Aside0.mk (hbox)
             have n5_ := Aside0.mk ((by rw [hg]; exact (below_size (by repeat (first | (with_reducible first | exact HB.out | apply below_alloc | apply pw_below_drewN | apply below_drew1 | refine below_set ?_ GE237.out) | exact HB.out))) : w.heap.size ≤ gb256))
             have n6_ := Aside0.mk ((by rw [hg]; exact (below_size (by repeat (first | (with_reducible first | exact HB.out | apply below_alloc | apply pw_below_drewN | apply below_drew1 | refine below_set ?_ GE237.out) | exact HB.out))) : w.heap.size ≤ gb256))
             have n7_ := Aside0.mk ((by rw [hg]; exact Nat.ne_of_lt (blk_lt (g := gb237) (o := .cells #[.int .i64 x238000_1, .slice Ao19 x238001_1.length co19, .int .i64 x238002_1, .bool x238003_1, .int .i64 x238004_1] 27 (0, 0)) (by (with_reducible repeat (first | refine blk_drewN ?_ _ | refine blk_drew ?_ | refine blk_alloc ?_ _)); exact BK237.out)) : gb237 ≠ gb256))
             have n8_ := Aside0.mk ((by rw [hg]; exact Nat.ne_of_gt (blk_lt (g := gb237) (o := .cells #[.int .i64 x238000_1, .slice Ao19 x238001_1.length co19, .int .i64 x238002_1, .bool x238003_1, .int .i64 x238004_1] 27 (0, 0)) (by (with_reducible repeat (first | refine blk_drewN ?_ _ | refine blk_drew ?_ | refine blk_alloc ?_ _)); exact BK237.out)) : gb256 ≠ gb237))
             clear HO_238001
             clear HO244
             clear BK237
             clear HB
             have HO_238001 := n0_
             have HO244 := n1_
             have BK237 := n2_
             have HB := n3_
             have BK256 := n4_
             have GW256 := n5_
             have GE256 := n6_
             have NB237_256 := n7_
             have NB256_237 := n8_
             clear n0_ n1_ n2_ n3_ n4_ n5_ n6_ n7_ n8_
             clear hb hbox hg
             obtain ⟨Ao27, co27, eo27⟩ := Kd.N_slice HO244.out
             (first | subst eo27 | (injection eo27 with f1_ f2_ f3_; have f4_ := f1_.symm; have f5_ := f3_.symm; clear f1_ f2_ f3_; subst f4_; subst f5_))
             refine hK.out _ _ ⟨(blk_cell BK237.out 0).trans rfl, (blk_cell BK237.out 1).trans rfl, (blk_cell BK237.out 2).trans rfl, (blk_cell BK237.out 3).trans rfl, (blk_cell BK237.out 4).trans rfl⟩ (fun hHeld => ?_)
             clear hK K
             refine norm_ (a' := ?_) ?_ ?_
             rotate_left
             ·show Act.put _ (some 12) _ = _
              simp only [Act.put, List.setIfInBounds_toArray, List.set_cons_zero, List.set_cons_succ, i64_w, i32_w]
              rfl
             refine one_ (i := 6) (N := some 49) #[true, true, true, true, true, true, true, false, false, false, false, true, false, false, false] rfl rfl (one_of HT_.out (by kernel_rfl)) (by decide) (fun K hK => ?_)
             refine goes_ Try.func12 (by kernel_rfl) rfl #[.agg #[.int .i64 x238000_1, .slice Ao19 x238001_1.length co19, .int .i64 x238002_1, .bool x238003_1, .int .i64 x238004_1], .slice Ao27 y242.length co27] (by rfl) rfl rfl (by (try simp only [List.map_toArray, List.map_cons, List.map_nil]); first | done | rfl | (simp only [List.length_drop, List.length_take]; rfl)) ?_
             with_reducible refine (log_Append.calls k1 x238000_1 _ _ x238001_1 x238002_1 x238003_1 x238004_1 _ _ y242 t245 t246 t249 t250 t251 t252 t255 _ ?side1 ?side2 ?side3 ?side4 A17.out).mono ?_
             (case side1 => repeat (first | exact (Kd.V_reads' HO_238001.out).2.2 | (with_reducible refine Kd.C_alloc ?_ _) | (with_reducible refine Kd.C_drewN ?_ _) | (with_reducible refine Kd.C_drew ?_)))
             (case side2 => exact (Kd.V_reads' HO_238001.out).2.1)
             (case side3 => repeat (first | exact (Kd.N_reads' HO244.out).2.2 | (with_reducible refine Kd.C_alloc ?_ _) | (with_reducible refine Kd.C_drewN ?_ _) | (with_reducible refine Kd.C_drew ?_)))
             (case side4 => exact (Kd.N_reads' HO244.out).2.1)
             rintro e w28 ⟨v247, v253, rfl, ho0, ho1, hb⟩
             refine ⟨_, rfl, ?_⟩
             have n0_ := Aside0.mk (Kd.V_elder' (by (with_reducible repeat (first | apply Kd.V_alloc | apply Kd.V_drewN | apply Kd.V_drew)); exact HO_238001.out) (Kd.R_base ho1) hb)
             have n1_ := Aside0.mk (Kd.N_elder' (by (with_reducible repeat (first | apply Kd.N_alloc | apply Kd.N_drewN | apply Kd.N_drew)); exact HO244.out) (Kd.R_base ho1) hb)
             have n2_ := Aside0.mk (Kd.V_lower (Kd.V_mono (ok' := fun k_ => some k_ ≠ (v253 : Value).ownBlock ∧ some k_ ≠ (.slice Ao27 y242.length co27 : Value).ownBlock ∧ k_ ≠ gb237 ∧ k_ ≠ gb256) ho0 (fun k_ hk_ => ⟨hk_.2, (Kd.fresh' (Kd.N_lt (by (with_reducible repeat (first | apply Kd.N_alloc | apply Kd.N_drewN | apply Kd.N_drew)); exact HO244.out)) k_ hk_.1), (Kd.freshB (g := gb237) (o := .cells #[.int .i64 x238000_1, .slice Ao19 x238001_1.length co19, .int .i64 x238002_1, .bool x238003_1, .int .i64 x238004_1] 27 (0, 0)) (by (with_reducible repeat (first | refine blk_drewN ?_ _ | refine blk_drew ?_ | refine blk_alloc ?_ _)); exact BK237.out) k_ hk_.1), (Kd.freshB (g := gb256) (o := .cells #[.int .i64 0, .slice none 0 0, .int .i64 0, .bool false, .int .i64 0] 27 (0, 0)) (by (with_reducible repeat (first | refine blk_drewN ?_ _ | refine blk_drew ?_ | refine blk_alloc ?_ _)); exact BK256.out) k_ hk_.1)⟩)) (below_size (by repeat (first | (with_reducible first | exact HB.out | apply below_alloc | apply pw_below_drewN | apply below_drew1 | refine below_set ?_ GE237.out | refine below_set ?_ GE256.out) | exact HB.out))))
             have n3_ := Aside0.mk (Kd.R_lower (Kd.R_mono (ok' := fun k_ => True) ho1 (fun _ hk_ => trivial)) (below_size (by repeat (first | (with_reducible first | exact HB.out | apply below_alloc | apply pw_below_drewN | apply below_drew1 | refine below_set ?_ GE237.out | refine below_set ?_ GE256.out) | exact HB.out))))
             have n4_ := Aside0.mk (blk_below (g := gb237) (o := .cells #[.int .i64 x238000_1, .slice Ao19 x238001_1.length co19, .int .i64 x238002_1, .bool x238003_1, .int .i64 x238004_1] 27 (0, 0)) (by (with_reducible repeat (first | refine blk_drewN ?_ _ | refine blk_drew ?_ | refine blk_alloc ?_ _)); exact BK237.out) hb)
             have n5_ := Aside0.mk (blk_below (g := gb256) (o := .cells #[.int .i64 0, .slice none 0 0, .int .i64 0, .bool false, .int .i64 0] 27 (0, 0)) (by (with_reducible repeat (first | refine blk_drewN ?_ _ | refine blk_drew ?_ | refine blk_alloc ?_ _)); exact BK256.out) hb)
             have n6_ := Aside0.mk (below_step (by repeat (first | (with_reducible first | exact HB.out | apply below_alloc | apply pw_below_drewN | apply below_drew1 | refine below_set ?_ GE237.out | refine below_set ?_ GE256.out) | exact HB.out)) hb)
             clear HO_238001
             clear HO244
             clear BK237
             clear BK256
             clear HB
             have HO_238001 := n0_
             have HO244 := n1_
             have HO248 := n2_
             have HO254 := n3_
             have BK237 := n4_
             have BK256 := n5_
             have HB := n6_
             clear n0_ n1_ n2_ n3_ n4_ n5_ n6_
             (try clear hb)
             (try clear hb2)
             (try clear hk)
             (try clear hi)
             (try clear ho0)
             (try clear ho1)
             refine hK.out _ _ ⟨(blk_cell BK237.out 0).trans rfl, (blk_cell BK237.out 1).trans rfl, (blk_cell BK237.out 2).trans rfl, (blk_cell BK237.out 3).trans rfl, (blk_cell BK237.out 4).trans rfl⟩ (fun hHeld => ?_)
             clear hK K
             refine norm_ (a' := ?_) ?_ ?_
             rotate_left
             ·show Act.put _ (some 49) _ = _
              simp only [Act.put, List.setIfInBounds_toArray, List.set_cons_zero, List.set_cons_succ, i64_w, i32_w]
              rfl
             refine pure_ (i := 7) (N := some 42) (v := ?_) (a' := ?_) #[true, true, true, true, true, true, true, true, false, false, false, true, false, false, false] rfl rfl (any_of HT_.out (by kernel_rfl)) (fun _ _ _ h => h) (Or.inl ⟨by rfl, ?_⟩) ?_ ?_
             rotate_left
             ·intro w'
              go_simp
              with_reducible rfl
             rotate_left
             ·simp only [Act.put, List.setIfInBounds_toArray, List.set_cons_zero, List.set_cons_succ, i64_w, i32_w]
              rfl
             refine pure_ (i := 8) (N := some 50) (v := ?_) (a' := ?_) #[true, true, true, true, true, true, true, true, true, false, false, true, false, false, false] rfl rfl (any_of HT_.out (by kernel_rfl)) (fun _ _ _ h => h) (Or.inl ⟨by rfl, ?_⟩) ?_ ?_
             rotate_left
             ·intro w'
              go_simp
              with_reducible rfl
             rotate_left
             ·simp only [Act.put, List.setIfInBounds_toArray, List.set_cons_zero, List.set_cons_succ, i64_w, i32_w]
              rfl
             refine pure_ (i := 9) (N := some 51) (v := ?_) (a' := ?_) #[true, true, true, true, true, true, true, true, true, true, false, true, false, false, false] rfl rfl (any_of HT_.out (by kernel_rfl)) (fun _ _ _ h => h) (Or.inl ⟨by rfl, ?_⟩) ?_ ?_
             rotate_left
             ·intro w'
              go_simp
              with_reducible rfl
             rotate_left
             ·simp only [Act.put, List.setIfInBounds_toArray, List.set_cons_zero, List.set_cons_succ, i64_w, i32_w]
              rfl
             refine pure_ (i := 10) (N := some 52) (v := ?_) (a' := ?_) #[true, true, true, true, true, true, true, true, true, true, true, true, false, false, false] rfl rfl (any_of HT_.out (by kernel_rfl)) (fun _ _ _ h => h) (Or.inl ⟨by rfl, ?_⟩) ?_ ?_
             rotate_left
             ·intro w'
              go_simp
              with_reducible rfl
             rotate_left
             ·simp only [Act.put, List.setIfInBounds_toArray, List.set_cons_zero, List.set_cons_succ, i64_w, i32_w]
              rfl
             exact norm_ (by simp only [putAll, Act.put, List.setIfInBounds_toArray, List.set_cons_zero, List.set_cons_succ]) (hCont (.slice Ao23 y239.length co23, .slice Ao27 y242.length co27, v247, v253, gb256) _ ⟨hHeld, (by (with_reducible repeat (first | apply Kd.N_alloc | apply Kd.N_drewN | apply Kd.N_drew)); exact Kd.N_mono HO244.out (fun _ hk => ⟨hk.2, ⟨hk.1.1, hk.1.2⟩⟩)), (by (with_reducible repeat (first | apply Kd.V_alloc | apply Kd.V_drewN | apply Kd.V_drew)); exact Kd.V_mono HO248.out (fun _ hk => ⟨hk.2.1, ⟨hk.1, ⟨hk.2.2.1, hk.2.2.2⟩⟩⟩)), (by (with_reducible repeat (first | apply Kd.R_alloc | apply Kd.R_drewN | apply Kd.R_drew)); exact HO254.out), (by (with_reducible repeat (first | apply Kd.V_alloc | apply Kd.V_drewN | apply Kd.V_drew)); exact Kd.V_mono HO_238001.out (fun _ hk => ⟨hk.1.1.2, ⟨hk.2, ⟨hk.1.1.1.1, hk.1.2⟩⟩⟩)), (by (with_reducible repeat (first | refine blk_drewN ?_ _ | refine blk_drew ?_ | refine blk_alloc ?_ _)); exact BK237.out), (by (with_reducible repeat (first | refine blk_drewN ?_ _ | refine blk_drew ?_ | refine blk_alloc ?_ _)); exact BK256.out), GW256.out, GE256.out, NB237_256.out, NB256_237.out, (by repeat (first | (with_reducible first | exact HB.out | apply below_alloc | apply pw_below_drewN | apply below_drew1 | refine below_set ?_ GE237.out | refine below_set ?_ GE256.out) | exact HB.out))⟩)
           ·skip
            refine box_step ?hg (N := 12) ?hd (cs := #[.int .i64 0, .slice none 0 0, .int .i64 0, .bool false, .int .i64 0]) (t := 27) ?hr ?_; (case hd => rfl); (case hg => rfl); (case hr => first | (go_simp; done) | (go_simp; rfl))
            intro gb256 hg w24 hbox hb
            have n0_ := Aside0.mk (Kd.V_below (Kd.V_elderB (by (with_reducible repeat (first | apply Kd.V_alloc | apply Kd.V_drewN | apply Kd.V_drew)); exact HO_238001.out) gb256 (Nat.le_of_eq hg.symm)) hb)
            have n1_ := Aside0.mk (Kd.R_below (by (with_reducible repeat (first | apply Kd.R_alloc | apply Kd.R_drewN | apply Kd.R_drew)); exact HO241.out) hb)
            have n2_ := Aside0.mk (blk_below (g := gb237) (o := .cells #[.int .i64 x238000_1, .slice Ao19 x238001_1.length co19, .int .i64 x238002_1, .bool x238003_1, .int .i64 x238004_1] 27 (0, 0)) (by (with_reducible repeat (first | refine blk_drewN ?_ _ | refine blk_drew ?_ | refine blk_alloc ?_ _)); exact BK237.out) hb)
            have n3_ := Aside0.mk (below_step (by repeat (first | (with_reducible first | exact HB.out | apply below_alloc | apply pw_below_drewN | apply below_drew1 | refine below_set ?_ GE237.out) | exact HB.out)) hb)
            have n4_ := Aside0.mk (hbox)
            have n5_ := Aside0.mk ((by rw [hg]; exact (below_size (by repeat (first | (with_reducible first | exact HB.out | apply below_alloc | apply pw_below_drewN | apply below_drew1 | refine below_set ?_ GE237.out) | exact HB.out))) : w.heap.size ≤ gb256))
            have n6_ := Aside0.mk ((by rw [hg]; exact (below_size (by repeat (first | (with_reducible first | exact HB.out | apply below_alloc | apply pw_below_drewN | apply below_drew1 | refine below_set ?_ GE237.out) | exact HB.out))) : w.heap.size ≤ gb256))
            have n7_ := Aside0.mk ((by rw [hg]; exact Nat.ne_of_lt (blk_lt (g := gb237) (o := .cells #[.int .i64 x238000_1, .slice Ao19 x238001_1.length co19, .int .i64 x238002_1, .bool x238003_1, .int .i64 x238004_1] 27 (0, 0)) (by (with_reducible repeat (first | refine blk_drewN ?_ _ | refine blk_drew ?_ | refine blk_alloc ?_ _)); exact BK237.out)) : gb237 ≠ gb256))
            have n8_ := Aside0.mk ((by rw [hg]; exact Nat.ne_of_gt (blk_lt (g := gb237) (o := .cells #[.int .i64 x238000_1, .slice Ao19 x238001_1.length co19, .int .i64 x238002_1, .bool x238003_1, .int .i64 x238004_1] 27 (0, 0)) (by (with_reducible repeat (first | refine blk_drewN ?_ _ | refine blk_drew ?_ | refine blk_alloc ?_ _)); exact BK237.out)) : gb256 ≠ gb237))
            clear HO_238001
            clear HO241
            clear BK237
            clear HB
            have HO_238001 := n0_
            have HO241 := n1_
            have BK237 := n2_
            have HB := n3_
            have BK256 := n4_
            have GW256 := n5_
            have GE256 := n6_
            have NB237_256 := n7_
            have NB256_237 := n8_
            clear n0_ n1_ n2_ n3_ n4_ n5_ n6_ n7_ n8_
            clear hb hbox hg
            refine hK.out _ _ ⟨(blk_cell BK237.out 0).trans rfl, (blk_cell BK237.out 1).trans rfl, (blk_cell BK237.out 2).trans rfl, (blk_cell BK237.out 3).trans rfl, (blk_cell BK237.out 4).trans rfl⟩ (fun hHeld => ?_)
            clear hK K
            refine norm_ (a' := ?_) ?_ ?_
            rotate_left
            ·show Act.put _ (some 12) _ = _
             simp only [Act.put, List.setIfInBounds_toArray, List.set_cons_zero, List.set_cons_succ, i64_w, i32_w]
             rfl
            refine one_ (i := 5) (N := some 48) #[true, true, true, true, true, true, false, false, false, false, false, true, false, false, false] rfl rfl (one_of HT_.out (by kernel_rfl)) (by decide) (fun K hK => ?_)
            refine Kd.N_lit_step k36 _ 36 ?hg (N' := 48) ?hd (xs := ([(⟨1, x10_1, y239⟩ : S36)] : List (S36))) (inner := [.int .i64 1, .int .i64 x10_1, .slice Ao23 y239.length co23]) (ok := (fun k_ => k_ ≠ gb237 ∧ k_ ≠ gb256)) (okp := (fun k_ => k_ ≠ gb237 ∧ k_ ≠ gb256)) ?hr ?hp (fun _ hk => hk) ((show ∀ k_, w24.heap.size ≤ k_ → (fun k_ => k_ ≠ gb237 ∧ k_ ≠ gb256) k_ from fun k_ hk => ⟨Kd.freshB (g := gb237) (o := .cells #[.int .i64 x238000_1, .slice Ao19 x238001_1.length co19, .int .i64 x238002_1, .bool x238003_1, .int .i64 x238004_1] 27 (0, 0)) (by (with_reducible repeat (first | refine blk_drewN ?_ _ | refine blk_drew ?_ | refine blk_alloc ?_ _)); exact BK237.out) k_ hk, Kd.freshB (g := gb256) (o := .cells #[.int .i64 0, .slice none 0 0, .int .i64 0, .bool false, .int .i64 0] 27 (0, 0)) (by (with_reducible repeat (first | refine blk_drewN ?_ _ | refine blk_drew ?_ | refine blk_alloc ?_ _)); exact BK256.out) k_ hk⟩) _ (Nat.le_refl _)) (Below.refl _ _) (Nat.le_refl _) (by simp) ?_; (case hd => rfl); (case hg => rfl); (case hr => first | (go_simp; done) | (go_simp; rfl)); (case hp => exact (Reps.c3 (show Kd.FK k36 _ _ (⟨1, x10_1, y239⟩ : S36) [.int .i64 1, .int .i64 x10_1, .slice Ao23 y239.length co23] from (k36_mkF _ _ (⟨1, x10_1, y239⟩ : S36) (Kd.R_reads' (Kd.R_mono (ok' := (fun k_ => k_ ≠ gb237 ∧ k_ ≠ gb256)) (Kd.R_types (Kd.R_types (HO241.out) BK237.out (by decide)) BK256.out (by decide)) (fun k_ hk => ⟨hk.1.2, hk.2⟩))).2.1 (Kd.R_F (Kd.R_mono (ok' := (fun k_ => k_ ≠ gb237 ∧ k_ ≠ gb256)) (Kd.R_types (Kd.R_types (HO241.out) BK237.out (by decide)) BK256.out (by decide)) (fun k_ hk => ⟨hk.1.2, hk.2⟩))))) (Reps.none _ _)))
            intro v243 w25 ho26 hb hg_ hnew_
            clear hg_ hnew_
            (first | rw [← Ny242.out] at ho26 | (simp only [Int.reduceToNat] at ho26; rw [← Ny242.out] at ho26))
            have n0_ := Aside0.mk (Kd.V_elder' (by (with_reducible repeat (first | apply Kd.V_alloc | apply Kd.V_drewN | apply Kd.V_drew)); exact HO_238001.out) (Kd.N_base ho26) hb)
            have n1_ := Aside0.mk (Kd.N_lower ho26 (below_size (by repeat (first | (with_reducible first | exact HB.out | apply below_alloc | apply pw_below_drewN | apply below_drew1 | refine below_set ?_ GE237.out | refine below_set ?_ GE256.out) | exact HB.out))))
            have n2_ := Aside0.mk (blk_below (g := gb237) (o := .cells #[.int .i64 x238000_1, .slice Ao19 x238001_1.length co19, .int .i64 x238002_1, .bool x238003_1, .int .i64 x238004_1] 27 (0, 0)) (by (with_reducible repeat (first | refine blk_drewN ?_ _ | refine blk_drew ?_ | refine blk_alloc ?_ _)); exact BK237.out) hb)
            have n3_ := Aside0.mk (blk_below (g := gb256) (o := .cells #[.int .i64 0, .slice none 0 0, .int .i64 0, .bool false, .int .i64 0] 27 (0, 0)) (by (with_reducible repeat (first | refine blk_drewN ?_ _ | refine blk_drew ?_ | refine blk_alloc ?_ _)); exact BK256.out) hb)
            have n4_ := Aside0.mk (below_step (by repeat (first | (with_reducible first | exact HB.out | apply below_alloc | apply pw_below_drewN | apply below_drew1 | refine below_set ?_ GE237.out | refine below_set ?_ GE256.out) | exact HB.out)) hb)
            clear HO_238001
            clear BK237
            clear BK256
            clear HB
            clear HO241
            have HO_238001 := n0_
            have HO244 := n1_
            have BK237 := n2_
            have BK256 := n3_
            have HB := n4_
            clear n0_ n1_ n2_ n3_ n4_
            clear hb ho26
            obtain ⟨Ao27, co27, eo27⟩ := Kd.N_slice HO244.out
            (first | subst eo27 | (injection eo27 with f1_ f2_ f3_; have f4_ := f1_.symm; have f5_ := f3_.symm; clear f1_ f2_ f3_; subst f4_; subst f5_))
            refine hK.out _ _ ⟨(blk_cell BK237.out 0).trans rfl, (blk_cell BK237.out 1).trans rfl, (blk_cell BK237.out 2).trans rfl, (blk_cell BK237.out 3).trans rfl, (blk_cell BK237.out 4).trans rfl⟩ (fun hHeld => ?_)
            clear hK K
            refine norm_ (a' := ?_) ?_ ?_
            rotate_left
            ·show Act.put _ (some 48) _ = _
             simp only [Act.put, List.setIfInBounds_toArray, List.set_cons_zero, List.set_cons_succ, i64_w, i32_w]
             rfl
            refine one_ (i := 6) (N := some 49) #[true, true, true, true, true, true, true, false, false, false, false, true, false, false, false] rfl rfl (one_of HT_.out (by kernel_rfl)) (by decide) (fun K hK => ?_)
            refine goes_ Try.func12 (by kernel_rfl) rfl #[.agg #[.int .i64 x238000_1, .slice Ao19 x238001_1.length co19, .int .i64 x238002_1, .bool x238003_1, .int .i64 x238004_1], .slice Ao27 y242.length co27] (by rfl) rfl rfl (by (try simp only [List.map_toArray, List.map_cons, List.map_nil]); first | done | rfl | (simp only [List.length_drop, List.length_take]; rfl)) ?_
            with_reducible refine (log_Append.calls k1 x238000_1 _ _ x238001_1 x238002_1 x238003_1 x238004_1 _ _ y242 t245 t246 t249 t250 t251 t252 t255 _ ?side1 ?side2 ?side3 ?side4 A17.out).mono ?_
            (case side1 => repeat (first | exact (Kd.V_reads' HO_238001.out).2.2 | (with_reducible refine Kd.C_alloc ?_ _) | (with_reducible refine Kd.C_drewN ?_ _) | (with_reducible refine Kd.C_drew ?_)))
            (case side2 => exact (Kd.V_reads' HO_238001.out).2.1)
            (case side3 => repeat (first | exact (Kd.N_reads' HO244.out).2.2 | (with_reducible refine Kd.C_alloc ?_ _) | (with_reducible refine Kd.C_drewN ?_ _) | (with_reducible refine Kd.C_drew ?_)))
            (case side4 => exact (Kd.N_reads' HO244.out).2.1)
            rintro e w28 ⟨v247, v253, rfl, ho0, ho1, hb⟩
            refine ⟨_, rfl, ?_⟩
            have n0_ := Aside0.mk (Kd.V_elder' (by (with_reducible repeat (first | apply Kd.V_alloc | apply Kd.V_drewN | apply Kd.V_drew)); exact HO_238001.out) (Kd.R_base ho1) hb)
            have n1_ := Aside0.mk (Kd.N_elder' (by (with_reducible repeat (first | apply Kd.N_alloc | apply Kd.N_drewN | apply Kd.N_drew)); exact HO244.out) (Kd.R_base ho1) hb)
            have n2_ := Aside0.mk (Kd.V_lower (Kd.V_mono (ok' := fun k_ => some k_ ≠ (v253 : Value).ownBlock ∧ some k_ ≠ (.slice Ao27 y242.length co27 : Value).ownBlock ∧ k_ ≠ gb237 ∧ k_ ≠ gb256) ho0 (fun k_ hk_ => ⟨hk_.2, (Kd.fresh' (Kd.N_lt (by (with_reducible repeat (first | apply Kd.N_alloc | apply Kd.N_drewN | apply Kd.N_drew)); exact HO244.out)) k_ hk_.1), (Kd.freshB (g := gb237) (o := .cells #[.int .i64 x238000_1, .slice Ao19 x238001_1.length co19, .int .i64 x238002_1, .bool x238003_1, .int .i64 x238004_1] 27 (0, 0)) (by (with_reducible repeat (first | refine blk_drewN ?_ _ | refine blk_drew ?_ | refine blk_alloc ?_ _)); exact BK237.out) k_ hk_.1), (Kd.freshB (g := gb256) (o := .cells #[.int .i64 0, .slice none 0 0, .int .i64 0, .bool false, .int .i64 0] 27 (0, 0)) (by (with_reducible repeat (first | refine blk_drewN ?_ _ | refine blk_drew ?_ | refine blk_alloc ?_ _)); exact BK256.out) k_ hk_.1)⟩)) (below_size (by repeat (first | (with_reducible first | exact HB.out | apply below_alloc | apply pw_below_drewN | apply below_drew1 | refine below_set ?_ GE237.out | refine below_set ?_ GE256.out) | exact HB.out))))
            have n3_ := Aside0.mk (Kd.R_lower (Kd.R_mono (ok' := fun k_ => True) ho1 (fun _ hk_ => trivial)) (below_size (by repeat (first | (with_reducible first | exact HB.out | apply below_alloc | apply pw_below_drewN | apply below_drew1 | refine below_set ?_ GE237.out | refine below_set ?_ GE256.out) | exact HB.out))))
            have n4_ := Aside0.mk (blk_below (g := gb237) (o := .cells #[.int .i64 x238000_1, .slice Ao19 x238001_1.length co19, .int .i64 x238002_1, .bool x238003_1, .int .i64 x238004_1] 27 (0, 0)) (by (with_reducible repeat (first | refine blk_drewN ?_ _ | refine blk_drew ?_ | refine blk_alloc ?_ _)); exact BK237.out) hb)
            have n5_ := Aside0.mk (blk_below (g := gb256) (o := .cells #[.int .i64 0, .slice none 0 0, .int .i64 0, .bool false, .int .i64 0] 27 (0, 0)) (by (with_reducible repeat (first | refine blk_drewN ?_ _ | refine blk_drew ?_ | refine blk_alloc ?_ _)); exact BK256.out) hb)
            have n6_ := Aside0.mk (below_step (by repeat (first | (with_reducible first | exact HB.out | apply below_alloc | apply pw_below_drewN | apply below_drew1 | refine below_set ?_ GE237.out | refine below_set ?_ GE256.out) | exact HB.out)) hb)
            clear HO_238001
            clear HO244
            clear BK237
            clear BK256
            clear HB
            have HO_238001 := n0_
            have HO244 := n1_
            have HO248 := n2_
            have HO254 := n3_
            have BK237 := n4_
            have BK256 := n5_
            have HB := n6_
            clear n0_ n1_ n2_ n3_ n4_ n5_ n6_
            (try clear hb)
            (try clear hb2)
            (try clear hk)
            (try clear hi)
            (try clear ho0)
            (try clear ho1)
            refine hK.out _ _ ⟨(blk_cell BK237.out 0).trans rfl, (blk_cell BK237.out 1).trans rfl, (blk_cell BK237.out 2).trans rfl, (blk_cell BK237.out 3).trans rfl, (blk_cell BK237.out 4).trans rfl⟩ (fun hHeld => ?_)
            clear hK K
            refine norm_ (a' := ?_) ?_ ?_
            rotate_left
            ·show Act.put _ (some 49) _ = _
             simp only [Act.put, List.setIfInBounds_toArray, List.set_cons_zero, List.set_cons_succ, i64_w, i32_w]
             rfl
            refine pure_ (i := 7) (N := some 42) (v := ?_) (a' := ?_) #[true, true, true, true, true, true, true, true, false, false, false, true, false, false, false] rfl rfl (any_of HT_.out (by kernel_rfl)) (fun _ _ _ h => h) (Or.inl ⟨by rfl, ?_⟩) ?_ ?_
            rotate_left
            ·intro w'
             go_simp
             with_reducible rfl
            rotate_left
            ·simp only [Act.put, List.setIfInBounds_toArray, List.set_cons_zero, List.set_cons_succ, i64_w, i32_w]
             rfl
            refine pure_ (i := 8) (N := some 50) (v := ?_) (a' := ?_) #[true, true, true, true, true, true, true, true, true, false, false, true, false, false, false] rfl rfl (any_of HT_.out (by kernel_rfl)) (fun _ _ _ h => h) (Or.inl ⟨by rfl, ?_⟩) ?_ ?_
            rotate_left
            ·intro w'
             go_simp
             with_reducible rfl
            rotate_left
            ·simp only [Act.put, List.setIfInBounds_toArray, List.set_cons_zero, List.set_cons_succ, i64_w, i32_w]
             rfl
            refine pure_ (i := 9) (N := some 51) (v := ?_) (a' := ?_) #[true, true, true, true, true, true, true, true, true, true, false, true, false, false, false] rfl rfl (any_of HT_.out (by kernel_rfl)) (fun _ _ _ h => h) (Or.inl ⟨by rfl, ?_⟩) ?_ ?_
            rotate_left
            ·intro w'
             go_simp
             with_reducible rfl
            rotate_left
            ·simp only [Act.put, List.setIfInBounds_toArray, List.set_cons_zero, List.set_cons_succ, i64_w, i32_w]
             rfl
            refine pure_ (i := 10) (N := some 52) (v := ?_) (a' := ?_) #[true, true, true, true, true, true, true, true, true, true, true, true, false, false, false] rfl rfl (any_of HT_.out (by kernel_rfl)) (fun _ _ _ h => h) (Or.inl ⟨by rfl, ?_⟩) ?_ ?_
            rotate_left
            ·intro w'
             go_simp
             with_reducible rfl
            rotate_left
            ·simp only [Act.put, List.setIfInBounds_toArray, List.set_cons_zero, List.set_cons_succ, i64_w, i32_w]
             rfl
            exact norm_ (by simp only [putAll, Act.put, List.setIfInBounds_toArray, List.set_cons_zero, List.set_cons_succ]) (hCont (.slice Ao23 y239.length co23, .slice Ao27 y242.length co27, v247, v253, gb256) _ ⟨hHeld, (by (with_reducible repeat (first | apply Kd.N_alloc | apply Kd.N_drewN | apply Kd.N_drew)); exact Kd.N_mono HO244.out (fun _ hk => ⟨hk.2, ⟨hk.1.1, hk.1.2⟩⟩)), (by (with_reducible repeat (first | apply Kd.V_alloc | apply Kd.V_drewN | apply Kd.V_drew)); exact Kd.V_mono HO248.out (fun _ hk => ⟨hk.2.1, ⟨hk.1, ⟨hk.2.2.1, hk.2.2.2⟩⟩⟩)), (by (with_reducible repeat (first | apply Kd.R_alloc | apply Kd.R_drewN | apply Kd.R_drew)); exact HO254.out), (by (with_reducible repeat (first | apply Kd.V_alloc | apply Kd.V_drewN | apply Kd.V_drew)); exact Kd.V_mono HO_238001.out (fun _ hk => ⟨hk.1.2, ⟨hk.2, ⟨hk.1.1.1.1, hk.1.1.2⟩⟩⟩)), (by (with_reducible repeat (first | refine blk_drewN ?_ _ | refine blk_drew ?_ | refine blk_alloc ?_ _)); exact BK237.out), (by (with_reducible repeat (first | refine blk_drewN ?_ _ | refine blk_drew ?_ | refine blk_alloc ?_ _)); exact BK256.out), GW256.out, GE256.out, NB237_256.out, NB256_237.out, (by repeat (first | (with_reducible first | exact HB.out | apply below_alloc | apply pw_below_drewN | apply below_drew1 | refine below_set ?_ GE237.out | refine below_set ?_ GE256.out) | exact HB.out))⟩)
          ·skip
           refine box_step ?hg (N := 12) ?hd (cs := #[.int .i64 0, .slice none 0 0, .int .i64 0, .bool false, .int .i64 0]) (t := 27) ?hr ?_; (case hd => rfl); (case hg => rfl); (case hr => first | (go_simp; done) | (go_simp; rfl))
           intro gb256 hg w21 hbox hb
           have n0_ := Aside0.mk (Kd.V_below (Kd.V_elderB (by (with_reducible repeat (first | apply Kd.V_alloc | apply Kd.V_drewN | apply Kd.V_drew)); exact HO_238001.out) gb256 (Nat.le_of_eq hg.symm)) hb)
           have n1_ := Aside0.mk (blk_below (g := gb237) (o := .cells #[.int .i64 x238000_1, .slice Ao19 x238001_1.length co19, .int .i64 x238002_1, .bool x238003_1, .int .i64 x238004_1] 27 (0, 0)) (by (with_reducible repeat (first | refine blk_drewN ?_ _ | refine blk_drew ?_ | refine blk_alloc ?_ _)); exact BK237.out) hb)
           have n2_ := Aside0.mk (below_step (by repeat (first | (with_reducible first | exact HB.out | apply below_alloc | apply pw_below_drewN | apply below_drew1 | refine below_set ?_ GE237.out) | exact HB.out)) hb)
           have n3_ := Aside0.mk (hbox)
           have n4_ := Aside0.mk ((by rw [hg]; exact (below_size (by repeat (first | (with_reducible first | exact HB.out | apply below_alloc | apply pw_below_drewN | apply below_drew1 | refine below_set ?_ GE237.out) | exact HB.out))) : w.heap.size ≤ gb256))
           have n5_ := Aside0.mk ((by rw [hg]; exact (below_size (by repeat (first | (with_reducible first | exact HB.out | apply below_alloc | apply pw_below_drewN | apply below_drew1 | refine below_set ?_ GE237.out) | exact HB.out))) : w.heap.size ≤ gb256))
           have n6_ := Aside0.mk ((by rw [hg]; exact Nat.ne_of_lt (blk_lt (g := gb237) (o := .cells #[.int .i64 x238000_1, .slice Ao19 x238001_1.length co19, .int .i64 x238002_1, .bool x238003_1, .int .i64 x238004_1] 27 (0, 0)) (by (with_reducible repeat (first | refine blk_drewN ?_ _ | refine blk_drew ?_ | refine blk_alloc ?_ _)); exact BK237.out)) : gb237 ≠ gb256))
           have n7_ := Aside0.mk ((by rw [hg]; exact Nat.ne_of_gt (blk_lt (g := gb237) (o := .cells #[.int .i64 x238000_1, .slice Ao19 x238001_1.length co19, .int .i64 x238002_1, .bool x238003_1, .int .i64 x238004_1] 27 (0, 0)) (by (with_reducible repeat (first | refine blk_drewN ?_ _ | refine blk_drew ?_ | refine blk_alloc ?_ _)); exact BK237.out)) : gb256 ≠ gb237))
           clear HO_238001
           clear BK237
           clear HB
           have HO_238001 := n0_
           have BK237 := n1_
           have HB := n2_
           have BK256 := n3_
           have GW256 := n4_
           have GE256 := n5_
           have NB237_256 := n6_
           have NB256_237 := n7_
           clear n0_ n1_ n2_ n3_ n4_ n5_ n6_ n7_
           clear hb hbox hg
           refine hK.out _ _ ⟨(blk_cell BK237.out 0).trans rfl, (blk_cell BK237.out 1).trans rfl, (blk_cell BK237.out 2).trans rfl, (blk_cell BK237.out 3).trans rfl, (blk_cell BK237.out 4).trans rfl⟩ (fun hHeld => ?_)
           clear hK K
           refine norm_ (a' := ?_) ?_ ?_
           rotate_left
           ·show Act.put _ (some 12) _ = _
            simp only [Act.put, List.setIfInBounds_toArray, List.set_cons_zero, List.set_cons_succ, i64_w, i32_w]
            rfl
           refine one_ (i := 3) (N := some 46) #[true, true, true, true, false, false, false, false, false, false, false, true, false, false, false] rfl rfl (one_of HT_.out (by kernel_rfl)) (by decide) (fun K hK => ?_)
           refine Kd.R_make_step (Kd.int .u8) _ 5 (by rfl) (N := 46) rfl 34 _ _ rfl ji14 rfl rfl Try.underlying34 (.int .u8 0) 1 info5 rfl (by decide) (by omega) 0 (ok := fun _ => True) (okp := fun _ => True) rfl (fun _ hk => hk) trivial (of_decide_eq_true (by first | (with_reducible assumption) | assumption)) (Nat.le_trans (Nat.mul_le_mul_right _ (of_decide_eq_true (by first | (with_reducible assumption) | assumption) : ji14.toNat ≤ 281474976710656)) (by omega)) (Below.refl _ _) (Nat.le_refl _) ?_
           intro v240 w22 ho23 hb hg_ hnew_
           clear hg_ hnew_
           (first | rw [← Ny239.out] at ho23 | (simp only [Int.reduceToNat] at ho23; rw [← Ny239.out] at ho23))
           have n0_ := Aside0.mk (Kd.V_elder' (by (with_reducible repeat (first | apply Kd.V_alloc | apply Kd.V_drewN | apply Kd.V_drew)); exact HO_238001.out) (Kd.R_base ho23) hb)
           have n1_ := Aside0.mk (Kd.R_lower ho23 (below_size (by repeat (first | (with_reducible first | exact HB.out | apply below_alloc | apply pw_below_drewN | apply below_drew1 | refine below_set ?_ GE237.out | refine below_set ?_ GE256.out) | exact HB.out))))
           have n2_ := Aside0.mk (blk_below (g := gb237) (o := .cells #[.int .i64 x238000_1, .slice Ao19 x238001_1.length co19, .int .i64 x238002_1, .bool x238003_1, .int .i64 x238004_1] 27 (0, 0)) (by (with_reducible repeat (first | refine blk_drewN ?_ _ | refine blk_drew ?_ | refine blk_alloc ?_ _)); exact BK237.out) hb)
           have n3_ := Aside0.mk (blk_below (g := gb256) (o := .cells #[.int .i64 0, .slice none 0 0, .int .i64 0, .bool false, .int .i64 0] 27 (0, 0)) (by (with_reducible repeat (first | refine blk_drewN ?_ _ | refine blk_drew ?_ | refine blk_alloc ?_ _)); exact BK256.out) hb)
           have n4_ := Aside0.mk (below_step (by repeat (first | (with_reducible first | exact HB.out | apply below_alloc | apply pw_below_drewN | apply below_drew1 | refine below_set ?_ GE237.out | refine below_set ?_ GE256.out) | exact HB.out)) hb)
           clear HO_238001
           clear BK237
           clear BK256
           clear HB
           have HO_238001 := n0_
           have HO241 := n1_
           have BK237 := n2_
           have BK256 := n3_
           have HB := n4_
           clear n0_ n1_ n2_ n3_ n4_
           clear hb ho23
           obtain ⟨Ao24, co24, eo24⟩ := Kd.R_slice HO241.out
           (first | subst eo24 | (injection eo24 with f1_ f2_ f3_; have f4_ := f1_.symm; have f5_ := f3_.symm; clear f1_ f2_ f3_; subst f4_; subst f5_))
           refine hK.out _ _ ⟨(blk_cell BK237.out 0).trans rfl, (blk_cell BK237.out 1).trans rfl, (blk_cell BK237.out 2).trans rfl, (blk_cell BK237.out 3).trans rfl, (blk_cell BK237.out 4).trans rfl⟩ (fun hHeld => ?_)
           clear hK K
           refine norm_ (a' := ?_) ?_ ?_
           rotate_left
           ·show Act.put _ (some 46) _ = _
            simp only [Act.put, List.setIfInBounds_toArray, List.set_cons_zero, List.set_cons_succ, i64_w, i32_w]
            rfl
           refine pure_ (i := 4) (N := some 47) (v := ?_) (a' := ?_) #[true, true, true, true, true, false, false, false, false, false, false, true, false, false, false] rfl rfl (any_of HT_.out (by kernel_rfl)) (fun _ _ _ h => h) (Or.inl ⟨by rfl, ?_⟩) ?_ ?_
           rotate_left
           ·intro w'
            go_simp
            with_reducible rfl
           rotate_left
           ·simp only [Act.put, List.setIfInBounds_toArray, List.set_cons_zero, List.set_cons_succ, i64_w, i32_w]
            rfl
           refine one_ (i := 5) (N := some 48) #[true, true, true, true, true, true, false, false, false, false, false, true, false, false, false] rfl rfl (one_of HT_.out (by kernel_rfl)) (by decide) (fun K hK => ?_)
           refine Kd.N_lit_step k36 _ 36 ?hg (N' := 48) ?hd (xs := ([(⟨1, x10_1, y239⟩ : S36)] : List (S36))) (inner := [.int .i64 1, .int .i64 x10_1, .slice Ao24 y239.length co24]) (ok := (fun k_ => k_ ≠ gb237 ∧ k_ ≠ gb256)) (okp := (fun k_ => k_ ≠ gb237 ∧ k_ ≠ gb256)) ?hr ?hp (fun _ hk => hk) ((show ∀ k_, w22.heap.size ≤ k_ → (fun k_ => k_ ≠ gb237 ∧ k_ ≠ gb256) k_ from fun k_ hk => ⟨Kd.freshB (g := gb237) (o := .cells #[.int .i64 x238000_1, .slice Ao19 x238001_1.length co19, .int .i64 x238002_1, .bool x238003_1, .int .i64 x238004_1] 27 (0, 0)) (by (with_reducible repeat (first | refine blk_drewN ?_ _ | refine blk_drew ?_ | refine blk_alloc ?_ _)); exact BK237.out) k_ hk, Kd.freshB (g := gb256) (o := .cells #[.int .i64 0, .slice none 0 0, .int .i64 0, .bool false, .int .i64 0] 27 (0, 0)) (by (with_reducible repeat (first | refine blk_drewN ?_ _ | refine blk_drew ?_ | refine blk_alloc ?_ _)); exact BK256.out) k_ hk⟩) _ (Nat.le_refl _)) (Below.refl _ _) (Nat.le_refl _) (by simp) ?_; (case hd => rfl); (case hg => rfl); (case hr => first | (go_simp; done) | (go_simp; rfl)); (case hp => exact (Reps.c3 (show Kd.FK k36 _ _ (⟨1, x10_1, y239⟩ : S36) [.int .i64 1, .int .i64 x10_1, .slice Ao24 y239.length co24] from (k36_mkF _ _ (⟨1, x10_1, y239⟩ : S36) (Kd.R_reads' (Kd.R_mono (ok' := (fun k_ => k_ ≠ gb237 ∧ k_ ≠ gb256)) (Kd.R_types (Kd.R_types (HO241.out) BK237.out (by decide)) BK256.out (by decide)) (fun k_ hk => ⟨hk.1.2, hk.2⟩))).2.1 (Kd.R_F (Kd.R_mono (ok' := (fun k_ => k_ ≠ gb237 ∧ k_ ≠ gb256)) (Kd.R_types (Kd.R_types (HO241.out) BK237.out (by decide)) BK256.out (by decide)) (fun k_ hk => ⟨hk.1.2, hk.2⟩))))) (Reps.none _ _)))
           intro v243 w25 ho26 hb hg_ hnew_
           clear hg_ hnew_
           (first | rw [← Ny242.out] at ho26 | (simp only [Int.reduceToNat] at ho26; rw [← Ny242.out] at ho26))
           have n0_ := Aside0.mk (Kd.V_elder' (by (with_reducible repeat (first | apply Kd.V_alloc | apply Kd.V_drewN | apply Kd.V_drew)); exact HO_238001.out) (Kd.N_base ho26) hb)
           have n1_ := Aside0.mk (Kd.N_lower ho26 (below_size (by repeat (first | (with_reducible first | exact HB.out | apply below_alloc | apply pw_below_drewN | apply below_drew1 | refine below_set ?_ GE237.out | refine below_set ?_ GE256.out) | exact HB.out))))
           have n2_ := Aside0.mk (blk_below (g := gb237) (o := .cells #[.int .i64 x238000_1, .slice Ao19 x238001_1.length co19, .int .i64 x238002_1, .bool x238003_1, .int .i64 x238004_1] 27 (0, 0)) (by (with_reducible repeat (first | refine blk_drewN ?_ _ | refine blk_drew ?_ | refine blk_alloc ?_ _)); exact BK237.out) hb)
           have n3_ := Aside0.mk (blk_below (g := gb256) (o := .cells #[.int .i64 0, .slice none 0 0, .int .i64 0, .bool false, .int .i64 0] 27 (0, 0)) (by (with_reducible repeat (first | refine blk_drewN ?_ _ | refine blk_drew ?_ | refine blk_alloc ?_ _)); exact BK256.out) hb)
           have n4_ := Aside0.mk (below_step (by repeat (first | (with_reducible first | exact HB.out | apply below_alloc | apply pw_below_drewN | apply below_drew1 | refine below_set ?_ GE237.out | refine below_set ?_ GE256.out) | exact HB.out)) hb)
           clear HO_238001
           clear BK237
           clear BK256
           clear HB
           clear HO241
           have HO_238001 := n0_
           have HO244 := n1_
           have BK237 := n2_
           have BK256 := n3_
           have HB := n4_
           clear n0_ n1_ n2_ n3_ n4_
           clear hb ho26
           obtain ⟨Ao27, co27, eo27⟩ := Kd.N_slice HO244.out
           (first | subst eo27 | (injection eo27 with f1_ f2_ f3_; have f4_ := f1_.symm; have f5_ := f3_.symm; clear f1_ f2_ f3_; subst f4_; subst f5_))
           refine hK.out _ _ ⟨(blk_cell BK237.out 0).trans rfl, (blk_cell BK237.out 1).trans rfl, (blk_cell BK237.out 2).trans rfl, (blk_cell BK237.out 3).trans rfl, (blk_cell BK237.out 4).trans rfl⟩ (fun hHeld => ?_)
           clear hK K
           refine norm_ (a' := ?_) ?_ ?_
           rotate_left
           ·show Act.put _ (some 48) _ = _
            simp only [Act.put, List.setIfInBounds_toArray, List.set_cons_zero, List.set_cons_succ, i64_w, i32_w]
            rfl
           refine one_ (i := 6) (N := some 49) #[true, true, true, true, true, true, true, false, false, false, false, true, false, false, false] rfl rfl (one_of HT_.out (by kernel_rfl)) (by decide) (fun K hK => ?_)
           refine goes_ Try.func12 (by kernel_rfl) rfl #[.agg #[.int .i64 x238000_1, .slice Ao19 x238001_1.length co19, .int .i64 x238002_1, .bool x238003_1, .int .i64 x238004_1], .slice Ao27 y242.length co27] (by rfl) rfl rfl (by (try simp only [List.map_toArray, List.map_cons, List.map_nil]); first | done | rfl | (simp only [List.length_drop, List.length_take]; rfl)) ?_
           with_reducible refine (log_Append.calls k1 x238000_1 _ _ x238001_1 x238002_1 x238003_1 x238004_1 _ _ y242 t245 t246 t249 t250 t251 t252 t255 _ ?side1 ?side2 ?side3 ?side4 A17.out).mono ?_
           (case side1 => repeat (first | exact (Kd.V_reads' HO_238001.out).2.2 | (with_reducible refine Kd.C_alloc ?_ _) | (with_reducible refine Kd.C_drewN ?_ _) | (with_reducible refine Kd.C_drew ?_)))
           (case side2 => exact (Kd.V_reads' HO_238001.out).2.1)
           (case side3 => repeat (first | exact (Kd.N_reads' HO244.out).2.2 | (with_reducible refine Kd.C_alloc ?_ _) | (with_reducible refine Kd.C_drewN ?_ _) | (with_reducible refine Kd.C_drew ?_)))
           (case side4 => exact (Kd.N_reads' HO244.out).2.1)
           rintro e w28 ⟨v247, v253, rfl, ho0, ho1, hb⟩
           refine ⟨_, rfl, ?_⟩
           have n0_ := Aside0.mk (Kd.V_elder' (by (with_reducible repeat (first | apply Kd.V_alloc | apply Kd.V_drewN | apply Kd.V_drew)); exact HO_238001.out) (Kd.R_base ho1) hb)
           have n1_ := Aside0.mk (Kd.N_elder' (by (with_reducible repeat (first | apply Kd.N_alloc | apply Kd.N_drewN | apply Kd.N_drew)); exact HO244.out) (Kd.R_base ho1) hb)
           have n2_ := Aside0.mk (Kd.V_lower (Kd.V_mono (ok' := fun k_ => some k_ ≠ (v253 : Value).ownBlock ∧ some k_ ≠ (.slice Ao27 y242.length co27 : Value).ownBlock ∧ k_ ≠ gb237 ∧ k_ ≠ gb256) ho0 (fun k_ hk_ => ⟨hk_.2, (Kd.fresh' (Kd.N_lt (by (with_reducible repeat (first | apply Kd.N_alloc | apply Kd.N_drewN | apply Kd.N_drew)); exact HO244.out)) k_ hk_.1), (Kd.freshB (g := gb237) (o := .cells #[.int .i64 x238000_1, .slice Ao19 x238001_1.length co19, .int .i64 x238002_1, .bool x238003_1, .int .i64 x238004_1] 27 (0, 0)) (by (with_reducible repeat (first | refine blk_drewN ?_ _ | refine blk_drew ?_ | refine blk_alloc ?_ _)); exact BK237.out) k_ hk_.1), (Kd.freshB (g := gb256) (o := .cells #[.int .i64 0, .slice none 0 0, .int .i64 0, .bool false, .int .i64 0] 27 (0, 0)) (by (with_reducible repeat (first | refine blk_drewN ?_ _ | refine blk_drew ?_ | refine blk_alloc ?_ _)); exact BK256.out) k_ hk_.1)⟩)) (below_size (by repeat (first | (with_reducible first | exact HB.out | apply below_alloc | apply pw_below_drewN | apply below_drew1 | refine below_set ?_ GE237.out | refine below_set ?_ GE256.out) | exact HB.out))))
           have n3_ := Aside0.mk (Kd.R_lower (Kd.R_mono (ok' := fun k_ => True) ho1 (fun _ hk_ => trivial)) (below_size (by repeat (first | (with_reducible first | exact HB.out | apply below_alloc | apply pw_below_drewN | apply below_drew1 | refine below_set ?_ GE237.out | refine below_set ?_ GE256.out) | exact HB.out))))
           have n4_ := Aside0.mk (blk_below (g := gb237) (o := .cells #[.int .i64 x238000_1, .slice Ao19 x238001_1.length co19, .int .i64 x238002_1, .bool x238003_1, .int .i64 x238004_1] 27 (0, 0)) (by (with_reducible repeat (first | refine blk_drewN ?_ _ | refine blk_drew ?_ | refine blk_alloc ?_ _)); exact BK237.out) hb)
           have n5_ := Aside0.mk (blk_below (g := gb256) (o := .cells #[.int .i64 0, .slice none 0 0, .int .i64 0, .bool false, .int .i64 0] 27 (0, 0)) (by (with_reducible repeat (first | refine blk_drewN ?_ _ | refine blk_drew ?_ | refine blk_alloc ?_ _)); exact BK256.out) hb)
           have n6_ := Aside0.mk (below_step (by repeat (first | (with_reducible first | exact HB.out | apply below_alloc | apply pw_below_drewN | apply below_drew1 | refine below_set ?_ GE237.out | refine below_set ?_ GE256.out) | exact HB.out)) hb)
           clear HO_238001
           clear HO244
           clear BK237
           clear BK256
           clear HB
           have HO_238001 := n0_
           have HO244 := n1_
           have HO248 := n2_
           have HO254 := n3_
           have BK237 := n4_
           have BK256 := n5_
           have HB := n6_
           clear n0_ n1_ n2_ n3_ n4_ n5_ n6_
           (try clear hb)
           (try clear hb2)
           (try clear hk)
           (try clear hi)
           (try clear ho0)
           (try clear ho1)
           refine hK.out _ _ ⟨(blk_cell BK237.out 0).trans rfl, (blk_cell BK237.out 1).trans rfl, (blk_cell BK237.out 2).trans rfl, (blk_cell BK237.out 3).trans rfl, (blk_cell BK237.out 4).trans rfl⟩ (fun hHeld => ?_)
           clear hK K
           refine norm_ (a' := ?_) ?_ ?_
           rotate_left
           ·show Act.put _ (some 49) _ = _
            simp only [Act.put, List.setIfInBounds_toArray, List.set_cons_zero, List.set_cons_succ, i64_w, i32_w]
            rfl
           refine pure_ (i := 7) (N := some 42) (v := ?_) (a' := ?_) #[true, true, true, true, true, true, true, true, false, false, false, true, false, false, false] rfl rfl (any_of HT_.out (by kernel_rfl)) (fun _ _ _ h => h) (Or.inl ⟨by rfl, ?_⟩) ?_ ?_
           rotate_left
           ·intro w'
            go_simp
            with_reducible rfl
           rotate_left
           ·simp only [Act.put, List.setIfInBounds_toArray, List.set_cons_zero, List.set_cons_succ, i64_w, i32_w]
            rfl
           refine pure_ (i := 8) (N := some 50) (v := ?_) (a' := ?_) #[true, true, true, true, true, true, true, true, true, false, false, true, false, false, false] rfl rfl (any_of HT_.out (by kernel_rfl)) (fun _ _ _ h => h) (Or.inl ⟨by rfl, ?_⟩) ?_ ?_
           rotate_left
           ·intro w'
            go_simp
            with_reducible rfl
           rotate_left
           ·simp only [Act.put, List.setIfInBounds_toArray, List.set_cons_zero, List.set_cons_succ, i64_w, i32_w]
            rfl
           refine pure_ (i := 9) (N := some 51) (v := ?_) (a' := ?_) #[true, true, true, true, true, true, true, true, true, true, false, true, false, false, false] rfl rfl (any_of HT_.out (by kernel_rfl)) (fun _ _ _ h => h) (Or.inl ⟨by rfl, ?_⟩) ?_ ?_
           rotate_left
           ·intro w'
            go_simp
            with_reducible rfl
           rotate_left
           ·simp only [Act.put, List.setIfInBounds_toArray, List.set_cons_zero, List.set_cons_succ, i64_w, i32_w]
            rfl
           refine pure_ (i := 10) (N := some 52) (v := ?_) (a' := ?_) #[true, true, true, true, true, true, true, true, true, true, true, true, false, false, false] rfl rfl (any_of HT_.out (by kernel_rfl)) (fun _ _ _ h => h) (Or.inl ⟨by rfl, ?_⟩) ?_ ?_
           rotate_left
           ·intro w'
            go_simp
            with_reducible rfl
           rotate_left
           ·simp only [Act.put, List.setIfInBounds_toArray, List.set_cons_zero, List.set_cons_succ, i64_w, i32_w]
            rfl
           exact norm_ (by simp only [putAll, Act.put, List.setIfInBounds_toArray, List.set_cons_zero, List.set_cons_succ]) (hCont (.slice Ao24 y239.length co24, .slice Ao27 y242.length co27, v247, v253, gb256) _ ⟨hHeld, (by (with_reducible repeat (first | apply Kd.N_alloc | apply Kd.N_drewN | apply Kd.N_drew)); exact Kd.N_mono HO244.out (fun _ hk => ⟨hk.2, ⟨hk.1.1, hk.1.2⟩⟩)), (by (with_reducible repeat (first | apply Kd.V_alloc | apply Kd.V_drewN | apply Kd.V_drew)); exact Kd.V_mono HO248.out (fun _ hk => ⟨hk.2.1, ⟨hk.1, ⟨hk.2.2.1, hk.2.2.2⟩⟩⟩)), (by (with_reducible repeat (first | apply Kd.R_alloc | apply Kd.R_drewN | apply Kd.R_drew)); exact HO254.out), (by (with_reducible repeat (first | apply Kd.V_alloc | apply Kd.V_drewN | apply Kd.V_drew)); exact Kd.V_mono HO_238001.out (fun _ hk => ⟨hk.1.2, ⟨hk.2, ⟨hk.1.1.1.1, hk.1.1.1.2⟩⟩⟩)), (by (with_reducible repeat (first | refine blk_drewN ?_ _ | refine blk_drew ?_ | refine blk_alloc ?_ _)); exact BK237.out), (by (with_reducible repeat (first | refine blk_drewN ?_ _ | refine blk_drew ?_ | refine blk_alloc ?_ _)); exact BK256.out), GW256.out, GE256.out, NB237_256.out, NB256_237.out, (by repeat (first | (with_reducible first | exact HB.out | apply below_alloc | apply pw_below_drewN | apply below_drew1 | refine below_set ?_ GE237.out | refine below_set ?_ GE256.out) | exact HB.out))⟩)
         rintro ⟨v240, v243, v247, v253, gb256⟩ w29 ⟨hS_, h0_, h1_, h2_, h3_, h4_, h5_, h6_, h7_, h8_, h9_, h10_⟩
         have n0_ : Aside0 (Kd.N k36 36 w29 w.heap.size (fun k_ => some k_ ≠ (v253 : Value).ownBlock ∧ k_ ≠ gb237 ∧ k_ ≠ gb256) v243 y242) := ⟨h0_⟩
         have n1_ : Aside0 (Kd.V k52 52 w29 w.heap.size (fun k_ => some k_ ≠ (v243 : Value).ownBlock ∧ some k_ ≠ (v253 : Value).ownBlock ∧ k_ ≠ gb237 ∧ k_ ≠ gb256) v247 t246) := ⟨h1_⟩
         have n2_ : Aside0 (Kd.R kCx 58 w29 w.heap.size (fun _ => True) v253 t252) := ⟨h2_⟩
         have n3_ : Aside0 (Kd.V k52 52 w29 w.heap.size (fun k_ => some k_ ≠ (v243 : Value).ownBlock ∧ some k_ ≠ (v253 : Value).ownBlock ∧ k_ ≠ gb237 ∧ k_ ≠ gb256) (.slice Ao19 x238001_1.length co19) x238001_1) := ⟨h3_⟩
         have n4_ : Aside0 (w29.heap[gb237]? = some (.cells #[.int .i64 x238000_1, .slice Ao19 x238001_1.length co19, .int .i64 x238002_1, .bool x238003_1, .int .i64 x238004_1] 27 (0, 0))) := ⟨h4_⟩
         have n5_ : Aside0 (w29.heap[gb256]? = some (.cells #[.int .i64 0, .slice none 0 0, .int .i64 0, .bool false, .int .i64 0] 27 (0, 0))) := ⟨h5_⟩
         have n6_ : Aside0 (w.heap.size ≤ gb256) := ⟨h6_⟩
         have n7_ : Aside0 (w.heap.size ≤ gb256) := ⟨h7_⟩
         have n8_ : Aside0 (gb237 ≠ gb256) := ⟨h8_⟩
         have n9_ : Aside0 (gb256 ≠ gb237) := ⟨h9_⟩
         have n10_ : Aside0 (Below w.heap.size w w29) := ⟨h10_⟩
         clear HO_238001
         clear BK237
         clear HB
         clear h0_ h1_ h2_ h3_ h4_ h5_ h6_ h7_ h8_ h9_ h10_
         have HO244 := n0_
         have HO248 := n1_
         have HO254 := n2_
         have HO_238001 := n3_
         have BK237 := n4_
         have BK256 := n5_
         have GW256 := n6_
         have GE256 := n7_
         have NB237_256 := n8_
         have NB256_237 := n9_
         have HB := n10_
         clear n0_ n1_ n2_ n3_ n4_ n5_ n6_ n7_ n8_ n9_ n10_
         have hHeld : w29.cell? ⟨gb237, 0, none⟩ = some (.int .i64 x238000_1) ∧ w29.cell? ⟨gb237, 1, none⟩ = some (.slice Ao19 x238001_1.length co19) ∧ w29.cell? ⟨gb237, 2, none⟩ = some (.int .i64 x238002_1) ∧ w29.cell? ⟨gb237, 3, none⟩ = some (.bool x238003_1) ∧ w29.cell? ⟨gb237, 4, none⟩ = some (.int .i64 x238004_1) := hS_
         obtain ⟨Ao31, co31, eo31⟩ := Kd.V_slice HO248.out
         (first | subst eo31 | (injection eo31 with f1_ f2_ f3_; have f4_ := f1_.symm; have f5_ := f3_.symm; clear f1_ f2_ f3_; subst f4_; subst f5_))
         refine norm_ (a' := ?_) ?_ ?_
         rotate_left
         ·simp only [putAll, Act.put, List.setIfInBounds_toArray, List.set_cons_zero, List.set_cons_succ]
          rfl
         refine one_ (i := 12) (N := none) #[true, true, true, true, true, true, true, true, true, true, true, true, true, false, false] rfl rfl (one_of HT_.out (by kernel_rfl)) (by decide) (fun K hK => ?_)
         have hs30 : w29.cell? ⟨gb256, 0, none⟩ = some (.int .i64 0) := (blk_cell BK256.out 0).trans rfl
         have hfs30 := blk_frozen BK256.out 0
         have hns30_0 := NB237_256.out
         have hms30_0 := NB256_237.out
         have hs32 : w29.cell? ⟨gb256, 1, none⟩ = some (.slice none 0 0) := (blk_cell BK256.out 1).trans rfl
         have hfs32 := blk_frozen BK256.out 1
         have hns32_0 := NB237_256.out
         have hms32_0 := NB256_237.out
         have hs33 : w29.cell? ⟨gb256, 2, none⟩ = some (.int .i64 0) := (blk_cell BK256.out 2).trans rfl
         have hfs33 := blk_frozen BK256.out 2
         have hns33_0 := NB237_256.out
         have hms33_0 := NB256_237.out
         have hs34 : w29.cell? ⟨gb256, 3, none⟩ = some (.bool false) := (blk_cell BK256.out 3).trans rfl
         have hfs34 := blk_frozen BK256.out 3
         have hns34_0 := NB237_256.out
         have hms34_0 := NB256_237.out
         have hs35 : w29.cell? ⟨gb256, 4, none⟩ = some (.int .i64 0) := (blk_cell BK256.out 4).trans rfl
         have hfs35 := blk_frozen BK256.out 4
         have hns35_0 := NB237_256.out
         have hms35_0 := NB256_237.out
         refine skip_ (w1 := ?_) (by rfl) rfl ?_ ?_
         rotate_left
         ·go_simp
          rfl
         refine hK.out _ _ ⟨((cell_far (p := ⟨gb256, _, none⟩) NB237_256.out _).trans (((cell_far (p := ⟨gb256, _, none⟩) NB237_256.out _).trans (((cell_far (p := ⟨gb256, _, none⟩) NB237_256.out _).trans (((cell_far (p := ⟨gb256, _, none⟩) NB237_256.out _).trans (((cell_far (p := ⟨gb256, _, none⟩) NB237_256.out _).trans (hHeld.1)))))))))), ((cell_far (p := ⟨gb256, _, none⟩) NB237_256.out _).trans (((cell_far (p := ⟨gb256, _, none⟩) NB237_256.out _).trans (((cell_far (p := ⟨gb256, _, none⟩) NB237_256.out _).trans (((cell_far (p := ⟨gb256, _, none⟩) NB237_256.out _).trans (((cell_far (p := ⟨gb256, _, none⟩) NB237_256.out _).trans (hHeld.2.1)))))))))), ((cell_far (p := ⟨gb256, _, none⟩) NB237_256.out _).trans (((cell_far (p := ⟨gb256, _, none⟩) NB237_256.out _).trans (((cell_far (p := ⟨gb256, _, none⟩) NB237_256.out _).trans (((cell_far (p := ⟨gb256, _, none⟩) NB237_256.out _).trans (((cell_far (p := ⟨gb256, _, none⟩) NB237_256.out _).trans (hHeld.2.2.1)))))))))), ((cell_far (p := ⟨gb256, _, none⟩) NB237_256.out _).trans (((cell_far (p := ⟨gb256, _, none⟩) NB237_256.out _).trans (((cell_far (p := ⟨gb256, _, none⟩) NB237_256.out _).trans (((cell_far (p := ⟨gb256, _, none⟩) NB237_256.out _).trans (((cell_far (p := ⟨gb256, _, none⟩) NB237_256.out _).trans (hHeld.2.2.2.1)))))))))), ((cell_far (p := ⟨gb256, _, none⟩) NB237_256.out _).trans (((cell_far (p := ⟨gb256, _, none⟩) NB237_256.out _).trans (((cell_far (p := ⟨gb256, _, none⟩) NB237_256.out _).trans (((cell_far (p := ⟨gb256, _, none⟩) NB237_256.out _).trans (((cell_far (p := ⟨gb256, _, none⟩) NB237_256.out _).trans (hHeld.2.2.2.2))))))))))⟩ (fun hHeld => ?_)
         clear hK K
         refine pure_ (i := 13) (N := some 13) (v := ?_) (a' := ?_) #[true, true, true, true, true, true, true, true, true, true, true, true, true, true, false] rfl rfl (any_of HT_.out (by kernel_rfl)) (fun _ _ _ h => h) (Or.inl ⟨by rfl, ?_⟩) ?_ ?_
         rotate_left
         ·intro w'
          go_simp
          with_reducible rfl
         rotate_left
         ·simp only [Act.put, List.setIfInBounds_toArray, List.set_cons_zero, List.set_cons_succ, i64_w, i32_w]
          rfl
         refine pure_ (i := 14) (N := some 14) (v := ?_) (a' := ?_) #[true, true, true, true, true, true, true, true, true, true, true, true, true, true, true] rfl rfl (any_of HT_.out (by kernel_rfl)) (fun _ _ _ h => h) (Or.inl ⟨by rfl, ?_⟩) ?_ ?_
         rotate_left
         ·intro w'
          go_simp
          with_reducible rfl
         rotate_left
         ·simp only [Act.put, List.setIfInBounds_toArray, List.set_cons_zero, List.set_cons_succ, i64_w, i32_w]
          rfl
         refine done_ (done_of HT_.out (by kernel_rfl)) ?_
         have hnb36 := NB256_237.out
         have hnc36 := NB237_256.out
         have hcz37_0 : w29.cell? ⟨gb256, 0, none⟩ = some (.int .i64 0) := (blk_cell BK256.out 0).trans rfl
         have hcz37_1 : w29.cell? ⟨gb256, 1, none⟩ = some (.slice none 0 0) := (blk_cell BK256.out 1).trans rfl
         have hcz37_2 : w29.cell? ⟨gb256, 2, none⟩ = some (.int .i64 0) := (blk_cell BK256.out 2).trans rfl
         have hcz37_3 : w29.cell? ⟨gb256, 3, none⟩ = some (.bool false) := (blk_cell BK256.out 3).trans rfl
         have hcz37_4 : w29.cell? ⟨gb256, 4, none⟩ = some (.int .i64 0) := (blk_cell BK256.out 4).trans rfl
         have hfz37_0 := blk_frozen BK256.out 0
         have hfz37_1 := blk_frozen BK256.out 1
         have hfz37_2 := blk_frozen BK256.out 2
         have hfz37_3 := blk_frozen BK256.out 3
         have hfz37_4 := blk_frozen BK256.out 4
         have hcz38_0 : w29.cell? ⟨gb237, 0, none⟩ = some (.int .i64 x238000_1) := (blk_cell BK237.out 0).trans rfl
         have hcz38_1 : w29.cell? ⟨gb237, 1, none⟩ = some (.slice Ao19 x238001_1.length co19) := (blk_cell BK237.out 1).trans rfl
         have hcz38_2 : w29.cell? ⟨gb237, 2, none⟩ = some (.int .i64 x238002_1) := (blk_cell BK237.out 2).trans rfl
         have hcz38_3 : w29.cell? ⟨gb237, 3, none⟩ = some (.bool x238003_1) := (blk_cell BK237.out 3).trans rfl
         have hcz38_4 : w29.cell? ⟨gb237, 4, none⟩ = some (.int .i64 x238004_1) := (blk_cell BK237.out 4).trans rfl
         have hfz38_0 := blk_frozen BK237.out 0
         have hfz38_1 := blk_frozen BK237.out 1
         have hfz38_2 := blk_frozen BK237.out 2
         have hfz38_3 := blk_frozen BK237.out 3
         have hfz38_4 := blk_frozen BK237.out 4
         try go_wp2
         go_roundg k1
         case measure => have := HK1.out; omega
         case rel => exact ⟨(wrap64 ((wrap64 (x9_1 + (ji14))) + 20)), (wrap64 (x10_1 + 1)), (t245), (t246), (t249), (t250), (t251), (.slice Ao31 t246.length co31), (by first | rfl | (simp; done) | (simp only [← hji14] <;> (first | rfl | simp)) | (simp [*]; done)), (by first | rfl | (simp; done) | (simp [*]; done)), H', ⟨by have := HK1.out; omega⟩, ⟨by (with_reducible repeat (first | apply Kd.V_alloc | apply Kd.V_drewN | apply Kd.V_drew)); exact Kd.V_mono (Kd.V_far (p := ⟨gb237, 4, none⟩) (Kd.V_far (p := ⟨gb237, 3, none⟩) (Kd.V_far (p := ⟨gb237, 2, none⟩) (Kd.V_far (p := ⟨gb237, 1, none⟩) (Kd.V_far (p := ⟨gb237, 0, none⟩) (Kd.V_far (p := ⟨gb256, 4, none⟩) (Kd.V_far (p := ⟨gb256, 3, none⟩) (Kd.V_far (p := ⟨gb256, 2, none⟩) (Kd.V_far (p := ⟨gb256, 1, none⟩) (Kd.V_far (p := ⟨gb256, 0, none⟩) (Kd.V_mono (Kd.V_mono HO248.out (fun k_ hk => (⟨hk, hk.2.2.2⟩ : _ ∧ k_ ≠ gb256))) (fun k_ hk => (⟨hk, hk.1.2.2.1⟩ : _ ∧ k_ ≠ gb237))) (fun _ hk => hk.1.2) (.int .i64 t245)) (fun _ hk => hk.1.2) (.slice Ao31 t246.length co31)) (fun _ hk => hk.1.2) (.int .i64 t249)) (fun _ hk => hk.1.2) (.bool t250)) (fun _ hk => hk.1.2) (.int .i64 t251)) (fun _ hk => hk.2) (.int .i64 t245)) (fun _ hk => hk.2) (.slice Ao31 t246.length co31)) (fun _ hk => hk.2) (.int .i64 t249)) (fun _ hk => hk.2) (.bool t250)) (fun _ hk => hk.2) (.int .i64 t251)) (fun _ hk => hk.1.1.2.2.1)⟩, ⟨by (with_reducible repeat (first | refine blk_drewN ?_ _ | refine blk_drew ?_ | refine blk_alloc ?_ _)); refine blk_put (cs := #[.int .i64 t245, .slice Ao31 t246.length co31, .int .i64 t249, .bool t250, .int .i64 x238004_1]) ?_ 4 _ rfl; (with_reducible repeat (first | refine blk_drewN ?_ _ | refine blk_drew ?_ | refine blk_alloc ?_ _)); refine blk_put (cs := #[.int .i64 t245, .slice Ao31 t246.length co31, .int .i64 t249, .bool x238003_1, .int .i64 x238004_1]) ?_ 3 _ rfl; (with_reducible repeat (first | refine blk_drewN ?_ _ | refine blk_drew ?_ | refine blk_alloc ?_ _)); refine blk_put (cs := #[.int .i64 t245, .slice Ao31 t246.length co31, .int .i64 x238002_1, .bool x238003_1, .int .i64 x238004_1]) ?_ 2 _ rfl; (with_reducible repeat (first | refine blk_drewN ?_ _ | refine blk_drew ?_ | refine blk_alloc ?_ _)); refine blk_put (cs := #[.int .i64 t245, .slice Ao19 x238001_1.length co19, .int .i64 x238002_1, .bool x238003_1, .int .i64 x238004_1]) ?_ 1 _ rfl; (with_reducible repeat (first | refine blk_drewN ?_ _ | refine blk_drew ?_ | refine blk_alloc ?_ _)); refine blk_put (cs := #[.int .i64 x238000_1, .slice Ao19 x238001_1.length co19, .int .i64 x238002_1, .bool x238003_1, .int .i64 x238004_1]) ?_ 0 _ rfl; (with_reducible repeat (first | refine blk_drewN ?_ _ | refine blk_drew ?_ | refine blk_alloc ?_ _)); refine blk_far ?_ NB237_256.out _; (with_reducible repeat (first | refine blk_drewN ?_ _ | refine blk_drew ?_ | refine blk_alloc ?_ _)); refine blk_far ?_ NB237_256.out _; (with_reducible repeat (first | refine blk_drewN ?_ _ | refine blk_drew ?_ | refine blk_alloc ?_ _)); refine blk_far ?_ NB237_256.out _; (with_reducible repeat (first | refine blk_drewN ?_ _ | refine blk_drew ?_ | refine blk_alloc ?_ _)); refine blk_far ?_ NB237_256.out _; (with_reducible repeat (first | refine blk_drewN ?_ _ | refine blk_drew ?_ | refine blk_alloc ?_ _)); refine blk_far ?_ NB237_256.out _; (with_reducible repeat (first | refine blk_drewN ?_ _ | refine blk_drew ?_ | refine blk_alloc ?_ _)); exact BK237.out⟩, ⟨by repeat (first | (with_reducible first | exact HB.out | apply below_alloc | apply pw_below_drewN | apply below_drew1 | refine below_set ?_ GE237.out | refine below_set ?_ GE256.out) | exact HB.out)⟩⟩
        ·rw [if_neg c18] at H
         have c18b0 : (t255 == 0) = false := beq_eq_false_iff_ne.mpr c18
         have c18b1 : (t255 != 0) = true := bne_iff_ne.mpr c18
         exact absurd ((Option.some.inj H).trans HR_.out) (by decide)
       ·rw [if_neg c16] at H
        exact absurd H (by simp)
      ·rw [if_neg c15] at H
       exact absurd H (by simp)
     ·rw [if_neg c13] at H
      exact absurd H (by simp)
    ·rw [if_neg c12] at H
     have c12b0 : decide (x10_1 < (l0.length : Int)) = false := decide_eq_false c12
     clear c12
     replace H := Option.bind_eq_some_iff.mp H
     obtain ⟨t257, A560, H⟩ := H
     replace H : (if t228 = true then (if t236 = 0 then (if (l0.length : Int) = 0 then (if (wrap64 (60 - t257)) = 0 then (some true) else ((space_Takes.f x9_1 (wrap64 (8192 + (Int.tmod (wrap64 (a1)) 8000)))).bind fun t258 => (some (decide ((wrap64 (60 - t257)) ≤ t258))))) else ((space_Takes.f x9_1 (wrap64 (8192 + (Int.tmod (wrap64 (a1)) 8000)))).bind fun t259 => (some (decide ((wrap64 (60 - t257)) ≤ t259))))) else (some false)) else (some false)) = some r := H
     have A56 := Aside0.mk A560
     clear A560
     by_cases c57 : t228 = true
     ·subst c57
      have H1 : (if t236 = 0 then (if (l0.length : Int) = 0 then (if (wrap64 (60 - t257)) = 0 then (some true) else ((space_Takes.f x9_1 (wrap64 (8192 + (Int.tmod (wrap64 (a1)) 8000)))).bind fun t258 => (some (decide ((wrap64 (60 - t257)) ≤ t258))))) else ((space_Takes.f x9_1 (wrap64 (8192 + (Int.tmod (wrap64 (a1)) 8000)))).bind fun t259 => (some (decide ((wrap64 (60 - t257)) ≤ t259))))) else (some false)) = some r := by rw [if_pos rfl] at H; exact H
      clear H
      have H := H1
      clear H1
      by_cases c58 : t236 = 0
      ·rw [if_pos c58] at H
       have c58b0 : (t236 == 0) = true := beq_iff_eq.mpr c58
       have c58b1 : (t236 != 0) = false := bne_eq_false_iff_eq.mpr c58
       clear c58
       by_cases c59 : (l0.length : Int) = 0
       ·rw [if_pos c59] at H
        have c59b0 : ((l0.length : Int) == 0) = true := beq_iff_eq.mpr c59
        have c59b1 : ((l0.length : Int) != 0) = false := bne_eq_false_iff_eq.mpr c59
        clear c59
        by_cases c60 : (wrap64 (60 - t257)) = 0
        ·rw [if_pos c60] at H
         have c60b0 : ((wrap64 (60 - t257)) == 0) = true := beq_iff_eq.mpr c60
         have c60b1 : ((wrap64 (60 - t257)) != 0) = false := bne_eq_false_iff_eq.mpr c60
         clear c60
         obtain rfl := Option.some.inj H
         have hcz61_0 : wr.cell? ⟨gb237, 0, none⟩ = some (.int .i64 x238000_1) := (blk_cell BK237.out 0).trans rfl
         have hcz61_1 : wr.cell? ⟨gb237, 1, none⟩ = some (u238001) := (blk_cell BK237.out 1).trans rfl
         have hcz61_2 : wr.cell? ⟨gb237, 2, none⟩ = some (.int .i64 x238002_1) := (blk_cell BK237.out 2).trans rfl
         have hcz61_3 : wr.cell? ⟨gb237, 3, none⟩ = some (.bool x238003_1) := (blk_cell BK237.out 3).trans rfl
         have hcz61_4 : wr.cell? ⟨gb237, 4, none⟩ = some (.int .i64 x238004_1) := (blk_cell BK237.out 4).trans rfl
         have hfz61_0 := blk_frozen BK237.out 0
         have hfz61_1 := blk_frozen BK237.out 1
         have hfz61_2 := blk_frozen BK237.out 2
         have hfz61_3 := blk_frozen BK237.out 3
         have hfz61_4 := blk_frozen BK237.out 4
         obtain ⟨Ao62, co62, eo62⟩ := Kd.V_slice HO_238001.out
         subst eo62
         go_wp2_with (first | ((with_reducible refine gate_callee (f := 13) rfl ?_); refine goesL_ (some 61) rfl rfl Try.func13 (by kernel_rfl) rfl #[.agg #[.int .i64 x238000_1, .slice Ao62 x238001_1.length co62, .int .i64 x238002_1, .bool x238003_1, .int .i64 x238004_1]] rfl (by (try simp only [List.map_toArray, List.map_cons, List.map_nil]); first | done | rfl | (simp only [List.length_drop, List.length_take]; rfl)) ?_; (with_reducible refine (log_Empty.calls k1 x238000_1 _ _ x238001_1 x238002_1 x238003_1 x238004_1 t257 _ ?side1 ?side2 A56.out).mono ?_); (case side1 => repeat (first | exact (Kd.V_reads' HO_238001.out).2.2 | (with_reducible refine Kd.C_alloc ?_ _) | (with_reducible refine Kd.C_drewN ?_ _) | (with_reducible refine Kd.C_drew ?_))); (case side2 => exact (Kd.V_reads' HO_238001.out).2.1); rintro e w63 ⟨rfl, hb⟩; refine ⟨_, rfl, ?_⟩; have n0_ := Aside0.mk (Kd.V_below (by (with_reducible repeat (first | apply Kd.V_alloc | apply Kd.V_drewN | apply Kd.V_drew)); exact HO_238001.out) hb); have n1_ := Aside0.mk (blk_below (g := gb237) (o := .cells #[.int .i64 x238000_1, .slice Ao62 x238001_1.length co62, .int .i64 x238002_1, .bool x238003_1, .int .i64 x238004_1] 27 (0, 0)) (by (with_reducible repeat (first | refine blk_drewN ?_ _ | refine blk_drew ?_ | refine blk_alloc ?_ _)); exact BK237.out) hb); have n2_ := Aside0.mk (below_step (by repeat (first | (with_reducible first | exact HB.out | apply below_alloc | apply pw_below_drewN | apply below_drew1 | refine below_set ?_ GE237.out) | exact HB.out)) hb); clear HO_238001; clear BK237; clear HB; have HO_238001 := n0_; have BK237 := n1_; have HB := n2_; clear n0_ n1_ n2_; (try clear hb); (try clear hb2); (try clear hk); (try clear hi)))
         go_ret
         exact ⟨by first | rfl | (simp [errW_none, errW_some] <;> rfl) | (simp [*, errW_none, errW_some] <;> rfl), by repeat (first | (with_reducible first | exact HB.out | apply below_alloc | apply pw_below_drewN | apply below_drew1 | refine below_set ?_ GE237.out) | exact HB.out)⟩
        ·rw [if_neg c60] at H
         have c60b0 : ((wrap64 (60 - t257)) == 0) = false := beq_eq_false_iff_ne.mpr c60
         have c60b1 : ((wrap64 (60 - t257)) != 0) = true := bne_iff_ne.mpr c60
         replace H := Option.bind_eq_some_iff.mp H
         obtain ⟨t258, A640, H⟩ := H
         replace H : (some (decide ((wrap64 (60 - t257)) ≤ t258))) = some r := H
         have A64 := Aside0.mk A640
         clear A640
         obtain rfl := Option.some.inj H
         have hcz65_0 : wr.cell? ⟨gb237, 0, none⟩ = some (.int .i64 x238000_1) := (blk_cell BK237.out 0).trans rfl
         have hcz65_1 : wr.cell? ⟨gb237, 1, none⟩ = some (u238001) := (blk_cell BK237.out 1).trans rfl
         have hcz65_2 : wr.cell? ⟨gb237, 2, none⟩ = some (.int .i64 x238002_1) := (blk_cell BK237.out 2).trans rfl
         have hcz65_3 : wr.cell? ⟨gb237, 3, none⟩ = some (.bool x238003_1) := (blk_cell BK237.out 3).trans rfl
         have hcz65_4 : wr.cell? ⟨gb237, 4, none⟩ = some (.int .i64 x238004_1) := (blk_cell BK237.out 4).trans rfl
         have hfz65_0 := blk_frozen BK237.out 0
         have hfz65_1 := blk_frozen BK237.out 1
         have hfz65_2 := blk_frozen BK237.out 2
         have hfz65_3 := blk_frozen BK237.out 3
         have hfz65_4 := blk_frozen BK237.out 4
         obtain ⟨Ao66, co66, eo66⟩ := Kd.V_slice HO_238001.out
         subst eo66
         go_wp2_with (first | ((with_reducible refine gate_callee (f := 13) rfl ?_); refine goesL_ (some 61) rfl rfl Try.func13 (by kernel_rfl) rfl #[.agg #[.int .i64 x238000_1, .slice Ao66 x238001_1.length co66, .int .i64 x238002_1, .bool x238003_1, .int .i64 x238004_1]] rfl (by (try simp only [List.map_toArray, List.map_cons, List.map_nil]); first | done | rfl | (simp only [List.length_drop, List.length_take]; rfl)) ?_; (with_reducible refine (log_Empty.calls k1 x238000_1 _ _ x238001_1 x238002_1 x238003_1 x238004_1 t257 _ ?side1 ?side2 A56.out).mono ?_); (case side1 => repeat (first | exact (Kd.V_reads' HO_238001.out).2.2 | (with_reducible refine Kd.C_alloc ?_ _) | (with_reducible refine Kd.C_drewN ?_ _) | (with_reducible refine Kd.C_drew ?_))); (case side2 => exact (Kd.V_reads' HO_238001.out).2.1); rintro e w67 ⟨rfl, hb⟩; refine ⟨_, rfl, ?_⟩; have n0_ := Aside0.mk (Kd.V_below (by (with_reducible repeat (first | apply Kd.V_alloc | apply Kd.V_drewN | apply Kd.V_drew)); exact HO_238001.out) hb); have n1_ := Aside0.mk (blk_below (g := gb237) (o := .cells #[.int .i64 x238000_1, .slice Ao66 x238001_1.length co66, .int .i64 x238002_1, .bool x238003_1, .int .i64 x238004_1] 27 (0, 0)) (by (with_reducible repeat (first | refine blk_drewN ?_ _ | refine blk_drew ?_ | refine blk_alloc ?_ _)); exact BK237.out) hb); have n2_ := Aside0.mk (below_step (by repeat (first | (with_reducible first | exact HB.out | apply below_alloc | apply pw_below_drewN | apply below_drew1 | refine below_set ?_ GE237.out) | exact HB.out)) hb); clear HO_238001; clear BK237; clear HB; have HO_238001 := n0_; have BK237 := n1_; have HB := n2_; clear n0_ n1_ n2_; (try clear hb); (try clear hb2); (try clear hk); (try clear hi)) | (go_at_call 14; (with_reducible refine (space_Takes.calls x9_1 (wrap64 (8192 + (Int.tmod (wrap64 (a1)) 8000))) t258 _ A64.out).mono ?_); rintro e w68 ⟨rfl, hb⟩; have n0_ := Aside0.mk (Kd.V_below (by (with_reducible repeat (first | apply Kd.V_alloc | apply Kd.V_drewN | apply Kd.V_drew)); exact HO_238001.out) hb); have n1_ := Aside0.mk (blk_below (g := gb237) (o := .cells #[.int .i64 x238000_1, .slice Ao66 x238001_1.length co66, .int .i64 x238002_1, .bool x238003_1, .int .i64 x238004_1] 27 (0, 0)) (by (with_reducible repeat (first | refine blk_drewN ?_ _ | refine blk_drew ?_ | refine blk_alloc ?_ _)); exact BK237.out) hb); have n2_ := Aside0.mk (below_step (by repeat (first | (with_reducible first | exact HB.out | apply below_alloc | apply pw_below_drewN | apply below_drew1 | refine below_set ?_ GE237.out) | exact HB.out)) hb); clear HO_238001; clear BK237; clear HB; have HO_238001 := n0_; have BK237 := n1_; have HB := n2_; clear n0_ n1_ n2_; (try clear hb); (try clear hb2); (try clear hk); (try clear hi)))
         go_ret
         exact ⟨by first | rfl | (simp [errW_none, errW_some] <;> rfl) | (simp [*, errW_none, errW_some] <;> rfl), by repeat (first | (with_reducible first | exact HB.out | apply below_alloc | apply pw_below_drewN | apply below_drew1 | refine below_set ?_ GE237.out) | exact HB.out)⟩
       ·rw [if_neg c59] at H
        have c59b0 : ((l0.length : Int) == 0) = false := beq_eq_false_iff_ne.mpr c59
        have c59b1 : ((l0.length : Int) != 0) = true := bne_iff_ne.mpr c59
        have c59b2 : ¬ (l0 = []) := fun h_ => c59 (by rw [h_]; rfl)
        replace H := Option.bind_eq_some_iff.mp H
        obtain ⟨t259, A690, H⟩ := H
        replace H : (some (decide ((wrap64 (60 - t257)) ≤ t259))) = some r := H
        have A69 := Aside0.mk A690
        clear A690
        obtain rfl := Option.some.inj H
        have hcz70_0 : wr.cell? ⟨gb237, 0, none⟩ = some (.int .i64 x238000_1) := (blk_cell BK237.out 0).trans rfl
        have hcz70_1 : wr.cell? ⟨gb237, 1, none⟩ = some (u238001) := (blk_cell BK237.out 1).trans rfl
        have hcz70_2 : wr.cell? ⟨gb237, 2, none⟩ = some (.int .i64 x238002_1) := (blk_cell BK237.out 2).trans rfl
        have hcz70_3 : wr.cell? ⟨gb237, 3, none⟩ = some (.bool x238003_1) := (blk_cell BK237.out 3).trans rfl
        have hcz70_4 : wr.cell? ⟨gb237, 4, none⟩ = some (.int .i64 x238004_1) := (blk_cell BK237.out 4).trans rfl
        have hfz70_0 := blk_frozen BK237.out 0
        have hfz70_1 := blk_frozen BK237.out 1
        have hfz70_2 := blk_frozen BK237.out 2
        have hfz70_3 := blk_frozen BK237.out 3
        have hfz70_4 := blk_frozen BK237.out 4
        obtain ⟨Ao71, co71, eo71⟩ := Kd.V_slice HO_238001.out
        subst eo71
        go_wp2_with (first | ((with_reducible refine gate_callee (f := 13) rfl ?_); refine goesL_ (some 61) rfl rfl Try.func13 (by kernel_rfl) rfl #[.agg #[.int .i64 x238000_1, .slice Ao71 x238001_1.length co71, .int .i64 x238002_1, .bool x238003_1, .int .i64 x238004_1]] rfl (by (try simp only [List.map_toArray, List.map_cons, List.map_nil]); first | done | rfl | (simp only [List.length_drop, List.length_take]; rfl)) ?_; (with_reducible refine (log_Empty.calls k1 x238000_1 _ _ x238001_1 x238002_1 x238003_1 x238004_1 t257 _ ?side1 ?side2 A56.out).mono ?_); (case side1 => repeat (first | exact (Kd.V_reads' HO_238001.out).2.2 | (with_reducible refine Kd.C_alloc ?_ _) | (with_reducible refine Kd.C_drewN ?_ _) | (with_reducible refine Kd.C_drew ?_))); (case side2 => exact (Kd.V_reads' HO_238001.out).2.1); rintro e w72 ⟨rfl, hb⟩; refine ⟨_, rfl, ?_⟩; have n0_ := Aside0.mk (Kd.V_below (by (with_reducible repeat (first | apply Kd.V_alloc | apply Kd.V_drewN | apply Kd.V_drew)); exact HO_238001.out) hb); have n1_ := Aside0.mk (blk_below (g := gb237) (o := .cells #[.int .i64 x238000_1, .slice Ao71 x238001_1.length co71, .int .i64 x238002_1, .bool x238003_1, .int .i64 x238004_1] 27 (0, 0)) (by (with_reducible repeat (first | refine blk_drewN ?_ _ | refine blk_drew ?_ | refine blk_alloc ?_ _)); exact BK237.out) hb); have n2_ := Aside0.mk (below_step (by repeat (first | (with_reducible first | exact HB.out | apply below_alloc | apply pw_below_drewN | apply below_drew1 | refine below_set ?_ GE237.out) | exact HB.out)) hb); clear HO_238001; clear BK237; clear HB; have HO_238001 := n0_; have BK237 := n1_; have HB := n2_; clear n0_ n1_ n2_; (try clear hb); (try clear hb2); (try clear hk); (try clear hi)) | (go_at_call 14; (with_reducible refine (space_Takes.calls x9_1 (wrap64 (8192 + (Int.tmod (wrap64 (a1)) 8000))) t259 _ A69.out).mono ?_); rintro e w73 ⟨rfl, hb⟩; have n0_ := Aside0.mk (Kd.V_below (by (with_reducible repeat (first | apply Kd.V_alloc | apply Kd.V_drewN | apply Kd.V_drew)); exact HO_238001.out) hb); have n1_ := Aside0.mk (blk_below (g := gb237) (o := .cells #[.int .i64 x238000_1, .slice Ao71 x238001_1.length co71, .int .i64 x238002_1, .bool x238003_1, .int .i64 x238004_1] 27 (0, 0)) (by (with_reducible repeat (first | refine blk_drewN ?_ _ | refine blk_drew ?_ | refine blk_alloc ?_ _)); exact BK237.out) hb); have n2_ := Aside0.mk (below_step (by repeat (first | (with_reducible first | exact HB.out | apply below_alloc | apply pw_below_drewN | apply below_drew1 | refine below_set ?_ GE237.out) | exact HB.out)) hb); clear HO_238001; clear BK237; clear HB; have HO_238001 := n0_; have BK237 := n1_; have HB := n2_; clear n0_ n1_ n2_; (try clear hb); (try clear hb2); (try clear hk); (try clear hi)))
        go_ret
        exact ⟨by first | rfl | (simp [errW_none, errW_some] <;> rfl) | (simp [*, errW_none, errW_some] <;> rfl), by repeat (first | (with_reducible first | exact HB.out | apply below_alloc | apply pw_below_drewN | apply below_drew1 | refine below_set ?_ GE237.out) | exact HB.out)⟩
      ·rw [if_neg c58] at H
       have c58b0 : (t236 == 0) = false := beq_eq_false_iff_ne.mpr c58
       have c58b1 : (t236 != 0) = true := bne_iff_ne.mpr c58
       exact absurd ((Option.some.inj H).trans HR_.out) (by decide)
     ·replace c57 := Bool.eq_false_iff.mpr c57
      subst c57
      have H1 : (some false) = some r := by rw [if_neg (show ¬ (false = true) by decide)] at H; exact H
      clear H
      have H := H1
      clear H1
      exact absurd ((Option.some.inj H).trans HR_.out) (by decide)
/-- THE ONE PURE STATEMENT of waggonerlaw13_SpaceHolds: yours. -/
def waggonerlaw13_SpaceHolds.Pure : Prop := ∀ (l0 : List Int) (a1 : Int), l0.length ≤ maxLen → l0.length * 2 ≤ 140737488351232 → (∀ x ∈ l0, (Lit.int .u16 x).wf = true) → (Lit.int .u16 a1).wf = true → ∃ k, waggonerlaw13_SpaceHolds.f k l0 a1 = some true
theorem waggonerlaw13_SpaceHolds.walk (P : waggonerlaw13_SpaceHolds.Pure) (a0 : Option Addr) (len0 cap0 : Nat) (z0 : List Int) (a1 : Int) (w : World) (w0 : (a0 = none ∧ len0 = 0 ∧ cap0 = 0 ∧ z0 = []) ∨ ∃ x, a0 = some x ∧ len0 ≤ cap0 ∧ cap0 ≤ maxLen ∧ z0.length = cap0 ∧ (∀ i, i < z0.length → w.cell? (x.add i) = some (.int .u16 (z0.getD i 0))) ∧ ∀ n ∈ z0, (Lit.int .u16 n).wf = true) (y0 : len0 * 2 ≤ 140737488351232) (w1 : (Lit.int .u16 a1).wf = true) :
  Calls Try.prog 3 #[.slice a0 len0 cap0, .int .u16 a1] w fun e w' => e = .returned (.bool true) ∧ Below w.heap.size w w' := by
 obtain ⟨l0, rfl, hr0, hm0, hw0, hc0⟩ := ReadsInt.ofRowC w0
 obtain ⟨k, h⟩ := P l0 a1 hm0 y0 hw0 w1
 refine (waggonerlaw13_SpaceHolds.calls k _ _ l0 a1 true w (Kd.C_of_reads (d := (0 : Int)) (h1 := fun _ => rfl) hr0) hc0 h rfl).mono ?_
 rintro e w' ⟨rfl, hd⟩
 exact ⟨rfl, hd⟩
end Go.Proofs.Ytdgefplbfffenaa.X
namespace Go.Proofs.Ytdgefplbfffenaa.Pure
open Go.RowKit Go.Proofs.Ytdgefplbfffenaa.X Go.Proofs.YtdgefplbfffenaaW.PrintWords Go.Proofs.YtdgefplbfffenaaW.PrintLast
/-- le.Put's loop: from round i of n on. -/
theorem put_l0 (n : Nat) (hn : n ≤ 8) : ∀ (m k i : Nat) (v : Int) (l : List Int), i + m = n → m < k → l.length + m < 140737488355328 → ∃ bs, le_Put.l0 k v l (n : Int) i = some (l ++ bs, 0) ∧ bs.length = m := by
  intro m
  induction m with
  | zero =>
    intro k i v l hi hk hl
    obtain ⟨k, rfl⟩ : ∃ j, k = j + 1 := ⟨k - 1, by omega⟩
    refine ⟨[], ?_, rfl⟩
    simp only [le_Put.l0]
    rw [if_neg (by omega), List.append_nil]
  | succ m ih =>
    intro k i v l hi hk hl
    obtain ⟨k, rfl⟩ : ∃ j, k = j + 1 := ⟨k - 1, by omega⟩
    have e1 : wrap64 ((i : Int) + 1) = ((i + 1 : Nat) : Int) := by unfold wrap64; omega
    obtain ⟨bs, hb, hbl⟩ := ih k (i + 1) (v / 256) (l ++ [v % 256]) (by omega) (by omega) (by rw [List.length_append, List.length_singleton]; omega)
    refine ⟨v % 256 :: bs, ?_, by rw [List.length_cons, hbl]⟩
    simp only [le_Put.l0]
    rw [if_pos (by omega), if_pos (by omega), e1, hb, List.append_assoc]
    rfl
theorem clone_ok (l : List Int) (hl : l.length < 140737488355328) : bytes_Clone.f l = some l := if_pos hl
theorem may8 (v : Int) : le_may.f v 8 = some true := by unfold le_may.f; simp
theorem w32 : wrap64 32 = 32 := by unfold wrap64; omega
theorem w16 : wrap64 16 = 16 := by unfold wrap64; omega
theorem may4 (v : Int) (h0 : 0 ≤ v) (h1 : v < 4294967296) : le_may.f v 4 = some true := by
  unfold le_may.f
  have e2 : (2 : Int) ^ min (wrap64 32).toNat IntKind.u64.bits = 4294967296 := by rw [w32]; rfl
  have e3 : v / 4294967296 = 0 := Int.ediv_eq_zero_of_lt h0 h1
  simp [shr, w32]
  rw [w32] at e2
  exact (congrArg (v / ·) e2).trans e3
theorem may2 (v : Int) (h0 : 0 ≤ v) (h1 : v < 65536) : le_may.f v 2 = some true := by
  unfold le_may.f
  have e2 : (2 : Int) ^ min (wrap64 16).toNat IntKind.u64.bits = 65536 := by rw [w16]; rfl
  have e3 : v / 65536 = 0 := Int.ediv_eq_zero_of_lt h0 h1
  simp [shr, w16]
  rw [w16] at e2
  exact (congrArg (v / ·) e2).trans e3
theorem put_ok (k : Nat) (hk : 9 ≤ k) (l : List Int) (v : Int) (n : Nat) (hn : n ≤ 8) (hl : l.length + 8 < 140737488355328) (hm : le_may.f v n = some true) : ∃ bs, le_Put.f k l v n = some (l ++ bs, 0) ∧ bs.length = n := by
  obtain ⟨bs, hb, hbl⟩ := put_l0 n hn n k 0 v l (by omega) (by omega) (by omega)
  refine ⟨bs, ?_, hbl⟩
  unfold le_Put.f
  rw [hm, clone_ok l (by omega)]
  exact hb
theorem bits32 (op : BinOp) (a b : Int) : 0 ≤ bits op .u32 a b ∧ bits op .u32 a b < 4294967296 := by
  have h : ∃ n, bits op .u32 a b = IntKind.u32.wrap n := ⟨_, rfl⟩
  obtain ⟨n, hn⟩ := h
  rw [hn, IntKind.wrap_u32]
  omega
theorem seal_ok (k : Nat) (hk : 9 ≤ k) (l : List Int) (hl : l.length + 8 < 140737488355328) : ∃ bs, crc_Seal.f k l = some (l ++ bs) ∧ bs.length = 4 := by
  obtain ⟨h0, h1⟩ := bits32 .xor (l.foldl crcStep (bits .xor .u32 0 4294967295)) 4294967295
  generalize hv : bits .xor .u32 (l.foldl crcStep (bits .xor .u32 0 4294967295)) 4294967295 = v at h0 h1
  have hw : IntKind.u64.wrap v = v := by simp [IntKind.wrap, IntKind.bits, IntKind.signed]; omega
  obtain ⟨bs, hb, hbl⟩ := put_ok k hk l v 4 (by omega) hl (may4 v h0 h1)
  refine ⟨bs, ?_, hbl⟩
  unfold crc_Seal.f crc_Sum.f crc_More.f
  rw [hv]
  simp only [Option.bind_some, hw]
  rw [show ((4 : Nat) : Int) = 4 from rfl] at hb
  rw [hb]
  rfl
/-- record.Write of a record that may be: the head, the body, the sum. -/
theorem write_ok (k : Nat) (hk : 9 ≤ k) (kind seq : Int) (b : List Int) (h1 : 1 ≤ kind) (h2 : kind ≤ 5) (h3 : 0 ≤ seq) (h4 : seq ≤ 4611686018427387903) (hb : b.length ≤ 4096) : ∃ bs, record_Write.f k kind seq b = some (bs, 0) ∧ bs.length = b.length + 20 := by
  have hc : record_Check.f kind seq b = some 0 := by
    unfold record_Check.f
    rw [if_neg (by omega), if_neg (by omega), if_neg (by omega), if_neg (by omega), if_neg (by omega)]
  have hw1 : IntKind.u64.wrap kind = kind := by simp [IntKind.wrap, IntKind.bits, IntKind.signed]; omega
  have hw2 : IntKind.u64.wrap seq = seq := by simp [IntKind.wrap, IntKind.bits, IntKind.signed]; omega
  have hw3 : IntKind.u64.wrap (b.length : Int) = (b.length : Int) := by simp [IntKind.wrap, IntKind.bits, IntKind.signed]; omega
  obtain ⟨p1, e1, l1⟩ := put_ok 12 (by omega) [] 1196184151 4 (by omega) (by simp) (may4 _ (by omega) (by omega))
  obtain ⟨p2, e2, l2⟩ := put_ok 12 (by omega) ([] ++ p1) kind 2 (by omega) (by simp [l1]) (may2 _ (by omega) (by omega))
  obtain ⟨p3, e3, l3⟩ := put_ok 12 (by omega) ([] ++ p1 ++ p2) (b.length : Int) 2 (by omega) (by simp [l1, l2]) (may2 _ (by omega) (by omega))
  obtain ⟨p4, e4, l4⟩ := put_ok 12 (by omega) ([] ++ p1 ++ p2 ++ p3) seq 8 (by omega) (by simp [l1, l2, l3]) (may8 _)
  have hp : le_Pack.f (⟨#[119, 104, 104, 113]⟩ : ByteArray) [1196184151, kind, (b.length : Int), seq] = some ([] ++ p1 ++ p2 ++ p3 ++ p4, 0) := by
    unfold le_Pack.f
    show packL [119, 104, 104, 113] _ [] = _
    simp only [packL]
    rw [if_pos (by decide), show le_size ((119 : UInt8).toNat : Int) = ((4 : Nat) : Int) from rfl, e1]
    simp only [if_true]
    rw [if_pos (by decide), show le_size ((104 : UInt8).toNat : Int) = ((2 : Nat) : Int) from rfl, e2]
    simp only [if_true]
    rw [if_pos (by decide), e3]
    simp only [if_true]
    rw [if_pos (by decide), show le_size ((113 : UInt8).toNat : Int) = ((8 : Nat) : Int) from rfl, e4]
    simp only [if_true]
  obtain ⟨bs, es, ls⟩ := seal_ok k hk ([] ++ p1 ++ p2 ++ p3 ++ p4 ++ b) (by simp [l1, l2, l3, l4]; omega)
  refine ⟨[] ++ p1 ++ p2 ++ p3 ++ p4 ++ b ++ bs, ?_, by simp [l1, l2, l3, l4, ls]; omega⟩
  unfold record_Write.f
  rw [hc]
  simp only [Option.bind_some, if_true, hw1, hw2, hw3]
  rw [hp]
  simp only [Option.bind_some, if_true]
  rw [if_pos (by simp [l1, l2, l3, l4]; omega), es]
  rfl
end Go.Proofs.Ytdgefplbfffenaa.Pure
namespace Go.Proofs.Ytdgefplbfffenaa.Pure
open Go.RowKit Go.Proofs.Ytdgefplbfffenaa.X Go.Proofs.YtdgefplbfffenaaW.PrintWords Go.Proofs.YtdgefplbfffenaaW.PrintLast
theorem countP_set' {α : Type} (p : α → Bool) : ∀ (l : List α) (i : Nat) (h : i < l.length) (x : α), (l.set i x).countP p + (if p l[i] then 1 else 0) = l.countP p + (if p x then 1 else 0)
  | [], i, h, x => absurd h (Nat.not_lt_zero _)
  | a :: l, 0, h, x => by
    simp only [List.set_cons_zero, List.countP_cons, List.getElem_cons_zero]; omega
  | a :: l, i + 1, h, x => by
    have ih := countP_set' p l i (by simpa using h) x
    simp only [List.set_cons_succ, List.countP_cons, List.getElem_cons_succ]; omega
def total (l : List S52) : Nat := (l.map fun z => z.f2.length).sum
theorem total_set : ∀ (l : List S52) (i : Nat) (h : i < l.length) (x : S52), total (l.set i x) + l[i].f2.length = total l + x.f2.length
  | [], i, h, x => absurd h (Nat.not_lt_zero _)
  | a :: l, 0, h, x => by simp [total]; omega
  | a :: l, i + 1, h, x => by
    have ih := total_set l i (by simpa using h) x
    simp only [total, List.set_cons_succ, List.map_cons, List.sum_cons, List.getElem_cons_succ] at ih ⊢; omega
/-- A zone of a device that records were appended to. -/
def ZG (size : Int) (z : S52) : Prop := z.f1 = 0 ∧ z.f3 = 0 ∧ (z.f0 = 0 ∧ z.f2 = [] ∨ z.f0 = 1 ∧ 0 < z.f2.length ∧ (z.f2.length : Int) < size ∨ z.f0 = 3 ∧ 0 < z.f2.length ∧ (z.f2.length : Int) ≤ size)
def used (l : List S52) : Nat := l.countP fun z => z.f0 != 0
def low (size : Int) (l : List S52) : Nat := l.countP fun z => z.f0 != 0 && decide ((z.f2.length : Int) + 4116 ≤ size)
structure Good (size : Int) (l : List S52) : Prop where
  len : l.length = 60
  zs : ∀ z ∈ l, ZG size z
  op : dopen l ≤ 3
  lo : low size l ≤ 1
  f3 : ∀ z ∈ l, z.f0 = 3 → size < (z.f2.length : Int) + 4116
theorem ZG.ok {size : Int} {z : S52} (h : ZG size z) (h0 : 8192 ≤ size) (h1 : size ≤ 1048576) : zok z size = true := by
  obtain ⟨e1, e3, h⟩ := h
  unfold zok
  rw [e1, e3]
  rcases h with ⟨e0, e2⟩ | ⟨e0, h2, h3⟩ | ⟨e0, h2, h3⟩
  · rw [e0, e2]; simp; omega
  · rw [e0]; simp; omega
  · rw [e0]; simp; omega
theorem Good.dok {size : Int} {l : List S52} (h : Good size l) (h0 : 8192 ≤ size) (h1 : size ≤ 1048576) : dok size l = true := by
  unfold X.dok
  have : (l.any fun z => !zok z size) = false := by
    rw [List.any_eq_false]
    intro z hz
    rw [(h.zs z hz).ok h0 h1]; simp
  rw [this, h.len]
  simp; omega
theorem Good.devOk {size : Int} {l : List S52} (h : Good size l) (h0 : 8192 ≤ size) (h1 : size ≤ 1048576) : devOk size l (-1) false = true := by
  unfold X.devOk
  rw [h.dok h0 h1]
  have : (l.all fun z => decide (z.f2.length < 140737488355328)) = true := by
    rw [List.all_eq_true]
    intro z hz
    obtain ⟨_, _, h⟩ := h.zs z hz
    rcases h with ⟨_, e⟩ | ⟨_, _, h3⟩ | ⟨_, _, h3⟩
    · rw [e]; simp
    · simp; omega
    · simp; omega
  rw [this]; decide
/-- The zones that are used hold more than all but one record's size, all but one. -/
theorem Good.holds {size : Int} {l : List S52} (h : Good size l) (h0 : 8192 ≤ size) : ((used l : Int) - 1) * (size - 4116) ≤ total l := by
  have key : ∀ l : List S52, (∀ z ∈ l, ZG size z) → ((used l : Int) - low size l) * (size - 4116) ≤ total l := by
    intro l
    induction l with
    | nil => intro _; simp [used, low, total]
    | cons z l ih =>
      intro hz
      have ih := ih (fun x hx => hz x (List.mem_cons_of_mem _ hx))
      obtain ⟨_, _, hzz⟩ := hz z (List.mem_cons_self ..)
      have e1 : used (z :: l) = used l + if (z.f0 != 0) = true then 1 else 0 := by simp [used, List.countP_cons]
      have e2 : low size (z :: l) = low size l + if (z.f0 != 0 && decide ((z.f2.length : Int) + 4116 ≤ size)) = true then 1 else 0 := by simp [low, List.countP_cons]
      have e3 : total (z :: l) = z.f2.length + total l := by simp [total]
      rw [e1, e2, e3]
      have hlow : low size l ≤ used l := by
        unfold low used
        exact List.countP_mono_left (fun x _ hx => by simp at hx ⊢; exact hx.1)
      rcases hzz with ⟨e0, e⟩ | ⟨e0, h2, h3⟩ | ⟨e0, h2, h3⟩
      · rw [e0, e]; simp; simpa using ih
      · rw [e0]
        by_cases hd : (z.f2.length : Int) + 4116 ≤ size
        · simp [hd]
          have : ((used l : Int) + 1 - (low size l + 1)) = (used l : Int) - low size l := by omega
          rw [this]; omega
        · simp [hd]
          have : ((used l : Int) + 1 - low size l) * (size - 4116) = ((used l : Int) - low size l) * (size - 4116) + (size - 4116) := by
            rw [show (used l : Int) + 1 - low size l = ((used l : Int) - low size l) + 1 by omega, Int.add_mul, Int.one_mul]
          rw [this]; omega
      · rw [e0]
        by_cases hd : (z.f2.length : Int) + 4116 ≤ size
        · simp [hd]
          have : ((used l : Int) + 1 - (low size l + 1)) = (used l : Int) - low size l := by omega
          rw [this]; omega
        · simp [hd]
          have : ((used l : Int) + 1 - low size l) * (size - 4116) = ((used l : Int) - low size l) * (size - 4116) + (size - 4116) := by
            rw [show (used l : Int) + 1 - low size l = ((used l : Int) - low size l) + 1 by omega, Int.add_mul, Int.one_mul]
          rw [this]; omega
  have hk := key l h.zs
  have hlo := h.lo
  have : ((used l : Int) - 1) * (size - 4116) ≤ ((used l : Int) - low size l) * (size - 4116) := Int.mul_le_mul_of_nonneg_right (by omega) (by omega)
  omega
end Go.Proofs.Ytdgefplbfffenaa.Pure
namespace Go.Proofs.Ytdgefplbfffenaa.Pure
open Go.RowKit Go.Proofs.Ytdgefplbfffenaa.X Go.Proofs.YtdgefplbfffenaaW.PrintWords Go.Proofs.YtdgefplbfffenaaW.PrintLast
theorem fidx_some {p : S52 → Bool} {l : List S52} (h : l.any p = true) : ∃ i : Nat, ∃ hi : i < l.length, fidx p l = (i : Int) ∧ p l[i] = true := by
  obtain ⟨x, hx, hp⟩ := List.any_eq_true.1 h
  have hl : l.findIdx p < l.length := List.findIdx_lt_length_of_exists ⟨x, hx, hp⟩
  exact ⟨l.findIdx p, hl, by unfold fidx; rw [if_pos h], List.findIdx_getElem⟩
theorem fidx_none {p : S52 → Bool} {l : List S52} (h : l.any p = false) : fidx p l = -1 := by unfold fidx; rw [if_neg (by simp [h])]
theorem ZG.room {size : Int} {z : S52} (h : ZG size z) (h0 : 8192 ≤ size) (h1 : size ≤ 1048576) (he : z.f0 = 0 ∨ z.f0 = 1) : zroom z size = size - z.f2.length := by
  unfold zroom
  rw [h.ok h0 h1]
  have : ztakes z = true := by unfold ztakes; rcases he with e | e <;> simp [e]
  rw [this]; simp
theorem open_any (k : Nat) (l : List S52) (hlen : l.length ≤ 9223372036854775806) (hk : l.length < k) (a b : Int) (c : Bool) (d : Int) : dev_Open.f k a l b c d = some (dopen l : Int) := by
  unfold dev_Open.f dopen
  have h := open_l0 l hlen l.length k 0 0 (by omega) (by omega) (by omega) (by omega)
  simpa using h
/-- Where a record goes, and what is asked ahead of it. -/
theorem place {size : Int} {l : List S52} (hg : Good size l) (h0 : 8192 ≤ size) (h1 : size ≤ 1048576) (hu : used l < 60) (n : Int) (hn0 : 20 ≤ n) (hn1 : n ≤ 4116) (k : Nat) (hk : 62 ≤ k) (done : Int) :
    ∃ i : Nat, ∃ hi : i < l.length,
      (log_Place.f k size l (-1) false done n = some ((i : Int), [], 0) ∧ l[i].f0 = 1 ∧ n ≤ size - l[i].f2.length) ∨
      (l[i].f0 = 0 ∧ (∀ z ∈ l, z.f0 = 1 → size - z.f2.length < n) ∧
        (dopen l < 3 ∧ log_Place.f k size l (-1) false done n = some ((i : Int), [], 0) ∨
         dopen l = 3 ∧ ∃ j : Nat, ∃ hj : j < l.length, l[j].f0 = 1 ∧ log_Place.f k size l (-1) false done n = some ((i : Int), [⟨3, (j : Int), []⟩], 0))) := by
  obtain ⟨k, rfl⟩ : ∃ j, k = j + 1 := ⟨k - 1, by omega⟩
  have hlen := hg.len
  have hP : log_Place.f (k + 1) size l (-1) false done n = log_Place.j0 (k + 1) n false size l (-1) false done := by
    unfold log_Place.f dev_Check.f
    rw [hg.dok h0 h1]
    simp only [Option.bind_some, if_true]
    rw [if_neg (by omega), show decide (n > size) = false from decide_eq_false (by omega)]
  rw [hP]
  simp only [log_Place.j0, log_first.f, Option.bind_some, Bool.false_eq_true, if_false]
  cases hA : l.any (fun z => z.f0 == 1 && decide (n ≤ zroom z size)) with
  | true =>
    obtain ⟨i, hi, hf, hp⟩ := fidx_some hA
    simp only [Bool.and_eq_true, beq_iff_eq, decide_eq_true_eq] at hp
    refine ⟨i, hi, .inl ⟨?_, hp.1, ?_⟩⟩
    · rw [hf, if_pos (by omega)]
    · rw [← (hg.zs _ (List.getElem_mem hi)).room h0 h1 (.inr hp.1)]; exact hp.2
  | false =>
    rw [fidx_none hA, if_neg (by omega)]
    have hfull : ∀ z ∈ l, z.f0 = 1 → size - z.f2.length < n := by
      intro z hz he
      have h2 := List.any_eq_false.1 hA z hz
      simp only [Bool.and_eq_true, beq_iff_eq, decide_eq_true_eq, not_and, he, true_implies] at h2
      rw [(hg.zs z hz).room h0 h1 (.inr he)] at h2
      omega
    have hB : l.any (fun z => z.f0 == 0 && decide (n ≤ zroom z size)) = true := by
      have hex : ∃ z ∈ l, z.f0 = 0 := by
        refine Classical.byContradiction fun hno => ?_
        have : used l = l.length := by
          unfold used
          rw [List.countP_eq_length]
          intro z hz
          simp only [bne_iff_ne, ne_eq]
          exact fun he => hno ⟨z, hz, he⟩
        omega
      obtain ⟨z, hz, he⟩ := hex
      refine List.any_eq_true.2 ⟨z, hz, ?_⟩
      have hzg := hg.zs z hz
      have hd : z.f2 = [] := by
        obtain ⟨_, _, h⟩ := hzg
        rcases h with ⟨_, e⟩ | ⟨e, _⟩ | ⟨e, _⟩
        · exact e
        · omega
        · omega
      simp only [Bool.and_eq_true, beq_iff_eq, decide_eq_true_eq]
      refine ⟨he, ?_⟩
      rw [hzg.room h0 h1 (.inl he), hd]
      simp; omega
    obtain ⟨i, hi, hf, hp⟩ := fidx_some hB
    simp only [Bool.and_eq_true, beq_iff_eq, decide_eq_true_eq] at hp
    refine ⟨i, hi, .inr ⟨hp.1, hfull, ?_⟩⟩
    rw [hf, if_neg (by omega), open_any k l (by omega) (by omega)]
    simp only [Option.bind_some]
    have hop := hg.op
    by_cases h3 : dopen l < 3
    · exact .inl ⟨h3, by rw [if_neg (by omega)]⟩
    · have hC : l.any (fun z => z.f0 == 1 && decide (0 ≤ zroom z size)) = true := by
        have hpos : 0 < dopen l := by omega
        unfold dopen at hpos
        obtain ⟨z, hz, he⟩ := List.countP_pos_iff.1 hpos
        refine List.any_eq_true.2 ⟨z, hz, ?_⟩
        have he' : z.f0 = 1 := by simpa using he
        have hzg := hg.zs z hz
        simp only [Bool.and_eq_true, beq_iff_eq, decide_eq_true_eq]
        refine ⟨he', ?_⟩
        rw [hzg.room h0 h1 (.inr he')]
        obtain ⟨_, _, h⟩ := hzg
        rcases h with ⟨e, _⟩ | ⟨_, _, e⟩ | ⟨_, _, e⟩ <;> omega
      obtain ⟨j, hj, hfj, hpj⟩ := fidx_some hC
      simp only [Bool.and_eq_true, beq_iff_eq, decide_eq_true_eq] at hpj
      exact .inr ⟨by omega, j, hj, hpj.1, by rw [if_pos (by omega), hfj]⟩
end Go.Proofs.Ytdgefplbfffenaa.Pure
namespace Go.Proofs.Ytdgefplbfffenaa.Pure
open Go.RowKit Go.Proofs.Ytdgefplbfffenaa.X Go.Proofs.YtdgefplbfffenaaW.PrintWords Go.Proofs.YtdgefplbfffenaaW.PrintLast
theorem rd_at {l : List S52} {i : Nat} (hi : i < l.length) : rd_T52 l (i : Int) = l[i] := by simp [rd_T52, List.getD_eq_getElem?_getD, List.getElem?_eq_getElem hi]
theorem do_append {size : Int} {l : List S52} (hg : Good size l) (h0 : 8192 ≤ size) (h1 : size ≤ 1048576) (i : Nat) (hi : i < l.length) (bs : List Int) (hb : 0 < bs.length) (hr : (bs.length : Int) ≤ size - l[i].f2.length) (he : l[i].f0 = 1 ∨ l[i].f0 = 0 ∧ dopen l < 3) (done : Int) :
    dev_Do.f size l (-1) false done 1 (i : Int) bs = some (size, l.set i (zappended l[i] bs size), -1, false, wrap64 (done + 1), 0) := by
  unfold dev_Do.f
  rw [rd_at hi, if_pos ⟨hg.devOk h0 h1, by omega, by omega⟩, if_pos]
  · rfl
  · refine ⟨rfl, he.imp id (fun h => h.2), hb, ?_, by omega⟩
    rw [(hg.zs _ (List.getElem_mem hi)).room h0 h1 (by rcases he with h | h; exact .inr h; exact .inl h.1)]
    exact hr
theorem do_finish {size : Int} {l : List S52} (hg : Good size l) (h0 : 8192 ≤ size) (h1 : size ≤ 1048576) (j : Nat) (hj : j < l.length) (he : l[j].f0 = 1) (done : Int) :
    dev_Do.f size l (-1) false done 3 (j : Int) [] = some (size, l.set j (zfinished l[j]), -1, false, wrap64 (done + 1), 0) := by
  unfold dev_Do.f
  rw [rd_at hj, if_pos ⟨hg.devOk h0 h1, by omega, by omega⟩, if_neg (by simp), if_pos]
  · rfl
  · exact ⟨rfl, by unfold ztakes; simp [he], by omega⟩
theorem ZG.app {size : Int} {z : S52} (h : ZG size z) (he : z.f0 = 0 ∨ z.f0 = 1) (bs : List Int) (hb : 0 < bs.length) (hr : (bs.length : Int) ≤ size - z.f2.length) : ZG size (zappended z bs size) := by
  obtain ⟨e1, e3, _⟩ := h
  refine ⟨e1, e3, ?_⟩
  have hl : (zappended z bs size).f2.length = z.f2.length + bs.length := by simp [zappended]
  have hf : (zappended z bs size).f0 = zfill ((z.f2.length + bs.length : Nat) : Int) size 1 := rfl
  rw [hl, hf]
  unfold zfill
  rw [if_neg (by omega)]
  by_cases hs : ((z.f2.length + bs.length : Nat) : Int) = size
  · rw [if_pos hs]; exact .inr (.inr ⟨rfl, by omega, by omega⟩)
  · rw [if_neg hs]; exact .inr (.inl ⟨rfl, by omega, by omega⟩)
theorem mem_set' {α : Type} {l : List α} {i : Nat} {x y : α} (h : y ∈ l.set i x) : y = x ∨ y ∈ l := by
  rcases List.mem_or_eq_of_mem_set h with h | h
  · exact .inr h
  · exact .inl h
/-- A record in a zone that is open. -/
theorem good_open {size : Int} {l : List S52} (hg : Good size l) (i : Nat) (hi : i < l.length) (bs : List Int) (hb : 0 < bs.length) (hr : (bs.length : Int) ≤ size - l[i].f2.length) (he : l[i].f0 = 1) :
    Good size (l.set i (zappended l[i] bs size)) ∧ total (l.set i (zappended l[i] bs size)) = total l + bs.length ∧ used (l.set i (zappended l[i] bs size)) = used l := by
  have hz := hg.zs _ (List.getElem_mem hi)
  have hza := hz.app (.inr he) bs hb hr
  have hl : (zappended l[i] bs size).f2.length = l[i].f2.length + bs.length := by simp [zappended]
  have hn0 : (zappended l[i] bs size).f0 ≠ 0 := by
    obtain ⟨_, _, h⟩ := hza
    rcases h with ⟨_, e⟩ | ⟨e, _⟩ | ⟨e, _⟩
    · rw [e, List.length_nil] at hl; omega
    · omega
    · omega
  refine ⟨⟨by rw [List.length_set]; exact hg.len, fun z hm => ?_, ?_, ?_, fun z hm h3 => ?_⟩, ?_, ?_⟩
  · rcases mem_set' hm with rfl | h
    · exact hza
    · exact hg.zs z h
  · have := countP_set' (fun z : S52 => z.f0 == 1) l i hi (zappended l[i] bs size)
    have h1 : (l[i].f0 == 1) = true := by simp [he]
    simp only [h1, if_true] at this
    have h2 : (if ((zappended l[i] bs size).f0 == 1) = true then 1 else 0) ≤ 1 := by split <;> omega
    have := hg.op; unfold dopen at *; omega
  · have hc := countP_set' (fun z : S52 => z.f0 != 0 && decide ((z.f2.length : Int) + 4116 ≤ size)) l i hi (zappended l[i] bs size)
    have h2 : (if ((zappended l[i] bs size).f0 != 0 && decide (((zappended l[i] bs size).f2.length : Int) + 4116 ≤ size)) = true then 1 else 0) ≤ (if (l[i].f0 != 0 && decide ((l[i].f2.length : Int) + 4116 ≤ size)) = true then 1 else 0) := by
      rw [hl]
      by_cases hd : ((l[i].f2.length : Int) + 4116 ≤ size)
      · simp [he, hd]; split <;> omega
      · have : ¬ (((l[i].f2.length + bs.length : Nat) : Int) + 4116 ≤ size) := by omega
        simp only [decide_eq_false this, Bool.and_false]; simp
    have := hg.lo; unfold low at *; omega
  · rcases mem_set' hm with rfl | h
    · obtain ⟨_, _, hh⟩ := hza
      rw [hl]
      have : zfill ((l[i].f2.length + bs.length : Nat) : Int) size 1 = 3 := h3
      unfold zfill at this
      rw [if_neg (by omega)] at this
      split at this
      · omega
      · omega
    · exact hg.f3 z h h3
  · have := total_set l i hi (zappended l[i] bs size); omega
  · have hc := countP_set' (fun z : S52 => z.f0 != 0) l i hi (zappended l[i] bs size)
    have h1 : (l[i].f0 != 0) = true := by simp [he]
    have h2 : ((zappended l[i] bs size).f0 != 0) = true := by simpa using hn0
    simp only [h1, h2, if_true] at hc
    unfold used; omega
/-- A record in an empty zone, where no open zone had room. -/
theorem good_new {size : Int} {l : List S52} (hg : Good size l) (i : Nat) (hi : i < l.length) (bs : List Int) (hb : 0 < bs.length) (hb1 : bs.length ≤ 4116) (hr : (bs.length : Int) ≤ size - l[i].f2.length) (he : l[i].f0 = 0) (hop : dopen l < 3) (hfull : ∀ z ∈ l, z.f0 = 1 → size < (z.f2.length : Int) + 4116) :
    Good size (l.set i (zappended l[i] bs size)) ∧ total (l.set i (zappended l[i] bs size)) = total l + bs.length ∧ used (l.set i (zappended l[i] bs size)) = used l + 1 := by
  have hz := hg.zs _ (List.getElem_mem hi)
  have hza := hz.app (.inl he) bs hb hr
  have hl : (zappended l[i] bs size).f2.length = l[i].f2.length + bs.length := by simp [zappended]
  have hn0 : (zappended l[i] bs size).f0 ≠ 0 := by
    obtain ⟨_, _, h⟩ := hza
    rcases h with ⟨_, e⟩ | ⟨e, _⟩ | ⟨e, _⟩
    · rw [e, List.length_nil] at hl; omega
    · omega
    · omega
  have hlow0 : low size l = 0 := by
    unfold low
    rw [List.countP_eq_zero]
    intro z hm
    simp only [Bool.and_eq_true, bne_iff_ne, ne_eq, decide_eq_true_eq, not_and]
    intro hne
    obtain ⟨_, _, h⟩ := hg.zs z hm
    rcases h with ⟨e, _⟩ | ⟨e, _⟩ | ⟨e, _⟩
    · exact absurd e hne
    · have := hfull z hm e; omega
    · have := hg.f3 z hm e; omega
  refine ⟨⟨by rw [List.length_set]; exact hg.len, fun z hm => ?_, ?_, ?_, fun z hm h3 => ?_⟩, ?_, ?_⟩
  · rcases mem_set' hm with rfl | h
    · exact hza
    · exact hg.zs z h
  · have := countP_set' (fun z : S52 => z.f0 == 1) l i hi (zappended l[i] bs size)
    have h1 : (l[i].f0 == 1) = false := by simp [he]
    simp only [h1, Bool.false_eq_true, if_false] at this
    have h2 : (if ((zappended l[i] bs size).f0 == 1) = true then 1 else 0) ≤ 1 := by split <;> omega
    unfold dopen at *; omega
  · have hc := countP_set' (fun z : S52 => z.f0 != 0 && decide ((z.f2.length : Int) + 4116 ≤ size)) l i hi (zappended l[i] bs size)
    have h2 : (if ((zappended l[i] bs size).f0 != 0 && decide (((zappended l[i] bs size).f2.length : Int) + 4116 ≤ size)) = true then 1 else 0) ≤ 1 := by split <;> omega
    unfold low at *; omega
  · rcases mem_set' hm with rfl | h
    · rw [hl]
      have : zfill ((l[i].f2.length + bs.length : Nat) : Int) size 1 = 3 := h3
      unfold zfill at this
      rw [if_neg (by omega)] at this
      split at this
      · omega
      · omega
    · exact hg.f3 z h h3
  · have := total_set l i hi (zappended l[i] bs size); omega
  · have hc := countP_set' (fun z : S52 => z.f0 != 0) l i hi (zappended l[i] bs size)
    have h1 : (l[i].f0 != 0) = false := by simp [he]
    have h2 : ((zappended l[i] bs size).f0 != 0) = true := by simpa using hn0
    simp only [h1, h2, if_true, Bool.false_eq_true, if_false] at hc
    unfold used; omega
/-- A full open zone is finished. -/
theorem good_finish {size : Int} {l : List S52} (hg : Good size l) (j : Nat) (hj : j < l.length) (he : l[j].f0 = 1) (hfull : ∀ z ∈ l, z.f0 = 1 → size < (z.f2.length : Int) + 4116) :
    Good size (l.set j (zfinished l[j])) ∧ total (l.set j (zfinished l[j])) = total l ∧ used (l.set j (zfinished l[j])) = used l ∧ dopen (l.set j (zfinished l[j])) + 1 = dopen l ∧ ∀ z ∈ l.set j (zfinished l[j]), z.f0 = 1 → size < (z.f2.length : Int) + 4116 := by
  have hz := hg.zs _ (List.getElem_mem hj)
  have hfj := hfull _ (List.getElem_mem hj) he
  have hzf : ZG size (zfinished l[j]) := by
    obtain ⟨e1, e3, h⟩ := hz
    refine ⟨e1, e3, .inr (.inr ⟨rfl, ?_⟩)⟩
    show 0 < l[j].f2.length ∧ (l[j].f2.length : Int) ≤ size
    rcases h with ⟨e, _⟩ | ⟨_, h⟩ | ⟨e, _⟩ <;> omega
  have hd : dopen (l.set j (zfinished l[j])) + 1 = dopen l := by
    have := countP_set' (fun z : S52 => z.f0 == 1) l j hj (zfinished l[j])
    have h1 : (l[j].f0 == 1) = true := by simp [he]
    have h2 : ((zfinished l[j]).f0 == 1) = false := rfl
    simp only [h1, h2, if_true, Bool.false_eq_true, if_false] at this
    unfold dopen; omega
  refine ⟨⟨by rw [List.length_set]; exact hg.len, fun z hm => ?_, by have := hg.op; omega, ?_, fun z hm h3 => ?_⟩, ?_, ?_, hd, fun z hm h1 => ?_⟩
  · rcases mem_set' hm with rfl | h
    · exact hzf
    · exact hg.zs z h
  · have hc := countP_set' (fun z : S52 => z.f0 != 0 && decide ((z.f2.length : Int) + 4116 ≤ size)) l j hj (zfinished l[j])
    have h2 : ((zfinished l[j]).f0 != 0 && decide (((zfinished l[j]).f2.length : Int) + 4116 ≤ size)) = false := by
      have : ¬ (((zfinished l[j]).f2.length : Int) + 4116 ≤ size) := by show ¬ ((l[j].f2.length : Int) + 4116 ≤ size); omega
      simp only [decide_eq_false this, Bool.and_false]
    simp only [h2, Bool.false_eq_true, if_false] at hc
    have := hg.lo; unfold low at *; omega
  · rcases mem_set' hm with rfl | h
    · exact hfj
    · exact hg.f3 z h h3
  · have := total_set l j hj (zfinished l[j])
    have h2 : (zfinished l[j]).f2.length = l[j].f2.length := rfl
    omega
  · have hc := countP_set' (fun z : S52 => z.f0 != 0) l j hj (zfinished l[j])
    have h1 : (l[j].f0 != 0) = true := by simp [he]
    have h2 : ((zfinished l[j]).f0 != 0) = true := rfl
    simp only [h1, h2, if_true] at hc
    unfold used; omega
  · rcases mem_set' hm with rfl | h
    · exact hfj
    · exact hfull z h h1
end Go.Proofs.Ytdgefplbfffenaa.Pure
namespace Go.Proofs.Ytdgefplbfffenaa.Pure
open Go.RowKit Go.Proofs.Ytdgefplbfffenaa.X Go.Proofs.YtdgefplbfffenaaW.PrintWords Go.Proofs.YtdgefplbfffenaaW.PrintLast
theorem w1 : wrap64 (0 + 1) = 1 := by unfold wrap64; omega
theorem l0_one (k : Nat) (c : Cx) (cmd : S56) (size : Int) (l : List S52) (done : Int) (l' : List S52) (d' : Int)
    (h : dev_Do.f size l (-1) false done cmd.f0 cmd.f1 cmd.f2 = some (size, l', -1, false, d', 0)) :
    log_one.l0 (k + 2) 0 c [cmd] 1 0 size l (-1) false done = some (size, l', -1, false, d', c, 0) := by
  have e : rd_T56 [cmd] 0 = cmd := rfl
  simp only [log_one.l0, e, h, w1]
  simp
theorem l0_two (k : Nat) (c : Cx) (c1 c2 : S56) (size : Int) (l : List S52) (done : Int) (l1 l2 : List S52) (d1 d2 : Int)
    (h1 : dev_Do.f size l (-1) false done c1.f0 c1.f1 c1.f2 = some (size, l1, -1, false, d1, 0)) (h2 : dev_Do.f size l1 (-1) false d1 c2.f0 c2.f1 c2.f2 = some (size, l2, -1, false, d2, 0)) :
    log_one.l0 (k + 3) 0 c [c1, c2] 2 0 size l (-1) false done = some (size, l2, -1, false, d2, c, 0) := by
  have e1 : rd_T56 [c1, c2] 0 = c1 := rfl
  have e2 : rd_T56 [c1, c2] 1 = c2 := rfl
  simp only [log_one.l0, e1, h1, w1]
  have w2' : wrap64 2 = 2 := by unfold wrap64; omega
  simp [e2, h2, w2']
/-- A record, appended. -/
theorem one_step {size : Int} {l : List S52} (hg : Good size l) (h0 : 8192 ≤ size) (h1 : size ≤ 1048576) (hu : used l < 60) (k : Nat) (hk : 70 ≤ k) (done : Int) (kind seq : Int) (b : List Int) (g1 : 1 ≤ kind) (g2 : kind ≤ 5) (g3 : 0 ≤ seq) (g4 : seq ≤ 4611686018427387903) (hb : b.length ≤ 4096) :
    ∃ l' d' c, log_one.f k size l (-1) false done kind seq b = some (size, l', -1, false, d', c, 0) ∧ Good size l' ∧ total l' = total l + (b.length + 20) ∧ used l' ≤ used l + 1 := by
  obtain ⟨bs, hw, hbl⟩ := write_ok k (by omega) kind seq b g1 g2 g3 g4 hb
  obtain ⟨k, rfl⟩ : ∃ j, k = j + 3 := ⟨k - 3, by omega⟩
  have hlen := hg.len
  unfold log_one.f
  rw [hw]
  simp only [Option.bind_some, if_true]
  obtain ⟨i, hi, ⟨hp, he, hr⟩ | ⟨he, hfull, ⟨hop, hp⟩ | ⟨hop, j, hj, hej, hp⟩⟩⟩ := place hg h0 h1 hu (bs.length : Int) (by omega) (by omega) (k + 3) (by omega) done
  · have hd := do_append hg h0 h1 i hi bs (by omega) hr (.inl he) done
    obtain ⟨q1, q2, q3⟩ := good_open hg i hi bs (by omega) hr he
    refine ⟨_, wrap64 (done + 1), (floatOfInt .f64 (i : Int), floatOfInt .f64 ((rd_T52 l (i : Int)).f2.length : Int)), ?_, q1, by omega, by omega⟩
    rw [hp]
    simp only [Option.bind_some, if_true]
    rw [if_pos (by omega), if_pos (by omega), if_pos (by simp)]
    exact l0_one (k + 1) _ ⟨1, (i : Int), bs⟩ size l done _ _ hd
  · have hf : l[i].f2 = [] := by
      obtain ⟨_, _, h⟩ := hg.zs _ (List.getElem_mem hi)
      rcases h with ⟨_, e⟩ | ⟨e, _⟩ | ⟨e, _⟩
      · exact e
      · omega
      · omega
    have hr : (bs.length : Int) ≤ size - l[i].f2.length := by rw [hf, List.length_nil]; omega
    have hd := do_append hg h0 h1 i hi bs (by omega) hr (.inr ⟨he, hop⟩) done
    obtain ⟨q1, q2, q3⟩ := good_new hg i hi bs (by omega) (by omega) hr he hop (fun z hz e => by have := hfull z hz e; omega)
    refine ⟨_, wrap64 (done + 1), (floatOfInt .f64 (i : Int), floatOfInt .f64 ((rd_T52 l (i : Int)).f2.length : Int)), ?_, q1, by omega, by omega⟩
    rw [hp]
    simp only [Option.bind_some, if_true]
    rw [if_pos (by omega), if_pos (by omega), if_pos (by simp)]
    exact l0_one (k + 1) _ ⟨1, (i : Int), bs⟩ size l done _ _ hd
  · have hff : ∀ z ∈ l, z.f0 = 1 → size < (z.f2.length : Int) + 4116 := fun z hz e => by have := hfull z hz e; omega
    have hd1 := do_finish hg h0 h1 j hj hej done
    obtain ⟨p1, p2, p3, p4, p5⟩ := good_finish hg j hj hej hff
    have hij : j ≠ i := by intro e; subst e; omega
    have hi2 : i < (l.set j (zfinished l[j])).length := by rw [List.length_set]; exact hi
    have hgi : (l.set j (zfinished l[j]))[i] = l[i] := List.getElem_set_ne hij _
    have hf : l[i].f2 = [] := by
      obtain ⟨_, _, h⟩ := hg.zs _ (List.getElem_mem hi)
      rcases h with ⟨_, e⟩ | ⟨e, _⟩ | ⟨e, _⟩
      · exact e
      · omega
      · omega
    have hr : (bs.length : Int) ≤ size - (l.set j (zfinished l[j]))[i].f2.length := by rw [hgi, hf, List.length_nil]; omega
    have he2 : (l.set j (zfinished l[j]))[i].f0 = 0 := by rw [hgi]; exact he
    have hd2 := do_append p1 h0 h1 i hi2 bs (by omega) hr (.inr ⟨he2, by omega⟩) (wrap64 (done + 1))
    obtain ⟨q1, q2, q3⟩ := good_new p1 i hi2 bs (by omega) (by omega) hr he2 (by omega) p5
    refine ⟨_, wrap64 (wrap64 (done + 1) + 1), (floatOfInt .f64 (i : Int), floatOfInt .f64 ((rd_T52 l (i : Int)).f2.length : Int)), ?_, q1, by omega, by omega⟩
    rw [hp]
    simp only [Option.bind_some, if_true]
    rw [if_pos (by omega), if_pos (by omega), if_pos (by simp)]
    exact l0_two k _ ⟨3, (j : Int), []⟩ ⟨1, (i : Int), bs⟩ size l done _ _ _ _ hd1 hd2
end Go.Proofs.Ytdgefplbfffenaa.Pure
namespace Go.Proofs.Ytdgefplbfffenaa.Pure
open Go.RowKit Go.Proofs.Ytdgefplbfffenaa.X Go.Proofs.YtdgefplbfffenaaW.PrintWords Go.Proofs.YtdgefplbfffenaaW.PrintLast
theorem Good.data {size : Int} {l : List S52} (h : Good size l) (h0 : 8192 ≤ size) (h1 : size ≤ 1048576) : (l.all fun z => decide (z.f2.length < 140737488355328)) = true := by
  have := h.devOk h0 h1
  unfold X.devOk at this
  simp only [Bool.and_eq_true] at this
  exact this.2
theorem append_one {size : Int} {l : List S52} (hg : Good size l) (h0 : 8192 ≤ size) (h1 : size ≤ 1048576) (hu : used l < 60) (k : Nat) (hk : 72 ≤ k) (done : Int) (kind seq : Int) (b : List Int) (g1 : 1 ≤ kind) (g2 : kind ≤ 5) (g3 : 0 ≤ seq) (g4 : seq ≤ 4611686018427387903) (hb : b.length ≤ 4096) :
    ∃ l' d' c, log_Append.f k size l (-1) false done [⟨kind, seq, b⟩] = some (size, l', -1, false, d', c, 0) ∧ Good size l' ∧ total l' = total l + (b.length + 20) ∧ used l' ≤ used l + 1 := by
  obtain ⟨k, rfl⟩ : ∃ j, k = j + 2 := ⟨k - 2, by omega⟩
  obtain ⟨l', d', c, h, q⟩ := one_step hg h0 h1 hu (k + 1) (by omega) done kind seq b g1 g2 g3 g4 hb
  refine ⟨l', d', [c], ?_, q⟩
  have hlen := hg.len
  have hL : dev_Limit.f size l (-1) false done (-1) = some (size, l, -1, false, done) := by
    unfold dev_Limit.f
    rw [if_pos ⟨⟨by omega, by omega⟩, hg.data h0 h1⟩]
  have e : rd_T36 [(⟨kind, seq, b⟩ : S36)] 0 = ⟨kind, seq, b⟩ := rfl
  unfold log_Append.f
  rw [hL]
  simp only [Option.bind_some, log_Append.l0, e, h, w1, List.length_singleton]
  simp
end Go.Proofs.Ytdgefplbfffenaa.Pure
namespace Go.Proofs.Ytdgefplbfffenaa.Pure
open Go.RowKit Go.Proofs.Ytdgefplbfffenaa.X Go.Proofs.YtdgefplbfffenaaW.PrintWords Go.Proofs.YtdgefplbfffenaaW.PrintLast
theorem empty_l0 (l : List S52) (hlen : l.length ≤ 9223372036854775806) : ∀ (m k i : Nat) (x : Int), i + m = l.length → m < k → 0 ≤ x → x ≤ i → log_Empty.l0 k x l (l.length : Int) i = some (x + ((l.drop i).countP fun z => z.f0 == 0 : Nat)) := by
  intro m
  induction m with
  | zero =>
    intro k i x hi hk h0 hx
    obtain ⟨k, rfl⟩ : ∃ j, k = j + 1 := ⟨k - 1, by omega⟩
    simp only [log_Empty.l0]
    rw [if_neg (by omega), List.drop_eq_nil_of_le (by omega)]
    simp
  | succ m ih =>
    intro k i x hi hk h0 hx
    obtain ⟨k, rfl⟩ : ∃ j, k = j + 1 := ⟨k - 1, by omega⟩
    simp only [log_Empty.l0]
    have hlt : i < l.length := by omega
    rw [if_pos (by omega), if_pos (by omega), if_pos (by omega)]
    have e1 : wrap64 ((i : Int) + 1) = ((i + 1 : Nat) : Int) := by unfold wrap64; omega
    have e2 : rd_T52 l (i : Int) = l[i] := rd_at hlt
    rw [List.drop_eq_getElem_cons hlt, List.countP_cons, e1, e2]
    by_cases hz : l[i].f0 = 0
    · have e3 : wrap64 (x + 1) = x + 1 := by unfold wrap64; omega
      rw [if_pos hz, e3, ih k (i + 1) (x + 1) (by omega) (by omega) (by omega) (by omega)]
      simp [hz]; omega
    · rw [if_neg hz, ih k (i + 1) x (by omega) (by omega) h0 (by omega)]
      simp [hz]
theorem split_count : ∀ l : List S52, (l.countP fun z => z.f0 == 0) + (l.countP fun z => z.f0 != 0) = l.length
  | [] => rfl
  | z :: l => by
    have := split_count l
    simp only [List.countP_cons, List.length_cons]
    by_cases h : z.f0 = 0 <;> simp [h] <;> omega
theorem empty_ok {size : Int} {l : List S52} (hg : Good size l) (k : Nat) (hk : 61 ≤ k) (a b : Int) (c : Bool) (d : Int) : log_Empty.f k a l b c d = some (60 - (used l : Int)) := by
  have hlen := hg.len
  have h := empty_l0 l (by omega) 60 k 0 0 (by omega) (by omega) (by omega) (by omega)
  unfold log_Empty.f
  rw [show ((0 : Nat) : Int) = 0 from rfl] at h
  rw [h]
  have hc := split_count l
  have hu : used l = l.countP fun z => z.f0 != 0 := rfl
  simp only [List.drop_zero, Int.zero_add]
  congr 1
  omega
theorem takes_ok (S size : Int) (hS : 0 ≤ S) (hS1 : S ≤ 1000000) (h0 : 8192 ≤ size) (h1 : size ≤ 1048576) : space_Takes.f S size = some (S / (size - 4116) + 1) := by
  have hm : space_may.f size = some true := by
    unfold space_may.f space_held_int.f
    have : mn (mx size 8192) 1048576 = size := by unfold mn mx; (repeat' split) <;> omega
    simp [this]
  have hr : record_Size.f 4096 = some 4116 := by
    unfold record_Size.f
    have : wrap64 (wrap64 4112 + 4) = 4116 := by unfold wrap64; omega
    simp [this]
  unfold space_Takes.f
  rw [hm]
  simp only [Option.bind_some, if_true, hr]
  have e1 : wrap64 (size - 4116) = size - 4116 := by unfold wrap64; omega
  have e2 : mx S 0 = S := by unfold mx; (repeat' split) <;> omega
  have hq0 : 0 ≤ S / (size - 4116) := Int.ediv_nonneg hS (by omega)
  have hq1 : S / (size - 4116) ≤ S := Int.ediv_le_self _ hS
  have e3 : wrap64 (S / (size - 4116)) = S / (size - 4116) := by unfold wrap64; omega
  have e4 : wrap64 (S / (size - 4116) + 1) = S / (size - 4116) + 1 := by unfold wrap64; omega
  rw [e1, if_neg (by omega), e2, Int.tdiv_eq_ediv_of_nonneg hS, e3, e4]
theorem fin_ok {size : Int} {l : List S52} (hg : Good size l) (h0 : 8192 ≤ size) (h1 : size ≤ 1048576) (hS : total l ≤ 300000) : 60 - (60 - (used l : Int)) ≤ (total l : Int) / (size - 4116) + 1 := by
  have h := hg.holds h0
  have : (used l : Int) - 1 ≤ (total l : Int) / (size - 4116) := (Int.le_ediv_iff_mul_le (by omega)).2 h
  omega
end Go.Proofs.Ytdgefplbfffenaa.Pure
namespace Go.Proofs.Ytdgefplbfffenaa.Pure
open Go.RowKit Go.Proofs.Ytdgefplbfffenaa.X Go.Proofs.YtdgefplbfffenaaW.PrintWords Go.Proofs.YtdgefplbfffenaaW.PrintLast
theorem part_ok (x : Int) (h0 : 0 ≤ x) (h1 : x < 65536) : ∃ y, Int.tmod (wrap64 x) 4097 = y ∧ 0 ≤ y ∧ y < 4097 := by
  have hw : wrap64 x = x := by unfold wrap64; omega
  refine ⟨x % 4097, ?_, Int.emod_nonneg _ (by decide), Int.emod_lt_of_pos _ (by decide)⟩
  rw [hw]; exact Int.tmod_eq_emod_of_nonneg h0
theorem zeros_ok (y : Int) (h0 : 0 ≤ y) (h1 : y < 4097) : ∃ b : List Int, List.replicate y.toNat (0 : Int) = b ∧ b.length = y.toNat ∧ b.length ≤ 4096 :=
  ⟨_, rfl, List.length_replicate, by rw [List.length_replicate]; omega⟩
theorem sum_ok (l l' : List S52) (y : Int) (b : List Int) (h0 : 0 ≤ y) (h1 : y < 4097) (hT : (total l : Int) ≤ 300000) (hbl : b.length = y.toNat) (htl : total l' = total l + (b.length + 20)) : wrap64 (wrap64 ((total l : Int) + y) + 20) = (total l' : Int) := by
  have e1 : wrap64 ((total l : Int) + y) = (total l : Int) + y := by unfold wrap64; omega
  rw [e1]
  have e2 : wrap64 ((total l : Int) + y + 20) = (total l : Int) + y + 20 := by unfold wrap64; omega
  rw [e2, htl]; omega
theorem law_l0 (size : Int) (h0 : 8192 ≤ size) (h1 : size ≤ 1048576) (xs : List Int) (hx : ∀ x ∈ xs, 0 ≤ x ∧ x < 65536) (hlen : xs.length ≤ 60) : ∀ (m k i : Nat) (l : List S52) (done : Int), i + m = xs.length → 80 + m ≤ k → Good size l → used l ≤ i → total l ≤ i * 4116 →
    waggonerlaw13_SpaceHolds.l0 k xs true size 0 (total l : Int) (i : Int) size l (-1) false done = some true := by
  intro m
  induction m with
  | zero =>
    intro k i l done hi hk hg hu ht
    obtain ⟨k, rfl⟩ : ∃ j, k = j + 1 := ⟨k - 1, by omega⟩
    have hT : total l ≤ 300000 := by omega
    have hf := fin_ok hg h0 h1 hT
    have hw : wrap64 (60 - (60 - (used l : Int))) = 60 - (60 - (used l : Int)) := by unfold wrap64; omega
    simp only [waggonerlaw13_SpaceHolds.l0]
    rw [if_neg (by omega), empty_ok hg k (by omega), takes_ok (total l : Int) size (by omega) (by omega) h0 h1]
    simp only [Option.bind_some, if_true, hw, decide_eq_true hf]
    split
    · split <;> rfl
    · rfl
  | succ m ih =>
    intro k i l done hi hk hg hu ht
    obtain ⟨k, rfl⟩ : ∃ j, k = j + 1 := ⟨k - 1, by omega⟩
    have hlt : i < xs.length := by omega
    have hu60 : used l < 60 := by omega
    have hk72 : 72 ≤ k := by omega
    have hseq : (i : Int) ≤ 4611686018427387903 := by omega
    have hT : (total l : Int) ≤ 300000 := by omega
    have hc1 : (i : Int) < (xs.length : Int) := by omega
    have hc0 : (0 : Int) ≤ (i : Int) := by omega
    have hi1 : wrap64 ((i : Int) + 1) = ((i + 1 : Nat) : Int) := by unfold wrap64; omega
    have hr : rd xs (i : Int) = xs[i] := by simp [rd, List.getD_eq_getElem?_getD, List.getElem?_eq_getElem hlt]
    obtain ⟨hx0, hx1⟩ := hx _ (List.getElem_mem hlt)
    obtain ⟨y, hy, hy0, hy1⟩ := part_ok xs[i] hx0 hx1
    obtain ⟨b, hb, hbl, hb4⟩ := zeros_ok y hy0 hy1
    obtain ⟨l', d', c, ha, hg', htl, hul⟩ := append_one hg h0 h1 hu60 k hk72 done 1 (i : Int) b (by decide) (by decide) hc0 hseq hb4
    have hs := sum_ok l l' y b hy0 hy1 hT hbl htl
    have hbig : y.toNat ≤ 281474976710656 := by omega
    simp only [waggonerlaw13_SpaceHolds.l0, hr, hy, if_pos hc1, if_pos hc0, if_pos hy0, if_pos hbig, hb, ha]
    simp only [Option.bind_some, if_true, hs, hi1]
    exact ih k (i + 1) l' d' (by omega) (by omega) hg' (by omega) (by rw [htl]; omega)
theorem awake13 : waggonerlaw13_awake.f = some true := by decide +kernel
theorem new_ok (size : Int) (h0 : 8192 ≤ size) (h1 : size ≤ 1048576) : dev_New.f 60 size = some (size, List.replicate 60 z52, -1, false, 0, 0) := by
  unfold dev_New.f
  rw [if_neg (by decide), if_neg (by decide), if_neg (by omega), if_neg (by omega)]
  rfl
theorem good_new0 (size : Int) : Good size (List.replicate 60 z52) where
  len := List.length_replicate
  zs := fun z hz => by obtain ⟨_, rfl⟩ := List.mem_replicate.1 hz; exact ⟨rfl, rfl, .inl ⟨rfl, rfl⟩⟩
  op := by decide
  lo := by
    unfold low
    have : (List.replicate 60 z52).countP (fun z => z.f0 != 0 && decide ((z.f2.length : Int) + 4116 ≤ size)) = 0 := List.countP_eq_zero.2 fun z hz => by obtain ⟨_, rfl⟩ := List.mem_replicate.1 hz; simp [z52]
    omega
  f3 := fun z hz => by obtain ⟨_, rfl⟩ := List.mem_replicate.1 hz; intro h; exact absurd h (by decide)
theorem u16_ok (x : Int) (h : (Lit.int .u16 x).wf = true) : 0 ≤ x ∧ x < 65536 := by
  simp [Lit.wf] at h
  have h1 : IntKind.u16.min = 0 := by decide
  have h2 : IntKind.u16.max = 65535 := by decide
  omega
theorem size_ok (x : Int) (h0 : 0 ≤ x) (h1 : x < 65536) : ∃ s, wrap64 (8192 + Int.tmod (wrap64 x) 8000) = s ∧ 8192 ≤ s ∧ s ≤ 1048576 := by
  have hw : wrap64 x = x := by unfold wrap64; omega
  rw [hw, Int.tmod_eq_emod_of_nonneg h0]
  have := Int.emod_nonneg x (show (8000 : Int) ≠ 0 by decide)
  have := Int.emod_lt_of_pos x (show (0 : Int) < 8000 by decide)
  exact ⟨_, rfl, by unfold wrap64; omega, by unfold wrap64; omega⟩
theorem SpaceHolds : waggonerlaw13_SpaceHolds.Pure := by
  intro l0 a1 hl hl2 hx ha
  have hx' : ∀ x ∈ l0, 0 ≤ x ∧ x < 65536 := fun x hm => u16_ok x (hx x hm)
  obtain ⟨s, hs, hs0, hs1⟩ := size_ok a1 (u16_ok a1 ha).1 (u16_ok a1 ha).2
  refine ⟨200, ?_⟩
  unfold waggonerlaw13_SpaceHolds.f
  rw [awake13, hs]
  simp only [Option.bind_some]
  by_cases h60 : (l0.length : Int) > 60
  · rw [if_pos h60]
  · rw [if_neg h60, new_ok s hs0 hs1]
    simp only [Option.bind_some]
    have h := law_l0 s hs0 hs1 l0 hx' (by omega) l0.length 200 0 (List.replicate 60 z52) 0 (by omega) (by omega) (good_new0 s) (by decide) (by decide)
    exact h
end Go.Proofs.Ytdgefplbfffenaa.Pure
namespace Go.Proofs.Ytdgefplbfffenaa.spaceHolds
open Go.ChangeShapes Go.WideShapes Go.ChangeAt Go.RowKit
open Go.ChangeMaps (open_string shut_string)
set_option linter.unusedVariables false
theorem own : ownKnob Try.prog.godebug = none := by kernel_rfl
theorem laidOut : laidOutB Try.prog = true := by kernel_rfl
def IsRow (k : IntKind) (w : World) (a : Option Addr) (len cap : Nat) (zs : List Int) : Prop :=
  (a = none ∧ len = 0 ∧ cap = 0 ∧ zs = []) ∨
  ∃ x, a = some x ∧ len ≤ cap ∧ cap ≤ maxLen ∧ zs.length = cap ∧ (∀ i, i < zs.length → w.cell? (x.add i) = some (.int k (zs.getD i 0))) ∧ ∀ n ∈ zs, (Lit.int k n).wf = true
set_option maxRecDepth 100000 in
theorem lifted (os : Os) (started : os.Started) (H : Type) (enc : TypeId × Value → H) :
    ReturnsInHanded {} Try.checked os 3 .any (Rows.spaceHoldsSpec.pre6 enc Try.prog Try.f3 Rows.spaceHoldsRow.domain false) (Rows.spaceHoldsSpec.post enc Try.prog Try.f3 false true false false) := by
  refine returnsInHanded_of_change_sized (C := Try.checked) own started (by kernel_rfl) Try.func3
    (ChangeSpec.witness6 (enc := enc) (C := Try.checked) false ⟨#[], #[.slice none 0 0, .int .u16 0], []⟩ 8 (by kernel_rfl) (by kernel_rfl) (by kernel_rfl) (by kernel_rfl)) ?_
  intro W base args ds gs before hval0 hW hcnd hsz0 _
  have hsz : (DataW.weightsEach Try.prog (Try.f3.params.toList ++ Rows.spaceHoldsSpec.plain.varTypes Try.prog) (ds ++ gs)).all (· ≤ reachBytes) = true := hsz0
  have hval : ∀ (j : Nat) t v, Try.f3.params[j]? = some t → args[j]? = some v → Value.okWide Try.prog W .any base t v := hval0
  have hW' := hW
  obtain ⟨p, q, hA0, hV, rfl, hfz, hnd⟩ := hW
  have hA : DataW.TrodAll enc Try.prog W 0 (fun _ => true) true Try.f3.params.toList args.toList ds p := hA0
  rw [Try.params3] at hA hval hsz
  obtain ⟨v0, vs0, d0, ds0, p0, q0, hargs, rfl, rfl, h0, r0⟩ := trodAll_cons hA
  obtain ⟨v1, vs1, d1, ds1, p1, q1, rfl, rfl, rfl, h1, r1⟩ := trodAll_cons r0
  obtain ⟨rfl, rfl, rfl⟩ := trodAll_nil r1
  obtain rfl : args = #[v0, v1] := by cases args; simp_all
  obtain ⟨rfl, rfl⟩ := trodVars_none hV
  obtain ⟨a0, len0, cap0, rfl⟩ := okWide_slice Try.underlying22 (hval 0 22 v0 rfl rfl)
  have k0 := h0
  have lt0 : ∀ x ∈ p0, x.block < W.heap.size := by obtain ⟨m, hm⟩ := k0; exact DataW.trod_lt m _ _ _ hm
  obtain ⟨z0, w0⟩ : ∃ zs, IsRow .u16 W a0 len0 cap0 zs := by
    obtain ⟨fuel, hf⟩ := h0
    rcases open_ints Try.underlying22 Try.underlying23 (by kernel_rfl) hf with ⟨hcs, _⟩ | ⟨x, l, c, zs, hcs, _, hl, hm, hz, _, hcell, hwz⟩
    · simp [Value.cells] at hcs
      obtain ⟨rfl, rfl, rfl⟩ := hcs
      exact ⟨[], .inl ⟨rfl, rfl, rfl, rfl⟩⟩
    · simp [Value.cells] at hcs
      obtain ⟨rfl, rfl, rfl⟩ := hcs
      exact ⟨zs, .inr ⟨_, rfl, hl, hm, by simpa using hz, hcell, hwz⟩⟩
  have y0 : len0 * 2 ≤ 140737488351232 := Go.Proofs.YtdgefplbfffenaaW.PrintWords.sized_ints hsz (j := 0) (t := 22) rfl rfl Try.underlying22 Try.underlying23 (by kernel_rfl) (by kernel_rfl) h0
  obtain ⟨a1, rfl, rfl, rfl, w1⟩ := open_int Try.underlying23 (hval 1 23 v1 rfl rfl) h1
  clear hA0 hval0 hsz0 hsz
  refine (X.waggonerlaw13_SpaceHolds.walk Pure.SpaceHolds a0 len0 cap0 z0 a1 W w0 y0 w1).mono fun e W' ⟨he, bel⟩ => ?_
  subst he
  exact ⟨_, rfl, _, _, _, [], _, [], hW', trodAll_mk1 (shut_bool Try.underlying4 _), (trodAll_cons_mk (Below.trod laidOut (by kernel_rfl) (of_decide_eq_true (by kernel_rfl)) k0 bel lt0) (trodAll_cons_mk (shut_int Try.underlying23 w1) trodAll_mk0)), rfl, bel.frame _, fun h => by cases h⟩
theorem over : Rows.spaceHoldsRow.holds Try.pinned (OpenSpec.ofChange Rows.spaceHoldsSpec) :=
  OpenClaim.holds_of_wide 3 Try.f3 rfl rfl rfl rfl rfl rfl rfl ⟨rfl, rfl, rfl, rfl, rfl⟩ rfl rfl rfl rfl rfl (by kernel_rfl) Try.func3 (by kernel_rfl)
    (of_decide_eq_true (by kernel_rfl)) (by unfold Func.isWrapper; first | (rw [if_pos (by decide +kernel)]; kernel_rfl) | (rw [if_neg (by decide +kernel)]; exact ⟨rfl, rfl⟩))
    (fun os started H enc _ => lifted os started H enc)
theorem proved : Rows.SpaceHoldsSaid := over
#print axioms proved
end Go.Proofs.Ytdgefplbfffenaa.spaceHolds
namespace Go.Proofs.Ytdgefplbfffenaa
/-- The row, under a short name, for the claim. -/
theorem spaceHolds_holds : Rows.SpaceHoldsSaid := spaceHolds.proved
end Go.Proofs.Ytdgefplbfffenaa
