/- Records of at most 4096 bytes each, at most sixty, appended one by one to a new device of sixty zones of at least 8192 bytes, take no more zones than space.Takes tells of their bytes together: the statement SpaceHolds, for every list of sizes and every size of a zone that it lets in. (This text: part 1 of 4.) -/
import Derived.Test.YtdgefplbfffenaaProg
import Derived.Below
import Derived.Deep.Draws
import Derived.Deep.AppendLies
import Derived.Maps.AppendAt
import Derived.OwnWalk
import Derived.Laws.BytesArg
import Derived.Laws.MakeOwn
import Derived.Laws.OwnMore
import Derived.Deep.OwnRows
import Derived.Tactics
import Derived.Lib.ConvBytes
import Derived.Laws.Slices
import Derived.WalkKit
import Derived.KernelRfl
import Derived.RowKit3
import Derived.Deep.LoopGhost
import Derived.Deep.QuietTactic
import Derived.BigQuiet
import Derived.WideLaws
import Derived.Deep.DeepCutAuto
import Derived.Deep.CutBlock
import Derived.Deep.RegionHeld3
import Derived.Laws.Rows
import Derived.Lib.AppendStr
import Derived.ArgAppend
import Derived.Laws.IdiomCopy
import Derived.OrdersHeld
import Derived.Laws.BitsLemmas
import Derived.RowKit
import Derived.Laws.Cover2
import Derived.Laws.Cover3
import Derived.Test.YtdgefplbfffenaaWWords
import Derived.Test.YtdgefplbfffenaaWLast
import Derived.Test.YtdgefplbfffenaaWTab
import Derived.Test.YtdgefplbfffenaaWQPut
import Derived.Test.YtdgefplbfffenaaWApart
import Derived.Test.YtdgefplbfffenaaWArr
import Derived.Test.YtdgefplbfffenaaWZeros
import Derived.Test.YtdgefplbfffenaaWFoot
import Derived.Test.YtdgefplbfffenaaWKept
import Derived.Test.YtdgefplbfffenaaWShare
import Derived.Test.YtdgefplbfffenaaWN
import Derived.Test.YtdgefplbfffenaaWRepsOne
import Derived.Test.YtdgefplbfffenaaWGuard
import Derived.Test.YtdgefplbfffenaaWNEv
import Derived.Test.YtdgefplbfffenaaWMore
import Derived.WalkLawsBesides
import Derived.WalkSpells
import Derived.Shelf.Abstract
set_option linter.unusedVariables false
set_option linter.unusedSimpArgs false
namespace Go.Proofs.Ytdgefplbfffenaa.X
open Go.RowKit Go.Proofs.YtdgefplbfffenaaW.PrintWords Go.Proofs.YtdgefplbfffenaaW.PrintLast Go.Proofs.YtdgefplbfffenaaW.PrintMore
attribute [local go_sem] max2_int min2_int max_two min_two max_three min_three max_four min_four   -- for this text's walks alone
set_option linter.unusedVariables false
set_option linter.unusedSimpArgs false
abbrev Cx := Nat × Nat
abbrev encCx (c : Cx) : Value := .complex .f64 c.1 c.2
def kCx : Kd Cx := Kd.scalar encCx (fun _ => rfl)
theorem info5 : (Try.prog.info? 5).map (fun i => (i.zero, i.size, i.bytes)) = some (some (.int .u8 0), 1, 1) := by kernel_rfl
theorem info52 : (Try.prog.info? 52).map (fun i => (i.zero, i.size, i.bytes)) = some (some (.agg #[(.int .i64 0), (.int .i64 0), (.slice none 0 0), (.int .i64 0)]), 4, 48) := by kernel_rfl
theorem info56 : (Try.prog.info? 56).map (fun i => (i.zero, i.size, i.bytes)) = some (some (.agg #[(.int .i64 0), (.int .i64 0), (.slice none 0 0)]), 3, 40) := by kernel_rfl
theorem info58 : (Try.prog.info? 58).map (fun i => (i.zero, i.size, i.bytes)) = some (some (.complex .f64 0 0), 1, 16) := by kernel_rfl
-- the values' own types
structure S52 where
 f0 : Int
 f1 : Int
 f2 : (List Int)
 f3 : Int
def z52 : S52 := ⟨(0 : Int), (0 : Int), ([] : List Int), (0 : Int)⟩
def k52 : Kd S52 := Kd.iso (Kd.pair (Kd.int .i64) (Kd.pair (Kd.int .i64) (Kd.pair (Kd.slice 5 (Kd.int .u8)) (Kd.int .i64)))) (fun x : S52 => (x.f0, x.f1, x.f2, x.f3))
theorem k52_open {w : World} {x : S52} {cs : List Value} (h : k52.K w x cs) : ∃ A2 c2, cs = [.int .i64 x.f0, .int .i64 x.f1, .slice A2 x.f2.length c2, .int .i64 x.f3] ∧ x.f2.length ≤ c2 ∧ (Kd.int .u8).C w A2 x.f2.length x.f2 := by
 obtain ⟨_, _, rfl, rfl, ⟨_, _, rfl, rfl, ⟨_, _, rfl, ⟨A2, c2, rfl, l2, g2⟩, rfl⟩⟩⟩ := h
 exact ⟨A2, c2, rfl, l2, g2⟩
theorem k52_mk (w : World) (x : S52) {A2 : Option Addr} {c2 : Nat} (l2 : x.f2.length ≤ c2) (g2 : (Kd.int .u8).C w A2 x.f2.length x.f2) : k52.K w x [.int .i64 x.f0, .int .i64 x.f1, .slice A2 x.f2.length c2, .int .i64 x.f3] := ⟨[.int .i64 x.f0], [.int .i64 x.f1, .slice A2 x.f2.length c2, .int .i64 x.f3], rfl, rfl, ⟨[.int .i64 x.f1], [.slice A2 x.f2.length c2, .int .i64 x.f3], rfl, rfl, ⟨[.slice A2 x.f2.length c2], [.int .i64 x.f3], rfl, ⟨A2, c2, rfl, l2, g2⟩, rfl⟩⟩⟩
theorem k52_mkM (w : World) (base : Nat) (ok : Nat → Prop) (x : S52) {v2 : Value} (g2 : (Kd.int .u8).R 5 w base ok v2 x.f2) : k52.M w base ok x [.int .i64 x.f0, .int .i64 x.f1, v2, .int .i64 x.f3] := ⟨[.int .i64 x.f0], [.int .i64 x.f1, v2, .int .i64 x.f3], rfl, rfl, ⟨[.int .i64 x.f1], [v2, .int .i64 x.f3], rfl, rfl, ⟨[v2], [.int .i64 x.f3], rfl, ⟨v2, rfl, g2⟩, rfl⟩⟩⟩
theorem k52_openF {W : World} {ok : Nat → Prop} {x : S52} {cs : List Value} (h : Kd.FK k52 W ok x cs) : ∃ A2 c2, cs = [.int .i64 x.f0, .int .i64 x.f1, .slice A2 x.f2.length c2, .int .i64 x.f3] ∧ x.f2.length ≤ c2 ∧ Kd.F (Kd.int .u8) W ok A2 x.f2.length x.f2 := by
 obtain ⟨A2, c2, rfl, l2, _⟩ := k52_open (Kd.FK_now h)
 exact ⟨A2, c2, rfl, l2, (fun W' hW => by obtain ⟨A2_, c2_, he, l2_, g2_⟩ := k52_open (h W' hW); injection (Option.some.inj (show some (Value.slice A2 x.f2.length c2) = some (Value.slice A2_ x.f2.length c2_) from congrArg (fun l => l[2]?) he)) with ha_ _ _; rw [ha_]; exact g2_)⟩
def rd_T52 (xs : List S52) (i : Int) : S52 := xs.getD i.toNat z52
theorem at_T52 {w : World} {A : Option Addr} {n : Nat} {xs : List S52} (h : Kd.C k52 w A n xs) (i : Int) (h0 : 0 ≤ i) (h1 : i < n) : ∃ ad A2 c2, A = some ad ∧ w.cell? (ad.add (i.toNat * 4)) = some (.int .i64 (rd_T52 xs i).f0) ∧ w.cell? ⟨(ad.add (i.toNat * 4)).block, (ad.add (i.toNat * 4)).off + 1, none⟩ = some (.int .i64 (rd_T52 xs i).f1) ∧ w.cell? ⟨(ad.add (i.toNat * 4)).block, (ad.add (i.toNat * 4)).off + 2, none⟩ = some (.slice A2 (rd_T52 xs i).f2.length c2) ∧ w.cell? ⟨(ad.add (i.toNat * 4)).block, (ad.add (i.toNat * 4)).off + 3, none⟩ = some (.int .i64 (rd_T52 xs i).f3) ∧ (rd_T52 xs i).f2.length ≤ c2 ∧ (Kd.int .u8).C w A2 (rd_T52 xs i).f2.length (rd_T52 xs i).f2 := by
 obtain ⟨ad, c, e, _, hK, hc0⟩ := Kd.C_get h z52 i h0 h1
 have hc : ∀ j u, c[j]? = some u → w.cell? (ad.add (i.toNat * 4 + j)) = some u := hc0
 obtain ⟨A2, c2, rfl, l2, g2⟩ := k52_open hK
 exact ⟨ad, A2, c2, e, hc 0 _ rfl, by rw [← add_field _ _ 1 (by omega)]; exact hc 1 _ rfl, by rw [← add_field _ _ 2 (by omega)]; exact hc 2 _ rfl, by rw [← add_field _ _ 3 (by omega)]; exact hc 3 _ rfl, l2, g2⟩
structure S56 where
 f0 : Int
 f1 : Int
 f2 : (List Int)
def z56 : S56 := ⟨(0 : Int), (0 : Int), ([] : List Int)⟩
def k56 : Kd S56 := Kd.iso (Kd.pair (Kd.int .i64) (Kd.pair (Kd.int .i64) (Kd.slice 5 (Kd.int .u8)))) (fun x : S56 => (x.f0, x.f1, x.f2))
theorem k56_open {w : World} {x : S56} {cs : List Value} (h : k56.K w x cs) : ∃ A2 c2, cs = [.int .i64 x.f0, .int .i64 x.f1, .slice A2 x.f2.length c2] ∧ x.f2.length ≤ c2 ∧ (Kd.int .u8).C w A2 x.f2.length x.f2 := by
 obtain ⟨_, _, rfl, rfl, ⟨_, _, rfl, rfl, ⟨A2, c2, rfl, l2, g2⟩⟩⟩ := h
 exact ⟨A2, c2, rfl, l2, g2⟩
theorem k56_openM {w : World} {base : Nat} {ok : Nat → Prop} {x : S56} {cs : List Value} (h : k56.M w base ok x cs) : ∃ v2, cs = [.int .i64 x.f0, .int .i64 x.f1, v2] ∧ (Kd.int .u8).R 5 w base ok v2 x.f2 := by
 obtain ⟨_, _, rfl, rfl, ⟨_, _, rfl, rfl, ⟨v2, rfl, g2⟩⟩⟩ := h
 exact ⟨v2, rfl, g2⟩
theorem k56_mkM (w : World) (base : Nat) (ok : Nat → Prop) (x : S56) {v2 : Value} (g2 : (Kd.int .u8).R 5 w base ok v2 x.f2) : k56.M w base ok x [.int .i64 x.f0, .int .i64 x.f1, v2] := ⟨[.int .i64 x.f0], [.int .i64 x.f1, v2], rfl, rfl, ⟨[.int .i64 x.f1], [v2], rfl, rfl, ⟨v2, rfl, g2⟩⟩⟩
def rd_T56 (xs : List S56) (i : Int) : S56 := xs.getD i.toNat z56
theorem at_T56 {w : World} {A : Option Addr} {n : Nat} {xs : List S56} (h : Kd.C k56 w A n xs) (i : Int) (h0 : 0 ≤ i) (h1 : i < n) : ∃ ad A2 c2, A = some ad ∧ w.cell? (ad.add (i.toNat * 3)) = some (.int .i64 (rd_T56 xs i).f0) ∧ w.cell? ⟨(ad.add (i.toNat * 3)).block, (ad.add (i.toNat * 3)).off + 1, none⟩ = some (.int .i64 (rd_T56 xs i).f1) ∧ w.cell? ⟨(ad.add (i.toNat * 3)).block, (ad.add (i.toNat * 3)).off + 2, none⟩ = some (.slice A2 (rd_T56 xs i).f2.length c2) ∧ (rd_T56 xs i).f2.length ≤ c2 ∧ (Kd.int .u8).C w A2 (rd_T56 xs i).f2.length (rd_T56 xs i).f2 := by
 obtain ⟨ad, c, e, _, hK, hc0⟩ := Kd.C_get h z56 i h0 h1
 have hc : ∀ j u, c[j]? = some u → w.cell? (ad.add (i.toNat * 3 + j)) = some u := hc0
 obtain ⟨A2, c2, rfl, l2, g2⟩ := k56_open hK
 exact ⟨ad, A2, c2, e, hc 0 _ rfl, by rw [← add_field _ _ 1 (by omega)]; exact hc 1 _ rfl, by rw [← add_field _ _ 2 (by omega)]; exact hc 2 _ rfl, l2, g2⟩
structure S36 where
 f0 : Int
 f1 : Int
 f2 : (List Int)
def z36 : S36 := ⟨(0 : Int), (0 : Int), ([] : List Int)⟩
def k36 : Kd S36 := Kd.iso (Kd.pair (Kd.int .i64) (Kd.pair (Kd.int .i64) (Kd.slice 5 (Kd.int .u8)))) (fun x : S36 => (x.f0, x.f1, x.f2))
theorem k36_open {w : World} {x : S36} {cs : List Value} (h : k36.K w x cs) : ∃ A2 c2, cs = [.int .i64 x.f0, .int .i64 x.f1, .slice A2 x.f2.length c2] ∧ x.f2.length ≤ c2 ∧ (Kd.int .u8).C w A2 x.f2.length x.f2 := by
 obtain ⟨_, _, rfl, rfl, ⟨_, _, rfl, rfl, ⟨A2, c2, rfl, l2, g2⟩⟩⟩ := h
 exact ⟨A2, c2, rfl, l2, g2⟩
theorem k36_mk (w : World) (x : S36) {A2 : Option Addr} {c2 : Nat} (l2 : x.f2.length ≤ c2) (g2 : (Kd.int .u8).C w A2 x.f2.length x.f2) : k36.K w x [.int .i64 x.f0, .int .i64 x.f1, .slice A2 x.f2.length c2] := ⟨[.int .i64 x.f0], [.int .i64 x.f1, .slice A2 x.f2.length c2], rfl, rfl, ⟨[.int .i64 x.f1], [.slice A2 x.f2.length c2], rfl, rfl, ⟨A2, c2, rfl, l2, g2⟩⟩⟩
theorem k36_mkF (W : World) (ok : Nat → Prop) (x : S36) {A2 : Option Addr} {c2 : Nat} (l2 : x.f2.length ≤ c2) (g2 : Kd.F (Kd.int .u8) W ok A2 x.f2.length x.f2) : Kd.FK k36 W ok x [.int .i64 x.f0, .int .i64 x.f1, .slice A2 x.f2.length c2] := fun W2 hW => k36_mk W2 x l2 (g2 W2 hW)
def rd_T36 (xs : List S36) (i : Int) : S36 := xs.getD i.toNat z36
theorem at_T36 {w : World} {A : Option Addr} {n : Nat} {xs : List S36} (h : Kd.C k36 w A n xs) (i : Int) (h0 : 0 ≤ i) (h1 : i < n) : ∃ ad A2 c2, A = some ad ∧ w.cell? (ad.add (i.toNat * 3)) = some (.int .i64 (rd_T36 xs i).f0) ∧ w.cell? ⟨(ad.add (i.toNat * 3)).block, (ad.add (i.toNat * 3)).off + 1, none⟩ = some (.int .i64 (rd_T36 xs i).f1) ∧ w.cell? ⟨(ad.add (i.toNat * 3)).block, (ad.add (i.toNat * 3)).off + 2, none⟩ = some (.slice A2 (rd_T36 xs i).f2.length c2) ∧ (rd_T36 xs i).f2.length ≤ c2 ∧ (Kd.int .u8).C w A2 (rd_T36 xs i).f2.length (rd_T36 xs i).f2 := by
 obtain ⟨ad, c, e, _, hK, hc0⟩ := Kd.C_get h z36 i h0 h1
 have hc : ∀ j u, c[j]? = some u → w.cell? (ad.add (i.toNat * 3 + j)) = some u := hc0
 obtain ⟨A2, c2, rfl, l2, g2⟩ := k36_open hK
 exact ⟨ad, A2, c2, e, hc 0 _ rfl, by rw [← add_field _ _ 1 (by omega)]; exact hc 1 _ rfl, by rw [← add_field _ _ 2 (by omega)]; exact hc 2 _ rfl, l2, g2⟩
end Go.Proofs.Ytdgefplbfffenaa.X
namespace Go.Proofs.Ytdgefplbfffenaa.X
open Go.RowKit Go.Proofs.YtdgefplbfffenaaW.PrintWords Go.Proofs.YtdgefplbfffenaaW.PrintLast Go.Proofs.YtdgefplbfffenaaW.PrintMore
attribute [local go_sem] max2_int min2_int max_two min_two max_three min_three max_four min_four   -- for this text's walks alone
set_option linter.unusedVariables false
set_option linter.unusedSimpArgs false
def space_held_int.f (a0 : Int) (a1 : Int) (a2 : Int) : Option (Int) := some (mn (mx a0 a1) a2)
set_option maxHeartbeats 8000000 in
set_option maxRecDepth 100000 in
theorem space_held_int.calls (a0 : Int) (a1 : Int) (a2 : Int) (r : Int) (w : World) (h : space_held_int.f a0 a1 a2 = some r) :
  Calls Try.prog 62 #[.int .i64 a0, .int .i64 a1, .int .i64 a2] w fun e w' => e = .returned (.int .i64 r) ∧ Below w.heap.size w w' := by
 have HB := Aside0.mk (Below.refl w.heap.size w)
 have H : (some (mn (mx a0 a1) a2)) = some r := h
 clear h
 obtain ⟨ji4, hji4⟩ : ∃ j_ : Int, (mx a0 a1) = j_ := ⟨_, rfl⟩
 replace H : (some (mn (ji4) a2)) = some r := by first | (rw [hji4] at H; exact H) | (simp only [hji4] at H ⊢; exact H)
 have hji4_ : (if a0 < a1 then a1 else a0) = ji4 := hji4
 obtain ⟨ji5, hji5⟩ : ∃ j_ : Int, (mn (ji4) a2) = j_ := ⟨_, rfl⟩
 replace H : (some ji5) = some r := by first | (rw [hji5] at H; exact H) | (simp only [hji5] at H ⊢; exact H)
 have hji5_ : (if a2 < (ji4) then a2 else (ji4)) = ji5 := hji5
 obtain rfl := Option.some.inj H
 go_enter Try.func62, Try.ntmps62
 go_wp2
 go_ret
 exact ⟨by first | rfl | (simp [errW_none, errW_some] <;> rfl) | (simp only [← hji4, ← hji5]; first | rfl | (simp [errW_none, errW_some] <;> rfl)) | (simp [*, errW_none, errW_some] <;> rfl), by repeat (first | (with_reducible first | exact HB.out | apply below_alloc | apply pw_below_drewN | apply below_drew1) | exact HB.out)⟩
def space_may.f (a0 : Int) : Option (Bool) := (space_held_int.f a0 8192 1048576).bind fun t101 => (some (t101 == a0))
set_option maxHeartbeats 8000000 in
set_option maxRecDepth 100000 in
theorem space_may.calls (a0 : Int) (r : Bool) (w : World) (h : space_may.f a0 = some r) :
  Calls Try.prog 39 #[.int .i64 a0] w fun e w' => e = .returned (.bool r) ∧ Below w.heap.size w w' := by
 have HB := Aside0.mk (Below.refl w.heap.size w)
 have H : ((space_held_int.f a0 8192 1048576).bind fun t101 => (some (t101 == a0))) = some r := h
 clear h
 replace H := Option.bind_eq_some_iff.mp H
 obtain ⟨t101, A20, H⟩ := H
 replace H : (some (t101 == a0)) = some r := H
 have A2 := Aside0.mk A20
 clear A20
 obtain rfl := Option.some.inj H
 go_enter Try.func39, Try.ntmps39
 go_wp2_with (first | ((with_reducible refine gate_callee (f := 62) rfl ?_); refine goesL_ (some 4) rfl rfl Try.func62 (by kernel_rfl) rfl #[.int .i64 a0, .int .i64 8192, .int .i64 1048576] rfl (by (try simp only [List.map_toArray, List.map_cons, List.map_nil]); first | done | rfl | (simp only [List.length_drop, List.length_take]; rfl)) ?_; (with_reducible refine (space_held_int.calls a0 8192 1048576 t101 _ A2.out).mono ?_); rintro e w3 ⟨rfl, hb⟩; refine ⟨_, rfl, ?_⟩; have n0_ := Aside0.mk (below_step (by repeat (first | (with_reducible first | exact HB.out | apply below_alloc | apply pw_below_drewN | apply below_drew1) | exact HB.out)) hb); clear HB; have HB := n0_; clear n0_; (try clear hb); (try clear hb2); (try clear hk); (try clear hi)))
 go_ret
 exact ⟨by first | rfl | (simp [errW_none, errW_some] <;> rfl) | (simp [*, errW_none, errW_some] <;> rfl), by repeat (first | (with_reducible first | exact HB.out | apply below_alloc | apply pw_below_drewN | apply below_drew1) | exact HB.out)⟩
def record_Size.f (a0 : Int) : Option (Int) := if a0 < 0 then (some 0) else (if a0 > 4096 then (some 0) else (some (wrap64 ((wrap64 (16 + a0)) + 4))))
set_option maxHeartbeats 8000000 in
set_option maxRecDepth 100000 in
theorem record_Size.calls (a0 : Int) (r : Int) (w : World) (h : record_Size.f a0 = some r) :
  Calls Try.prog 40 #[.int .i64 a0] w fun e w' => e = .returned (.int .i64 r) ∧ Drawn0 w w' := by
 have H : (if a0 < 0 then (some 0) else (if a0 > 4096 then (some 0) else (some (wrap64 ((wrap64 (16 + a0)) + 4))))) = some r := h
 clear h
 by_cases c2 : a0 < 0
 ·rw [if_pos c2] at H
  have c2b0 : decide (a0 < 0) = true := decide_eq_true c2
  clear c2
  obtain rfl := Option.some.inj H
  go_enter Try.func40, Try.ntmps40
  go_wp2
  go_ret
  exact ⟨by first | rfl | (simp; done) | (simp [*]; done), by repeat (first | exact Drawn0.refl _ | apply Drawn0.step)⟩
 ·rw [if_neg c2] at H
  have c2b0 : decide (a0 < 0) = false := decide_eq_false c2
  clear c2
  by_cases c3 : a0 > 4096
  ·rw [if_pos c3] at H
   have c3b0 : decide (4096 < a0) = true := decide_eq_true c3
   clear c3
   obtain rfl := Option.some.inj H
   go_enter Try.func40, Try.ntmps40
   go_wp2
   go_ret
   exact ⟨by first | rfl | (simp; done) | (simp [*]; done), by repeat (first | exact Drawn0.refl _ | apply Drawn0.step)⟩
  ·rw [if_neg c3] at H
   have c3b0 : decide (4096 < a0) = false := decide_eq_false c3
   clear c3
   obtain rfl := Option.some.inj H
   go_enter Try.func40, Try.ntmps40
   go_wp2
   go_ret
   exact ⟨by first | rfl | (simp; done) | (simp [*]; done), by repeat (first | exact Drawn0.refl _ | apply Drawn0.step)⟩
def space_Takes.f (a0 : Int) (a1 : Int) : Option (Int) := (space_may.f a1).bind fun t102 => (if t102 = true then ((record_Size.f 4096).bind fun t103 => (if (wrap64 (a1 - t103)) = 0 then (none) else (some (wrap64 ((wrap64 (Int.tdiv (mx a0 0) (wrap64 (a1 - t103)))) + 1))))) else (some 0))
set_option maxHeartbeats 8000000 in
set_option maxRecDepth 100000 in
theorem space_Takes.calls (a0 : Int) (a1 : Int) (r : Int) (w : World) (h : space_Takes.f a0 a1 = some r) :
  Calls Try.prog 14 #[.int .i64 a0, .int .i64 a1] w fun e w' => e = .returned (.int .i64 r) ∧ Below w.heap.size w w' := by
 have HB := Aside0.mk (Below.refl w.heap.size w)
 have H : ((space_may.f a1).bind fun t102 => (if t102 = true then ((record_Size.f 4096).bind fun t103 => (if (wrap64 (a1 - t103)) = 0 then (none) else (some (wrap64 ((wrap64 (Int.tdiv (mx a0 0) (wrap64 (a1 - t103)))) + 1))))) else (some 0))) = some r := h
 clear h
 replace H := Option.bind_eq_some_iff.mp H
 obtain ⟨t102, A30, H⟩ := H
 replace H : (if t102 = true then ((record_Size.f 4096).bind fun t103 => (if (wrap64 (a1 - t103)) = 0 then (none) else (some (wrap64 ((wrap64 (Int.tdiv (mx a0 0) (wrap64 (a1 - t103)))) + 1))))) else (some 0)) = some r := H
 have A3 := Aside0.mk A30
 clear A30
 by_cases c4 : t102 = true
 ·subst c4
  have H1 : ((record_Size.f 4096).bind fun t103 => (if (wrap64 (a1 - t103)) = 0 then (none) else (some (wrap64 ((wrap64 (Int.tdiv (mx a0 0) (wrap64 (a1 - t103)))) + 1))))) = some r := by rw [if_pos rfl] at H; exact H
  clear H
  have H := H1
  clear H1
  obtain ⟨ji5, hji5⟩ : ∃ j_ : Int, (mx a0 0) = j_ := ⟨_, rfl⟩
  replace H : ((record_Size.f 4096).bind fun t103 => (if (wrap64 (a1 - t103)) = 0 then (none) else (some (wrap64 ((wrap64 (Int.tdiv (ji5) (wrap64 (a1 - t103)))) + 1))))) = some r := by first | (rw [hji5] at H; exact H) | (simp only [hji5] at H ⊢; exact H)
  (try rw [hji5] at A3)
  (try (have hji5l : 0 ≤ ji5 := by (rw [← hji5]; unfold mx; (repeat' split) <;> omega)))
  (try (have hji5m : 0 ≤ ji5 := by omega))
  have hji5_ : (if a0 < 0 then 0 else a0) = ji5 := hji5
  replace H := Option.bind_eq_some_iff.mp H
  obtain ⟨t103, A60, H⟩ := H
  replace H : (if (wrap64 (a1 - t103)) = 0 then (none) else (some (wrap64 ((wrap64 (Int.tdiv (ji5) (wrap64 (a1 - t103)))) + 1)))) = some r := H
  have A6 := Aside0.mk A60
  clear A60
  by_cases c7 : (wrap64 (a1 - t103)) = 0
  ·rw [if_pos c7] at H
   exact absurd H (by simp)
  ·rw [if_neg c7] at H
   have c7b0 : ((wrap64 (a1 - t103)) == 0) = false := beq_eq_false_iff_ne.mpr c7
   have c7b1 : ((wrap64 (a1 - t103)) != 0) = true := bne_iff_ne.mpr c7
   obtain rfl := Option.some.inj H
   go_enter Try.func14, Try.ntmps14
   go_wp2_with (first | ((with_reducible refine gate_callee (f := 39) rfl ?_); refine goesL_ (some 6) rfl rfl Try.func39 (by kernel_rfl) rfl #[.int .i64 a1] rfl (by (try simp only [List.map_toArray, List.map_cons, List.map_nil]); first | done | rfl | (simp only [List.length_drop, List.length_take]; rfl)) ?_; (with_reducible refine (space_may.calls a1 true _ A3.out).mono ?_); rintro e w8 ⟨rfl, hb⟩; refine ⟨_, rfl, ?_⟩; have n0_ := Aside0.mk (below_step (by repeat (first | (with_reducible first | exact HB.out | apply below_alloc | apply pw_below_drewN | apply below_drew1) | exact HB.out)) hb); clear HB; have HB := n0_; clear n0_; (try clear hb); (try clear hb2); (try clear hk); (try clear hi)) | ((with_reducible refine gate_callee (f := 40) rfl ?_); refine goesL_ (some 11) rfl rfl Try.func40 (by kernel_rfl) rfl #[.int .i64 4096] rfl (by (try simp only [List.map_toArray, List.map_cons, List.map_nil]); first | done | rfl | (simp only [List.length_drop, List.length_take]; rfl)) ?_; (with_reducible refine (record_Size.calls 4096 t103 _ A6.out).mono ?_); rintro e w' ⟨rfl, ⟨nd, rfl⟩⟩; refine ⟨_, rfl, ?_⟩))
   go_ret
   exact ⟨by first | rfl | (simp [errW_none, errW_some] <;> rfl) | (simp only [← hji5]; first | rfl | (simp [errW_none, errW_some] <;> rfl)) | (simp [*, errW_none, errW_some] <;> rfl), by repeat (first | (with_reducible first | exact HB.out | apply below_alloc | apply pw_below_drewN | apply below_drew1) | exact HB.out)⟩
 ·replace c4 := Bool.eq_false_iff.mpr c4
  subst c4
  have H1 : (some 0) = some r := by rw [if_neg (show ¬ (false = true) by decide)] at H; exact H
  clear H
  have H := H1
  clear H1
  obtain rfl := Option.some.inj H
  go_enter Try.func14, Try.ntmps14
  go_wp2_with (first | ((with_reducible refine gate_callee (f := 39) rfl ?_); refine goesL_ (some 6) rfl rfl Try.func39 (by kernel_rfl) rfl #[.int .i64 a1] rfl (by (try simp only [List.map_toArray, List.map_cons, List.map_nil]); first | done | rfl | (simp only [List.length_drop, List.length_take]; rfl)) ?_; (with_reducible refine (space_may.calls a1 false _ A3.out).mono ?_); rintro e w9 ⟨rfl, hb⟩; refine ⟨_, rfl, ?_⟩; have n0_ := Aside0.mk (below_step (by repeat (first | (with_reducible first | exact HB.out | apply below_alloc | apply pw_below_drewN | apply below_drew1) | exact HB.out)) hb); clear HB; have HB := n0_; clear n0_; (try clear hb); (try clear hb2); (try clear hk); (try clear hi)))
  go_ret
  exact ⟨by first | rfl | (simp [errW_none, errW_some] <;> rfl) | (simp [*, errW_none, errW_some] <;> rfl), by repeat (first | (with_reducible first | exact HB.out | apply below_alloc | apply pw_below_drewN | apply below_drew1) | exact HB.out)⟩
def space_some.f (a0 : Int) : Option (Bool) := (space_held_int.f a0 1 64).bind fun t104 => (some (t104 == a0))
set_option maxHeartbeats 8000000 in
set_option maxRecDepth 100000 in
theorem space_some.calls (a0 : Int) (r : Bool) (w : World) (h : space_some.f a0 = some r) :
  Calls Try.prog 59 #[.int .i64 a0] w fun e w' => e = .returned (.bool r) ∧ Below w.heap.size w w' := by
 have HB := Aside0.mk (Below.refl w.heap.size w)
 have H : ((space_held_int.f a0 1 64).bind fun t104 => (some (t104 == a0))) = some r := h
 clear h
 replace H := Option.bind_eq_some_iff.mp H
 obtain ⟨t104, A20, H⟩ := H
 replace H : (some (t104 == a0)) = some r := H
 have A2 := Aside0.mk A20
 clear A20
 obtain rfl := Option.some.inj H
 go_enter Try.func59, Try.ntmps59
 go_wp2_with (first | ((with_reducible refine gate_callee (f := 62) rfl ?_); refine goesL_ (some 4) rfl rfl Try.func62 (by kernel_rfl) rfl #[.int .i64 a0, .int .i64 1, .int .i64 64] rfl (by (try simp only [List.map_toArray, List.map_cons, List.map_nil]); first | done | rfl | (simp only [List.length_drop, List.length_take]; rfl)) ?_; (with_reducible refine (space_held_int.calls a0 1 64 t104 _ A2.out).mono ?_); rintro e w3 ⟨rfl, hb⟩; refine ⟨_, rfl, ?_⟩; have n0_ := Aside0.mk (below_step (by repeat (first | (with_reducible first | exact HB.out | apply below_alloc | apply pw_below_drewN | apply below_drew1) | exact HB.out)) hb); clear HB; have HB := n0_; clear n0_; (try clear hb); (try clear hb2); (try clear hk); (try clear hi)))
 go_ret
 exact ⟨by first | rfl | (simp [errW_none, errW_some] <;> rfl) | (simp [*, errW_none, errW_some] <;> rfl), by repeat (first | (with_reducible first | exact HB.out | apply below_alloc | apply pw_below_drewN | apply below_drew1) | exact HB.out)⟩
def space_mapped.f (a0 : Int) : Option (Int) := some (wrap64 (3 + (wrap64 (a0 * 39))))
set_option maxHeartbeats 8000000 in
set_option maxRecDepth 100000 in
theorem space_mapped.calls (a0 : Int) (r : Int) (w : World) (h : space_mapped.f a0 = some r) :
  Calls Try.prog 60 #[.int .i64 a0] w fun e w' => e = .returned (.int .i64 r) ∧ Drawn0 w w' := by
 have H : (some (wrap64 (3 + (wrap64 (a0 * 39))))) = some r := h
 clear h
 obtain rfl := Option.some.inj H
 go_enter Try.func60, Try.ntmps60
 go_wp2
 go_ret
 exact ⟨by first | rfl | (simp; done) | (simp [*]; done), by repeat (first | exact Drawn0.refl _ | apply Drawn0.step)⟩
def space_Snap.f (a0 : Int) : Option (Int × Int) := (space_some.f a0).bind fun t105 => (if t105 = true then ((space_mapped.f a0).bind fun t106 => ((space_mapped.f a0).bind fun t107 => ((record_Size.f 0).bind fun t108 => ((record_Size.f 2).bind fun t109 => (some (wrap64 ((wrap64 ((wrap64 ((wrap64 (4016 + t106)) + (wrap64 (4 * (wrap64 (8 + t107)))))) + (wrap64 ((wrap64 (Int.tdiv (wrap64 ((wrap64 ((wrap64 ((wrap64 (4016 + t106)) + (wrap64 (4 * (wrap64 (8 + t107)))))) + 4096)) - 1)) 4096)) * t108)))) + t109), wrap64 ((wrap64 (Int.tdiv (wrap64 ((wrap64 ((wrap64 ((wrap64 (4016 + t106)) + (wrap64 (4 * (wrap64 (8 + t107)))))) + 4096)) - 1)) 4096)) + 1))))))) else (some (0, 0)))
set_option maxHeartbeats 8000000 in
set_option maxRecDepth 100000 in
theorem space_Snap.calls (a0 : Int) (r1 : Int) (r2 : Int) (w : World) (h : space_Snap.f a0 = some (r1, r2)) :
  Calls Try.prog 31 #[.int .i64 a0] w fun e w' => e = .returned (.tuple #[.int .i64 r1, .int .i64 r2]) ∧ Below w.heap.size w w' := by
 have HB := Aside0.mk (Below.refl w.heap.size w)
 have H : ((space_some.f a0).bind fun t105 => (if t105 = true then ((space_mapped.f a0).bind fun t106 => ((space_mapped.f a0).bind fun t107 => ((record_Size.f 0).bind fun t108 => ((record_Size.f 2).bind fun t109 => (some (wrap64 ((wrap64 ((wrap64 ((wrap64 (4016 + t106)) + (wrap64 (4 * (wrap64 (8 + t107)))))) + (wrap64 ((wrap64 (Int.tdiv (wrap64 ((wrap64 ((wrap64 ((wrap64 (4016 + t106)) + (wrap64 (4 * (wrap64 (8 + t107)))))) + 4096)) - 1)) 4096)) * t108)))) + t109), wrap64 ((wrap64 (Int.tdiv (wrap64 ((wrap64 ((wrap64 ((wrap64 (4016 + t106)) + (wrap64 (4 * (wrap64 (8 + t107)))))) + 4096)) - 1)) 4096)) + 1))))))) else (some (0, 0)))) = some (r1, r2) := h
 clear h
 replace H := Option.bind_eq_some_iff.mp H
 obtain ⟨t105, A20, H⟩ := H
 replace H : (if t105 = true then ((space_mapped.f a0).bind fun t106 => ((space_mapped.f a0).bind fun t107 => ((record_Size.f 0).bind fun t108 => ((record_Size.f 2).bind fun t109 => (some (wrap64 ((wrap64 ((wrap64 ((wrap64 (4016 + t106)) + (wrap64 (4 * (wrap64 (8 + t107)))))) + (wrap64 ((wrap64 (Int.tdiv (wrap64 ((wrap64 ((wrap64 ((wrap64 (4016 + t106)) + (wrap64 (4 * (wrap64 (8 + t107)))))) + 4096)) - 1)) 4096)) * t108)))) + t109), wrap64 ((wrap64 (Int.tdiv (wrap64 ((wrap64 ((wrap64 ((wrap64 (4016 + t106)) + (wrap64 (4 * (wrap64 (8 + t107)))))) + 4096)) - 1)) 4096)) + 1))))))) else (some (0, 0))) = some (r1, r2) := H
 have A2 := Aside0.mk A20
 clear A20
 by_cases c3 : t105 = true
 ·subst c3
  have H1 : ((space_mapped.f a0).bind fun t106 => ((space_mapped.f a0).bind fun t107 => ((record_Size.f 0).bind fun t108 => ((record_Size.f 2).bind fun t109 => (some (wrap64 ((wrap64 ((wrap64 ((wrap64 (4016 + t106)) + (wrap64 (4 * (wrap64 (8 + t107)))))) + (wrap64 ((wrap64 (Int.tdiv (wrap64 ((wrap64 ((wrap64 ((wrap64 (4016 + t106)) + (wrap64 (4 * (wrap64 (8 + t107)))))) + 4096)) - 1)) 4096)) * t108)))) + t109), wrap64 ((wrap64 (Int.tdiv (wrap64 ((wrap64 ((wrap64 ((wrap64 (4016 + t106)) + (wrap64 (4 * (wrap64 (8 + t107)))))) + 4096)) - 1)) 4096)) + 1))))))) = some (r1, r2) := by rw [if_pos rfl] at H; exact H
  clear H
  have H := H1
  clear H1
  replace H := Option.bind_eq_some_iff.mp H
  obtain ⟨t106, A40, H⟩ := H
  replace H : ((space_mapped.f a0).bind fun t107 => ((record_Size.f 0).bind fun t108 => ((record_Size.f 2).bind fun t109 => (some (wrap64 ((wrap64 ((wrap64 ((wrap64 (4016 + t106)) + (wrap64 (4 * (wrap64 (8 + t107)))))) + (wrap64 ((wrap64 (Int.tdiv (wrap64 ((wrap64 ((wrap64 ((wrap64 (4016 + t106)) + (wrap64 (4 * (wrap64 (8 + t107)))))) + 4096)) - 1)) 4096)) * t108)))) + t109), wrap64 ((wrap64 (Int.tdiv (wrap64 ((wrap64 ((wrap64 ((wrap64 (4016 + t106)) + (wrap64 (4 * (wrap64 (8 + t107)))))) + 4096)) - 1)) 4096)) + 1)))))) = some (r1, r2) := H
  have A4 := Aside0.mk A40
  clear A40
  replace H := Option.bind_eq_some_iff.mp H
  obtain ⟨t107, A50, H⟩ := H
  replace H : ((record_Size.f 0).bind fun t108 => ((record_Size.f 2).bind fun t109 => (some (wrap64 ((wrap64 ((wrap64 ((wrap64 (4016 + t106)) + (wrap64 (4 * (wrap64 (8 + t107)))))) + (wrap64 ((wrap64 (Int.tdiv (wrap64 ((wrap64 ((wrap64 ((wrap64 (4016 + t106)) + (wrap64 (4 * (wrap64 (8 + t107)))))) + 4096)) - 1)) 4096)) * t108)))) + t109), wrap64 ((wrap64 (Int.tdiv (wrap64 ((wrap64 ((wrap64 ((wrap64 (4016 + t106)) + (wrap64 (4 * (wrap64 (8 + t107)))))) + 4096)) - 1)) 4096)) + 1))))) = some (r1, r2) := H
  have A5 := Aside0.mk A50
  clear A50
  replace H := Option.bind_eq_some_iff.mp H
  obtain ⟨t108, A60, H⟩ := H
  replace H : ((record_Size.f 2).bind fun t109 => (some (wrap64 ((wrap64 ((wrap64 ((wrap64 (4016 + t106)) + (wrap64 (4 * (wrap64 (8 + t107)))))) + (wrap64 ((wrap64 (Int.tdiv (wrap64 ((wrap64 ((wrap64 ((wrap64 (4016 + t106)) + (wrap64 (4 * (wrap64 (8 + t107)))))) + 4096)) - 1)) 4096)) * t108)))) + t109), wrap64 ((wrap64 (Int.tdiv (wrap64 ((wrap64 ((wrap64 ((wrap64 (4016 + t106)) + (wrap64 (4 * (wrap64 (8 + t107)))))) + 4096)) - 1)) 4096)) + 1)))) = some (r1, r2) := H
  have A6 := Aside0.mk A60
  clear A60
  replace H := Option.bind_eq_some_iff.mp H
  obtain ⟨t109, A70, H⟩ := H
  replace H : (some (wrap64 ((wrap64 ((wrap64 ((wrap64 (4016 + t106)) + (wrap64 (4 * (wrap64 (8 + t107)))))) + (wrap64 ((wrap64 (Int.tdiv (wrap64 ((wrap64 ((wrap64 ((wrap64 (4016 + t106)) + (wrap64 (4 * (wrap64 (8 + t107)))))) + 4096)) - 1)) 4096)) * t108)))) + t109), wrap64 ((wrap64 (Int.tdiv (wrap64 ((wrap64 ((wrap64 ((wrap64 (4016 + t106)) + (wrap64 (4 * (wrap64 (8 + t107)))))) + 4096)) - 1)) 4096)) + 1))) = some (r1, r2) := H
  have A7 := Aside0.mk A70
  clear A70
  simp only [Option.some.injEq, Prod.mk.injEq] at H
  obtain ⟨rfl, rfl⟩ := H
  go_enter Try.func31, Try.ntmps31
  go_wp2_with (first | ((with_reducible refine gate_callee (f := 59) rfl ?_); refine goesL_ (some 7) rfl rfl Try.func59 (by kernel_rfl) rfl #[.int .i64 a0] rfl (by (try simp only [List.map_toArray, List.map_cons, List.map_nil]); first | done | rfl | (simp only [List.length_drop, List.length_take]; rfl)) ?_; (with_reducible refine (space_some.calls a0 true _ A2.out).mono ?_); rintro e w8 ⟨rfl, hb⟩; refine ⟨_, rfl, ?_⟩; have n0_ := Aside0.mk (below_step (by repeat (first | (with_reducible first | exact HB.out | apply below_alloc | apply pw_below_drewN | apply below_drew1) | exact HB.out)) hb); clear HB; have HB := n0_; clear n0_; (try clear hb); (try clear hb2); (try clear hk); (try clear hi)) | ((with_reducible refine gate_callee (f := 60) rfl ?_); refine goesL_ (some 10) rfl rfl Try.func60 (by kernel_rfl) rfl #[.int .i64 a0] rfl (by (try simp only [List.map_toArray, List.map_cons, List.map_nil]); first | done | rfl | (simp only [List.length_drop, List.length_take]; rfl)) ?_; (with_reducible refine (space_mapped.calls a0 t106 _ A4.out).mono ?_); rintro e w' ⟨rfl, ⟨nd, rfl⟩⟩; refine ⟨_, rfl, ?_⟩) | ((with_reducible refine gate_callee (f := 60) rfl ?_); refine goesL_ (some 13) rfl rfl Try.func60 (by kernel_rfl) rfl #[.int .i64 a0] rfl (by (try simp only [List.map_toArray, List.map_cons, List.map_nil]); first | done | rfl | (simp only [List.length_drop, List.length_take]; rfl)) ?_; (with_reducible refine (space_mapped.calls a0 t107 _ A5.out).mono ?_); rintro e w' ⟨rfl, ⟨nd, rfl⟩⟩; refine ⟨_, rfl, ?_⟩) | ((with_reducible refine gate_callee (f := 40) rfl ?_); refine goesL_ (some 23) rfl rfl Try.func40 (by kernel_rfl) rfl #[.int .i64 0] rfl (by (try simp only [List.map_toArray, List.map_cons, List.map_nil]); first | done | rfl | (simp only [List.length_drop, List.length_take]; rfl)) ?_; (with_reducible refine (record_Size.calls 0 t108 _ A6.out).mono ?_); rintro e w' ⟨rfl, ⟨nd, rfl⟩⟩; refine ⟨_, rfl, ?_⟩) | ((with_reducible refine gate_callee (f := 40) rfl ?_); refine goesL_ (some 26) rfl rfl Try.func40 (by kernel_rfl) rfl #[.int .i64 2] rfl (by (try simp only [List.map_toArray, List.map_cons, List.map_nil]); first | done | rfl | (simp only [List.length_drop, List.length_take]; rfl)) ?_; (with_reducible refine (record_Size.calls 2 t109 _ A7.out).mono ?_); rintro e w' ⟨rfl, ⟨nd, rfl⟩⟩; refine ⟨_, rfl, ?_⟩))
  go_ret2
  exact ⟨by first | rfl | (simp [errW_none, errW_some] <;> rfl) | (simp [*, errW_none, errW_some] <;> rfl), by repeat (first | (with_reducible first | exact HB.out | apply below_alloc | apply pw_below_drewN | apply below_drew1) | exact HB.out)⟩
 ·replace c3 := Bool.eq_false_iff.mpr c3
  subst c3
  have H1 : (some (0, 0)) = some (r1, r2) := by rw [if_neg (show ¬ (false = true) by decide)] at H; exact H
  clear H
  have H := H1
  clear H1
  simp only [Option.some.injEq, Prod.mk.injEq] at H
  obtain ⟨rfl, rfl⟩ := H
  go_enter Try.func31, Try.ntmps31
  go_wp2_with (first | ((with_reducible refine gate_callee (f := 59) rfl ?_); refine goesL_ (some 7) rfl rfl Try.func59 (by kernel_rfl) rfl #[.int .i64 a0] rfl (by (try simp only [List.map_toArray, List.map_cons, List.map_nil]); first | done | rfl | (simp only [List.length_drop, List.length_take]; rfl)) ?_; (with_reducible refine (space_some.calls a0 false _ A2.out).mono ?_); rintro e w9 ⟨rfl, hb⟩; refine ⟨_, rfl, ?_⟩; have n0_ := Aside0.mk (below_step (by repeat (first | (with_reducible first | exact HB.out | apply below_alloc | apply pw_below_drewN | apply below_drew1) | exact HB.out)) hb); clear HB; have HB := n0_; clear n0_; (try clear hb); (try clear hb2); (try clear hk); (try clear hi)))
  go_ret2
  exact ⟨by first | rfl | (simp [errW_none, errW_some] <;> rfl) | (simp [*, errW_none, errW_some] <;> rfl), by repeat (first | (with_reducible first | exact HB.out | apply below_alloc | apply pw_below_drewN | apply below_drew1) | exact HB.out)⟩
def space_Change.f (a0 : Int) : Option (Int) := (space_some.f a0).bind fun t110 => (if t110 = true then ((record_Size.f (mx (wrap64 (10 + (wrap64 (a0 * 39)))) 1009)).bind fun t111 => (some t111)) else (some 0))
set_option maxHeartbeats 8000000 in
set_option maxRecDepth 100000 in
theorem space_Change.calls (a0 : Int) (r : Int) (w : World) (h : space_Change.f a0 = some r) :
  Calls Try.prog 32 #[.int .i64 a0] w fun e w' => e = .returned (.int .i64 r) ∧ Below w.heap.size w w' := by
 have HB := Aside0.mk (Below.refl w.heap.size w)
 have H : ((space_some.f a0).bind fun t110 => (if t110 = true then ((record_Size.f (mx (wrap64 (10 + (wrap64 (a0 * 39)))) 1009)).bind fun t111 => (some t111)) else (some 0))) = some r := h
 clear h
 replace H := Option.bind_eq_some_iff.mp H
 obtain ⟨t110, A20, H⟩ := H
 replace H : (if t110 = true then ((record_Size.f (mx (wrap64 (10 + (wrap64 (a0 * 39)))) 1009)).bind fun t111 => (some t111)) else (some 0)) = some r := H
 have A2 := Aside0.mk A20
 clear A20
 by_cases c3 : t110 = true
 ·subst c3
  have H1 : ((record_Size.f (mx (wrap64 (10 + (wrap64 (a0 * 39)))) 1009)).bind fun t111 => (some t111)) = some r := by rw [if_pos rfl] at H; exact H
  clear H
  have H := H1
  clear H1
  obtain ⟨ji4, hji4⟩ : ∃ j_ : Int, (mx (wrap64 (10 + (wrap64 (a0 * 39)))) 1009) = j_ := ⟨_, rfl⟩
  replace H : ((record_Size.f (ji4)).bind fun t111 => (some t111)) = some r := by first | (rw [hji4] at H; exact H) | (simp only [hji4] at H ⊢; exact H)
  (try rw [hji4] at A2)
  (try (have hji4l : 1009 ≤ ji4 := by (rw [← hji4]; unfold mx; (repeat' split) <;> omega)))
  (try (have hji4m : 0 ≤ ji4 := by omega))
  have hji4_ : (if (wrap64 (10 + (wrap64 (a0 * 39)))) < 1009 then 1009 else (wrap64 (10 + (wrap64 (a0 * 39))))) = ji4 := hji4
  replace H := Option.bind_eq_some_iff.mp H
  obtain ⟨t111, A50, H⟩ := H
  replace H : (some t111) = some r := H
  have A5 := Aside0.mk A50
  clear A50
  obtain rfl := Option.some.inj H
  go_enter Try.func32, Try.ntmps32
  go_wp2_with (first | ((with_reducible refine gate_callee (f := 59) rfl ?_); refine goesL_ (some 4) rfl rfl Try.func59 (by kernel_rfl) rfl #[.int .i64 a0] rfl (by (try simp only [List.map_toArray, List.map_cons, List.map_nil]); first | done | rfl | (simp only [List.length_drop, List.length_take]; rfl)) ?_; (with_reducible refine (space_some.calls a0 true _ A2.out).mono ?_); rintro e w6 ⟨rfl, hb⟩; refine ⟨_, rfl, ?_⟩; have n0_ := Aside0.mk (below_step (by repeat (first | (with_reducible first | exact HB.out | apply below_alloc | apply pw_below_drewN | apply below_drew1) | exact HB.out)) hb); clear HB; have HB := n0_; clear n0_; (try clear hb); (try clear hb2); (try clear hk); (try clear hi)) | ((with_reducible refine gate_callee (f := 40) rfl ?_); refine goesL_ (some 10) rfl rfl Try.func40 (by kernel_rfl) rfl #[.int .i64 ji4] rfl (by (try simp only [List.map_toArray, List.map_cons, List.map_nil]); first | done | (simp only [hji4]; rfl) | rfl | (simp only [List.length_drop, List.length_take]; rfl)) ?_; (with_reducible refine (record_Size.calls ji4 t111 _ A5.out).mono ?_); rintro e w' ⟨rfl, ⟨nd, rfl⟩⟩; refine ⟨_, rfl, ?_⟩))
  go_ret
  exact ⟨by first | rfl | (simp [errW_none, errW_some] <;> rfl) | (simp only [← hji4]; first | rfl | (simp [errW_none, errW_some] <;> rfl)) | (simp [*, errW_none, errW_some] <;> rfl), by repeat (first | (with_reducible first | exact HB.out | apply below_alloc | apply pw_below_drewN | apply below_drew1) | exact HB.out)⟩
 ·replace c3 := Bool.eq_false_iff.mpr c3
  subst c3
  have H1 : (some 0) = some r := by rw [if_neg (show ¬ (false = true) by decide)] at H; exact H
  clear H
  have H := H1
  clear H1
  obtain rfl := Option.some.inj H
  go_enter Try.func32, Try.ntmps32
  go_wp2_with (first | ((with_reducible refine gate_callee (f := 59) rfl ?_); refine goesL_ (some 4) rfl rfl Try.func59 (by kernel_rfl) rfl #[.int .i64 a0] rfl (by (try simp only [List.map_toArray, List.map_cons, List.map_nil]); first | done | rfl | (simp only [List.length_drop, List.length_take]; rfl)) ?_; (with_reducible refine (space_some.calls a0 false _ A2.out).mono ?_); rintro e w7 ⟨rfl, hb⟩; refine ⟨_, rfl, ?_⟩; have n0_ := Aside0.mk (below_step (by repeat (first | (with_reducible first | exact HB.out | apply below_alloc | apply pw_below_drewN | apply below_drew1) | exact HB.out)) hb); clear HB; have HB := n0_; clear n0_; (try clear hb); (try clear hb2); (try clear hk); (try clear hi)))
  go_ret
  exact ⟨by first | rfl | (simp [errW_none, errW_some] <;> rfl) | (simp [*, errW_none, errW_some] <;> rfl), by repeat (first | (with_reducible first | exact HB.out | apply below_alloc | apply pw_below_drewN | apply below_drew1) | exact HB.out)⟩
-- GIVEN: function 34 (space_Need)
def space_Bound.f (a0 : Int) (a1 : Int) : Option (Int) := (space_Snap.f a1).bind fun bt117 => (if bt117.2 = 0 then (some 0) else ((space_held_int.f a0 0 1073741824).bind fun t119 => (some (wrap64 ((wrap64 (2 * (wrap64 ((wrap64 (bt117.2 + 1)) + t119)))) + 5)))))
set_option maxHeartbeats 8000000 in
set_option maxRecDepth 100000 in
theorem space_Bound.calls (a0 : Int) (a1 : Int) (r : Int) (w : World) (h : space_Bound.f a0 a1 = some r) :
  Calls Try.prog 36 #[.int .i64 a0, .int .i64 a1] w fun e w' => e = .returned (.int .i64 r) ∧ Below w.heap.size w w' := by
 have HB := Aside0.mk (Below.refl w.heap.size w)
 have H : ((space_Snap.f a1).bind fun bt117 => (if bt117.2 = 0 then (some 0) else ((space_held_int.f a0 0 1073741824).bind fun t119 => (some (wrap64 ((wrap64 (2 * (wrap64 ((wrap64 (bt117.2 + 1)) + t119)))) + 5)))))) = some r := h
 clear h
 replace H := Option.bind_eq_some_iff.mp H
 obtain ⟨⟨t117, t118⟩, A30, H⟩ := H
 replace H : (if t118 = 0 then (some 0) else ((space_held_int.f a0 0 1073741824).bind fun t119 => (some (wrap64 ((wrap64 (2 * (wrap64 ((wrap64 (t118 + 1)) + t119)))) + 5))))) = some r := H
 have A3 := Aside0.mk A30
 clear A30
 by_cases c4 : t118 = 0
 ·rw [if_pos c4] at H
  have c4b0 : (t118 == 0) = true := beq_iff_eq.mpr c4
  have c4b1 : (t118 != 0) = false := bne_eq_false_iff_eq.mpr c4
  clear c4
  obtain rfl := Option.some.inj H
  go_enter Try.func36, Try.ntmps36
  go_wp2_with (first | ((with_reducible refine gate_callee (f := 31) rfl ?_); refine goesL_ (some 9) rfl rfl Try.func31 (by kernel_rfl) rfl #[.int .i64 a1] rfl (by (try simp only [List.map_toArray, List.map_cons, List.map_nil]); first | done | rfl | (simp only [List.length_drop, List.length_take]; rfl)) ?_; (with_reducible refine (space_Snap.calls a1 t117 t118 _ A3.out).mono ?_); rintro e w5 ⟨rfl, hb⟩; refine ⟨_, rfl, ?_⟩; have n0_ := Aside0.mk (below_step (by repeat (first | (with_reducible first | exact HB.out | apply below_alloc | apply pw_below_drewN | apply below_drew1) | exact HB.out)) hb); clear HB; have HB := n0_; clear n0_; (try clear hb); (try clear hb2); (try clear hk); (try clear hi)))
  go_ret
  exact ⟨by first | rfl | (simp [errW_none, errW_some] <;> rfl) | (simp [*, errW_none, errW_some] <;> rfl), by repeat (first | (with_reducible first | exact HB.out | apply below_alloc | apply pw_below_drewN | apply below_drew1) | exact HB.out)⟩
 ·rw [if_neg c4] at H
  have c4b0 : (t118 == 0) = false := beq_eq_false_iff_ne.mpr c4
  have c4b1 : (t118 != 0) = true := bne_iff_ne.mpr c4
  replace H := Option.bind_eq_some_iff.mp H
  obtain ⟨t119, A60, H⟩ := H
  replace H : (some (wrap64 ((wrap64 (2 * (wrap64 ((wrap64 (t118 + 1)) + t119)))) + 5))) = some r := H
  have A6 := Aside0.mk A60
  clear A60
  obtain rfl := Option.some.inj H
  go_enter Try.func36, Try.ntmps36
  go_wp2_with (first | ((with_reducible refine gate_callee (f := 31) rfl ?_); refine goesL_ (some 9) rfl rfl Try.func31 (by kernel_rfl) rfl #[.int .i64 a1] rfl (by (try simp only [List.map_toArray, List.map_cons, List.map_nil]); first | done | rfl | (simp only [List.length_drop, List.length_take]; rfl)) ?_; (with_reducible refine (space_Snap.calls a1 t117 t118 _ A3.out).mono ?_); rintro e w7 ⟨rfl, hb⟩; refine ⟨_, rfl, ?_⟩; have n0_ := Aside0.mk (below_step (by repeat (first | (with_reducible first | exact HB.out | apply below_alloc | apply pw_below_drewN | apply below_drew1) | exact HB.out)) hb); clear HB; have HB := n0_; clear n0_; (try clear hb); (try clear hb2); (try clear hk); (try clear hi)) | ((with_reducible refine gate_callee (f := 62) rfl ?_); refine goesL_ (some 17) rfl rfl Try.func62 (by kernel_rfl) rfl #[.int .i64 a0, .int .i64 0, .int .i64 1073741824] rfl (by (try simp only [List.map_toArray, List.map_cons, List.map_nil]); first | done | rfl | (simp only [List.length_drop, List.length_take]; rfl)) ?_; (with_reducible refine (space_held_int.calls a0 0 1073741824 t119 _ A6.out).mono ?_); rintro e w8 ⟨rfl, hb⟩; refine ⟨_, rfl, ?_⟩; have n0_ := Aside0.mk (below_step (by repeat (first | (with_reducible first | exact HB.out | apply below_alloc | apply pw_below_drewN | apply below_drew1) | exact HB.out)) hb); clear HB; have HB := n0_; clear n0_; (try clear hb); (try clear hb2); (try clear hk); (try clear hi)))
  go_ret
  exact ⟨by first | rfl | (simp [errW_none, errW_some] <;> rfl) | (simp [*, errW_none, errW_some] <;> rfl), by repeat (first | (with_reducible first | exact HB.out | apply below_alloc | apply pw_below_drewN | apply below_drew1) | exact HB.out)⟩
def dev_New.f (a0 : Int) (a1 : Int) : Option (Int × (List (S52)) × Int × Bool × Int × Int) := if a0 < 1 then (some (0, ([] : List (S52)), 0, false, 0, 1)) else (if a0 > 64 then (some (0, ([] : List (S52)), 0, false, 0, 1)) else (if a1 < 1 then (some (0, ([] : List (S52)), 0, false, 0, 1)) else (if a1 > 1048576 then (some (0, ([] : List (S52)), 0, false, 0, 1)) else (if 0 ≤ a0 then (if (a0 : Int).toNat ≤ 5864062014805 then (some (a1, (List.replicate (a0 : Int).toNat z52), (-1), false, 0, 0)) else (none)) else (none)))))
set_option maxHeartbeats 8000000 in
set_option maxRecDepth 100000 in
theorem dev_New.calls (a0 : Int) (a1 : Int) (r1 : Int) (r2 : List (S52)) (r3 : Int) (r4 : Bool) (r5 : Int) (r6 : Int) (w : World) (h : dev_New.f a0 a1 = some (r1, r2, r3, r4, r5, r6)) :
  Calls Try.prog 11 #[.int .i64 a0, .int .i64 a1] w fun e w' => ∃ v1_ : Value, e = .returned (.tuple #[.agg #[.int .i64 r1, v1_, .int .i64 r3, .bool r4, .int .i64 r5], .int .i64 r6]) ∧ Kd.S k52 52 w' w.heap.size (fun _ => True) v1_ r2 ∧ Below w.heap.size w w' := by
 have hu27 := Try.underlying27
 have HB := Aside0.mk (Below.refl w.heap.size w)
 have H : (if a0 < 1 then (some (0, ([] : List (S52)), 0, false, 0, 1)) else (if a0 > 64 then (some (0, ([] : List (S52)), 0, false, 0, 1)) else (if a1 < 1 then (some (0, ([] : List (S52)), 0, false, 0, 1)) else (if a1 > 1048576 then (some (0, ([] : List (S52)), 0, false, 0, 1)) else (if 0 ≤ a0 then (if (a0 : Int).toNat ≤ 5864062014805 then (some (a1, (List.replicate (a0 : Int).toNat z52), (-1), false, 0, 0)) else (none)) else (none)))))) = some (r1, r2, r3, r4, r5, r6) := h
 clear h
 by_cases c3 : a0 < 1
 ·rw [if_pos c3] at H
  have c3b0 : decide (a0 < 1) = true := decide_eq_true c3
  clear c3
  simp only [Option.some.injEq, Prod.mk.injEq] at H
  obtain ⟨rfl, rfl, rfl, rfl, rfl, rfl⟩ := H
  go_enter Try.func11, Try.ntmps11
  go_wp2_with (first | ((with_reducible refine gate_dst (N := 4) rfl ?_); refine box_event ?hg (N := 4) ?hd (cs := #[.int .i64 0, .slice none 0 0, .int .i64 0, .bool false, .int .i64 0]) (t := 27) ?hr ?_; (case hd => rfl); (case hg => rfl); (case hr => first | (go_simp; done) | (go_simp; rfl)); intro gb131 hg w4 hbox hb; have n0_ := Aside0.mk (below_step (by repeat (first | (with_reducible first | exact HB.out | apply below_alloc | apply pw_below_drewN | apply below_drew1) | exact HB.out)) hb); have n1_ := Aside0.mk (hbox); have n2_ := Aside0.mk ((by rw [hg]; exact (below_size (by repeat (first | (with_reducible first | exact HB.out | apply below_alloc | apply pw_below_drewN | apply below_drew1) | exact HB.out))) : w.heap.size ≤ gb131)); have n3_ := Aside0.mk ((by rw [hg]; exact (below_size (by repeat (first | (with_reducible first | exact HB.out | apply below_alloc | apply pw_below_drewN | apply below_drew1) | exact HB.out))) : w.heap.size ≤ gb131)); clear HB; have HB := n0_; have BK131 := n1_; have GW131 := n2_; have GE131 := n3_; clear n0_ n1_ n2_ n3_; clear hb hbox hg; have hcz5_0 : w4.cell? ⟨gb131, 0, none⟩ = some (.int .i64 0) := (blk_cell BK131.out 0).trans rfl; have hcz5_1 : w4.cell? ⟨gb131, 1, none⟩ = some (.slice none 0 0) := (blk_cell BK131.out 1).trans rfl; have hcz5_2 : w4.cell? ⟨gb131, 2, none⟩ = some (.int .i64 0) := (blk_cell BK131.out 2).trans rfl; have hcz5_3 : w4.cell? ⟨gb131, 3, none⟩ = some (.bool false) := (blk_cell BK131.out 3).trans rfl; have hcz5_4 : w4.cell? ⟨gb131, 4, none⟩ = some (.int .i64 0) := (blk_cell BK131.out 4).trans rfl; have hfz5_0 := blk_frozen BK131.out 0; have hfz5_1 := blk_frozen BK131.out 1; have hfz5_2 := blk_frozen BK131.out 2; have hfz5_3 := blk_frozen BK131.out 3; have hfz5_4 := blk_frozen BK131.out 4))
  refine bodyPost_ret (results_ct rfl _ _ gb131 27 #[.int .i64 0, .slice none 0 0, .int .i64 0, .bool false, .int .i64 0] (0, 0) _ rfl (by (with_reducible repeat (first | refine blk_drewN ?_ _ | refine blk_drew ?_ | refine blk_alloc ?_ _)); refine blk_put (cs := #[.int .i64 0, .slice none 0 0, .int .i64 0, .bool false, .int .i64 0]) ?_ 4 _ rfl; (with_reducible repeat (first | refine blk_drewN ?_ _ | refine blk_drew ?_ | refine blk_alloc ?_ _)); refine blk_put (cs := #[.int .i64 0, .slice none 0 0, .int .i64 0, .bool false, .int .i64 0]) ?_ 3 _ rfl; (with_reducible repeat (first | refine blk_drewN ?_ _ | refine blk_drew ?_ | refine blk_alloc ?_ _)); refine blk_put (cs := #[.int .i64 0, .slice none 0 0, .int .i64 0, .bool false, .int .i64 0]) ?_ 2 _ rfl; (with_reducible repeat (first | refine blk_drewN ?_ _ | refine blk_drew ?_ | refine blk_alloc ?_ _)); refine blk_put (cs := #[.int .i64 0, .slice none 0 0, .int .i64 0, .bool false, .int .i64 0]) ?_ 1 _ rfl; (with_reducible repeat (first | refine blk_drewN ?_ _ | refine blk_drew ?_ | refine blk_alloc ?_ _)); refine blk_put (cs := #[.int .i64 0, .slice none 0 0, .int .i64 0, .bool false, .int .i64 0]) ?_ 0 _ rfl; (with_reducible repeat (first | refine blk_drewN ?_ _ | refine blk_drew ?_ | refine blk_alloc ?_ _)); exact BK131.out) Try.underlying27 rfl (by kernel_rfl)) rfl ?_
  exact ⟨_, by first | rfl | (simp [errW_none, errW_some] <;> rfl) | (simp [*, errW_none, errW_some] <;> rfl), by first | exact Kd.S_nil _ _ _ _ _ | exact Kd.N_nil _ _ _ _ _ | exact Kd.V_nil _ _ _ _ _ | exact Kd.Q_nil _ _ _ _ _ | exact Kd.R_nil _ _ _ _ _, by repeat (first | (with_reducible first | exact HB.out | apply below_alloc | apply pw_below_drewN | apply below_drew1 | refine below_set ?_ GE131.out) | exact HB.out)⟩
 ·rw [if_neg c3] at H
  have c3b0 : decide (a0 < 1) = false := decide_eq_false c3
  clear c3
  by_cases c6 : a0 > 64
  ·rw [if_pos c6] at H
   have c6b0 : decide (64 < a0) = true := decide_eq_true c6
   clear c6
   simp only [Option.some.injEq, Prod.mk.injEq] at H
   obtain ⟨rfl, rfl, rfl, rfl, rfl, rfl⟩ := H
   go_enter Try.func11, Try.ntmps11
   go_wp2_with (first | ((with_reducible refine gate_dst (N := 4) rfl ?_); refine box_event ?hg (N := 4) ?hd (cs := #[.int .i64 0, .slice none 0 0, .int .i64 0, .bool false, .int .i64 0]) (t := 27) ?hr ?_; (case hd => rfl); (case hg => rfl); (case hr => first | (go_simp; done) | (go_simp; rfl)); intro gb131 hg w7 hbox hb; have n0_ := Aside0.mk (below_step (by repeat (first | (with_reducible first | exact HB.out | apply below_alloc | apply pw_below_drewN | apply below_drew1) | exact HB.out)) hb); have n1_ := Aside0.mk (hbox); have n2_ := Aside0.mk ((by rw [hg]; exact (below_size (by repeat (first | (with_reducible first | exact HB.out | apply below_alloc | apply pw_below_drewN | apply below_drew1) | exact HB.out))) : w.heap.size ≤ gb131)); have n3_ := Aside0.mk ((by rw [hg]; exact (below_size (by repeat (first | (with_reducible first | exact HB.out | apply below_alloc | apply pw_below_drewN | apply below_drew1) | exact HB.out))) : w.heap.size ≤ gb131)); clear HB; have HB := n0_; have BK131 := n1_; have GW131 := n2_; have GE131 := n3_; clear n0_ n1_ n2_ n3_; clear hb hbox hg; have hcz8_0 : w7.cell? ⟨gb131, 0, none⟩ = some (.int .i64 0) := (blk_cell BK131.out 0).trans rfl; have hcz8_1 : w7.cell? ⟨gb131, 1, none⟩ = some (.slice none 0 0) := (blk_cell BK131.out 1).trans rfl; have hcz8_2 : w7.cell? ⟨gb131, 2, none⟩ = some (.int .i64 0) := (blk_cell BK131.out 2).trans rfl; have hcz8_3 : w7.cell? ⟨gb131, 3, none⟩ = some (.bool false) := (blk_cell BK131.out 3).trans rfl; have hcz8_4 : w7.cell? ⟨gb131, 4, none⟩ = some (.int .i64 0) := (blk_cell BK131.out 4).trans rfl; have hfz8_0 := blk_frozen BK131.out 0; have hfz8_1 := blk_frozen BK131.out 1; have hfz8_2 := blk_frozen BK131.out 2; have hfz8_3 := blk_frozen BK131.out 3; have hfz8_4 := blk_frozen BK131.out 4))
   refine bodyPost_ret (results_ct rfl _ _ gb131 27 #[.int .i64 0, .slice none 0 0, .int .i64 0, .bool false, .int .i64 0] (0, 0) _ rfl (by (with_reducible repeat (first | refine blk_drewN ?_ _ | refine blk_drew ?_ | refine blk_alloc ?_ _)); refine blk_put (cs := #[.int .i64 0, .slice none 0 0, .int .i64 0, .bool false, .int .i64 0]) ?_ 4 _ rfl; (with_reducible repeat (first | refine blk_drewN ?_ _ | refine blk_drew ?_ | refine blk_alloc ?_ _)); refine blk_put (cs := #[.int .i64 0, .slice none 0 0, .int .i64 0, .bool false, .int .i64 0]) ?_ 3 _ rfl; (with_reducible repeat (first | refine blk_drewN ?_ _ | refine blk_drew ?_ | refine blk_alloc ?_ _)); refine blk_put (cs := #[.int .i64 0, .slice none 0 0, .int .i64 0, .bool false, .int .i64 0]) ?_ 2 _ rfl; (with_reducible repeat (first | refine blk_drewN ?_ _ | refine blk_drew ?_ | refine blk_alloc ?_ _)); refine blk_put (cs := #[.int .i64 0, .slice none 0 0, .int .i64 0, .bool false, .int .i64 0]) ?_ 1 _ rfl; (with_reducible repeat (first | refine blk_drewN ?_ _ | refine blk_drew ?_ | refine blk_alloc ?_ _)); refine blk_put (cs := #[.int .i64 0, .slice none 0 0, .int .i64 0, .bool false, .int .i64 0]) ?_ 0 _ rfl; (with_reducible repeat (first | refine blk_drewN ?_ _ | refine blk_drew ?_ | refine blk_alloc ?_ _)); exact BK131.out) Try.underlying27 rfl (by kernel_rfl)) rfl ?_
   exact ⟨_, by first | rfl | (simp [errW_none, errW_some] <;> rfl) | (simp [*, errW_none, errW_some] <;> rfl), by first | exact Kd.S_nil _ _ _ _ _ | exact Kd.N_nil _ _ _ _ _ | exact Kd.V_nil _ _ _ _ _ | exact Kd.Q_nil _ _ _ _ _ | exact Kd.R_nil _ _ _ _ _, by repeat (first | (with_reducible first | exact HB.out | apply below_alloc | apply pw_below_drewN | apply below_drew1 | refine below_set ?_ GE131.out) | exact HB.out)⟩
  ·rw [if_neg c6] at H
   have c6b0 : decide (64 < a0) = false := decide_eq_false c6
   clear c6
   by_cases c9 : a1 < 1
   ·rw [if_pos c9] at H
    have c9b0 : decide (a1 < 1) = true := decide_eq_true c9
    clear c9
    simp only [Option.some.injEq, Prod.mk.injEq] at H
    obtain ⟨rfl, rfl, rfl, rfl, rfl, rfl⟩ := H
    go_enter Try.func11, Try.ntmps11
    go_wp2_with (first | ((with_reducible refine gate_dst (N := 4) rfl ?_); refine box_event ?hg (N := 4) ?hd (cs := #[.int .i64 0, .slice none 0 0, .int .i64 0, .bool false, .int .i64 0]) (t := 27) ?hr ?_; (case hd => rfl); (case hg => rfl); (case hr => first | (go_simp; done) | (go_simp; rfl)); intro gb131 hg w10 hbox hb; have n0_ := Aside0.mk (below_step (by repeat (first | (with_reducible first | exact HB.out | apply below_alloc | apply pw_below_drewN | apply below_drew1) | exact HB.out)) hb); have n1_ := Aside0.mk (hbox); have n2_ := Aside0.mk ((by rw [hg]; exact (below_size (by repeat (first | (with_reducible first | exact HB.out | apply below_alloc | apply pw_below_drewN | apply below_drew1) | exact HB.out))) : w.heap.size ≤ gb131)); have n3_ := Aside0.mk ((by rw [hg]; exact (below_size (by repeat (first | (with_reducible first | exact HB.out | apply below_alloc | apply pw_below_drewN | apply below_drew1) | exact HB.out))) : w.heap.size ≤ gb131)); clear HB; have HB := n0_; have BK131 := n1_; have GW131 := n2_; have GE131 := n3_; clear n0_ n1_ n2_ n3_; clear hb hbox hg; have hcz11_0 : w10.cell? ⟨gb131, 0, none⟩ = some (.int .i64 0) := (blk_cell BK131.out 0).trans rfl; have hcz11_1 : w10.cell? ⟨gb131, 1, none⟩ = some (.slice none 0 0) := (blk_cell BK131.out 1).trans rfl; have hcz11_2 : w10.cell? ⟨gb131, 2, none⟩ = some (.int .i64 0) := (blk_cell BK131.out 2).trans rfl; have hcz11_3 : w10.cell? ⟨gb131, 3, none⟩ = some (.bool false) := (blk_cell BK131.out 3).trans rfl; have hcz11_4 : w10.cell? ⟨gb131, 4, none⟩ = some (.int .i64 0) := (blk_cell BK131.out 4).trans rfl; have hfz11_0 := blk_frozen BK131.out 0; have hfz11_1 := blk_frozen BK131.out 1; have hfz11_2 := blk_frozen BK131.out 2; have hfz11_3 := blk_frozen BK131.out 3; have hfz11_4 := blk_frozen BK131.out 4))
    refine bodyPost_ret (results_ct rfl _ _ gb131 27 #[.int .i64 0, .slice none 0 0, .int .i64 0, .bool false, .int .i64 0] (0, 0) _ rfl (by (with_reducible repeat (first | refine blk_drewN ?_ _ | refine blk_drew ?_ | refine blk_alloc ?_ _)); refine blk_put (cs := #[.int .i64 0, .slice none 0 0, .int .i64 0, .bool false, .int .i64 0]) ?_ 4 _ rfl; (with_reducible repeat (first | refine blk_drewN ?_ _ | refine blk_drew ?_ | refine blk_alloc ?_ _)); refine blk_put (cs := #[.int .i64 0, .slice none 0 0, .int .i64 0, .bool false, .int .i64 0]) ?_ 3 _ rfl; (with_reducible repeat (first | refine blk_drewN ?_ _ | refine blk_drew ?_ | refine blk_alloc ?_ _)); refine blk_put (cs := #[.int .i64 0, .slice none 0 0, .int .i64 0, .bool false, .int .i64 0]) ?_ 2 _ rfl; (with_reducible repeat (first | refine blk_drewN ?_ _ | refine blk_drew ?_ | refine blk_alloc ?_ _)); refine blk_put (cs := #[.int .i64 0, .slice none 0 0, .int .i64 0, .bool false, .int .i64 0]) ?_ 1 _ rfl; (with_reducible repeat (first | refine blk_drewN ?_ _ | refine blk_drew ?_ | refine blk_alloc ?_ _)); refine blk_put (cs := #[.int .i64 0, .slice none 0 0, .int .i64 0, .bool false, .int .i64 0]) ?_ 0 _ rfl; (with_reducible repeat (first | refine blk_drewN ?_ _ | refine blk_drew ?_ | refine blk_alloc ?_ _)); exact BK131.out) Try.underlying27 rfl (by kernel_rfl)) rfl ?_
    exact ⟨_, by first | rfl | (simp [errW_none, errW_some] <;> rfl) | (simp [*, errW_none, errW_some] <;> rfl), by first | exact Kd.S_nil _ _ _ _ _ | exact Kd.N_nil _ _ _ _ _ | exact Kd.V_nil _ _ _ _ _ | exact Kd.Q_nil _ _ _ _ _ | exact Kd.R_nil _ _ _ _ _, by repeat (first | (with_reducible first | exact HB.out | apply below_alloc | apply pw_below_drewN | apply below_drew1 | refine below_set ?_ GE131.out) | exact HB.out)⟩
   ·rw [if_neg c9] at H
    have c9b0 : decide (a1 < 1) = false := decide_eq_false c9
    clear c9
    by_cases c12 : a1 > 1048576
    ·rw [if_pos c12] at H
     have c12b0 : decide (1048576 < a1) = true := decide_eq_true c12
     clear c12
     simp only [Option.some.injEq, Prod.mk.injEq] at H
     obtain ⟨rfl, rfl, rfl, rfl, rfl, rfl⟩ := H
     go_enter Try.func11, Try.ntmps11
     go_wp2_with (first | ((with_reducible refine gate_dst (N := 4) rfl ?_); refine box_event ?hg (N := 4) ?hd (cs := #[.int .i64 0, .slice none 0 0, .int .i64 0, .bool false, .int .i64 0]) (t := 27) ?hr ?_; (case hd => rfl); (case hg => rfl); (case hr => first | (go_simp; done) | (go_simp; rfl)); intro gb131 hg w13 hbox hb; have n0_ := Aside0.mk (below_step (by repeat (first | (with_reducible first | exact HB.out | apply below_alloc | apply pw_below_drewN | apply below_drew1) | exact HB.out)) hb); have n1_ := Aside0.mk (hbox); have n2_ := Aside0.mk ((by rw [hg]; exact (below_size (by repeat (first | (with_reducible first | exact HB.out | apply below_alloc | apply pw_below_drewN | apply below_drew1) | exact HB.out))) : w.heap.size ≤ gb131)); have n3_ := Aside0.mk ((by rw [hg]; exact (below_size (by repeat (first | (with_reducible first | exact HB.out | apply below_alloc | apply pw_below_drewN | apply below_drew1) | exact HB.out))) : w.heap.size ≤ gb131)); clear HB; have HB := n0_; have BK131 := n1_; have GW131 := n2_; have GE131 := n3_; clear n0_ n1_ n2_ n3_; clear hb hbox hg; have hcz14_0 : w13.cell? ⟨gb131, 0, none⟩ = some (.int .i64 0) := (blk_cell BK131.out 0).trans rfl; have hcz14_1 : w13.cell? ⟨gb131, 1, none⟩ = some (.slice none 0 0) := (blk_cell BK131.out 1).trans rfl; have hcz14_2 : w13.cell? ⟨gb131, 2, none⟩ = some (.int .i64 0) := (blk_cell BK131.out 2).trans rfl; have hcz14_3 : w13.cell? ⟨gb131, 3, none⟩ = some (.bool false) := (blk_cell BK131.out 3).trans rfl; have hcz14_4 : w13.cell? ⟨gb131, 4, none⟩ = some (.int .i64 0) := (blk_cell BK131.out 4).trans rfl; have hfz14_0 := blk_frozen BK131.out 0; have hfz14_1 := blk_frozen BK131.out 1; have hfz14_2 := blk_frozen BK131.out 2; have hfz14_3 := blk_frozen BK131.out 3; have hfz14_4 := blk_frozen BK131.out 4))
     refine bodyPost_ret (results_ct rfl _ _ gb131 27 #[.int .i64 0, .slice none 0 0, .int .i64 0, .bool false, .int .i64 0] (0, 0) _ rfl (by (with_reducible repeat (first | refine blk_drewN ?_ _ | refine blk_drew ?_ | refine blk_alloc ?_ _)); refine blk_put (cs := #[.int .i64 0, .slice none 0 0, .int .i64 0, .bool false, .int .i64 0]) ?_ 4 _ rfl; (with_reducible repeat (first | refine blk_drewN ?_ _ | refine blk_drew ?_ | refine blk_alloc ?_ _)); refine blk_put (cs := #[.int .i64 0, .slice none 0 0, .int .i64 0, .bool false, .int .i64 0]) ?_ 3 _ rfl; (with_reducible repeat (first | refine blk_drewN ?_ _ | refine blk_drew ?_ | refine blk_alloc ?_ _)); refine blk_put (cs := #[.int .i64 0, .slice none 0 0, .int .i64 0, .bool false, .int .i64 0]) ?_ 2 _ rfl; (with_reducible repeat (first | refine blk_drewN ?_ _ | refine blk_drew ?_ | refine blk_alloc ?_ _)); refine blk_put (cs := #[.int .i64 0, .slice none 0 0, .int .i64 0, .bool false, .int .i64 0]) ?_ 1 _ rfl; (with_reducible repeat (first | refine blk_drewN ?_ _ | refine blk_drew ?_ | refine blk_alloc ?_ _)); refine blk_put (cs := #[.int .i64 0, .slice none 0 0, .int .i64 0, .bool false, .int .i64 0]) ?_ 0 _ rfl; (with_reducible repeat (first | refine blk_drewN ?_ _ | refine blk_drew ?_ | refine blk_alloc ?_ _)); exact BK131.out) Try.underlying27 rfl (by kernel_rfl)) rfl ?_
     exact ⟨_, by first | rfl | (simp [errW_none, errW_some] <;> rfl) | (simp [*, errW_none, errW_some] <;> rfl), by first | exact Kd.S_nil _ _ _ _ _ | exact Kd.N_nil _ _ _ _ _ | exact Kd.V_nil _ _ _ _ _ | exact Kd.Q_nil _ _ _ _ _ | exact Kd.R_nil _ _ _ _ _, by repeat (first | (with_reducible first | exact HB.out | apply below_alloc | apply pw_below_drewN | apply below_drew1 | refine below_set ?_ GE131.out) | exact HB.out)⟩
    ·rw [if_neg c12] at H
     have c12b0 : decide (1048576 < a1) = false := decide_eq_false c12
     clear c12
     by_cases c15 : 0 ≤ a0
     ·rw [if_pos c15] at H
      have c15b0 := eq_true c15
      have c15b1 : decide (0 ≤ a0) = true := decide_eq_true c15
      clear c15
      by_cases c16 : (a0 : Int).toNat ≤ 5864062014805
      ·rw [if_pos c16] at H
       have c16b0 := eq_true c16
       have c16b1 : decide ((a0 : Int).toNat ≤ 5864062014805) = true := decide_eq_true c16
       clear c16
       obtain ⟨y132, hy132⟩ : ∃ y_ : List (S52), y_ = (List.replicate (a0 : Int).toNat z52) := ⟨_, rfl⟩
       replace H : (some (a1, y132, (-1), false, 0, 0)) = some (r1, r2, r3, r4, r5, r6) := by first | (rw [hy132]; with_reducible exact H) | (have H2_ := (Option.bind_some _ _).symm.trans H; rw [hy132]; with_reducible exact H2_) | (have H2_ := (Option.bind_some _ _).symm.trans H; with_reducible exact H2_) | with_reducible exact H | (rw [hy132]; exact H) | exact H
       have Ny132 := Aside0.mk hy132
       clear hy132
       simp only [Option.some.injEq, Prod.mk.injEq] at H
       obtain ⟨rfl, rfl, rfl, rfl, rfl, rfl⟩ := H
       go_enter Try.func11, Try.ntmps11
       go_wp2_with (first | ((with_reducible refine gate_dst (N := 4) rfl ?_); refine box_event ?hg (N := 4) ?hd (cs := #[.int .i64 0, .slice none 0 0, .int .i64 0, .bool false, .int .i64 0]) (t := 27) ?hr ?_; (case hd => rfl); (case hg => rfl); (case hr => first | (go_simp; done) | (go_simp; rfl)); intro gb131 hg w17 hbox hb; have n0_ := Aside0.mk (below_step (by repeat (first | (with_reducible first | exact HB.out | apply below_alloc | apply pw_below_drewN | apply below_drew1) | exact HB.out)) hb); have n1_ := Aside0.mk (hbox); have n2_ := Aside0.mk ((by rw [hg]; exact (below_size (by repeat (first | (with_reducible first | exact HB.out | apply below_alloc | apply pw_below_drewN | apply below_drew1) | exact HB.out))) : w.heap.size ≤ gb131)); have n3_ := Aside0.mk ((by rw [hg]; exact (below_size (by repeat (first | (with_reducible first | exact HB.out | apply below_alloc | apply pw_below_drewN | apply below_drew1) | exact HB.out))) : w.heap.size ≤ gb131)); clear HB; have HB := n0_; have BK131 := n1_; have GW131 := n2_; have GE131 := n3_; clear n0_ n1_ n2_ n3_; clear hb hbox hg) | ((with_reducible refine gate_dst (N := 23) rfl ?_); refine Kd.S_make k52 _ 52 rfl (N := 23) rfl 25 _ _ rfl a0 rfl rfl Try.underlying25 (.agg #[(.int .i64 0), (.int .i64 0), (.slice none 0 0), (.int .i64 0)]) 48 info52 rfl (by decide) (by omega) z52 (ok := fun _ => True) (okp := fun _ => True) (k52_mkM _ _ _ z52 (Kd.R_nil _ _ _ _ _)) (fun _ hk => hk) trivial (of_decide_eq_true (by first | (with_reducible assumption) | assumption)) (Nat.le_trans (Nat.mul_le_mul_right _ (of_decide_eq_true (by first | (with_reducible assumption) | assumption) : a0.toNat ≤ 5864062014805)) (by omega)) (Below.refl _ _) (Nat.le_refl _) ?_; intro v133 w18 ho19 hb hg_ hnew_; clear hg_ hnew_; (first | rw [← Ny132.out] at ho19 | (simp only [Int.reduceToNat] at ho19; rw [← Ny132.out] at ho19)); have n0_ := Aside0.mk (Kd.S_lower ho19 (below_size (by repeat (first | (with_reducible first | exact HB.out | apply below_alloc | apply pw_below_drewN | apply below_drew1 | refine below_set ?_ GE131.out) | exact HB.out)))); have n1_ := Aside0.mk (blk_below (g := gb131) (o := .cells #[.int .i64 0, .slice none 0 0, .int .i64 0, .bool false, .int .i64 0] 27 (0, 0)) (by (with_reducible repeat (first | refine blk_drewN ?_ _ | refine blk_drew ?_ | refine blk_alloc ?_ _)); exact BK131.out) hb); have n2_ := Aside0.mk (below_step (by repeat (first | (with_reducible first | exact HB.out | apply below_alloc | apply pw_below_drewN | apply below_drew1 | refine below_set ?_ GE131.out) | exact HB.out)) hb); clear BK131; clear HB; have HO134 := n0_; have BK131 := n1_; have HB := n2_; clear n0_ n1_ n2_; clear hb ho19; obtain ⟨Ao20, co20, eo20⟩ := Kd.S_slice HO134.out; subst eo20; have hcz21_0 : w18.cell? ⟨gb131, 0, none⟩ = some (.int .i64 0) := (blk_cell BK131.out 0).trans rfl; have hcz21_1 : w18.cell? ⟨gb131, 1, none⟩ = some (.slice none 0 0) := (blk_cell BK131.out 1).trans rfl; have hcz21_2 : w18.cell? ⟨gb131, 2, none⟩ = some (.int .i64 0) := (blk_cell BK131.out 2).trans rfl; have hcz21_3 : w18.cell? ⟨gb131, 3, none⟩ = some (.bool false) := (blk_cell BK131.out 3).trans rfl; have hcz21_4 : w18.cell? ⟨gb131, 4, none⟩ = some (.int .i64 0) := (blk_cell BK131.out 4).trans rfl; have hfz21_0 := blk_frozen BK131.out 0; have hfz21_1 := blk_frozen BK131.out 1; have hfz21_2 := blk_frozen BK131.out 2; have hfz21_3 := blk_frozen BK131.out 3; have hfz21_4 := blk_frozen BK131.out 4))
       refine bodyPost_ret (results_ct rfl _ _ gb131 27 #[.int .i64 a1, .slice Ao20 y132.length co20, .int .i64 (-1), .bool false, .int .i64 0] (0, 0) _ rfl (by (with_reducible repeat (first | refine blk_drewN ?_ _ | refine blk_drew ?_ | refine blk_alloc ?_ _)); refine blk_put (cs := #[.int .i64 a1, .slice Ao20 y132.length co20, .int .i64 (-1), .bool false, .int .i64 0]) ?_ 4 _ rfl; (with_reducible repeat (first | refine blk_drewN ?_ _ | refine blk_drew ?_ | refine blk_alloc ?_ _)); refine blk_put (cs := #[.int .i64 a1, .slice Ao20 y132.length co20, .int .i64 (-1), .bool false, .int .i64 0]) ?_ 3 _ rfl; (with_reducible repeat (first | refine blk_drewN ?_ _ | refine blk_drew ?_ | refine blk_alloc ?_ _)); refine blk_put (cs := #[.int .i64 a1, .slice Ao20 y132.length co20, .int .i64 0, .bool false, .int .i64 0]) ?_ 2 _ rfl; (with_reducible repeat (first | refine blk_drewN ?_ _ | refine blk_drew ?_ | refine blk_alloc ?_ _)); refine blk_put (cs := #[.int .i64 a1, .slice none 0 0, .int .i64 0, .bool false, .int .i64 0]) ?_ 1 _ rfl; (with_reducible repeat (first | refine blk_drewN ?_ _ | refine blk_drew ?_ | refine blk_alloc ?_ _)); refine blk_put (cs := #[.int .i64 0, .slice none 0 0, .int .i64 0, .bool false, .int .i64 0]) ?_ 0 _ rfl; (with_reducible repeat (first | refine blk_drewN ?_ _ | refine blk_drew ?_ | refine blk_alloc ?_ _)); exact BK131.out) Try.underlying27 rfl (by kernel_rfl)) rfl ?_
       exact ⟨_, by first | rfl | (simp [errW_none, errW_some] <;> rfl) | (simp [*, errW_none, errW_some] <;> rfl), by (with_reducible repeat (first | apply Kd.S_alloc | apply Kd.S_drewN | apply Kd.S_drew)); exact Kd.S_mono (Kd.S_far (p := ⟨gb131, 4, none⟩) (Kd.S_far (p := ⟨gb131, 3, none⟩) (Kd.S_far (p := ⟨gb131, 2, none⟩) (Kd.S_far (p := ⟨gb131, 1, none⟩) (Kd.S_far (p := ⟨gb131, 0, none⟩) (Kd.S_types HO134.out BK131.out (by decide)) (fun _ hk => hk.2) (.int .i64 a1)) (fun _ hk => hk.2) (.slice Ao20 y132.length co20)) (fun _ hk => hk.2) (.int .i64 (-1))) (fun _ hk => hk.2) (.bool false)) (fun _ hk => hk.2) (.int .i64 0)) (fun _ hk => trivial), by repeat (first | (with_reducible first | exact HB.out | apply below_alloc | apply pw_below_drewN | apply below_drew1 | refine below_set ?_ GE131.out) | exact HB.out)⟩
      ·rw [if_neg c16] at H
       exact absurd H (by simp)
     ·rw [if_neg c15] at H
      exact absurd H (by simp)
-- GIVEN: function 37 (dev_Limit)
-- GIVEN: function 24 (dev_Do)
def record_Check.f (a0_0 : Int) (a0_1 : Int) (l0_2 : List Int) : Option (Int) := if a0_0 < 1 then (some 50) else (if a0_0 > 5 then (some 50) else (if a0_1 < 0 then (some 50) else (if a0_1 > 4611686018427387903 then (some 50) else (if (l0_2.length : Int) > 4096 then (some 50) else (some 0)))))
set_option maxHeartbeats 8000000 in
set_option maxRecDepth 100000 in
theorem record_Check.calls (a0_0 : Int) (a0_1 : Int) (A0_2 : Option Addr) (c0_2 : Nat) (l0_2 : List Int) (r : Int) (w : World) (hr0_2 : Kd.C (Kd.int .u8) w A0_2 l0_2.length l0_2) (hc0_2 : l0_2.length ≤ c0_2) (h : record_Check.f a0_0 a0_1 l0_2 = some r) :
  Calls Try.prog 26 #[.agg #[.int .i64 a0_0, .int .i64 a0_1, .slice A0_2 l0_2.length c0_2]] w fun e w' => e = .returned (.int .i64 r) ∧ Below w.heap.size w w' := by
 have hu36 := Try.underlying36
 have HR0_2 := Aside0.mk hr0_2
 have HC0_2 := Aside0.mk hc0_2
 clear hr0_2 hc0_2
 have HB := Aside0.mk (Below.refl w.heap.size w)
 have H : (if a0_0 < 1 then (some 50) else (if a0_0 > 5 then (some 50) else (if a0_1 < 0 then (some 50) else (if a0_1 > 4611686018427387903 then (some 50) else (if (l0_2.length : Int) > 4096 then (some 50) else (some 0)))))) = some r := h
 clear h
 by_cases c2 : a0_0 < 1
 ·rw [if_pos c2] at H
  have c2b0 : decide (a0_0 < 1) = true := decide_eq_true c2
  clear c2
  obtain rfl := Option.some.inj H
  go_enter Try.func26, Try.ntmps26
  go_wp2_with (first | ((with_reducible refine gate_dst (N := 1) rfl ?_); (try (refine gate_guard (by rfl) ?_; dsimp only)); refine box_event ?hg (N := 1) ?hd (cs := #[.int .i64 a0_0, .int .i64 a0_1, .slice A0_2 l0_2.length c0_2]) (t := 36) ?hr ?_; (case hd => rfl); (case hg => rfl); (case hr => first | (go_simp; done) | (go_simp; rfl)); intro gb135 hg w3 hbox hb; have n0_ := Aside0.mk (below_step (by repeat (first | (with_reducible first | exact HB.out | apply below_alloc | apply pw_below_drewN | apply below_drew1) | exact HB.out)) hb); have n1_ := Aside0.mk (hbox); have n2_ := Aside0.mk ((by rw [hg]; exact (below_size (by repeat (first | (with_reducible first | exact HB.out | apply below_alloc | apply pw_below_drewN | apply below_drew1) | exact HB.out))) : w.heap.size ≤ gb135)); have n3_ := Aside0.mk ((by rw [hg]; exact (below_size (by repeat (first | (with_reducible first | exact HB.out | apply below_alloc | apply pw_below_drewN | apply below_drew1) | exact HB.out))) : w.heap.size ≤ gb135)); clear HB; have HB := n0_; have BK135 := n1_; have GW135 := n2_; have GE135 := n3_; clear n0_ n1_ n2_ n3_; clear hb hbox hg; have hcz4_0 : w3.cell? ⟨gb135, 0, none⟩ = some (.int .i64 a0_0) := (blk_cell BK135.out 0).trans rfl; have hcz4_1 : w3.cell? ⟨gb135, 1, none⟩ = some (.int .i64 a0_1) := (blk_cell BK135.out 1).trans rfl; have hcz4_2 : w3.cell? ⟨gb135, 2, none⟩ = some (.slice A0_2 l0_2.length c0_2) := (blk_cell BK135.out 2).trans rfl; have hfz4_0 := blk_frozen BK135.out 0; have hfz4_1 := blk_frozen BK135.out 1; have hfz4_2 := blk_frozen BK135.out 2))
  go_ret
  exact ⟨by first | rfl | (simp [errW_none, errW_some] <;> rfl) | (simp [*, errW_none, errW_some] <;> rfl), by repeat (first | (with_reducible first | exact HB.out | apply below_alloc | apply pw_below_drewN | apply below_drew1 | refine below_set ?_ GE135.out) | exact HB.out)⟩
 ·rw [if_neg c2] at H
  have c2b0 : decide (a0_0 < 1) = false := decide_eq_false c2
  clear c2
  by_cases c5 : a0_0 > 5
  ·rw [if_pos c5] at H
   have c5b0 : decide (5 < a0_0) = true := decide_eq_true c5
   clear c5
   obtain rfl := Option.some.inj H
   go_enter Try.func26, Try.ntmps26
   go_wp2_with (first | ((with_reducible refine gate_dst (N := 1) rfl ?_); (try (refine gate_guard (by rfl) ?_; dsimp only)); refine box_event ?hg (N := 1) ?hd (cs := #[.int .i64 a0_0, .int .i64 a0_1, .slice A0_2 l0_2.length c0_2]) (t := 36) ?hr ?_; (case hd => rfl); (case hg => rfl); (case hr => first | (go_simp; done) | (go_simp; rfl)); intro gb135 hg w6 hbox hb; have n0_ := Aside0.mk (below_step (by repeat (first | (with_reducible first | exact HB.out | apply below_alloc | apply pw_below_drewN | apply below_drew1) | exact HB.out)) hb); have n1_ := Aside0.mk (hbox); have n2_ := Aside0.mk ((by rw [hg]; exact (below_size (by repeat (first | (with_reducible first | exact HB.out | apply below_alloc | apply pw_below_drewN | apply below_drew1) | exact HB.out))) : w.heap.size ≤ gb135)); have n3_ := Aside0.mk ((by rw [hg]; exact (below_size (by repeat (first | (with_reducible first | exact HB.out | apply below_alloc | apply pw_below_drewN | apply below_drew1) | exact HB.out))) : w.heap.size ≤ gb135)); clear HB; have HB := n0_; have BK135 := n1_; have GW135 := n2_; have GE135 := n3_; clear n0_ n1_ n2_ n3_; clear hb hbox hg; have hcz7_0 : w6.cell? ⟨gb135, 0, none⟩ = some (.int .i64 a0_0) := (blk_cell BK135.out 0).trans rfl; have hcz7_1 : w6.cell? ⟨gb135, 1, none⟩ = some (.int .i64 a0_1) := (blk_cell BK135.out 1).trans rfl; have hcz7_2 : w6.cell? ⟨gb135, 2, none⟩ = some (.slice A0_2 l0_2.length c0_2) := (blk_cell BK135.out 2).trans rfl; have hfz7_0 := blk_frozen BK135.out 0; have hfz7_1 := blk_frozen BK135.out 1; have hfz7_2 := blk_frozen BK135.out 2))
   go_ret
   exact ⟨by first | rfl | (simp [errW_none, errW_some] <;> rfl) | (simp [*, errW_none, errW_some] <;> rfl), by repeat (first | (with_reducible first | exact HB.out | apply below_alloc | apply pw_below_drewN | apply below_drew1 | refine below_set ?_ GE135.out) | exact HB.out)⟩
  ·rw [if_neg c5] at H
   have c5b0 : decide (5 < a0_0) = false := decide_eq_false c5
   clear c5
   by_cases c8 : a0_1 < 0
   ·rw [if_pos c8] at H
    have c8b0 : decide (a0_1 < 0) = true := decide_eq_true c8
    clear c8
    obtain rfl := Option.some.inj H
    go_enter Try.func26, Try.ntmps26
    go_wp2_with (first | ((with_reducible refine gate_dst (N := 1) rfl ?_); (try (refine gate_guard (by rfl) ?_; dsimp only)); refine box_event ?hg (N := 1) ?hd (cs := #[.int .i64 a0_0, .int .i64 a0_1, .slice A0_2 l0_2.length c0_2]) (t := 36) ?hr ?_; (case hd => rfl); (case hg => rfl); (case hr => first | (go_simp; done) | (go_simp; rfl)); intro gb135 hg w9 hbox hb; have n0_ := Aside0.mk (below_step (by repeat (first | (with_reducible first | exact HB.out | apply below_alloc | apply pw_below_drewN | apply below_drew1) | exact HB.out)) hb); have n1_ := Aside0.mk (hbox); have n2_ := Aside0.mk ((by rw [hg]; exact (below_size (by repeat (first | (with_reducible first | exact HB.out | apply below_alloc | apply pw_below_drewN | apply below_drew1) | exact HB.out))) : w.heap.size ≤ gb135)); have n3_ := Aside0.mk ((by rw [hg]; exact (below_size (by repeat (first | (with_reducible first | exact HB.out | apply below_alloc | apply pw_below_drewN | apply below_drew1) | exact HB.out))) : w.heap.size ≤ gb135)); clear HB; have HB := n0_; have BK135 := n1_; have GW135 := n2_; have GE135 := n3_; clear n0_ n1_ n2_ n3_; clear hb hbox hg; have hcz10_0 : w9.cell? ⟨gb135, 0, none⟩ = some (.int .i64 a0_0) := (blk_cell BK135.out 0).trans rfl; have hcz10_1 : w9.cell? ⟨gb135, 1, none⟩ = some (.int .i64 a0_1) := (blk_cell BK135.out 1).trans rfl; have hcz10_2 : w9.cell? ⟨gb135, 2, none⟩ = some (.slice A0_2 l0_2.length c0_2) := (blk_cell BK135.out 2).trans rfl; have hfz10_0 := blk_frozen BK135.out 0; have hfz10_1 := blk_frozen BK135.out 1; have hfz10_2 := blk_frozen BK135.out 2))
    go_ret
    exact ⟨by first | rfl | (simp [errW_none, errW_some] <;> rfl) | (simp [*, errW_none, errW_some] <;> rfl), by repeat (first | (with_reducible first | exact HB.out | apply below_alloc | apply pw_below_drewN | apply below_drew1 | refine below_set ?_ GE135.out) | exact HB.out)⟩
   ·rw [if_neg c8] at H
    have c8b0 : decide (a0_1 < 0) = false := decide_eq_false c8
    clear c8
    by_cases c11 : a0_1 > 4611686018427387903
    ·rw [if_pos c11] at H
     have c11b0 : decide (4611686018427387903 < a0_1) = true := decide_eq_true c11
     clear c11
     obtain rfl := Option.some.inj H
     go_enter Try.func26, Try.ntmps26
     go_wp2_with (first | ((with_reducible refine gate_dst (N := 1) rfl ?_); (try (refine gate_guard (by rfl) ?_; dsimp only)); refine box_event ?hg (N := 1) ?hd (cs := #[.int .i64 a0_0, .int .i64 a0_1, .slice A0_2 l0_2.length c0_2]) (t := 36) ?hr ?_; (case hd => rfl); (case hg => rfl); (case hr => first | (go_simp; done) | (go_simp; rfl)); intro gb135 hg w12 hbox hb; have n0_ := Aside0.mk (below_step (by repeat (first | (with_reducible first | exact HB.out | apply below_alloc | apply pw_below_drewN | apply below_drew1) | exact HB.out)) hb); have n1_ := Aside0.mk (hbox); have n2_ := Aside0.mk ((by rw [hg]; exact (below_size (by repeat (first | (with_reducible first | exact HB.out | apply below_alloc | apply pw_below_drewN | apply below_drew1) | exact HB.out))) : w.heap.size ≤ gb135)); have n3_ := Aside0.mk ((by rw [hg]; exact (below_size (by repeat (first | (with_reducible first | exact HB.out | apply below_alloc | apply pw_below_drewN | apply below_drew1) | exact HB.out))) : w.heap.size ≤ gb135)); clear HB; have HB := n0_; have BK135 := n1_; have GW135 := n2_; have GE135 := n3_; clear n0_ n1_ n2_ n3_; clear hb hbox hg; have hcz13_0 : w12.cell? ⟨gb135, 0, none⟩ = some (.int .i64 a0_0) := (blk_cell BK135.out 0).trans rfl; have hcz13_1 : w12.cell? ⟨gb135, 1, none⟩ = some (.int .i64 a0_1) := (blk_cell BK135.out 1).trans rfl; have hcz13_2 : w12.cell? ⟨gb135, 2, none⟩ = some (.slice A0_2 l0_2.length c0_2) := (blk_cell BK135.out 2).trans rfl; have hfz13_0 := blk_frozen BK135.out 0; have hfz13_1 := blk_frozen BK135.out 1; have hfz13_2 := blk_frozen BK135.out 2))
     go_ret
     exact ⟨by first | rfl | (simp [errW_none, errW_some] <;> rfl) | (simp [*, errW_none, errW_some] <;> rfl), by repeat (first | (with_reducible first | exact HB.out | apply below_alloc | apply pw_below_drewN | apply below_drew1 | refine below_set ?_ GE135.out) | exact HB.out)⟩
    ·rw [if_neg c11] at H
     have c11b0 : decide (4611686018427387903 < a0_1) = false := decide_eq_false c11
     clear c11
     by_cases c14 : (l0_2.length : Int) > 4096
     ·rw [if_pos c14] at H
      have c14b0 : decide (4096 < (l0_2.length : Int)) = true := decide_eq_true c14
      have c14b1 : decide (4096 < l0_2.length) = true := decide_eq_true (by omega)
      clear c14
      obtain rfl := Option.some.inj H
      go_enter Try.func26, Try.ntmps26
      go_wp2_with (first | ((with_reducible refine gate_dst (N := 1) rfl ?_); (try (refine gate_guard (by rfl) ?_; dsimp only)); refine box_event ?hg (N := 1) ?hd (cs := #[.int .i64 a0_0, .int .i64 a0_1, .slice A0_2 l0_2.length c0_2]) (t := 36) ?hr ?_; (case hd => rfl); (case hg => rfl); (case hr => first | (go_simp; done) | (go_simp; rfl)); intro gb135 hg w15 hbox hb; have n0_ := Aside0.mk (below_step (by repeat (first | (with_reducible first | exact HB.out | apply below_alloc | apply pw_below_drewN | apply below_drew1) | exact HB.out)) hb); have n1_ := Aside0.mk (hbox); have n2_ := Aside0.mk ((by rw [hg]; exact (below_size (by repeat (first | (with_reducible first | exact HB.out | apply below_alloc | apply pw_below_drewN | apply below_drew1) | exact HB.out))) : w.heap.size ≤ gb135)); have n3_ := Aside0.mk ((by rw [hg]; exact (below_size (by repeat (first | (with_reducible first | exact HB.out | apply below_alloc | apply pw_below_drewN | apply below_drew1) | exact HB.out))) : w.heap.size ≤ gb135)); clear HB; have HB := n0_; have BK135 := n1_; have GW135 := n2_; have GE135 := n3_; clear n0_ n1_ n2_ n3_; clear hb hbox hg; have hcz16_0 : w15.cell? ⟨gb135, 0, none⟩ = some (.int .i64 a0_0) := (blk_cell BK135.out 0).trans rfl; have hcz16_1 : w15.cell? ⟨gb135, 1, none⟩ = some (.int .i64 a0_1) := (blk_cell BK135.out 1).trans rfl; have hcz16_2 : w15.cell? ⟨gb135, 2, none⟩ = some (.slice A0_2 l0_2.length c0_2) := (blk_cell BK135.out 2).trans rfl; have hfz16_0 := blk_frozen BK135.out 0; have hfz16_1 := blk_frozen BK135.out 1; have hfz16_2 := blk_frozen BK135.out 2))
      go_ret
      exact ⟨by first | rfl | (simp [errW_none, errW_some] <;> rfl) | (simp [*, errW_none, errW_some] <;> rfl), by repeat (first | (with_reducible first | exact HB.out | apply below_alloc | apply pw_below_drewN | apply below_drew1 | refine below_set ?_ GE135.out) | exact HB.out)⟩
     ·rw [if_neg c14] at H
      have c14b0 : decide (4096 < (l0_2.length : Int)) = false := decide_eq_false c14
      have c14b1 : decide (4096 < l0_2.length) = false := decide_eq_false (by omega)
      clear c14
      obtain rfl := Option.some.inj H
      go_enter Try.func26, Try.ntmps26
      go_wp2_with (first | ((with_reducible refine gate_dst (N := 1) rfl ?_); (try (refine gate_guard (by rfl) ?_; dsimp only)); refine box_event ?hg (N := 1) ?hd (cs := #[.int .i64 a0_0, .int .i64 a0_1, .slice A0_2 l0_2.length c0_2]) (t := 36) ?hr ?_; (case hd => rfl); (case hg => rfl); (case hr => first | (go_simp; done) | (go_simp; rfl)); intro gb135 hg w17 hbox hb; have n0_ := Aside0.mk (below_step (by repeat (first | (with_reducible first | exact HB.out | apply below_alloc | apply pw_below_drewN | apply below_drew1) | exact HB.out)) hb); have n1_ := Aside0.mk (hbox); have n2_ := Aside0.mk ((by rw [hg]; exact (below_size (by repeat (first | (with_reducible first | exact HB.out | apply below_alloc | apply pw_below_drewN | apply below_drew1) | exact HB.out))) : w.heap.size ≤ gb135)); have n3_ := Aside0.mk ((by rw [hg]; exact (below_size (by repeat (first | (with_reducible first | exact HB.out | apply below_alloc | apply pw_below_drewN | apply below_drew1) | exact HB.out))) : w.heap.size ≤ gb135)); clear HB; have HB := n0_; have BK135 := n1_; have GW135 := n2_; have GE135 := n3_; clear n0_ n1_ n2_ n3_; clear hb hbox hg; have hcz18_0 : w17.cell? ⟨gb135, 0, none⟩ = some (.int .i64 a0_0) := (blk_cell BK135.out 0).trans rfl; have hcz18_1 : w17.cell? ⟨gb135, 1, none⟩ = some (.int .i64 a0_1) := (blk_cell BK135.out 1).trans rfl; have hcz18_2 : w17.cell? ⟨gb135, 2, none⟩ = some (.slice A0_2 l0_2.length c0_2) := (blk_cell BK135.out 2).trans rfl; have hfz18_0 := blk_frozen BK135.out 0; have hfz18_1 := blk_frozen BK135.out 1; have hfz18_2 := blk_frozen BK135.out 2))
      go_ret
      exact ⟨by first | rfl | (simp [errW_none, errW_some] <;> rfl) | (simp [*, errW_none, errW_some] <;> rfl), by repeat (first | (with_reducible first | exact HB.out | apply below_alloc | apply pw_below_drewN | apply below_drew1 | refine below_set ?_ GE135.out) | exact HB.out)⟩
-- GIVEN: function 55 (le_Pack)
-- GIVEN: function 70 (bytes_Clone)
def le_may.f (a0 : Int) (a1 : Int) : Option (Bool) := if a1 = 1 then (if 0 ≤ (wrap64 (8 * a1)) then (some ((shr .u64 a0 (wrap64 (8 * a1))) == 0)) else (none)) else (if a1 = 2 then (if 0 ≤ (wrap64 (8 * a1)) then (some ((shr .u64 a0 (wrap64 (8 * a1))) == 0)) else (none)) else (if a1 = 4 then (if 0 ≤ (wrap64 (8 * a1)) then (some ((shr .u64 a0 (wrap64 (8 * a1))) == 0)) else (none)) else (some (a1 == 8))))
set_option maxHeartbeats 8000000 in
set_option maxRecDepth 100000 in
theorem le_may.calls (a0 : Int) (a1 : Int) (r : Bool) (w : World) (h : le_may.f a0 a1 = some r) :
  Calls Try.prog 94 #[.int .u64 a0, .int .i64 a1] w fun e w' => e = .returned (.bool r) ∧ Drawn0 w w' := by
 have H : (if a1 = 1 then (if 0 ≤ (wrap64 (8 * a1)) then (some ((shr .u64 a0 (wrap64 (8 * a1))) == 0)) else (none)) else (if a1 = 2 then (if 0 ≤ (wrap64 (8 * a1)) then (some ((shr .u64 a0 (wrap64 (8 * a1))) == 0)) else (none)) else (if a1 = 4 then (if 0 ≤ (wrap64 (8 * a1)) then (some ((shr .u64 a0 (wrap64 (8 * a1))) == 0)) else (none)) else (some (a1 == 8))))) = some r := h
 clear h
 by_cases c3 : a1 = 1
 ·rw [if_pos c3] at H
  have c3b0 : (a1 == 1) = true := beq_iff_eq.mpr c3
  have c3b1 : (a1 != 1) = false := bne_eq_false_iff_eq.mpr c3
  clear c3
  obtain ⟨ji4, hji4⟩ : ∃ j_ : Int, (wrap64 (8 * a1)) = j_ := ⟨_, rfl⟩
  replace H : (if 0 ≤ (ji4) then (some ((shr .u64 a0 (ji4)) == 0)) else (none)) = some r := by first | (rw [hji4] at H; exact H) | (simp only [hji4] at H ⊢; exact H)
  have hji4w : (IntKind.i64.wrap (8 * a1)) = ji4 := (i64_w _).trans hji4
  by_cases c5 : 0 ≤ (ji4)
  ·rw [if_pos c5] at H
   have c5b0 := eq_true c5
   have c5b1 : decide (0 ≤ (ji4)) = true := decide_eq_true c5
   clear c5
   obtain ⟨ji6, hji6⟩ : ∃ j_ : Int, (shr .u64 a0 (ji4)) = j_ := ⟨_, rfl⟩
   replace H : (some ((ji6) == 0)) = some r := by first | (rw [hji6] at H; exact H) | (simp only [hji6] at H ⊢; exact H)
   have hji6_ : (a0 / 2 ^ min (ji4).toNat 64) = ji6 := hji6
   have hji6z : (ji4) ≤ 64 → (a0 / 2 ^ (ji4).toNat) = ji6 := shr_small hji6
   obtain rfl := Option.some.inj H
   go_enter Try.func94, Try.ntmps94
   go_wp2
   go_ret
   exact ⟨by first | rfl | (simp; done) | (simp only [← hji4, ← hji6] <;> (first | rfl | simp)) | (simp [*]; done), by repeat (first | exact Drawn0.refl _ | apply Drawn0.step)⟩
  ·rw [if_neg c5] at H
   exact absurd H (by simp)
 ·rw [if_neg c3] at H
  have c3b0 : (a1 == 1) = false := beq_eq_false_iff_ne.mpr c3
  have c3b1 : (a1 != 1) = true := bne_iff_ne.mpr c3
  by_cases c7 : a1 = 2
  ·rw [if_pos c7] at H
   have c7b0 : (a1 == 2) = true := beq_iff_eq.mpr c7
   have c7b1 : (a1 != 2) = false := bne_eq_false_iff_eq.mpr c7
   clear c7
   obtain ⟨ji8, hji8⟩ : ∃ j_ : Int, (wrap64 (8 * a1)) = j_ := ⟨_, rfl⟩
   replace H : (if 0 ≤ (ji8) then (some ((shr .u64 a0 (ji8)) == 0)) else (none)) = some r := by first | (rw [hji8] at H; exact H) | (simp only [hji8] at H ⊢; exact H)
   have hji8w : (IntKind.i64.wrap (8 * a1)) = ji8 := (i64_w _).trans hji8
   by_cases c9 : 0 ≤ (ji8)
   ·rw [if_pos c9] at H
    have c9b0 := eq_true c9
    have c9b1 : decide (0 ≤ (ji8)) = true := decide_eq_true c9
    clear c9
    obtain ⟨ji10, hji10⟩ : ∃ j_ : Int, (shr .u64 a0 (ji8)) = j_ := ⟨_, rfl⟩
    replace H : (some ((ji10) == 0)) = some r := by first | (rw [hji10] at H; exact H) | (simp only [hji10] at H ⊢; exact H)
    have hji10_ : (a0 / 2 ^ min (ji8).toNat 64) = ji10 := hji10
    have hji10z : (ji8) ≤ 64 → (a0 / 2 ^ (ji8).toNat) = ji10 := shr_small hji10
    obtain rfl := Option.some.inj H
    go_enter Try.func94, Try.ntmps94
    go_wp2
    go_ret
    exact ⟨by first | rfl | (simp; done) | (simp only [← hji8, ← hji10] <;> (first | rfl | simp)) | (simp [*]; done), by repeat (first | exact Drawn0.refl _ | apply Drawn0.step)⟩
   ·rw [if_neg c9] at H
    exact absurd H (by simp)
  ·rw [if_neg c7] at H
   have c7b0 : (a1 == 2) = false := beq_eq_false_iff_ne.mpr c7
   have c7b1 : (a1 != 2) = true := bne_iff_ne.mpr c7
   by_cases c11 : a1 = 4
   ·rw [if_pos c11] at H
    have c11b0 : (a1 == 4) = true := beq_iff_eq.mpr c11
    have c11b1 : (a1 != 4) = false := bne_eq_false_iff_eq.mpr c11
    clear c11
    obtain ⟨ji12, hji12⟩ : ∃ j_ : Int, (wrap64 (8 * a1)) = j_ := ⟨_, rfl⟩
    replace H : (if 0 ≤ (ji12) then (some ((shr .u64 a0 (ji12)) == 0)) else (none)) = some r := by first | (rw [hji12] at H; exact H) | (simp only [hji12] at H ⊢; exact H)
    have hji12w : (IntKind.i64.wrap (8 * a1)) = ji12 := (i64_w _).trans hji12
    by_cases c13 : 0 ≤ (ji12)
    ·rw [if_pos c13] at H
     have c13b0 := eq_true c13
     have c13b1 : decide (0 ≤ (ji12)) = true := decide_eq_true c13
     clear c13
     obtain ⟨ji14, hji14⟩ : ∃ j_ : Int, (shr .u64 a0 (ji12)) = j_ := ⟨_, rfl⟩
     replace H : (some ((ji14) == 0)) = some r := by first | (rw [hji14] at H; exact H) | (simp only [hji14] at H ⊢; exact H)
     have hji14_ : (a0 / 2 ^ min (ji12).toNat 64) = ji14 := hji14
     have hji14z : (ji12) ≤ 64 → (a0 / 2 ^ (ji12).toNat) = ji14 := shr_small hji14
     obtain rfl := Option.some.inj H
     go_enter Try.func94, Try.ntmps94
     go_wp2
     go_ret
     exact ⟨by first | rfl | (simp; done) | (simp only [← hji12, ← hji14] <;> (first | rfl | simp)) | (simp [*]; done), by repeat (first | exact Drawn0.refl _ | apply Drawn0.step)⟩
    ·rw [if_neg c13] at H
     exact absurd H (by simp)
   ·rw [if_neg c11] at H
    have c11b0 : (a1 == 4) = false := beq_eq_false_iff_ne.mpr c11
    have c11b1 : (a1 != 4) = true := bne_iff_ne.mpr c11
    obtain rfl := Option.some.inj H
    go_enter Try.func94, Try.ntmps94
    go_wp2
    go_ret
    exact ⟨by first | rfl | (simp; done) | (simp [*]; done), by repeat (first | exact Drawn0.refl _ | apply Drawn0.step)⟩
-- GIVEN: function 96 (crc_More)
-- GIVEN: function 20 (dev_Check)
-- GIVEN: function 64 (log_first)
def dev_Open.l0 : Nat → Int → List (S52) → Int → Int → Option (Int)
 | 0, _, _, _, _ => none
 | k + 1, x2, x6, x7, x8 => if x8 < x7 then (if 0 ≤ x8 then (if x8 < (x6.length : Int) then (if ((rd_T52 x6 x8).f0) = 1 then (dev_Open.l0 k (wrap64 (x2 + 1)) x6 x7 (wrap64 (x8 + 1))) else (dev_Open.l0 k x2 x6 x7 (wrap64 (x8 + 1)))) else (none)) else (none)) else (some x2)
def dev_Open.f (k : Nat) (a0_0 : Int) (l0_1 : List (S52)) (a0_2 : Int) (a0_3 : Bool) (a0_4 : Int) : Option (Int) := dev_Open.l0 k 0 l0_1 (l0_1.length : Int) 0
set_option maxHeartbeats 8000000 in
set_option maxRecDepth 100000 in
theorem dev_Open.calls (k : Nat) (a0_0 : Int) (A0_1 : Option Addr) (c0_1 : Nat) (l0_1 : List (S52)) (a0_2 : Int) (a0_3 : Bool) (a0_4 : Int) (r : Int) (w : World) (hr0_1 : Kd.C k52 w A0_1 l0_1.length l0_1) (hc0_1 : l0_1.length ≤ c0_1) (h : dev_Open.f k a0_0 l0_1 a0_2 a0_3 a0_4 = some r) :
  Calls Try.prog 65 #[.agg #[.int .i64 a0_0, .slice A0_1 l0_1.length c0_1, .int .i64 a0_2, .bool a0_3, .int .i64 a0_4]] w fun e w' => e = .returned (.int .i64 r) ∧ Below w.heap.size w w' := by
 have hu27 := Try.underlying27
 have hu52 := Try.underlying52
 have HR0_1 := Aside0.mk hr0_1
 have HC0_1 := Aside0.mk hc0_1
 clear hr0_1 hc0_1
 have HB := Aside0.mk (Below.refl w.heap.size w)
 have H : (dev_Open.l0 k 0 l0_1 (l0_1.length : Int) 0) = some r := h
 clear h
 have H' := Aside0.mk H
 clear H
 go_enter Try.func65, Try.ntmps65
 go_wp2_with (first | ((with_reducible refine gate_dst (N := 1) rfl ?_); refine box_event ?hg (N := 1) ?hd (cs := #[.int .i64 a0_0, .slice A0_1 l0_1.length c0_1, .int .i64 a0_2, .bool a0_3, .int .i64 a0_4]) (t := 27) ?hr ?_; (case hd => rfl); (case hg => rfl); (case hr => first | (go_simp; done) | (go_simp; rfl)); intro gb164 hg w2 hbox hb; have n0_ := Aside0.mk (below_step (by repeat (first | (with_reducible first | exact HB.out | apply below_alloc | apply pw_below_drewN | apply below_drew1) | exact HB.out)) hb); have n1_ := Aside0.mk (hbox); have n2_ := Aside0.mk ((by rw [hg]; exact (below_size (by repeat (first | (with_reducible first | exact HB.out | apply below_alloc | apply pw_below_drewN | apply below_drew1) | exact HB.out))) : w.heap.size ≤ gb164)); have n3_ := Aside0.mk ((by rw [hg]; exact (below_size (by repeat (first | (with_reducible first | exact HB.out | apply below_alloc | apply pw_below_drewN | apply below_drew1) | exact HB.out))) : w.heap.size ≤ gb164)); clear HB; have HB := n0_; have BK164 := n1_; have GW164 := n2_; have GE164 := n3_; clear n0_ n1_ n2_ n3_; clear hb hbox hg; have hcz3_0 : w2.cell? ⟨gb164, 0, none⟩ = some (.int .i64 a0_0) := (blk_cell BK164.out 0).trans rfl; have hcz3_1 : w2.cell? ⟨gb164, 1, none⟩ = some (.slice A0_1 l0_1.length c0_1) := (blk_cell BK164.out 1).trans rfl; have hcz3_2 : w2.cell? ⟨gb164, 2, none⟩ = some (.int .i64 a0_2) := (blk_cell BK164.out 2).trans rfl; have hcz3_3 : w2.cell? ⟨gb164, 3, none⟩ = some (.bool a0_3) := (blk_cell BK164.out 3).trans rfl; have hcz3_4 : w2.cell? ⟨gb164, 4, none⟩ = some (.int .i64 a0_4) := (blk_cell BK164.out 4).trans rfl; have hfz3_0 := blk_frozen BK164.out 0; have hfz3_1 := blk_frozen BK164.out 1; have hfz3_2 := blk_frozen BK164.out 2; have hfz3_3 := blk_frozen BK164.out 3; have hfz3_4 := blk_frozen BK164.out 4))
 go_loopg [2, 8] k (fun kq v2 v8 w' => ∃ (x2_1 : Int) (x8_1 : Int), v2 = .int .i64 x2_1 ∧ v8 = .int .i64 x8_1 ∧ Aside0 (dev_Open.l0 kq x2_1 l0_1 (l0_1.length : Int) x8_1 = some r) ∧ Aside0 (kq ≤ k) ∧ Aside0 (w'.heap[gb164]? = some (.cells #[.int .i64 a0_0, (.slice A0_1 l0_1.length c0_1), .int .i64 a0_2, .bool a0_3, .int .i64 a0_4] 27 (0, 0))) ∧ Aside0 (Below w.heap.size w w'))
 case atStart => exact ⟨(0), (0), (by first | rfl | (simp; done) | (simp [*]; done)), (by first | rfl | (simp; done) | (simp [*]; done)), H', ⟨Nat.le_refl _⟩, ⟨by (with_reducible repeat (first | refine blk_drewN ?_ _ | refine blk_drew ?_ | refine blk_alloc ?_ _)); exact BK164.out⟩, ⟨by repeat (first | (with_reducible first | exact HB.out | apply below_alloc | apply pw_below_drewN | apply below_drew1 | refine below_set ?_ GE164.out) | exact HB.out)⟩⟩
 case round =>
  clear H'
  try clear p2
  try clear hcz3_0
  try clear hcz3_1
  try clear hcz3_2
  try clear hcz3_3
  try clear hcz3_4
  try clear hfz3_0
  try clear hfz3_1
  try clear hfz3_2
  try clear hfz3_3
  try clear hfz3_4
  obtain ⟨x2_1, x8_1, rfl, rfl, HA, HK1, BK164, HB⟩ := hrel
  cases gk with
  | zero => exact absurd HA.out (by simp [dev_Open.l0])
  | succ k1 =>
   have H := HA.out
   clear HA
   simp only [dev_Open.l0] at H
   by_cases c4 : x8_1 < (l0_1.length : Int)
   ·rw [if_pos c4] at H
    have c4b0 : decide (x8_1 < (l0_1.length : Int)) = true := decide_eq_true c4
    clear c4
    by_cases c5 : 0 ≤ x8_1
    ·rw [if_pos c5] at H
     have c5b0 : decide (0 ≤ x8_1) = true := decide_eq_true c5
     clear c5
     by_cases c6 : x8_1 < (l0_1.length : Int)
     ·rw [if_pos c6] at H
      have c6b0 : decide (x8_1 < (l0_1.length : Int)) = true := decide_eq_true c6
      clear c6
      by_cases c7 : ((rd_T52 l0_1 x8_1).f0) = 1
      ·rw [if_pos c7] at H
       have c7b0 : (((rd_T52 l0_1 x8_1).f0) == 1) = true := beq_iff_eq.mpr c7
       have c7b1 : (((rd_T52 l0_1 x8_1).f0) != 1) = false := bne_eq_false_iff_eq.mpr c7
       clear c7
       have H' := Aside0.mk H
       clear H
       have p165 : 0 ≤ (x8_1 : Int) := of_decide_eq_true (by first | (with_reducible assumption) | assumption)
       have q165 : x8_1 < (l0_1.length : Int) := of_decide_eq_true (by first | (with_reducible assumption) | assumption)
       obtain ⟨ad165, A165_2, c165_2, e165, hx165_0, hx165_1, hx165_2, hx165_3, hl165_2, hi165_2⟩ := at_T52 HR0_1.out x8_1 p165 q165
       cases e165
       replace hx165_0 := (HB.out.cell (World.block_lt_of_cell? w _ hx165_0)).trans hx165_0
       replace hx165_1 := (HB.out.cell (World.block_lt_of_cell? w _ hx165_1)).trans hx165_1
       replace hx165_2 := (HB.out.cell (World.block_lt_of_cell? w _ hx165_2)).trans hx165_2
       replace hx165_3 := (HB.out.cell (World.block_lt_of_cell? w _ hx165_3)).trans hx165_3
       have HR165_2 := Aside0.mk hi165_2
       have HC165_2 := Aside0.mk hl165_2
       clear hi165_2 hl165_2
       replace p165 := eq_true p165
       replace q165 := eq_true q165
       go_wp2_with (first | ((with_reducible refine gate_dst (N := 4) rfl ?_); refine box_event ?hg (N := 4) ?hd (cs := #[.int .i64 0, .int .i64 0, .slice none 0 0, .int .i64 0]) (t := 52) ?hr ?_; (case hd => rfl); (case hg => rfl); (case hr => first | (go_simp; done) | (go_simp; rfl)); intro gb166 hg w8 hbox hb; have n0_ := Aside0.mk (blk_below (g := gb164) (o := .cells #[.int .i64 a0_0, .slice (some ad165) l0_1.length c0_1, .int .i64 a0_2, .bool a0_3, .int .i64 a0_4] 27 (0, 0)) (by (with_reducible repeat (first | refine blk_drewN ?_ _ | refine blk_drew ?_ | refine blk_alloc ?_ _)); exact BK164.out) hb); have n1_ := Aside0.mk (below_step (by repeat (first | (with_reducible first | exact HB.out | apply below_alloc | apply pw_below_drewN | apply below_drew1 | refine below_set ?_ GE164.out) | exact HB.out)) hb); have n2_ := Aside0.mk (hbox); have n3_ := Aside0.mk ((by rw [hg]; exact (below_size (by repeat (first | (with_reducible first | exact HB.out | apply below_alloc | apply pw_below_drewN | apply below_drew1 | refine below_set ?_ GE164.out) | exact HB.out))) : w.heap.size ≤ gb166)); have n4_ := Aside0.mk ((by rw [hg]; exact (below_size (by repeat (first | (with_reducible first | exact HB.out | apply below_alloc | apply pw_below_drewN | apply below_drew1 | refine below_set ?_ GE164.out) | exact HB.out))) : w.heap.size ≤ gb166)); have n5_ := Aside0.mk ((by rw [hg]; exact Nat.ne_of_lt (blk_lt (g := gb164) (o := .cells #[.int .i64 a0_0, .slice (some ad165) l0_1.length c0_1, .int .i64 a0_2, .bool a0_3, .int .i64 a0_4] 27 (0, 0)) (by (with_reducible repeat (first | refine blk_drewN ?_ _ | refine blk_drew ?_ | refine blk_alloc ?_ _)); exact BK164.out)) : gb164 ≠ gb166)); have n6_ := Aside0.mk ((by rw [hg]; exact Nat.ne_of_gt (blk_lt (g := gb164) (o := .cells #[.int .i64 a0_0, .slice (some ad165) l0_1.length c0_1, .int .i64 a0_2, .bool a0_3, .int .i64 a0_4] 27 (0, 0)) (by (with_reducible repeat (first | refine blk_drewN ?_ _ | refine blk_drew ?_ | refine blk_alloc ?_ _)); exact BK164.out)) : gb166 ≠ gb164)); clear BK164; clear HB; have BK164 := n0_; have HB := n1_; have BK166 := n2_; have GW166 := n3_; have GE166 := n4_; have NB164_166 := n5_; have NB166_164 := n6_; clear n0_ n1_ n2_ n3_ n4_ n5_ n6_; clear hb hbox hg; have hnb9 := NB166_164.out; have hnc9 := NB164_166.out; have hcz10_0 : w8.cell? ⟨gb166, 0, none⟩ = some (.int .i64 0) := (blk_cell BK166.out 0).trans rfl; have hcz10_1 : w8.cell? ⟨gb166, 1, none⟩ = some (.int .i64 0) := (blk_cell BK166.out 1).trans rfl; have hcz10_2 : w8.cell? ⟨gb166, 2, none⟩ = some (.slice none 0 0) := (blk_cell BK166.out 2).trans rfl; have hcz10_3 : w8.cell? ⟨gb166, 3, none⟩ = some (.int .i64 0) := (blk_cell BK166.out 3).trans rfl; have hfz10_0 := blk_frozen BK166.out 0; have hfz10_1 := blk_frozen BK166.out 1; have hfz10_2 := blk_frozen BK166.out 2; have hfz10_3 := blk_frozen BK166.out 3))
       go_roundg k1
       case measure => have := HK1.out; omega
       case rel => exact ⟨(wrap64 (x2_1 + 1)), (wrap64 (x8_1 + 1)), (by first | rfl | (simp; done) | (simp [*]; done)), (by first | rfl | (simp; done) | (simp [*]; done)), H', ⟨by have := HK1.out; omega⟩, ⟨by (with_reducible repeat (first | refine blk_drewN ?_ _ | refine blk_drew ?_ | refine blk_alloc ?_ _)); refine blk_far ?_ NB164_166.out _; (with_reducible repeat (first | refine blk_drewN ?_ _ | refine blk_drew ?_ | refine blk_alloc ?_ _)); refine blk_far ?_ NB164_166.out _; (with_reducible repeat (first | refine blk_drewN ?_ _ | refine blk_drew ?_ | refine blk_alloc ?_ _)); refine blk_far ?_ NB164_166.out _; (with_reducible repeat (first | refine blk_drewN ?_ _ | refine blk_drew ?_ | refine blk_alloc ?_ _)); refine blk_far ?_ NB164_166.out _; (with_reducible repeat (first | refine blk_drewN ?_ _ | refine blk_drew ?_ | refine blk_alloc ?_ _)); exact BK164.out⟩, ⟨by repeat (first | (with_reducible first | exact HB.out | apply below_alloc | apply pw_below_drewN | apply below_drew1 | refine below_set ?_ GE164.out | refine below_set ?_ GE166.out) | exact HB.out)⟩⟩
      ·rw [if_neg c7] at H
       have c7b0 : (((rd_T52 l0_1 x8_1).f0) == 1) = false := beq_eq_false_iff_ne.mpr c7
       have c7b1 : (((rd_T52 l0_1 x8_1).f0) != 1) = true := bne_iff_ne.mpr c7
       have H' := Aside0.mk H
       clear H
       have p165 : 0 ≤ (x8_1 : Int) := of_decide_eq_true (by first | (with_reducible assumption) | assumption)
       have q165 : x8_1 < (l0_1.length : Int) := of_decide_eq_true (by first | (with_reducible assumption) | assumption)
       obtain ⟨ad165, A165_2, c165_2, e165, hx165_0, hx165_1, hx165_2, hx165_3, hl165_2, hi165_2⟩ := at_T52 HR0_1.out x8_1 p165 q165
       cases e165
       replace hx165_0 := (HB.out.cell (World.block_lt_of_cell? w _ hx165_0)).trans hx165_0
       replace hx165_1 := (HB.out.cell (World.block_lt_of_cell? w _ hx165_1)).trans hx165_1
       replace hx165_2 := (HB.out.cell (World.block_lt_of_cell? w _ hx165_2)).trans hx165_2
       replace hx165_3 := (HB.out.cell (World.block_lt_of_cell? w _ hx165_3)).trans hx165_3
       have HR165_2 := Aside0.mk hi165_2
       have HC165_2 := Aside0.mk hl165_2
       clear hi165_2 hl165_2
       replace p165 := eq_true p165
       replace q165 := eq_true q165
       go_wp2_with (first | ((with_reducible refine gate_dst (N := 4) rfl ?_); refine box_event ?hg (N := 4) ?hd (cs := #[.int .i64 0, .int .i64 0, .slice none 0 0, .int .i64 0]) (t := 52) ?hr ?_; (case hd => rfl); (case hg => rfl); (case hr => first | (go_simp; done) | (go_simp; rfl)); intro gb166 hg w11 hbox hb; have n0_ := Aside0.mk (blk_below (g := gb164) (o := .cells #[.int .i64 a0_0, .slice (some ad165) l0_1.length c0_1, .int .i64 a0_2, .bool a0_3, .int .i64 a0_4] 27 (0, 0)) (by (with_reducible repeat (first | refine blk_drewN ?_ _ | refine blk_drew ?_ | refine blk_alloc ?_ _)); exact BK164.out) hb); have n1_ := Aside0.mk (below_step (by repeat (first | (with_reducible first | exact HB.out | apply below_alloc | apply pw_below_drewN | apply below_drew1 | refine below_set ?_ GE164.out) | exact HB.out)) hb); have n2_ := Aside0.mk (hbox); have n3_ := Aside0.mk ((by rw [hg]; exact (below_size (by repeat (first | (with_reducible first | exact HB.out | apply below_alloc | apply pw_below_drewN | apply below_drew1 | refine below_set ?_ GE164.out) | exact HB.out))) : w.heap.size ≤ gb166)); have n4_ := Aside0.mk ((by rw [hg]; exact (below_size (by repeat (first | (with_reducible first | exact HB.out | apply below_alloc | apply pw_below_drewN | apply below_drew1 | refine below_set ?_ GE164.out) | exact HB.out))) : w.heap.size ≤ gb166)); have n5_ := Aside0.mk ((by rw [hg]; exact Nat.ne_of_lt (blk_lt (g := gb164) (o := .cells #[.int .i64 a0_0, .slice (some ad165) l0_1.length c0_1, .int .i64 a0_2, .bool a0_3, .int .i64 a0_4] 27 (0, 0)) (by (with_reducible repeat (first | refine blk_drewN ?_ _ | refine blk_drew ?_ | refine blk_alloc ?_ _)); exact BK164.out)) : gb164 ≠ gb166)); have n6_ := Aside0.mk ((by rw [hg]; exact Nat.ne_of_gt (blk_lt (g := gb164) (o := .cells #[.int .i64 a0_0, .slice (some ad165) l0_1.length c0_1, .int .i64 a0_2, .bool a0_3, .int .i64 a0_4] 27 (0, 0)) (by (with_reducible repeat (first | refine blk_drewN ?_ _ | refine blk_drew ?_ | refine blk_alloc ?_ _)); exact BK164.out)) : gb166 ≠ gb164)); clear BK164; clear HB; have BK164 := n0_; have HB := n1_; have BK166 := n2_; have GW166 := n3_; have GE166 := n4_; have NB164_166 := n5_; have NB166_164 := n6_; clear n0_ n1_ n2_ n3_ n4_ n5_ n6_; clear hb hbox hg; have hnb12 := NB166_164.out; have hnc12 := NB164_166.out; have hcz13_0 : w11.cell? ⟨gb166, 0, none⟩ = some (.int .i64 0) := (blk_cell BK166.out 0).trans rfl; have hcz13_1 : w11.cell? ⟨gb166, 1, none⟩ = some (.int .i64 0) := (blk_cell BK166.out 1).trans rfl; have hcz13_2 : w11.cell? ⟨gb166, 2, none⟩ = some (.slice none 0 0) := (blk_cell BK166.out 2).trans rfl; have hcz13_3 : w11.cell? ⟨gb166, 3, none⟩ = some (.int .i64 0) := (blk_cell BK166.out 3).trans rfl; have hfz13_0 := blk_frozen BK166.out 0; have hfz13_1 := blk_frozen BK166.out 1; have hfz13_2 := blk_frozen BK166.out 2; have hfz13_3 := blk_frozen BK166.out 3))
       go_roundg k1
       case measure => have := HK1.out; omega
       case rel => exact ⟨(x2_1), (wrap64 (x8_1 + 1)), (by first | rfl | (simp; done) | (simp [*]; done)), (by first | rfl | (simp; done) | (simp [*]; done)), H', ⟨by have := HK1.out; omega⟩, ⟨by (with_reducible repeat (first | refine blk_drewN ?_ _ | refine blk_drew ?_ | refine blk_alloc ?_ _)); refine blk_far ?_ NB164_166.out _; (with_reducible repeat (first | refine blk_drewN ?_ _ | refine blk_drew ?_ | refine blk_alloc ?_ _)); refine blk_far ?_ NB164_166.out _; (with_reducible repeat (first | refine blk_drewN ?_ _ | refine blk_drew ?_ | refine blk_alloc ?_ _)); refine blk_far ?_ NB164_166.out _; (with_reducible repeat (first | refine blk_drewN ?_ _ | refine blk_drew ?_ | refine blk_alloc ?_ _)); refine blk_far ?_ NB164_166.out _; (with_reducible repeat (first | refine blk_drewN ?_ _ | refine blk_drew ?_ | refine blk_alloc ?_ _)); exact BK164.out⟩, ⟨by repeat (first | (with_reducible first | exact HB.out | apply below_alloc | apply pw_below_drewN | apply below_drew1 | refine below_set ?_ GE164.out | refine below_set ?_ GE166.out) | exact HB.out)⟩⟩
     ·rw [if_neg c6] at H
      exact absurd H (by simp)
    ·rw [if_neg c5] at H
     exact absurd H (by simp)
   ·rw [if_neg c4] at H
    have c4b0 : decide (x8_1 < (l0_1.length : Int)) = false := decide_eq_false c4
    clear c4
    obtain rfl := Option.some.inj H
    go_wp2
    go_ret
    exact ⟨by first | rfl | (simp [errW_none, errW_some] <;> rfl) | (simp [*, errW_none, errW_some] <;> rfl), by repeat (first | (with_reducible first | exact HB.out | apply below_alloc | apply pw_below_drewN | apply below_drew1 | refine below_set ?_ GE164.out) | exact HB.out)⟩
def log_Empty.l0 : Nat → Int → List (S52) → Int → Int → Option (Int)
 | 0, _, _, _, _ => none
 | k + 1, x2, x6, x7, x8 => if x8 < x7 then (if 0 ≤ x8 then (if x8 < (x6.length : Int) then (if ((rd_T52 x6 x8).f0) = 0 then (log_Empty.l0 k (wrap64 (x2 + 1)) x6 x7 (wrap64 (x8 + 1))) else (log_Empty.l0 k x2 x6 x7 (wrap64 (x8 + 1)))) else (none)) else (none)) else (some x2)
def log_Empty.f (k : Nat) (a0_0 : Int) (l0_1 : List (S52)) (a0_2 : Int) (a0_3 : Bool) (a0_4 : Int) : Option (Int) := log_Empty.l0 k 0 l0_1 (l0_1.length : Int) 0
set_option maxHeartbeats 8000000 in
set_option maxRecDepth 100000 in
theorem log_Empty.calls (k : Nat) (a0_0 : Int) (A0_1 : Option Addr) (c0_1 : Nat) (l0_1 : List (S52)) (a0_2 : Int) (a0_3 : Bool) (a0_4 : Int) (r : Int) (w : World) (hr0_1 : Kd.C k52 w A0_1 l0_1.length l0_1) (hc0_1 : l0_1.length ≤ c0_1) (h : log_Empty.f k a0_0 l0_1 a0_2 a0_3 a0_4 = some r) :
  Calls Try.prog 13 #[.agg #[.int .i64 a0_0, .slice A0_1 l0_1.length c0_1, .int .i64 a0_2, .bool a0_3, .int .i64 a0_4]] w fun e w' => e = .returned (.int .i64 r) ∧ Below w.heap.size w w' := by
 have hu27 := Try.underlying27
 have hu52 := Try.underlying52
 have HR0_1 := Aside0.mk hr0_1
 have HC0_1 := Aside0.mk hc0_1
 clear hr0_1 hc0_1
 have HB := Aside0.mk (Below.refl w.heap.size w)
 have H : (log_Empty.l0 k 0 l0_1 (l0_1.length : Int) 0) = some r := h
 clear h
 have H' := Aside0.mk H
 clear H
 go_enter Try.func13, Try.ntmps13
 go_wp2_with (first | ((with_reducible refine gate_dst (N := 1) rfl ?_); refine box_event ?hg (N := 1) ?hd (cs := #[.int .i64 a0_0, .slice A0_1 l0_1.length c0_1, .int .i64 a0_2, .bool a0_3, .int .i64 a0_4]) (t := 27) ?hr ?_; (case hd => rfl); (case hg => rfl); (case hr => first | (go_simp; done) | (go_simp; rfl)); intro gb225 hg w2 hbox hb; have n0_ := Aside0.mk (below_step (by repeat (first | (with_reducible first | exact HB.out | apply below_alloc | apply pw_below_drewN | apply below_drew1) | exact HB.out)) hb); have n1_ := Aside0.mk (hbox); have n2_ := Aside0.mk ((by rw [hg]; exact (below_size (by repeat (first | (with_reducible first | exact HB.out | apply below_alloc | apply pw_below_drewN | apply below_drew1) | exact HB.out))) : w.heap.size ≤ gb225)); have n3_ := Aside0.mk ((by rw [hg]; exact (below_size (by repeat (first | (with_reducible first | exact HB.out | apply below_alloc | apply pw_below_drewN | apply below_drew1) | exact HB.out))) : w.heap.size ≤ gb225)); clear HB; have HB := n0_; have BK225 := n1_; have GW225 := n2_; have GE225 := n3_; clear n0_ n1_ n2_ n3_; clear hb hbox hg; have hcz3_0 : w2.cell? ⟨gb225, 0, none⟩ = some (.int .i64 a0_0) := (blk_cell BK225.out 0).trans rfl; have hcz3_1 : w2.cell? ⟨gb225, 1, none⟩ = some (.slice A0_1 l0_1.length c0_1) := (blk_cell BK225.out 1).trans rfl; have hcz3_2 : w2.cell? ⟨gb225, 2, none⟩ = some (.int .i64 a0_2) := (blk_cell BK225.out 2).trans rfl; have hcz3_3 : w2.cell? ⟨gb225, 3, none⟩ = some (.bool a0_3) := (blk_cell BK225.out 3).trans rfl; have hcz3_4 : w2.cell? ⟨gb225, 4, none⟩ = some (.int .i64 a0_4) := (blk_cell BK225.out 4).trans rfl; have hfz3_0 := blk_frozen BK225.out 0; have hfz3_1 := blk_frozen BK225.out 1; have hfz3_2 := blk_frozen BK225.out 2; have hfz3_3 := blk_frozen BK225.out 3; have hfz3_4 := blk_frozen BK225.out 4))
 go_loopg [2, 8] k (fun kq v2 v8 w' => ∃ (x2_1 : Int) (x8_1 : Int), v2 = .int .i64 x2_1 ∧ v8 = .int .i64 x8_1 ∧ Aside0 (log_Empty.l0 kq x2_1 l0_1 (l0_1.length : Int) x8_1 = some r) ∧ Aside0 (kq ≤ k) ∧ Aside0 (w'.heap[gb225]? = some (.cells #[.int .i64 a0_0, (.slice A0_1 l0_1.length c0_1), .int .i64 a0_2, .bool a0_3, .int .i64 a0_4] 27 (0, 0))) ∧ Aside0 (Below w.heap.size w w'))
 case atStart => exact ⟨(0), (0), (by first | rfl | (simp; done) | (simp [*]; done)), (by first | rfl | (simp; done) | (simp [*]; done)), H', ⟨Nat.le_refl _⟩, ⟨by (with_reducible repeat (first | refine blk_drewN ?_ _ | refine blk_drew ?_ | refine blk_alloc ?_ _)); exact BK225.out⟩, ⟨by repeat (first | (with_reducible first | exact HB.out | apply below_alloc | apply pw_below_drewN | apply below_drew1 | refine below_set ?_ GE225.out) | exact HB.out)⟩⟩
 case round =>
  clear H'
  try clear c1
  try clear p2
  try clear hcz3_0
  try clear hcz3_1
  try clear hcz3_2
  try clear hcz3_3
  try clear hcz3_4
  try clear hfz3_0
  try clear hfz3_1
  try clear hfz3_2
  try clear hfz3_3
  try clear hfz3_4
  obtain ⟨x2_1, x8_1, rfl, rfl, HA, HK1, BK225, HB⟩ := hrel
  cases gk with
  | zero => exact absurd HA.out (by simp [log_Empty.l0])
  | succ k1 =>
   have H := HA.out
   clear HA
   simp only [log_Empty.l0] at H
   by_cases c4 : x8_1 < (l0_1.length : Int)
   ·rw [if_pos c4] at H
    have c4b0 : decide (x8_1 < (l0_1.length : Int)) = true := decide_eq_true c4
    clear c4
    by_cases c5 : 0 ≤ x8_1
    ·rw [if_pos c5] at H
     have c5b0 : decide (0 ≤ x8_1) = true := decide_eq_true c5
     clear c5
     by_cases c6 : x8_1 < (l0_1.length : Int)
     ·rw [if_pos c6] at H
      have c6b0 : decide (x8_1 < (l0_1.length : Int)) = true := decide_eq_true c6
      clear c6
      by_cases c7 : ((rd_T52 l0_1 x8_1).f0) = 0
      ·rw [if_pos c7] at H
       have c7b0 : (((rd_T52 l0_1 x8_1).f0) == 0) = true := beq_iff_eq.mpr c7
       have c7b1 : (((rd_T52 l0_1 x8_1).f0) != 0) = false := bne_eq_false_iff_eq.mpr c7
       clear c7
       have H' := Aside0.mk H
       clear H
       have p226 : 0 ≤ (x8_1 : Int) := of_decide_eq_true (by first | (with_reducible assumption) | assumption)
       have q226 : x8_1 < (l0_1.length : Int) := of_decide_eq_true (by first | (with_reducible assumption) | assumption)
       obtain ⟨ad226, A226_2, c226_2, e226, hx226_0, hx226_1, hx226_2, hx226_3, hl226_2, hi226_2⟩ := at_T52 HR0_1.out x8_1 p226 q226
       cases e226
       replace hx226_0 := (HB.out.cell (World.block_lt_of_cell? w _ hx226_0)).trans hx226_0
       replace hx226_1 := (HB.out.cell (World.block_lt_of_cell? w _ hx226_1)).trans hx226_1
       replace hx226_2 := (HB.out.cell (World.block_lt_of_cell? w _ hx226_2)).trans hx226_2
       replace hx226_3 := (HB.out.cell (World.block_lt_of_cell? w _ hx226_3)).trans hx226_3
       have HR226_2 := Aside0.mk hi226_2
       have HC226_2 := Aside0.mk hl226_2
       clear hi226_2 hl226_2
       replace p226 := eq_true p226
       replace q226 := eq_true q226
       go_wp2_with (first | ((with_reducible refine gate_dst (N := 4) rfl ?_); refine box_event ?hg (N := 4) ?hd (cs := #[.int .i64 0, .int .i64 0, .slice none 0 0, .int .i64 0]) (t := 52) ?hr ?_; (case hd => rfl); (case hg => rfl); (case hr => first | (go_simp; done) | (go_simp; rfl)); intro gb227 hg w8 hbox hb; have n0_ := Aside0.mk (blk_below (g := gb225) (o := .cells #[.int .i64 a0_0, .slice (some ad226) l0_1.length c0_1, .int .i64 a0_2, .bool a0_3, .int .i64 a0_4] 27 (0, 0)) (by (with_reducible repeat (first | refine blk_drewN ?_ _ | refine blk_drew ?_ | refine blk_alloc ?_ _)); exact BK225.out) hb); have n1_ := Aside0.mk (below_step (by repeat (first | (with_reducible first | exact HB.out | apply below_alloc | apply pw_below_drewN | apply below_drew1 | refine below_set ?_ GE225.out) | exact HB.out)) hb); have n2_ := Aside0.mk (hbox); have n3_ := Aside0.mk ((by rw [hg]; exact (below_size (by repeat (first | (with_reducible first | exact HB.out | apply below_alloc | apply pw_below_drewN | apply below_drew1 | refine below_set ?_ GE225.out) | exact HB.out))) : w.heap.size ≤ gb227)); have n4_ := Aside0.mk ((by rw [hg]; exact (below_size (by repeat (first | (with_reducible first | exact HB.out | apply below_alloc | apply pw_below_drewN | apply below_drew1 | refine below_set ?_ GE225.out) | exact HB.out))) : w.heap.size ≤ gb227)); have n5_ := Aside0.mk ((by rw [hg]; exact Nat.ne_of_lt (blk_lt (g := gb225) (o := .cells #[.int .i64 a0_0, .slice (some ad226) l0_1.length c0_1, .int .i64 a0_2, .bool a0_3, .int .i64 a0_4] 27 (0, 0)) (by (with_reducible repeat (first | refine blk_drewN ?_ _ | refine blk_drew ?_ | refine blk_alloc ?_ _)); exact BK225.out)) : gb225 ≠ gb227)); have n6_ := Aside0.mk ((by rw [hg]; exact Nat.ne_of_gt (blk_lt (g := gb225) (o := .cells #[.int .i64 a0_0, .slice (some ad226) l0_1.length c0_1, .int .i64 a0_2, .bool a0_3, .int .i64 a0_4] 27 (0, 0)) (by (with_reducible repeat (first | refine blk_drewN ?_ _ | refine blk_drew ?_ | refine blk_alloc ?_ _)); exact BK225.out)) : gb227 ≠ gb225)); clear BK225; clear HB; have BK225 := n0_; have HB := n1_; have BK227 := n2_; have GW227 := n3_; have GE227 := n4_; have NB225_227 := n5_; have NB227_225 := n6_; clear n0_ n1_ n2_ n3_ n4_ n5_ n6_; clear hb hbox hg; have hnb9 := NB227_225.out; have hnc9 := NB225_227.out; have hcz10_0 : w8.cell? ⟨gb227, 0, none⟩ = some (.int .i64 0) := (blk_cell BK227.out 0).trans rfl; have hcz10_1 : w8.cell? ⟨gb227, 1, none⟩ = some (.int .i64 0) := (blk_cell BK227.out 1).trans rfl; have hcz10_2 : w8.cell? ⟨gb227, 2, none⟩ = some (.slice none 0 0) := (blk_cell BK227.out 2).trans rfl; have hcz10_3 : w8.cell? ⟨gb227, 3, none⟩ = some (.int .i64 0) := (blk_cell BK227.out 3).trans rfl; have hfz10_0 := blk_frozen BK227.out 0; have hfz10_1 := blk_frozen BK227.out 1; have hfz10_2 := blk_frozen BK227.out 2; have hfz10_3 := blk_frozen BK227.out 3))
       go_roundg k1
       case measure => have := HK1.out; omega
       case rel => exact ⟨(wrap64 (x2_1 + 1)), (wrap64 (x8_1 + 1)), (by first | rfl | (simp; done) | (simp [*]; done)), (by first | rfl | (simp; done) | (simp [*]; done)), H', ⟨by have := HK1.out; omega⟩, ⟨by (with_reducible repeat (first | refine blk_drewN ?_ _ | refine blk_drew ?_ | refine blk_alloc ?_ _)); refine blk_far ?_ NB225_227.out _; (with_reducible repeat (first | refine blk_drewN ?_ _ | refine blk_drew ?_ | refine blk_alloc ?_ _)); refine blk_far ?_ NB225_227.out _; (with_reducible repeat (first | refine blk_drewN ?_ _ | refine blk_drew ?_ | refine blk_alloc ?_ _)); refine blk_far ?_ NB225_227.out _; (with_reducible repeat (first | refine blk_drewN ?_ _ | refine blk_drew ?_ | refine blk_alloc ?_ _)); refine blk_far ?_ NB225_227.out _; (with_reducible repeat (first | refine blk_drewN ?_ _ | refine blk_drew ?_ | refine blk_alloc ?_ _)); exact BK225.out⟩, ⟨by repeat (first | (with_reducible first | exact HB.out | apply below_alloc | apply pw_below_drewN | apply below_drew1 | refine below_set ?_ GE225.out | refine below_set ?_ GE227.out) | exact HB.out)⟩⟩
      ·rw [if_neg c7] at H
       have c7b0 : (((rd_T52 l0_1 x8_1).f0) == 0) = false := beq_eq_false_iff_ne.mpr c7
       have c7b1 : (((rd_T52 l0_1 x8_1).f0) != 0) = true := bne_iff_ne.mpr c7
       have H' := Aside0.mk H
       clear H
       have p226 : 0 ≤ (x8_1 : Int) := of_decide_eq_true (by first | (with_reducible assumption) | assumption)
       have q226 : x8_1 < (l0_1.length : Int) := of_decide_eq_true (by first | (with_reducible assumption) | assumption)
       obtain ⟨ad226, A226_2, c226_2, e226, hx226_0, hx226_1, hx226_2, hx226_3, hl226_2, hi226_2⟩ := at_T52 HR0_1.out x8_1 p226 q226
       cases e226
       replace hx226_0 := (HB.out.cell (World.block_lt_of_cell? w _ hx226_0)).trans hx226_0
       replace hx226_1 := (HB.out.cell (World.block_lt_of_cell? w _ hx226_1)).trans hx226_1
       replace hx226_2 := (HB.out.cell (World.block_lt_of_cell? w _ hx226_2)).trans hx226_2
       replace hx226_3 := (HB.out.cell (World.block_lt_of_cell? w _ hx226_3)).trans hx226_3
       have HR226_2 := Aside0.mk hi226_2
       have HC226_2 := Aside0.mk hl226_2
       clear hi226_2 hl226_2
       replace p226 := eq_true p226
       replace q226 := eq_true q226
       go_wp2_with (first | ((with_reducible refine gate_dst (N := 4) rfl ?_); refine box_event ?hg (N := 4) ?hd (cs := #[.int .i64 0, .int .i64 0, .slice none 0 0, .int .i64 0]) (t := 52) ?hr ?_; (case hd => rfl); (case hg => rfl); (case hr => first | (go_simp; done) | (go_simp; rfl)); intro gb227 hg w11 hbox hb; have n0_ := Aside0.mk (blk_below (g := gb225) (o := .cells #[.int .i64 a0_0, .slice (some ad226) l0_1.length c0_1, .int .i64 a0_2, .bool a0_3, .int .i64 a0_4] 27 (0, 0)) (by (with_reducible repeat (first | refine blk_drewN ?_ _ | refine blk_drew ?_ | refine blk_alloc ?_ _)); exact BK225.out) hb); have n1_ := Aside0.mk (below_step (by repeat (first | (with_reducible first | exact HB.out | apply below_alloc | apply pw_below_drewN | apply below_drew1 | refine below_set ?_ GE225.out) | exact HB.out)) hb); have n2_ := Aside0.mk (hbox); have n3_ := Aside0.mk ((by rw [hg]; exact (below_size (by repeat (first | (with_reducible first | exact HB.out | apply below_alloc | apply pw_below_drewN | apply below_drew1 | refine below_set ?_ GE225.out) | exact HB.out))) : w.heap.size ≤ gb227)); have n4_ := Aside0.mk ((by rw [hg]; exact (below_size (by repeat (first | (with_reducible first | exact HB.out | apply below_alloc | apply pw_below_drewN | apply below_drew1 | refine below_set ?_ GE225.out) | exact HB.out))) : w.heap.size ≤ gb227)); have n5_ := Aside0.mk ((by rw [hg]; exact Nat.ne_of_lt (blk_lt (g := gb225) (o := .cells #[.int .i64 a0_0, .slice (some ad226) l0_1.length c0_1, .int .i64 a0_2, .bool a0_3, .int .i64 a0_4] 27 (0, 0)) (by (with_reducible repeat (first | refine blk_drewN ?_ _ | refine blk_drew ?_ | refine blk_alloc ?_ _)); exact BK225.out)) : gb225 ≠ gb227)); have n6_ := Aside0.mk ((by rw [hg]; exact Nat.ne_of_gt (blk_lt (g := gb225) (o := .cells #[.int .i64 a0_0, .slice (some ad226) l0_1.length c0_1, .int .i64 a0_2, .bool a0_3, .int .i64 a0_4] 27 (0, 0)) (by (with_reducible repeat (first | refine blk_drewN ?_ _ | refine blk_drew ?_ | refine blk_alloc ?_ _)); exact BK225.out)) : gb227 ≠ gb225)); clear BK225; clear HB; have BK225 := n0_; have HB := n1_; have BK227 := n2_; have GW227 := n3_; have GE227 := n4_; have NB225_227 := n5_; have NB227_225 := n6_; clear n0_ n1_ n2_ n3_ n4_ n5_ n6_; clear hb hbox hg; have hnb12 := NB227_225.out; have hnc12 := NB225_227.out; have hcz13_0 : w11.cell? ⟨gb227, 0, none⟩ = some (.int .i64 0) := (blk_cell BK227.out 0).trans rfl; have hcz13_1 : w11.cell? ⟨gb227, 1, none⟩ = some (.int .i64 0) := (blk_cell BK227.out 1).trans rfl; have hcz13_2 : w11.cell? ⟨gb227, 2, none⟩ = some (.slice none 0 0) := (blk_cell BK227.out 2).trans rfl; have hcz13_3 : w11.cell? ⟨gb227, 3, none⟩ = some (.int .i64 0) := (blk_cell BK227.out 3).trans rfl; have hfz13_0 := blk_frozen BK227.out 0; have hfz13_1 := blk_frozen BK227.out 1; have hfz13_2 := blk_frozen BK227.out 2; have hfz13_3 := blk_frozen BK227.out 3))
       go_roundg k1
       case measure => have := HK1.out; omega
       case rel => exact ⟨(x2_1), (wrap64 (x8_1 + 1)), (by first | rfl | (simp; done) | (simp [*]; done)), (by first | rfl | (simp; done) | (simp [*]; done)), H', ⟨by have := HK1.out; omega⟩, ⟨by (with_reducible repeat (first | refine blk_drewN ?_ _ | refine blk_drew ?_ | refine blk_alloc ?_ _)); refine blk_far ?_ NB225_227.out _; (with_reducible repeat (first | refine blk_drewN ?_ _ | refine blk_drew ?_ | refine blk_alloc ?_ _)); refine blk_far ?_ NB225_227.out _; (with_reducible repeat (first | refine blk_drewN ?_ _ | refine blk_drew ?_ | refine blk_alloc ?_ _)); refine blk_far ?_ NB225_227.out _; (with_reducible repeat (first | refine blk_drewN ?_ _ | refine blk_drew ?_ | refine blk_alloc ?_ _)); refine blk_far ?_ NB225_227.out _; (with_reducible repeat (first | refine blk_drewN ?_ _ | refine blk_drew ?_ | refine blk_alloc ?_ _)); exact BK225.out⟩, ⟨by repeat (first | (with_reducible first | exact HB.out | apply below_alloc | apply pw_below_drewN | apply below_drew1 | refine below_set ?_ GE225.out | refine below_set ?_ GE227.out) | exact HB.out)⟩⟩
     ·rw [if_neg c6] at H
      exact absurd H (by simp)
    ·rw [if_neg c5] at H
     exact absurd H (by simp)
   ·rw [if_neg c4] at H
    have c4b0 : decide (x8_1 < (l0_1.length : Int)) = false := decide_eq_false c4
    clear c4
    obtain rfl := Option.some.inj H
    go_wp2
    go_ret
    exact ⟨by first | rfl | (simp [errW_none, errW_some] <;> rfl) | (simp [*, errW_none, errW_some] <;> rfl), by repeat (first | (with_reducible first | exact HB.out | apply below_alloc | apply pw_below_drewN | apply below_drew1 | refine below_set ?_ GE225.out) | exact HB.out)⟩
-- GIVEN: function 15 (waggonerlaw06_awake)
end Go.Proofs.Ytdgefplbfffenaa.X
namespace Go.Proofs.Ytdgefplbfffenaa.X
open Go.RowKit Go.Proofs.YtdgefplbfffenaaW.PrintWords Go.Proofs.YtdgefplbfffenaaW.PrintLast Go.Proofs.YtdgefplbfffenaaW.PrintMore
def bytes_Clone.f (l0 : List Int) : Option (List Int) := if l0.length < 140737488355328 then some l0 else none
set_option maxHeartbeats 4000000 in
set_option maxRecDepth 100000 in
theorem bytes_Clone.calls (A0 : Option Addr) (c0 : Nat) (l0 : List Int) (r : List Int) (w : World) (hr0 : Kd.C (Kd.int .u8) w A0 l0.length l0) (hc0 : l0.length ≤ c0) (h : bytes_Clone.f l0 = some r) :
    Calls Try.prog 70 #[.slice A0 l0.length c0] w fun e w' => ∃ v0_ : Value, e = .returned (v0_) ∧ Kd.R (Kd.int .u8) 5 w' w.heap.size (fun _ => True) v0_ r ∧ Below w.heap.size w w' := by
  unfold bytes_Clone.f at h
  split at h
  · rename_i hlen
    obtain rfl := Option.some.inj h
    clear h
    have HR0 := Aside0.mk hr0
    have HL := Aside0.mk hlen
    clear hr0 hc0 hlen
    cases A0 with
    | none =>
      have h0 : l0 = [] := by
        rcases Nat.eq_zero_or_pos l0.length with h0 | h0
        · exact List.eq_nil_of_length_eq_zero h0
        · obtain ⟨ad, h, _⟩ := HR0.out.2.2 h0
          cases h
      subst h0
      have qT : ∀ (w : World) (a : Option Addr) (n c n' c' : Nat), (binOp .eql 34 (.slice a n c) (.slice none n' c')).run Try.prog w = .ok (.bool a.isNone) w := fun w a n c n' c' => Lib.run_eql_slice_nil w _ _ a n c n' c' Try.underlying34
      go_enter Try.func70, Try.ntmps70
      go_wp2
      go_ret
      exact ⟨_, rfl, Kd.R_nil _ _ _ _ _, Below.refl _ _⟩
    | some ad =>
      have qT : ∀ (w : World) (a : Option Addr) (n c n' c' : Nat), (binOp .eql 34 (.slice a n c) (.slice none n' c')).run Try.prog w = .ok (.bool a.isNone) w := fun w a n c n' c' => Lib.run_eql_slice_nil w _ _ a n c n' c' Try.underlying34
      go_enter Try.func70, Try.ntmps70
      go_wp2_with (first
        | ((with_reducible refine gate_dst (N := 5) rfl ?_); refine Kd.R_lit (Kd.int .u8) (w0 := w) w.heap.size 5 ?hg (N := 5) ?hd (xs := ([] : List Int)) (inner := []) (ok := fun _ => True) (okp := fun _ => True) ?hr ?hp (fun _ hk => hk) trivial (Below.refl _ _) (Nat.le_refl _) (by simp) ?_; (case hd => rfl); (case hg => rfl); (case hr => first | (go_simp; done) | (go_simp; rfl)); (case hp => exact (Reps.none _ _)); intro v1 w1 hR1 hB1 _ _)
        | (at_builtin; refine Kd.R_append_rows (Kd.int .u8) (w0 := w) w.heap.size rfl (.tmp 5) (.tmp 6) 34 5 (.int .u8 0) 1 rfl Try.underlying34 info5 rfl (by decide) (by omega) v1 [] l0 _ _ _ (fun _ => True) (fun _ => False) rfl rfl hR1 (Kd.C_below HR0.out hB1) (fun _ _ h => h) (fun _ h => h.elim) (fun _ _ => trivial) hB1 hB1.size ?_ ?_; (case _ => have := HL.out; simp; omega); intro v2 w2 hR2 hB2 _ _))
      go_ret
      exact ⟨_, rfl, hR2, hB2⟩
  · cases h
end Go.Proofs.Ytdgefplbfffenaa.X
namespace Go.Proofs.Ytdgefplbfffenaa.X
open Go.RowKit Go.Proofs.YtdgefplbfffenaaW.PrintWords Go.Proofs.YtdgefplbfffenaaW.PrintLast Go.Proofs.YtdgefplbfffenaaW.PrintMore
def halves : Array Value := #[.int .u32 0, .int .u32 274646895, .int .u32 549293790, .int .u32 820201905, .int .u32 1098587580, .int .u32 1361435347, .int .u32 1640403810, .int .u32 1905808397, .int .u32 2197175160, .int .u32 2460548119, .int .u32 2722870694, .int .u32 2987750089, .int .u32 3280807620, .int .u32 3553878443, .int .u32 3811616794, .int .u32 4084100981]
set_option maxHeartbeats 4000000 in
set_option maxRecDepth 100000 in
theorem halves_calls (w : World) : Calls Try.prog 108 #[] w fun e w' => e = .returned (.agg halves) ∧ Below w.heap.size w w' := by
  have hu148 := Try.underlying148
  go_enter Try.func108, Try.ntmps108
  go_wp2
  refine bodyPost_ret (results_cell_row rfl _ _ w.heap.size 148 halves (0, 0) _ rfl (blk_new _ _) Try.underlying148 rfl (by kernel_rfl)) rfl ?_
  exact ⟨rfl, below_alloc (Below.refl _ _) _⟩
end Go.Proofs.Ytdgefplbfffenaa.X
namespace Go.Proofs.Ytdgefplbfffenaa.X
open Go.RowKit Go.Proofs.YtdgefplbfffenaaW.PrintWords Go.Proofs.YtdgefplbfffenaaW.PrintLast Go.Proofs.YtdgefplbfffenaaW.PrintMore
theorem u32_and15 (n : Int) : bits .and .u32 n 15 = n % 16 := by
  have h15 : (BitVec.ofInt 32 15).toNat = 2 ^ 4 - 1 := by decide
  have key : (BitVec.ofInt 32 n &&& BitVec.ofInt 32 15).toNat = (n % ((2 ^ 32 : Nat) : Int)).toNat % 2 ^ 4 := by
    rw [BitVec.toNat_and, BitVec.toNat_ofInt, h15, Nat.and_two_pow_sub_one_eq_mod]
  show IntKind.u32.wrap ((BitVec.ofInt 32 n &&& BitVec.ofInt 32 15).toNat : Nat) = n % 16
  rw [key, IntKind.wrap_u32]
  omega
theorem and15_lo (y : Int) : 0 ≤ bits .and .u32 y 15 := by rw [u32_and15]; omega
theorem and15_hi (y : Int) : bits .and .u32 y 15 < 16 := by rw [u32_and15]; omega
def tabI (k : Nat) : Int := [0, 274646895, 549293790, 820201905, 1098587580, 1361435347, 1640403810, 1905808397, 2197175160, 2460548119, 2722870694, 2987750089, 3280807620, 3553878443, 3811616794, 4084100981].getD k 0
theorem tab_cell {W : World} {T : Nat} (h : W.heap[T]? = some (.cells halves 148 (0, 0))) (y : Int) : W.cell? ⟨T, (bits .and .u32 y 15).toNat, none⟩ = some (.int .u32 (tabI (bits .and .u32 y 15).toNat)) := by
  rw [blk_cell h, u32_and15]
  have hk : ∀ k : Fin 16, halves[k.val]? = some (.int .u32 (tabI k.val)) := by
    intro k
    match k with
    | ⟨0, _⟩ => rfl
    | ⟨1, _⟩ => rfl | ⟨2, _⟩ => rfl | ⟨3, _⟩ => rfl | ⟨4, _⟩ => rfl | ⟨5, _⟩ => rfl | ⟨6, _⟩ => rfl | ⟨7, _⟩ => rfl
    | ⟨8, _⟩ => rfl | ⟨9, _⟩ => rfl | ⟨10, _⟩ => rfl | ⟨11, _⟩ => rfl | ⟨12, _⟩ => rfl | ⟨13, _⟩ => rfl | ⟨14, _⟩ => rfl | ⟨15, _⟩ => rfl | ⟨n + 16, h⟩ => exact absurd h (by omega)
  exact hk ⟨(y % 16).toNat, by omega⟩
def crcHalf (y : Int) : Int := bits .xor .u32 (y / 16) (tabI (bits .and .u32 y 15).toNat)
def crcStep (x u : Int) : Int := crcHalf (crcHalf (bits .xor .u32 x (u % 4294967296)))
def crc_More.f (a0 : Int) (l1 : List Int) : Option Int := some (bits .xor .u32 (l1.foldl crcStep (bits .xor .u32 a0 4294967295)) 4294967295)
theorem cellU8 {w : World} {A : Option Addr} {l : List Int} (h : (Kd.int .u8).C w A l.length l) (i : Nat) (hi : i < l.length) : ∃ ad : Addr, ∃ _x : Unit, A = some ad ∧ w.cell? (ad.add i) = some (.int .u8 l[i]) := by
  obtain ⟨ad, c, hA, _, hK, hc⟩ := Kd.C_get h (0 : Int) (i : Int) (by omega) (by omega)
  have hK' : c = [.int .u8 l[i]] := by
    have h2 : c = [.int .u8 (l.getD (i : Int).toNat 0)] := hK
    rw [h2, Int.toNat_natCast, List.getD_eq_getElem?_getD, List.getElem?_eq_getElem hi]; rfl
  have h3 := hc 0 _ (by rw [hK']; rfl)
  refine ⟨ad, (), hA, ?_⟩
  rw [show (i : Int).toNat * (Kd.int .u8).sz + 0 = i from by show (i : Int).toNat * 1 + 0 = i; omega] at h3
  exact h3
set_option maxHeartbeats 8000000 in
set_option maxRecDepth 100000 in
theorem crc_More.calls (a0 : Int) (A1 : Option Addr) (c1 : Nat) (l1 : List Int) (r : Int) (w : World) (hr1 : Kd.C (Kd.int .u8) w A1 l1.length l1) (hc1 : l1.length ≤ c1) (h : crc_More.f a0 l1 = some r) :
    Calls Try.prog 96 #[.int .u32 a0, .slice A1 l1.length c1] w fun e w' => e = .returned (.int .u32 r) ∧ Below w.heap.size w w' := by
  obtain rfl := Option.some.inj h
  clear h
  have hu148 := Try.underlying148
  go_enter Try.func96, Try.ntmps96
  go_wp2_with fail
  refine (halves_calls w).mono ?_
  rintro e w0 ⟨rfl, hb⟩
  unfold halves
  have HC := Aside0.mk hr1
  have HB := Aside0.mk hb
  have hlen : l1.length ≤ 9223372036854775807 := hr1.2.1
  clear hr1 hb
  go_wp2_with fail
  have bT := Aside0.mk (show (w0.alloc (.cells halves 148)).heap[w0.heap.size]? = some (.cells halves 148 (0, 0)) from blk_new _ _)
  have HB2 := Aside0.mk (HB.out.alloc HB.out.size (.cells halves 148))
  have hTS := Aside0.mk (show w.heap.size ≤ w0.heap.size from HB.out.size)
  have hw : w0.alloc (.cells halves 148) = _ := rfl
  conv at hw => rhs; unfold halves
  rw [← hw]
  clear hw
  generalize w0.alloc (.cells halves 148) = W at *
  generalize w0.heap.size = T at *
  go_loopw [0, 13] (fun v0 v13 wr => ∃ (i : Nat), v13 = .int .i64 i ∧ v0 = .int .u32 ((l1.take i).foldl crcStep (bits .xor .u32 a0 4294967295)) ∧ i ≤ l1.length ∧ wr = W) (fun _ v13 _ => l1.length - (intOf v13).toNat)
  case atStart => exact ⟨0, rfl, rfl, Nat.zero_le _, rfl⟩
  case round =>
    obtain ⟨i, rfl, rfl, hi, rfl⟩ := hrel
    by_cases hlt : i < l1.length
    · obtain ⟨ad, _, rfl, hc⟩ := cellU8 (Kd.C_below HC.out HB2.out) i hlt
      have hst : (l1.take (i + 1)).foldl crcStep (bits .xor .u32 a0 4294967295) = crcStep ((l1.take i).foldl crcStep (bits .xor .u32 a0 4294967295)) l1[i] := by
        rw [List.take_succ_eq_append_getElem hlt, List.foldl_append]; rfl
      have HST := Aside0.mk hst
      clear hst
      generalize (l1.take i).foldl crcStep (bits .xor .u32 a0 4294967295) = x at *
      generalize l1[i] = u at *
      have p1 := and15_lo (bits .xor .u32 x (u % 4294967296))
      have p2 := and15_hi (bits .xor .u32 x (u % 4294967296))
      have p3 := and15_lo (bits .xor .u32 (bits .xor .u32 x (u % 4294967296) / 16) (tabI (bits .and .u32 (bits .xor .u32 x (u % 4294967296)) 15).toNat))
      have p4 := and15_hi (bits .xor .u32 (bits .xor .u32 x (u % 4294967296) / 16) (tabI (bits .and .u32 (bits .xor .u32 x (u % 4294967296)) 15).toNat))
      have t1 := tab_cell bT.out (bits .xor .u32 x (u % 4294967296))
      have t2 := tab_cell bT.out (bits .xor .u32 (bits .xor .u32 x (u % 4294967296) / 16) (tabI (bits .and .u32 (bits .xor .u32 x (u % 4294967296)) 15).toNat))
      go_wp2
      go_roundw
      case rel => exact ⟨i + 1, by go_num, by rw [HST.out]; rfl, by omega, trivial⟩
      case measure => simp [intOf]; omega
    · obtain rfl : i = l1.length := by omega
      rw [List.take_length]
      go_wp2
      go_ret
      exact ⟨rfl, HB2.out⟩
end Go.Proofs.Ytdgefplbfffenaa.X
namespace Go.Proofs.Ytdgefplbfffenaa.X
open Go.RowKit Go.Proofs.YtdgefplbfffenaaW.PrintWords Go.Proofs.YtdgefplbfffenaaW.PrintLast Go.Proofs.YtdgefplbfffenaaW.PrintMore
set_option maxHeartbeats 8000000 in
set_option maxRecDepth 100000 in
theorem need1_calls (T : Nat) (size n r : Int) (W : World) (hc : W.cell? ⟨T, 0, none⟩ = some (.int .i64 size)) (h : space_Takes.f n size = some r) :
    Calls Try.prog 61 #[.int .i64 n, .pointer (some ⟨T, 0, none⟩)] W fun e w' => e = .returned (.int .i64 r) ∧ Below W.heap.size W w' := by
  have H := Aside0.mk (space_Takes.calls n size r W h)
  clear h
  go_enter Try.func61, Try.ntmps61
  go_wp2_with fail
  refine H.out.mono ?_
  rintro e w' ⟨rfl, hb⟩
  go_wp2
  go_ret
  exact ⟨rfl, hb⟩
def space_Need.f (a0 : Int) (a1 : Int) : Option (Int) :=
  (space_some.f a0).bind fun b0 => if b0 = true then ((space_may.f a1).bind fun b1 => if b1 = true then ((space_Snap.f a0).bind fun s => (space_Change.f a0).bind fun c => (space_Takes.f c a1).bind fun t1 => (space_Takes.f s.1 a1).bind fun t2 => some (wrap64 (t1 + t2))) else some 0) else some 0
set_option maxHeartbeats 8000000 in
set_option maxRecDepth 100000 in
theorem space_Need.calls (a0 : Int) (a1 : Int) (r : Int) (w : World) (h : space_Need.f a0 a1 = some r) :
    Calls Try.prog 34 #[.int .i64 a0, .int .i64 a1] w fun e w' => e = .returned (.int .i64 r) ∧ Below w.heap.size w w' := by
  unfold space_Need.f at h
  obtain ⟨b0, hb0, h⟩ := Option.bind_eq_some_iff.1 h
  have hk : (w.alloc (.cells #[.int .i64 a1] 3)).cell? ⟨w.heap.size, 0, none⟩ = some (.int .i64 a1) := by simp
  have hB := below_alloc (Below.refl w.heap.size w) (.cells #[.int .i64 a1] 3)
  have HB0 := Aside0.mk hb0
  cases b0 with
  | false =>
    obtain rfl := Option.some.inj h
    clear h hb0
    have HB := Aside0.mk hB
    clear hB
    go_enter Try.func34, Try.ntmps34
    go_wp2_with fail
    refine (space_some.calls a0 false _ HB0.out).mono ?_
    rintro e w1 ⟨rfl, hb⟩
    go_wp2
    go_ret
    exact ⟨rfl, HB.out.trans (hb.mono HB.out.size)⟩
  | true =>
    rw [if_pos rfl] at h
    obtain ⟨b1, hb1, h⟩ := Option.bind_eq_some_iff.1 h
    have HB1 := Aside0.mk hb1
    cases b1 with
    | false =>
      obtain rfl := Option.some.inj h
      clear h hb0 hb1
      have HB := Aside0.mk hB
      clear hB
      go_enter Try.func34, Try.ntmps34
      go_wp2_with fail
      refine (space_some.calls a0 true _ HB0.out).mono ?_
      rintro e w1 ⟨rfl, hb⟩
      replace hk := pw_cell_below hb hk
      replace HB := Aside0.mk (HB.out.trans (hb.mono HB.out.size))
      clear hb
      go_wp2_with fail
      refine (space_may.calls a1 false _ HB1.out).mono ?_
      rintro e w2 ⟨rfl, hb⟩
      go_wp2
      go_ret
      exact ⟨rfl, HB.out.trans (hb.mono HB.out.size)⟩
    | true =>
      rw [if_pos rfl] at h
      obtain ⟨s, hs, h⟩ := Option.bind_eq_some_iff.1 h
      obtain ⟨c, hc, h⟩ := Option.bind_eq_some_iff.1 h
      obtain ⟨t1, ht1, h⟩ := Option.bind_eq_some_iff.1 h
      obtain ⟨t2, ht2, h⟩ := Option.bind_eq_some_iff.1 h
      obtain rfl := Option.some.inj h
      obtain ⟨s1, s2⟩ := s
      have HS := Aside0.mk hs
      have HC := Aside0.mk hc
      have HT1 := Aside0.mk ht1
      have HT2 := Aside0.mk ht2
      clear h hb0 hb1 hs hc ht1 ht2
      have HB := Aside0.mk hB
      clear hB
      go_enter Try.func34, Try.ntmps34
      go_wp2_with fail
      refine (space_some.calls a0 true _ HB0.out).mono ?_
      rintro e w1 ⟨rfl, hb⟩
      replace hk := pw_cell_below hb hk
      replace HB := Aside0.mk (HB.out.trans (hb.mono HB.out.size))
      clear hb
      go_wp2_with fail
      refine (space_may.calls a1 true _ HB1.out).mono ?_
      rintro e w2 ⟨rfl, hb⟩
      replace hk := pw_cell_below hb hk
      replace HB := Aside0.mk (HB.out.trans (hb.mono HB.out.size))
      clear hb
      go_wp2_with fail
      refine (space_Snap.calls a0 s1 s2 _ HS.out).mono ?_
      rintro e w3 ⟨rfl, hb⟩
      replace hk := pw_cell_below hb hk
      replace HB := Aside0.mk (HB.out.trans (hb.mono HB.out.size))
      clear hb
      go_wp2_with fail
      refine (space_Change.calls a0 c _ HC.out).mono ?_
      rintro e w4 ⟨rfl, hb⟩
      replace hk := pw_cell_below hb hk
      replace HB := Aside0.mk (HB.out.trans (hb.mono HB.out.size))
      clear hb
      go_wp2_with fail
      refine (need1_calls w.heap.size a1 c t1 _ hk HT1.out).mono ?_
      rintro e w5 ⟨rfl, hb⟩
      replace hk := pw_cell_below hb hk
      replace HB := Aside0.mk (HB.out.trans (hb.mono HB.out.size))
      clear hb
      go_wp2_with fail
      refine (need1_calls w.heap.size a1 s1 t2 _ hk HT2.out).mono ?_
      rintro e w6 ⟨rfl, hb⟩
      replace HB := Aside0.mk (HB.out.trans (hb.mono HB.out.size))
      clear hb
      go_wp2
      go_ret
      exact ⟨rfl, HB.out⟩
end Go.Proofs.Ytdgefplbfffenaa.X
namespace Go.Proofs.Ytdgefplbfffenaa.X
open Go.RowKit Go.Proofs.YtdgefplbfffenaaW.PrintWords Go.Proofs.YtdgefplbfffenaaW.PrintLast Go.Proofs.YtdgefplbfffenaaW.PrintMore
attribute [local go_sem] max2_int min2_int max_two min_two max_three min_three max_four min_four   -- for this text's walks alone
set_option linter.unusedVariables false
set_option linter.unusedSimpArgs false
-- NOT PRINTED: function 6 (waggonerlaw06_LogFull)
-- GIVEN: function 25 (log_All)
-- NOT PRINTED: function 8 (waggonerlaw06_LogFinds)
-- GIVEN: function 30 (dev_Crash)
-- NOT PRINTED: function 9 (waggonerlaw06_LogCrash)
def zone_takes.f (a0_0 : Int) (a0_1 : Int) (l0_2 : List Int) (a0_3 : Int) : Option (Bool) := if a0_0 = 0 then (some true) else (if a0_0 = 1 then (some true) else (if a0_0 = 2 then (some true) else (some false)))
set_option maxHeartbeats 8000000 in
set_option maxRecDepth 100000 in
theorem zone_takes.calls (a0_0 : Int) (a0_1 : Int) (A0_2 : Option Addr) (c0_2 : Nat) (l0_2 : List Int) (a0_3 : Int) (r : Bool) (w : World) (hr0_2 : Kd.C (Kd.int .u8) w A0_2 l0_2.length l0_2) (hc0_2 : l0_2.length ≤ c0_2) (h : zone_takes.f a0_0 a0_1 l0_2 a0_3 = some r) :
  Calls Try.prog 68 #[.agg #[.int .i64 a0_0, .int .i64 a0_1, .slice A0_2 l0_2.length c0_2, .int .i64 a0_3]] w fun e w' => e = .returned (.bool r) ∧ Below w.heap.size w w' := by
 have hu52 := Try.underlying52
 have HR0_2 := Aside0.mk hr0_2
 have HC0_2 := Aside0.mk hc0_2
 clear hr0_2 hc0_2
 have HB := Aside0.mk (Below.refl w.heap.size w)
 have H : (if a0_0 = 0 then (some true) else (if a0_0 = 1 then (some true) else (if a0_0 = 2 then (some true) else (some false)))) = some r := h
 clear h
 by_cases c2 : a0_0 = 0
 ·rw [if_pos c2] at H
  have c2b0 : (a0_0 == 0) = true := beq_iff_eq.mpr c2
  have c2b1 : (a0_0 != 0) = false := bne_eq_false_iff_eq.mpr c2
  clear c2
  obtain rfl := Option.some.inj H
  go_enter Try.func68, Try.ntmps68
  go_wp2_with (first | ((with_reducible refine gate_dst (N := 1) rfl ?_); refine box_event ?hg (N := 1) ?hd (cs := #[.int .i64 a0_0, .int .i64 a0_1, .slice A0_2 l0_2.length c0_2, .int .i64 a0_3]) (t := 52) ?hr ?_; (case hd => rfl); (case hg => rfl); (case hr => first | (go_simp; done) | (go_simp; rfl)); intro gb516 hg w3 hbox hb; have n0_ := Aside0.mk (below_step (by repeat (first | (with_reducible first | exact HB.out | apply below_alloc | apply pw_below_drewN | apply below_drew1) | exact HB.out)) hb); have n1_ := Aside0.mk (hbox); have n2_ := Aside0.mk ((by rw [hg]; exact (below_size (by repeat (first | (with_reducible first | exact HB.out | apply below_alloc | apply pw_below_drewN | apply below_drew1) | exact HB.out))) : w.heap.size ≤ gb516)); have n3_ := Aside0.mk ((by rw [hg]; exact (below_size (by repeat (first | (with_reducible first | exact HB.out | apply below_alloc | apply pw_below_drewN | apply below_drew1) | exact HB.out))) : w.heap.size ≤ gb516)); clear HB; have HB := n0_; have BK516 := n1_; have GW516 := n2_; have GE516 := n3_; clear n0_ n1_ n2_ n3_; clear hb hbox hg; have hcz4_0 : w3.cell? ⟨gb516, 0, none⟩ = some (.int .i64 a0_0) := (blk_cell BK516.out 0).trans rfl; have hcz4_1 : w3.cell? ⟨gb516, 1, none⟩ = some (.int .i64 a0_1) := (blk_cell BK516.out 1).trans rfl; have hcz4_2 : w3.cell? ⟨gb516, 2, none⟩ = some (.slice A0_2 l0_2.length c0_2) := (blk_cell BK516.out 2).trans rfl; have hcz4_3 : w3.cell? ⟨gb516, 3, none⟩ = some (.int .i64 a0_3) := (blk_cell BK516.out 3).trans rfl; have hfz4_0 := blk_frozen BK516.out 0; have hfz4_1 := blk_frozen BK516.out 1; have hfz4_2 := blk_frozen BK516.out 2; have hfz4_3 := blk_frozen BK516.out 3))
  go_ret
  exact ⟨by first | rfl | (simp [errW_none, errW_some] <;> rfl) | (simp [*, errW_none, errW_some] <;> rfl), by repeat (first | (with_reducible first | exact HB.out | apply below_alloc | apply pw_below_drewN | apply below_drew1 | refine below_set ?_ GE516.out) | exact HB.out)⟩
 ·rw [if_neg c2] at H
  have c2b0 : (a0_0 == 0) = false := beq_eq_false_iff_ne.mpr c2
  have c2b1 : (a0_0 != 0) = true := bne_iff_ne.mpr c2
  by_cases c5 : a0_0 = 1
  ·rw [if_pos c5] at H
   have c5b0 : (a0_0 == 1) = true := beq_iff_eq.mpr c5
   have c5b1 : (a0_0 != 1) = false := bne_eq_false_iff_eq.mpr c5
   clear c5
   obtain rfl := Option.some.inj H
   go_enter Try.func68, Try.ntmps68
   go_wp2_with (first | ((with_reducible refine gate_dst (N := 1) rfl ?_); refine box_event ?hg (N := 1) ?hd (cs := #[.int .i64 a0_0, .int .i64 a0_1, .slice A0_2 l0_2.length c0_2, .int .i64 a0_3]) (t := 52) ?hr ?_; (case hd => rfl); (case hg => rfl); (case hr => first | (go_simp; done) | (go_simp; rfl)); intro gb516 hg w6 hbox hb; have n0_ := Aside0.mk (below_step (by repeat (first | (with_reducible first | exact HB.out | apply below_alloc | apply pw_below_drewN | apply below_drew1) | exact HB.out)) hb); have n1_ := Aside0.mk (hbox); have n2_ := Aside0.mk ((by rw [hg]; exact (below_size (by repeat (first | (with_reducible first | exact HB.out | apply below_alloc | apply pw_below_drewN | apply below_drew1) | exact HB.out))) : w.heap.size ≤ gb516)); have n3_ := Aside0.mk ((by rw [hg]; exact (below_size (by repeat (first | (with_reducible first | exact HB.out | apply below_alloc | apply pw_below_drewN | apply below_drew1) | exact HB.out))) : w.heap.size ≤ gb516)); clear HB; have HB := n0_; have BK516 := n1_; have GW516 := n2_; have GE516 := n3_; clear n0_ n1_ n2_ n3_; clear hb hbox hg; have hcz7_0 : w6.cell? ⟨gb516, 0, none⟩ = some (.int .i64 a0_0) := (blk_cell BK516.out 0).trans rfl; have hcz7_1 : w6.cell? ⟨gb516, 1, none⟩ = some (.int .i64 a0_1) := (blk_cell BK516.out 1).trans rfl; have hcz7_2 : w6.cell? ⟨gb516, 2, none⟩ = some (.slice A0_2 l0_2.length c0_2) := (blk_cell BK516.out 2).trans rfl; have hcz7_3 : w6.cell? ⟨gb516, 3, none⟩ = some (.int .i64 a0_3) := (blk_cell BK516.out 3).trans rfl; have hfz7_0 := blk_frozen BK516.out 0; have hfz7_1 := blk_frozen BK516.out 1; have hfz7_2 := blk_frozen BK516.out 2; have hfz7_3 := blk_frozen BK516.out 3))
   go_ret
   exact ⟨by first | rfl | (simp [errW_none, errW_some] <;> rfl) | (simp [*, errW_none, errW_some] <;> rfl), by repeat (first | (with_reducible first | exact HB.out | apply below_alloc | apply pw_below_drewN | apply below_drew1 | refine below_set ?_ GE516.out) | exact HB.out)⟩
  ·rw [if_neg c5] at H
   have c5b0 : (a0_0 == 1) = false := beq_eq_false_iff_ne.mpr c5
   have c5b1 : (a0_0 != 1) = true := bne_iff_ne.mpr c5
   by_cases c8 : a0_0 = 2
   ·rw [if_pos c8] at H
    have c8b0 : (a0_0 == 2) = true := beq_iff_eq.mpr c8
    have c8b1 : (a0_0 != 2) = false := bne_eq_false_iff_eq.mpr c8
    clear c8
    obtain rfl := Option.some.inj H
    go_enter Try.func68, Try.ntmps68
    go_wp2_with (first | ((with_reducible refine gate_dst (N := 1) rfl ?_); refine box_event ?hg (N := 1) ?hd (cs := #[.int .i64 a0_0, .int .i64 a0_1, .slice A0_2 l0_2.length c0_2, .int .i64 a0_3]) (t := 52) ?hr ?_; (case hd => rfl); (case hg => rfl); (case hr => first | (go_simp; done) | (go_simp; rfl)); intro gb516 hg w9 hbox hb; have n0_ := Aside0.mk (below_step (by repeat (first | (with_reducible first | exact HB.out | apply below_alloc | apply pw_below_drewN | apply below_drew1) | exact HB.out)) hb); have n1_ := Aside0.mk (hbox); have n2_ := Aside0.mk ((by rw [hg]; exact (below_size (by repeat (first | (with_reducible first | exact HB.out | apply below_alloc | apply pw_below_drewN | apply below_drew1) | exact HB.out))) : w.heap.size ≤ gb516)); have n3_ := Aside0.mk ((by rw [hg]; exact (below_size (by repeat (first | (with_reducible first | exact HB.out | apply below_alloc | apply pw_below_drewN | apply below_drew1) | exact HB.out))) : w.heap.size ≤ gb516)); clear HB; have HB := n0_; have BK516 := n1_; have GW516 := n2_; have GE516 := n3_; clear n0_ n1_ n2_ n3_; clear hb hbox hg; have hcz10_0 : w9.cell? ⟨gb516, 0, none⟩ = some (.int .i64 a0_0) := (blk_cell BK516.out 0).trans rfl; have hcz10_1 : w9.cell? ⟨gb516, 1, none⟩ = some (.int .i64 a0_1) := (blk_cell BK516.out 1).trans rfl; have hcz10_2 : w9.cell? ⟨gb516, 2, none⟩ = some (.slice A0_2 l0_2.length c0_2) := (blk_cell BK516.out 2).trans rfl; have hcz10_3 : w9.cell? ⟨gb516, 3, none⟩ = some (.int .i64 a0_3) := (blk_cell BK516.out 3).trans rfl; have hfz10_0 := blk_frozen BK516.out 0; have hfz10_1 := blk_frozen BK516.out 1; have hfz10_2 := blk_frozen BK516.out 2; have hfz10_3 := blk_frozen BK516.out 3))
    go_ret
    exact ⟨by first | rfl | (simp [errW_none, errW_some] <;> rfl) | (simp [*, errW_none, errW_some] <;> rfl), by repeat (first | (with_reducible first | exact HB.out | apply below_alloc | apply pw_below_drewN | apply below_drew1 | refine below_set ?_ GE516.out) | exact HB.out)⟩
   ·rw [if_neg c8] at H
    have c8b0 : (a0_0 == 2) = false := beq_eq_false_iff_ne.mpr c8
    have c8b1 : (a0_0 != 2) = true := bne_iff_ne.mpr c8
    obtain rfl := Option.some.inj H
    go_enter Try.func68, Try.ntmps68
    go_wp2_with (first | ((with_reducible refine gate_dst (N := 1) rfl ?_); refine box_event ?hg (N := 1) ?hd (cs := #[.int .i64 a0_0, .int .i64 a0_1, .slice A0_2 l0_2.length c0_2, .int .i64 a0_3]) (t := 52) ?hr ?_; (case hd => rfl); (case hg => rfl); (case hr => first | (go_simp; done) | (go_simp; rfl)); intro gb516 hg w11 hbox hb; have n0_ := Aside0.mk (below_step (by repeat (first | (with_reducible first | exact HB.out | apply below_alloc | apply pw_below_drewN | apply below_drew1) | exact HB.out)) hb); have n1_ := Aside0.mk (hbox); have n2_ := Aside0.mk ((by rw [hg]; exact (below_size (by repeat (first | (with_reducible first | exact HB.out | apply below_alloc | apply pw_below_drewN | apply below_drew1) | exact HB.out))) : w.heap.size ≤ gb516)); have n3_ := Aside0.mk ((by rw [hg]; exact (below_size (by repeat (first | (with_reducible first | exact HB.out | apply below_alloc | apply pw_below_drewN | apply below_drew1) | exact HB.out))) : w.heap.size ≤ gb516)); clear HB; have HB := n0_; have BK516 := n1_; have GW516 := n2_; have GE516 := n3_; clear n0_ n1_ n2_ n3_; clear hb hbox hg; have hcz12_0 : w11.cell? ⟨gb516, 0, none⟩ = some (.int .i64 a0_0) := (blk_cell BK516.out 0).trans rfl; have hcz12_1 : w11.cell? ⟨gb516, 1, none⟩ = some (.int .i64 a0_1) := (blk_cell BK516.out 1).trans rfl; have hcz12_2 : w11.cell? ⟨gb516, 2, none⟩ = some (.slice A0_2 l0_2.length c0_2) := (blk_cell BK516.out 2).trans rfl; have hcz12_3 : w11.cell? ⟨gb516, 3, none⟩ = some (.int .i64 a0_3) := (blk_cell BK516.out 3).trans rfl; have hfz12_0 := blk_frozen BK516.out 0; have hfz12_1 := blk_frozen BK516.out 1; have hfz12_2 := blk_frozen BK516.out 2; have hfz12_3 := blk_frozen BK516.out 3))
    go_ret
    exact ⟨by first | rfl | (simp [errW_none, errW_some] <;> rfl) | (simp [*, errW_none, errW_some] <;> rfl), by repeat (first | (with_reducible first | exact HB.out | apply below_alloc | apply pw_below_drewN | apply below_drew1 | refine below_set ?_ GE516.out) | exact HB.out)⟩
def zone_Check.j0 : Nat → Int → Int → Bool → Int → Int → List Int → Int → Option (Bool)
 | 0, _, _, _, _, _, _, _ => none
 | k + 1, x1, x5, x40, x518000, x518001, x518002, x518003 => if x40 = true then (some false) else (if x518000 = 0 then (some (x5 == 0)) else ((zone_takes.f x518000 x518001 x518002 x518003).bind fun t518 => (if t518 = true then (if x5 > 0 then (some (decide (x5 < x1))) else (some false)) else (some (x518000 == 3)))))
def zone_Check.f (k : Nat) (a0_0 : Int) (a0_1 : Int) (l0_2 : List Int) (a0_3 : Int) (a1 : Int) : Option (Bool) := if a1 < 1 then (zone_Check.j0 k a1 (l0_2.length : Int) true a0_0 a0_1 l0_2 a0_3) else (if a1 > 1048576 then (zone_Check.j0 k a1 (l0_2.length : Int) true a0_0 a0_1 l0_2 a0_3) else (if (l0_2.length : Int) > a1 then (zone_Check.j0 k a1 (l0_2.length : Int) true a0_0 a0_1 l0_2 a0_3) else (if a0_3 < 0 then (zone_Check.j0 k a1 (l0_2.length : Int) true a0_0 a0_1 l0_2 a0_3) else (if a0_3 > (l0_2.length : Int) then (zone_Check.j0 k a1 (l0_2.length : Int) true a0_0 a0_1 l0_2 a0_3) else (if a0_1 < 0 then (zone_Check.j0 k a1 (l0_2.length : Int) true a0_0 a0_1 l0_2 a0_3) else (zone_Check.j0 k a1 (l0_2.length : Int) (decide (a0_1 > 1073741824)) a0_0 a0_1 l0_2 a0_3))))))
set_option maxHeartbeats 8000000 in
set_option maxRecDepth 100000 in
theorem zone_Check.calls (k : Nat) (a0_0 : Int) (a0_1 : Int) (A0_2 : Option Addr) (c0_2 : Nat) (l0_2 : List Int) (a0_3 : Int) (a1 : Int) (r : Bool) (w : World) (hr0_2 : Kd.C (Kd.int .u8) w A0_2 l0_2.length l0_2) (hc0_2 : l0_2.length ≤ c0_2) (h : zone_Check.f k a0_0 a0_1 l0_2 a0_3 a1 = some r) :
  Calls Try.prog 45 #[.agg #[.int .i64 a0_0, .int .i64 a0_1, .slice A0_2 l0_2.length c0_2, .int .i64 a0_3], .int .i64 a1] w fun e w' => e = .returned (.bool r) ∧ Below w.heap.size w w' := by
 have hu52 := Try.underlying52
 have HR0_2 := Aside0.mk hr0_2
 have HC0_2 := Aside0.mk hc0_2
 clear hr0_2 hc0_2
 have HB := Aside0.mk (Below.refl w.heap.size w)
 have H : (if a1 < 1 then (zone_Check.j0 k a1 (l0_2.length : Int) true a0_0 a0_1 l0_2 a0_3) else (if a1 > 1048576 then (zone_Check.j0 k a1 (l0_2.length : Int) true a0_0 a0_1 l0_2 a0_3) else (if (l0_2.length : Int) > a1 then (zone_Check.j0 k a1 (l0_2.length : Int) true a0_0 a0_1 l0_2 a0_3) else (if a0_3 < 0 then (zone_Check.j0 k a1 (l0_2.length : Int) true a0_0 a0_1 l0_2 a0_3) else (if a0_3 > (l0_2.length : Int) then (zone_Check.j0 k a1 (l0_2.length : Int) true a0_0 a0_1 l0_2 a0_3) else (if a0_1 < 0 then (zone_Check.j0 k a1 (l0_2.length : Int) true a0_0 a0_1 l0_2 a0_3) else (zone_Check.j0 k a1 (l0_2.length : Int) (decide (a0_1 > 1073741824)) a0_0 a0_1 l0_2 a0_3))))))) = some r := h
 clear h
 have HC3 := Aside0.mk H
 clear H
 go_enter Try.func45, Try.ntmps45
 go_upto_region 2 with (first | ((with_reducible refine gate_dst (N := 2) rfl ?_); refine box_event ?hg (N := 2) ?hd (cs := #[.int .i64 a0_0, .int .i64 a0_1, .slice A0_2 l0_2.length c0_2, .int .i64 a0_3]) (t := 52) ?hr ?_; (case hd => rfl); (case hg => rfl); (case hr => first | (go_simp; done) | (go_simp; rfl)); intro gb517 hg w4 hbox hb; have n0_ := Aside0.mk (below_step (by repeat (first | (with_reducible first | exact HB.out | apply below_alloc | apply pw_below_drewN | apply below_drew1) | exact HB.out)) hb); have n1_ := Aside0.mk (hbox); have n2_ := Aside0.mk ((by rw [hg]; exact (below_size (by repeat (first | (with_reducible first | exact HB.out | apply below_alloc | apply pw_below_drewN | apply below_drew1) | exact HB.out))) : w.heap.size ≤ gb517)); have n3_ := Aside0.mk ((by rw [hg]; exact (below_size (by repeat (first | (with_reducible first | exact HB.out | apply below_alloc | apply pw_below_drewN | apply below_drew1) | exact HB.out))) : w.heap.size ≤ gb517)); clear HB; have HB := n0_; have BK517 := n1_; have GW517 := n2_; have GE517 := n3_; clear n0_ n1_ n2_ n3_; clear hb hbox hg; have hcz5_0 : w4.cell? ⟨gb517, 0, none⟩ = some (.int .i64 a0_0) := (blk_cell BK517.out 0).trans rfl; have hcz5_1 : w4.cell? ⟨gb517, 1, none⟩ = some (.int .i64 a0_1) := (blk_cell BK517.out 1).trans rfl; have hcz5_2 : w4.cell? ⟨gb517, 2, none⟩ = some (.slice A0_2 l0_2.length c0_2) := (blk_cell BK517.out 2).trans rfl; have hcz5_3 : w4.cell? ⟨gb517, 3, none⟩ = some (.int .i64 a0_3) := (blk_cell BK517.out 3).trans rfl; have hfz5_0 := blk_frozen BK517.out 0; have hfz5_1 := blk_frozen BK517.out 1; have hfz5_2 := blk_frozen BK517.out 2; have hfz5_3 := blk_frozen BK517.out 3))
 (try simp only [Act.put, List.setIfInBounds_toArray, List.set_cons_zero, List.set_cons_succ])
 go_cut [40] (fun v40 wc => ∃ (kq : Nat) (x40_2 : Bool), v40 = .bool x40_2 ∧ Aside0 (zone_Check.j0 kq a1 (l0_2.length : Int) x40_2 a0_0 a0_1 l0_2 a0_3 = some r) ∧ Aside0 (kq ≤ k) ∧ Aside0 (wc.heap[gb517]? = some (.cells #[.int .i64 a0_0, .int .i64 a0_1, (.slice A0_2 l0_2.length c0_2), .int .i64 a0_3] 52 (0, 0))) ∧ Aside0 (Below w.heap.size w wc))
 case first =>
  have H := HC3.out
  clear HC3
  by_cases c6 : a1 < 1
  ·rw [if_pos c6] at H
   have c6b0 : decide (a1 < 1) = true := decide_eq_true c6
   clear c6
   (first | rw [c6b0] | (simp only [i64_w, i32_w]; rw [c6b0]) | skip)
   have H' := Aside0.mk H
   clear H
   go_wp2
   go_meet
   case rel => exact ⟨_, (true), (by first | rfl | (simp; done) | (simp [*]; done)), H', ⟨by first | omega | exact Nat.le_refl _⟩, ⟨by (with_reducible repeat (first | refine blk_drewN ?_ _ | refine blk_drew ?_ | refine blk_alloc ?_ _)); exact BK517.out⟩, ⟨by repeat (first | (with_reducible first | exact HB.out | apply below_alloc | apply pw_below_drewN | apply below_drew1 | refine below_set ?_ GE517.out) | exact HB.out)⟩⟩
  ·rw [if_neg c6] at H
   have c6b0 : decide (a1 < 1) = false := decide_eq_false c6
   clear c6
   (first | rw [c6b0] | (simp only [i64_w, i32_w]; rw [c6b0]) | skip)
   by_cases c7 : a1 > 1048576
   ·rw [if_pos c7] at H
    have c7b0 : decide (1048576 < a1) = true := decide_eq_true c7
    clear c7
    have H' := Aside0.mk H
    clear H
    go_wp2
    go_meet
    case rel => exact ⟨_, (true), (by first | rfl | (simp; done) | (simp [*]; done)), H', ⟨by first | omega | exact Nat.le_refl _⟩, ⟨by (with_reducible repeat (first | refine blk_drewN ?_ _ | refine blk_drew ?_ | refine blk_alloc ?_ _)); exact BK517.out⟩, ⟨by repeat (first | (with_reducible first | exact HB.out | apply below_alloc | apply pw_below_drewN | apply below_drew1 | refine below_set ?_ GE517.out) | exact HB.out)⟩⟩
   ·rw [if_neg c7] at H
    have c7b0 : decide (1048576 < a1) = false := decide_eq_false c7
    clear c7
    by_cases c8 : (l0_2.length : Int) > a1
    ·rw [if_pos c8] at H
     have c8b0 : decide (a1 < (l0_2.length : Int)) = true := decide_eq_true c8
     clear c8
     have H' := Aside0.mk H
     clear H
     go_wp2
     go_meet
     case rel => exact ⟨_, (true), (by first | rfl | (simp; done) | (simp [*]; done)), H', ⟨by first | omega | exact Nat.le_refl _⟩, ⟨by (with_reducible repeat (first | refine blk_drewN ?_ _ | refine blk_drew ?_ | refine blk_alloc ?_ _)); exact BK517.out⟩, ⟨by repeat (first | (with_reducible first | exact HB.out | apply below_alloc | apply pw_below_drewN | apply below_drew1 | refine below_set ?_ GE517.out) | exact HB.out)⟩⟩
    ·rw [if_neg c8] at H
     have c8b0 : decide (a1 < (l0_2.length : Int)) = false := decide_eq_false c8
     clear c8
     by_cases c9 : a0_3 < 0
     ·rw [if_pos c9] at H
      have c9b0 : decide (a0_3 < 0) = true := decide_eq_true c9
      clear c9
      have H' := Aside0.mk H
      clear H
      have hcz10_0 : w4.cell? ⟨gb517, 0, none⟩ = some (.int .i64 a0_0) := (blk_cell BK517.out 0).trans rfl
      have hcz10_1 : w4.cell? ⟨gb517, 1, none⟩ = some (.int .i64 a0_1) := (blk_cell BK517.out 1).trans rfl
      have hcz10_2 : w4.cell? ⟨gb517, 2, none⟩ = some (.slice A0_2 l0_2.length c0_2) := (blk_cell BK517.out 2).trans rfl
      have hcz10_3 : w4.cell? ⟨gb517, 3, none⟩ = some (.int .i64 a0_3) := (blk_cell BK517.out 3).trans rfl
      have hfz10_0 := blk_frozen BK517.out 0
      have hfz10_1 := blk_frozen BK517.out 1
      have hfz10_2 := blk_frozen BK517.out 2
      have hfz10_3 := blk_frozen BK517.out 3
      go_wp2
      go_meet
      case rel => exact ⟨_, (true), (by first | rfl | (simp; done) | (simp [*]; done)), H', ⟨by first | omega | exact Nat.le_refl _⟩, ⟨by (with_reducible repeat (first | refine blk_drewN ?_ _ | refine blk_drew ?_ | refine blk_alloc ?_ _)); exact BK517.out⟩, ⟨by repeat (first | (with_reducible first | exact HB.out | apply below_alloc | apply pw_below_drewN | apply below_drew1 | refine below_set ?_ GE517.out) | exact HB.out)⟩⟩
     ·rw [if_neg c9] at H
      have c9b0 : decide (a0_3 < 0) = false := decide_eq_false c9
      clear c9
      by_cases c11 : a0_3 > (l0_2.length : Int)
      ·rw [if_pos c11] at H
       have c11b0 : decide ((l0_2.length : Int) < a0_3) = true := decide_eq_true c11
       clear c11
       have H' := Aside0.mk H
       clear H
       have hcz12_0 : w4.cell? ⟨gb517, 0, none⟩ = some (.int .i64 a0_0) := (blk_cell BK517.out 0).trans rfl
       have hcz12_1 : w4.cell? ⟨gb517, 1, none⟩ = some (.int .i64 a0_1) := (blk_cell BK517.out 1).trans rfl
       have hcz12_2 : w4.cell? ⟨gb517, 2, none⟩ = some (.slice A0_2 l0_2.length c0_2) := (blk_cell BK517.out 2).trans rfl
       have hcz12_3 : w4.cell? ⟨gb517, 3, none⟩ = some (.int .i64 a0_3) := (blk_cell BK517.out 3).trans rfl
       have hfz12_0 := blk_frozen BK517.out 0
       have hfz12_1 := blk_frozen BK517.out 1
       have hfz12_2 := blk_frozen BK517.out 2
       have hfz12_3 := blk_frozen BK517.out 3
       go_wp2
       go_meet
       case rel => exact ⟨_, (true), (by first | rfl | (simp; done) | (simp [*]; done)), H', ⟨by first | omega | exact Nat.le_refl _⟩, ⟨by (with_reducible repeat (first | refine blk_drewN ?_ _ | refine blk_drew ?_ | refine blk_alloc ?_ _)); exact BK517.out⟩, ⟨by repeat (first | (with_reducible first | exact HB.out | apply below_alloc | apply pw_below_drewN | apply below_drew1 | refine below_set ?_ GE517.out) | exact HB.out)⟩⟩
      ·rw [if_neg c11] at H
       have c11b0 : decide ((l0_2.length : Int) < a0_3) = false := decide_eq_false c11
       clear c11
       by_cases c13 : a0_1 < 0
       ·rw [if_pos c13] at H
        have c13b0 : decide (a0_1 < 0) = true := decide_eq_true c13
        clear c13
        have H' := Aside0.mk H
        clear H
        have hcz14_0 : w4.cell? ⟨gb517, 0, none⟩ = some (.int .i64 a0_0) := (blk_cell BK517.out 0).trans rfl
        have hcz14_1 : w4.cell? ⟨gb517, 1, none⟩ = some (.int .i64 a0_1) := (blk_cell BK517.out 1).trans rfl
        have hcz14_2 : w4.cell? ⟨gb517, 2, none⟩ = some (.slice A0_2 l0_2.length c0_2) := (blk_cell BK517.out 2).trans rfl
        have hcz14_3 : w4.cell? ⟨gb517, 3, none⟩ = some (.int .i64 a0_3) := (blk_cell BK517.out 3).trans rfl
        have hfz14_0 := blk_frozen BK517.out 0
        have hfz14_1 := blk_frozen BK517.out 1
        have hfz14_2 := blk_frozen BK517.out 2
        have hfz14_3 := blk_frozen BK517.out 3
        go_wp2
        go_meet
        case rel => exact ⟨_, (true), (by first | rfl | (simp; done) | (simp [*]; done)), H', ⟨by first | omega | exact Nat.le_refl _⟩, ⟨by (with_reducible repeat (first | refine blk_drewN ?_ _ | refine blk_drew ?_ | refine blk_alloc ?_ _)); exact BK517.out⟩, ⟨by repeat (first | (with_reducible first | exact HB.out | apply below_alloc | apply pw_below_drewN | apply below_drew1 | refine below_set ?_ GE517.out) | exact HB.out)⟩⟩
       ·rw [if_neg c13] at H
        have c13b0 : decide (a0_1 < 0) = false := decide_eq_false c13
        clear c13
        have H' := Aside0.mk H
        clear H
        have hcz15_0 : w4.cell? ⟨gb517, 0, none⟩ = some (.int .i64 a0_0) := (blk_cell BK517.out 0).trans rfl
        have hcz15_1 : w4.cell? ⟨gb517, 1, none⟩ = some (.int .i64 a0_1) := (blk_cell BK517.out 1).trans rfl
        have hcz15_2 : w4.cell? ⟨gb517, 2, none⟩ = some (.slice A0_2 l0_2.length c0_2) := (blk_cell BK517.out 2).trans rfl
        have hcz15_3 : w4.cell? ⟨gb517, 3, none⟩ = some (.int .i64 a0_3) := (blk_cell BK517.out 3).trans rfl
        have hfz15_0 := blk_frozen BK517.out 0
        have hfz15_1 := blk_frozen BK517.out 1
        have hfz15_2 := blk_frozen BK517.out 2
        have hfz15_3 := blk_frozen BK517.out 3
        go_wp2
        go_meet
        case rel => exact ⟨_, (decide (a0_1 > 1073741824)), (by first | rfl | (simp; done) | (simp [*]; done)), H', ⟨by first | omega | exact Nat.le_refl _⟩, ⟨by (with_reducible repeat (first | refine blk_drewN ?_ _ | refine blk_drew ?_ | refine blk_alloc ?_ _)); exact BK517.out⟩, ⟨by repeat (first | (with_reducible first | exact HB.out | apply below_alloc | apply pw_below_drewN | apply below_drew1 | refine below_set ?_ GE517.out) | exact HB.out)⟩⟩
 case rest =>
  clear HC3
  try clear c1
  try clear p2
  try clear c4
  try clear c6
  try clear c6b0
  try clear c7
  try clear c7b0
  try clear c8
  try clear c8b0
  try clear c9
  try clear c9b0
  try clear c11
  try clear c11b0
  try clear c13
  try clear c13b0
  try clear hcz10_0
  try clear hcz10_1
  try clear hcz10_2
  try clear hcz10_3
  try clear hcz12_0
  try clear hcz12_1
  try clear hcz12_2
  try clear hcz12_3
  try clear hcz14_0
  try clear hcz14_1
  try clear hcz14_2
  try clear hcz14_3
  try clear hcz15_0
  try clear hcz15_1
  try clear hcz15_2
  try clear hcz15_3
  try clear hcz5_0
  try clear hcz5_1
  try clear hcz5_2
  try clear hcz5_3
  try clear hfz10_0
  try clear hfz10_1
  try clear hfz10_2
  try clear hfz10_3
  try clear hfz12_0
  try clear hfz12_1
  try clear hfz12_2
  try clear hfz12_3
  try clear hfz14_0
  try clear hfz14_1
  try clear hfz14_2
  try clear hfz14_3
  try clear hfz15_0
  try clear hfz15_1
  try clear hfz15_2
  try clear hfz15_3
  try clear hfz5_0
  try clear hfz5_1
  try clear hfz5_2
  try clear hfz5_3
  obtain ⟨kq, x40_2, rfl, HA, HJ2, BK517, HB⟩ := hcut
  cases kq with
  | zero => exact absurd HA.out (by simp [zone_Check.j0])
  | succ kj2 =>
   have H := HA.out
   clear HA
   simp only [zone_Check.j0] at H
   by_cases c16 : x40_2 = true
   ·subst c16
    have H1 : (some false) = some r := by rw [if_pos rfl] at H; exact H
    clear H
    have H := H1
    clear H1
    obtain rfl := Option.some.inj H
    go_wp2
    go_ret
    exact ⟨by first | rfl | (simp [errW_none, errW_some] <;> rfl) | (simp [*, errW_none, errW_some] <;> rfl), by repeat (first | (with_reducible first | exact HB.out | apply below_alloc | apply pw_below_drewN | apply below_drew1 | refine below_set ?_ GE517.out) | exact HB.out)⟩
   ·replace c16 := Bool.eq_false_iff.mpr c16
    subst c16
    have H1 : (if a0_0 = 0 then (some ((l0_2.length : Int) == 0)) else ((zone_takes.f a0_0 a0_1 l0_2 a0_3).bind fun t518 => (if t518 = true then (if (l0_2.length : Int) > 0 then (some (decide ((l0_2.length : Int) < a1))) else (some false)) else (some (a0_0 == 3))))) = some r := by rw [if_neg (show ¬ (false = true) by decide)] at H; exact H
    clear H
    have H := H1
    clear H1
    by_cases c17 : a0_0 = 0
    ·rw [if_pos c17] at H
     have c17b0 : (a0_0 == 0) = true := beq_iff_eq.mpr c17
     have c17b1 : (a0_0 != 0) = false := bne_eq_false_iff_eq.mpr c17
     clear c17
     obtain rfl := Option.some.inj H
     have hcz18_0 : wc.cell? ⟨gb517, 0, none⟩ = some (.int .i64 a0_0) := (blk_cell BK517.out 0).trans rfl
     have hcz18_1 : wc.cell? ⟨gb517, 1, none⟩ = some (.int .i64 a0_1) := (blk_cell BK517.out 1).trans rfl
     have hcz18_2 : wc.cell? ⟨gb517, 2, none⟩ = some (.slice A0_2 l0_2.length c0_2) := (blk_cell BK517.out 2).trans rfl
     have hcz18_3 : wc.cell? ⟨gb517, 3, none⟩ = some (.int .i64 a0_3) := (blk_cell BK517.out 3).trans rfl
     have hfz18_0 := blk_frozen BK517.out 0
     have hfz18_1 := blk_frozen BK517.out 1
     have hfz18_2 := blk_frozen BK517.out 2
     have hfz18_3 := blk_frozen BK517.out 3
     go_wp2
     go_ret
     exact ⟨by first | rfl | (simp [errW_none, errW_some] <;> rfl) | (simp [*, errW_none, errW_some] <;> rfl), by repeat (first | (with_reducible first | exact HB.out | apply below_alloc | apply pw_below_drewN | apply below_drew1 | refine below_set ?_ GE517.out) | exact HB.out)⟩
    ·rw [if_neg c17] at H
     have c17b0 : (a0_0 == 0) = false := beq_eq_false_iff_ne.mpr c17
     have c17b1 : (a0_0 != 0) = true := bne_iff_ne.mpr c17
     replace H := Option.bind_eq_some_iff.mp H
     obtain ⟨t518, A190, H⟩ := H
     replace H : (if t518 = true then (if (l0_2.length : Int) > 0 then (some (decide ((l0_2.length : Int) < a1))) else (some false)) else (some (a0_0 == 3))) = some r := H
     have A19 := Aside0.mk A190
     clear A190
     by_cases c20 : t518 = true
     ·subst c20
      have H1 : (if (l0_2.length : Int) > 0 then (some (decide ((l0_2.length : Int) < a1))) else (some false)) = some r := by rw [if_pos rfl] at H; exact H
      clear H
      have H := H1
      clear H1
      by_cases c21 : (l0_2.length : Int) > 0
      ·rw [if_pos c21] at H
       have c21b0 : decide (0 < (l0_2.length : Int)) = true := decide_eq_true c21
       have c21b1 : decide (0 < l0_2.length) = true := decide_eq_true (by omega)
       clear c21
       obtain rfl := Option.some.inj H
       have hcz22_0 : wc.cell? ⟨gb517, 0, none⟩ = some (.int .i64 a0_0) := (blk_cell BK517.out 0).trans rfl
       have hcz22_1 : wc.cell? ⟨gb517, 1, none⟩ = some (.int .i64 a0_1) := (blk_cell BK517.out 1).trans rfl
       have hcz22_2 : wc.cell? ⟨gb517, 2, none⟩ = some (.slice A0_2 l0_2.length c0_2) := (blk_cell BK517.out 2).trans rfl
       have hcz22_3 : wc.cell? ⟨gb517, 3, none⟩ = some (.int .i64 a0_3) := (blk_cell BK517.out 3).trans rfl
       have hfz22_0 := blk_frozen BK517.out 0
       have hfz22_1 := blk_frozen BK517.out 1
       have hfz22_2 := blk_frozen BK517.out 2
       have hfz22_3 := blk_frozen BK517.out 3
       go_wp2_with (first | ((with_reducible refine gate_callee (f := 68) rfl ?_); refine goesL_ (some 49) rfl rfl Try.func68 (by kernel_rfl) rfl #[.agg #[.int .i64 a0_0, .int .i64 a0_1, .slice A0_2 l0_2.length c0_2, .int .i64 a0_3]] rfl (by (try simp only [List.map_toArray, List.map_cons, List.map_nil]); first | done | rfl | (simp only [List.length_drop, List.length_take]; rfl)) ?_; (with_reducible refine (zone_takes.calls a0_0 a0_1 _ _ l0_2 a0_3 true _ ?side1 ?side2 A19.out).mono ?_); (case side1 => repeat (first | exact (Kd.C_below HR0_2.out HB.out) | (with_reducible refine Kd.C_alloc ?_ _) | (with_reducible refine Kd.C_drewN ?_ _) | (with_reducible refine Kd.C_drew ?_))); (case side2 => exact HC0_2.out); rintro e w23 ⟨rfl, hb⟩; refine ⟨_, rfl, ?_⟩; have n0_ := Aside0.mk (blk_below (g := gb517) (o := .cells #[.int .i64 a0_0, .int .i64 a0_1, .slice A0_2 l0_2.length c0_2, .int .i64 a0_3] 52 (0, 0)) (by (with_reducible repeat (first | refine blk_drewN ?_ _ | refine blk_drew ?_ | refine blk_alloc ?_ _)); exact BK517.out) hb); have n1_ := Aside0.mk (below_step (by repeat (first | (with_reducible first | exact HB.out | apply below_alloc | apply pw_below_drewN | apply below_drew1 | refine below_set ?_ GE517.out) | exact HB.out)) hb); clear BK517; clear HB; have BK517 := n0_; have HB := n1_; clear n0_ n1_; (try clear hb); (try clear hb2); (try clear hk); (try clear hi)))
       go_ret
       exact ⟨by first | rfl | (simp [errW_none, errW_some] <;> rfl) | (simp [*, errW_none, errW_some] <;> rfl), by repeat (first | (with_reducible first | exact HB.out | apply below_alloc | apply pw_below_drewN | apply below_drew1 | refine below_set ?_ GE517.out) | exact HB.out)⟩
      ·rw [if_neg c21] at H
       have c21b0 : decide (0 < (l0_2.length : Int)) = false := decide_eq_false c21
       have c21b1 : decide (0 < l0_2.length) = false := decide_eq_false (by omega)
       clear c21
       obtain rfl := Option.some.inj H
       have hcz24_0 : wc.cell? ⟨gb517, 0, none⟩ = some (.int .i64 a0_0) := (blk_cell BK517.out 0).trans rfl
       have hcz24_1 : wc.cell? ⟨gb517, 1, none⟩ = some (.int .i64 a0_1) := (blk_cell BK517.out 1).trans rfl
       have hcz24_2 : wc.cell? ⟨gb517, 2, none⟩ = some (.slice A0_2 l0_2.length c0_2) := (blk_cell BK517.out 2).trans rfl
       have hcz24_3 : wc.cell? ⟨gb517, 3, none⟩ = some (.int .i64 a0_3) := (blk_cell BK517.out 3).trans rfl
       have hfz24_0 := blk_frozen BK517.out 0
       have hfz24_1 := blk_frozen BK517.out 1
       have hfz24_2 := blk_frozen BK517.out 2
       have hfz24_3 := blk_frozen BK517.out 3
       go_wp2_with (first | ((with_reducible refine gate_callee (f := 68) rfl ?_); refine goesL_ (some 49) rfl rfl Try.func68 (by kernel_rfl) rfl #[.agg #[.int .i64 a0_0, .int .i64 a0_1, .slice A0_2 l0_2.length c0_2, .int .i64 a0_3]] rfl (by (try simp only [List.map_toArray, List.map_cons, List.map_nil]); first | done | rfl | (simp only [List.length_drop, List.length_take]; rfl)) ?_; (with_reducible refine (zone_takes.calls a0_0 a0_1 _ _ l0_2 a0_3 true _ ?side1 ?side2 A19.out).mono ?_); (case side1 => repeat (first | exact (Kd.C_below HR0_2.out HB.out) | (with_reducible refine Kd.C_alloc ?_ _) | (with_reducible refine Kd.C_drewN ?_ _) | (with_reducible refine Kd.C_drew ?_))); (case side2 => exact HC0_2.out); rintro e w25 ⟨rfl, hb⟩; refine ⟨_, rfl, ?_⟩; have n0_ := Aside0.mk (blk_below (g := gb517) (o := .cells #[.int .i64 a0_0, .int .i64 a0_1, .slice A0_2 l0_2.length c0_2, .int .i64 a0_3] 52 (0, 0)) (by (with_reducible repeat (first | refine blk_drewN ?_ _ | refine blk_drew ?_ | refine blk_alloc ?_ _)); exact BK517.out) hb); have n1_ := Aside0.mk (below_step (by repeat (first | (with_reducible first | exact HB.out | apply below_alloc | apply pw_below_drewN | apply below_drew1 | refine below_set ?_ GE517.out) | exact HB.out)) hb); clear BK517; clear HB; have BK517 := n0_; have HB := n1_; clear n0_ n1_; (try clear hb); (try clear hb2); (try clear hk); (try clear hi)))
       go_ret
       exact ⟨by first | rfl | (simp [errW_none, errW_some] <;> rfl) | (simp [*, errW_none, errW_some] <;> rfl), by repeat (first | (with_reducible first | exact HB.out | apply below_alloc | apply pw_below_drewN | apply below_drew1 | refine below_set ?_ GE517.out) | exact HB.out)⟩
     ·replace c20 := Bool.eq_false_iff.mpr c20
      subst c20
      have H1 : (some (a0_0 == 3)) = some r := by rw [if_neg (show ¬ (false = true) by decide)] at H; exact H
      clear H
      have H := H1
      clear H1
      obtain rfl := Option.some.inj H
      have hcz26_0 : wc.cell? ⟨gb517, 0, none⟩ = some (.int .i64 a0_0) := (blk_cell BK517.out 0).trans rfl
      have hcz26_1 : wc.cell? ⟨gb517, 1, none⟩ = some (.int .i64 a0_1) := (blk_cell BK517.out 1).trans rfl
      have hcz26_2 : wc.cell? ⟨gb517, 2, none⟩ = some (.slice A0_2 l0_2.length c0_2) := (blk_cell BK517.out 2).trans rfl
      have hcz26_3 : wc.cell? ⟨gb517, 3, none⟩ = some (.int .i64 a0_3) := (blk_cell BK517.out 3).trans rfl
      have hfz26_0 := blk_frozen BK517.out 0
      have hfz26_1 := blk_frozen BK517.out 1
      have hfz26_2 := blk_frozen BK517.out 2
      have hfz26_3 := blk_frozen BK517.out 3
      go_wp2_with (first | ((with_reducible refine gate_callee (f := 68) rfl ?_); refine goesL_ (some 49) rfl rfl Try.func68 (by kernel_rfl) rfl #[.agg #[.int .i64 a0_0, .int .i64 a0_1, .slice A0_2 l0_2.length c0_2, .int .i64 a0_3]] rfl (by (try simp only [List.map_toArray, List.map_cons, List.map_nil]); first | done | rfl | (simp only [List.length_drop, List.length_take]; rfl)) ?_; (with_reducible refine (zone_takes.calls a0_0 a0_1 _ _ l0_2 a0_3 false _ ?side1 ?side2 A19.out).mono ?_); (case side1 => repeat (first | exact (Kd.C_below HR0_2.out HB.out) | (with_reducible refine Kd.C_alloc ?_ _) | (with_reducible refine Kd.C_drewN ?_ _) | (with_reducible refine Kd.C_drew ?_))); (case side2 => exact HC0_2.out); rintro e w27 ⟨rfl, hb⟩; refine ⟨_, rfl, ?_⟩; have n0_ := Aside0.mk (blk_below (g := gb517) (o := .cells #[.int .i64 a0_0, .int .i64 a0_1, .slice A0_2 l0_2.length c0_2, .int .i64 a0_3] 52 (0, 0)) (by (with_reducible repeat (first | refine blk_drewN ?_ _ | refine blk_drew ?_ | refine blk_alloc ?_ _)); exact BK517.out) hb); have n1_ := Aside0.mk (below_step (by repeat (first | (with_reducible first | exact HB.out | apply below_alloc | apply pw_below_drewN | apply below_drew1 | refine below_set ?_ GE517.out) | exact HB.out)) hb); clear BK517; clear HB; have BK517 := n0_; have HB := n1_; clear n0_ n1_; (try clear hb); (try clear hb2); (try clear hk); (try clear hi); have hcz28_0 : w27.cell? ⟨gb517, 0, none⟩ = some (.int .i64 a0_0) := (blk_cell BK517.out 0).trans rfl; have hcz28_1 : w27.cell? ⟨gb517, 1, none⟩ = some (.int .i64 a0_1) := (blk_cell BK517.out 1).trans rfl; have hcz28_2 : w27.cell? ⟨gb517, 2, none⟩ = some (.slice A0_2 l0_2.length c0_2) := (blk_cell BK517.out 2).trans rfl; have hcz28_3 : w27.cell? ⟨gb517, 3, none⟩ = some (.int .i64 a0_3) := (blk_cell BK517.out 3).trans rfl; have hfz28_0 := blk_frozen BK517.out 0; have hfz28_1 := blk_frozen BK517.out 1; have hfz28_2 := blk_frozen BK517.out 2; have hfz28_3 := blk_frozen BK517.out 3))
      go_ret
      exact ⟨by first | rfl | (simp [errW_none, errW_some] <;> rfl) | (simp [*, errW_none, errW_some] <;> rfl), by repeat (first | (with_reducible first | exact HB.out | apply below_alloc | apply pw_below_drewN | apply below_drew1 | refine below_set ?_ GE517.out) | exact HB.out)⟩
def zone_Room.f (k : Nat) (a0_0 : Int) (a0_1 : Int) (l0_2 : List Int) (a0_3 : Int) (a1 : Int) : Option (Int) := (zone_Check.f k a0_0 a0_1 l0_2 a0_3 a1).bind fun t520 => (if t520 = true then ((zone_takes.f a0_0 a0_1 l0_2 a0_3).bind fun t521 => (if t521 = true then (some (wrap64 (a1 - (l0_2.length : Int)))) else (some 0))) else (some 0))
set_option maxHeartbeats 8000000 in
set_option maxRecDepth 100000 in
theorem zone_Room.calls (k : Nat) (a0_0 : Int) (a0_1 : Int) (A0_2 : Option Addr) (c0_2 : Nat) (l0_2 : List Int) (a0_3 : Int) (a1 : Int) (r : Int) (w : World) (hr0_2 : Kd.C (Kd.int .u8) w A0_2 l0_2.length l0_2) (hc0_2 : l0_2.length ≤ c0_2) (h : zone_Room.f k a0_0 a0_1 l0_2 a0_3 a1 = some r) :
  Calls Try.prog 84 #[.agg #[.int .i64 a0_0, .int .i64 a0_1, .slice A0_2 l0_2.length c0_2, .int .i64 a0_3], .int .i64 a1] w fun e w' => e = .returned (.int .i64 r) ∧ Below w.heap.size w w' := by
 have hu52 := Try.underlying52
 have HR0_2 := Aside0.mk hr0_2
 have HC0_2 := Aside0.mk hc0_2
 clear hr0_2 hc0_2
 have HB := Aside0.mk (Below.refl w.heap.size w)
 have H : ((zone_Check.f k a0_0 a0_1 l0_2 a0_3 a1).bind fun t520 => (if t520 = true then ((zone_takes.f a0_0 a0_1 l0_2 a0_3).bind fun t521 => (if t521 = true then (some (wrap64 (a1 - (l0_2.length : Int)))) else (some 0))) else (some 0))) = some r := h
 clear h
 replace H := Option.bind_eq_some_iff.mp H
 obtain ⟨t520, A30, H⟩ := H
 replace H : (if t520 = true then ((zone_takes.f a0_0 a0_1 l0_2 a0_3).bind fun t521 => (if t521 = true then (some (wrap64 (a1 - (l0_2.length : Int)))) else (some 0))) else (some 0)) = some r := H
 have A3 := Aside0.mk A30
 clear A30
 by_cases c4 : t520 = true
 ·subst c4
  have H1 : ((zone_takes.f a0_0 a0_1 l0_2 a0_3).bind fun t521 => (if t521 = true then (some (wrap64 (a1 - (l0_2.length : Int)))) else (some 0))) = some r := by rw [if_pos rfl] at H; exact H
  clear H
  have H := H1
  clear H1
  replace H := Option.bind_eq_some_iff.mp H
  obtain ⟨t521, A50, H⟩ := H
  replace H : (if t521 = true then (some (wrap64 (a1 - (l0_2.length : Int)))) else (some 0)) = some r := H
  have A5 := Aside0.mk A50
  clear A50
  by_cases c6 : t521 = true
  ·subst c6
   have H1 : (some (wrap64 (a1 - (l0_2.length : Int)))) = some r := by rw [if_pos rfl] at H; exact H
   clear H
   have H := H1
   clear H1
   obtain rfl := Option.some.inj H
   go_enter Try.func84, Try.ntmps84
   go_wp2_with (first | ((with_reducible refine gate_dst (N := 2) rfl ?_); refine box_event ?hg (N := 2) ?hd (cs := #[.int .i64 a0_0, .int .i64 a0_1, .slice A0_2 l0_2.length c0_2, .int .i64 a0_3]) (t := 52) ?hr ?_; (case hd => rfl); (case hg => rfl); (case hr => first | (go_simp; done) | (go_simp; rfl)); intro gb519 hg w7 hbox hb; have n0_ := Aside0.mk (below_step (by repeat (first | (with_reducible first | exact HB.out | apply below_alloc | apply pw_below_drewN | apply below_drew1) | exact HB.out)) hb); have n1_ := Aside0.mk (hbox); have n2_ := Aside0.mk ((by rw [hg]; exact (below_size (by repeat (first | (with_reducible first | exact HB.out | apply below_alloc | apply pw_below_drewN | apply below_drew1) | exact HB.out))) : w.heap.size ≤ gb519)); have n3_ := Aside0.mk ((by rw [hg]; exact (below_size (by repeat (first | (with_reducible first | exact HB.out | apply below_alloc | apply pw_below_drewN | apply below_drew1) | exact HB.out))) : w.heap.size ≤ gb519)); clear HB; have HB := n0_; have BK519 := n1_; have GW519 := n2_; have GE519 := n3_; clear n0_ n1_ n2_ n3_; clear hb hbox hg; have hcz8_0 : w7.cell? ⟨gb519, 0, none⟩ = some (.int .i64 a0_0) := (blk_cell BK519.out 0).trans rfl; have hcz8_1 : w7.cell? ⟨gb519, 1, none⟩ = some (.int .i64 a0_1) := (blk_cell BK519.out 1).trans rfl; have hcz8_2 : w7.cell? ⟨gb519, 2, none⟩ = some (.slice A0_2 l0_2.length c0_2) := (blk_cell BK519.out 2).trans rfl; have hcz8_3 : w7.cell? ⟨gb519, 3, none⟩ = some (.int .i64 a0_3) := (blk_cell BK519.out 3).trans rfl; have hfz8_0 := blk_frozen BK519.out 0; have hfz8_1 := blk_frozen BK519.out 1; have hfz8_2 := blk_frozen BK519.out 2; have hfz8_3 := blk_frozen BK519.out 3) | ((with_reducible refine gate_callee (f := 45) rfl ?_); refine goesL_ (some 7) rfl rfl Try.func45 (by kernel_rfl) rfl #[.agg #[.int .i64 a0_0, .int .i64 a0_1, .slice A0_2 l0_2.length c0_2, .int .i64 a0_3], .int .i64 a1] rfl (by (try simp only [List.map_toArray, List.map_cons, List.map_nil]); first | done | rfl | (simp only [List.length_drop, List.length_take]; rfl)) ?_; (with_reducible refine (zone_Check.calls k a0_0 a0_1 _ _ l0_2 a0_3 a1 true _ ?side1 ?side2 A3.out).mono ?_); (case side1 => repeat (first | exact (Kd.C_below HR0_2.out HB.out) | (with_reducible refine Kd.C_alloc ?_ _) | (with_reducible refine Kd.C_drewN ?_ _) | (with_reducible refine Kd.C_drew ?_))); (case side2 => exact HC0_2.out); rintro e w9 ⟨rfl, hb⟩; refine ⟨_, rfl, ?_⟩; have n0_ := Aside0.mk (blk_below (g := gb519) (o := .cells #[.int .i64 a0_0, .int .i64 a0_1, .slice A0_2 l0_2.length c0_2, .int .i64 a0_3] 52 (0, 0)) (by (with_reducible repeat (first | refine blk_drewN ?_ _ | refine blk_drew ?_ | refine blk_alloc ?_ _)); exact BK519.out) hb); have n1_ := Aside0.mk (below_step (by repeat (first | (with_reducible first | exact HB.out | apply below_alloc | apply pw_below_drewN | apply below_drew1 | refine below_set ?_ GE519.out) | exact HB.out)) hb); clear BK519; clear HB; have BK519 := n0_; have HB := n1_; clear n0_ n1_; (try clear hb); (try clear hb2); (try clear hk); (try clear hi); have hcz10_0 : w9.cell? ⟨gb519, 0, none⟩ = some (.int .i64 a0_0) := (blk_cell BK519.out 0).trans rfl; have hcz10_1 : w9.cell? ⟨gb519, 1, none⟩ = some (.int .i64 a0_1) := (blk_cell BK519.out 1).trans rfl; have hcz10_2 : w9.cell? ⟨gb519, 2, none⟩ = some (.slice A0_2 l0_2.length c0_2) := (blk_cell BK519.out 2).trans rfl; have hcz10_3 : w9.cell? ⟨gb519, 3, none⟩ = some (.int .i64 a0_3) := (blk_cell BK519.out 3).trans rfl; have hfz10_0 := blk_frozen BK519.out 0; have hfz10_1 := blk_frozen BK519.out 1; have hfz10_2 := blk_frozen BK519.out 2; have hfz10_3 := blk_frozen BK519.out 3) | (go_at_call 68; (with_reducible refine (zone_takes.calls a0_0 a0_1 _ _ l0_2 a0_3 true _ ?side1 ?side2 A5.out).mono ?_); (case side1 => repeat (first | exact (Kd.C_below HR0_2.out HB.out) | (with_reducible refine Kd.C_alloc ?_ _) | (with_reducible refine Kd.C_drewN ?_ _) | (with_reducible refine Kd.C_drew ?_))); (case side2 => exact HC0_2.out); rintro e w11 ⟨rfl, hb⟩; have n0_ := Aside0.mk (blk_below (g := gb519) (o := .cells #[.int .i64 a0_0, .int .i64 a0_1, .slice A0_2 l0_2.length c0_2, .int .i64 a0_3] 52 (0, 0)) (by (with_reducible repeat (first | refine blk_drewN ?_ _ | refine blk_drew ?_ | refine blk_alloc ?_ _)); exact BK519.out) hb); have n1_ := Aside0.mk (below_step (by repeat (first | (with_reducible first | exact HB.out | apply below_alloc | apply pw_below_drewN | apply below_drew1 | refine below_set ?_ GE519.out) | exact HB.out)) hb); clear BK519; clear HB; have BK519 := n0_; have HB := n1_; clear n0_ n1_; (try clear hb); (try clear hb2); (try clear hk); (try clear hi); have hcz12_0 : w11.cell? ⟨gb519, 0, none⟩ = some (.int .i64 a0_0) := (blk_cell BK519.out 0).trans rfl; have hcz12_1 : w11.cell? ⟨gb519, 1, none⟩ = some (.int .i64 a0_1) := (blk_cell BK519.out 1).trans rfl; have hcz12_2 : w11.cell? ⟨gb519, 2, none⟩ = some (.slice A0_2 l0_2.length c0_2) := (blk_cell BK519.out 2).trans rfl; have hcz12_3 : w11.cell? ⟨gb519, 3, none⟩ = some (.int .i64 a0_3) := (blk_cell BK519.out 3).trans rfl; have hfz12_0 := blk_frozen BK519.out 0; have hfz12_1 := blk_frozen BK519.out 1; have hfz12_2 := blk_frozen BK519.out 2; have hfz12_3 := blk_frozen BK519.out 3))
   go_ret
   exact ⟨by first | rfl | (simp [errW_none, errW_some] <;> rfl) | (simp [*, errW_none, errW_some] <;> rfl), by repeat (first | (with_reducible first | exact HB.out | apply below_alloc | apply pw_below_drewN | apply below_drew1 | refine below_set ?_ GE519.out) | exact HB.out)⟩
  ·replace c6 := Bool.eq_false_iff.mpr c6
   subst c6
   have H1 : (some 0) = some r := by rw [if_neg (show ¬ (false = true) by decide)] at H; exact H
   clear H
   have H := H1
   clear H1
   obtain rfl := Option.some.inj H
   go_enter Try.func84, Try.ntmps84
   go_wp2_with (first | ((with_reducible refine gate_dst (N := 2) rfl ?_); refine box_event ?hg (N := 2) ?hd (cs := #[.int .i64 a0_0, .int .i64 a0_1, .slice A0_2 l0_2.length c0_2, .int .i64 a0_3]) (t := 52) ?hr ?_; (case hd => rfl); (case hg => rfl); (case hr => first | (go_simp; done) | (go_simp; rfl)); intro gb519 hg w13 hbox hb; have n0_ := Aside0.mk (below_step (by repeat (first | (with_reducible first | exact HB.out | apply below_alloc | apply pw_below_drewN | apply below_drew1) | exact HB.out)) hb); have n1_ := Aside0.mk (hbox); have n2_ := Aside0.mk ((by rw [hg]; exact (below_size (by repeat (first | (with_reducible first | exact HB.out | apply below_alloc | apply pw_below_drewN | apply below_drew1) | exact HB.out))) : w.heap.size ≤ gb519)); have n3_ := Aside0.mk ((by rw [hg]; exact (below_size (by repeat (first | (with_reducible first | exact HB.out | apply below_alloc | apply pw_below_drewN | apply below_drew1) | exact HB.out))) : w.heap.size ≤ gb519)); clear HB; have HB := n0_; have BK519 := n1_; have GW519 := n2_; have GE519 := n3_; clear n0_ n1_ n2_ n3_; clear hb hbox hg; have hcz14_0 : w13.cell? ⟨gb519, 0, none⟩ = some (.int .i64 a0_0) := (blk_cell BK519.out 0).trans rfl; have hcz14_1 : w13.cell? ⟨gb519, 1, none⟩ = some (.int .i64 a0_1) := (blk_cell BK519.out 1).trans rfl; have hcz14_2 : w13.cell? ⟨gb519, 2, none⟩ = some (.slice A0_2 l0_2.length c0_2) := (blk_cell BK519.out 2).trans rfl; have hcz14_3 : w13.cell? ⟨gb519, 3, none⟩ = some (.int .i64 a0_3) := (blk_cell BK519.out 3).trans rfl; have hfz14_0 := blk_frozen BK519.out 0; have hfz14_1 := blk_frozen BK519.out 1; have hfz14_2 := blk_frozen BK519.out 2; have hfz14_3 := blk_frozen BK519.out 3) | ((with_reducible refine gate_callee (f := 45) rfl ?_); refine goesL_ (some 7) rfl rfl Try.func45 (by kernel_rfl) rfl #[.agg #[.int .i64 a0_0, .int .i64 a0_1, .slice A0_2 l0_2.length c0_2, .int .i64 a0_3], .int .i64 a1] rfl (by (try simp only [List.map_toArray, List.map_cons, List.map_nil]); first | done | rfl | (simp only [List.length_drop, List.length_take]; rfl)) ?_; (with_reducible refine (zone_Check.calls k a0_0 a0_1 _ _ l0_2 a0_3 a1 true _ ?side1 ?side2 A3.out).mono ?_); (case side1 => repeat (first | exact (Kd.C_below HR0_2.out HB.out) | (with_reducible refine Kd.C_alloc ?_ _) | (with_reducible refine Kd.C_drewN ?_ _) | (with_reducible refine Kd.C_drew ?_))); (case side2 => exact HC0_2.out); rintro e w15 ⟨rfl, hb⟩; refine ⟨_, rfl, ?_⟩; have n0_ := Aside0.mk (blk_below (g := gb519) (o := .cells #[.int .i64 a0_0, .int .i64 a0_1, .slice A0_2 l0_2.length c0_2, .int .i64 a0_3] 52 (0, 0)) (by (with_reducible repeat (first | refine blk_drewN ?_ _ | refine blk_drew ?_ | refine blk_alloc ?_ _)); exact BK519.out) hb); have n1_ := Aside0.mk (below_step (by repeat (first | (with_reducible first | exact HB.out | apply below_alloc | apply pw_below_drewN | apply below_drew1 | refine below_set ?_ GE519.out) | exact HB.out)) hb); clear BK519; clear HB; have BK519 := n0_; have HB := n1_; clear n0_ n1_; (try clear hb); (try clear hb2); (try clear hk); (try clear hi); have hcz16_0 : w15.cell? ⟨gb519, 0, none⟩ = some (.int .i64 a0_0) := (blk_cell BK519.out 0).trans rfl; have hcz16_1 : w15.cell? ⟨gb519, 1, none⟩ = some (.int .i64 a0_1) := (blk_cell BK519.out 1).trans rfl; have hcz16_2 : w15.cell? ⟨gb519, 2, none⟩ = some (.slice A0_2 l0_2.length c0_2) := (blk_cell BK519.out 2).trans rfl; have hcz16_3 : w15.cell? ⟨gb519, 3, none⟩ = some (.int .i64 a0_3) := (blk_cell BK519.out 3).trans rfl; have hfz16_0 := blk_frozen BK519.out 0; have hfz16_1 := blk_frozen BK519.out 1; have hfz16_2 := blk_frozen BK519.out 2; have hfz16_3 := blk_frozen BK519.out 3) | (go_at_call 68; (with_reducible refine (zone_takes.calls a0_0 a0_1 _ _ l0_2 a0_3 false _ ?side1 ?side2 A5.out).mono ?_); (case side1 => repeat (first | exact (Kd.C_below HR0_2.out HB.out) | (with_reducible refine Kd.C_alloc ?_ _) | (with_reducible refine Kd.C_drewN ?_ _) | (with_reducible refine Kd.C_drew ?_))); (case side2 => exact HC0_2.out); rintro e w17 ⟨rfl, hb⟩; have n0_ := Aside0.mk (blk_below (g := gb519) (o := .cells #[.int .i64 a0_0, .int .i64 a0_1, .slice A0_2 l0_2.length c0_2, .int .i64 a0_3] 52 (0, 0)) (by (with_reducible repeat (first | refine blk_drewN ?_ _ | refine blk_drew ?_ | refine blk_alloc ?_ _)); exact BK519.out) hb); have n1_ := Aside0.mk (below_step (by repeat (first | (with_reducible first | exact HB.out | apply below_alloc | apply pw_below_drewN | apply below_drew1 | refine below_set ?_ GE519.out) | exact HB.out)) hb); clear BK519; clear HB; have BK519 := n0_; have HB := n1_; clear n0_ n1_; (try clear hb); (try clear hb2); (try clear hk); (try clear hi)))
   go_ret
   exact ⟨by first | rfl | (simp [errW_none, errW_some] <;> rfl) | (simp [*, errW_none, errW_some] <;> rfl), by repeat (first | (with_reducible first | exact HB.out | apply below_alloc | apply pw_below_drewN | apply below_drew1 | refine below_set ?_ GE519.out) | exact HB.out)⟩
 ·replace c4 := Bool.eq_false_iff.mpr c4
  subst c4
  have H1 : (some 0) = some r := by rw [if_neg (show ¬ (false = true) by decide)] at H; exact H
  clear H
  have H := H1
  clear H1
  obtain rfl := Option.some.inj H
  go_enter Try.func84, Try.ntmps84
  go_wp2_with (first | ((with_reducible refine gate_dst (N := 2) rfl ?_); refine box_event ?hg (N := 2) ?hd (cs := #[.int .i64 a0_0, .int .i64 a0_1, .slice A0_2 l0_2.length c0_2, .int .i64 a0_3]) (t := 52) ?hr ?_; (case hd => rfl); (case hg => rfl); (case hr => first | (go_simp; done) | (go_simp; rfl)); intro gb519 hg w18 hbox hb; have n0_ := Aside0.mk (below_step (by repeat (first | (with_reducible first | exact HB.out | apply below_alloc | apply pw_below_drewN | apply below_drew1) | exact HB.out)) hb); have n1_ := Aside0.mk (hbox); have n2_ := Aside0.mk ((by rw [hg]; exact (below_size (by repeat (first | (with_reducible first | exact HB.out | apply below_alloc | apply pw_below_drewN | apply below_drew1) | exact HB.out))) : w.heap.size ≤ gb519)); have n3_ := Aside0.mk ((by rw [hg]; exact (below_size (by repeat (first | (with_reducible first | exact HB.out | apply below_alloc | apply pw_below_drewN | apply below_drew1) | exact HB.out))) : w.heap.size ≤ gb519)); clear HB; have HB := n0_; have BK519 := n1_; have GW519 := n2_; have GE519 := n3_; clear n0_ n1_ n2_ n3_; clear hb hbox hg; have hcz19_0 : w18.cell? ⟨gb519, 0, none⟩ = some (.int .i64 a0_0) := (blk_cell BK519.out 0).trans rfl; have hcz19_1 : w18.cell? ⟨gb519, 1, none⟩ = some (.int .i64 a0_1) := (blk_cell BK519.out 1).trans rfl; have hcz19_2 : w18.cell? ⟨gb519, 2, none⟩ = some (.slice A0_2 l0_2.length c0_2) := (blk_cell BK519.out 2).trans rfl; have hcz19_3 : w18.cell? ⟨gb519, 3, none⟩ = some (.int .i64 a0_3) := (blk_cell BK519.out 3).trans rfl; have hfz19_0 := blk_frozen BK519.out 0; have hfz19_1 := blk_frozen BK519.out 1; have hfz19_2 := blk_frozen BK519.out 2; have hfz19_3 := blk_frozen BK519.out 3) | ((with_reducible refine gate_callee (f := 45) rfl ?_); refine goesL_ (some 7) rfl rfl Try.func45 (by kernel_rfl) rfl #[.agg #[.int .i64 a0_0, .int .i64 a0_1, .slice A0_2 l0_2.length c0_2, .int .i64 a0_3], .int .i64 a1] rfl (by (try simp only [List.map_toArray, List.map_cons, List.map_nil]); first | done | rfl | (simp only [List.length_drop, List.length_take]; rfl)) ?_; (with_reducible refine (zone_Check.calls k a0_0 a0_1 _ _ l0_2 a0_3 a1 false _ ?side1 ?side2 A3.out).mono ?_); (case side1 => repeat (first | exact (Kd.C_below HR0_2.out HB.out) | (with_reducible refine Kd.C_alloc ?_ _) | (with_reducible refine Kd.C_drewN ?_ _) | (with_reducible refine Kd.C_drew ?_))); (case side2 => exact HC0_2.out); rintro e w20 ⟨rfl, hb⟩; refine ⟨_, rfl, ?_⟩; have n0_ := Aside0.mk (blk_below (g := gb519) (o := .cells #[.int .i64 a0_0, .int .i64 a0_1, .slice A0_2 l0_2.length c0_2, .int .i64 a0_3] 52 (0, 0)) (by (with_reducible repeat (first | refine blk_drewN ?_ _ | refine blk_drew ?_ | refine blk_alloc ?_ _)); exact BK519.out) hb); have n1_ := Aside0.mk (below_step (by repeat (first | (with_reducible first | exact HB.out | apply below_alloc | apply pw_below_drewN | apply below_drew1 | refine below_set ?_ GE519.out) | exact HB.out)) hb); clear BK519; clear HB; have BK519 := n0_; have HB := n1_; clear n0_ n1_; (try clear hb); (try clear hb2); (try clear hk); (try clear hi)))
  go_ret
  exact ⟨by first | rfl | (simp [errW_none, errW_some] <;> rfl) | (simp [*, errW_none, errW_some] <;> rfl), by repeat (first | (with_reducible first | exact HB.out | apply below_alloc | apply pw_below_drewN | apply below_drew1 | refine below_set ?_ GE519.out) | exact HB.out)⟩
-- GIVEN: function 74 (record_Read)
-- GIVEN: function 91 (crc_Open)
def zone_filled.f (a0_0 : Int) (a0_1 : Int) (l0_2 : List Int) (a0_3 : Int) (a1 : Int) (a2 : Int) : Option (Int) := if (l0_2.length : Int) = 0 then (some 0) else (if (l0_2.length : Int) = a1 then (some 3) else (some a2))
set_option maxHeartbeats 8000000 in
set_option maxRecDepth 100000 in
theorem zone_filled.calls (a0_0 : Int) (a0_1 : Int) (A0_2 : Option Addr) (c0_2 : Nat) (l0_2 : List Int) (a0_3 : Int) (a1 : Int) (a2 : Int) (r : Int) (w : World) (hr0_2 : Kd.C (Kd.int .u8) w A0_2 l0_2.length l0_2) (hc0_2 : l0_2.length ≤ c0_2) (h : zone_filled.f a0_0 a0_1 l0_2 a0_3 a1 a2 = some r) :
  Calls Try.prog 82 #[.agg #[.int .i64 a0_0, .int .i64 a0_1, .slice A0_2 l0_2.length c0_2, .int .i64 a0_3], .int .i64 a1, .int .i64 a2] w fun e w' => e = .returned (.int .i64 r) ∧ Below w.heap.size w w' := by
 have hu52 := Try.underlying52
 have HR0_2 := Aside0.mk hr0_2
 have HC0_2 := Aside0.mk hc0_2
 clear hr0_2 hc0_2
 have HB := Aside0.mk (Below.refl w.heap.size w)
 have H : (if (l0_2.length : Int) = 0 then (some 0) else (if (l0_2.length : Int) = a1 then (some 3) else (some a2))) = some r := h
 clear h
 by_cases c4 : (l0_2.length : Int) = 0
 ·rw [if_pos c4] at H
  have c4b0 : ((l0_2.length : Int) == 0) = true := beq_iff_eq.mpr c4
  have c4b1 : ((l0_2.length : Int) != 0) = false := bne_eq_false_iff_eq.mpr c4
  clear c4
  obtain rfl := Option.some.inj H
  go_enter Try.func82, Try.ntmps82
  go_wp2_with (first | ((with_reducible refine gate_dst (N := 3) rfl ?_); refine box_event ?hg (N := 3) ?hd (cs := #[.int .i64 a0_0, .int .i64 a0_1, .slice A0_2 l0_2.length c0_2, .int .i64 a0_3]) (t := 52) ?hr ?_; (case hd => rfl); (case hg => rfl); (case hr => first | (go_simp; done) | (go_simp; rfl)); intro gb528 hg w5 hbox hb; have n0_ := Aside0.mk (below_step (by repeat (first | (with_reducible first | exact HB.out | apply below_alloc | apply pw_below_drewN | apply below_drew1) | exact HB.out)) hb); have n1_ := Aside0.mk (hbox); have n2_ := Aside0.mk ((by rw [hg]; exact (below_size (by repeat (first | (with_reducible first | exact HB.out | apply below_alloc | apply pw_below_drewN | apply below_drew1) | exact HB.out))) : w.heap.size ≤ gb528)); have n3_ := Aside0.mk ((by rw [hg]; exact (below_size (by repeat (first | (with_reducible first | exact HB.out | apply below_alloc | apply pw_below_drewN | apply below_drew1) | exact HB.out))) : w.heap.size ≤ gb528)); clear HB; have HB := n0_; have BK528 := n1_; have GW528 := n2_; have GE528 := n3_; clear n0_ n1_ n2_ n3_; clear hb hbox hg; have hcz6_0 : w5.cell? ⟨gb528, 0, none⟩ = some (.int .i64 a0_0) := (blk_cell BK528.out 0).trans rfl; have hcz6_1 : w5.cell? ⟨gb528, 1, none⟩ = some (.int .i64 a0_1) := (blk_cell BK528.out 1).trans rfl; have hcz6_2 : w5.cell? ⟨gb528, 2, none⟩ = some (.slice A0_2 l0_2.length c0_2) := (blk_cell BK528.out 2).trans rfl; have hcz6_3 : w5.cell? ⟨gb528, 3, none⟩ = some (.int .i64 a0_3) := (blk_cell BK528.out 3).trans rfl; have hfz6_0 := blk_frozen BK528.out 0; have hfz6_1 := blk_frozen BK528.out 1; have hfz6_2 := blk_frozen BK528.out 2; have hfz6_3 := blk_frozen BK528.out 3))
  go_ret
  exact ⟨by first | rfl | (simp [errW_none, errW_some] <;> rfl) | (simp [*, errW_none, errW_some] <;> rfl), by repeat (first | (with_reducible first | exact HB.out | apply below_alloc | apply pw_below_drewN | apply below_drew1 | refine below_set ?_ GE528.out) | exact HB.out)⟩
 ·rw [if_neg c4] at H
  have c4b0 : ((l0_2.length : Int) == 0) = false := beq_eq_false_iff_ne.mpr c4
  have c4b1 : ((l0_2.length : Int) != 0) = true := bne_iff_ne.mpr c4
  have c4b2 : ¬ (l0_2 = []) := fun h_ => c4 (by rw [h_]; rfl)
  by_cases c7 : (l0_2.length : Int) = a1
  ·rw [if_pos c7] at H
   have c7b0 : ((l0_2.length : Int) == a1) = true := beq_iff_eq.mpr c7
   have c7b1 : ((l0_2.length : Int) != a1) = false := bne_eq_false_iff_eq.mpr c7
   clear c7
   obtain rfl := Option.some.inj H
   go_enter Try.func82, Try.ntmps82
   go_wp2_with (first | ((with_reducible refine gate_dst (N := 3) rfl ?_); refine box_event ?hg (N := 3) ?hd (cs := #[.int .i64 a0_0, .int .i64 a0_1, .slice A0_2 l0_2.length c0_2, .int .i64 a0_3]) (t := 52) ?hr ?_; (case hd => rfl); (case hg => rfl); (case hr => first | (go_simp; done) | (go_simp; rfl)); intro gb528 hg w8 hbox hb; have n0_ := Aside0.mk (below_step (by repeat (first | (with_reducible first | exact HB.out | apply below_alloc | apply pw_below_drewN | apply below_drew1) | exact HB.out)) hb); have n1_ := Aside0.mk (hbox); have n2_ := Aside0.mk ((by rw [hg]; exact (below_size (by repeat (first | (with_reducible first | exact HB.out | apply below_alloc | apply pw_below_drewN | apply below_drew1) | exact HB.out))) : w.heap.size ≤ gb528)); have n3_ := Aside0.mk ((by rw [hg]; exact (below_size (by repeat (first | (with_reducible first | exact HB.out | apply below_alloc | apply pw_below_drewN | apply below_drew1) | exact HB.out))) : w.heap.size ≤ gb528)); clear HB; have HB := n0_; have BK528 := n1_; have GW528 := n2_; have GE528 := n3_; clear n0_ n1_ n2_ n3_; clear hb hbox hg; have hcz9_0 : w8.cell? ⟨gb528, 0, none⟩ = some (.int .i64 a0_0) := (blk_cell BK528.out 0).trans rfl; have hcz9_1 : w8.cell? ⟨gb528, 1, none⟩ = some (.int .i64 a0_1) := (blk_cell BK528.out 1).trans rfl; have hcz9_2 : w8.cell? ⟨gb528, 2, none⟩ = some (.slice A0_2 l0_2.length c0_2) := (blk_cell BK528.out 2).trans rfl; have hcz9_3 : w8.cell? ⟨gb528, 3, none⟩ = some (.int .i64 a0_3) := (blk_cell BK528.out 3).trans rfl; have hfz9_0 := blk_frozen BK528.out 0; have hfz9_1 := blk_frozen BK528.out 1; have hfz9_2 := blk_frozen BK528.out 2; have hfz9_3 := blk_frozen BK528.out 3))
   go_ret
   exact ⟨by first | rfl | (simp [errW_none, errW_some] <;> rfl) | (simp [*, errW_none, errW_some] <;> rfl), by repeat (first | (with_reducible first | exact HB.out | apply below_alloc | apply pw_below_drewN | apply below_drew1 | refine below_set ?_ GE528.out) | exact HB.out)⟩
  ·rw [if_neg c7] at H
   have c7b0 : ((l0_2.length : Int) == a1) = false := beq_eq_false_iff_ne.mpr c7
   have c7b1 : ((l0_2.length : Int) != a1) = true := bne_iff_ne.mpr c7
   obtain rfl := Option.some.inj H
   go_enter Try.func82, Try.ntmps82
   go_wp2_with (first | ((with_reducible refine gate_dst (N := 3) rfl ?_); refine box_event ?hg (N := 3) ?hd (cs := #[.int .i64 a0_0, .int .i64 a0_1, .slice A0_2 l0_2.length c0_2, .int .i64 a0_3]) (t := 52) ?hr ?_; (case hd => rfl); (case hg => rfl); (case hr => first | (go_simp; done) | (go_simp; rfl)); intro gb528 hg w10 hbox hb; have n0_ := Aside0.mk (below_step (by repeat (first | (with_reducible first | exact HB.out | apply below_alloc | apply pw_below_drewN | apply below_drew1) | exact HB.out)) hb); have n1_ := Aside0.mk (hbox); have n2_ := Aside0.mk ((by rw [hg]; exact (below_size (by repeat (first | (with_reducible first | exact HB.out | apply below_alloc | apply pw_below_drewN | apply below_drew1) | exact HB.out))) : w.heap.size ≤ gb528)); have n3_ := Aside0.mk ((by rw [hg]; exact (below_size (by repeat (first | (with_reducible first | exact HB.out | apply below_alloc | apply pw_below_drewN | apply below_drew1) | exact HB.out))) : w.heap.size ≤ gb528)); clear HB; have HB := n0_; have BK528 := n1_; have GW528 := n2_; have GE528 := n3_; clear n0_ n1_ n2_ n3_; clear hb hbox hg; have hcz11_0 : w10.cell? ⟨gb528, 0, none⟩ = some (.int .i64 a0_0) := (blk_cell BK528.out 0).trans rfl; have hcz11_1 : w10.cell? ⟨gb528, 1, none⟩ = some (.int .i64 a0_1) := (blk_cell BK528.out 1).trans rfl; have hcz11_2 : w10.cell? ⟨gb528, 2, none⟩ = some (.slice A0_2 l0_2.length c0_2) := (blk_cell BK528.out 2).trans rfl; have hcz11_3 : w10.cell? ⟨gb528, 3, none⟩ = some (.int .i64 a0_3) := (blk_cell BK528.out 3).trans rfl; have hfz11_0 := blk_frozen BK528.out 0; have hfz11_1 := blk_frozen BK528.out 1; have hfz11_2 := blk_frozen BK528.out 2; have hfz11_3 := blk_frozen BK528.out 3))
   go_ret
   exact ⟨by first | rfl | (simp [errW_none, errW_some] <;> rfl) | (simp [*, errW_none, errW_some] <;> rfl), by repeat (first | (with_reducible first | exact HB.out | apply below_alloc | apply pw_below_drewN | apply below_drew1 | refine below_set ?_ GE528.out) | exact HB.out)⟩
end Go.Proofs.Ytdgefplbfffenaa.X
namespace Go.Proofs.Ytdgefplbfffenaa.X
open Go.RowKit Go.Proofs.YtdgefplbfffenaaW.PrintWords Go.Proofs.YtdgefplbfffenaaW.PrintLast Go.Proofs.YtdgefplbfffenaaW.PrintMore
/-- The first place at which p holds; -1: none. -/
def fidx (p : S52 → Bool) (l : List S52) : Int := if l.any p then (l.findIdx p : Int) else -1
theorem fidx_hit (p : S52 → Bool) (l : List S52) (i : Nat) (hi : i < l.length) (h0 : ∀ j, j < i → p (l.getD j z52) = false) (h1 : p (l.getD i z52) = true) : fidx p l = (i : Int) := by
  have e1 : l.getD i z52 = l[i] := by simp [List.getD_eq_getElem?_getD, List.getElem?_eq_getElem hi]
  have ha : l.any p = true := List.any_eq_true.2 ⟨l[i], List.getElem_mem hi, by rw [← e1]; exact h1⟩
  have hf : l.findIdx p = i := by
    rw [List.findIdx_eq hi]
    refine ⟨by rw [← e1]; exact h1, fun j hj => ?_⟩
    have := h0 j hj
    have e2 : l.getD j z52 = l[j] := by simp [List.getD_eq_getElem?_getD, List.getElem?_eq_getElem (show j < l.length by omega)]
    rw [← e2]; exact this
  rw [fidx, if_pos ha, hf]
theorem fidx_miss (p : S52 → Bool) (l : List S52) (h0 : ∀ j, j < l.length → p (l.getD j z52) = false) : fidx p l = -1 := by
  have ha : l.any p = false := by
    rw [List.any_eq_false]
    intro x hx
    obtain ⟨j, hj, rfl⟩ := List.getElem_of_mem hx
    have e2 : l.getD j z52 = l[j] := by simp [List.getD_eq_getElem?_getD, List.getElem?_eq_getElem hj]
    have := h0 j hj
    rw [e2] at this; simp [this]
  rw [fidx, if_neg (by simp [ha])]
set_option maxHeartbeats 4000000 in
set_option maxRecDepth 100000 in
theorem indexFunc_zone (g : Nat) (lb : Array Value) (p : S52 → Bool) (A : Option Addr) (c : Nat) (l : List S52) (w : World)
    (eg : ∀ args w, (callFunc g args).run Try.prog w = .ok (.enter g args) w)
    (hp : ∀ (W : World) (z : S52) (cs : List Value), Below w.heap.size w W → k52.K W z cs → Calls Try.prog g (#[.agg cs.toArray] ++ lb) W fun e w' => e = .returned (.bool (p z)) ∧ Below W.heap.size W w')
    (hr : k52.C w A l.length l) :
    Calls Try.prog 67 #[.slice A l.length c, .func (.func g) #[] lb] w fun e w' => e = .returned (.int .i64 (fidx p l)) ∧ Below w.heap.size w w' := by
  have HR := Aside0.mk hr
  have HP := Aside0.mk hp
  have hlen : l.length ≤ 9223372036854775807 := hr.2.1
  clear hr hp
  go_enter Try.func67, Try.ntmps67
  go_wp2
  go_loopw [8] (fun v8 wr => ∃ i : Nat, v8 = .int .i64 i ∧ i ≤ l.length ∧ Aside0 (∀ j, j < i → p (l.getD j z52) = false) ∧ Aside0 (Below w.heap.size w wr)) (fun v8 _ => l.length - (intOf v8).toNat)
  case atStart => exact ⟨0, rfl, Nat.zero_le _, ⟨fun j hj => absurd hj (by omega)⟩, ⟨Below.refl _ _⟩⟩
  case round =>
    obtain ⟨i, rfl, hi, HN, HB⟩ := hrel
    by_cases hlt : i < l.length
    · obtain ⟨ad, A2, c2, rfl, hx0, hx1, hx2, hx3, hl2, hC2⟩ := at_T52 HR.out (i : Int) (by omega) (by omega)
      simp only [Int.toNat_natCast] at hx0 hx1 hx2 hx3
      replace hx0 := (HB.out.cell (World.block_lt_of_cell? w _ hx0)).trans hx0
      replace hx1 := (HB.out.cell (World.block_lt_of_cell? w _ hx1)).trans hx1
      replace hx2 := (HB.out.cell (World.block_lt_of_cell? w _ hx2)).trans hx2
      replace hx3 := (HB.out.cell (World.block_lt_of_cell? w _ hx3)).trans hx3
      have ez : rd_T52 l (i : Int) = l.getD i z52 := rfl
      have hK := Aside0.mk (k52_mk wr (rd_T52 l (i : Int)) hl2 (Kd.C_below hC2 HB.out))
      clear hl2 hC2
      rw [ez] at hx0 hx1 hx2 hx3 hK
      clear ez
      obtain ⟨z, hz⟩ : ∃ z, z = l.getD i z52 := ⟨_, rfl⟩
      rw [← hz] at hx0 hx1 hx2 hx3 hK
      have HZ := Aside0.mk hz
      clear hz
      cases hpz : p z with
      | true =>
        have HPZ := Aside0.mk hpz
        clear hpz
        go_wp2_with fail
        refine (HP.out wr z _ HB.out hK.out).mono ?_
        rw [HPZ.out]
        rintro e w' ⟨rfl, hb⟩
        go_wp2
        go_ret
        refine ⟨?_, HB.out.trans (hb.mono HB.out.size)⟩
        rw [fidx_hit p l i hlt HN.out (by rw [← HZ.out]; exact HPZ.out)]; rfl
      | false =>
        have HPZ := Aside0.mk hpz
        clear hpz
        go_wp2_with fail
        refine (HP.out wr z _ HB.out hK.out).mono ?_
        rw [HPZ.out]
        rintro e w' ⟨rfl, hb⟩
        go_wp2
        go_roundw
        case rel =>
          refine ⟨i + 1, by go_num, by omega, ⟨fun j hj => ?_⟩, ⟨HB.out.trans (hb.mono HB.out.size)⟩⟩
          rcases Nat.lt_or_eq_of_le (Nat.le_of_lt_succ hj) with h | h
          · exact HN.out j h
          · rw [h, ← HZ.out]; exact HPZ.out
        case measure => simp [intOf]; omega
    · obtain rfl : i = l.length := by omega
      go_wp2
      go_ret
      exact ⟨by rw [fidx_miss p l HN.out]; rfl, HB.out⟩
end Go.Proofs.Ytdgefplbfffenaa.X
namespace Go.Proofs.Ytdgefplbfffenaa.X
open Go.RowKit Go.Proofs.YtdgefplbfffenaaW.PrintWords Go.Proofs.YtdgefplbfffenaaW.PrintLast Go.Proofs.YtdgefplbfffenaaW.PrintMore
/-- A zone that may be appended in; one that may be; how many bytes it takes. -/
def ztakes (z : S52) : Bool := z.f0 == 0 || z.f0 == 1 || z.f0 == 2
def zok (z : S52) (size : Int) : Bool :=
  !(decide (size < 1) || decide (size > 1048576) || decide ((z.f2.length : Int) > size) || decide (z.f3 < 0) || decide (z.f3 > (z.f2.length : Int)) || decide (z.f1 < 0) || decide (z.f1 > 1073741824)) &&
  (if z.f0 = 0 then z.f2.length == 0 else if z.f0 = 1 ∨ z.f0 = 2 then decide (0 < z.f2.length) && decide ((z.f2.length : Int) < size) else z.f0 == 3)
def zroom (z : S52) (size : Int) : Int := if zok z size && ztakes z then size - z.f2.length else 0
theorem takes_eq (z : S52) : zone_takes.f z.f0 z.f1 z.f2 z.f3 = some (ztakes z) := by
  unfold zone_takes.f ztakes
  by_cases h0 : z.f0 = 0 <;> by_cases h1 : z.f0 = 1 <;> by_cases h2 : z.f0 = 2 <;> simp [h0, h1, h2]
theorem check_eq (k : Nat) (z : S52) (size : Int) : zone_Check.f (k + 1) z.f0 z.f1 z.f2 z.f3 size = some (zok z size) := by
  unfold zone_Check.f zok
  simp only [zone_Check.j0, takes_eq, if_true, Option.bind_some]
  by_cases c1 : size < 1
  · simp [c1]
  · by_cases c2 : size > 1048576
    · simp [c1, c2]
    · by_cases c3 : (z.f2.length : Int) > size
      · simp [c1, c2, c3]
      · by_cases c4 : z.f3 < 0
        · simp [c1, c2, c3, c4]
        · by_cases c5 : z.f3 > (z.f2.length : Int)
          · simp [c1, c2, c3, c4, c5]
          · by_cases c6 : z.f1 < 0
            · simp [c1, c2, c3, c4, c5, c6]
            · by_cases c7 : z.f1 > 1073741824
              · simp [c1, c2, c3, c4, c5, c6, c7]
              · rw [if_neg c1, if_neg c2, if_neg c3, if_neg c4, if_neg c5, if_neg c6]
                simp only [c1, c2, c3, c4, c5, c6, c7, decide_false, Bool.false_eq_true, if_false, Bool.or_false, Bool.not_false, Bool.true_and]
                unfold ztakes
                by_cases h0 : z.f0 = 0
                · simp only [h0, if_true]; congr 1; rw [Bool.eq_iff_iff]; simp
                · by_cases h1 : z.f0 = 1
                  · simp [h1]; split <;> rename_i h <;> simp_all
                  · by_cases h2 : z.f0 = 2
                    · simp [h2]; split <;> rename_i h <;> simp_all
                    · simp [h0, h1, h2]
theorem room_eq (k : Nat) (z : S52) (size : Int) : zone_Room.f (k + 1) z.f0 z.f1 z.f2 z.f3 size = some (zroom z size) := by
  unfold zone_Room.f zroom
  rw [check_eq]; simp only [Option.bind_some, takes_eq]
  cases hz : zok z size with
  | false => simp
  | true =>
    cases ht : ztakes z with
    | false => simp
    | true =>
      simp only [if_true, Bool.and_true, Option.some.injEq]
      have : 1 ≤ size ∧ size ≤ 1048576 ∧ (z.f2.length : Int) ≤ size := by
        unfold zok at hz
        simp only [Bool.and_eq_true, Bool.not_eq_true', Bool.or_eq_false_iff, decide_eq_false_iff_not] at hz
        omega
      unfold wrap64; omega
theorem zcheck_calls (z : S52) (cs : List Value) (size : Int) (w : World) (hK : k52.K w z cs) : Calls Try.prog 45 #[.agg cs.toArray, .int .i64 size] w fun e w' => e = .returned (.bool (zok z size)) ∧ Below w.heap.size w w' := by
  obtain ⟨A2, c2, rfl, hl, hC⟩ := k52_open hK
  exact zone_Check.calls 1 z.f0 z.f1 A2 c2 z.f2 z.f3 size _ w hC hl (check_eq 0 z size)
theorem zroom_calls (z : S52) (cs : List Value) (size : Int) (w : World) (hK : k52.K w z cs) : Calls Try.prog 84 #[.agg cs.toArray, .int .i64 size] w fun e w' => e = .returned (.int .i64 (zroom z size)) ∧ Below w.heap.size w w' := by
  obtain ⟨A2, c2, rfl, hl, hC⟩ := k52_open hK
  exact zone_Room.calls 1 z.f0 z.f1 A2 c2 z.f2 z.f3 size _ w hC hl (room_eq 0 z size)
set_option maxHeartbeats 4000000 in
set_option maxRecDepth 100000 in
/-- dev.Check's closure: a zone that may not be; the device lies in block B. -/
theorem devCheck1_calls (B : Nat) (size : Int) (w : World) (hs : w.cell? ⟨B, 0, none⟩ = some (.int .i64 size)) (hB : B < w.heap.size) (W : World) (z : S52) (cs : List Value) (hb : Below w.heap.size w W) (hK : k52.K W z cs) :
    Calls Try.prog 44 (#[.agg cs.toArray] ++ #[.pointer (some ⟨B, 0, none⟩)]) W fun e w' => e = .returned (.bool (!zok z size)) ∧ Below W.heap.size W w' := by
  obtain ⟨A2, c2, rfl, hl, hC⟩ := k52_open hK
  have hu52 := Try.underlying52
  have hc : W.cell? ⟨B, 0, none⟩ = some (.int .i64 size) := (hb.cell (p := ⟨B, 0, none⟩) hB).trans hs
  have hBW : B < W.heap.size := Nat.lt_of_lt_of_le hB hb.size
  have hne : B ≠ W.heap.size := by omega
  have hcc := zcheck_calls z _ size (W.alloc (.cells #[.int .i64 z.f0, .int .i64 z.f1, .slice A2 z.f2.length c2, .int .i64 z.f3] 52)) (k52.K_below (below_alloc (Below.refl _ _) _) hK)
  simp only [List.append_toArray, List.cons_append, List.nil_append]
  have HC := Aside0.mk hcc
  clear hcc hs hK hC hl
  go_enter Try.func44, Try.ntmps44
  go_wp2_with fail
  refine HC.out.mono ?_
  rintro e w' ⟨rfl, hb'⟩
  have hb2 := Aside0.mk ((below_alloc (Below.refl W.heap.size W) _).trans (hb'.mono (by simp)))
  clear hb' HC
  go_wp2
  go_ret
  exact ⟨rfl, hb2.out⟩
end Go.Proofs.Ytdgefplbfffenaa.X
namespace Go.Proofs.Ytdgefplbfffenaa.X
open Go.Shelf Go.RowKit Go.Proofs.YtdgefplbfffenaaW.PrintWords Go.Proofs.YtdgefplbfffenaaW.PrintLast Go.Proofs.YtdgefplbfffenaaW.PrintMore
theorem eg44 : ∀ args w, (callFunc 44 args).run Try.prog w = .ok (.enter 44 args) w := enters_of Try.func44 (by kernel_rfl) rfl
theorem eg83 : ∀ args w, (callFunc 83 args).run Try.prog w = .ok (.enter 83 args) w := enters_of Try.func83 (by kernel_rfl) rfl
theorem fidx_nonneg (p : S52 → Bool) (l : List S52) : decide (0 ≤ fidx p l) = l.any p := by
  unfold fidx
  split
  · rename_i h; rw [h]; exact decide_eq_true (by omega)
  · rename_i h; rw [Bool.eq_false_iff.mpr h]; decide
set_option maxHeartbeats 4000000 in
set_option maxRecDepth 100000 in
theorem containsFunc_zone (g : Nat) (lb : Array Value) (p : S52 → Bool) (A : Option Addr) (c : Nat) (l : List S52) (w : World)
    (eg : ∀ args w, (callFunc g args).run Try.prog w = .ok (.enter g args) w)
    (hp : ∀ (W : World) (z : S52) (cs : List Value), Below w.heap.size w W → k52.K W z cs → Calls Try.prog g (#[.agg cs.toArray] ++ lb) W fun e w' => e = .returned (.bool (p z)) ∧ Below W.heap.size W w')
    (hr : k52.C w A l.length l) :
    Calls Try.prog 43 #[.slice A l.length c, .func (.func g) #[] lb] w fun e w' => e = .returned (.bool (l.any p)) ∧ Below w.heap.size w w' := by
  have HC := Aside0.mk (indexFunc_zone g lb p A c l w eg hp hr)
  have HN := Aside0.mk (fidx_nonneg p l)
  clear hr hp
  generalize fidx p l = ix at HC HN
  generalize l.any p = b at HN
  go_enter Try.func43, Try.ntmps43
  go_wp2_with fail
  refine HC.out.mono ?_
  rintro e w' ⟨rfl, hb⟩
  go_wp2
  go_ret
  exact ⟨by show Ending.returned (.bool (decide (0 ≤ ix))) = _; rw [HN.out], hb⟩
def dok (a0 : Int) (l : List S52) : Bool := !(l.any fun z => !zok z a0) && decide (0 < (l.length : Int)) && decide ((l.length : Int) ≤ 64) && decide (0 < a0) && decide (a0 ≤ 1048576)
def dev_Check.f (a0_0 : Int) (l0_1 : List (S52)) (a0_2 : Int) (a0_3 : Bool) (a0_4 : Int) : Option (Bool) := some (dok a0_0 l0_1)
set_option maxHeartbeats 4000000 in
set_option maxRecDepth 100000 in
theorem dev_Check.calls (a0_0 : Int) (A0_1 : Option Addr) (c0_1 : Nat) (l0_1 : List (S52)) (a0_2 : Int) (a0_3 : Bool) (a0_4 : Int) (r : Bool) (w : World) (hr0_1 : Kd.C k52 w A0_1 l0_1.length l0_1) (hc0_1 : l0_1.length ≤ c0_1) (h : dev_Check.f a0_0 l0_1 a0_2 a0_3 a0_4 = some r) :
    Calls Try.prog 20 #[.agg #[.int .i64 a0_0, .slice A0_1 l0_1.length c0_1, .int .i64 a0_2, .bool a0_3, .int .i64 a0_4]] w fun e w' => e = .returned (.bool r) ∧ Below w.heap.size w w' := by
  obtain rfl := Option.some.inj h
  clear h
  have hu27 := Try.underlying27
  have hb0 := below_alloc (Below.refl w.heap.size w) (.cells #[.int .i64 a0_0, .slice A0_1 l0_1.length c0_1, .int .i64 a0_2, .bool a0_3, .int .i64 a0_4] 27)
  have HC := Aside0.mk (containsFunc_zone 44 #[.pointer (some ⟨w.heap.size, 0, none⟩)] (fun z => !zok z a0_0) A0_1 c0_1 l0_1 (w.alloc (.cells #[.int .i64 a0_0, .slice A0_1 l0_1.length c0_1, .int .i64 a0_2, .bool a0_3, .int .i64 a0_4] 27)) eg44
    (devCheck1_calls w.heap.size a0_0 _ (by simp) (by simp)) (Kd.C_below hr0_1 hb0))
  have hn : w.heap.size ≠ w.heap.size + 1 := by omega
  clear hr0_1 hc0_1 hb0
  unfold dok
  generalize (l0_1.any fun z => !zok z a0_0) = b at HC
  have fin : ∀ (x : Bool) W', (Below (w.alloc (.cells #[.int .i64 a0_0, .slice A0_1 l0_1.length c0_1, .int .i64 a0_2, .bool a0_3, .int .i64 a0_4] 27)).heap.size (w.alloc (.cells #[.int .i64 a0_0, .slice A0_1 l0_1.length c0_1, .int .i64 a0_2, .bool a0_3, .int .i64 a0_4] 27)) W') → Below w.heap.size w W' := fun _ W' hb => (below_alloc (Below.refl _ w) _).trans (hb.mono (by simp))
  have FIN := Aside0.mk fin
  clear fin
  by_cases h1 : b = true
  all_goals (first | subst h1 | (have h1 := Bool.eq_false_iff.mpr h1; subst h1))
  · go_enter Try.func20, Try.ntmps20
    go_wp2_with fail
    refine HC.out.mono ?_
    rintro e w' ⟨rfl, hb⟩
    have HB := Aside0.mk hb
    clear hb HC
    go_wp2
    go_ret
    exact ⟨rfl, FIN.out false _ HB.out⟩
  · have key : ∀ x1 x2 x3 x4 : Bool, decide (0 < (l0_1.length : Int)) = x1 → decide ((l0_1.length : Int) ≤ 64) = x2 → decide (0 < a0_0) = x3 → decide (a0_0 ≤ 1048576) = x4 →
        Calls Try.prog 20 #[.agg #[.int .i64 a0_0, .slice A0_1 l0_1.length c0_1, .int .i64 a0_2, .bool a0_3, .int .i64 a0_4]] w fun e w' => e = .returned (.bool (x1 && x2 && x3 && x4)) ∧ Below w.heap.size w w' := by
      intro x1 x2 x3 x4 h1 h2 h3 h4
      have g1 : decide (0 < l0_1.length) = x1 := by rw [← h1]; congr 1; simp
      have g2 : decide (l0_1.length ≤ 64) = x2 := by rw [← h2]; congr 1; simp; omega
      cases x1 <;> cases x2 <;> cases x3 <;> cases x4
      all_goals
        go_enter Try.func20, Try.ntmps20
        go_wp2_with fail
        refine HC.out.mono ?_
        rintro e w' ⟨rfl, hb⟩
        have HB := Aside0.mk hb
        have hs : w'.cell? ⟨w.heap.size, 0, none⟩ = some (.int .i64 a0_0) := (hb.cell (p := ⟨w.heap.size, 0, none⟩) (by simp)).trans (by simp)
        have hz : w'.cell? ⟨w.heap.size, 1, none⟩ = some (.slice A0_1 l0_1.length c0_1) := (hb.cell (p := ⟨w.heap.size, 1, none⟩) (by simp)).trans (by simp)
        clear hb HC
        go_wp2
        go_ret
        exact ⟨rfl, FIN.out false _ HB.out⟩
    simpa using key _ _ _ _ rfl rfl rfl rfl
end Go.Proofs.Ytdgefplbfffenaa.X
namespace Go.Proofs.Ytdgefplbfffenaa.X
open Go.Shelf Go.RowKit Go.Proofs.YtdgefplbfffenaaW.PrintWords Go.Proofs.YtdgefplbfffenaaW.PrintLast Go.Proofs.YtdgefplbfffenaaW.PrintMore
set_option maxHeartbeats 4000000 in
set_option maxRecDepth 100000 in
/-- log.first's closure: a zone of a state that has room; the state, the device and the number lie in three blocks. -/
theorem logFirst1_calls (Bs Bd Bn : Nat) (st size n : Int) (w : World) (hs : w.cell? ⟨Bs, 0, none⟩ = some (.int .i64 st)) (hd : w.cell? ⟨Bd, 0, none⟩ = some (.int .i64 size)) (hn : w.cell? ⟨Bn, 0, none⟩ = some (.int .i64 n)) (W : World) (z : S52) (cs : List Value) (hb : Below w.heap.size w W) (hK : k52.K W z cs) :
    Calls Try.prog 83 (#[.agg cs.toArray] ++ #[.pointer (some ⟨Bs, 0, none⟩), .pointer (some ⟨Bd, 0, none⟩), .pointer (some ⟨Bn, 0, none⟩)]) W fun e w' => e = .returned (.bool (z.f0 == st && decide (n ≤ zroom z size))) ∧ Below W.heap.size W w' := by
  obtain ⟨A2, c2, rfl, hl, hC⟩ := k52_open hK
  have hu52 := Try.underlying52
  have hs' : W.cell? ⟨Bs, 0, none⟩ = some (.int .i64 st) := (hb.cell (World.block_lt_of_cell? w _ hs)).trans hs
  have hd' : W.cell? ⟨Bd, 0, none⟩ = some (.int .i64 size) := (hb.cell (World.block_lt_of_cell? w _ hd)).trans hd
  have hn' : W.cell? ⟨Bn, 0, none⟩ = some (.int .i64 n) := (hb.cell (World.block_lt_of_cell? w _ hn)).trans hn
  have hrm := fun X (h : k52.K X z _) => zroom_calls z [.int .i64 z.f0, .int .i64 z.f1, .slice A2 z.f2.length c2, .int .i64 z.f3] size X h
  generalize zroom z size = rm at hrm ⊢
  simp only [List.append_toArray, List.cons_append, List.nil_append]
  have HK := Aside0.mk hK
  have HRM := Aside0.mk hrm
  have ls := World.block_lt_of_cell? W _ hs'
  have ld := World.block_lt_of_cell? W _ hd'
  have ln := World.block_lt_of_cell? W _ hn'
  simp only at ls ld ln
  have hb1 := Aside0.mk (below_alloc (Below.refl W.heap.size W) (.cells #[.int .i64 z.f0, .int .i64 z.f1, .slice A2 z.f2.length c2, .int .i64 z.f3] 52))
  have es := hb1.out.cell (p := ⟨Bs, 0, none⟩) ls
  have ed := hb1.out.cell (p := ⟨Bd, 0, none⟩) ld
  have en := hb1.out.cell (p := ⟨Bn, 0, none⟩) ln
  rw [hs'] at es
  rw [hd'] at ed
  rw [hn'] at en
  have c0 : (W.alloc (.cells #[.int .i64 z.f0, .int .i64 z.f1, .slice A2 z.f2.length c2, .int .i64 z.f3] 52)).cell? ⟨W.heap.size, 0, none⟩ = some (.int .i64 z.f0) := by simp
  have c1 : (W.alloc (.cells #[.int .i64 z.f0, .int .i64 z.f1, .slice A2 z.f2.length c2, .int .i64 z.f3] 52)).cell? ⟨W.heap.size, 1, none⟩ = some (.int .i64 z.f1) := by simp
  have cc2 : (W.alloc (.cells #[.int .i64 z.f0, .int .i64 z.f1, .slice A2 z.f2.length c2, .int .i64 z.f3] 52)).cell? ⟨W.heap.size, 2, none⟩ = some (.slice A2 z.f2.length c2) := by simp
  have c3 : (W.alloc (.cells #[.int .i64 z.f0, .int .i64 z.f1, .slice A2 z.f2.length c2, .int .i64 z.f3] 52)).cell? ⟨W.heap.size, 3, none⟩ = some (.int .i64 z.f3) := by simp
  have hK1 := Aside0.mk (k52.K_below hb1.out hK)
  have hz1 : W.heap.size < (W.alloc (.cells #[.int .i64 z.f0, .int .i64 z.f1, .slice A2 z.f2.length c2, .int .i64 z.f3] 52)).heap.size := by simp
  clear hb hK hl hC hs' hd' hn' hs hd hn hrm
  go_enter Try.func83, Try.ntmps83
  go_wp2
  generalize W.alloc (.cells #[.int .i64 z.f0, .int .i64 z.f1, .slice A2 z.f2.length c2, .int .i64 z.f3] 52) = W1 at *
  cases h1 : (z.f0 == st) with
  | false =>
    go_quiet (fail)
    go_wp2
    go_ret
    exact ⟨by rw [h1]; rfl, pw_below_drewN hb1.out _⟩
  | true =>
    go_region_held3 (fun w' => w'.cell? ⟨Bs, 0, none⟩ = some (.int .i64 st) ∧ w'.cell? ⟨Bd, 0, none⟩ = some (.int .i64 size) ∧ w'.cell? ⟨Bn, 0, none⟩ = some (.int .i64 n) ∧ w'.cell? ⟨W.heap.size, 0, none⟩ = some (.int .i64 z.f0) ∧ w'.cell? ⟨W.heap.size, 1, none⟩ = some (.int .i64 z.f1) ∧ w'.cell? ⟨W.heap.size, 2, none⟩ = some (.slice A2 z.f2.length c2) ∧ w'.cell? ⟨W.heap.size, 3, none⟩ = some (.int .i64 z.f3))
      (first
        | exact ⟨es, ed, en, c0, c1, cc2, c3⟩
        | exact ⟨pw_cell_below hb2 es, pw_cell_below hb2 ed, pw_cell_below hb2 en, pw_cell_below hb2 c0, pw_cell_below hb2 c1, pw_cell_below hb2 cc2, pw_cell_below hb2 c3⟩)
      (first | (go_at_call 84; refine (HRM.out _ (k52.K_below (below_drew (Below.refl _ _)) hK1.out)).mono ?_; rintro e w' ⟨rfl, hb2⟩))
    go_wp2
    go_ret
    exact ⟨by rw [h1]; rfl, hb1.out.trans ((below_drew (Below.refl _ _)).trans (hb2.mono (by have := hz1; show _ ≤ W1.heap.size; omega)))⟩
def log_first.f (a0_0 : Int) (l0_1 : List (S52)) (_a0_2 : Int) (_a0_3 : Bool) (_a0_4 : Int) (a1 : Int) (a2 : Int) : Option (Int) := some (fidx (fun z => z.f0 == a1 && decide (a2 ≤ zroom z a0_0)) l0_1)
set_option maxHeartbeats 4000000 in
set_option maxRecDepth 100000 in
theorem log_first.calls (a0_0 : Int) (A0_1 : Option Addr) (c0_1 : Nat) (l0_1 : List (S52)) (a0_2 : Int) (a0_3 : Bool) (a0_4 : Int) (a1 : Int) (a2 : Int) (r : Int) (w : World) (hr0_1 : Kd.C k52 w A0_1 l0_1.length l0_1) (_hc0_1 : l0_1.length ≤ c0_1) (h : log_first.f a0_0 l0_1 a0_2 a0_3 a0_4 a1 a2 = some r) :
    Calls Try.prog 64 #[.agg #[.int .i64 a0_0, .slice A0_1 l0_1.length c0_1, .int .i64 a0_2, .bool a0_3, .int .i64 a0_4], .int .i64 a1, .int .i64 a2] w fun e w' => e = .returned (.int .i64 r) ∧ Below w.heap.size w w' := by
  obtain rfl := Option.some.inj h
  clear h
  have hu27 := Try.underlying27
  have hb0 := ((below_alloc (Below.refl w.heap.size w) (.cells #[.int .i64 a0_0, .slice A0_1 l0_1.length c0_1, .int .i64 a0_2, .bool a0_3, .int .i64 a0_4] 27)).alloc (by simp) (.cells #[.int .i64 a1] 3)).alloc (by simp; omega) (.cells #[.int .i64 a2] 3)
  have k1 : (((w.alloc (.cells #[.int .i64 a0_0, .slice A0_1 l0_1.length c0_1, .int .i64 a0_2, .bool a0_3, .int .i64 a0_4] 27)).alloc (.cells #[.int .i64 a1] 3)).alloc (.cells #[.int .i64 a2] 3)).cell? ⟨w.heap.size + 1, 0, none⟩ = some (.int .i64 a1) := by go_simp
  have k2 : (((w.alloc (.cells #[.int .i64 a0_0, .slice A0_1 l0_1.length c0_1, .int .i64 a0_2, .bool a0_3, .int .i64 a0_4] 27)).alloc (.cells #[.int .i64 a1] 3)).alloc (.cells #[.int .i64 a2] 3)).cell? ⟨w.heap.size, 0, none⟩ = some (.int .i64 a0_0) := by go_simp
  have k3 : (((w.alloc (.cells #[.int .i64 a0_0, .slice A0_1 l0_1.length c0_1, .int .i64 a0_2, .bool a0_3, .int .i64 a0_4] 27)).alloc (.cells #[.int .i64 a1] 3)).alloc (.cells #[.int .i64 a2] 3)).cell? ⟨w.heap.size + 2, 0, none⟩ = some (.int .i64 a2) := by go_simp
  have HC := Aside0.mk (indexFunc_zone 83 #[.pointer (some ⟨w.heap.size + 1, 0, none⟩), .pointer (some ⟨w.heap.size, 0, none⟩), .pointer (some ⟨w.heap.size + 2, 0, none⟩)] (fun z => z.f0 == a1 && decide (a2 ≤ zroom z a0_0)) A0_1 c0_1 l0_1 (((w.alloc (.cells #[.int .i64 a0_0, .slice A0_1 l0_1.length c0_1, .int .i64 a0_2, .bool a0_3, .int .i64 a0_4] 27)).alloc (.cells #[.int .i64 a1] 3)).alloc (.cells #[.int .i64 a2] 3)) eg83
    (logFirst1_calls (w.heap.size + 1) w.heap.size (w.heap.size + 2) a1 a0_0 a2 _ k1 k2 k3) (Kd.C_below hr0_1 hb0))
  have HB := Aside0.mk hb0
  clear hr0_1 hb0 k1 k2 k3
  generalize (fidx (fun z => z.f0 == a1 && decide (a2 ≤ zroom z a0_0)) l0_1) = ix at HC ⊢
  go_enter Try.func64, Try.ntmps64
  go_wp2_with fail
  refine HC.out.mono ?_
  rintro e w' ⟨rfl, hb⟩
  have HB2 := Aside0.mk (HB.out.trans (hb.mono (by simp; omega)))
  clear hb HC
  go_wp2
  go_ret
  exact ⟨rfl, HB2.out⟩
end Go.Proofs.Ytdgefplbfffenaa.X
