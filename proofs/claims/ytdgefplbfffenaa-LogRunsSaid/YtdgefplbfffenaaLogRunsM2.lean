/- The records that follow one another, out of any list of what was found and from any number on, are what the document says; for every input. (This text: part 2 of 5.) -/
import Derived.Test.YtdgefplbfffenaaProg
import Derived.Below
import Derived.Deep.Draws
import Derived.Deep.AppendLies
import Derived.Maps.AppendAt
import Derived.OwnWalk
import Derived.Laws.BytesArg
import Derived.Laws.MakeOwn
import Derived.Laws.OwnMore
import Derived.Deep.OwnRows
import Derived.Tactics
import Derived.Lib.ConvBytes
import Derived.Laws.Slices
import Derived.WalkKit
import Derived.KernelRfl
import Derived.RowKit3
import Derived.Deep.LoopGhost
import Derived.Deep.QuietTactic
import Derived.BigQuiet
import Derived.WideLaws
import Derived.Deep.DeepCutAuto
import Derived.Deep.CutBlock
import Derived.Deep.RegionHeld3
import Derived.Laws.Rows
import Derived.Lib.AppendStr
import Derived.ArgAppend
import Derived.Laws.IdiomCopy
import Derived.OrdersHeld
import Derived.Laws.BitsLemmas
import Derived.RowKit
import Derived.Laws.Cover2
import Derived.Laws.Cover3
import Derived.Test.YtdgefplbfffenaaLogRunsM1
import Derived.RangeFuncNested
import Derived.RangeFuncBound
import Derived.RangeFuncCalls
import Derived.RangeFuncLeaves
import Derived.Shelf.Abstract
import Derived.Shelf.RegionOpen
import Derived.OwnWalkIn
import Derived.TacticsInMore
import Derived.LoopNIn
import Derived.LoopIn
import Derived.Maps.OwnIn
import Derived.Maps.Views
import Derived.WalkLawsBesides
import Derived.WalkSpells
set_option linter.unusedVariables false
set_option linter.unusedSimpArgs false
namespace Go.Proofs.Ytdgefplbfffenaa.X
open Go.RowKit Go.Proofs.YtdgefplbfffenaaW.PrintWords Go.Proofs.YtdgefplbfffenaaW.PrintLast Go.Proofs.YtdgefplbfffenaaW.PrintMore
attribute [local go_sem] max2_int min2_int max_two min_two max_three min_three max_four min_four   -- for this text's walks alone
set_option linter.unusedVariables false
set_option linter.unusedSimpArgs false
abbrev Cx := Nat × Nat
abbrev encCx (c : Cx) : Value := .complex .f64 c.1 c.2
def kCx : Kd Cx := Kd.scalar encCx (fun _ => rfl)
theorem info5 : (Try.prog.info? 5).map (fun i => (i.zero, i.size, i.bytes)) = some (some (.int .u8 0), 1, 1) := by kernel_rfl
theorem info36 : (Try.prog.info? 36).map (fun i => (i.zero, i.size, i.bytes)) = some (some (.agg #[(.int .i64 0), (.int .i64 0), (.slice none 0 0)]), 3, 40) := by kernel_rfl
theorem info42 : (Try.prog.info? 42).map (fun i => (i.zero, i.size, i.bytes)) = some (some (.agg #[(.int .i64 0), (.int .i64 0), (.slice none 0 0), (.int .i64 0), (.int .i64 0)]), 5, 56) := by kernel_rfl
theorem info52 : (Try.prog.info? 52).map (fun i => (i.zero, i.size, i.bytes)) = some (some (.agg #[(.int .i64 0), (.int .i64 0), (.slice none 0 0), (.int .i64 0)]), 4, 48) := by kernel_rfl
theorem info56 : (Try.prog.info? 56).map (fun i => (i.zero, i.size, i.bytes)) = some (some (.agg #[(.int .i64 0), (.int .i64 0), (.slice none 0 0)]), 3, 40) := by kernel_rfl
theorem info58 : (Try.prog.info? 58).map (fun i => (i.zero, i.size, i.bytes)) = some (some (.complex .f64 0 0), 1, 16) := by kernel_rfl
theorem info101 : (Try.prog.info? 101).map (fun i => (i.zero, i.size, i.bytes)) = some (some (.int .u64 0), 1, 8) := by kernel_rfl
-- the values' own types
structure S52 where
 f0 : Int
 f1 : Int
 f2 : (List Int)
 f3 : Int
def z52 : S52 := ⟨(0 : Int), (0 : Int), ([] : List Int), (0 : Int)⟩
def k52 : Kd S52 := Kd.iso (Kd.pair (Kd.int .i64) (Kd.pair (Kd.int .i64) (Kd.pair (Kd.slice 5 (Kd.int .u8)) (Kd.int .i64)))) (fun x : S52 => (x.f0, x.f1, x.f2, x.f3))
theorem k52_open {w : World} {x : S52} {cs : List Value} (h : k52.K w x cs) : ∃ A2 c2, cs = [.int .i64 x.f0, .int .i64 x.f1, .slice A2 x.f2.length c2, .int .i64 x.f3] ∧ x.f2.length ≤ c2 ∧ (Kd.int .u8).C w A2 x.f2.length x.f2 := by
 obtain ⟨_, _, rfl, rfl, ⟨_, _, rfl, rfl, ⟨_, _, rfl, ⟨A2, c2, rfl, l2, g2⟩, rfl⟩⟩⟩ := h
 exact ⟨A2, c2, rfl, l2, g2⟩
theorem k52_mk (w : World) (x : S52) {A2 : Option Addr} {c2 : Nat} (l2 : x.f2.length ≤ c2) (g2 : (Kd.int .u8).C w A2 x.f2.length x.f2) : k52.K w x [.int .i64 x.f0, .int .i64 x.f1, .slice A2 x.f2.length c2, .int .i64 x.f3] := ⟨[.int .i64 x.f0], [.int .i64 x.f1, .slice A2 x.f2.length c2, .int .i64 x.f3], rfl, rfl, ⟨[.int .i64 x.f1], [.slice A2 x.f2.length c2, .int .i64 x.f3], rfl, rfl, ⟨[.slice A2 x.f2.length c2], [.int .i64 x.f3], rfl, ⟨A2, c2, rfl, l2, g2⟩, rfl⟩⟩⟩
theorem k52_mkM (w : World) (base : Nat) (ok : Nat → Prop) (x : S52) {v2 : Value} (g2 : (Kd.int .u8).R 5 w base ok v2 x.f2) : k52.M w base ok x [.int .i64 x.f0, .int .i64 x.f1, v2, .int .i64 x.f3] := ⟨[.int .i64 x.f0], [.int .i64 x.f1, v2, .int .i64 x.f3], rfl, rfl, ⟨[.int .i64 x.f1], [v2, .int .i64 x.f3], rfl, rfl, ⟨[v2], [.int .i64 x.f3], rfl, ⟨v2, rfl, g2⟩, rfl⟩⟩⟩
theorem k52_openF {W : World} {ok : Nat → Prop} {x : S52} {cs : List Value} (h : Kd.FK k52 W ok x cs) : ∃ A2 c2, cs = [.int .i64 x.f0, .int .i64 x.f1, .slice A2 x.f2.length c2, .int .i64 x.f3] ∧ x.f2.length ≤ c2 ∧ Kd.F (Kd.int .u8) W ok A2 x.f2.length x.f2 := by
 obtain ⟨A2, c2, rfl, l2, _⟩ := k52_open (Kd.FK_now h)
 exact ⟨A2, c2, rfl, l2, (fun W' hW => by obtain ⟨A2_, c2_, he, l2_, g2_⟩ := k52_open (h W' hW); injection (Option.some.inj (show some (Value.slice A2 x.f2.length c2) = some (Value.slice A2_ x.f2.length c2_) from congrArg (fun l => l[2]?) he)) with ha_ _ _; rw [ha_]; exact g2_)⟩
def rd_T52 (xs : List S52) (i : Int) : S52 := xs.getD i.toNat z52
theorem at_T52 {w : World} {A : Option Addr} {n : Nat} {xs : List S52} (h : Kd.C k52 w A n xs) (i : Int) (h0 : 0 ≤ i) (h1 : i < n) : ∃ ad A2 c2, A = some ad ∧ w.cell? (ad.add (i.toNat * 4)) = some (.int .i64 (rd_T52 xs i).f0) ∧ w.cell? ⟨(ad.add (i.toNat * 4)).block, (ad.add (i.toNat * 4)).off + 1, none⟩ = some (.int .i64 (rd_T52 xs i).f1) ∧ w.cell? ⟨(ad.add (i.toNat * 4)).block, (ad.add (i.toNat * 4)).off + 2, none⟩ = some (.slice A2 (rd_T52 xs i).f2.length c2) ∧ w.cell? ⟨(ad.add (i.toNat * 4)).block, (ad.add (i.toNat * 4)).off + 3, none⟩ = some (.int .i64 (rd_T52 xs i).f3) ∧ (rd_T52 xs i).f2.length ≤ c2 ∧ (Kd.int .u8).C w A2 (rd_T52 xs i).f2.length (rd_T52 xs i).f2 := by
 obtain ⟨ad, c, e, _, hK, hc0⟩ := Kd.C_get h z52 i h0 h1
 have hc : ∀ j u, c[j]? = some u → w.cell? (ad.add (i.toNat * 4 + j)) = some u := hc0
 obtain ⟨A2, c2, rfl, l2, g2⟩ := k52_open hK
 exact ⟨ad, A2, c2, e, hc 0 _ rfl, by rw [← add_field _ _ 1 (by omega)]; exact hc 1 _ rfl, by rw [← add_field _ _ 2 (by omega)]; exact hc 2 _ rfl, by rw [← add_field _ _ 3 (by omega)]; exact hc 3 _ rfl, l2, g2⟩
structure S56 where
 f0 : Int
 f1 : Int
 f2 : (List Int)
def z56 : S56 := ⟨(0 : Int), (0 : Int), ([] : List Int)⟩
def k56 : Kd S56 := Kd.iso (Kd.pair (Kd.int .i64) (Kd.pair (Kd.int .i64) (Kd.slice 5 (Kd.int .u8)))) (fun x : S56 => (x.f0, x.f1, x.f2))
theorem k56_open {w : World} {x : S56} {cs : List Value} (h : k56.K w x cs) : ∃ A2 c2, cs = [.int .i64 x.f0, .int .i64 x.f1, .slice A2 x.f2.length c2] ∧ x.f2.length ≤ c2 ∧ (Kd.int .u8).C w A2 x.f2.length x.f2 := by
 obtain ⟨_, _, rfl, rfl, ⟨_, _, rfl, rfl, ⟨A2, c2, rfl, l2, g2⟩⟩⟩ := h
 exact ⟨A2, c2, rfl, l2, g2⟩
theorem k56_openM {w : World} {base : Nat} {ok : Nat → Prop} {x : S56} {cs : List Value} (h : k56.M w base ok x cs) : ∃ v2, cs = [.int .i64 x.f0, .int .i64 x.f1, v2] ∧ (Kd.int .u8).R 5 w base ok v2 x.f2 := by
 obtain ⟨_, _, rfl, rfl, ⟨_, _, rfl, rfl, ⟨v2, rfl, g2⟩⟩⟩ := h
 exact ⟨v2, rfl, g2⟩
theorem k56_mkM (w : World) (base : Nat) (ok : Nat → Prop) (x : S56) {v2 : Value} (g2 : (Kd.int .u8).R 5 w base ok v2 x.f2) : k56.M w base ok x [.int .i64 x.f0, .int .i64 x.f1, v2] := ⟨[.int .i64 x.f0], [.int .i64 x.f1, v2], rfl, rfl, ⟨[.int .i64 x.f1], [v2], rfl, rfl, ⟨v2, rfl, g2⟩⟩⟩
def rd_T56 (xs : List S56) (i : Int) : S56 := xs.getD i.toNat z56
theorem at_T56 {w : World} {A : Option Addr} {n : Nat} {xs : List S56} (h : Kd.C k56 w A n xs) (i : Int) (h0 : 0 ≤ i) (h1 : i < n) : ∃ ad A2 c2, A = some ad ∧ w.cell? (ad.add (i.toNat * 3)) = some (.int .i64 (rd_T56 xs i).f0) ∧ w.cell? ⟨(ad.add (i.toNat * 3)).block, (ad.add (i.toNat * 3)).off + 1, none⟩ = some (.int .i64 (rd_T56 xs i).f1) ∧ w.cell? ⟨(ad.add (i.toNat * 3)).block, (ad.add (i.toNat * 3)).off + 2, none⟩ = some (.slice A2 (rd_T56 xs i).f2.length c2) ∧ (rd_T56 xs i).f2.length ≤ c2 ∧ (Kd.int .u8).C w A2 (rd_T56 xs i).f2.length (rd_T56 xs i).f2 := by
 obtain ⟨ad, c, e, _, hK, hc0⟩ := Kd.C_get h z56 i h0 h1
 have hc : ∀ j u, c[j]? = some u → w.cell? (ad.add (i.toNat * 3 + j)) = some u := hc0
 obtain ⟨A2, c2, rfl, l2, g2⟩ := k56_open hK
 exact ⟨ad, A2, c2, e, hc 0 _ rfl, by rw [← add_field _ _ 1 (by omega)]; exact hc 1 _ rfl, by rw [← add_field _ _ 2 (by omega)]; exact hc 2 _ rfl, l2, g2⟩
structure S36 where
 f0 : Int
 f1 : Int
 f2 : (List Int)
def z36 : S36 := ⟨(0 : Int), (0 : Int), ([] : List Int)⟩
def k36 : Kd S36 := Kd.iso (Kd.pair (Kd.int .i64) (Kd.pair (Kd.int .i64) (Kd.slice 5 (Kd.int .u8)))) (fun x : S36 => (x.f0, x.f1, x.f2))
theorem k36_heap : Kd.Heap k36 := Kd.heap_iso _ (Kd.heap_pair (Kd.heap_int .i64) (Kd.heap_pair (Kd.heap_int .i64) (Kd.heap_slice 5 (Kd.heap_int .u8))))
theorem k36_open {w : World} {x : S36} {cs : List Value} (h : k36.K w x cs) : ∃ A2 c2, cs = [.int .i64 x.f0, .int .i64 x.f1, .slice A2 x.f2.length c2] ∧ x.f2.length ≤ c2 ∧ (Kd.int .u8).C w A2 x.f2.length x.f2 := by
 obtain ⟨_, _, rfl, rfl, ⟨_, _, rfl, rfl, ⟨A2, c2, rfl, l2, g2⟩⟩⟩ := h
 exact ⟨A2, c2, rfl, l2, g2⟩
theorem k36_openM {w : World} {base : Nat} {ok : Nat → Prop} {x : S36} {cs : List Value} (h : k36.M w base ok x cs) : ∃ v2, cs = [.int .i64 x.f0, .int .i64 x.f1, v2] ∧ (Kd.int .u8).R 5 w base ok v2 x.f2 := by
 obtain ⟨_, _, rfl, rfl, ⟨_, _, rfl, rfl, ⟨v2, rfl, g2⟩⟩⟩ := h
 exact ⟨v2, rfl, g2⟩
theorem k36_mk (w : World) (x : S36) {A2 : Option Addr} {c2 : Nat} (l2 : x.f2.length ≤ c2) (g2 : (Kd.int .u8).C w A2 x.f2.length x.f2) : k36.K w x [.int .i64 x.f0, .int .i64 x.f1, .slice A2 x.f2.length c2] := ⟨[.int .i64 x.f0], [.int .i64 x.f1, .slice A2 x.f2.length c2], rfl, rfl, ⟨[.int .i64 x.f1], [.slice A2 x.f2.length c2], rfl, rfl, ⟨A2, c2, rfl, l2, g2⟩⟩⟩
theorem k36_mkM (w : World) (base : Nat) (ok : Nat → Prop) (x : S36) {v2 : Value} (g2 : (Kd.int .u8).R 5 w base ok v2 x.f2) : k36.M w base ok x [.int .i64 x.f0, .int .i64 x.f1, v2] := ⟨[.int .i64 x.f0], [.int .i64 x.f1, v2], rfl, rfl, ⟨[.int .i64 x.f1], [v2], rfl, rfl, ⟨v2, rfl, g2⟩⟩⟩
theorem k36_mkF (W : World) (ok : Nat → Prop) (x : S36) {A2 : Option Addr} {c2 : Nat} (l2 : x.f2.length ≤ c2) (g2 : Kd.F (Kd.int .u8) W ok A2 x.f2.length x.f2) : Kd.FK k36 W ok x [.int .i64 x.f0, .int .i64 x.f1, .slice A2 x.f2.length c2] := fun W2 hW => k36_mk W2 x l2 (g2 W2 hW)
def rd_T36 (xs : List S36) (i : Int) : S36 := xs.getD i.toNat z36
theorem at_T36 {w : World} {A : Option Addr} {n : Nat} {xs : List S36} (h : Kd.C k36 w A n xs) (i : Int) (h0 : 0 ≤ i) (h1 : i < n) : ∃ ad A2 c2, A = some ad ∧ w.cell? (ad.add (i.toNat * 3)) = some (.int .i64 (rd_T36 xs i).f0) ∧ w.cell? ⟨(ad.add (i.toNat * 3)).block, (ad.add (i.toNat * 3)).off + 1, none⟩ = some (.int .i64 (rd_T36 xs i).f1) ∧ w.cell? ⟨(ad.add (i.toNat * 3)).block, (ad.add (i.toNat * 3)).off + 2, none⟩ = some (.slice A2 (rd_T36 xs i).f2.length c2) ∧ (rd_T36 xs i).f2.length ≤ c2 ∧ (Kd.int .u8).C w A2 (rd_T36 xs i).f2.length (rd_T36 xs i).f2 := by
 obtain ⟨ad, c, e, _, hK, hc0⟩ := Kd.C_get h z36 i h0 h1
 have hc : ∀ j u, c[j]? = some u → w.cell? (ad.add (i.toNat * 3 + j)) = some u := hc0
 obtain ⟨A2, c2, rfl, l2, g2⟩ := k36_open hK
 exact ⟨ad, A2, c2, e, hc 0 _ rfl, by rw [← add_field _ _ 1 (by omega)]; exact hc 1 _ rfl, by rw [← add_field _ _ 2 (by omega)]; exact hc 2 _ rfl, l2, g2⟩
structure S42 where
 f0 : S36
 f1 : Int
 f2 : Int
def z42 : S42 := ⟨z36, (0 : Int), (0 : Int)⟩
def k42 : Kd S42 := Kd.iso (Kd.pair k36 (Kd.pair (Kd.int .i64) (Kd.int .i64))) (fun x : S42 => (x.f0, x.f1, x.f2))
theorem k42_heap : Kd.Heap k42 := Kd.heap_iso _ (Kd.heap_pair k36_heap (Kd.heap_pair (Kd.heap_int .i64) (Kd.heap_int .i64)))
theorem k42_open {w : World} {x : S42} {cs : List Value} (h : k42.K w x cs) : ∃ A2 c2, cs = [.int .i64 x.f0.f0, .int .i64 x.f0.f1, .slice A2 x.f0.f2.length c2, .int .i64 x.f1, .int .i64 x.f2] ∧ x.f0.f2.length ≤ c2 ∧ (Kd.int .u8).C w A2 x.f0.f2.length x.f0.f2 := by
 obtain ⟨_, _, rfl, s0, ⟨_, _, rfl, rfl, rfl⟩⟩ := h
 obtain ⟨A2, c2, rfl, l2, g2⟩ := k36_open s0
 exact ⟨A2, c2, rfl, l2, g2⟩
theorem k42_openM {w : World} {base : Nat} {ok : Nat → Prop} {x : S42} {cs : List Value} (h : k42.M w base ok x cs) : ∃ v2, cs = [.int .i64 x.f0.f0, .int .i64 x.f0.f1, v2, .int .i64 x.f1, .int .i64 x.f2] ∧ (Kd.int .u8).R 5 w base ok v2 x.f0.f2 := by
 obtain ⟨_, _, rfl, s0, ⟨_, _, rfl, rfl, rfl⟩⟩ := h
 obtain ⟨v2, rfl, g2⟩ := k36_openM s0
 exact ⟨v2, rfl, g2⟩
theorem k42_mk (w : World) (x : S42) {A2 : Option Addr} {c2 : Nat} (l2 : x.f0.f2.length ≤ c2) (g2 : (Kd.int .u8).C w A2 x.f0.f2.length x.f0.f2) : k42.K w x [.int .i64 x.f0.f0, .int .i64 x.f0.f1, .slice A2 x.f0.f2.length c2, .int .i64 x.f1, .int .i64 x.f2] := ⟨[.int .i64 x.f0.f0, .int .i64 x.f0.f1, .slice A2 x.f0.f2.length c2], [.int .i64 x.f1, .int .i64 x.f2], rfl, (k36_mk w x.f0 l2 g2), ⟨[.int .i64 x.f1], [.int .i64 x.f2], rfl, rfl, rfl⟩⟩
theorem k42_mkM (w : World) (base : Nat) (ok : Nat → Prop) (x : S42) {v2 : Value} (g2 : (Kd.int .u8).R 5 w base ok v2 x.f0.f2) : k42.M w base ok x [.int .i64 x.f0.f0, .int .i64 x.f0.f1, v2, .int .i64 x.f1, .int .i64 x.f2] := ⟨[.int .i64 x.f0.f0, .int .i64 x.f0.f1, v2], [.int .i64 x.f1, .int .i64 x.f2], rfl, (k36_mkM w base ok x.f0 g2), ⟨[.int .i64 x.f1], [.int .i64 x.f2], rfl, rfl, rfl⟩⟩
theorem k42_openF {W : World} {ok : Nat → Prop} {x : S42} {cs : List Value} (h : Kd.FK k42 W ok x cs) : ∃ A2 c2, cs = [.int .i64 x.f0.f0, .int .i64 x.f0.f1, .slice A2 x.f0.f2.length c2, .int .i64 x.f1, .int .i64 x.f2] ∧ x.f0.f2.length ≤ c2 ∧ Kd.F (Kd.int .u8) W ok A2 x.f0.f2.length x.f0.f2 := by
 obtain ⟨A2, c2, rfl, l2, _⟩ := k42_open (Kd.FK_now h)
 exact ⟨A2, c2, rfl, l2, (fun W' hW => by obtain ⟨A2_, c2_, he, l2_, g2_⟩ := k42_open (h W' hW); injection (Option.some.inj (show some (Value.slice A2 x.f0.f2.length c2) = some (Value.slice A2_ x.f0.f2.length c2_) from congrArg (fun l => l[2]?) he)) with ha_ _ _; rw [ha_]; exact g2_)⟩
def rd_T42 (xs : List S42) (i : Int) : S42 := xs.getD i.toNat z42
theorem at_T42 {w : World} {A : Option Addr} {n : Nat} {xs : List S42} (h : Kd.C k42 w A n xs) (i : Int) (h0 : 0 ≤ i) (h1 : i < n) : ∃ ad A2 c2, A = some ad ∧ w.cell? (ad.add (i.toNat * 5)) = some (.int .i64 (rd_T42 xs i).f0.f0) ∧ w.cell? ⟨(ad.add (i.toNat * 5)).block, (ad.add (i.toNat * 5)).off + 1, none⟩ = some (.int .i64 (rd_T42 xs i).f0.f1) ∧ w.cell? ⟨(ad.add (i.toNat * 5)).block, (ad.add (i.toNat * 5)).off + 2, none⟩ = some (.slice A2 (rd_T42 xs i).f0.f2.length c2) ∧ w.cell? ⟨(ad.add (i.toNat * 5)).block, (ad.add (i.toNat * 5)).off + 3, none⟩ = some (.int .i64 (rd_T42 xs i).f1) ∧ w.cell? ⟨(ad.add (i.toNat * 5)).block, (ad.add (i.toNat * 5)).off + 4, none⟩ = some (.int .i64 (rd_T42 xs i).f2) ∧ (rd_T42 xs i).f0.f2.length ≤ c2 ∧ (Kd.int .u8).C w A2 (rd_T42 xs i).f0.f2.length (rd_T42 xs i).f0.f2 := by
 obtain ⟨ad, c, e, _, hK, hc0⟩ := Kd.C_get h z42 i h0 h1
 have hc : ∀ j u, c[j]? = some u → w.cell? (ad.add (i.toNat * 5 + j)) = some u := hc0
 obtain ⟨A2, c2, rfl, l2, g2⟩ := k42_open hK
 exact ⟨ad, A2, c2, e, hc 0 _ rfl, by rw [← add_field _ _ 1 (by omega)]; exact hc 1 _ rfl, by rw [← add_field _ _ 2 (by omega)]; exact hc 2 _ rfl, by rw [← add_field _ _ 3 (by omega)]; exact hc 3 _ rfl, by rw [← add_field _ _ 4 (by omega)]; exact hc 4 _ rfl, l2, g2⟩
end Go.Proofs.Ytdgefplbfffenaa.X
namespace Go.Proofs.Ytdgefplbfffenaa.X
open Go.RowKit Go.Proofs.YtdgefplbfffenaaW.PrintWords Go.Proofs.YtdgefplbfffenaaW.PrintLast Go.Proofs.YtdgefplbfffenaaW.PrintMore
attribute [local go_sem] max2_int min2_int max_two min_two max_three min_three max_four min_four   -- for this text's walks alone
set_option linter.unusedVariables false
set_option linter.unusedSimpArgs false
def waggonerref05_Same.f (a0_0 : Int) (a0_1 : Int) (l0_2 : List Int) (a1_0 : Int) (a1_1 : Int) (l1_2 : List Int) : Option (Bool) := if a0_0 = a1_0 then (if a0_1 = a1_1 then (some ((strOfNums l0_2).toList == (strOfNums l1_2).toList)) else (some false)) else (some false)
set_option maxHeartbeats 8000000 in
set_option maxRecDepth 100000 in
theorem waggonerref05_Same.calls (a0_0 : Int) (a0_1 : Int) (A0_2 : Option Addr) (c0_2 : Nat) (l0_2 : List Int) (a1_0 : Int) (a1_1 : Int) (A1_2 : Option Addr) (c1_2 : Nat) (l1_2 : List Int) (r : Bool) (w : World) (hr0_2 : Kd.C (Kd.int .u8) w A0_2 l0_2.length l0_2) (hc0_2 : l0_2.length ≤ c0_2) (hr1_2 : Kd.C (Kd.int .u8) w A1_2 l1_2.length l1_2) (hc1_2 : l1_2.length ≤ c1_2) (h : waggonerref05_Same.f a0_0 a0_1 l0_2 a1_0 a1_1 l1_2 = some r) :
  Calls Try.prog 29 #[.agg #[.int .i64 a0_0, .int .i64 a0_1, .slice A0_2 l0_2.length c0_2], .agg #[.int .i64 a1_0, .int .i64 a1_1, .slice A1_2 l1_2.length c1_2]] w fun e w' => e = .returned (.bool r) ∧ Below w.heap.size w w' := by
 have hu36 := Try.underlying36
 have HR0_2 := Aside0.mk hr0_2
 have HC0_2 := Aside0.mk hc0_2
 clear hr0_2 hc0_2
 have HR1_2 := Aside0.mk hr1_2
 have HC1_2 := Aside0.mk hc1_2
 clear hr1_2 hc1_2
 have HB := Aside0.mk (Below.refl w.heap.size w)
 have H : (if a0_0 = a1_0 then (if a0_1 = a1_1 then (some ((strOfNums l0_2).toList == (strOfNums l1_2).toList)) else (some false)) else (some false)) = some r := h
 clear h
 by_cases c3 : a0_0 = a1_0
 ·rw [if_pos c3] at H
  have c3b0 : (a0_0 == a1_0) = true := beq_iff_eq.mpr c3
  have c3b1 : (a0_0 != a1_0) = false := bne_eq_false_iff_eq.mpr c3
  clear c3
  by_cases c4 : a0_1 = a1_1
  ·rw [if_pos c4] at H
   have c4b0 : (a0_1 == a1_1) = true := beq_iff_eq.mpr c4
   have c4b1 : (a0_1 != a1_1) = false := bne_eq_false_iff_eq.mpr c4
   clear c4
   obtain rfl := Option.some.inj H
   go_enter Try.func29, Try.ntmps29
   go_wp2_with (first | ((with_reducible refine gate_dst (N := 2) rfl ?_); refine box_event ?hg (N := 2) ?hd (cs := #[.int .i64 a0_0, .int .i64 a0_1, .slice A0_2 l0_2.length c0_2]) (t := 36) ?hr ?_; (case hd => rfl); (case hg => rfl); (case hr => first | (go_simp; done) | (go_simp; rfl)); intro gb260 hg w5 hbox hb; have n0_ := Aside0.mk (below_step (by repeat (first | (with_reducible first | exact HB.out | apply below_alloc | apply pw_below_drewN | apply below_drew1) | exact HB.out)) hb); have n1_ := Aside0.mk (hbox); have n2_ := Aside0.mk ((by rw [hg]; exact (below_size (by repeat (first | (with_reducible first | exact HB.out | apply below_alloc | apply pw_below_drewN | apply below_drew1) | exact HB.out))) : w.heap.size ≤ gb260)); have n3_ := Aside0.mk ((by rw [hg]; exact (below_size (by repeat (first | (with_reducible first | exact HB.out | apply below_alloc | apply pw_below_drewN | apply below_drew1) | exact HB.out))) : w.heap.size ≤ gb260)); clear HB; have HB := n0_; have BK260 := n1_; have GW260 := n2_; have GE260 := n3_; clear n0_ n1_ n2_ n3_; clear hb hbox hg) | ((with_reducible refine gate_dst (N := 3) rfl ?_); refine box_event ?hg (N := 3) ?hd (cs := #[.int .i64 a1_0, .int .i64 a1_1, .slice A1_2 l1_2.length c1_2]) (t := 36) ?hr ?_; (case hd => rfl); (case hg => rfl); (case hr => first | (go_simp; done) | (go_simp; rfl)); intro gb261 hg w6 hbox hb; have n0_ := Aside0.mk (blk_below (g := gb260) (o := .cells #[.int .i64 a0_0, .int .i64 a0_1, .slice A0_2 l0_2.length c0_2] 36 (0, 0)) (by (with_reducible repeat (first | refine blk_drewN ?_ _ | refine blk_drew ?_ | refine blk_alloc ?_ _)); exact BK260.out) hb); have n1_ := Aside0.mk (below_step (by repeat (first | (with_reducible first | exact HB.out | apply below_alloc | apply pw_below_drewN | apply below_drew1 | refine below_set ?_ GE260.out) | exact HB.out)) hb); have n2_ := Aside0.mk (hbox); have n3_ := Aside0.mk ((by rw [hg]; exact (below_size (by repeat (first | (with_reducible first | exact HB.out | apply below_alloc | apply pw_below_drewN | apply below_drew1 | refine below_set ?_ GE260.out) | exact HB.out))) : w.heap.size ≤ gb261)); have n4_ := Aside0.mk ((by rw [hg]; exact (below_size (by repeat (first | (with_reducible first | exact HB.out | apply below_alloc | apply pw_below_drewN | apply below_drew1 | refine below_set ?_ GE260.out) | exact HB.out))) : w.heap.size ≤ gb261)); have n5_ := Aside0.mk ((by rw [hg]; exact Nat.ne_of_lt (blk_lt (g := gb260) (o := .cells #[.int .i64 a0_0, .int .i64 a0_1, .slice A0_2 l0_2.length c0_2] 36 (0, 0)) (by (with_reducible repeat (first | refine blk_drewN ?_ _ | refine blk_drew ?_ | refine blk_alloc ?_ _)); exact BK260.out)) : gb260 ≠ gb261)); have n6_ := Aside0.mk ((by rw [hg]; exact Nat.ne_of_gt (blk_lt (g := gb260) (o := .cells #[.int .i64 a0_0, .int .i64 a0_1, .slice A0_2 l0_2.length c0_2] 36 (0, 0)) (by (with_reducible repeat (first | refine blk_drewN ?_ _ | refine blk_drew ?_ | refine blk_alloc ?_ _)); exact BK260.out)) : gb261 ≠ gb260)); clear BK260; clear HB; have BK260 := n0_; have HB := n1_; have BK261 := n2_; have GW261 := n3_; have GE261 := n4_; have NB260_261 := n5_; have NB261_260 := n6_; clear n0_ n1_ n2_ n3_ n4_ n5_ n6_; clear hb hbox hg; have hnb7 := NB260_261.out; have hnc7 := NB261_260.out; have hcz8_0 : w6.cell? ⟨gb260, 0, none⟩ = some (.int .i64 a0_0) := (blk_cell BK260.out 0).trans rfl; have hcz8_1 : w6.cell? ⟨gb260, 1, none⟩ = some (.int .i64 a0_1) := (blk_cell BK260.out 1).trans rfl; have hcz8_2 : w6.cell? ⟨gb260, 2, none⟩ = some (.slice A0_2 l0_2.length c0_2) := (blk_cell BK260.out 2).trans rfl; have hfz8_0 := blk_frozen BK260.out 0; have hfz8_1 := blk_frozen BK260.out 1; have hfz8_2 := blk_frozen BK260.out 2; have hcz9_0 : w6.cell? ⟨gb261, 0, none⟩ = some (.int .i64 a1_0) := (blk_cell BK261.out 0).trans rfl; have hcz9_1 : w6.cell? ⟨gb261, 1, none⟩ = some (.int .i64 a1_1) := (blk_cell BK261.out 1).trans rfl; have hcz9_2 : w6.cell? ⟨gb261, 2, none⟩ = some (.slice A1_2 l1_2.length c1_2) := (blk_cell BK261.out 2).trans rfl; have hfz9_0 := blk_frozen BK261.out 0; have hfz9_1 := blk_frozen BK261.out 1; have hfz9_2 := blk_frozen BK261.out 2; have hcv10 := Kd.C_string (P := Try.prog) (A := A0_2) (c := c0_2) Try.underlying34 Try.underlying5 Try.underlying9 (Kd.C_below HR0_2.out HB.out); have hcv11 := Kd.C_string (P := Try.prog) (A := A1_2) (c := c1_2) Try.underlying34 Try.underlying5 Try.underlying9 (Kd.C_below HR1_2.out HB.out)))
   go_ret
   exact ⟨by first | rfl | (simp [errW_none, errW_some] <;> rfl) | (simp [*, errW_none, errW_some] <;> rfl), by repeat (first | (with_reducible first | exact HB.out | apply below_alloc | apply pw_below_drewN | apply below_drew1 | refine below_set ?_ GE260.out | refine below_set ?_ GE261.out) | exact HB.out)⟩
  ·rw [if_neg c4] at H
   have c4b0 : (a0_1 == a1_1) = false := beq_eq_false_iff_ne.mpr c4
   have c4b1 : (a0_1 != a1_1) = true := bne_iff_ne.mpr c4
   obtain rfl := Option.some.inj H
   go_enter Try.func29, Try.ntmps29
   go_wp2_with (first | ((with_reducible refine gate_dst (N := 2) rfl ?_); refine box_event ?hg (N := 2) ?hd (cs := #[.int .i64 a0_0, .int .i64 a0_1, .slice A0_2 l0_2.length c0_2]) (t := 36) ?hr ?_; (case hd => rfl); (case hg => rfl); (case hr => first | (go_simp; done) | (go_simp; rfl)); intro gb260 hg w12 hbox hb; have n0_ := Aside0.mk (below_step (by repeat (first | (with_reducible first | exact HB.out | apply below_alloc | apply pw_below_drewN | apply below_drew1) | exact HB.out)) hb); have n1_ := Aside0.mk (hbox); have n2_ := Aside0.mk ((by rw [hg]; exact (below_size (by repeat (first | (with_reducible first | exact HB.out | apply below_alloc | apply pw_below_drewN | apply below_drew1) | exact HB.out))) : w.heap.size ≤ gb260)); have n3_ := Aside0.mk ((by rw [hg]; exact (below_size (by repeat (first | (with_reducible first | exact HB.out | apply below_alloc | apply pw_below_drewN | apply below_drew1) | exact HB.out))) : w.heap.size ≤ gb260)); clear HB; have HB := n0_; have BK260 := n1_; have GW260 := n2_; have GE260 := n3_; clear n0_ n1_ n2_ n3_; clear hb hbox hg) | ((with_reducible refine gate_dst (N := 3) rfl ?_); refine box_event ?hg (N := 3) ?hd (cs := #[.int .i64 a1_0, .int .i64 a1_1, .slice A1_2 l1_2.length c1_2]) (t := 36) ?hr ?_; (case hd => rfl); (case hg => rfl); (case hr => first | (go_simp; done) | (go_simp; rfl)); intro gb261 hg w13 hbox hb; have n0_ := Aside0.mk (blk_below (g := gb260) (o := .cells #[.int .i64 a0_0, .int .i64 a0_1, .slice A0_2 l0_2.length c0_2] 36 (0, 0)) (by (with_reducible repeat (first | refine blk_drewN ?_ _ | refine blk_drew ?_ | refine blk_alloc ?_ _)); exact BK260.out) hb); have n1_ := Aside0.mk (below_step (by repeat (first | (with_reducible first | exact HB.out | apply below_alloc | apply pw_below_drewN | apply below_drew1 | refine below_set ?_ GE260.out) | exact HB.out)) hb); have n2_ := Aside0.mk (hbox); have n3_ := Aside0.mk ((by rw [hg]; exact (below_size (by repeat (first | (with_reducible first | exact HB.out | apply below_alloc | apply pw_below_drewN | apply below_drew1 | refine below_set ?_ GE260.out) | exact HB.out))) : w.heap.size ≤ gb261)); have n4_ := Aside0.mk ((by rw [hg]; exact (below_size (by repeat (first | (with_reducible first | exact HB.out | apply below_alloc | apply pw_below_drewN | apply below_drew1 | refine below_set ?_ GE260.out) | exact HB.out))) : w.heap.size ≤ gb261)); have n5_ := Aside0.mk ((by rw [hg]; exact Nat.ne_of_lt (blk_lt (g := gb260) (o := .cells #[.int .i64 a0_0, .int .i64 a0_1, .slice A0_2 l0_2.length c0_2] 36 (0, 0)) (by (with_reducible repeat (first | refine blk_drewN ?_ _ | refine blk_drew ?_ | refine blk_alloc ?_ _)); exact BK260.out)) : gb260 ≠ gb261)); have n6_ := Aside0.mk ((by rw [hg]; exact Nat.ne_of_gt (blk_lt (g := gb260) (o := .cells #[.int .i64 a0_0, .int .i64 a0_1, .slice A0_2 l0_2.length c0_2] 36 (0, 0)) (by (with_reducible repeat (first | refine blk_drewN ?_ _ | refine blk_drew ?_ | refine blk_alloc ?_ _)); exact BK260.out)) : gb261 ≠ gb260)); clear BK260; clear HB; have BK260 := n0_; have HB := n1_; have BK261 := n2_; have GW261 := n3_; have GE261 := n4_; have NB260_261 := n5_; have NB261_260 := n6_; clear n0_ n1_ n2_ n3_ n4_ n5_ n6_; clear hb hbox hg; have hnb14 := NB260_261.out; have hnc14 := NB261_260.out; have hcz15_0 : w13.cell? ⟨gb260, 0, none⟩ = some (.int .i64 a0_0) := (blk_cell BK260.out 0).trans rfl; have hcz15_1 : w13.cell? ⟨gb260, 1, none⟩ = some (.int .i64 a0_1) := (blk_cell BK260.out 1).trans rfl; have hcz15_2 : w13.cell? ⟨gb260, 2, none⟩ = some (.slice A0_2 l0_2.length c0_2) := (blk_cell BK260.out 2).trans rfl; have hfz15_0 := blk_frozen BK260.out 0; have hfz15_1 := blk_frozen BK260.out 1; have hfz15_2 := blk_frozen BK260.out 2; have hcz16_0 : w13.cell? ⟨gb261, 0, none⟩ = some (.int .i64 a1_0) := (blk_cell BK261.out 0).trans rfl; have hcz16_1 : w13.cell? ⟨gb261, 1, none⟩ = some (.int .i64 a1_1) := (blk_cell BK261.out 1).trans rfl; have hcz16_2 : w13.cell? ⟨gb261, 2, none⟩ = some (.slice A1_2 l1_2.length c1_2) := (blk_cell BK261.out 2).trans rfl; have hfz16_0 := blk_frozen BK261.out 0; have hfz16_1 := blk_frozen BK261.out 1; have hfz16_2 := blk_frozen BK261.out 2))
   go_ret
   exact ⟨by first | rfl | (simp [errW_none, errW_some] <;> rfl) | (simp [*, errW_none, errW_some] <;> rfl), by repeat (first | (with_reducible first | exact HB.out | apply below_alloc | apply pw_below_drewN | apply below_drew1 | refine below_set ?_ GE260.out | refine below_set ?_ GE261.out) | exact HB.out)⟩
 ·rw [if_neg c3] at H
  have c3b0 : (a0_0 == a1_0) = false := beq_eq_false_iff_ne.mpr c3
  have c3b1 : (a0_0 != a1_0) = true := bne_iff_ne.mpr c3
  obtain rfl := Option.some.inj H
  go_enter Try.func29, Try.ntmps29
  go_wp2_with (first | ((with_reducible refine gate_dst (N := 2) rfl ?_); refine box_event ?hg (N := 2) ?hd (cs := #[.int .i64 a0_0, .int .i64 a0_1, .slice A0_2 l0_2.length c0_2]) (t := 36) ?hr ?_; (case hd => rfl); (case hg => rfl); (case hr => first | (go_simp; done) | (go_simp; rfl)); intro gb260 hg w17 hbox hb; have n0_ := Aside0.mk (below_step (by repeat (first | (with_reducible first | exact HB.out | apply below_alloc | apply pw_below_drewN | apply below_drew1) | exact HB.out)) hb); have n1_ := Aside0.mk (hbox); have n2_ := Aside0.mk ((by rw [hg]; exact (below_size (by repeat (first | (with_reducible first | exact HB.out | apply below_alloc | apply pw_below_drewN | apply below_drew1) | exact HB.out))) : w.heap.size ≤ gb260)); have n3_ := Aside0.mk ((by rw [hg]; exact (below_size (by repeat (first | (with_reducible first | exact HB.out | apply below_alloc | apply pw_below_drewN | apply below_drew1) | exact HB.out))) : w.heap.size ≤ gb260)); clear HB; have HB := n0_; have BK260 := n1_; have GW260 := n2_; have GE260 := n3_; clear n0_ n1_ n2_ n3_; clear hb hbox hg) | ((with_reducible refine gate_dst (N := 3) rfl ?_); refine box_event ?hg (N := 3) ?hd (cs := #[.int .i64 a1_0, .int .i64 a1_1, .slice A1_2 l1_2.length c1_2]) (t := 36) ?hr ?_; (case hd => rfl); (case hg => rfl); (case hr => first | (go_simp; done) | (go_simp; rfl)); intro gb261 hg w18 hbox hb; have n0_ := Aside0.mk (blk_below (g := gb260) (o := .cells #[.int .i64 a0_0, .int .i64 a0_1, .slice A0_2 l0_2.length c0_2] 36 (0, 0)) (by (with_reducible repeat (first | refine blk_drewN ?_ _ | refine blk_drew ?_ | refine blk_alloc ?_ _)); exact BK260.out) hb); have n1_ := Aside0.mk (below_step (by repeat (first | (with_reducible first | exact HB.out | apply below_alloc | apply pw_below_drewN | apply below_drew1 | refine below_set ?_ GE260.out) | exact HB.out)) hb); have n2_ := Aside0.mk (hbox); have n3_ := Aside0.mk ((by rw [hg]; exact (below_size (by repeat (first | (with_reducible first | exact HB.out | apply below_alloc | apply pw_below_drewN | apply below_drew1 | refine below_set ?_ GE260.out) | exact HB.out))) : w.heap.size ≤ gb261)); have n4_ := Aside0.mk ((by rw [hg]; exact (below_size (by repeat (first | (with_reducible first | exact HB.out | apply below_alloc | apply pw_below_drewN | apply below_drew1 | refine below_set ?_ GE260.out) | exact HB.out))) : w.heap.size ≤ gb261)); have n5_ := Aside0.mk ((by rw [hg]; exact Nat.ne_of_lt (blk_lt (g := gb260) (o := .cells #[.int .i64 a0_0, .int .i64 a0_1, .slice A0_2 l0_2.length c0_2] 36 (0, 0)) (by (with_reducible repeat (first | refine blk_drewN ?_ _ | refine blk_drew ?_ | refine blk_alloc ?_ _)); exact BK260.out)) : gb260 ≠ gb261)); have n6_ := Aside0.mk ((by rw [hg]; exact Nat.ne_of_gt (blk_lt (g := gb260) (o := .cells #[.int .i64 a0_0, .int .i64 a0_1, .slice A0_2 l0_2.length c0_2] 36 (0, 0)) (by (with_reducible repeat (first | refine blk_drewN ?_ _ | refine blk_drew ?_ | refine blk_alloc ?_ _)); exact BK260.out)) : gb261 ≠ gb260)); clear BK260; clear HB; have BK260 := n0_; have HB := n1_; have BK261 := n2_; have GW261 := n3_; have GE261 := n4_; have NB260_261 := n5_; have NB261_260 := n6_; clear n0_ n1_ n2_ n3_ n4_ n5_ n6_; clear hb hbox hg; have hnb19 := NB260_261.out; have hnc19 := NB261_260.out; have hcz20_0 : w18.cell? ⟨gb260, 0, none⟩ = some (.int .i64 a0_0) := (blk_cell BK260.out 0).trans rfl; have hcz20_1 : w18.cell? ⟨gb260, 1, none⟩ = some (.int .i64 a0_1) := (blk_cell BK260.out 1).trans rfl; have hcz20_2 : w18.cell? ⟨gb260, 2, none⟩ = some (.slice A0_2 l0_2.length c0_2) := (blk_cell BK260.out 2).trans rfl; have hfz20_0 := blk_frozen BK260.out 0; have hfz20_1 := blk_frozen BK260.out 1; have hfz20_2 := blk_frozen BK260.out 2; have hcz21_0 : w18.cell? ⟨gb261, 0, none⟩ = some (.int .i64 a1_0) := (blk_cell BK261.out 0).trans rfl; have hcz21_1 : w18.cell? ⟨gb261, 1, none⟩ = some (.int .i64 a1_1) := (blk_cell BK261.out 1).trans rfl; have hcz21_2 : w18.cell? ⟨gb261, 2, none⟩ = some (.slice A1_2 l1_2.length c1_2) := (blk_cell BK261.out 2).trans rfl; have hfz21_0 := blk_frozen BK261.out 0; have hfz21_1 := blk_frozen BK261.out 1; have hfz21_2 := blk_frozen BK261.out 2))
  go_ret
  exact ⟨by first | rfl | (simp [errW_none, errW_some] <;> rfl) | (simp [*, errW_none, errW_some] <;> rfl), by repeat (first | (with_reducible first | exact HB.out | apply below_alloc | apply pw_below_drewN | apply below_drew1 | refine below_set ?_ GE260.out | refine below_set ?_ GE261.out) | exact HB.out)⟩
def waggonerref05_All.l0 : Nat → List (S36) → List (S36) → Int → Option (Bool)
 | 0, _, _, _ => none
 | k + 1, x0, x1, x5 => if x5 < (x0.length : Int) then (if 0 ≤ x5 then (if x5 < (x1.length : Int) then ((waggonerref05_Same.f ((rd_T36 x0 x5).f0) ((rd_T36 x0 x5).f1) ((rd_T36 x0 x5).f2) ((rd_T36 x1 x5).f0) ((rd_T36 x1 x5).f1) ((rd_T36 x1 x5).f2)).bind fun t264 => (if t264 = true then (waggonerref05_All.l0 k x0 x1 (wrap64 (x5 + 1))) else (some false))) else (none)) else (none)) else (some true)
def waggonerref05_All.f (k : Nat) (l0 : List (S36)) (l1 : List (S36)) : Option (Bool) := if (l0.length : Int) = (l1.length : Int) then (waggonerref05_All.l0 k l0 l1 0) else (some false)
theorem waggonerref05_All.mono_l : ∀ k, (∀ y0 y1 y2, LeO (waggonerref05_All.l0 k y0 y1 y2) (waggonerref05_All.l0 (k + 1) y0 y1 y2))
 | 0 => fun _ _ _ r h => by simp [waggonerref05_All.l0] at h
 | k + 1 => by
  have ih0 := waggonerref05_All.mono_l k
  ·intro y0 y1 y2
   unfold waggonerref05_All.l0
   repeat' first
   | (with_reducible exact ih0 _ _ _)
   | (with_reducible exact LeO.refl _)
   | (with_reducible exact LeO.none _)
   | (with_reducible refine LeO.ite ?_ ?_)
   | (with_reducible refine LeO.bind ?_ (fun _ => ?_))
   | exact ih0 _ _ _
   | exact LeO.none _
   | refine LeO.ite ?_ ?_
   | refine LeO.bind ?_ (fun _ => ?_)
theorem waggonerref05_All.mono : ∀ a0 a1 k, LeO (waggonerref05_All.f k a0 a1) (waggonerref05_All.f (k + 1) a0 a1) := by
 intro a0 a1 k
 have ih0 := waggonerref05_All.mono_l k
 unfold waggonerref05_All.f
 repeat' first
   | (with_reducible exact ih0 _ _ _)
   | (with_reducible exact LeO.refl _)
   | (with_reducible exact LeO.none _)
   | (with_reducible refine LeO.ite ?_ ?_)
   | (with_reducible refine LeO.bind ?_ (fun _ => ?_))
   | exact ih0 _ _ _
   | exact LeO.none _
   | refine LeO.ite ?_ ?_
   | refine LeO.bind ?_ (fun _ => ?_)
def waggonerref05_All.T6 : Bool × List (List Nat × List Nat) := (true, [([], []), ([], []), ([0, 1], [0, 1]), ([2], [2]), ([], []), ([], []), ([4, 5], [4, 5]), ([6], [6]), ([3, 7], [3, 7]), ([8, 8, 0, 1, 2, 3, 4, 5, 6, 7, 8], [8])])
def waggonerref05_All.B6 : List Nat := [0, 0, 3, 7, 0, 0, 48, 112, 255, 511]
theorem waggonerref05_All.tab6 : rtab .any (opsOf Try.f16 6) = waggonerref05_All.T6 := by kernel_rfl
theorem waggonerref05_All.bits6 : waitsOk waggonerref05_All.T6.2 waggonerref05_All.B6 = true := by kernel_rfl
set_option maxHeartbeats 8000000 in
set_option maxRecDepth 100000 in
theorem waggonerref05_All.calls (k : Nat) (A0 : Option Addr) (c0 : Nat) (l0 : List (S36)) (A1 : Option Addr) (c1 : Nat) (l1 : List (S36)) (r : Bool) (w : World) (hr0 : Kd.C k36 w A0 l0.length l0) (hc0 : l0.length ≤ c0) (hr1 : Kd.C k36 w A1 l1.length l1) (hc1 : l1.length ≤ c1) (h : waggonerref05_All.f k l0 l1 = some r) :
  Calls Try.prog 16 #[.slice A0 l0.length c0, .slice A1 l1.length c1] w fun e w' => e = .returned (.bool r) ∧ Below w.heap.size w w' := by
 have hu36 := Try.underlying36
 have HR0 := Aside0.mk hr0
 have HC0 := Aside0.mk hc0
 clear hr0 hc0
 have HR1 := Aside0.mk hr1
 have HC1 := Aside0.mk hc1
 clear hr1 hc1
 have HB := Aside0.mk (Below.refl w.heap.size w)
 have H : (if (l0.length : Int) = (l1.length : Int) then (waggonerref05_All.l0 k l0 l1 0) else (some false)) = some r := h
 clear h
 by_cases c3 : (l0.length : Int) = (l1.length : Int)
 ·rw [if_pos c3] at H
  have c3b0 : ((l0.length : Int) == (l1.length : Int)) = true := beq_iff_eq.mpr c3
  have c3b1 : ((l0.length : Int) != (l1.length : Int)) = false := bne_eq_false_iff_eq.mpr c3
  have c3b2 : (l0.length == l1.length) = true := by first | simpa using c3 | (simp at c3 ⊢; omega)
  clear c3
  have H' := Aside0.mk H
  clear H
  go_enter Try.func16, Try.ntmps16
  go_wp2
  go_loopg [5] k (fun kq v5 w' => ∃ (x5_1 : Int), v5 = .int .i64 x5_1 ∧ Aside0 (waggonerref05_All.l0 kq l0 l1 x5_1 = some r) ∧ Aside0 (kq ≤ k) ∧ Aside0 (Below w.heap.size w w'))
  case atStart => exact ⟨(0), (by first | rfl | (simp; done) | (simp [*]; done)), H', ⟨Nat.le_refl _⟩, ⟨by repeat (first | (with_reducible first | exact HB.out | apply below_alloc | apply pw_below_drewN | apply below_drew1) | exact HB.out)⟩⟩
  case round =>
   clear H'
   try clear c1
   try clear p2
   try clear c3
   try clear c3b0
   try clear c3b1
   try clear c3b2
   obtain ⟨x5_1, rfl, HA, HK1, HB⟩ := hrel
   cases gk with
   | zero => exact absurd HA.out (by simp [waggonerref05_All.l0])
   | succ k1 =>
    have H := HA.out
    clear HA
    simp only [waggonerref05_All.l0] at H
    by_cases c4 : x5_1 < (l0.length : Int)
    ·rw [if_pos c4] at H
     have c4b0 : decide (x5_1 < (l0.length : Int)) = true := decide_eq_true c4
     clear c4
     by_cases c5 : 0 ≤ x5_1
     ·rw [if_pos c5] at H
      have c5b0 : decide (0 ≤ x5_1) = true := decide_eq_true c5
      clear c5
      by_cases c6 : x5_1 < (l1.length : Int)
      ·rw [if_pos c6] at H
       have c6b0 : decide (x5_1 < (l1.length : Int)) = true := decide_eq_true c6
       clear c6
       replace H := Option.bind_eq_some_iff.mp H
       obtain ⟨t264, A70, H⟩ := H
       replace H : (if t264 = true then (waggonerref05_All.l0 k1 l0 l1 (wrap64 (x5_1 + 1))) else (some false)) = some r := H
       have A7 := Aside0.mk A70
       clear A70
       by_cases c8 : t264 = true
       ·subst c8
        have H1 : (waggonerref05_All.l0 k1 l0 l1 (wrap64 (x5_1 + 1))) = some r := by rw [if_pos rfl] at H; exact H
        clear H
        have H := H1
        clear H1
        have H' := Aside0.mk H
        clear H
        try go_wp2
        have n0_ := Aside0.mk (below_drew1 HB.out)
        clear HB
        have HB := n0_
        clear n0_
        have p262 : 0 ≤ (x5_1 : Int) := of_decide_eq_true (by first | (with_reducible assumption) | assumption)
        have q262 : x5_1 < (l0.length : Int) := of_decide_eq_true (by first | (with_reducible assumption) | assumption)
        obtain ⟨ad262, A262_2, c262_2, e262, hx262_0, hx262_1, hx262_2, hl262_2, hi262_2⟩ := at_T36 HR0.out x5_1 p262 q262
        have hw262_2 := hx262_2
        have hw262_1 := hx262_1
        have hw262_0 := hx262_0
        cases e262
        replace hx262_0 := (HB.out.cell (World.block_lt_of_cell? w _ hx262_0)).trans hx262_0
        replace hx262_1 := (HB.out.cell (World.block_lt_of_cell? w _ hx262_1)).trans hx262_1
        replace hx262_2 := (HB.out.cell (World.block_lt_of_cell? w _ hx262_2)).trans hx262_2
        have HR262_2 := Aside0.mk hi262_2
        have HC262_2 := Aside0.mk hl262_2
        clear hi262_2 hl262_2
        replace p262 := eq_true p262
        replace q262 := eq_true q262
        have p263 : 0 ≤ (x5_1 : Int) := of_decide_eq_true (by first | (with_reducible assumption) | assumption)
        have q263 : x5_1 < (l1.length : Int) := of_decide_eq_true (by first | (with_reducible assumption) | assumption)
        obtain ⟨ad263, A263_2, c263_2, e263, hx263_0, hx263_1, hx263_2, hl263_2, hi263_2⟩ := at_T36 HR1.out x5_1 p263 q263
        have hw263_2 := hx263_2
        have hw263_1 := hx263_1
        have hw263_0 := hx263_0
        cases e263
        replace hx263_0 := (HB.out.cell (World.block_lt_of_cell? w _ hx263_0)).trans hx263_0
        replace hx263_1 := (HB.out.cell (World.block_lt_of_cell? w _ hx263_1)).trans hx263_1
        replace hx263_2 := (HB.out.cell (World.block_lt_of_cell? w _ hx263_2)).trans hx263_2
        have HR263_2 := Aside0.mk hi263_2
        have HC263_2 := Aside0.mk hl263_2
        clear hi263_2 hl263_2
        replace p263 := eq_true p263
        replace q263 := eq_true q263
        refine start_ (n := 10) (S := fun w' => w'.cell? (ad262.add ((x5_1).toNat * 3)) = some (.int .i64 ((rd_T36 l0 x5_1).f0)) ∧ w'.cell? ⟨(ad262.add ((x5_1).toNat * 3)).block, (ad262.add ((x5_1).toNat * 3)).off + 1, none⟩ = some (.int .i64 ((rd_T36 l0 x5_1).f1)) ∧ w'.cell? ⟨(ad262.add ((x5_1).toNat * 3)).block, (ad262.add ((x5_1).toNat * 3)).off + 2, none⟩ = some (.slice A262_2 ((rd_T36 l0 x5_1).f2).length c262_2) ∧ w'.cell? (ad263.add ((x5_1).toNat * 3)) = some (.int .i64 ((rd_T36 l1 x5_1).f0)) ∧ w'.cell? ⟨(ad263.add ((x5_1).toNat * 3)).block, (ad263.add ((x5_1).toNat * 3)).off + 1, none⟩ = some (.int .i64 ((rd_T36 l1 x5_1).f1)) ∧ w'.cell? ⟨(ad263.add ((x5_1).toNat * 3)).block, (ad263.add ((x5_1).toNat * 3)).off + 2, none⟩ = some (.slice A263_2 ((rd_T36 l1 x5_1).f2).length c263_2)) (ds := []) #[false, false, false, false, false, false, false, false, false, false] (by kernel_rfl) rfl rfl ⟨((HB.out.cell (World.block_lt_of_cell? w _ hw262_0)).trans hw262_0), ((HB.out.cell (World.block_lt_of_cell? w _ hw262_1)).trans hw262_1), ((HB.out.cell (World.block_lt_of_cell? w _ hw262_2)).trans hw262_2), ((HB.out.cell (World.block_lt_of_cell? w _ hw263_0)).trans hw263_0), ((HB.out.cell (World.block_lt_of_cell? w _ hw263_1)).trans hw263_1), ((HB.out.cell (World.block_lt_of_cell? w _ hw263_2)).trans hw263_2)⟩ (fun hHeld => ?_); refine with_tabW waggonerref05_All.tab6 waggonerref05_All.bits6 (fun HT_ HW_ => ?_)
        generalize wr.drew = w9 at HB HR262_2 HR263_2 hx262_0 hx262_1 hx262_2 hx263_0 hx263_1 hx263_2 hHeld ⊢
        refine pure_ (i := 0) (N := some 18) (v := ?_) (a' := ?_) #[true, false, false, false, false, false, false, false, false, false] rfl rfl (any_of HT_.out (by kernel_rfl)) (fun _ _ _ h => h) (Or.inl ⟨by rfl, ?_⟩) ?_ ?_
        rotate_left
        ·intro w'
         go_simp
         with_reducible rfl
        rotate_left
        ·simp only [Act.put, List.setIfInBounds_toArray, List.set_cons_zero, List.set_cons_succ, i64_w, i32_w]
         rfl
        refine pure_ (i := 1) (N := some 19) (v := ?_) (a' := ?_) #[true, true, false, false, false, false, false, false, false, false] rfl rfl (any_of HT_.out (by kernel_rfl)) (fun _ _ _ h => h) (Or.inl ⟨by rfl, ?_⟩) ?_ ?_
        rotate_left
        ·intro w'
         go_simp
         with_reducible rfl
        rotate_left
        ·simp only [Act.put, List.setIfInBounds_toArray, List.set_cons_zero, List.set_cons_succ, i64_w, i32_w]
         rfl
        refine pure_ (i := 2) (N := some 20) (v := ?_) (a' := ?_) #[true, true, true, false, false, false, false, false, false, false] rfl rfl (any_of HT_.out (by kernel_rfl)) (fun _ _ _ h => h) (Or.inl ⟨by rfl, ?_⟩) ?_ ?_
        rotate_left
        ·intro w'
         go_simp
         with_reducible rfl
        rotate_left
        ·simp only [Act.put, List.setIfInBounds_toArray, List.set_cons_zero, List.set_cons_succ, i64_w, i32_w]
         rfl
        refine pure_ (i := 4) (N := some 22) (v := ?_) (a' := ?_) #[true, true, true, false, true, false, false, false, false, false] rfl rfl (any_of HT_.out (by kernel_rfl)) (fun _ _ _ h => h) (Or.inl ⟨by rfl, ?_⟩) ?_ ?_
        rotate_left
        ·intro w'
         go_simp
         with_reducible rfl
        rotate_left
        ·simp only [Act.put, List.setIfInBounds_toArray, List.set_cons_zero, List.set_cons_succ, i64_w, i32_w]
         rfl
        refine pure_ (i := 5) (N := some 23) (v := ?_) (a' := ?_) #[true, true, true, false, true, true, false, false, false, false] rfl rfl (any_of HT_.out (by kernel_rfl)) (fun _ _ _ h => h) (Or.inl ⟨by rfl, ?_⟩) ?_ ?_
        rotate_left
        ·intro w'
         go_simp
         with_reducible rfl
        rotate_left
        ·simp only [Act.put, List.setIfInBounds_toArray, List.set_cons_zero, List.set_cons_succ, i64_w, i32_w]
         rfl
        refine pure_ (i := 6) (N := some 24) (v := ?_) (a' := ?_) #[true, true, true, false, true, true, true, false, false, false] rfl rfl (any_of HT_.out (by kernel_rfl)) (fun _ _ _ h => h) (Or.inl ⟨by rfl, ?_⟩) ?_ ?_
        rotate_left
        ·intro w'
         go_simp
         with_reducible rfl
        rotate_left
        ·simp only [Act.put, List.setIfInBounds_toArray, List.set_cons_zero, List.set_cons_succ, i64_w, i32_w]
         rfl
        refine take_ (i := 3) (N := some 21) (v := ?_) (a' := ?_) #[true, true, true, true, true, true, true, false, false, false] rfl rfl (take_ofW HT_.out HW_.out (by kernel_rfl)) (fun _ _ _ h => h) (Or.inl ⟨by rfl, ?_⟩) hHeld ?_ ?_
        rotate_left
        ·rintro w' ⟨s0, s1, s2, s3, s4, s5⟩
         go_simp
         with_reducible rfl
        rotate_left
        ·simp only [Act.put, List.setIfInBounds_toArray, List.set_cons_zero, List.set_cons_succ, i64_w, i32_w]
         rfl
        refine take_ (i := 7) (N := some 25) (v := ?_) (a' := ?_) #[true, true, true, true, true, true, true, true, false, false] rfl rfl (take_ofW HT_.out HW_.out (by kernel_rfl)) (fun _ _ _ h => h) (Or.inl ⟨by rfl, ?_⟩) hHeld ?_ ?_
        rotate_left
        ·rintro w' ⟨s0, s1, s2, s3, s4, s5⟩
         go_simp
         with_reducible rfl
        rotate_left
        ·simp only [Act.put, List.setIfInBounds_toArray, List.set_cons_zero, List.set_cons_succ, i64_w, i32_w]
         rfl
        refine one_ (i := 8) (N := some 26) #[true, true, true, true, true, true, true, true, true, false] rfl rfl (one_of HT_.out (by kernel_rfl)) (by decide) (fun K hK => ?_)
        refine goes_ Try.func29 (by kernel_rfl) rfl #[.agg #[.int .i64 ((rd_T36 l0 x5_1).f0), .int .i64 ((rd_T36 l0 x5_1).f1), .slice A262_2 ((rd_T36 l0 x5_1).f2).length c262_2], .agg #[.int .i64 ((rd_T36 l1 x5_1).f0), .int .i64 ((rd_T36 l1 x5_1).f1), .slice A263_2 ((rd_T36 l1 x5_1).f2).length c263_2]] (by rfl) rfl rfl (by (try simp only [List.map_toArray, List.map_cons, List.map_nil]); first | done | rfl | (simp only [List.length_drop, List.length_take]; rfl)) ?_
        with_reducible refine (waggonerref05_Same.calls ((rd_T36 l0 x5_1).f0) ((rd_T36 l0 x5_1).f1) _ _ ((rd_T36 l0 x5_1).f2) ((rd_T36 l1 x5_1).f0) ((rd_T36 l1 x5_1).f1) _ _ ((rd_T36 l1 x5_1).f2) true _ ?side1 ?side2 ?side3 ?side4 A7.out).mono ?_
        (case side1 => repeat (first | exact (Kd.C_below HR262_2.out HB.out) | (with_reducible refine Kd.C_alloc ?_ _) | (with_reducible refine Kd.C_drewN ?_ _) | (with_reducible refine Kd.C_drew ?_)))
        (case side2 => exact HC262_2.out)
        (case side3 => repeat (first | exact (Kd.C_below HR263_2.out HB.out) | (with_reducible refine Kd.C_alloc ?_ _) | (with_reducible refine Kd.C_drewN ?_ _) | (with_reducible refine Kd.C_drew ?_)))
        (case side4 => exact HC263_2.out)
        rintro e w10 ⟨rfl, hb⟩
        refine ⟨_, rfl, ?_⟩
        have n0_ := Aside0.mk (below_step (by repeat (first | (with_reducible first | exact HB.out | apply below_alloc | apply pw_below_drewN | apply below_drew1) | exact HB.out)) hb)
        clear HB
        have HB := n0_
        clear n0_
        (try clear hb)
        (try clear hb2)
        (try clear hk)
        (try clear hi)
        refine hK.out _ _ ⟨((HB.out.cell (World.block_lt_of_cell? w _ hw262_0)).trans hw262_0), ((HB.out.cell (World.block_lt_of_cell? w _ hw262_1)).trans hw262_1), ((HB.out.cell (World.block_lt_of_cell? w _ hw262_2)).trans hw262_2), ((HB.out.cell (World.block_lt_of_cell? w _ hw263_0)).trans hw263_0), ((HB.out.cell (World.block_lt_of_cell? w _ hw263_1)).trans hw263_1), ((HB.out.cell (World.block_lt_of_cell? w _ hw263_2)).trans hw263_2)⟩ (fun hHeld => ?_)
        clear hK K
        refine norm_ (a' := ?_) ?_ ?_
        rotate_left
        ·show Act.put _ (some 26) _ = _
         simp only [Act.put, List.setIfInBounds_toArray, List.set_cons_zero, List.set_cons_succ, i64_w, i32_w]
         rfl
        refine pure_ (i := 9) (N := some 6) (v := ?_) (a' := ?_) #[true, true, true, true, true, true, true, true, true, true] rfl rfl (any_of HT_.out (by kernel_rfl)) (fun _ _ _ h => h) (Or.inl ⟨by rfl, ?_⟩) ?_ ?_
        rotate_left
        ·intro w'
         go_simp
         with_reducible rfl
        rotate_left
        ·simp only [Act.put, List.setIfInBounds_toArray, List.set_cons_zero, List.set_cons_succ, i64_w, i32_w]
         rfl
        refine done_ (done_of HT_.out (by kernel_rfl)) ?_
        try go_wp2
        go_roundg k1
        case measure => have := HK1.out; omega
        case rel => exact ⟨(wrap64 (x5_1 + 1)), (by first | rfl | (simp; done) | (simp [*]; done)), H', ⟨by have := HK1.out; omega⟩, ⟨by repeat (first | (with_reducible first | exact HB.out | apply below_alloc | apply pw_below_drewN | apply below_drew1) | exact HB.out)⟩⟩
       ·replace c8 := Bool.eq_false_iff.mpr c8
        subst c8
        have H1 : (some false) = some r := by rw [if_neg (show ¬ (false = true) by decide)] at H; exact H
        clear H
        have H := H1
        clear H1
        obtain rfl := Option.some.inj H
        try go_wp2
        have n0_ := Aside0.mk (below_drew1 HB.out)
        clear HB
        have HB := n0_
        clear n0_
        have p262 : 0 ≤ (x5_1 : Int) := of_decide_eq_true (by first | (with_reducible assumption) | assumption)
        have q262 : x5_1 < (l0.length : Int) := of_decide_eq_true (by first | (with_reducible assumption) | assumption)
        obtain ⟨ad262, A262_2, c262_2, e262, hx262_0, hx262_1, hx262_2, hl262_2, hi262_2⟩ := at_T36 HR0.out x5_1 p262 q262
        have hw262_2 := hx262_2
        have hw262_1 := hx262_1
        have hw262_0 := hx262_0
        cases e262
        replace hx262_0 := (HB.out.cell (World.block_lt_of_cell? w _ hx262_0)).trans hx262_0
        replace hx262_1 := (HB.out.cell (World.block_lt_of_cell? w _ hx262_1)).trans hx262_1
        replace hx262_2 := (HB.out.cell (World.block_lt_of_cell? w _ hx262_2)).trans hx262_2
        have HR262_2 := Aside0.mk hi262_2
        have HC262_2 := Aside0.mk hl262_2
        clear hi262_2 hl262_2
        replace p262 := eq_true p262
        replace q262 := eq_true q262
        have p263 : 0 ≤ (x5_1 : Int) := of_decide_eq_true (by first | (with_reducible assumption) | assumption)
        have q263 : x5_1 < (l1.length : Int) := of_decide_eq_true (by first | (with_reducible assumption) | assumption)
        obtain ⟨ad263, A263_2, c263_2, e263, hx263_0, hx263_1, hx263_2, hl263_2, hi263_2⟩ := at_T36 HR1.out x5_1 p263 q263
        have hw263_2 := hx263_2
        have hw263_1 := hx263_1
        have hw263_0 := hx263_0
        cases e263
        replace hx263_0 := (HB.out.cell (World.block_lt_of_cell? w _ hx263_0)).trans hx263_0
        replace hx263_1 := (HB.out.cell (World.block_lt_of_cell? w _ hx263_1)).trans hx263_1
        replace hx263_2 := (HB.out.cell (World.block_lt_of_cell? w _ hx263_2)).trans hx263_2
        have HR263_2 := Aside0.mk hi263_2
        have HC263_2 := Aside0.mk hl263_2
        clear hi263_2 hl263_2
        replace p263 := eq_true p263
        replace q263 := eq_true q263
        refine start_ (n := 10) (S := fun w' => w'.cell? (ad262.add ((x5_1).toNat * 3)) = some (.int .i64 ((rd_T36 l0 x5_1).f0)) ∧ w'.cell? ⟨(ad262.add ((x5_1).toNat * 3)).block, (ad262.add ((x5_1).toNat * 3)).off + 1, none⟩ = some (.int .i64 ((rd_T36 l0 x5_1).f1)) ∧ w'.cell? ⟨(ad262.add ((x5_1).toNat * 3)).block, (ad262.add ((x5_1).toNat * 3)).off + 2, none⟩ = some (.slice A262_2 ((rd_T36 l0 x5_1).f2).length c262_2) ∧ w'.cell? (ad263.add ((x5_1).toNat * 3)) = some (.int .i64 ((rd_T36 l1 x5_1).f0)) ∧ w'.cell? ⟨(ad263.add ((x5_1).toNat * 3)).block, (ad263.add ((x5_1).toNat * 3)).off + 1, none⟩ = some (.int .i64 ((rd_T36 l1 x5_1).f1)) ∧ w'.cell? ⟨(ad263.add ((x5_1).toNat * 3)).block, (ad263.add ((x5_1).toNat * 3)).off + 2, none⟩ = some (.slice A263_2 ((rd_T36 l1 x5_1).f2).length c263_2)) (ds := []) #[false, false, false, false, false, false, false, false, false, false] (by kernel_rfl) rfl rfl ⟨((HB.out.cell (World.block_lt_of_cell? w _ hw262_0)).trans hw262_0), ((HB.out.cell (World.block_lt_of_cell? w _ hw262_1)).trans hw262_1), ((HB.out.cell (World.block_lt_of_cell? w _ hw262_2)).trans hw262_2), ((HB.out.cell (World.block_lt_of_cell? w _ hw263_0)).trans hw263_0), ((HB.out.cell (World.block_lt_of_cell? w _ hw263_1)).trans hw263_1), ((HB.out.cell (World.block_lt_of_cell? w _ hw263_2)).trans hw263_2)⟩ (fun hHeld => ?_); refine with_tabW waggonerref05_All.tab6 waggonerref05_All.bits6 (fun HT_ HW_ => ?_)
        generalize wr.drew = w11 at HB HR262_2 HR263_2 hx262_0 hx262_1 hx262_2 hx263_0 hx263_1 hx263_2 hHeld ⊢
        refine pure_ (i := 0) (N := some 18) (v := ?_) (a' := ?_) #[true, false, false, false, false, false, false, false, false, false] rfl rfl (any_of HT_.out (by kernel_rfl)) (fun _ _ _ h => h) (Or.inl ⟨by rfl, ?_⟩) ?_ ?_
        rotate_left
        ·intro w'
         go_simp
         with_reducible rfl
        rotate_left
        ·simp only [Act.put, List.setIfInBounds_toArray, List.set_cons_zero, List.set_cons_succ, i64_w, i32_w]
         rfl
        refine pure_ (i := 1) (N := some 19) (v := ?_) (a' := ?_) #[true, true, false, false, false, false, false, false, false, false] rfl rfl (any_of HT_.out (by kernel_rfl)) (fun _ _ _ h => h) (Or.inl ⟨by rfl, ?_⟩) ?_ ?_
        rotate_left
        ·intro w'
         go_simp
         with_reducible rfl
        rotate_left
        ·simp only [Act.put, List.setIfInBounds_toArray, List.set_cons_zero, List.set_cons_succ, i64_w, i32_w]
         rfl
        refine pure_ (i := 2) (N := some 20) (v := ?_) (a' := ?_) #[true, true, true, false, false, false, false, false, false, false] rfl rfl (any_of HT_.out (by kernel_rfl)) (fun _ _ _ h => h) (Or.inl ⟨by rfl, ?_⟩) ?_ ?_
        rotate_left
        ·intro w'
         go_simp
         with_reducible rfl
        rotate_left
        ·simp only [Act.put, List.setIfInBounds_toArray, List.set_cons_zero, List.set_cons_succ, i64_w, i32_w]
         rfl
        refine pure_ (i := 4) (N := some 22) (v := ?_) (a' := ?_) #[true, true, true, false, true, false, false, false, false, false] rfl rfl (any_of HT_.out (by kernel_rfl)) (fun _ _ _ h => h) (Or.inl ⟨by rfl, ?_⟩) ?_ ?_
        rotate_left
        ·intro w'
         go_simp
         with_reducible rfl
        rotate_left
        ·simp only [Act.put, List.setIfInBounds_toArray, List.set_cons_zero, List.set_cons_succ, i64_w, i32_w]
         rfl
        refine pure_ (i := 5) (N := some 23) (v := ?_) (a' := ?_) #[true, true, true, false, true, true, false, false, false, false] rfl rfl (any_of HT_.out (by kernel_rfl)) (fun _ _ _ h => h) (Or.inl ⟨by rfl, ?_⟩) ?_ ?_
        rotate_left
        ·intro w'
         go_simp
         with_reducible rfl
        rotate_left
        ·simp only [Act.put, List.setIfInBounds_toArray, List.set_cons_zero, List.set_cons_succ, i64_w, i32_w]
         rfl
        refine pure_ (i := 6) (N := some 24) (v := ?_) (a' := ?_) #[true, true, true, false, true, true, true, false, false, false] rfl rfl (any_of HT_.out (by kernel_rfl)) (fun _ _ _ h => h) (Or.inl ⟨by rfl, ?_⟩) ?_ ?_
        rotate_left
        ·intro w'
         go_simp
         with_reducible rfl
        rotate_left
        ·simp only [Act.put, List.setIfInBounds_toArray, List.set_cons_zero, List.set_cons_succ, i64_w, i32_w]
         rfl
        refine take_ (i := 3) (N := some 21) (v := ?_) (a' := ?_) #[true, true, true, true, true, true, true, false, false, false] rfl rfl (take_ofW HT_.out HW_.out (by kernel_rfl)) (fun _ _ _ h => h) (Or.inl ⟨by rfl, ?_⟩) hHeld ?_ ?_
        rotate_left
        ·rintro w' ⟨s0, s1, s2, s3, s4, s5⟩
         go_simp
         with_reducible rfl
        rotate_left
        ·simp only [Act.put, List.setIfInBounds_toArray, List.set_cons_zero, List.set_cons_succ, i64_w, i32_w]
         rfl
        refine take_ (i := 7) (N := some 25) (v := ?_) (a' := ?_) #[true, true, true, true, true, true, true, true, false, false] rfl rfl (take_ofW HT_.out HW_.out (by kernel_rfl)) (fun _ _ _ h => h) (Or.inl ⟨by rfl, ?_⟩) hHeld ?_ ?_
        rotate_left
        ·rintro w' ⟨s0, s1, s2, s3, s4, s5⟩
         go_simp
         with_reducible rfl
        rotate_left
        ·simp only [Act.put, List.setIfInBounds_toArray, List.set_cons_zero, List.set_cons_succ, i64_w, i32_w]
         rfl
        refine one_ (i := 8) (N := some 26) #[true, true, true, true, true, true, true, true, true, false] rfl rfl (one_of HT_.out (by kernel_rfl)) (by decide) (fun K hK => ?_)
        refine goes_ Try.func29 (by kernel_rfl) rfl #[.agg #[.int .i64 ((rd_T36 l0 x5_1).f0), .int .i64 ((rd_T36 l0 x5_1).f1), .slice A262_2 ((rd_T36 l0 x5_1).f2).length c262_2], .agg #[.int .i64 ((rd_T36 l1 x5_1).f0), .int .i64 ((rd_T36 l1 x5_1).f1), .slice A263_2 ((rd_T36 l1 x5_1).f2).length c263_2]] (by rfl) rfl rfl (by (try simp only [List.map_toArray, List.map_cons, List.map_nil]); first | done | rfl | (simp only [List.length_drop, List.length_take]; rfl)) ?_
        with_reducible refine (waggonerref05_Same.calls ((rd_T36 l0 x5_1).f0) ((rd_T36 l0 x5_1).f1) _ _ ((rd_T36 l0 x5_1).f2) ((rd_T36 l1 x5_1).f0) ((rd_T36 l1 x5_1).f1) _ _ ((rd_T36 l1 x5_1).f2) false _ ?side1 ?side2 ?side3 ?side4 A7.out).mono ?_
        (case side1 => repeat (first | exact (Kd.C_below HR262_2.out HB.out) | (with_reducible refine Kd.C_alloc ?_ _) | (with_reducible refine Kd.C_drewN ?_ _) | (with_reducible refine Kd.C_drew ?_)))
        (case side2 => exact HC262_2.out)
        (case side3 => repeat (first | exact (Kd.C_below HR263_2.out HB.out) | (with_reducible refine Kd.C_alloc ?_ _) | (with_reducible refine Kd.C_drewN ?_ _) | (with_reducible refine Kd.C_drew ?_)))
        (case side4 => exact HC263_2.out)
        rintro e w12 ⟨rfl, hb⟩
        refine ⟨_, rfl, ?_⟩
        have n0_ := Aside0.mk (below_step (by repeat (first | (with_reducible first | exact HB.out | apply below_alloc | apply pw_below_drewN | apply below_drew1) | exact HB.out)) hb)
        clear HB
        have HB := n0_
        clear n0_
        (try clear hb)
        (try clear hb2)
        (try clear hk)
        (try clear hi)
        refine hK.out _ _ ⟨((HB.out.cell (World.block_lt_of_cell? w _ hw262_0)).trans hw262_0), ((HB.out.cell (World.block_lt_of_cell? w _ hw262_1)).trans hw262_1), ((HB.out.cell (World.block_lt_of_cell? w _ hw262_2)).trans hw262_2), ((HB.out.cell (World.block_lt_of_cell? w _ hw263_0)).trans hw263_0), ((HB.out.cell (World.block_lt_of_cell? w _ hw263_1)).trans hw263_1), ((HB.out.cell (World.block_lt_of_cell? w _ hw263_2)).trans hw263_2)⟩ (fun hHeld => ?_)
        clear hK K
        refine norm_ (a' := ?_) ?_ ?_
        rotate_left
        ·show Act.put _ (some 26) _ = _
         simp only [Act.put, List.setIfInBounds_toArray, List.set_cons_zero, List.set_cons_succ, i64_w, i32_w]
         rfl
        refine pure_ (i := 9) (N := some 6) (v := ?_) (a' := ?_) #[true, true, true, true, true, true, true, true, true, true] rfl rfl (any_of HT_.out (by kernel_rfl)) (fun _ _ _ h => h) (Or.inl ⟨by rfl, ?_⟩) ?_ ?_
        rotate_left
        ·intro w'
         go_simp
         with_reducible rfl
        rotate_left
        ·simp only [Act.put, List.setIfInBounds_toArray, List.set_cons_zero, List.set_cons_succ, i64_w, i32_w]
         rfl
        refine done_ (done_of HT_.out (by kernel_rfl)) ?_
        try go_wp2
        go_ret
        exact ⟨by first | rfl | (simp [errW_none, errW_some] <;> rfl) | (simp [*, errW_none, errW_some] <;> rfl), by repeat (first | (with_reducible first | exact HB.out | apply below_alloc | apply pw_below_drewN | apply below_drew1) | exact HB.out)⟩
      ·rw [if_neg c6] at H
       exact absurd H (by simp)
     ·rw [if_neg c5] at H
      exact absurd H (by simp)
    ·rw [if_neg c4] at H
     have c4b0 : decide (x5_1 < (l0.length : Int)) = false := decide_eq_false c4
     clear c4
     obtain rfl := Option.some.inj H
     go_wp2
     go_ret
     exact ⟨by first | rfl | (simp [errW_none, errW_some] <;> rfl) | (simp [*, errW_none, errW_some] <;> rfl), by repeat (first | (with_reducible first | exact HB.out | apply below_alloc | apply pw_below_drewN | apply below_drew1) | exact HB.out)⟩
 ·rw [if_neg c3] at H
  have c3b0 : ((l0.length : Int) == (l1.length : Int)) = false := beq_eq_false_iff_ne.mpr c3
  have c3b1 : ((l0.length : Int) != (l1.length : Int)) = true := bne_iff_ne.mpr c3
  have c3b2 : (l0.length == l1.length) = false := by first | simpa using c3 | (simp at c3 ⊢; omega)
  obtain rfl := Option.some.inj H
  go_enter Try.func16, Try.ntmps16
  go_wp2
  go_ret
  exact ⟨by first | rfl | (simp [errW_none, errW_some] <;> rfl) | (simp [*, errW_none, errW_some] <;> rfl), by repeat (first | (with_reducible first | exact HB.out | apply below_alloc | apply pw_below_drewN | apply below_drew1) | exact HB.out)⟩
-- GIVEN: function 17 (log_Run)
mutual
def waggonerref06_Run.l0 : Nat → List (S42) → List (S36) → Int → Option ((List (S36)))
 | 0, _, _, _ => none
 | k + 1, x0, x5, x6 => waggonerref06_Run.l1 k x0 x5 x6 (-1) (wrap64 ((x0.length : Int) - 1))
def waggonerref06_Run.l1 : Nat → List (S42) → List (S36) → Int → Int → Int → Option ((List (S36)))
 | 0, _, _, _, _, _ => none
 | k + 1, x0, x5, x6, x7, x8 => if x8 ≥ 0 then (if 0 ≤ x8 then (if x8 < (x0.length : Int) then (if ((rd_T42 x0 x8).f0.f1) = x6 then (waggonerref06_Run.l1 k x0 x5 x6 x8 (wrap64 (x8 - 1))) else (waggonerref06_Run.l1 k x0 x5 x6 x7 (wrap64 (x8 - 1)))) else (none)) else (none)) else (if x7 < 0 then (some x5) else (if 0 ≤ x7 then (if x7 < (x0.length : Int) then (if x5.length < 3518437208883 then (waggonerref06_Run.l0 k x0 (x5 ++ [(⟨(rd_T42 x0 x7).f0.f0, (rd_T42 x0 x7).f0.f1, (rd_T42 x0 x7).f0.f2⟩ : S36)]) (wrap64 (x6 + 1))) else (none)) else (none)) else (none)))
end
def waggonerref06_Run.f (k : Nat) (l0 : List (S42)) (a1 : Int) : Option ((List (S36))) := waggonerref06_Run.l0 k l0 ([] : List (S36)) a1
theorem waggonerref06_Run.mono_l : ∀ k, (∀ y0 y1 y2, LeO (waggonerref06_Run.l0 k y0 y1 y2) (waggonerref06_Run.l0 (k + 1) y0 y1 y2)) ∧ (∀ y0 y1 y2 y3 y4, LeO (waggonerref06_Run.l1 k y0 y1 y2 y3 y4) (waggonerref06_Run.l1 (k + 1) y0 y1 y2 y3 y4))
 | 0 => ⟨fun _ _ _ r h => by simp [waggonerref06_Run.l0] at h, fun _ _ _ _ _ r h => by simp [waggonerref06_Run.l1] at h⟩
 | k + 1 => by
  obtain ⟨ih0, ih1⟩ := waggonerref06_Run.mono_l k
  refine ⟨?_, ?_⟩
  ·intro y0 y1 y2
   unfold waggonerref06_Run.l0
   repeat' first
   | (with_reducible exact ih0 _ _ _)
   | (with_reducible exact ih1 _ _ _ _ _)
   | (with_reducible exact LeO.refl _)
   | (with_reducible exact LeO.none _)
   | (with_reducible refine LeO.ite ?_ ?_)
   | (with_reducible refine LeO.bind ?_ (fun _ => ?_))
   | exact ih0 _ _ _
   | exact ih1 _ _ _ _ _
   | exact LeO.none _
   | refine LeO.ite ?_ ?_
   | refine LeO.bind ?_ (fun _ => ?_)
  ·intro y0 y1 y2 y3 y4
   unfold waggonerref06_Run.l1
   repeat' first
   | (with_reducible exact ih0 _ _ _)
   | (with_reducible exact ih1 _ _ _ _ _)
   | (with_reducible exact LeO.refl _)
   | (with_reducible exact LeO.none _)
   | (with_reducible refine LeO.ite ?_ ?_)
   | (with_reducible refine LeO.bind ?_ (fun _ => ?_))
   | exact ih0 _ _ _
   | exact ih1 _ _ _ _ _
   | exact LeO.none _
   | refine LeO.ite ?_ ?_
   | refine LeO.bind ?_ (fun _ => ?_)
theorem waggonerref06_Run.mono : ∀ a0 a1 k, LeO (waggonerref06_Run.f k a0 a1) (waggonerref06_Run.f (k + 1) a0 a1) := by
 intro a0 a1 k
 obtain ⟨ih0, ih1⟩ := waggonerref06_Run.mono_l k
 unfold waggonerref06_Run.f
 repeat' first
   | (with_reducible exact ih0 _ _ _)
   | (with_reducible exact ih1 _ _ _ _ _)
   | (with_reducible exact LeO.refl _)
   | (with_reducible exact LeO.none _)
   | (with_reducible refine LeO.ite ?_ ?_)
   | (with_reducible refine LeO.bind ?_ (fun _ => ?_))
   | exact ih0 _ _ _
   | exact ih1 _ _ _ _ _
   | exact LeO.none _
   | refine LeO.ite ?_ ?_
   | refine LeO.bind ?_ (fun _ => ?_)
set_option maxHeartbeats 8000000 in
set_option maxRecDepth 100000 in
theorem waggonerref06_Run.calls (k : Nat) (P0_ : Nat → Prop) (A0 : Option Addr) (c0 : Nat) (l0 : List (S42)) (a1 : Int) (r : List (S36)) (w : World) (hs0 : Kd.V k42 42 w w.heap.size (fun k_ => P0_ k_) (.slice A0 l0.length c0) l0) (h : waggonerref06_Run.f k l0 a1 = some r) :
  Calls Try.prog 18 #[.slice A0 l0.length c0, .int .i64 a1] w fun e w' => ∃ v0_ : Value, e = .returned (v0_) ∧ Kd.N k36 36 w' w.heap.size (fun k_ => (P0_ k_ ∨ w.heap.size ≤ k_)) v0_ r ∧ Below w.heap.size w w' := by
 have hu36 := Try.underlying36
 have HO0 := Aside0.mk (show Kd.V k42 42 w w.heap.size (fun k_ => (P0_ k_ ∨ w.heap.size ≤ k_)) (.slice A0 l0.length c0) l0 from Kd.V_mono hs0 (fun k_ hk => .inl hk))
 have HB := Aside0.mk (Below.refl w.heap.size w)
 have H : (waggonerref06_Run.l0 k l0 ([] : List (S36)) a1) = some r := h
 clear h
 have H' := Aside0.mk H
 clear H
 go_enter Try.func18, Try.ntmps18
 go_wp2
 go_loopg [5, 6] k (fun kq v5 v6 w' => ∃ (x5_1 : List (S36)) (x6_1 : Int), v6 = .int .i64 x6_1 ∧ Aside0 (waggonerref06_Run.l0 kq l0 x5_1 x6_1 = some r) ∧ Aside0 (kq ≤ k) ∧ Aside0 (Kd.V k42 42 w' w.heap.size (fun k_ => (P0_ k_ ∨ w.heap.size ≤ k_) ∧ some k_ ≠ (v5 : Value).ownBlock) (.slice A0 l0.length c0) l0) ∧ Aside0 (Kd.N k36 36 w' w.heap.size (fun k_ => (P0_ k_ ∨ w.heap.size ≤ k_)) v5 x5_1) ∧ Aside0 (Below w.heap.size w w'))
 case atStart => exact ⟨(([] : List (S36))), (a1), (by first | rfl | (simp; done) | (simp [*]; done)), H', ⟨Nat.le_refl _⟩, ⟨by (with_reducible repeat (first | apply Kd.V_alloc | apply Kd.V_drewN | apply Kd.V_drew)); exact Kd.V_mono HO0.out (fun _ hk => ⟨hk, (by simp [Value.ownBlock])⟩)⟩, ⟨by first | exact Kd.S_nil _ _ _ _ _ | exact Kd.N_nil _ _ _ _ _ | exact Kd.V_nil _ _ _ _ _ | exact Kd.Q_nil _ _ _ _ _ | exact Kd.R_nil _ _ _ _ _⟩, ⟨by repeat (first | (with_reducible first | exact HB.out | apply below_alloc | apply pw_below_drewN | apply below_drew1) | exact HB.out)⟩⟩
 case round =>
  clear H'
  try clear c1
  try clear p2
  obtain ⟨x5_1, x6_1, rfl, HA, HK1, HO_0, HO_5, HB⟩ := hrel
  cases gk with
  | zero => exact absurd HA.out (by simp [waggonerref06_Run.l0])
  | succ k1 =>
   have H := HA.out
   clear HA
   simp only [waggonerref06_Run.l0] at H
   have H' := Aside0.mk H
   clear H
   go_wp2
   go_loopg [7, 8] k1 (fun kq v7 v8 w' => ∃ (x7_2 : Int) (x8_2 : Int), v7 = .int .i64 x7_2 ∧ v8 = .int .i64 x8_2 ∧ Aside0 (waggonerref06_Run.l1 kq l0 x5_1 x6_1 x7_2 x8_2 = some r) ∧ Aside0 (kq ≤ k1) ∧ Aside0 (Kd.V k42 42 w' w.heap.size (fun k_ => (P0_ k_ ∨ w.heap.size ≤ k_) ∧ some k_ ≠ (u5 : Value).ownBlock) (.slice A0 l0.length c0) l0) ∧ Aside0 (Kd.N k36 36 w' w.heap.size (fun k_ => (P0_ k_ ∨ w.heap.size ≤ k_)) u5 x5_1) ∧ Aside0 (Below w.heap.size w w'))
   case atStart => exact ⟨((-1)), (wrap64 ((l0.length : Int) - 1)), (by first | rfl | (simp; done) | (simp [*]; done)), (by first | rfl | (simp; done) | (simp [*]; done)), H', ⟨Nat.le_refl _⟩, ⟨by (with_reducible repeat (first | apply Kd.V_alloc | apply Kd.V_drewN | apply Kd.V_drew)); exact HO_0.out⟩, ⟨by (with_reducible repeat (first | apply Kd.N_alloc | apply Kd.N_drewN | apply Kd.N_drew)); exact HO_5.out⟩, ⟨by repeat (first | (with_reducible first | exact HB.out | apply below_alloc | apply pw_below_drewN | apply below_drew1) | exact HB.out)⟩⟩
   case round =>
    clear H'
    try clear c1
    try clear p2
    try clear p2
    obtain ⟨x7_2, x8_2, rfl, rfl, HA, HK2, HO_0, HO_5, HB⟩ := hrel
    cases gk with
    | zero => exact absurd HA.out (by simp [waggonerref06_Run.l1])
    | succ k2 =>
     have H := HA.out
     clear HA
     simp only [waggonerref06_Run.l1] at H
     by_cases c3 : x8_2 ≥ 0
     ·rw [if_pos c3] at H
      have c3b0 : decide (0 ≤ x8_2) = true := decide_eq_true c3
      clear c3
      by_cases c4 : 0 ≤ x8_2
      ·rw [if_pos c4] at H
       have c4b0 : decide (0 ≤ x8_2) = true := decide_eq_true c4
       clear c4
       by_cases c5 : x8_2 < (l0.length : Int)
       ·rw [if_pos c5] at H
        have c5b0 : decide (x8_2 < (l0.length : Int)) = true := decide_eq_true c5
        clear c5
        by_cases c6 : ((rd_T42 l0 x8_2).f0.f1) = x6_1
        ·rw [if_pos c6] at H
         have c6b0 : (((rd_T42 l0 x8_2).f0.f1) == x6_1) = true := beq_iff_eq.mpr c6
         have c6b1 : (((rd_T42 l0 x8_2).f0.f1) != x6_1) = false := bne_eq_false_iff_eq.mpr c6
         clear c6
         have H' := Aside0.mk H
         clear H
         have p265 : 0 ≤ (x8_2 : Int) := of_decide_eq_true (by first | (with_reducible assumption) | assumption)
         have q265 : x8_2 < (l0.length : Int) := of_decide_eq_true (by first | (with_reducible assumption) | assumption)
         obtain ⟨ad265, A265_2, c265_2, e265, hx265_0, hx265_1, hx265_2, hx265_3, hx265_4, hl265_2, hi265_2⟩ := at_T42 (Kd.V_reads' HO_0.out).2.2 x8_2 p265 q265
         cases e265
         obtain ⟨ce265, hce265, hMe265, hcc265⟩ := Kd.V_get HO_0.out z42 x8_2 p265 (by first | exact q265 | exact of_decide_eq_true (by first | (with_reducible assumption) | assumption) | (have e_ := (Kd.V_reads' HO_0.out).1; omega))
         obtain ⟨ua265_2, uc265_2, rfl, ul265_2, ge265_2⟩ := k42_openF hMe265
         have hv265_2 := hcc265 2 _ rfl
         rw [add_field _ _ 2 (by omega)] at hv265_2
         replace hv265_2 := Option.some.inj (hv265_2.symm.trans hx265_2)
         injection hv265_2 with hva_ hvn_ hvc_
         rw [hva_] at ge265_2
         rw [hvc_] at ul265_2
         have HL265_2 := Aside0.mk (show Kd.V (Kd.int .u8) 5 _ w.heap.size _ _ ((rd_T42 l0 x8_2).f0.f2) from Kd.V_mk ul265_2 ge265_2)
         clear hva_ hvn_ hvc_ ge265_2 ul265_2
         clear hcc265 hce265
         have HR265_2 := Aside0.mk hi265_2
         have HC265_2 := Aside0.mk hl265_2
         clear hi265_2 hl265_2
         replace p265 := eq_true p265
         replace q265 := eq_true q265
         go_wp2
         go_roundg k2
         case measure => have := HK1.out; have := HK2.out; omega
         case rel => exact ⟨(x8_2), (wrap64 (x8_2 - 1)), (by first | rfl | (simp; done) | (simp [*]; done)), (by first | rfl | (simp; done) | (simp [*]; done)), H', ⟨by have := HK1.out; have := HK2.out; omega⟩, ⟨by (with_reducible repeat (first | apply Kd.V_alloc | apply Kd.V_drewN | apply Kd.V_drew)); exact HO_0.out⟩, ⟨by (with_reducible repeat (first | apply Kd.N_alloc | apply Kd.N_drewN | apply Kd.N_drew)); exact HO_5.out⟩, ⟨by repeat (first | (with_reducible first | exact HB.out | apply below_alloc | apply pw_below_drewN | apply below_drew1) | exact HB.out)⟩⟩
        ·rw [if_neg c6] at H
         have c6b0 : (((rd_T42 l0 x8_2).f0.f1) == x6_1) = false := beq_eq_false_iff_ne.mpr c6
         have c6b1 : (((rd_T42 l0 x8_2).f0.f1) != x6_1) = true := bne_iff_ne.mpr c6
         have H' := Aside0.mk H
         clear H
         have p265 : 0 ≤ (x8_2 : Int) := of_decide_eq_true (by first | (with_reducible assumption) | assumption)
         have q265 : x8_2 < (l0.length : Int) := of_decide_eq_true (by first | (with_reducible assumption) | assumption)
         obtain ⟨ad265, A265_2, c265_2, e265, hx265_0, hx265_1, hx265_2, hx265_3, hx265_4, hl265_2, hi265_2⟩ := at_T42 (Kd.V_reads' HO_0.out).2.2 x8_2 p265 q265
         cases e265
         obtain ⟨ce265, hce265, hMe265, hcc265⟩ := Kd.V_get HO_0.out z42 x8_2 p265 (by first | exact q265 | exact of_decide_eq_true (by first | (with_reducible assumption) | assumption) | (have e_ := (Kd.V_reads' HO_0.out).1; omega))
         obtain ⟨ua265_2, uc265_2, rfl, ul265_2, ge265_2⟩ := k42_openF hMe265
         have hv265_2 := hcc265 2 _ rfl
         rw [add_field _ _ 2 (by omega)] at hv265_2
         replace hv265_2 := Option.some.inj (hv265_2.symm.trans hx265_2)
         injection hv265_2 with hva_ hvn_ hvc_
         rw [hva_] at ge265_2
         rw [hvc_] at ul265_2
         have HL265_2 := Aside0.mk (show Kd.V (Kd.int .u8) 5 _ w.heap.size _ _ ((rd_T42 l0 x8_2).f0.f2) from Kd.V_mk ul265_2 ge265_2)
         clear hva_ hvn_ hvc_ ge265_2 ul265_2
         clear hcc265 hce265
         have HR265_2 := Aside0.mk hi265_2
         have HC265_2 := Aside0.mk hl265_2
         clear hi265_2 hl265_2
         replace p265 := eq_true p265
         replace q265 := eq_true q265
         go_wp2
         go_roundg k2
         case measure => have := HK1.out; have := HK2.out; omega
         case rel => exact ⟨(x7_2), (wrap64 (x8_2 - 1)), (by first | rfl | (simp; done) | (simp [*]; done)), (by first | rfl | (simp; done) | (simp [*]; done)), H', ⟨by have := HK1.out; have := HK2.out; omega⟩, ⟨by (with_reducible repeat (first | apply Kd.V_alloc | apply Kd.V_drewN | apply Kd.V_drew)); exact HO_0.out⟩, ⟨by (with_reducible repeat (first | apply Kd.N_alloc | apply Kd.N_drewN | apply Kd.N_drew)); exact HO_5.out⟩, ⟨by repeat (first | (with_reducible first | exact HB.out | apply below_alloc | apply pw_below_drewN | apply below_drew1) | exact HB.out)⟩⟩
       ·rw [if_neg c5] at H
        exact absurd H (by simp)
      ·rw [if_neg c4] at H
       exact absurd H (by simp)
     ·rw [if_neg c3] at H
      have c3b0 : decide (0 ≤ x8_2) = false := decide_eq_false c3
      clear c3
      by_cases c7 : x7_2 < 0
      ·rw [if_pos c7] at H
       have c7b0 : decide (x7_2 < 0) = true := decide_eq_true c7
       clear c7
       obtain rfl := Option.some.inj H
       go_wp2
       go_ret
       exact ⟨_, by first | rfl | (simp [errW_none, errW_some] <;> rfl) | (simp [*, errW_none, errW_some] <;> rfl), by (with_reducible repeat (first | apply Kd.N_alloc | apply Kd.N_drewN | apply Kd.N_drew)); exact HO_5.out, by repeat (first | (with_reducible first | exact HB.out | apply below_alloc | apply pw_below_drewN | apply below_drew1) | exact HB.out)⟩
      ·rw [if_neg c7] at H
       have c7b0 : decide (x7_2 < 0) = false := decide_eq_false c7
       clear c7
       by_cases c8 : 0 ≤ x7_2
       ·rw [if_pos c8] at H
        have c8b0 : decide (0 ≤ x7_2) = true := decide_eq_true c8
        clear c8
        by_cases c9 : x7_2 < (l0.length : Int)
        ·rw [if_pos c9] at H
         have c9b0 : decide (x7_2 < (l0.length : Int)) = true := decide_eq_true c9
         clear c9
         by_cases c10 : x5_1.length < 3518437208883
         ·rw [if_pos c10] at H
          have LMc10 := Aside0.mk c10
          clear c10
          obtain ⟨y267, hy267⟩ : ∃ y_ : List (S36), y_ = (x5_1 ++ [(⟨(rd_T42 l0 x7_2).f0.f0, (rd_T42 l0 x7_2).f0.f1, (rd_T42 l0 x7_2).f0.f2⟩ : S36)]) := ⟨_, rfl⟩
          replace H : (waggonerref06_Run.l0 k2 l0 y267 (wrap64 (x6_1 + 1))) = some r := by first | (rw [hy267]; with_reducible exact H) | (have H2_ := (Option.bind_some _ _).symm.trans H; rw [hy267]; with_reducible exact H2_) | (have H2_ := (Option.bind_some _ _).symm.trans H; with_reducible exact H2_) | with_reducible exact H | (rw [hy267]; exact H) | exact H
          have Ny267 := Aside0.mk hy267
          clear hy267
          have H' := Aside0.mk H
          clear H
          have p266 : 0 ≤ (x7_2 : Int) := of_decide_eq_true (by first | (with_reducible assumption) | assumption)
          have q266 : x7_2 < (l0.length : Int) := of_decide_eq_true (by first | (with_reducible assumption) | assumption)
          obtain ⟨ad266, A266_2, c266_2, e266, hx266_0, hx266_1, hx266_2, hx266_3, hx266_4, hl266_2, hi266_2⟩ := at_T42 (Kd.V_reads' HO_0.out).2.2 x7_2 p266 q266
          cases e266
          obtain ⟨ce266, hce266, hMe266, hcc266⟩ := Kd.V_get HO_0.out z42 x7_2 p266 (by first | exact q266 | exact of_decide_eq_true (by first | (with_reducible assumption) | assumption) | (have e_ := (Kd.V_reads' HO_0.out).1; omega))
          obtain ⟨ua266_2, uc266_2, rfl, ul266_2, ge266_2⟩ := k42_openF hMe266
          have hv266_2 := hcc266 2 _ rfl
          rw [add_field _ _ 2 (by omega)] at hv266_2
          replace hv266_2 := Option.some.inj (hv266_2.symm.trans hx266_2)
          injection hv266_2 with hva_ hvn_ hvc_
          rw [hva_] at ge266_2
          rw [hvc_] at ul266_2
          have HL266_2 := Aside0.mk (show Kd.V (Kd.int .u8) 5 _ w.heap.size _ _ ((rd_T42 l0 x7_2).f0.f2) from Kd.V_mk ul266_2 ge266_2)
          clear hva_ hvn_ hvc_ ge266_2 ul266_2
          clear hcc266 hce266
          have HR266_2 := Aside0.mk hi266_2
          have HC266_2 := Aside0.mk hl266_2
          clear hi266_2 hl266_2
          replace p266 := eq_true p266
          replace q266 := eq_true q266
          go_wp2_with (first | ((with_reducible refine gate_builtin (b := .append) (xs := #[.tmp 29, .tmp 35]) rfl ?_); at_builtin; refine Kd.N_append k36 (w0 := w) w.heap.size rfl (.tmp 29) (.tmp 35) 44 36 (.agg #[(.int .i64 0), (.int .i64 0), (.slice none 0 0)]) 40 rfl Try.underlying44 info36 rfl (by decide) (by omega) u5 x5_1 (⟨(rd_T42 l0 x7_2).f0.f0, (rd_T42 l0 x7_2).f0.f1, (rd_T42 l0 x7_2).f0.f2⟩ : S36) [.int .i64 ((rd_T42 l0 x7_2).f0.f0), .int .i64 ((rd_T42 l0 x7_2).f0.f1), .slice A266_2 ((rd_T42 l0 x7_2).f0.f2).length c266_2] (fun k_ => (P0_ k_ ∨ w.heap.size ≤ k_)) (fun k_ => ((fun k_ => (P0_ k_ ∨ w.heap.size ≤ k_))) k_ ∧ some k_ ≠ (u5 : Value).ownBlock) rfl rfl ?aP (fun _ hk => hk) ?aF ?aO ?aB ?aS ?aL ?_; (case aP => exact (k36_mkF _ _ (⟨(rd_T42 l0 x7_2).f0.f0, (rd_T42 l0 x7_2).f0.f1, (rd_T42 l0 x7_2).f0.f2⟩ : S36) (Kd.V_reads' (Kd.V_mono (ok' := (fun k_ => ((fun k_ => (P0_ k_ ∨ w.heap.size ≤ k_))) k_ ∧ some k_ ≠ (u5 : Value).ownBlock)) (HL266_2.out) (fun k_ hk => ⟨hk.1, hk.2⟩))).2.1 (Kd.V_F (Kd.V_mono (ok' := (fun k_ => ((fun k_ => (P0_ k_ ∨ w.heap.size ≤ k_))) k_ ∧ some k_ ≠ (u5 : Value).ownBlock)) (HL266_2.out) (fun k_ hk => ⟨hk.1, hk.2⟩))))); (case aB => exact (by repeat (first | (with_reducible first | exact HB.out | apply below_alloc | apply pw_below_drewN | apply below_drew1) | exact HB.out))); (case aF => exact (fun k_ hk => (.inr (Nat.le_trans (below_size (by repeat (first | (with_reducible first | exact HB.out | apply below_alloc | apply pw_below_drewN | apply below_drew1) | exact HB.out))) hk)))); (case aO => exact (by (with_reducible repeat (first | apply Kd.N_alloc | apply Kd.N_drewN | apply Kd.N_drew)); exact HO_5.out)); (case aS => exact (below_size (by repeat (first | (with_reducible first | exact HB.out | apply below_alloc | apply pw_below_drewN | apply below_drew1) | exact HB.out)))); (case aL => have := LMc10.out; omega); intro v268 w11 ho hb hg hat; rw [← Ny267.out] at ho; have n0_ := Aside0.mk (Kd.V_afterv (ok := (fun k_ => (P0_ k_ ∨ w.heap.size ≤ k_))) (by (with_reducible repeat (first | apply Kd.V_alloc | apply Kd.V_drewN | apply Kd.V_drew)); exact HO_0.out) hg hat); have n1_ := Aside0.mk (Kd.V_afterv (ok := (fun k_ => (P0_ k_ ∨ w.heap.size ≤ k_))) (by (with_reducible repeat (first | apply Kd.V_alloc | apply Kd.V_drewN | apply Kd.V_drew)); exact HL266_2.out) hg hat); have n2_ := Aside0.mk (hb); have n3_ := Aside0.mk (ho); clear HO_0; clear HL266_2; clear HB; clear HO_5; have HO_0 := n0_; have HL266_2 := n1_; have HB := n2_; have HO269 := n3_; clear n0_ n1_ n2_ n3_; clear ho hb hg hat))
          go_roundg k2
          case measure => have := HK1.out; have := HK2.out; omega
          case rel => exact ⟨(y267), (wrap64 (x6_1 + 1)), (by first | rfl | (simp; done) | (simp [*]; done)), H', ⟨by have := HK1.out; have := HK2.out; omega⟩, ⟨by (with_reducible repeat (first | apply Kd.V_alloc | apply Kd.V_drewN | apply Kd.V_drew)); exact HO_0.out⟩, ⟨by (with_reducible repeat (first | apply Kd.N_alloc | apply Kd.N_drewN | apply Kd.N_drew)); exact HO269.out⟩, ⟨by repeat (first | (with_reducible first | exact HB.out | apply below_alloc | apply pw_below_drewN | apply below_drew1) | exact HB.out)⟩⟩
         ·rw [if_neg c10] at H
          exact absurd H (by simp)
        ·rw [if_neg c9] at H
         exact absurd H (by simp)
       ·rw [if_neg c8] at H
        exact absurd H (by simp)
end Go.Proofs.Ytdgefplbfffenaa.X
namespace Go.Proofs.Ytdgefplbfffenaa.X
open Go.RowKit Go.Shelf Go.Proofs.YtdgefplbfffenaaW.PrintWords Go.Proofs.YtdgefplbfffenaaW.PrintLast Go.Proofs.YtdgefplbfffenaaW.PrintMore
section
attribute [local go_sem] Oper.semAt_some
set_option maxHeartbeats 1000000 in
theorem backward_calls (F : Fence) (n : Nat) (h42 : F.fn 42) (hro : F.round = none) (a : Option Addr) (len cap : Nat) (w : World) :
    CallsIn F n Try.prog 42 #[.slice a len cap] w fun e w' => e = .returned (.func (.func 66) #[] #[.pointer (some ⟨w.heap.size, 0, none⟩)]) ∧ w' = w.alloc (.cells #[.slice a len cap] 40) := by
  refine callsIn_of_wp Try.func42 rfl h42 ?_ hro
  simp only [Try.ntmps42, List.size_toArray, List.length_cons, List.length_nil, Nat.reduceAdd, Nat.reduceSub, Array.replicate_succ, Array.replicate_zero, List.push_toArray, List.append_toArray, List.nil_append, List.cons_append]
  gi_wp2
  go_ret
  exact ⟨rfl, rfl⟩
abbrev sl (t : Option Addr × Nat × Nat) : Value := .slice t.1 t.2.1 t.2.2
/-- The value of element j, and its cells where they lie. -/
structure Elems (W : World) (ad : Addr) (len : Nat) (E : Nat → Int × Int × (Option Addr × Nat × Nat) × Int × Int) : Prop where
  c0 : ∀ j, j < len → W.cell? (ad.add (j * 5)) = some (.int .i64 (E j).1)
  c1 : ∀ j, j < len → W.cell? ⟨(ad.add (j * 5)).block, (ad.add (j * 5)).off + 1, none⟩ = some (.int .i64 (E j).2.1)
  c2 : ∀ j, j < len → W.cell? ⟨(ad.add (j * 5)).block, (ad.add (j * 5)).off + 2, none⟩ = some (sl (E j).2.2.1)
  c3 : ∀ j, j < len → W.cell? ⟨(ad.add (j * 5)).block, (ad.add (j * 5)).off + 3, none⟩ = some (.int .i64 (E j).2.2.2.1)
  c4 : ∀ j, j < len → W.cell? ⟨(ad.add (j * 5)).block, (ad.add (j * 5)).off + 4, none⟩ = some (.int .i64 (E j).2.2.2.2)
def elemV (x : Int × Int × (Option Addr × Nat × Nat) × Int × Int) : Value := .agg #[.int .i64 x.1, .int .i64 x.2.1, sl x.2.2.1, .int .i64 x.2.2.2.1, .int .i64 x.2.2.2.2]
theorem add_block' (ad : Addr) (j : Nat) : (ad.add j).block = ad.block := by unfold Addr.add; split <;> rfl
theorem Elems.below {W W' : World} {ad : Addr} {len n₀ : Nat} {E : Nat → Int × Int × (Option Addr × Nat × Nat) × Int × Int} (h : Elems W ad len E) (hb : Below n₀ W W') (ha : 0 < len → ad.block < n₀) : Elems W' ad len E := by
  have hc : ∀ j, j < len → ∀ p : Addr, p.block = ad.block → ∀ v, W.cell? p = some v → W'.cell? p = some v := fun j hj p hp v hv => (hb.cell (p := p) (by rw [hp]; exact ha (by omega))).trans hv
  exact ⟨fun j hj => hc j hj _ (add_block' _ _) _ (h.c0 j hj), fun j hj => hc j hj ⟨(ad.add (j * 5)).block, _, none⟩ (add_block' _ _) _ (h.c1 j hj), fun j hj => hc j hj ⟨(ad.add (j * 5)).block, _, none⟩ (add_block' _ _) _ (h.c2 j hj), fun j hj => hc j hj ⟨(ad.add (j * 5)).block, _, none⟩ (add_block' _ _) _ (h.c3 j hj), fun j hj => hc j hj ⟨(ad.add (j * 5)).block, _, none⟩ (add_block' _ _) _ (h.c4 j hj)⟩
/-- What a round keeps: what lay below n₀, and the slice's box. -/
def KpB (n₀ Bs : Nat) (W W' : World) : Prop := Below n₀ W W' ∧ W'.heap[Bs]? = W.heap[Bs]?
theorem KpB.refl (n₀ Bs : Nat) (W : World) : KpB n₀ Bs W W := ⟨Below.refl _ _, rfl⟩
theorem KpB.trans {n₀ Bs : Nat} {A B C : World} (h : KpB n₀ Bs A B) (k : KpB n₀ Bs B C) : KpB n₀ Bs A C := ⟨h.1.trans k.1, k.2.trans h.2⟩
theorem KpB.putObj {n₀ Bs : Nat} {w : World} (hn : n₀ ≤ w.heap.size) (hB : Bs < w.heap.size) (W : World) (l : Nat) (o o' : Obj) (hl : w.heap.size ≤ l) (h : W.heap[l]? = some o) (h1 : o.isCells = false) (h2 : o.isWalk = false) : KpB n₀ Bs W (W.putObj l o') :=
  ⟨belowK_b hn W l o o' hl h h1 h2, (grownBy_putObj' W l o').block Bs (by have := (Array.getElem?_eq_some_iff.1 h).1; omega) (fun e => by cases e; omega)⟩
theorem KpB.cell {n₀ Bs j : Nat} {W W' : World} {v : Value} (h : KpB n₀ Bs W W') (hc : W.cell? ⟨Bs, j, none⟩ = some v) : W'.cell? ⟨Bs, j, none⟩ = some v := (World.cell?_of_block (a := ⟨Bs, j, none⟩) h.2).trans hc
/-- What has come when the round is at index i (from the last one on, i of them are still to come). -/
def downTo (len i : Nat) : List Nat := ((List.range len).drop i).reverse
theorem downTo_step {len i : Nat} (h : i < len) : downTo len i = downTo len (i + 1) ++ [i] := by
  unfold downTo
  rw [List.drop_eq_getElem_cons (show i < (List.range len).length by rw [List.length_range]; exact h), List.reverse_cons, List.getElem_range]
theorem downTo_len (len i : Nat) : (downTo len i).length = len - i := by unfold downTo; rw [List.length_reverse, List.length_drop, List.length_range]
set_option maxRecDepth 100000 in
set_option maxHeartbeats 2000000 in
theorem backward1_in (F : Fence) (n : Nat) (h66 : F.fn 66) (hro : F.round = none) (hn : 1 ≤ n) (l Bs n₀ len cap : Nat) (A : Option Addr) (ad : Addr) (hA : 0 < len → A = some ad) (E : Nat → Int × Int × (Option Addr × Nat × Nat) × Int × Int) (hlen : len ≤ 1000000000000) (hb : 0 < len → ad.block < n₀) (J Jx : List Nat → World → Prop)
    (hY : ∀ (pre : List Nat) (x : Nat) (W : World), J pre W → pre.length < len → YieldAt F (n - 1) Try.prog l #[.int .i64 (x : Int), elemV (E x)] W fun e W' =>
      (e = .returned (.bool true) ∧ J (pre ++ [x]) W' ∧ KpB n₀ Bs W W') ∨ (e = .returned (.bool false) ∧ Jx (pre ++ [x]) W'))
    (W : World) (hBs : W.cell? ⟨Bs, 0, none⟩ = some (.slice A len cap)) (hE : Elems W ad len E) (h0 : J [] W) :
    CallsIn F n Try.prog 66 #[.func (.yield l) #[] #[], .pointer (some ⟨Bs, 0, none⟩)] W fun e W' => (∃ v, e = .returned v) ∧
      ((∃ ys, ys = downTo len 0 ∧ J ys W') ∨ (∃ pre, True ∧ Jx pre W')) := by
  have hu42 := Try.underlying42
  refine callsIn_of_wp Try.func66 rfl h66 ?_ hro
  simp only [Try.ntmps66, List.size_toArray, List.length_cons, List.length_nil, Nat.reduceAdd, Nat.reduceSub, Array.replicate_succ, Array.replicate_zero, List.push_toArray, List.append_toArray, List.nil_append, List.cons_append]
  have HE := Aside0.mk hE
  have hs : wrap64 ((len : Int) - 1) = (len : Int) - 1 := by unfold wrap64; omega
  clear hE
  gi_wp2
  gi_loopw [3] (fun i wr => ∃ (k : Nat) (q : Int), k ≤ len ∧ i = .int .i64 q ∧ Aside0 (q = (k : Int) - 1) ∧ Aside0 (J (downTo len k) wr) ∧ Aside0 (KpB n₀ Bs W wr))
    (fun i _ => (intOf i + 1).toNat)
  case atStart => exact ⟨len, _, Nat.le_refl _, rfl, ⟨rfl⟩, ⟨by rw [show downTo len len = [] by unfold downTo; rw [List.drop_eq_nil_of_le (by rw [List.length_range]; exact Nat.le_refl _)]; rfl]; exact h0⟩, ⟨KpB.refl _ _ _⟩⟩
  case round =>
    obtain ⟨k, q, hk, rfl, hq, hJs, hnx⟩ := hrel
    rcases k with _ | k
    · obtain rfl : q = -1 := by have := hq.out; omega
      clear hq
      gi_wp2
      go_end0
      exact ⟨⟨_, rfl⟩, .inl ⟨_, rfl, hJs.out⟩⟩
    · obtain rfl : q = (k : Int) := by have := hq.out; omega
      clear hq
      obtain ⟨fn, tmps, assign, body, hy, hR⟩ := hY _ k wr hJs.out (by rw [downTo_len]; omega)
      unfold elemV at hy
      have hB2 : wr.cell? ⟨Bs, 0, none⟩ = some (.slice A len cap) := hnx.out.cell hBs
      have hE2 := HE.out.below hnx.out.1 hb
      have hkl : k < len := by omega
      obtain rfl := hA (by omega)
      have x0 := hE2.c0 k hkl
      have x1 := hE2.c1 k hkl
      have x2 := hE2.c2 k hkl
      have x3 := hE2.c3 k hkl
      have x4 := hE2.c4 k hkl
      have hk0 : (0 : Int) ≤ (k : Int) := by omega
      have hk1 : (k : Int) < (len : Int) := by omega
      have HR := Aside0.mk hR
      have HKL := Aside0.mk hkl
      have HK := Aside0.mk hk
      clear hE2 hR hk hY hBs
      gi_wp2
      refine HR.out.mono ?_
      rintro e W3 (⟨rfl, hJ3, hk3⟩ | ⟨rfl, hJx3⟩)
      · have HJ3 := Aside0.mk hJ3
        have HK3 := Aside0.mk hk3
        clear hJ3 hk3
        gi_wp2
        go_roundw
        case rel => exact ⟨k, _, by have := HK.out; omega, rfl, ⟨by first | rfl | (unfold wrap64; have := HKL.out; omega)⟩, ⟨by rw [downTo_step HKL.out]; exact HJ3.out⟩, ⟨hnx.out.trans HK3.out⟩⟩
        case measure => have := HKL.out; simp only [intOf]; first | omega | (unfold wrap64; omega)
      · gi_wp2
        refine bodyPost_ret (results_none rfl _ _ _) rfl ?_
        exact ⟨⟨_, rfl⟩, .inr ⟨_, trivial, hJx3⟩⟩
/-- How a map's element reads here: as itself. -/
def asIs (v : Value) : Option (DataW Value × List MemPlace) := some (.held v, [])
def recV (x : Int × Int × (Option Addr × Nat × Nat) × Int × Int) : Value := .agg #[.int .i64 x.1, .int .i64 x.2.1, sl x.2.2.1]
/-- What the map holds when some indices have come: the last one of a number wins. -/
def last? (E : Nat → Int × Int × (Option Addr × Nat × Nat) × Int × Int) (pre : List Nat) (s : Int) : Option Nat := pre.reverse.find? fun j => (E j).2.1 == s
structure MapInv (w W : World) (E : Nat → Int × Int × (Option Addr × Nat × Nat) × Int × Int) (b : Nat) (pre : List Nat) : Prop where
  own : ∃ D : DataW Value, W.ownsMap Try.prog 3 asIs b pre.length D ∧ ∀ s, (Lit.int .i64 s).wf = true → Maps.has D (.int .i64 s) = (last? E pre s).isSome ∧ ∀ zd, D.atKey (.int .i64 s) zd = match last? E pre s with | some j => .held (recV (E j)) | none => zd
  box : W.heap[b + 1]? = some (.cells #[.map (some b)] 82 (0, 0))
  bel : Below w.heap.size w W
  sz : w.heap.size + 1 + 1 + 1 ≤ W.heap.size
theorem MapInv.step {w W W' : World} {E : Nat → Int × Int × (Option Addr × Nat × Nat) × Int × Int} {b : Nat} {pre : List Nat} {row : Option Nat} (h : MapInv w W E b pre) (hg : W.grownBy W' row) (hr : ∀ r, row = some r → b + 1 < r ∧ w.heap.size ≤ r) : MapInv w W' E b pre := by
  obtain ⟨⟨D, hD, hs⟩, hb, hB, hz⟩ := h
  exact ⟨⟨D, hD.kept hg (fun e => by have := (hr _ e.symm).1; omega), hs⟩, blk_grown hb hg (fun e => by have := (hr _ e.symm).1; omega), hB.grown hg hB.size (fun k e => (hr k e).2), Nat.le_trans hz hg.size⟩
theorem last?_put (E : Nat → Int × Int × (Option Addr × Nat × Nat) × Int × Int) (pre : List Nat) (x : Nat) (s : Int) : last? E (pre ++ [x]) s = if (E x).2.1 = s then some x else last? E pre s := by
  unfold last?
  rw [List.reverse_append, List.reverse_singleton, List.singleton_append, List.find?_cons]
  by_cases h : (E x).2.1 = s
  · rw [if_pos h, show ((E x).2.1 == s) = true from beq_iff_eq.2 h]
  · rw [if_neg h, show ((E x).2.1 == s) = false from beq_eq_false_iff_ne.2 h]
theorem MapInv.put {w W W' : World} {E : Nat → Int × Int × (Option Addr × Nat × Nat) × Int × Int} {b : Nat} {pre : List Nat} {x : Nat} {D : DataW Value} (h : MapInv w W E b pre) (hx : (Lit.int .i64 (E x).2.1).wf = true) (hb : w.heap.size ≤ b) (_hbs : b < W.heap.size)
    (h0 : W.ownsMap Try.prog 3 asIs b pre.length D)
    (hD : ∀ s, (Lit.int .i64 s).wf = true → Maps.has D (.int .i64 s) = (last? E pre s).isSome ∧ ∀ zd, D.atKey (.int .i64 s) zd = match last? E pre s with | some j => .held (recV (E j)) | none => zd)
    (ho : W'.ownsMap Try.prog 3 asIs b (pre.length + 1) (D.put (.int .i64 (E x).2.1) (.held (recV (E x))))) (hg : W.grownBy W' (some b)) : MapInv w W' E b (pre ++ [x]) := by
  refine ⟨⟨_, by rw [List.length_append]; exact ho, fun s hs => ?_⟩, blk_grown h.box hg (fun e => by cases e), h.bel.grown hg h.bel.size (fun k e => by cases e; exact hb), Nat.le_trans h.sz hg.size⟩
  rw [last?_put]
  have hm := h0.isMap
  have hk : WideAt.IsKeyLit (.int .i64 (E x).2.1) := (Maps.int_keyed Try.underlying3).key (Maps.keyOf_int_mk Try.underlying3 hx)
  by_cases h1 : (E x).2.1 = s
  · rw [if_pos h1, ← h1]
    exact ⟨Maps.has_put_same hm hk _, fun zd => Maps.atKey_put_same hm hk _ _⟩
  · rw [if_neg h1]
    have h2 : (Lit.int .i64 s) ≠ (Lit.int .i64 (E x).2.1) := fun e => h1 (Lit.int.inj e).2.symm
    exact ⟨(Maps.has_put_other h2 _).trans (hD s hs).1, fun zd => (Maps.atKey_put_other h2 _ _).trans ((hD s hs).2 zd)⟩
/-- The first index of a number. -/
def first? (E : Nat → Int × Int × (Option Addr × Nat × Nat) × Int × Int) (len : Nat) (s : Int) : Option Nat := (List.range len).find? fun j => (E j).2.1 == s
theorem last_down (E : Nat → Int × Int × (Option Addr × Nat × Nat) × Int × Int) (len : Nat) (s : Int) : last? E (downTo len 0) s = first? E len s := by
  unfold last? downTo first?
  rw [List.reverse_reverse, List.drop_zero]
/-- What the map gives for a number. -/
def got3 (E : Nat → Int × Int × (Option Addr × Nat × Nat) × Int × Int) : Option Nat → Int × Int × (Option Addr × Nat × Nat)
  | some j => ((E j).1, (E j).2.1, (E j).2.2.1)
  | none => (0, 0, (none, 0, 0))
def gotV (E : Nat → Int × Int × (Option Addr × Nat × Nat) × Int × Int) (q : Option Nat) : Value := .agg #[.int .i64 (got3 E q).1, .int .i64 (got3 E q).2.1, sl (got3 E q).2.2]
theorem MapInv.look {w W : World} {E : Nat → Int × Int × (Option Addr × Nat × Nat) × Int × Int} {b len : Nat} (h : MapInv w W E b (downTo len 0)) {s : Int} (hs : (Lit.int .i64 s).wf = true) :
    (Instr.lookup 82 (.map (some b)) (.int .i64 s) true).run Try.prog W = .ok (.tuple #[gotV E (first? E len s), .bool (first? E len s).isSome]) W := by
  obtain ⟨⟨D, hD, hs'⟩, -, -, -⟩ := h
  obtain ⟨v, ps, hr, hv⟩ := hD.look_ok (t := 82) (e := 36) (Maps.int_keyed Try.underlying3) (by have := Try.underlying82; exact this) (z := .agg #[.int .i64 0, .int .i64 0, .slice none 0 0]) (by kernel_rfl) (zd := .held (.agg #[.int .i64 0, .int .i64 0, .slice none 0 0])) (zp := []) rfl (Maps.keyOf_int_mk Try.underlying3 hs)
  rw [hr, (hs' s hs).1]
  have h2 := (hs' s hs).2
  rw [last_down] at h2 ⊢
  have h3 : v = gotV E (first? E len s) := by
    have hv' : (DataW.held v : DataW Value) = D.atKey (.int .i64 s) (.held (.agg #[.int .i64 0, .int .i64 0, .slice none 0 0])) := congrArg (fun o : Option (DataW Value × List MemPlace) => match o with | some p => p.1 | none => .held v) hv
    rw [h2] at hv'
    cases hl : first? E len s with
    | some j => rw [hl] at hv'; injection hv'
    | none => rw [hl] at hv'; injection hv'
  rw [h3]
/-- The indices that follow one another. -/
def runJ (E : Nat → Int × Int × (Option Addr × Nat × Nat) × Int × Int) (len : Nat) : Nat → Int → List Nat
  | 0, _ => []
  | f + 1, s => match first? E len s with
    | none => []
    | some j => j :: runJ E len f (s + 1)
def meas (E : Nat → Int × Int × (Option Addr × Nat × Nat) × Int × Int) (len : Nat) (s : Int) : Nat := (List.range len).countP fun j => decide (s ≤ (E j).2.1)
theorem count_le (f : Nat → Int) (s : Int) : ∀ l : List Nat, l.countP (fun j => decide (s + 1 ≤ f j)) ≤ l.countP (fun j => decide (s ≤ f j))
  | [] => Nat.le_refl _
  | x :: l => by
    have := count_le f s l
    rw [List.countP_cons, List.countP_cons]
    by_cases h : s + 1 ≤ f x
    · have h2 : s ≤ f x := by omega
      simp only [h, h2, decide_true, if_true]; omega
    · by_cases h2 : s ≤ f x
      · simp only [h, h2, decide_true, decide_false, if_true]; simp; omega
      · simp only [h, h2, decide_false]; simp; omega
theorem count_lt (f : Nat → Int) (s : Int) : ∀ (l : List Nat) (j : Nat), j ∈ l → f j = s → l.countP (fun j => decide (s + 1 ≤ f j)) < l.countP (fun j => decide (s ≤ f j))
  | [], _, h, _ => by cases h
  | x :: l, j, h, e => by
    rw [List.countP_cons, List.countP_cons]
    rcases List.mem_cons.1 h with rfl | h
    · have := count_le f s l
      have h1 : ¬ s + 1 ≤ f j := by omega
      have h2 : s ≤ f j := by omega
      simp only [h1, h2, decide_true, decide_false, if_true]; simp; omega
    · have := count_lt f s l j h e
      by_cases h1 : s + 1 ≤ f x
      · have h2 : s ≤ f x := by omega
        simp only [h1, h2, decide_true, if_true]; omega
      · by_cases h2 : s ≤ f x
        · simp only [h1, h2, decide_true, decide_false, if_true]; simp; omega
        · simp only [h1, h2, decide_false]; simp; omega
theorem first_some {E : Nat → Int × Int × (Option Addr × Nat × Nat) × Int × Int} {len j : Nat} {s : Int} (h : first? E len s = some j) : j < len ∧ (E j).2.1 = s ∧ meas E len (s + 1) < meas E len s := by
  have h1 := List.mem_of_find?_eq_some h
  have h2 := beq_iff_eq.1 (List.find?_some (p := fun j => (E j).2.1 == s) h)
  exact ⟨List.mem_range.1 h1, h2, count_lt (fun j => (E j).2.1) s _ j h1 h2⟩
theorem meas_le (E : Nat → Int × Int × (Option Addr × Nat × Nat) × Int × Int) (len : Nat) (s : Int) : meas E len s ≤ len := by
  have := List.countP_le_length (p := fun j => decide (s ≤ (E j).2.1)) (l := List.range len)
  rwa [List.length_range] at this
theorem fk_later {α : Type} {d : Kd α} {w W : World} {x : α} {c : List Value} (h : Kd.FK d w (fun k => k < w.heap.size) x c) (hb : Below w.heap.size w W) : Kd.FK d W (fun k => k < w.heap.size) x c :=
  fun W' hW => h W' (fun k hk _ => (hW k hk (Nat.lt_of_lt_of_le hk hb.size)).trans (hb.block k hk))
structure RunInv (w W0 wr : World) (E : Nat → Int × Int × (Option Addr × Nat × Nat) × Int × Int) (len : Nat) (x : Nat → S36) (from_ : Int) (D : Nat) (js : List Nat) (s : Int) (v : Value) (Bk : Nat) : Prop where
  hN : Kd.N k36 36 wr (w.heap.size + 1 + 1 + 1) (fun k => k ≠ Bk ∧ k ≠ D) v (js.map x)
  hW : Below (w.heap.size + 1 + 1 + 1) W0 wr
  hM : MapInv w wr E w.heap.size (downTo len 0)
  hD : wr.heap[D]? = some (.deferred (some []))
  hB : wr.heap[Bk]? = some (.cells #[.int .i64 (got3 E (first? E len s)).1, .int .i64 (got3 E (first? E len s)).2.1, sl (got3 E (first? E len s)).2.2] 36 (0, 0))
  hBk : w.heap.size + 1 + 1 + 1 ≤ Bk
  hrun : runJ E len len from_ = js ++ runJ E len (len - js.length) s
  hmeas : js.length + meas E len s ≤ len
  hs : s = from_ + js.length
theorem RunInv.wrapS {w W0 wr : World} {E : Nat → Int × Int × (Option Addr × Nat × Nat) × Int × Int} {len : Nat} {x : Nat → S36} {from_ : Int} {D : Nat} {js : List Nat} {s : Int} {v : Value} {Bk : Nat} (h : RunInv w W0 wr E len x from_ D js s v Bk)
    (h0 : -9223372036854775808 ≤ from_) (h1 : from_ + len ≤ 9223372036854775807) (hm : meas E len (s + 1) < meas E len s) : wrap64 (s + 1) = s + 1 := by
  have := h.hmeas
  have := h.hs
  unfold wrap64
  omega
theorem RunInv.wfS {w W0 wr : World} {E : Nat → Int × Int × (Option Addr × Nat × Nat) × Int × Int} {len : Nat} {x : Nat → S36} {from_ : Int} {D : Nat} {js : List Nat} {s : Int} {v : Value} {Bk : Nat} (h : RunInv w W0 wr E len x from_ D js s v Bk)
    (h0 : -9223372036854775808 ≤ from_) (h1 : from_ + len ≤ 9223372036854775807) (hm : meas E len (s + 1) < meas E len s) : (Lit.int .i64 (s + 1)).wf = true := by
  have := h.hmeas
  have := h.hs
  exact WalkArith.wf_i64 ⟨by omega, by omega⟩
theorem RunInv.grown {w W0 wr : World} {E : Nat → Int × Int × (Option Addr × Nat × Nat) × Int × Int} {len : Nat} {x : Nat → S36} {from_ : Int} {D : Nat} {js : List Nat} {s : Int} {v : Value} {Bk : Nat} {w1 : World} {o : Obj} (h : RunInv w W0 wr E len x from_ D js s v Bk)
    (hg : wr.grownBy w1 v.ownBlock) (hB : wr.heap[Bk]? = some o) : w1.heap[Bk]? = some o ∧ MapInv w w1 E w.heap.size (downTo len 0) ∧ w1.heap[D]? = some (.deferred (some [])) := by
  refine ⟨(hg.block _ (Array.getElem?_eq_some_iff.1 hB).1 (fun e => (h.hN.1 _ e.symm).1 rfl)).trans hB, h.hM.step hg (fun r e => by have := Kd.N_base h.hN r e; omega), (hg.block _ (Array.getElem?_eq_some_iff.1 h.hD).1 (fun e => ?_)).trans h.hD⟩
  obtain ⟨c, hc⟩ := Kd.N_typed h.hN _ e.symm
  rw [h.hD] at hc
  cases hc
set_option maxRecDepth 100000 in
set_option maxHeartbeats 4000000 in
theorem log_Run.walk0_ (A : Option Addr) (ad : Addr) (len cap : Nat) (hA : 0 < len → A = some ad) (E : Nat → Int × Int × (Option Addr × Nat × Nat) × Int × Int) (from_ : Int) (w : World) (hlen : len ≤ 1000000000) (hb : 0 < len → ad.block < w.heap.size) (hE : Elems w ad len E) (hwf : ∀ j, (Lit.int .i64 (E j).2.1).wf = true) (hf0 : -9223372036854775808 ≤ from_) (hf1 : from_ + len ≤ 9223372036854775807) (x : Nat → S36) (hF : ∀ j, j < len → Kd.FK k36 w (fun k => k < w.heap.size) (x j) [.int .i64 (E j).1, .int .i64 (E j).2.1, sl (E j).2.2.1]) :
    CallsIn Fence.wide 9 Try.prog 17 #[.slice A len cap, .int .i64 from_] w (fun e w' => ∃ v, e = .returned v ∧ Kd.N k36 36 w' w.heap.size (fun _ => True) v ((runJ E len len from_).map x) ∧ Below w.heap.size w w') := by
  have hu42 := Try.underlying42
  have hu36 := Try.underlying36
  have h1 : 1 ≤ 9 := by omega
  have hmm := @run_makeMap Try.prog
  refine callsIn_of_wp_marks Try.func17 rfl trivial ?_ rfl
  simp only [Try.ntmps17, List.size_toArray, List.length_cons, List.length_nil, Nat.reduceAdd, Nat.reduceSub, Array.replicate_succ, Array.replicate_zero, List.push_toArray, List.append_toArray, List.nil_append, List.cons_append]
  have HE := Aside0.mk hE
  have HWF := Aside0.mk hwf
  have HBL := Aside0.mk hb
  have HF := Aside0.mk hF
  have HF0 := Aside0.mk hf0
  have HF1 := Aside0.mk hf1
  clear hE hwf hb hF hf0 hf1
  gi_wp2
  refine ⟨trivial, ?_⟩
  refine (backward_calls Fence.wide 8 trivial rfl _ _ _ _).mono ?_
  rintro e w' ⟨rfl, rfl⟩
  gi_wp2
  have hm0 : MapInv w (((w.alloc (.map #[] 0)).alloc (.cells #[.map (some w.heap.size)] 82)).alloc (.cells #[.slice A len cap] 40)) E w.heap.size [] := ⟨⟨.map [], ((World.ownsMap_made w Try.prog 3 asIs).alloc _).alloc _, fun s hs => ⟨rfl, fun zd => rfl⟩⟩, blk_alloc (by have h := blk_new (w.alloc (.map #[] 0)) (.cells #[.map (some w.heap.size)] 82); rwa [show (w.alloc (.map #[] 0)).heap.size = w.heap.size + 1 by simp] at h) _, (below_alloc (below_alloc (below_alloc (Below.refl _ _) _) _) _), by simp⟩
  have hbx : (((w.alloc (.map #[] 0)).alloc (.cells #[.map (some w.heap.size)] 82)).alloc (.cells #[.slice A len cap] 40)).heap[w.heap.size + 1 + 1]? = some (.cells #[.slice A len cap] 40) := by
    have h := blk_new ((w.alloc (.map #[] 0)).alloc (.cells #[.map (some w.heap.size)] 82)) (.cells #[.slice A len cap] 40)
    rwa [show ((w.alloc (.map #[] 0)).alloc (.cells #[.map (some w.heap.size)] 82)).heap.size = w.heap.size + 1 + 1 by simp] at h
  have hsz : (((w.alloc (.map #[] 0)).alloc (.cells #[.map (some w.heap.size)] 82)).alloc (.cells #[.slice A len cap] 40)).heap.size = w.heap.size + 1 + 1 + 1 := by simp
  generalize (((w.alloc (.map #[] 0)).alloc (.cells #[.map (some w.heap.size)] 82)).alloc (.cells #[.slice A len cap] 40)) = W0 at hm0 hbx hsz ⊢
  have HM0 := Aside0.mk hm0
  have HBX := Aside0.mk hbx
  have HSZ := Aside0.mk hsz
  clear hm0 hbx hsz
  refine wpIn_rangeFunc_ownH (α := Nat) rfl h1 (gf := 66) (lb := #[.pointer (some ⟨w.heap.size + 1 + 1, 0, none⟩)]) rfl trivial (enters_of Try.func66 (by kernel_rfl) rfl)
    (encs := fun x => #[.int .i64 (x : Int), elemV (E x)]) (Kp := KpB w.heap.size (w.heap.size + 1 + 1)) (S := fun ys => ys = downTo len 0) (Sp := fun _ => True) (N := len) (w0 := W0)
    (fun l J Jx W hW _ _ hY h0 => backward1_in Fence.wide 8 trivial rfl (by omega) l (w.heap.size + 1 + 1) w.heap.size len cap A ad hA E (by omega) HBL.out J Jx hY W ((hW.cell (p := ⟨w.heap.size + 1 + 1, 0, none⟩) (by have := HSZ.out; simp only; omega)).trans ((blk_cell HBX.out 0).trans rfl)) (HE.out.below (HM0.out.bel.trans (hW.mono HM0.out.bel.size)) HBL.out) h0)
    KpB.trans (KpB.putObj (by have := HSZ.out; omega) (by have := HSZ.out; omega)) (Below.refl _ _) (fun _ => rfl)
    (fun pre W => MapInv w W E w.heap.size pre) (fun _ _ _ => False)
    (fun s A B row hs hg hr => hs.step hg (fun r e => by have := (hr r e).1; have := HSZ.out; omega))
    (fun _ _ _ _ _ hs _ _ => hs) HM0.out
    (fun x a' W => ∃ Bx, w.heap.size + 1 + 1 + 1 ≤ Bx ∧ W.heap[Bx]? = some (.cells #[.int .i64 (E x).1, .int .i64 (E x).2.1, sl (E x).2.2.1, .int .i64 (E x).2.2.2.1, .int .i64 (E x).2.2.2.2] 42 (0, 0)) ∧ a' = { tmps := #[.slice A len cap, .int .i64 from_, undef, undef, .slice none 0 0, .pointer (some ⟨w.heap.size + 1, 0, none⟩), undef, .pointer (some ⟨Bx, 0, none⟩), undef, undef, .map (some w.heap.size), .slice A len cap, .func (.func 66) #[] #[.pointer (some ⟨w.heap.size + 1 + 1, 0, none⟩)], .int .i64 (x : Int), elemV (E x), undef, undef, undef, undef, undef, undef, undef, undef, undef, undef, undef, undef, undef, undef, undef, undef, undef, undef, undef, undef, undef, undef, undef, undef, undef, undef, undef], defers := [] })
    (fun x a' s A B row hs hg hr => by
      obtain ⟨Bx, h1, h2, h3⟩ := hs
      refine ⟨Bx, h1, blk_grown h2 hg (fun e => ?_), h3⟩
      obtain ⟨_, o, ho, hc⟩ := hr _ e.symm
      rw [h2] at ho
      cases ho
      cases hc) ?assign ?body ?done ?stop
  case assign =>
    intro l pre x W K hi hK
    have HI := Aside0.mk hi
    have HK := Aside0.mk hK
    clear hi hK
    unfold elemV at HK ⊢
    obtain ⟨q, hq⟩ : ∃ q, q = E x := ⟨_, rfl⟩
    rw [← hq] at HK ⊢
    have HQ := Aside0.mk hq
    clear hq
    obtain ⟨e0, e1, ⟨Ae, ne, ce⟩, e3, e4⟩ := q
    dsimp only [sl] at HK ⊢
    gi_wp2
    exact HK.out _ _ ((KeepsOthers.alloc _ _).from _) ⟨(Below.refl _ W).alloc HI.out.bel.size _, Below.heap_alloc _ _ _ (by have := HI.out.sz; omega)⟩ (HI.out.step (World.grownBy_alloc _ _ none) (fun r e => by cases e)) ⟨W.heap.size, HI.out.sz, blk_new _ _, rfl⟩
  case body =>
    rintro l pre x a' W hl ⟨r, hr⟩ hi ⟨Bx, hBx, hX, rfl⟩ hlt
    have HI := Aside0.mk hi
    have HBX2 := Aside0.mk (And.intro hBx hX)
    have HL := Aside0.mk hl
    have HR := Aside0.mk hr
    have hw := HWF.out x
    have hEx : ∃ q, q = E x := ⟨_, rfl⟩
    obtain ⟨q, hq⟩ := hEx
    rw [← hq] at hX hw
    unfold elemV
    rw [← hq]
    have HQ := Aside0.mk hq
    clear hq hi hr hl
    obtain ⟨e0, e1, ⟨Ae, ne, ce⟩, e3, e4⟩ := q
    dsimp only [sl] at hX hw ⊢
    have x0 : W.cell? ⟨Bx, 0, none⟩ = some (.int .i64 e0) := (blk_cell hX 0).trans rfl
    have x1 : W.cell? ⟨Bx, 1, none⟩ = some (.int .i64 e1) := (blk_cell hX 1).trans rfl
    have x2 : W.cell? ⟨Bx, 2, none⟩ = some (.slice Ae ne ce) := (blk_cell hX 2).trans rfl
    have bm : W.cell? ⟨w.heap.size + 1, 0, none⟩ = some (.map (some w.heap.size)) := (blk_cell HI.out.box 0).trans rfl
    have HW := Aside0.mk hw
    clear hX hBx hw
    obtain ⟨D, hown, hD⟩ := HI.out.own
    have HOWN := Aside0.mk hown
    have HDS := Aside0.mk hD
    have HLT := Aside0.mk hlt
    clear hown hD hlt
    gi_wp2_with (gi_at_mapUpdate; refine wpListIn_mapUpdate_own _ rfl (.tmp 15) (.tmp 18) (.tmp 20) 82 rfl 3 36 (Maps.int_keyed Try.underlying3) Try.underlying82 asIs w.heap.size pre.length D (by rfl) HOWN.out (by have := HLT.out; unfold maxLen; omega) (.int .i64 e1) (.agg #[.int .i64 e0, .int .i64 e1, .slice Ae ne ce]) (.int .i64 e1) (by rfl) (by rfl) (Maps.keyOf_int_mk Try.underlying3 HW.out) (.held (.agg #[.int .i64 e0, .int .i64 e1, .slice Ae ne ce])) [] rfl ?_; intro w1 hown1 hgrow1)
    have hb0 : w.heap.size < W.heap.size := by have := HI.out.sz; omega
    refine ⟨KeepsFrom.of_grownBy hgrow1 (fun j e => by cases e; have := HSZ.out; omega), ⟨(Below.refl _ W).grown hgrow1 HI.out.bel.size (fun k e => by cases e; exact Nat.le_refl _), hgrow1.block _ (by have := HI.out.sz; omega) (fun e => by have := Option.some.inj e; omega)⟩, ?_⟩
    refine HI.out.put (D := D) (HWF.out x) (Nat.le_refl _) hb0 HOWN.out HDS.out ?_ hgrow1
    rw [← HQ.out]
    exact hown1
  case done =>
    rintro D ys W hD rfl HI hK
    have hl := HI.look (WalkArith.wf_i64 (n := from_) ⟨HF0.out, by have := HF1.out; omega⟩)
    unfold gotV at hl
    have bm : W.cell? ⟨w.heap.size + 1, 0, none⟩ = some (.map (some w.heap.size)) := (blk_cell HI.box 0).trans rfl
    have HI := Aside0.mk HI
    have HK := Aside0.mk hK
    have HD := Aside0.mk hD
    clear hK hD
    obtain ⟨okk, hok⟩ : ∃ okk, okk = (first? E len from_).isSome := ⟨_, rfl⟩
    rw [← hok] at hl
    have HOK := Aside0.mk hok
    obtain ⟨g, hg⟩ : ∃ g, g = got3 E (first? E len from_) := ⟨_, rfl⟩
    rw [← hg] at hl
    have HG := Aside0.mk hg
    obtain ⟨g0, g1, ⟨Ag, ng, cg⟩⟩ := g
    dsimp only [sl] at hl
    clear hok hg
    gi_wp2
    gi_loopw [1, 4, 8, 9] (fun v1 v4 v8 v9 wr => ∃ (js : List Nat) (s : Int) (Bk : Nat), v1 = .int .i64 s ∧ v8 = .pointer (some ⟨Bk, 0, none⟩) ∧ v9 = .bool (first? E len s).isSome ∧ Aside0 (RunInv w W wr E len x from_ D js s v4 Bk)) (fun v1 _ _ _ _ => meas E len (intOf v1))
    case atStart =>
      refine ⟨[], from_, W.heap.size, rfl, rfl, by rw [HOK.out], ⟨?_⟩⟩
      refine ⟨Kd.N_nil _ _ _ _ _, (Below.refl _ W).alloc HI.out.sz _, HI.out.step (World.grownBy_alloc _ _ none) (fun r e => by cases e), blk_alloc HK.out _, ?_, HI.out.sz, rfl, by rw [List.length_nil, Nat.zero_add]; exact meas_le E len from_, by simp⟩
      rw [← HG.out]
      exact blk_new _ _
    case round =>
      obtain ⟨js, s, Bk, rfl, rfl, rfl, HR⟩ := hrel
      rw [wpIn_wide]
      cases hf : first? E len s with
      | none =>
        dsimp only [Option.isSome]
        have HFN := Aside0.mk hf
        clear hf
        go_wp2_with fail
        gi_wp2
        refine ⟨by simp, .inl ⟨_, _, rfl, run_takeDeferred HR.out.hD, ?_⟩⟩
        refine ⟨_, results_tmp rfl _ _ _, _, rfl, ?_, ?_⟩
        · have hr := HR.out.hrun
          have hj : runJ E len (len - js.length) s = [] := by
            cases len - js.length with
            | zero => rfl
            | succ f => unfold runJ; rw [HFN.out]
          rw [hj, List.append_nil] at hr
          rw [hr]
          exact Kd.N_lower (Kd.N_mono (Kd.N_grown HR.out.hN (grownBy_putObj' wr D _) (fun k hk e => hk.2 (Option.some.inj e))) (fun _ _ => trivial)) (by omega)
        · exact HR.out.hM.bel.trans (belowK_b (w := w) (Nat.le_refl _) wr D _ _ (by have := HD.out; have := HSZ.out; omega) HR.out.hD rfl rfl)
      | some j =>
        dsimp only [Option.isSome]
        obtain ⟨jl, js1, jm⟩ := first_some hf
        have hbk := HR.out.hB
        rw [hf] at hbk
        dsimp only [got3] at hbk
        have hfk := HF.out j jl
        obtain ⟨q, hq⟩ : ∃ q, q = E j := ⟨_, rfl⟩
        rw [← hq] at hbk hfk
        clear hq
        obtain ⟨e0, e1, ⟨Ae, ne, ce⟩, e3, e4⟩ := q
        dsimp only [sl] at hbk hfk
        have x0 : wr.cell? ⟨Bk, 0, none⟩ = some (.int .i64 e0) := (blk_cell hbk 0).trans rfl
        have x1 : wr.cell? ⟨Bk, 1, none⟩ = some (.int .i64 e1) := (blk_cell hbk 1).trans rfl
        have x2 : wr.cell? ⟨Bk, 2, none⟩ = some (.slice Ae ne ce) := (blk_cell hbk 2).trans rfl
        have HJ := Aside0.mk (And.intro jl (And.intro js1 jm))
        have HFJ := Aside0.mk hf
        have HFK := Aside0.mk hfk
        have HBKc := Aside0.mk hbk
        have HWL : Aside0 (Below (w.heap.size + 1 + 1 + 1) W wr) := ⟨HR.out.hW⟩
        have HWB : Aside0 (Below w.heap.size w wr) := ⟨HR.out.hM.bel⟩
        clear jl js1 jm hf hfk hbk
        go_wp2_with (first | ((with_reducible refine gate_builtin (b := .append) (xs := #[.tmp 34, .tmp 36]) rfl ?_); at_builtin; refine Kd.N_append k36 (w0 := W) (w.heap.size + 1 + 1 + 1) rfl (.tmp 34) (.tmp 36) 44 36 (.agg #[(.int .i64 0), (.int .i64 0), (.slice none 0 0)]) 40 rfl Try.underlying44 info36 rfl (by decide) (by omega) u4 (js.map x) (x j) [.int .i64 e0, .int .i64 e1, .slice Ae ne ce] (fun k_ => k_ ≠ Bk ∧ k_ ≠ D) (fun k_ => k_ < w.heap.size) rfl rfl ?aP ?aK ?aF ?aO ?aB ?aS ?aL ?_; (case aP => exact fk_later HFK.out HWB.out); (case aK => exact fun k hk => ⟨⟨by have := HR.out.hBk; omega, by have := HD.out; have := HSZ.out; omega⟩, fun e => by have := Kd.N_base HR.out.hN k e.symm; omega⟩); (case aF => exact fun k hk => ⟨by have := (Array.getElem?_eq_some_iff.1 HBKc.out).1; omega, by have := (Array.getElem?_eq_some_iff.1 HR.out.hD).1; omega⟩); (case aO => exact HR.out.hN); (case aB => exact HWL.out); (case aS => exact HR.out.hM.sz); (case aL => have := HR.out.hmeas; have := HJ.out.2.2; rw [List.length_map]; omega); intro v1 w1 hn1 hb1 hg1 ho1; have HN1 := Aside0.mk hn1; have HB1 := Aside0.mk hb1; have HG1 := Aside0.mk hg1; have HO1 := Aside0.mk ho1; obtain ⟨hb2, hM2, hD2⟩ := HR.out.grown HG1.out HBKc.out; have y0 := (blk_cell hb2 0).trans rfl; have y1 := (blk_cell hb2 1).trans rfl; have y2 := (blk_cell hb2 2).trans rfl; have ym : w1.cell? ⟨w.heap.size + 1, 0, none⟩ = some (.map (some w.heap.size)) := (blk_cell hM2.box 0).trans rfl; have HM3 : Aside0 (MapInv w (w1.alloc (.cells #[.int .i64 e0, .int .i64 e1, .slice Ae ne ce] 36)) E w.heap.size (downTo len 0)) := ⟨hM2.step (World.grownBy_alloc _ _ none) (fun r e => by cases e)⟩; have ym3 : (w1.alloc (.cells #[.int .i64 e0, .int .i64 e1, .slice Ae ne ce] 36)).cell? ⟨w.heap.size + 1, 0, none⟩ = some (.map (some w.heap.size)) := (blk_cell HM3.out.box 0).trans rfl; clear ym; have hl1 := HM3.out.look (s := wrap64 (s + 1)) (by rw [(HR.out.wrapS HF0.out HF1.out HJ.out.2.2)]; exact (HR.out.wfS HF0.out HF1.out HJ.out.2.2)); unfold gotV at hl1; obtain ⟨ok1, hok1⟩ : ∃ ok1, ok1 = (first? E len (wrap64 (s + 1))).isSome := ⟨_, rfl⟩; rw [← hok1] at hl1; have HOK1 := Aside0.mk hok1; obtain ⟨g', hg'⟩ : ∃ g', g' = got3 E (first? E len (wrap64 (s + 1))) := ⟨_, rfl⟩; rw [← hg'] at hl1; have HG' := Aside0.mk hg'; obtain ⟨h0, h1', ⟨Ah, nh, ch⟩⟩ := g'; dsimp only [sl] at hl1; have HD2 := Aside0.mk hD2; have HB2 := Aside0.mk hb2; have HM2 := Aside0.mk hM2; clear hok1 hg' hD2 hM2 hb2 hn1 hb1 hg1 ho1))
        have hws := HR.out.wrapS HF0.out HF1.out HJ.out.2.2
        have hme := HR.out.hmeas
        have hjm := HJ.out.2.2
        have hrs := HR.out.hs
        refine ⟨⟨js ++ [j], wrap64 (s + 1), w1.heap.size, rfl, rfl, by rw [HOK1.out]; rfl, ⟨?_⟩⟩, ?_⟩
        · refine ⟨?_, HB1.out.alloc (Nat.le_trans HR.out.hM.sz HG1.out.size) _, HM2.out.step (World.grownBy_alloc _ _ none) (fun r e => by cases e), blk_alloc HD2.out _, ?_, Nat.le_trans HR.out.hM.sz HG1.out.size, ?_, ?_, ?_⟩
          · rw [List.map_append]
            exact Kd.N_mono (Kd.N_alloc (Kd.N_bound HN1.out) _) (fun k hk => ⟨by omega, hk.1.2⟩)
          · rw [← HG'.out]
            exact blk_new _ _
          · rw [HR.out.hrun, List.append_assoc]
            obtain ⟨f, hf⟩ : ∃ f, len - js.length = f + 1 := ⟨len - js.length - 1, by omega⟩
            rw [hf, show len - (js ++ [j]).length = f by rw [List.length_append, List.length_singleton]; omega]
            conv => lhs; unfold runJ
            rw [HFJ.out, hws]
            rfl
          · rw [hws, List.length_append, List.length_singleton]; omega
          · rw [hws, List.length_append, List.length_singleton, hrs]; omega
        · simp only [intOf]
          rw [hws]
          exact hjm
  case stop =>
    rintro D c pre W _ _ h _
    exact h.elim
end
theorem elems_of_C {w : World} {A : Option Addr} {l : List S42} (h : Kd.C k42 w A l.length l) : ∃ (ad : Addr) (E : Nat → Int × Int × (Option Addr × Nat × Nat) × Int × Int), (0 < l.length → A = some ad) ∧ (0 < l.length → ad.block < w.heap.size) ∧ Elems w ad l.length E ∧ (∀ j, (E j).2.1 = (l.getD j z42).f0.f1) ∧
    ∀ j, j < l.length → Kd.FK k36 w (fun k => k < w.heap.size) (l.getD j z42).f0 [.int .i64 (E j).1, .int .i64 (E j).2.1, sl (E j).2.2.1] := by
  have hF := Kd.C_F k42_heap h
  by_cases h0 : l.length = 0
  · exact ⟨⟨0, 0, none⟩, fun j => (0, (l.getD j z42).f0.f1, (none, 0, 0), 0, 0), fun k => by omega, fun k => by omega, ⟨fun j hj => by omega, fun j hj => by omega, fun j hj => by omega, fun j hj => by omega, fun j hj => by omega⟩, fun j => rfl, fun j hj => by omega⟩
  · obtain ⟨ad, c0, rfl, _, _, _, hin⟩ := Kd.F_get hF z42 0 (Int.le_refl 0) (by omega)
    have hall : ∀ j, ∃ q : Option Addr × Nat × Nat, j < l.length → (w.cell? (ad.add (j * 5)) = some (.int .i64 (l.getD j z42).f0.f0) ∧ w.cell? ⟨(ad.add (j * 5)).block, (ad.add (j * 5)).off + 1, none⟩ = some (.int .i64 (l.getD j z42).f0.f1) ∧ w.cell? ⟨(ad.add (j * 5)).block, (ad.add (j * 5)).off + 2, none⟩ = some (sl q) ∧ w.cell? ⟨(ad.add (j * 5)).block, (ad.add (j * 5)).off + 3, none⟩ = some (.int .i64 (l.getD j z42).f1) ∧ w.cell? ⟨(ad.add (j * 5)).block, (ad.add (j * 5)).off + 4, none⟩ = some (.int .i64 (l.getD j z42).f2)) ∧
        Kd.FK k36 w (fun k => k < w.heap.size) (l.getD j z42).f0 [.int .i64 (l.getD j z42).f0.f0, .int .i64 (l.getD j z42).f0.f1, sl q] := by
      intro j
      by_cases hj : j < l.length
      · obtain ⟨ad', c, he, _, hK, hc0, _⟩ := Kd.F_get hF z42 (j : Int) (by omega) (by omega)
        injection he with he
        subst he
        rw [Int.toNat_natCast] at hK
        have hc : ∀ i u, c[i]? = some u → w.cell? (ad.add (j * 5 + i)) = some u := hc0
        obtain ⟨A2, c2, rfl, l2, g2⟩ := k42_openF hK
        exact ⟨(A2, (l.getD j z42).f0.f2.length, c2), fun _ => ⟨⟨hc 0 _ rfl, by rw [← add_field _ _ 1 (by omega)]; exact hc 1 _ rfl, by rw [← add_field _ _ 2 (by omega)]; exact hc 2 _ rfl, by rw [← add_field _ _ 3 (by omega)]; exact hc 3 _ rfl, by rw [← add_field _ _ 4 (by omega)]; exact hc 4 _ rfl⟩, k36_mkF _ _ _ l2 g2⟩⟩
      · exact ⟨(none, 0, 0), fun hl => absurd hl hj⟩
    obtain ⟨f, hf⟩ := Classical.skolem.1 hall
    exact ⟨ad, fun j => ((l.getD j z42).f0.f0, (l.getD j z42).f0.f1, f j, (l.getD j z42).f1, (l.getD j z42).f2), fun _ => rfl, fun _ => hin (by decide), ⟨fun j hj => (hf j hj).1.1, fun j hj => (hf j hj).1.2.1, fun j hj => (hf j hj).1.2.2.1, fun j hj => (hf j hj).1.2.2.2.1, fun j hj => (hf j hj).1.2.2.2.2⟩, fun j => rfl, fun j hj => (hf j hj).2⟩
/-- The records that follow one another, out of those that are told. -/
def runL (l : List S42) : Nat → Int → List S36
  | 0, _ => []
  | f + 1, s => match l.find? (fun y => y.f0.f1 == s) with
    | none => []
    | some y => y.f0 :: runL l f (s + 1)
theorem range_getD (l : List S42) : l = (List.range l.length).map fun j => l.getD j z42 := by
  apply List.ext_getElem
  · simp
  · intro i h1 h2
    simp only [List.getElem_map, List.getElem_range, List.getD_eq_getElem?_getD, List.getElem?_eq_getElem h1, Option.getD_some]
theorem first_find (l : List S42) (E : Nat → Int × Int × (Option Addr × Nat × Nat) × Int × Int) (hE : ∀ j, (E j).2.1 = (l.getD j z42).f0.f1) (s : Int) : (first? E l.length s).map (fun j => l.getD j z42) = l.find? (fun y => y.f0.f1 == s) := by
  conv => rhs; rw [range_getD l]
  rw [List.find?_map]
  unfold first?
  congr 2
  funext j
  simp only [Function.comp, hE j]
theorem runJ_runL (l : List S42) (E : Nat → Int × Int × (Option Addr × Nat × Nat) × Int × Int) (hE : ∀ j, (E j).2.1 = (l.getD j z42).f0.f1) : ∀ (f : Nat) (s : Int), (runJ E l.length f s).map (fun j => (l.getD j z42).f0) = runL l f s
  | 0, _ => rfl
  | f + 1, s => by
    have h := first_find l E hE s
    unfold runJ runL
    cases hf : first? E l.length s with
    | none => rw [hf] at h; rw [← h]; rfl
    | some j => rw [hf] at h; rw [← h, List.map_cons, runJ_runL l E hE f (s + 1)]; rfl
def seqsOk (l : List S42) : Bool := l.all fun y => decide (-9223372036854775808 ≤ y.f0.f1 ∧ y.f0.f1 ≤ 9223372036854775807)
def log_Run.f (l : List S42) (from_ : Int) : Option (List S36) :=
  if l.length ≤ 1000000000 ∧ seqsOk l = true ∧ -9223372036854775808 ≤ from_ ∧ from_ + (l.length : Int) ≤ 9223372036854775807 then some (runL l l.length from_) else none
theorem log_Run.calls (A0 : Option Addr) (c0 : Nat) (l0 : List S42) (a1 : Int) (r : List S36) (w : World) (hr0 : Kd.C k42 w A0 l0.length l0) (_hc0 : l0.length ≤ c0) (h : log_Run.f l0 a1 = some r) :
    Calls Try.prog 17 #[.slice A0 l0.length c0, .int .i64 a1] w fun e w' => ∃ v0_ : Value, e = .returned v0_ ∧ Kd.N k36 36 w' w.heap.size (fun _ => True) v0_ r ∧ Below w.heap.size w w' := by
  unfold log_Run.f at h
  split at h
  · rename_i hc
    obtain ⟨h1, h2, h3, h4⟩ := hc
    obtain rfl := Option.some.inj h
    obtain ⟨ad, E, hA, hb, hE, hs, hF⟩ := elems_of_C hr0
    have hwf : ∀ j, (Lit.int .i64 (E j).2.1).wf = true := by
      intro j
      rw [hs j]
      by_cases hj : j < l0.length
      · have h5 := List.all_eq_true.1 h2 (l0.getD j z42) (by rw [List.getD_eq_getElem?_getD, List.getElem?_eq_getElem hj]; exact List.getElem_mem hj)
        exact WalkArith.wf_i64 (of_decide_eq_true h5)
      · rw [List.getD_eq_getElem?_getD, List.getElem?_eq_none (by omega)]
        rfl
    refine (callsIn_wide (n := 9)).1 ((log_Run.walk0_ A0 ad l0.length c0 hA E a1 w h1 hb hE hwf h3 h4 (fun j => (l0.getD j z42).f0) hF).mono ?_)
    rintro e w' ⟨v, rfl, hn, hb'⟩
    exact ⟨v, rfl, by rw [← runJ_runL l0 E hs]; exact hn, hb'⟩
  · cases h
end Go.Proofs.Ytdgefplbfffenaa.X
namespace Go.Proofs.Ytdgefplbfffenaa.X
open Go.RowKit Go.Proofs.YtdgefplbfffenaaW.PrintWords Go.Proofs.YtdgefplbfffenaaW.PrintLast Go.Proofs.YtdgefplbfffenaaW.PrintMore
attribute [local go_sem] max2_int min2_int max_two min_two max_three min_three max_four min_four   -- for this text's walks alone
set_option linter.unusedVariables false
set_option linter.unusedSimpArgs false
def record_Size.f (a0 : Int) : Option (Int) := if a0 < 0 then (some 0) else (if a0 > 4096 then (some 0) else (some (wrap64 ((wrap64 (16 + a0)) + 4))))
set_option maxHeartbeats 8000000 in
set_option maxRecDepth 100000 in
theorem record_Size.calls (a0 : Int) (r : Int) (w : World) (h : record_Size.f a0 = some r) :
  Calls Try.prog 40 #[.int .i64 a0] w fun e w' => e = .returned (.int .i64 r) ∧ Drawn0 w w' := by
 have H : (if a0 < 0 then (some 0) else (if a0 > 4096 then (some 0) else (some (wrap64 ((wrap64 (16 + a0)) + 4))))) = some r := h
 clear h
 by_cases c2 : a0 < 0
 ·rw [if_pos c2] at H
  have c2b0 : decide (a0 < 0) = true := decide_eq_true c2
  clear c2
  obtain rfl := Option.some.inj H
  go_enter Try.func40, Try.ntmps40
  go_wp2
  go_ret
  exact ⟨by first | rfl | (simp; done) | (simp [*]; done), by repeat (first | exact Drawn0.refl _ | apply Drawn0.step)⟩
 ·rw [if_neg c2] at H
  have c2b0 : decide (a0 < 0) = false := decide_eq_false c2
  clear c2
  by_cases c3 : a0 > 4096
  ·rw [if_pos c3] at H
   have c3b0 : decide (4096 < a0) = true := decide_eq_true c3
   clear c3
   obtain rfl := Option.some.inj H
   go_enter Try.func40, Try.ntmps40
   go_wp2
   go_ret
   exact ⟨by first | rfl | (simp; done) | (simp [*]; done), by repeat (first | exact Drawn0.refl _ | apply Drawn0.step)⟩
  ·rw [if_neg c3] at H
   have c3b0 : decide (4096 < a0) = false := decide_eq_false c3
   clear c3
   obtain rfl := Option.some.inj H
   go_enter Try.func40, Try.ntmps40
   go_wp2
   go_ret
   exact ⟨by first | rfl | (simp; done) | (simp [*]; done), by repeat (first | exact Drawn0.refl _ | apply Drawn0.step)⟩
-- GIVEN: function 34 (space_Need)
def dev_New.f (a0 : Int) (a1 : Int) : Option (Int × (List (S52)) × Int × Bool × Int × Int) := if a0 < 1 then (some (0, ([] : List (S52)), 0, false, 0, 1)) else (if a0 > 64 then (some (0, ([] : List (S52)), 0, false, 0, 1)) else (if a1 < 1 then (some (0, ([] : List (S52)), 0, false, 0, 1)) else (if a1 > 1048576 then (some (0, ([] : List (S52)), 0, false, 0, 1)) else (if 0 ≤ a0 then (if (a0 : Int).toNat ≤ 5864062014805 then (some (a1, (List.replicate (a0 : Int).toNat z52), (-1), false, 0, 0)) else (none)) else (none)))))
set_option maxHeartbeats 8000000 in
set_option maxRecDepth 100000 in
theorem dev_New.calls (a0 : Int) (a1 : Int) (r1 : Int) (r2 : List (S52)) (r3 : Int) (r4 : Bool) (r5 : Int) (r6 : Int) (w : World) (h : dev_New.f a0 a1 = some (r1, r2, r3, r4, r5, r6)) :
  Calls Try.prog 11 #[.int .i64 a0, .int .i64 a1] w fun e w' => ∃ v1_ : Value, e = .returned (.tuple #[.agg #[.int .i64 r1, v1_, .int .i64 r3, .bool r4, .int .i64 r5], .int .i64 r6]) ∧ Kd.S k52 52 w' w.heap.size (fun _ => True) v1_ r2 ∧ Below w.heap.size w w' := by
 have hu27 := Try.underlying27
 have HB := Aside0.mk (Below.refl w.heap.size w)
 have H : (if a0 < 1 then (some (0, ([] : List (S52)), 0, false, 0, 1)) else (if a0 > 64 then (some (0, ([] : List (S52)), 0, false, 0, 1)) else (if a1 < 1 then (some (0, ([] : List (S52)), 0, false, 0, 1)) else (if a1 > 1048576 then (some (0, ([] : List (S52)), 0, false, 0, 1)) else (if 0 ≤ a0 then (if (a0 : Int).toNat ≤ 5864062014805 then (some (a1, (List.replicate (a0 : Int).toNat z52), (-1), false, 0, 0)) else (none)) else (none)))))) = some (r1, r2, r3, r4, r5, r6) := h
 clear h
 by_cases c3 : a0 < 1
 ·rw [if_pos c3] at H
  have c3b0 : decide (a0 < 1) = true := decide_eq_true c3
  clear c3
  simp only [Option.some.injEq, Prod.mk.injEq] at H
  obtain ⟨rfl, rfl, rfl, rfl, rfl, rfl⟩ := H
  go_enter Try.func11, Try.ntmps11
  go_wp2_with (first | ((with_reducible refine gate_dst (N := 4) rfl ?_); refine box_event ?hg (N := 4) ?hd (cs := #[.int .i64 0, .slice none 0 0, .int .i64 0, .bool false, .int .i64 0]) (t := 27) ?hr ?_; (case hd => rfl); (case hg => rfl); (case hr => first | (go_simp; done) | (go_simp; rfl)); intro gb131 hg w4 hbox hb; have n0_ := Aside0.mk (below_step (by repeat (first | (with_reducible first | exact HB.out | apply below_alloc | apply pw_below_drewN | apply below_drew1) | exact HB.out)) hb); have n1_ := Aside0.mk (hbox); have n2_ := Aside0.mk ((by rw [hg]; exact (below_size (by repeat (first | (with_reducible first | exact HB.out | apply below_alloc | apply pw_below_drewN | apply below_drew1) | exact HB.out))) : w.heap.size ≤ gb131)); have n3_ := Aside0.mk ((by rw [hg]; exact (below_size (by repeat (first | (with_reducible first | exact HB.out | apply below_alloc | apply pw_below_drewN | apply below_drew1) | exact HB.out))) : w.heap.size ≤ gb131)); clear HB; have HB := n0_; have BK131 := n1_; have GW131 := n2_; have GE131 := n3_; clear n0_ n1_ n2_ n3_; clear hb hbox hg; have hcz5_0 : w4.cell? ⟨gb131, 0, none⟩ = some (.int .i64 0) := (blk_cell BK131.out 0).trans rfl; have hcz5_1 : w4.cell? ⟨gb131, 1, none⟩ = some (.slice none 0 0) := (blk_cell BK131.out 1).trans rfl; have hcz5_2 : w4.cell? ⟨gb131, 2, none⟩ = some (.int .i64 0) := (blk_cell BK131.out 2).trans rfl; have hcz5_3 : w4.cell? ⟨gb131, 3, none⟩ = some (.bool false) := (blk_cell BK131.out 3).trans rfl; have hcz5_4 : w4.cell? ⟨gb131, 4, none⟩ = some (.int .i64 0) := (blk_cell BK131.out 4).trans rfl; have hfz5_0 := blk_frozen BK131.out 0; have hfz5_1 := blk_frozen BK131.out 1; have hfz5_2 := blk_frozen BK131.out 2; have hfz5_3 := blk_frozen BK131.out 3; have hfz5_4 := blk_frozen BK131.out 4))
  refine bodyPost_ret (results_ct rfl _ _ gb131 27 #[.int .i64 0, .slice none 0 0, .int .i64 0, .bool false, .int .i64 0] (0, 0) _ rfl (by (with_reducible repeat (first | refine blk_drewN ?_ _ | refine blk_drew ?_ | refine blk_alloc ?_ _)); refine blk_put (cs := #[.int .i64 0, .slice none 0 0, .int .i64 0, .bool false, .int .i64 0]) ?_ 4 _ rfl; (with_reducible repeat (first | refine blk_drewN ?_ _ | refine blk_drew ?_ | refine blk_alloc ?_ _)); refine blk_put (cs := #[.int .i64 0, .slice none 0 0, .int .i64 0, .bool false, .int .i64 0]) ?_ 3 _ rfl; (with_reducible repeat (first | refine blk_drewN ?_ _ | refine blk_drew ?_ | refine blk_alloc ?_ _)); refine blk_put (cs := #[.int .i64 0, .slice none 0 0, .int .i64 0, .bool false, .int .i64 0]) ?_ 2 _ rfl; (with_reducible repeat (first | refine blk_drewN ?_ _ | refine blk_drew ?_ | refine blk_alloc ?_ _)); refine blk_put (cs := #[.int .i64 0, .slice none 0 0, .int .i64 0, .bool false, .int .i64 0]) ?_ 1 _ rfl; (with_reducible repeat (first | refine blk_drewN ?_ _ | refine blk_drew ?_ | refine blk_alloc ?_ _)); refine blk_put (cs := #[.int .i64 0, .slice none 0 0, .int .i64 0, .bool false, .int .i64 0]) ?_ 0 _ rfl; (with_reducible repeat (first | refine blk_drewN ?_ _ | refine blk_drew ?_ | refine blk_alloc ?_ _)); exact BK131.out) Try.underlying27 rfl (by kernel_rfl)) rfl ?_
  exact ⟨_, by first | rfl | (simp [errW_none, errW_some] <;> rfl) | (simp [*, errW_none, errW_some] <;> rfl), by first | exact Kd.S_nil _ _ _ _ _ | exact Kd.N_nil _ _ _ _ _ | exact Kd.V_nil _ _ _ _ _ | exact Kd.Q_nil _ _ _ _ _ | exact Kd.R_nil _ _ _ _ _, by repeat (first | (with_reducible first | exact HB.out | apply below_alloc | apply pw_below_drewN | apply below_drew1 | refine below_set ?_ GE131.out) | exact HB.out)⟩
 ·rw [if_neg c3] at H
  have c3b0 : decide (a0 < 1) = false := decide_eq_false c3
  clear c3
  by_cases c6 : a0 > 64
  ·rw [if_pos c6] at H
   have c6b0 : decide (64 < a0) = true := decide_eq_true c6
   clear c6
   simp only [Option.some.injEq, Prod.mk.injEq] at H
   obtain ⟨rfl, rfl, rfl, rfl, rfl, rfl⟩ := H
   go_enter Try.func11, Try.ntmps11
   go_wp2_with (first | ((with_reducible refine gate_dst (N := 4) rfl ?_); refine box_event ?hg (N := 4) ?hd (cs := #[.int .i64 0, .slice none 0 0, .int .i64 0, .bool false, .int .i64 0]) (t := 27) ?hr ?_; (case hd => rfl); (case hg => rfl); (case hr => first | (go_simp; done) | (go_simp; rfl)); intro gb131 hg w7 hbox hb; have n0_ := Aside0.mk (below_step (by repeat (first | (with_reducible first | exact HB.out | apply below_alloc | apply pw_below_drewN | apply below_drew1) | exact HB.out)) hb); have n1_ := Aside0.mk (hbox); have n2_ := Aside0.mk ((by rw [hg]; exact (below_size (by repeat (first | (with_reducible first | exact HB.out | apply below_alloc | apply pw_below_drewN | apply below_drew1) | exact HB.out))) : w.heap.size ≤ gb131)); have n3_ := Aside0.mk ((by rw [hg]; exact (below_size (by repeat (first | (with_reducible first | exact HB.out | apply below_alloc | apply pw_below_drewN | apply below_drew1) | exact HB.out))) : w.heap.size ≤ gb131)); clear HB; have HB := n0_; have BK131 := n1_; have GW131 := n2_; have GE131 := n3_; clear n0_ n1_ n2_ n3_; clear hb hbox hg; have hcz8_0 : w7.cell? ⟨gb131, 0, none⟩ = some (.int .i64 0) := (blk_cell BK131.out 0).trans rfl; have hcz8_1 : w7.cell? ⟨gb131, 1, none⟩ = some (.slice none 0 0) := (blk_cell BK131.out 1).trans rfl; have hcz8_2 : w7.cell? ⟨gb131, 2, none⟩ = some (.int .i64 0) := (blk_cell BK131.out 2).trans rfl; have hcz8_3 : w7.cell? ⟨gb131, 3, none⟩ = some (.bool false) := (blk_cell BK131.out 3).trans rfl; have hcz8_4 : w7.cell? ⟨gb131, 4, none⟩ = some (.int .i64 0) := (blk_cell BK131.out 4).trans rfl; have hfz8_0 := blk_frozen BK131.out 0; have hfz8_1 := blk_frozen BK131.out 1; have hfz8_2 := blk_frozen BK131.out 2; have hfz8_3 := blk_frozen BK131.out 3; have hfz8_4 := blk_frozen BK131.out 4))
   refine bodyPost_ret (results_ct rfl _ _ gb131 27 #[.int .i64 0, .slice none 0 0, .int .i64 0, .bool false, .int .i64 0] (0, 0) _ rfl (by (with_reducible repeat (first | refine blk_drewN ?_ _ | refine blk_drew ?_ | refine blk_alloc ?_ _)); refine blk_put (cs := #[.int .i64 0, .slice none 0 0, .int .i64 0, .bool false, .int .i64 0]) ?_ 4 _ rfl; (with_reducible repeat (first | refine blk_drewN ?_ _ | refine blk_drew ?_ | refine blk_alloc ?_ _)); refine blk_put (cs := #[.int .i64 0, .slice none 0 0, .int .i64 0, .bool false, .int .i64 0]) ?_ 3 _ rfl; (with_reducible repeat (first | refine blk_drewN ?_ _ | refine blk_drew ?_ | refine blk_alloc ?_ _)); refine blk_put (cs := #[.int .i64 0, .slice none 0 0, .int .i64 0, .bool false, .int .i64 0]) ?_ 2 _ rfl; (with_reducible repeat (first | refine blk_drewN ?_ _ | refine blk_drew ?_ | refine blk_alloc ?_ _)); refine blk_put (cs := #[.int .i64 0, .slice none 0 0, .int .i64 0, .bool false, .int .i64 0]) ?_ 1 _ rfl; (with_reducible repeat (first | refine blk_drewN ?_ _ | refine blk_drew ?_ | refine blk_alloc ?_ _)); refine blk_put (cs := #[.int .i64 0, .slice none 0 0, .int .i64 0, .bool false, .int .i64 0]) ?_ 0 _ rfl; (with_reducible repeat (first | refine blk_drewN ?_ _ | refine blk_drew ?_ | refine blk_alloc ?_ _)); exact BK131.out) Try.underlying27 rfl (by kernel_rfl)) rfl ?_
   exact ⟨_, by first | rfl | (simp [errW_none, errW_some] <;> rfl) | (simp [*, errW_none, errW_some] <;> rfl), by first | exact Kd.S_nil _ _ _ _ _ | exact Kd.N_nil _ _ _ _ _ | exact Kd.V_nil _ _ _ _ _ | exact Kd.Q_nil _ _ _ _ _ | exact Kd.R_nil _ _ _ _ _, by repeat (first | (with_reducible first | exact HB.out | apply below_alloc | apply pw_below_drewN | apply below_drew1 | refine below_set ?_ GE131.out) | exact HB.out)⟩
  ·rw [if_neg c6] at H
   have c6b0 : decide (64 < a0) = false := decide_eq_false c6
   clear c6
   by_cases c9 : a1 < 1
   ·rw [if_pos c9] at H
    have c9b0 : decide (a1 < 1) = true := decide_eq_true c9
    clear c9
    simp only [Option.some.injEq, Prod.mk.injEq] at H
    obtain ⟨rfl, rfl, rfl, rfl, rfl, rfl⟩ := H
    go_enter Try.func11, Try.ntmps11
    go_wp2_with (first | ((with_reducible refine gate_dst (N := 4) rfl ?_); refine box_event ?hg (N := 4) ?hd (cs := #[.int .i64 0, .slice none 0 0, .int .i64 0, .bool false, .int .i64 0]) (t := 27) ?hr ?_; (case hd => rfl); (case hg => rfl); (case hr => first | (go_simp; done) | (go_simp; rfl)); intro gb131 hg w10 hbox hb; have n0_ := Aside0.mk (below_step (by repeat (first | (with_reducible first | exact HB.out | apply below_alloc | apply pw_below_drewN | apply below_drew1) | exact HB.out)) hb); have n1_ := Aside0.mk (hbox); have n2_ := Aside0.mk ((by rw [hg]; exact (below_size (by repeat (first | (with_reducible first | exact HB.out | apply below_alloc | apply pw_below_drewN | apply below_drew1) | exact HB.out))) : w.heap.size ≤ gb131)); have n3_ := Aside0.mk ((by rw [hg]; exact (below_size (by repeat (first | (with_reducible first | exact HB.out | apply below_alloc | apply pw_below_drewN | apply below_drew1) | exact HB.out))) : w.heap.size ≤ gb131)); clear HB; have HB := n0_; have BK131 := n1_; have GW131 := n2_; have GE131 := n3_; clear n0_ n1_ n2_ n3_; clear hb hbox hg; have hcz11_0 : w10.cell? ⟨gb131, 0, none⟩ = some (.int .i64 0) := (blk_cell BK131.out 0).trans rfl; have hcz11_1 : w10.cell? ⟨gb131, 1, none⟩ = some (.slice none 0 0) := (blk_cell BK131.out 1).trans rfl; have hcz11_2 : w10.cell? ⟨gb131, 2, none⟩ = some (.int .i64 0) := (blk_cell BK131.out 2).trans rfl; have hcz11_3 : w10.cell? ⟨gb131, 3, none⟩ = some (.bool false) := (blk_cell BK131.out 3).trans rfl; have hcz11_4 : w10.cell? ⟨gb131, 4, none⟩ = some (.int .i64 0) := (blk_cell BK131.out 4).trans rfl; have hfz11_0 := blk_frozen BK131.out 0; have hfz11_1 := blk_frozen BK131.out 1; have hfz11_2 := blk_frozen BK131.out 2; have hfz11_3 := blk_frozen BK131.out 3; have hfz11_4 := blk_frozen BK131.out 4))
    refine bodyPost_ret (results_ct rfl _ _ gb131 27 #[.int .i64 0, .slice none 0 0, .int .i64 0, .bool false, .int .i64 0] (0, 0) _ rfl (by (with_reducible repeat (first | refine blk_drewN ?_ _ | refine blk_drew ?_ | refine blk_alloc ?_ _)); refine blk_put (cs := #[.int .i64 0, .slice none 0 0, .int .i64 0, .bool false, .int .i64 0]) ?_ 4 _ rfl; (with_reducible repeat (first | refine blk_drewN ?_ _ | refine blk_drew ?_ | refine blk_alloc ?_ _)); refine blk_put (cs := #[.int .i64 0, .slice none 0 0, .int .i64 0, .bool false, .int .i64 0]) ?_ 3 _ rfl; (with_reducible repeat (first | refine blk_drewN ?_ _ | refine blk_drew ?_ | refine blk_alloc ?_ _)); refine blk_put (cs := #[.int .i64 0, .slice none 0 0, .int .i64 0, .bool false, .int .i64 0]) ?_ 2 _ rfl; (with_reducible repeat (first | refine blk_drewN ?_ _ | refine blk_drew ?_ | refine blk_alloc ?_ _)); refine blk_put (cs := #[.int .i64 0, .slice none 0 0, .int .i64 0, .bool false, .int .i64 0]) ?_ 1 _ rfl; (with_reducible repeat (first | refine blk_drewN ?_ _ | refine blk_drew ?_ | refine blk_alloc ?_ _)); refine blk_put (cs := #[.int .i64 0, .slice none 0 0, .int .i64 0, .bool false, .int .i64 0]) ?_ 0 _ rfl; (with_reducible repeat (first | refine blk_drewN ?_ _ | refine blk_drew ?_ | refine blk_alloc ?_ _)); exact BK131.out) Try.underlying27 rfl (by kernel_rfl)) rfl ?_
    exact ⟨_, by first | rfl | (simp [errW_none, errW_some] <;> rfl) | (simp [*, errW_none, errW_some] <;> rfl), by first | exact Kd.S_nil _ _ _ _ _ | exact Kd.N_nil _ _ _ _ _ | exact Kd.V_nil _ _ _ _ _ | exact Kd.Q_nil _ _ _ _ _ | exact Kd.R_nil _ _ _ _ _, by repeat (first | (with_reducible first | exact HB.out | apply below_alloc | apply pw_below_drewN | apply below_drew1 | refine below_set ?_ GE131.out) | exact HB.out)⟩
   ·rw [if_neg c9] at H
    have c9b0 : decide (a1 < 1) = false := decide_eq_false c9
    clear c9
    by_cases c12 : a1 > 1048576
    ·rw [if_pos c12] at H
     have c12b0 : decide (1048576 < a1) = true := decide_eq_true c12
     clear c12
     simp only [Option.some.injEq, Prod.mk.injEq] at H
     obtain ⟨rfl, rfl, rfl, rfl, rfl, rfl⟩ := H
     go_enter Try.func11, Try.ntmps11
     go_wp2_with (first | ((with_reducible refine gate_dst (N := 4) rfl ?_); refine box_event ?hg (N := 4) ?hd (cs := #[.int .i64 0, .slice none 0 0, .int .i64 0, .bool false, .int .i64 0]) (t := 27) ?hr ?_; (case hd => rfl); (case hg => rfl); (case hr => first | (go_simp; done) | (go_simp; rfl)); intro gb131 hg w13 hbox hb; have n0_ := Aside0.mk (below_step (by repeat (first | (with_reducible first | exact HB.out | apply below_alloc | apply pw_below_drewN | apply below_drew1) | exact HB.out)) hb); have n1_ := Aside0.mk (hbox); have n2_ := Aside0.mk ((by rw [hg]; exact (below_size (by repeat (first | (with_reducible first | exact HB.out | apply below_alloc | apply pw_below_drewN | apply below_drew1) | exact HB.out))) : w.heap.size ≤ gb131)); have n3_ := Aside0.mk ((by rw [hg]; exact (below_size (by repeat (first | (with_reducible first | exact HB.out | apply below_alloc | apply pw_below_drewN | apply below_drew1) | exact HB.out))) : w.heap.size ≤ gb131)); clear HB; have HB := n0_; have BK131 := n1_; have GW131 := n2_; have GE131 := n3_; clear n0_ n1_ n2_ n3_; clear hb hbox hg; have hcz14_0 : w13.cell? ⟨gb131, 0, none⟩ = some (.int .i64 0) := (blk_cell BK131.out 0).trans rfl; have hcz14_1 : w13.cell? ⟨gb131, 1, none⟩ = some (.slice none 0 0) := (blk_cell BK131.out 1).trans rfl; have hcz14_2 : w13.cell? ⟨gb131, 2, none⟩ = some (.int .i64 0) := (blk_cell BK131.out 2).trans rfl; have hcz14_3 : w13.cell? ⟨gb131, 3, none⟩ = some (.bool false) := (blk_cell BK131.out 3).trans rfl; have hcz14_4 : w13.cell? ⟨gb131, 4, none⟩ = some (.int .i64 0) := (blk_cell BK131.out 4).trans rfl; have hfz14_0 := blk_frozen BK131.out 0; have hfz14_1 := blk_frozen BK131.out 1; have hfz14_2 := blk_frozen BK131.out 2; have hfz14_3 := blk_frozen BK131.out 3; have hfz14_4 := blk_frozen BK131.out 4))
     refine bodyPost_ret (results_ct rfl _ _ gb131 27 #[.int .i64 0, .slice none 0 0, .int .i64 0, .bool false, .int .i64 0] (0, 0) _ rfl (by (with_reducible repeat (first | refine blk_drewN ?_ _ | refine blk_drew ?_ | refine blk_alloc ?_ _)); refine blk_put (cs := #[.int .i64 0, .slice none 0 0, .int .i64 0, .bool false, .int .i64 0]) ?_ 4 _ rfl; (with_reducible repeat (first | refine blk_drewN ?_ _ | refine blk_drew ?_ | refine blk_alloc ?_ _)); refine blk_put (cs := #[.int .i64 0, .slice none 0 0, .int .i64 0, .bool false, .int .i64 0]) ?_ 3 _ rfl; (with_reducible repeat (first | refine blk_drewN ?_ _ | refine blk_drew ?_ | refine blk_alloc ?_ _)); refine blk_put (cs := #[.int .i64 0, .slice none 0 0, .int .i64 0, .bool false, .int .i64 0]) ?_ 2 _ rfl; (with_reducible repeat (first | refine blk_drewN ?_ _ | refine blk_drew ?_ | refine blk_alloc ?_ _)); refine blk_put (cs := #[.int .i64 0, .slice none 0 0, .int .i64 0, .bool false, .int .i64 0]) ?_ 1 _ rfl; (with_reducible repeat (first | refine blk_drewN ?_ _ | refine blk_drew ?_ | refine blk_alloc ?_ _)); refine blk_put (cs := #[.int .i64 0, .slice none 0 0, .int .i64 0, .bool false, .int .i64 0]) ?_ 0 _ rfl; (with_reducible repeat (first | refine blk_drewN ?_ _ | refine blk_drew ?_ | refine blk_alloc ?_ _)); exact BK131.out) Try.underlying27 rfl (by kernel_rfl)) rfl ?_
     exact ⟨_, by first | rfl | (simp [errW_none, errW_some] <;> rfl) | (simp [*, errW_none, errW_some] <;> rfl), by first | exact Kd.S_nil _ _ _ _ _ | exact Kd.N_nil _ _ _ _ _ | exact Kd.V_nil _ _ _ _ _ | exact Kd.Q_nil _ _ _ _ _ | exact Kd.R_nil _ _ _ _ _, by repeat (first | (with_reducible first | exact HB.out | apply below_alloc | apply pw_below_drewN | apply below_drew1 | refine below_set ?_ GE131.out) | exact HB.out)⟩
    ·rw [if_neg c12] at H
     have c12b0 : decide (1048576 < a1) = false := decide_eq_false c12
     clear c12
     by_cases c15 : 0 ≤ a0
     ·rw [if_pos c15] at H
      have c15b0 := eq_true c15
      have c15b1 : decide (0 ≤ a0) = true := decide_eq_true c15
      clear c15
      by_cases c16 : (a0 : Int).toNat ≤ 5864062014805
      ·rw [if_pos c16] at H
       have c16b0 := eq_true c16
       have c16b1 : decide ((a0 : Int).toNat ≤ 5864062014805) = true := decide_eq_true c16
       clear c16
       obtain ⟨y132, hy132⟩ : ∃ y_ : List (S52), y_ = (List.replicate (a0 : Int).toNat z52) := ⟨_, rfl⟩
       replace H : (some (a1, y132, (-1), false, 0, 0)) = some (r1, r2, r3, r4, r5, r6) := by first | (rw [hy132]; with_reducible exact H) | (have H2_ := (Option.bind_some _ _).symm.trans H; rw [hy132]; with_reducible exact H2_) | (have H2_ := (Option.bind_some _ _).symm.trans H; with_reducible exact H2_) | with_reducible exact H | (rw [hy132]; exact H) | exact H
       have Ny132 := Aside0.mk hy132
       clear hy132
       simp only [Option.some.injEq, Prod.mk.injEq] at H
       obtain ⟨rfl, rfl, rfl, rfl, rfl, rfl⟩ := H
       go_enter Try.func11, Try.ntmps11
       go_wp2_with (first | ((with_reducible refine gate_dst (N := 4) rfl ?_); refine box_event ?hg (N := 4) ?hd (cs := #[.int .i64 0, .slice none 0 0, .int .i64 0, .bool false, .int .i64 0]) (t := 27) ?hr ?_; (case hd => rfl); (case hg => rfl); (case hr => first | (go_simp; done) | (go_simp; rfl)); intro gb131 hg w17 hbox hb; have n0_ := Aside0.mk (below_step (by repeat (first | (with_reducible first | exact HB.out | apply below_alloc | apply pw_below_drewN | apply below_drew1) | exact HB.out)) hb); have n1_ := Aside0.mk (hbox); have n2_ := Aside0.mk ((by rw [hg]; exact (below_size (by repeat (first | (with_reducible first | exact HB.out | apply below_alloc | apply pw_below_drewN | apply below_drew1) | exact HB.out))) : w.heap.size ≤ gb131)); have n3_ := Aside0.mk ((by rw [hg]; exact (below_size (by repeat (first | (with_reducible first | exact HB.out | apply below_alloc | apply pw_below_drewN | apply below_drew1) | exact HB.out))) : w.heap.size ≤ gb131)); clear HB; have HB := n0_; have BK131 := n1_; have GW131 := n2_; have GE131 := n3_; clear n0_ n1_ n2_ n3_; clear hb hbox hg) | ((with_reducible refine gate_dst (N := 23) rfl ?_); refine Kd.S_make k52 _ 52 rfl (N := 23) rfl 25 _ _ rfl a0 rfl rfl Try.underlying25 (.agg #[(.int .i64 0), (.int .i64 0), (.slice none 0 0), (.int .i64 0)]) 48 info52 rfl (by decide) (by omega) z52 (ok := fun _ => True) (okp := fun _ => True) (k52_mkM _ _ _ z52 (Kd.R_nil _ _ _ _ _)) (fun _ hk => hk) trivial (of_decide_eq_true (by first | (with_reducible assumption) | assumption)) (Nat.le_trans (Nat.mul_le_mul_right _ (of_decide_eq_true (by first | (with_reducible assumption) | assumption) : a0.toNat ≤ 5864062014805)) (by omega)) (Below.refl _ _) (Nat.le_refl _) ?_; intro v133 w18 ho19 hb hg_ hnew_; clear hg_ hnew_; (first | rw [← Ny132.out] at ho19 | (simp only [Int.reduceToNat] at ho19; rw [← Ny132.out] at ho19)); have n0_ := Aside0.mk (Kd.S_lower ho19 (below_size (by repeat (first | (with_reducible first | exact HB.out | apply below_alloc | apply pw_below_drewN | apply below_drew1 | refine below_set ?_ GE131.out) | exact HB.out)))); have n1_ := Aside0.mk (blk_below (g := gb131) (o := .cells #[.int .i64 0, .slice none 0 0, .int .i64 0, .bool false, .int .i64 0] 27 (0, 0)) (by (with_reducible repeat (first | refine blk_drewN ?_ _ | refine blk_drew ?_ | refine blk_alloc ?_ _)); exact BK131.out) hb); have n2_ := Aside0.mk (below_step (by repeat (first | (with_reducible first | exact HB.out | apply below_alloc | apply pw_below_drewN | apply below_drew1 | refine below_set ?_ GE131.out) | exact HB.out)) hb); clear BK131; clear HB; have HO134 := n0_; have BK131 := n1_; have HB := n2_; clear n0_ n1_ n2_; clear hb ho19; obtain ⟨Ao20, co20, eo20⟩ := Kd.S_slice HO134.out; subst eo20; have hcz21_0 : w18.cell? ⟨gb131, 0, none⟩ = some (.int .i64 0) := (blk_cell BK131.out 0).trans rfl; have hcz21_1 : w18.cell? ⟨gb131, 1, none⟩ = some (.slice none 0 0) := (blk_cell BK131.out 1).trans rfl; have hcz21_2 : w18.cell? ⟨gb131, 2, none⟩ = some (.int .i64 0) := (blk_cell BK131.out 2).trans rfl; have hcz21_3 : w18.cell? ⟨gb131, 3, none⟩ = some (.bool false) := (blk_cell BK131.out 3).trans rfl; have hcz21_4 : w18.cell? ⟨gb131, 4, none⟩ = some (.int .i64 0) := (blk_cell BK131.out 4).trans rfl; have hfz21_0 := blk_frozen BK131.out 0; have hfz21_1 := blk_frozen BK131.out 1; have hfz21_2 := blk_frozen BK131.out 2; have hfz21_3 := blk_frozen BK131.out 3; have hfz21_4 := blk_frozen BK131.out 4))
       refine bodyPost_ret (results_ct rfl _ _ gb131 27 #[.int .i64 a1, .slice Ao20 y132.length co20, .int .i64 (-1), .bool false, .int .i64 0] (0, 0) _ rfl (by (with_reducible repeat (first | refine blk_drewN ?_ _ | refine blk_drew ?_ | refine blk_alloc ?_ _)); refine blk_put (cs := #[.int .i64 a1, .slice Ao20 y132.length co20, .int .i64 (-1), .bool false, .int .i64 0]) ?_ 4 _ rfl; (with_reducible repeat (first | refine blk_drewN ?_ _ | refine blk_drew ?_ | refine blk_alloc ?_ _)); refine blk_put (cs := #[.int .i64 a1, .slice Ao20 y132.length co20, .int .i64 (-1), .bool false, .int .i64 0]) ?_ 3 _ rfl; (with_reducible repeat (first | refine blk_drewN ?_ _ | refine blk_drew ?_ | refine blk_alloc ?_ _)); refine blk_put (cs := #[.int .i64 a1, .slice Ao20 y132.length co20, .int .i64 0, .bool false, .int .i64 0]) ?_ 2 _ rfl; (with_reducible repeat (first | refine blk_drewN ?_ _ | refine blk_drew ?_ | refine blk_alloc ?_ _)); refine blk_put (cs := #[.int .i64 a1, .slice none 0 0, .int .i64 0, .bool false, .int .i64 0]) ?_ 1 _ rfl; (with_reducible repeat (first | refine blk_drewN ?_ _ | refine blk_drew ?_ | refine blk_alloc ?_ _)); refine blk_put (cs := #[.int .i64 0, .slice none 0 0, .int .i64 0, .bool false, .int .i64 0]) ?_ 0 _ rfl; (with_reducible repeat (first | refine blk_drewN ?_ _ | refine blk_drew ?_ | refine blk_alloc ?_ _)); exact BK131.out) Try.underlying27 rfl (by kernel_rfl)) rfl ?_
       exact ⟨_, by first | rfl | (simp [errW_none, errW_some] <;> rfl) | (simp [*, errW_none, errW_some] <;> rfl), by (with_reducible repeat (first | apply Kd.S_alloc | apply Kd.S_drewN | apply Kd.S_drew)); exact Kd.S_mono (Kd.S_far (p := ⟨gb131, 4, none⟩) (Kd.S_far (p := ⟨gb131, 3, none⟩) (Kd.S_far (p := ⟨gb131, 2, none⟩) (Kd.S_far (p := ⟨gb131, 1, none⟩) (Kd.S_far (p := ⟨gb131, 0, none⟩) (Kd.S_types HO134.out BK131.out (by decide)) (fun _ hk => hk.2) (.int .i64 a1)) (fun _ hk => hk.2) (.slice Ao20 y132.length co20)) (fun _ hk => hk.2) (.int .i64 (-1))) (fun _ hk => hk.2) (.bool false)) (fun _ hk => hk.2) (.int .i64 0)) (fun _ hk => trivial), by repeat (first | (with_reducible first | exact HB.out | apply below_alloc | apply pw_below_drewN | apply below_drew1 | refine below_set ?_ GE131.out) | exact HB.out)⟩
      ·rw [if_neg c16] at H
       exact absurd H (by simp)
     ·rw [if_neg c15] at H
      exact absurd H (by simp)
-- GIVEN: function 37 (dev_Limit)
-- GIVEN: function 24 (dev_Do)
def record_Check.f (a0_0 : Int) (a0_1 : Int) (l0_2 : List Int) : Option (Int) := if a0_0 < 1 then (some 50) else (if a0_0 > 5 then (some 50) else (if a0_1 < 0 then (some 50) else (if a0_1 > 4611686018427387903 then (some 50) else (if (l0_2.length : Int) > 4096 then (some 50) else (some 0)))))
set_option maxHeartbeats 8000000 in
set_option maxRecDepth 100000 in
theorem record_Check.calls (a0_0 : Int) (a0_1 : Int) (A0_2 : Option Addr) (c0_2 : Nat) (l0_2 : List Int) (r : Int) (w : World) (hr0_2 : Kd.C (Kd.int .u8) w A0_2 l0_2.length l0_2) (hc0_2 : l0_2.length ≤ c0_2) (h : record_Check.f a0_0 a0_1 l0_2 = some r) :
  Calls Try.prog 26 #[.agg #[.int .i64 a0_0, .int .i64 a0_1, .slice A0_2 l0_2.length c0_2]] w fun e w' => e = .returned (.int .i64 r) ∧ Below w.heap.size w w' := by
 have hu36 := Try.underlying36
 have HR0_2 := Aside0.mk hr0_2
 have HC0_2 := Aside0.mk hc0_2
 clear hr0_2 hc0_2
 have HB := Aside0.mk (Below.refl w.heap.size w)
 have H : (if a0_0 < 1 then (some 50) else (if a0_0 > 5 then (some 50) else (if a0_1 < 0 then (some 50) else (if a0_1 > 4611686018427387903 then (some 50) else (if (l0_2.length : Int) > 4096 then (some 50) else (some 0)))))) = some r := h
 clear h
 by_cases c2 : a0_0 < 1
 ·rw [if_pos c2] at H
  have c2b0 : decide (a0_0 < 1) = true := decide_eq_true c2
  clear c2
  obtain rfl := Option.some.inj H
  go_enter Try.func26, Try.ntmps26
  go_wp2_with (first | ((with_reducible refine gate_dst (N := 1) rfl ?_); (try (refine gate_guard (by rfl) ?_; dsimp only)); refine box_event ?hg (N := 1) ?hd (cs := #[.int .i64 a0_0, .int .i64 a0_1, .slice A0_2 l0_2.length c0_2]) (t := 36) ?hr ?_; (case hd => rfl); (case hg => rfl); (case hr => first | (go_simp; done) | (go_simp; rfl)); intro gb135 hg w3 hbox hb; have n0_ := Aside0.mk (below_step (by repeat (first | (with_reducible first | exact HB.out | apply below_alloc | apply pw_below_drewN | apply below_drew1) | exact HB.out)) hb); have n1_ := Aside0.mk (hbox); have n2_ := Aside0.mk ((by rw [hg]; exact (below_size (by repeat (first | (with_reducible first | exact HB.out | apply below_alloc | apply pw_below_drewN | apply below_drew1) | exact HB.out))) : w.heap.size ≤ gb135)); have n3_ := Aside0.mk ((by rw [hg]; exact (below_size (by repeat (first | (with_reducible first | exact HB.out | apply below_alloc | apply pw_below_drewN | apply below_drew1) | exact HB.out))) : w.heap.size ≤ gb135)); clear HB; have HB := n0_; have BK135 := n1_; have GW135 := n2_; have GE135 := n3_; clear n0_ n1_ n2_ n3_; clear hb hbox hg; have hcz4_0 : w3.cell? ⟨gb135, 0, none⟩ = some (.int .i64 a0_0) := (blk_cell BK135.out 0).trans rfl; have hcz4_1 : w3.cell? ⟨gb135, 1, none⟩ = some (.int .i64 a0_1) := (blk_cell BK135.out 1).trans rfl; have hcz4_2 : w3.cell? ⟨gb135, 2, none⟩ = some (.slice A0_2 l0_2.length c0_2) := (blk_cell BK135.out 2).trans rfl; have hfz4_0 := blk_frozen BK135.out 0; have hfz4_1 := blk_frozen BK135.out 1; have hfz4_2 := blk_frozen BK135.out 2))
  go_ret
  exact ⟨by first | rfl | (simp [errW_none, errW_some] <;> rfl) | (simp [*, errW_none, errW_some] <;> rfl), by repeat (first | (with_reducible first | exact HB.out | apply below_alloc | apply pw_below_drewN | apply below_drew1 | refine below_set ?_ GE135.out) | exact HB.out)⟩
 ·rw [if_neg c2] at H
  have c2b0 : decide (a0_0 < 1) = false := decide_eq_false c2
  clear c2
  by_cases c5 : a0_0 > 5
  ·rw [if_pos c5] at H
   have c5b0 : decide (5 < a0_0) = true := decide_eq_true c5
   clear c5
   obtain rfl := Option.some.inj H
   go_enter Try.func26, Try.ntmps26
   go_wp2_with (first | ((with_reducible refine gate_dst (N := 1) rfl ?_); (try (refine gate_guard (by rfl) ?_; dsimp only)); refine box_event ?hg (N := 1) ?hd (cs := #[.int .i64 a0_0, .int .i64 a0_1, .slice A0_2 l0_2.length c0_2]) (t := 36) ?hr ?_; (case hd => rfl); (case hg => rfl); (case hr => first | (go_simp; done) | (go_simp; rfl)); intro gb135 hg w6 hbox hb; have n0_ := Aside0.mk (below_step (by repeat (first | (with_reducible first | exact HB.out | apply below_alloc | apply pw_below_drewN | apply below_drew1) | exact HB.out)) hb); have n1_ := Aside0.mk (hbox); have n2_ := Aside0.mk ((by rw [hg]; exact (below_size (by repeat (first | (with_reducible first | exact HB.out | apply below_alloc | apply pw_below_drewN | apply below_drew1) | exact HB.out))) : w.heap.size ≤ gb135)); have n3_ := Aside0.mk ((by rw [hg]; exact (below_size (by repeat (first | (with_reducible first | exact HB.out | apply below_alloc | apply pw_below_drewN | apply below_drew1) | exact HB.out))) : w.heap.size ≤ gb135)); clear HB; have HB := n0_; have BK135 := n1_; have GW135 := n2_; have GE135 := n3_; clear n0_ n1_ n2_ n3_; clear hb hbox hg; have hcz7_0 : w6.cell? ⟨gb135, 0, none⟩ = some (.int .i64 a0_0) := (blk_cell BK135.out 0).trans rfl; have hcz7_1 : w6.cell? ⟨gb135, 1, none⟩ = some (.int .i64 a0_1) := (blk_cell BK135.out 1).trans rfl; have hcz7_2 : w6.cell? ⟨gb135, 2, none⟩ = some (.slice A0_2 l0_2.length c0_2) := (blk_cell BK135.out 2).trans rfl; have hfz7_0 := blk_frozen BK135.out 0; have hfz7_1 := blk_frozen BK135.out 1; have hfz7_2 := blk_frozen BK135.out 2))
   go_ret
   exact ⟨by first | rfl | (simp [errW_none, errW_some] <;> rfl) | (simp [*, errW_none, errW_some] <;> rfl), by repeat (first | (with_reducible first | exact HB.out | apply below_alloc | apply pw_below_drewN | apply below_drew1 | refine below_set ?_ GE135.out) | exact HB.out)⟩
  ·rw [if_neg c5] at H
   have c5b0 : decide (5 < a0_0) = false := decide_eq_false c5
   clear c5
   by_cases c8 : a0_1 < 0
   ·rw [if_pos c8] at H
    have c8b0 : decide (a0_1 < 0) = true := decide_eq_true c8
    clear c8
    obtain rfl := Option.some.inj H
    go_enter Try.func26, Try.ntmps26
    go_wp2_with (first | ((with_reducible refine gate_dst (N := 1) rfl ?_); (try (refine gate_guard (by rfl) ?_; dsimp only)); refine box_event ?hg (N := 1) ?hd (cs := #[.int .i64 a0_0, .int .i64 a0_1, .slice A0_2 l0_2.length c0_2]) (t := 36) ?hr ?_; (case hd => rfl); (case hg => rfl); (case hr => first | (go_simp; done) | (go_simp; rfl)); intro gb135 hg w9 hbox hb; have n0_ := Aside0.mk (below_step (by repeat (first | (with_reducible first | exact HB.out | apply below_alloc | apply pw_below_drewN | apply below_drew1) | exact HB.out)) hb); have n1_ := Aside0.mk (hbox); have n2_ := Aside0.mk ((by rw [hg]; exact (below_size (by repeat (first | (with_reducible first | exact HB.out | apply below_alloc | apply pw_below_drewN | apply below_drew1) | exact HB.out))) : w.heap.size ≤ gb135)); have n3_ := Aside0.mk ((by rw [hg]; exact (below_size (by repeat (first | (with_reducible first | exact HB.out | apply below_alloc | apply pw_below_drewN | apply below_drew1) | exact HB.out))) : w.heap.size ≤ gb135)); clear HB; have HB := n0_; have BK135 := n1_; have GW135 := n2_; have GE135 := n3_; clear n0_ n1_ n2_ n3_; clear hb hbox hg; have hcz10_0 : w9.cell? ⟨gb135, 0, none⟩ = some (.int .i64 a0_0) := (blk_cell BK135.out 0).trans rfl; have hcz10_1 : w9.cell? ⟨gb135, 1, none⟩ = some (.int .i64 a0_1) := (blk_cell BK135.out 1).trans rfl; have hcz10_2 : w9.cell? ⟨gb135, 2, none⟩ = some (.slice A0_2 l0_2.length c0_2) := (blk_cell BK135.out 2).trans rfl; have hfz10_0 := blk_frozen BK135.out 0; have hfz10_1 := blk_frozen BK135.out 1; have hfz10_2 := blk_frozen BK135.out 2))
    go_ret
    exact ⟨by first | rfl | (simp [errW_none, errW_some] <;> rfl) | (simp [*, errW_none, errW_some] <;> rfl), by repeat (first | (with_reducible first | exact HB.out | apply below_alloc | apply pw_below_drewN | apply below_drew1 | refine below_set ?_ GE135.out) | exact HB.out)⟩
   ·rw [if_neg c8] at H
    have c8b0 : decide (a0_1 < 0) = false := decide_eq_false c8
    clear c8
    by_cases c11 : a0_1 > 4611686018427387903
    ·rw [if_pos c11] at H
     have c11b0 : decide (4611686018427387903 < a0_1) = true := decide_eq_true c11
     clear c11
     obtain rfl := Option.some.inj H
     go_enter Try.func26, Try.ntmps26
     go_wp2_with (first | ((with_reducible refine gate_dst (N := 1) rfl ?_); (try (refine gate_guard (by rfl) ?_; dsimp only)); refine box_event ?hg (N := 1) ?hd (cs := #[.int .i64 a0_0, .int .i64 a0_1, .slice A0_2 l0_2.length c0_2]) (t := 36) ?hr ?_; (case hd => rfl); (case hg => rfl); (case hr => first | (go_simp; done) | (go_simp; rfl)); intro gb135 hg w12 hbox hb; have n0_ := Aside0.mk (below_step (by repeat (first | (with_reducible first | exact HB.out | apply below_alloc | apply pw_below_drewN | apply below_drew1) | exact HB.out)) hb); have n1_ := Aside0.mk (hbox); have n2_ := Aside0.mk ((by rw [hg]; exact (below_size (by repeat (first | (with_reducible first | exact HB.out | apply below_alloc | apply pw_below_drewN | apply below_drew1) | exact HB.out))) : w.heap.size ≤ gb135)); have n3_ := Aside0.mk ((by rw [hg]; exact (below_size (by repeat (first | (with_reducible first | exact HB.out | apply below_alloc | apply pw_below_drewN | apply below_drew1) | exact HB.out))) : w.heap.size ≤ gb135)); clear HB; have HB := n0_; have BK135 := n1_; have GW135 := n2_; have GE135 := n3_; clear n0_ n1_ n2_ n3_; clear hb hbox hg; have hcz13_0 : w12.cell? ⟨gb135, 0, none⟩ = some (.int .i64 a0_0) := (blk_cell BK135.out 0).trans rfl; have hcz13_1 : w12.cell? ⟨gb135, 1, none⟩ = some (.int .i64 a0_1) := (blk_cell BK135.out 1).trans rfl; have hcz13_2 : w12.cell? ⟨gb135, 2, none⟩ = some (.slice A0_2 l0_2.length c0_2) := (blk_cell BK135.out 2).trans rfl; have hfz13_0 := blk_frozen BK135.out 0; have hfz13_1 := blk_frozen BK135.out 1; have hfz13_2 := blk_frozen BK135.out 2))
     go_ret
     exact ⟨by first | rfl | (simp [errW_none, errW_some] <;> rfl) | (simp [*, errW_none, errW_some] <;> rfl), by repeat (first | (with_reducible first | exact HB.out | apply below_alloc | apply pw_below_drewN | apply below_drew1 | refine below_set ?_ GE135.out) | exact HB.out)⟩
    ·rw [if_neg c11] at H
     have c11b0 : decide (4611686018427387903 < a0_1) = false := decide_eq_false c11
     clear c11
     by_cases c14 : (l0_2.length : Int) > 4096
     ·rw [if_pos c14] at H
      have c14b0 : decide (4096 < (l0_2.length : Int)) = true := decide_eq_true c14
      have c14b1 : decide (4096 < l0_2.length) = true := decide_eq_true (by omega)
      clear c14
      obtain rfl := Option.some.inj H
      go_enter Try.func26, Try.ntmps26
      go_wp2_with (first | ((with_reducible refine gate_dst (N := 1) rfl ?_); (try (refine gate_guard (by rfl) ?_; dsimp only)); refine box_event ?hg (N := 1) ?hd (cs := #[.int .i64 a0_0, .int .i64 a0_1, .slice A0_2 l0_2.length c0_2]) (t := 36) ?hr ?_; (case hd => rfl); (case hg => rfl); (case hr => first | (go_simp; done) | (go_simp; rfl)); intro gb135 hg w15 hbox hb; have n0_ := Aside0.mk (below_step (by repeat (first | (with_reducible first | exact HB.out | apply below_alloc | apply pw_below_drewN | apply below_drew1) | exact HB.out)) hb); have n1_ := Aside0.mk (hbox); have n2_ := Aside0.mk ((by rw [hg]; exact (below_size (by repeat (first | (with_reducible first | exact HB.out | apply below_alloc | apply pw_below_drewN | apply below_drew1) | exact HB.out))) : w.heap.size ≤ gb135)); have n3_ := Aside0.mk ((by rw [hg]; exact (below_size (by repeat (first | (with_reducible first | exact HB.out | apply below_alloc | apply pw_below_drewN | apply below_drew1) | exact HB.out))) : w.heap.size ≤ gb135)); clear HB; have HB := n0_; have BK135 := n1_; have GW135 := n2_; have GE135 := n3_; clear n0_ n1_ n2_ n3_; clear hb hbox hg; have hcz16_0 : w15.cell? ⟨gb135, 0, none⟩ = some (.int .i64 a0_0) := (blk_cell BK135.out 0).trans rfl; have hcz16_1 : w15.cell? ⟨gb135, 1, none⟩ = some (.int .i64 a0_1) := (blk_cell BK135.out 1).trans rfl; have hcz16_2 : w15.cell? ⟨gb135, 2, none⟩ = some (.slice A0_2 l0_2.length c0_2) := (blk_cell BK135.out 2).trans rfl; have hfz16_0 := blk_frozen BK135.out 0; have hfz16_1 := blk_frozen BK135.out 1; have hfz16_2 := blk_frozen BK135.out 2))
      go_ret
      exact ⟨by first | rfl | (simp [errW_none, errW_some] <;> rfl) | (simp [*, errW_none, errW_some] <;> rfl), by repeat (first | (with_reducible first | exact HB.out | apply below_alloc | apply pw_below_drewN | apply below_drew1 | refine below_set ?_ GE135.out) | exact HB.out)⟩
     ·rw [if_neg c14] at H
      have c14b0 : decide (4096 < (l0_2.length : Int)) = false := decide_eq_false c14
      have c14b1 : decide (4096 < l0_2.length) = false := decide_eq_false (by omega)
      clear c14
      obtain rfl := Option.some.inj H
      go_enter Try.func26, Try.ntmps26
      go_wp2_with (first | ((with_reducible refine gate_dst (N := 1) rfl ?_); (try (refine gate_guard (by rfl) ?_; dsimp only)); refine box_event ?hg (N := 1) ?hd (cs := #[.int .i64 a0_0, .int .i64 a0_1, .slice A0_2 l0_2.length c0_2]) (t := 36) ?hr ?_; (case hd => rfl); (case hg => rfl); (case hr => first | (go_simp; done) | (go_simp; rfl)); intro gb135 hg w17 hbox hb; have n0_ := Aside0.mk (below_step (by repeat (first | (with_reducible first | exact HB.out | apply below_alloc | apply pw_below_drewN | apply below_drew1) | exact HB.out)) hb); have n1_ := Aside0.mk (hbox); have n2_ := Aside0.mk ((by rw [hg]; exact (below_size (by repeat (first | (with_reducible first | exact HB.out | apply below_alloc | apply pw_below_drewN | apply below_drew1) | exact HB.out))) : w.heap.size ≤ gb135)); have n3_ := Aside0.mk ((by rw [hg]; exact (below_size (by repeat (first | (with_reducible first | exact HB.out | apply below_alloc | apply pw_below_drewN | apply below_drew1) | exact HB.out))) : w.heap.size ≤ gb135)); clear HB; have HB := n0_; have BK135 := n1_; have GW135 := n2_; have GE135 := n3_; clear n0_ n1_ n2_ n3_; clear hb hbox hg; have hcz18_0 : w17.cell? ⟨gb135, 0, none⟩ = some (.int .i64 a0_0) := (blk_cell BK135.out 0).trans rfl; have hcz18_1 : w17.cell? ⟨gb135, 1, none⟩ = some (.int .i64 a0_1) := (blk_cell BK135.out 1).trans rfl; have hcz18_2 : w17.cell? ⟨gb135, 2, none⟩ = some (.slice A0_2 l0_2.length c0_2) := (blk_cell BK135.out 2).trans rfl; have hfz18_0 := blk_frozen BK135.out 0; have hfz18_1 := blk_frozen BK135.out 1; have hfz18_2 := blk_frozen BK135.out 2))
      go_ret
      exact ⟨by first | rfl | (simp [errW_none, errW_some] <;> rfl) | (simp [*, errW_none, errW_some] <;> rfl), by repeat (first | (with_reducible first | exact HB.out | apply below_alloc | apply pw_below_drewN | apply below_drew1 | refine below_set ?_ GE135.out) | exact HB.out)⟩
-- GIVEN: function 55 (le_Pack)
-- GIVEN: function 70 (bytes_Clone)
def le_may.f (a0 : Int) (a1 : Int) : Option (Bool) := if a1 = 1 then (if 0 ≤ (wrap64 (8 * a1)) then (some ((shr .u64 a0 (wrap64 (8 * a1))) == 0)) else (none)) else (if a1 = 2 then (if 0 ≤ (wrap64 (8 * a1)) then (some ((shr .u64 a0 (wrap64 (8 * a1))) == 0)) else (none)) else (if a1 = 4 then (if 0 ≤ (wrap64 (8 * a1)) then (some ((shr .u64 a0 (wrap64 (8 * a1))) == 0)) else (none)) else (some (a1 == 8))))
set_option maxHeartbeats 8000000 in
set_option maxRecDepth 100000 in
theorem le_may.calls (a0 : Int) (a1 : Int) (r : Bool) (w : World) (h : le_may.f a0 a1 = some r) :
  Calls Try.prog 94 #[.int .u64 a0, .int .i64 a1] w fun e w' => e = .returned (.bool r) ∧ Drawn0 w w' := by
 have H : (if a1 = 1 then (if 0 ≤ (wrap64 (8 * a1)) then (some ((shr .u64 a0 (wrap64 (8 * a1))) == 0)) else (none)) else (if a1 = 2 then (if 0 ≤ (wrap64 (8 * a1)) then (some ((shr .u64 a0 (wrap64 (8 * a1))) == 0)) else (none)) else (if a1 = 4 then (if 0 ≤ (wrap64 (8 * a1)) then (some ((shr .u64 a0 (wrap64 (8 * a1))) == 0)) else (none)) else (some (a1 == 8))))) = some r := h
 clear h
 by_cases c3 : a1 = 1
 ·rw [if_pos c3] at H
  have c3b0 : (a1 == 1) = true := beq_iff_eq.mpr c3
  have c3b1 : (a1 != 1) = false := bne_eq_false_iff_eq.mpr c3
  clear c3
  obtain ⟨ji4, hji4⟩ : ∃ j_ : Int, (wrap64 (8 * a1)) = j_ := ⟨_, rfl⟩
  replace H : (if 0 ≤ (ji4) then (some ((shr .u64 a0 (ji4)) == 0)) else (none)) = some r := by first | (rw [hji4] at H; exact H) | (simp only [hji4] at H ⊢; exact H)
  have hji4w : (IntKind.i64.wrap (8 * a1)) = ji4 := (i64_w _).trans hji4
  by_cases c5 : 0 ≤ (ji4)
  ·rw [if_pos c5] at H
   have c5b0 := eq_true c5
   have c5b1 : decide (0 ≤ (ji4)) = true := decide_eq_true c5
   clear c5
   obtain ⟨ji6, hji6⟩ : ∃ j_ : Int, (shr .u64 a0 (ji4)) = j_ := ⟨_, rfl⟩
   replace H : (some ((ji6) == 0)) = some r := by first | (rw [hji6] at H; exact H) | (simp only [hji6] at H ⊢; exact H)
   have hji6_ : (a0 / 2 ^ min (ji4).toNat 64) = ji6 := hji6
   have hji6z : (ji4) ≤ 64 → (a0 / 2 ^ (ji4).toNat) = ji6 := shr_small hji6
   obtain rfl := Option.some.inj H
   go_enter Try.func94, Try.ntmps94
   go_wp2
   go_ret
   exact ⟨by first | rfl | (simp; done) | (simp only [← hji4, ← hji6] <;> (first | rfl | simp)) | (simp [*]; done), by repeat (first | exact Drawn0.refl _ | apply Drawn0.step)⟩
  ·rw [if_neg c5] at H
   exact absurd H (by simp)
 ·rw [if_neg c3] at H
  have c3b0 : (a1 == 1) = false := beq_eq_false_iff_ne.mpr c3
  have c3b1 : (a1 != 1) = true := bne_iff_ne.mpr c3
  by_cases c7 : a1 = 2
  ·rw [if_pos c7] at H
   have c7b0 : (a1 == 2) = true := beq_iff_eq.mpr c7
   have c7b1 : (a1 != 2) = false := bne_eq_false_iff_eq.mpr c7
   clear c7
   obtain ⟨ji8, hji8⟩ : ∃ j_ : Int, (wrap64 (8 * a1)) = j_ := ⟨_, rfl⟩
   replace H : (if 0 ≤ (ji8) then (some ((shr .u64 a0 (ji8)) == 0)) else (none)) = some r := by first | (rw [hji8] at H; exact H) | (simp only [hji8] at H ⊢; exact H)
   have hji8w : (IntKind.i64.wrap (8 * a1)) = ji8 := (i64_w _).trans hji8
   by_cases c9 : 0 ≤ (ji8)
   ·rw [if_pos c9] at H
    have c9b0 := eq_true c9
    have c9b1 : decide (0 ≤ (ji8)) = true := decide_eq_true c9
    clear c9
    obtain ⟨ji10, hji10⟩ : ∃ j_ : Int, (shr .u64 a0 (ji8)) = j_ := ⟨_, rfl⟩
    replace H : (some ((ji10) == 0)) = some r := by first | (rw [hji10] at H; exact H) | (simp only [hji10] at H ⊢; exact H)
    have hji10_ : (a0 / 2 ^ min (ji8).toNat 64) = ji10 := hji10
    have hji10z : (ji8) ≤ 64 → (a0 / 2 ^ (ji8).toNat) = ji10 := shr_small hji10
    obtain rfl := Option.some.inj H
    go_enter Try.func94, Try.ntmps94
    go_wp2
    go_ret
    exact ⟨by first | rfl | (simp; done) | (simp only [← hji8, ← hji10] <;> (first | rfl | simp)) | (simp [*]; done), by repeat (first | exact Drawn0.refl _ | apply Drawn0.step)⟩
   ·rw [if_neg c9] at H
    exact absurd H (by simp)
  ·rw [if_neg c7] at H
   have c7b0 : (a1 == 2) = false := beq_eq_false_iff_ne.mpr c7
   have c7b1 : (a1 != 2) = true := bne_iff_ne.mpr c7
   by_cases c11 : a1 = 4
   ·rw [if_pos c11] at H
    have c11b0 : (a1 == 4) = true := beq_iff_eq.mpr c11
    have c11b1 : (a1 != 4) = false := bne_eq_false_iff_eq.mpr c11
    clear c11
    obtain ⟨ji12, hji12⟩ : ∃ j_ : Int, (wrap64 (8 * a1)) = j_ := ⟨_, rfl⟩
    replace H : (if 0 ≤ (ji12) then (some ((shr .u64 a0 (ji12)) == 0)) else (none)) = some r := by first | (rw [hji12] at H; exact H) | (simp only [hji12] at H ⊢; exact H)
    have hji12w : (IntKind.i64.wrap (8 * a1)) = ji12 := (i64_w _).trans hji12
    by_cases c13 : 0 ≤ (ji12)
    ·rw [if_pos c13] at H
     have c13b0 := eq_true c13
     have c13b1 : decide (0 ≤ (ji12)) = true := decide_eq_true c13
     clear c13
     obtain ⟨ji14, hji14⟩ : ∃ j_ : Int, (shr .u64 a0 (ji12)) = j_ := ⟨_, rfl⟩
     replace H : (some ((ji14) == 0)) = some r := by first | (rw [hji14] at H; exact H) | (simp only [hji14] at H ⊢; exact H)
     have hji14_ : (a0 / 2 ^ min (ji12).toNat 64) = ji14 := hji14
     have hji14z : (ji12) ≤ 64 → (a0 / 2 ^ (ji12).toNat) = ji14 := shr_small hji14
     obtain rfl := Option.some.inj H
     go_enter Try.func94, Try.ntmps94
     go_wp2
     go_ret
     exact ⟨by first | rfl | (simp; done) | (simp only [← hji12, ← hji14] <;> (first | rfl | simp)) | (simp [*]; done), by repeat (first | exact Drawn0.refl _ | apply Drawn0.step)⟩
    ·rw [if_neg c13] at H
     exact absurd H (by simp)
   ·rw [if_neg c11] at H
    have c11b0 : (a1 == 4) = false := beq_eq_false_iff_ne.mpr c11
    have c11b1 : (a1 != 4) = true := bne_iff_ne.mpr c11
    obtain rfl := Option.some.inj H
    go_enter Try.func94, Try.ntmps94
    go_wp2
    go_ret
    exact ⟨by first | rfl | (simp; done) | (simp [*]; done), by repeat (first | exact Drawn0.refl _ | apply Drawn0.step)⟩
-- GIVEN: function 96 (crc_More)
-- GIVEN: function 20 (dev_Check)
-- GIVEN: function 64 (log_first)
def dev_Open.l0 : Nat → Int → List (S52) → Int → Int → Option (Int)
 | 0, _, _, _, _ => none
 | k + 1, x2, x6, x7, x8 => if x8 < x7 then (if 0 ≤ x8 then (if x8 < (x6.length : Int) then (if ((rd_T52 x6 x8).f0) = 1 then (dev_Open.l0 k (wrap64 (x2 + 1)) x6 x7 (wrap64 (x8 + 1))) else (dev_Open.l0 k x2 x6 x7 (wrap64 (x8 + 1)))) else (none)) else (none)) else (some x2)
def dev_Open.f (k : Nat) (a0_0 : Int) (l0_1 : List (S52)) (a0_2 : Int) (a0_3 : Bool) (a0_4 : Int) : Option (Int) := dev_Open.l0 k 0 l0_1 (l0_1.length : Int) 0
set_option maxHeartbeats 8000000 in
set_option maxRecDepth 100000 in
theorem dev_Open.calls (k : Nat) (a0_0 : Int) (A0_1 : Option Addr) (c0_1 : Nat) (l0_1 : List (S52)) (a0_2 : Int) (a0_3 : Bool) (a0_4 : Int) (r : Int) (w : World) (hr0_1 : Kd.C k52 w A0_1 l0_1.length l0_1) (hc0_1 : l0_1.length ≤ c0_1) (h : dev_Open.f k a0_0 l0_1 a0_2 a0_3 a0_4 = some r) :
  Calls Try.prog 65 #[.agg #[.int .i64 a0_0, .slice A0_1 l0_1.length c0_1, .int .i64 a0_2, .bool a0_3, .int .i64 a0_4]] w fun e w' => e = .returned (.int .i64 r) ∧ Below w.heap.size w w' := by
 have hu27 := Try.underlying27
 have hu52 := Try.underlying52
 have HR0_1 := Aside0.mk hr0_1
 have HC0_1 := Aside0.mk hc0_1
 clear hr0_1 hc0_1
 have HB := Aside0.mk (Below.refl w.heap.size w)
 have H : (dev_Open.l0 k 0 l0_1 (l0_1.length : Int) 0) = some r := h
 clear h
 have H' := Aside0.mk H
 clear H
 go_enter Try.func65, Try.ntmps65
 go_wp2_with (first | ((with_reducible refine gate_dst (N := 1) rfl ?_); refine box_event ?hg (N := 1) ?hd (cs := #[.int .i64 a0_0, .slice A0_1 l0_1.length c0_1, .int .i64 a0_2, .bool a0_3, .int .i64 a0_4]) (t := 27) ?hr ?_; (case hd => rfl); (case hg => rfl); (case hr => first | (go_simp; done) | (go_simp; rfl)); intro gb164 hg w2 hbox hb; have n0_ := Aside0.mk (below_step (by repeat (first | (with_reducible first | exact HB.out | apply below_alloc | apply pw_below_drewN | apply below_drew1) | exact HB.out)) hb); have n1_ := Aside0.mk (hbox); have n2_ := Aside0.mk ((by rw [hg]; exact (below_size (by repeat (first | (with_reducible first | exact HB.out | apply below_alloc | apply pw_below_drewN | apply below_drew1) | exact HB.out))) : w.heap.size ≤ gb164)); have n3_ := Aside0.mk ((by rw [hg]; exact (below_size (by repeat (first | (with_reducible first | exact HB.out | apply below_alloc | apply pw_below_drewN | apply below_drew1) | exact HB.out))) : w.heap.size ≤ gb164)); clear HB; have HB := n0_; have BK164 := n1_; have GW164 := n2_; have GE164 := n3_; clear n0_ n1_ n2_ n3_; clear hb hbox hg; have hcz3_0 : w2.cell? ⟨gb164, 0, none⟩ = some (.int .i64 a0_0) := (blk_cell BK164.out 0).trans rfl; have hcz3_1 : w2.cell? ⟨gb164, 1, none⟩ = some (.slice A0_1 l0_1.length c0_1) := (blk_cell BK164.out 1).trans rfl; have hcz3_2 : w2.cell? ⟨gb164, 2, none⟩ = some (.int .i64 a0_2) := (blk_cell BK164.out 2).trans rfl; have hcz3_3 : w2.cell? ⟨gb164, 3, none⟩ = some (.bool a0_3) := (blk_cell BK164.out 3).trans rfl; have hcz3_4 : w2.cell? ⟨gb164, 4, none⟩ = some (.int .i64 a0_4) := (blk_cell BK164.out 4).trans rfl; have hfz3_0 := blk_frozen BK164.out 0; have hfz3_1 := blk_frozen BK164.out 1; have hfz3_2 := blk_frozen BK164.out 2; have hfz3_3 := blk_frozen BK164.out 3; have hfz3_4 := blk_frozen BK164.out 4))
 go_loopg [2, 8] k (fun kq v2 v8 w' => ∃ (x2_1 : Int) (x8_1 : Int), v2 = .int .i64 x2_1 ∧ v8 = .int .i64 x8_1 ∧ Aside0 (dev_Open.l0 kq x2_1 l0_1 (l0_1.length : Int) x8_1 = some r) ∧ Aside0 (kq ≤ k) ∧ Aside0 (w'.heap[gb164]? = some (.cells #[.int .i64 a0_0, (.slice A0_1 l0_1.length c0_1), .int .i64 a0_2, .bool a0_3, .int .i64 a0_4] 27 (0, 0))) ∧ Aside0 (Below w.heap.size w w'))
 case atStart => exact ⟨(0), (0), (by first | rfl | (simp; done) | (simp [*]; done)), (by first | rfl | (simp; done) | (simp [*]; done)), H', ⟨Nat.le_refl _⟩, ⟨by (with_reducible repeat (first | refine blk_drewN ?_ _ | refine blk_drew ?_ | refine blk_alloc ?_ _)); exact BK164.out⟩, ⟨by repeat (first | (with_reducible first | exact HB.out | apply below_alloc | apply pw_below_drewN | apply below_drew1 | refine below_set ?_ GE164.out) | exact HB.out)⟩⟩
 case round =>
  clear H'
  try clear p2
  try clear hcz3_0
  try clear hcz3_1
  try clear hcz3_2
  try clear hcz3_3
  try clear hcz3_4
  try clear hfz3_0
  try clear hfz3_1
  try clear hfz3_2
  try clear hfz3_3
  try clear hfz3_4
  obtain ⟨x2_1, x8_1, rfl, rfl, HA, HK1, BK164, HB⟩ := hrel
  cases gk with
  | zero => exact absurd HA.out (by simp [dev_Open.l0])
  | succ k1 =>
   have H := HA.out
   clear HA
   simp only [dev_Open.l0] at H
   by_cases c4 : x8_1 < (l0_1.length : Int)
   ·rw [if_pos c4] at H
    have c4b0 : decide (x8_1 < (l0_1.length : Int)) = true := decide_eq_true c4
    clear c4
    by_cases c5 : 0 ≤ x8_1
    ·rw [if_pos c5] at H
     have c5b0 : decide (0 ≤ x8_1) = true := decide_eq_true c5
     clear c5
     by_cases c6 : x8_1 < (l0_1.length : Int)
     ·rw [if_pos c6] at H
      have c6b0 : decide (x8_1 < (l0_1.length : Int)) = true := decide_eq_true c6
      clear c6
      by_cases c7 : ((rd_T52 l0_1 x8_1).f0) = 1
      ·rw [if_pos c7] at H
       have c7b0 : (((rd_T52 l0_1 x8_1).f0) == 1) = true := beq_iff_eq.mpr c7
       have c7b1 : (((rd_T52 l0_1 x8_1).f0) != 1) = false := bne_eq_false_iff_eq.mpr c7
       clear c7
       have H' := Aside0.mk H
       clear H
       have p165 : 0 ≤ (x8_1 : Int) := of_decide_eq_true (by first | (with_reducible assumption) | assumption)
       have q165 : x8_1 < (l0_1.length : Int) := of_decide_eq_true (by first | (with_reducible assumption) | assumption)
       obtain ⟨ad165, A165_2, c165_2, e165, hx165_0, hx165_1, hx165_2, hx165_3, hl165_2, hi165_2⟩ := at_T52 HR0_1.out x8_1 p165 q165
       cases e165
       replace hx165_0 := (HB.out.cell (World.block_lt_of_cell? w _ hx165_0)).trans hx165_0
       replace hx165_1 := (HB.out.cell (World.block_lt_of_cell? w _ hx165_1)).trans hx165_1
       replace hx165_2 := (HB.out.cell (World.block_lt_of_cell? w _ hx165_2)).trans hx165_2
       replace hx165_3 := (HB.out.cell (World.block_lt_of_cell? w _ hx165_3)).trans hx165_3
       have HR165_2 := Aside0.mk hi165_2
       have HC165_2 := Aside0.mk hl165_2
       clear hi165_2 hl165_2
       replace p165 := eq_true p165
       replace q165 := eq_true q165
       go_wp2_with (first | ((with_reducible refine gate_dst (N := 4) rfl ?_); refine box_event ?hg (N := 4) ?hd (cs := #[.int .i64 0, .int .i64 0, .slice none 0 0, .int .i64 0]) (t := 52) ?hr ?_; (case hd => rfl); (case hg => rfl); (case hr => first | (go_simp; done) | (go_simp; rfl)); intro gb166 hg w8 hbox hb; have n0_ := Aside0.mk (blk_below (g := gb164) (o := .cells #[.int .i64 a0_0, .slice (some ad165) l0_1.length c0_1, .int .i64 a0_2, .bool a0_3, .int .i64 a0_4] 27 (0, 0)) (by (with_reducible repeat (first | refine blk_drewN ?_ _ | refine blk_drew ?_ | refine blk_alloc ?_ _)); exact BK164.out) hb); have n1_ := Aside0.mk (below_step (by repeat (first | (with_reducible first | exact HB.out | apply below_alloc | apply pw_below_drewN | apply below_drew1 | refine below_set ?_ GE164.out) | exact HB.out)) hb); have n2_ := Aside0.mk (hbox); have n3_ := Aside0.mk ((by rw [hg]; exact (below_size (by repeat (first | (with_reducible first | exact HB.out | apply below_alloc | apply pw_below_drewN | apply below_drew1 | refine below_set ?_ GE164.out) | exact HB.out))) : w.heap.size ≤ gb166)); have n4_ := Aside0.mk ((by rw [hg]; exact (below_size (by repeat (first | (with_reducible first | exact HB.out | apply below_alloc | apply pw_below_drewN | apply below_drew1 | refine below_set ?_ GE164.out) | exact HB.out))) : w.heap.size ≤ gb166)); have n5_ := Aside0.mk ((by rw [hg]; exact Nat.ne_of_lt (blk_lt (g := gb164) (o := .cells #[.int .i64 a0_0, .slice (some ad165) l0_1.length c0_1, .int .i64 a0_2, .bool a0_3, .int .i64 a0_4] 27 (0, 0)) (by (with_reducible repeat (first | refine blk_drewN ?_ _ | refine blk_drew ?_ | refine blk_alloc ?_ _)); exact BK164.out)) : gb164 ≠ gb166)); have n6_ := Aside0.mk ((by rw [hg]; exact Nat.ne_of_gt (blk_lt (g := gb164) (o := .cells #[.int .i64 a0_0, .slice (some ad165) l0_1.length c0_1, .int .i64 a0_2, .bool a0_3, .int .i64 a0_4] 27 (0, 0)) (by (with_reducible repeat (first | refine blk_drewN ?_ _ | refine blk_drew ?_ | refine blk_alloc ?_ _)); exact BK164.out)) : gb166 ≠ gb164)); clear BK164; clear HB; have BK164 := n0_; have HB := n1_; have BK166 := n2_; have GW166 := n3_; have GE166 := n4_; have NB164_166 := n5_; have NB166_164 := n6_; clear n0_ n1_ n2_ n3_ n4_ n5_ n6_; clear hb hbox hg; have hnb9 := NB166_164.out; have hnc9 := NB164_166.out; have hcz10_0 : w8.cell? ⟨gb166, 0, none⟩ = some (.int .i64 0) := (blk_cell BK166.out 0).trans rfl; have hcz10_1 : w8.cell? ⟨gb166, 1, none⟩ = some (.int .i64 0) := (blk_cell BK166.out 1).trans rfl; have hcz10_2 : w8.cell? ⟨gb166, 2, none⟩ = some (.slice none 0 0) := (blk_cell BK166.out 2).trans rfl; have hcz10_3 : w8.cell? ⟨gb166, 3, none⟩ = some (.int .i64 0) := (blk_cell BK166.out 3).trans rfl; have hfz10_0 := blk_frozen BK166.out 0; have hfz10_1 := blk_frozen BK166.out 1; have hfz10_2 := blk_frozen BK166.out 2; have hfz10_3 := blk_frozen BK166.out 3))
       go_roundg k1
       case measure => have := HK1.out; omega
       case rel => exact ⟨(wrap64 (x2_1 + 1)), (wrap64 (x8_1 + 1)), (by first | rfl | (simp; done) | (simp [*]; done)), (by first | rfl | (simp; done) | (simp [*]; done)), H', ⟨by have := HK1.out; omega⟩, ⟨by (with_reducible repeat (first | refine blk_drewN ?_ _ | refine blk_drew ?_ | refine blk_alloc ?_ _)); refine blk_far ?_ NB164_166.out _; (with_reducible repeat (first | refine blk_drewN ?_ _ | refine blk_drew ?_ | refine blk_alloc ?_ _)); refine blk_far ?_ NB164_166.out _; (with_reducible repeat (first | refine blk_drewN ?_ _ | refine blk_drew ?_ | refine blk_alloc ?_ _)); refine blk_far ?_ NB164_166.out _; (with_reducible repeat (first | refine blk_drewN ?_ _ | refine blk_drew ?_ | refine blk_alloc ?_ _)); refine blk_far ?_ NB164_166.out _; (with_reducible repeat (first | refine blk_drewN ?_ _ | refine blk_drew ?_ | refine blk_alloc ?_ _)); exact BK164.out⟩, ⟨by repeat (first | (with_reducible first | exact HB.out | apply below_alloc | apply pw_below_drewN | apply below_drew1 | refine below_set ?_ GE164.out | refine below_set ?_ GE166.out) | exact HB.out)⟩⟩
      ·rw [if_neg c7] at H
       have c7b0 : (((rd_T52 l0_1 x8_1).f0) == 1) = false := beq_eq_false_iff_ne.mpr c7
       have c7b1 : (((rd_T52 l0_1 x8_1).f0) != 1) = true := bne_iff_ne.mpr c7
       have H' := Aside0.mk H
       clear H
       have p165 : 0 ≤ (x8_1 : Int) := of_decide_eq_true (by first | (with_reducible assumption) | assumption)
       have q165 : x8_1 < (l0_1.length : Int) := of_decide_eq_true (by first | (with_reducible assumption) | assumption)
       obtain ⟨ad165, A165_2, c165_2, e165, hx165_0, hx165_1, hx165_2, hx165_3, hl165_2, hi165_2⟩ := at_T52 HR0_1.out x8_1 p165 q165
       cases e165
       replace hx165_0 := (HB.out.cell (World.block_lt_of_cell? w _ hx165_0)).trans hx165_0
       replace hx165_1 := (HB.out.cell (World.block_lt_of_cell? w _ hx165_1)).trans hx165_1
       replace hx165_2 := (HB.out.cell (World.block_lt_of_cell? w _ hx165_2)).trans hx165_2
       replace hx165_3 := (HB.out.cell (World.block_lt_of_cell? w _ hx165_3)).trans hx165_3
       have HR165_2 := Aside0.mk hi165_2
       have HC165_2 := Aside0.mk hl165_2
       clear hi165_2 hl165_2
       replace p165 := eq_true p165
       replace q165 := eq_true q165
       go_wp2_with (first | ((with_reducible refine gate_dst (N := 4) rfl ?_); refine box_event ?hg (N := 4) ?hd (cs := #[.int .i64 0, .int .i64 0, .slice none 0 0, .int .i64 0]) (t := 52) ?hr ?_; (case hd => rfl); (case hg => rfl); (case hr => first | (go_simp; done) | (go_simp; rfl)); intro gb166 hg w11 hbox hb; have n0_ := Aside0.mk (blk_below (g := gb164) (o := .cells #[.int .i64 a0_0, .slice (some ad165) l0_1.length c0_1, .int .i64 a0_2, .bool a0_3, .int .i64 a0_4] 27 (0, 0)) (by (with_reducible repeat (first | refine blk_drewN ?_ _ | refine blk_drew ?_ | refine blk_alloc ?_ _)); exact BK164.out) hb); have n1_ := Aside0.mk (below_step (by repeat (first | (with_reducible first | exact HB.out | apply below_alloc | apply pw_below_drewN | apply below_drew1 | refine below_set ?_ GE164.out) | exact HB.out)) hb); have n2_ := Aside0.mk (hbox); have n3_ := Aside0.mk ((by rw [hg]; exact (below_size (by repeat (first | (with_reducible first | exact HB.out | apply below_alloc | apply pw_below_drewN | apply below_drew1 | refine below_set ?_ GE164.out) | exact HB.out))) : w.heap.size ≤ gb166)); have n4_ := Aside0.mk ((by rw [hg]; exact (below_size (by repeat (first | (with_reducible first | exact HB.out | apply below_alloc | apply pw_below_drewN | apply below_drew1 | refine below_set ?_ GE164.out) | exact HB.out))) : w.heap.size ≤ gb166)); have n5_ := Aside0.mk ((by rw [hg]; exact Nat.ne_of_lt (blk_lt (g := gb164) (o := .cells #[.int .i64 a0_0, .slice (some ad165) l0_1.length c0_1, .int .i64 a0_2, .bool a0_3, .int .i64 a0_4] 27 (0, 0)) (by (with_reducible repeat (first | refine blk_drewN ?_ _ | refine blk_drew ?_ | refine blk_alloc ?_ _)); exact BK164.out)) : gb164 ≠ gb166)); have n6_ := Aside0.mk ((by rw [hg]; exact Nat.ne_of_gt (blk_lt (g := gb164) (o := .cells #[.int .i64 a0_0, .slice (some ad165) l0_1.length c0_1, .int .i64 a0_2, .bool a0_3, .int .i64 a0_4] 27 (0, 0)) (by (with_reducible repeat (first | refine blk_drewN ?_ _ | refine blk_drew ?_ | refine blk_alloc ?_ _)); exact BK164.out)) : gb166 ≠ gb164)); clear BK164; clear HB; have BK164 := n0_; have HB := n1_; have BK166 := n2_; have GW166 := n3_; have GE166 := n4_; have NB164_166 := n5_; have NB166_164 := n6_; clear n0_ n1_ n2_ n3_ n4_ n5_ n6_; clear hb hbox hg; have hnb12 := NB166_164.out; have hnc12 := NB164_166.out; have hcz13_0 : w11.cell? ⟨gb166, 0, none⟩ = some (.int .i64 0) := (blk_cell BK166.out 0).trans rfl; have hcz13_1 : w11.cell? ⟨gb166, 1, none⟩ = some (.int .i64 0) := (blk_cell BK166.out 1).trans rfl; have hcz13_2 : w11.cell? ⟨gb166, 2, none⟩ = some (.slice none 0 0) := (blk_cell BK166.out 2).trans rfl; have hcz13_3 : w11.cell? ⟨gb166, 3, none⟩ = some (.int .i64 0) := (blk_cell BK166.out 3).trans rfl; have hfz13_0 := blk_frozen BK166.out 0; have hfz13_1 := blk_frozen BK166.out 1; have hfz13_2 := blk_frozen BK166.out 2; have hfz13_3 := blk_frozen BK166.out 3))
       go_roundg k1
       case measure => have := HK1.out; omega
       case rel => exact ⟨(x2_1), (wrap64 (x8_1 + 1)), (by first | rfl | (simp; done) | (simp [*]; done)), (by first | rfl | (simp; done) | (simp [*]; done)), H', ⟨by have := HK1.out; omega⟩, ⟨by (with_reducible repeat (first | refine blk_drewN ?_ _ | refine blk_drew ?_ | refine blk_alloc ?_ _)); refine blk_far ?_ NB164_166.out _; (with_reducible repeat (first | refine blk_drewN ?_ _ | refine blk_drew ?_ | refine blk_alloc ?_ _)); refine blk_far ?_ NB164_166.out _; (with_reducible repeat (first | refine blk_drewN ?_ _ | refine blk_drew ?_ | refine blk_alloc ?_ _)); refine blk_far ?_ NB164_166.out _; (with_reducible repeat (first | refine blk_drewN ?_ _ | refine blk_drew ?_ | refine blk_alloc ?_ _)); refine blk_far ?_ NB164_166.out _; (with_reducible repeat (first | refine blk_drewN ?_ _ | refine blk_drew ?_ | refine blk_alloc ?_ _)); exact BK164.out⟩, ⟨by repeat (first | (with_reducible first | exact HB.out | apply below_alloc | apply pw_below_drewN | apply below_drew1 | refine below_set ?_ GE164.out | refine below_set ?_ GE166.out) | exact HB.out)⟩⟩
     ·rw [if_neg c6] at H
      exact absurd H (by simp)
    ·rw [if_neg c5] at H
     exact absurd H (by simp)
   ·rw [if_neg c4] at H
    have c4b0 : decide (x8_1 < (l0_1.length : Int)) = false := decide_eq_false c4
    clear c4
    obtain rfl := Option.some.inj H
    go_wp2
    go_ret
    exact ⟨by first | rfl | (simp [errW_none, errW_some] <;> rfl) | (simp [*, errW_none, errW_some] <;> rfl), by repeat (first | (with_reducible first | exact HB.out | apply below_alloc | apply pw_below_drewN | apply below_drew1 | refine below_set ?_ GE164.out) | exact HB.out)⟩
def log_Empty.l0 : Nat → Int → List (S52) → Int → Int → Option (Int)
 | 0, _, _, _, _ => none
 | k + 1, x2, x6, x7, x8 => if x8 < x7 then (if 0 ≤ x8 then (if x8 < (x6.length : Int) then (if ((rd_T52 x6 x8).f0) = 0 then (log_Empty.l0 k (wrap64 (x2 + 1)) x6 x7 (wrap64 (x8 + 1))) else (log_Empty.l0 k x2 x6 x7 (wrap64 (x8 + 1)))) else (none)) else (none)) else (some x2)
def log_Empty.f (k : Nat) (a0_0 : Int) (l0_1 : List (S52)) (a0_2 : Int) (a0_3 : Bool) (a0_4 : Int) : Option (Int) := log_Empty.l0 k 0 l0_1 (l0_1.length : Int) 0
set_option maxHeartbeats 8000000 in
set_option maxRecDepth 100000 in
theorem log_Empty.calls (k : Nat) (a0_0 : Int) (A0_1 : Option Addr) (c0_1 : Nat) (l0_1 : List (S52)) (a0_2 : Int) (a0_3 : Bool) (a0_4 : Int) (r : Int) (w : World) (hr0_1 : Kd.C k52 w A0_1 l0_1.length l0_1) (hc0_1 : l0_1.length ≤ c0_1) (h : log_Empty.f k a0_0 l0_1 a0_2 a0_3 a0_4 = some r) :
  Calls Try.prog 13 #[.agg #[.int .i64 a0_0, .slice A0_1 l0_1.length c0_1, .int .i64 a0_2, .bool a0_3, .int .i64 a0_4]] w fun e w' => e = .returned (.int .i64 r) ∧ Below w.heap.size w w' := by
 have hu27 := Try.underlying27
 have hu52 := Try.underlying52
 have HR0_1 := Aside0.mk hr0_1
 have HC0_1 := Aside0.mk hc0_1
 clear hr0_1 hc0_1
 have HB := Aside0.mk (Below.refl w.heap.size w)
 have H : (log_Empty.l0 k 0 l0_1 (l0_1.length : Int) 0) = some r := h
 clear h
 have H' := Aside0.mk H
 clear H
 go_enter Try.func13, Try.ntmps13
 go_wp2_with (first | ((with_reducible refine gate_dst (N := 1) rfl ?_); refine box_event ?hg (N := 1) ?hd (cs := #[.int .i64 a0_0, .slice A0_1 l0_1.length c0_1, .int .i64 a0_2, .bool a0_3, .int .i64 a0_4]) (t := 27) ?hr ?_; (case hd => rfl); (case hg => rfl); (case hr => first | (go_simp; done) | (go_simp; rfl)); intro gb225 hg w2 hbox hb; have n0_ := Aside0.mk (below_step (by repeat (first | (with_reducible first | exact HB.out | apply below_alloc | apply pw_below_drewN | apply below_drew1) | exact HB.out)) hb); have n1_ := Aside0.mk (hbox); have n2_ := Aside0.mk ((by rw [hg]; exact (below_size (by repeat (first | (with_reducible first | exact HB.out | apply below_alloc | apply pw_below_drewN | apply below_drew1) | exact HB.out))) : w.heap.size ≤ gb225)); have n3_ := Aside0.mk ((by rw [hg]; exact (below_size (by repeat (first | (with_reducible first | exact HB.out | apply below_alloc | apply pw_below_drewN | apply below_drew1) | exact HB.out))) : w.heap.size ≤ gb225)); clear HB; have HB := n0_; have BK225 := n1_; have GW225 := n2_; have GE225 := n3_; clear n0_ n1_ n2_ n3_; clear hb hbox hg; have hcz3_0 : w2.cell? ⟨gb225, 0, none⟩ = some (.int .i64 a0_0) := (blk_cell BK225.out 0).trans rfl; have hcz3_1 : w2.cell? ⟨gb225, 1, none⟩ = some (.slice A0_1 l0_1.length c0_1) := (blk_cell BK225.out 1).trans rfl; have hcz3_2 : w2.cell? ⟨gb225, 2, none⟩ = some (.int .i64 a0_2) := (blk_cell BK225.out 2).trans rfl; have hcz3_3 : w2.cell? ⟨gb225, 3, none⟩ = some (.bool a0_3) := (blk_cell BK225.out 3).trans rfl; have hcz3_4 : w2.cell? ⟨gb225, 4, none⟩ = some (.int .i64 a0_4) := (blk_cell BK225.out 4).trans rfl; have hfz3_0 := blk_frozen BK225.out 0; have hfz3_1 := blk_frozen BK225.out 1; have hfz3_2 := blk_frozen BK225.out 2; have hfz3_3 := blk_frozen BK225.out 3; have hfz3_4 := blk_frozen BK225.out 4))
 go_loopg [2, 8] k (fun kq v2 v8 w' => ∃ (x2_1 : Int) (x8_1 : Int), v2 = .int .i64 x2_1 ∧ v8 = .int .i64 x8_1 ∧ Aside0 (log_Empty.l0 kq x2_1 l0_1 (l0_1.length : Int) x8_1 = some r) ∧ Aside0 (kq ≤ k) ∧ Aside0 (w'.heap[gb225]? = some (.cells #[.int .i64 a0_0, (.slice A0_1 l0_1.length c0_1), .int .i64 a0_2, .bool a0_3, .int .i64 a0_4] 27 (0, 0))) ∧ Aside0 (Below w.heap.size w w'))
 case atStart => exact ⟨(0), (0), (by first | rfl | (simp; done) | (simp [*]; done)), (by first | rfl | (simp; done) | (simp [*]; done)), H', ⟨Nat.le_refl _⟩, ⟨by (with_reducible repeat (first | refine blk_drewN ?_ _ | refine blk_drew ?_ | refine blk_alloc ?_ _)); exact BK225.out⟩, ⟨by repeat (first | (with_reducible first | exact HB.out | apply below_alloc | apply pw_below_drewN | apply below_drew1 | refine below_set ?_ GE225.out) | exact HB.out)⟩⟩
 case round =>
  clear H'
  try clear c1
  try clear p2
  try clear hcz3_0
  try clear hcz3_1
  try clear hcz3_2
  try clear hcz3_3
  try clear hcz3_4
  try clear hfz3_0
  try clear hfz3_1
  try clear hfz3_2
  try clear hfz3_3
  try clear hfz3_4
  obtain ⟨x2_1, x8_1, rfl, rfl, HA, HK1, BK225, HB⟩ := hrel
  cases gk with
  | zero => exact absurd HA.out (by simp [log_Empty.l0])
  | succ k1 =>
   have H := HA.out
   clear HA
   simp only [log_Empty.l0] at H
   by_cases c4 : x8_1 < (l0_1.length : Int)
   ·rw [if_pos c4] at H
    have c4b0 : decide (x8_1 < (l0_1.length : Int)) = true := decide_eq_true c4
    clear c4
    by_cases c5 : 0 ≤ x8_1
    ·rw [if_pos c5] at H
     have c5b0 : decide (0 ≤ x8_1) = true := decide_eq_true c5
     clear c5
     by_cases c6 : x8_1 < (l0_1.length : Int)
     ·rw [if_pos c6] at H
      have c6b0 : decide (x8_1 < (l0_1.length : Int)) = true := decide_eq_true c6
      clear c6
      by_cases c7 : ((rd_T52 l0_1 x8_1).f0) = 0
      ·rw [if_pos c7] at H
       have c7b0 : (((rd_T52 l0_1 x8_1).f0) == 0) = true := beq_iff_eq.mpr c7
       have c7b1 : (((rd_T52 l0_1 x8_1).f0) != 0) = false := bne_eq_false_iff_eq.mpr c7
       clear c7
       have H' := Aside0.mk H
       clear H
       have p226 : 0 ≤ (x8_1 : Int) := of_decide_eq_true (by first | (with_reducible assumption) | assumption)
       have q226 : x8_1 < (l0_1.length : Int) := of_decide_eq_true (by first | (with_reducible assumption) | assumption)
       obtain ⟨ad226, A226_2, c226_2, e226, hx226_0, hx226_1, hx226_2, hx226_3, hl226_2, hi226_2⟩ := at_T52 HR0_1.out x8_1 p226 q226
       cases e226
       replace hx226_0 := (HB.out.cell (World.block_lt_of_cell? w _ hx226_0)).trans hx226_0
       replace hx226_1 := (HB.out.cell (World.block_lt_of_cell? w _ hx226_1)).trans hx226_1
       replace hx226_2 := (HB.out.cell (World.block_lt_of_cell? w _ hx226_2)).trans hx226_2
       replace hx226_3 := (HB.out.cell (World.block_lt_of_cell? w _ hx226_3)).trans hx226_3
       have HR226_2 := Aside0.mk hi226_2
       have HC226_2 := Aside0.mk hl226_2
       clear hi226_2 hl226_2
       replace p226 := eq_true p226
       replace q226 := eq_true q226
       go_wp2_with (first | ((with_reducible refine gate_dst (N := 4) rfl ?_); refine box_event ?hg (N := 4) ?hd (cs := #[.int .i64 0, .int .i64 0, .slice none 0 0, .int .i64 0]) (t := 52) ?hr ?_; (case hd => rfl); (case hg => rfl); (case hr => first | (go_simp; done) | (go_simp; rfl)); intro gb227 hg w8 hbox hb; have n0_ := Aside0.mk (blk_below (g := gb225) (o := .cells #[.int .i64 a0_0, .slice (some ad226) l0_1.length c0_1, .int .i64 a0_2, .bool a0_3, .int .i64 a0_4] 27 (0, 0)) (by (with_reducible repeat (first | refine blk_drewN ?_ _ | refine blk_drew ?_ | refine blk_alloc ?_ _)); exact BK225.out) hb); have n1_ := Aside0.mk (below_step (by repeat (first | (with_reducible first | exact HB.out | apply below_alloc | apply pw_below_drewN | apply below_drew1 | refine below_set ?_ GE225.out) | exact HB.out)) hb); have n2_ := Aside0.mk (hbox); have n3_ := Aside0.mk ((by rw [hg]; exact (below_size (by repeat (first | (with_reducible first | exact HB.out | apply below_alloc | apply pw_below_drewN | apply below_drew1 | refine below_set ?_ GE225.out) | exact HB.out))) : w.heap.size ≤ gb227)); have n4_ := Aside0.mk ((by rw [hg]; exact (below_size (by repeat (first | (with_reducible first | exact HB.out | apply below_alloc | apply pw_below_drewN | apply below_drew1 | refine below_set ?_ GE225.out) | exact HB.out))) : w.heap.size ≤ gb227)); have n5_ := Aside0.mk ((by rw [hg]; exact Nat.ne_of_lt (blk_lt (g := gb225) (o := .cells #[.int .i64 a0_0, .slice (some ad226) l0_1.length c0_1, .int .i64 a0_2, .bool a0_3, .int .i64 a0_4] 27 (0, 0)) (by (with_reducible repeat (first | refine blk_drewN ?_ _ | refine blk_drew ?_ | refine blk_alloc ?_ _)); exact BK225.out)) : gb225 ≠ gb227)); have n6_ := Aside0.mk ((by rw [hg]; exact Nat.ne_of_gt (blk_lt (g := gb225) (o := .cells #[.int .i64 a0_0, .slice (some ad226) l0_1.length c0_1, .int .i64 a0_2, .bool a0_3, .int .i64 a0_4] 27 (0, 0)) (by (with_reducible repeat (first | refine blk_drewN ?_ _ | refine blk_drew ?_ | refine blk_alloc ?_ _)); exact BK225.out)) : gb227 ≠ gb225)); clear BK225; clear HB; have BK225 := n0_; have HB := n1_; have BK227 := n2_; have GW227 := n3_; have GE227 := n4_; have NB225_227 := n5_; have NB227_225 := n6_; clear n0_ n1_ n2_ n3_ n4_ n5_ n6_; clear hb hbox hg; have hnb9 := NB227_225.out; have hnc9 := NB225_227.out; have hcz10_0 : w8.cell? ⟨gb227, 0, none⟩ = some (.int .i64 0) := (blk_cell BK227.out 0).trans rfl; have hcz10_1 : w8.cell? ⟨gb227, 1, none⟩ = some (.int .i64 0) := (blk_cell BK227.out 1).trans rfl; have hcz10_2 : w8.cell? ⟨gb227, 2, none⟩ = some (.slice none 0 0) := (blk_cell BK227.out 2).trans rfl; have hcz10_3 : w8.cell? ⟨gb227, 3, none⟩ = some (.int .i64 0) := (blk_cell BK227.out 3).trans rfl; have hfz10_0 := blk_frozen BK227.out 0; have hfz10_1 := blk_frozen BK227.out 1; have hfz10_2 := blk_frozen BK227.out 2; have hfz10_3 := blk_frozen BK227.out 3))
       go_roundg k1
       case measure => have := HK1.out; omega
       case rel => exact ⟨(wrap64 (x2_1 + 1)), (wrap64 (x8_1 + 1)), (by first | rfl | (simp; done) | (simp [*]; done)), (by first | rfl | (simp; done) | (simp [*]; done)), H', ⟨by have := HK1.out; omega⟩, ⟨by (with_reducible repeat (first | refine blk_drewN ?_ _ | refine blk_drew ?_ | refine blk_alloc ?_ _)); refine blk_far ?_ NB225_227.out _; (with_reducible repeat (first | refine blk_drewN ?_ _ | refine blk_drew ?_ | refine blk_alloc ?_ _)); refine blk_far ?_ NB225_227.out _; (with_reducible repeat (first | refine blk_drewN ?_ _ | refine blk_drew ?_ | refine blk_alloc ?_ _)); refine blk_far ?_ NB225_227.out _; (with_reducible repeat (first | refine blk_drewN ?_ _ | refine blk_drew ?_ | refine blk_alloc ?_ _)); refine blk_far ?_ NB225_227.out _; (with_reducible repeat (first | refine blk_drewN ?_ _ | refine blk_drew ?_ | refine blk_alloc ?_ _)); exact BK225.out⟩, ⟨by repeat (first | (with_reducible first | exact HB.out | apply below_alloc | apply pw_below_drewN | apply below_drew1 | refine below_set ?_ GE225.out | refine below_set ?_ GE227.out) | exact HB.out)⟩⟩
      ·rw [if_neg c7] at H
       have c7b0 : (((rd_T52 l0_1 x8_1).f0) == 0) = false := beq_eq_false_iff_ne.mpr c7
       have c7b1 : (((rd_T52 l0_1 x8_1).f0) != 0) = true := bne_iff_ne.mpr c7
       have H' := Aside0.mk H
       clear H
       have p226 : 0 ≤ (x8_1 : Int) := of_decide_eq_true (by first | (with_reducible assumption) | assumption)
       have q226 : x8_1 < (l0_1.length : Int) := of_decide_eq_true (by first | (with_reducible assumption) | assumption)
       obtain ⟨ad226, A226_2, c226_2, e226, hx226_0, hx226_1, hx226_2, hx226_3, hl226_2, hi226_2⟩ := at_T52 HR0_1.out x8_1 p226 q226
       cases e226
       replace hx226_0 := (HB.out.cell (World.block_lt_of_cell? w _ hx226_0)).trans hx226_0
       replace hx226_1 := (HB.out.cell (World.block_lt_of_cell? w _ hx226_1)).trans hx226_1
       replace hx226_2 := (HB.out.cell (World.block_lt_of_cell? w _ hx226_2)).trans hx226_2
       replace hx226_3 := (HB.out.cell (World.block_lt_of_cell? w _ hx226_3)).trans hx226_3
       have HR226_2 := Aside0.mk hi226_2
       have HC226_2 := Aside0.mk hl226_2
       clear hi226_2 hl226_2
       replace p226 := eq_true p226
       replace q226 := eq_true q226
       go_wp2_with (first | ((with_reducible refine gate_dst (N := 4) rfl ?_); refine box_event ?hg (N := 4) ?hd (cs := #[.int .i64 0, .int .i64 0, .slice none 0 0, .int .i64 0]) (t := 52) ?hr ?_; (case hd => rfl); (case hg => rfl); (case hr => first | (go_simp; done) | (go_simp; rfl)); intro gb227 hg w11 hbox hb; have n0_ := Aside0.mk (blk_below (g := gb225) (o := .cells #[.int .i64 a0_0, .slice (some ad226) l0_1.length c0_1, .int .i64 a0_2, .bool a0_3, .int .i64 a0_4] 27 (0, 0)) (by (with_reducible repeat (first | refine blk_drewN ?_ _ | refine blk_drew ?_ | refine blk_alloc ?_ _)); exact BK225.out) hb); have n1_ := Aside0.mk (below_step (by repeat (first | (with_reducible first | exact HB.out | apply below_alloc | apply pw_below_drewN | apply below_drew1 | refine below_set ?_ GE225.out) | exact HB.out)) hb); have n2_ := Aside0.mk (hbox); have n3_ := Aside0.mk ((by rw [hg]; exact (below_size (by repeat (first | (with_reducible first | exact HB.out | apply below_alloc | apply pw_below_drewN | apply below_drew1 | refine below_set ?_ GE225.out) | exact HB.out))) : w.heap.size ≤ gb227)); have n4_ := Aside0.mk ((by rw [hg]; exact (below_size (by repeat (first | (with_reducible first | exact HB.out | apply below_alloc | apply pw_below_drewN | apply below_drew1 | refine below_set ?_ GE225.out) | exact HB.out))) : w.heap.size ≤ gb227)); have n5_ := Aside0.mk ((by rw [hg]; exact Nat.ne_of_lt (blk_lt (g := gb225) (o := .cells #[.int .i64 a0_0, .slice (some ad226) l0_1.length c0_1, .int .i64 a0_2, .bool a0_3, .int .i64 a0_4] 27 (0, 0)) (by (with_reducible repeat (first | refine blk_drewN ?_ _ | refine blk_drew ?_ | refine blk_alloc ?_ _)); exact BK225.out)) : gb225 ≠ gb227)); have n6_ := Aside0.mk ((by rw [hg]; exact Nat.ne_of_gt (blk_lt (g := gb225) (o := .cells #[.int .i64 a0_0, .slice (some ad226) l0_1.length c0_1, .int .i64 a0_2, .bool a0_3, .int .i64 a0_4] 27 (0, 0)) (by (with_reducible repeat (first | refine blk_drewN ?_ _ | refine blk_drew ?_ | refine blk_alloc ?_ _)); exact BK225.out)) : gb227 ≠ gb225)); clear BK225; clear HB; have BK225 := n0_; have HB := n1_; have BK227 := n2_; have GW227 := n3_; have GE227 := n4_; have NB225_227 := n5_; have NB227_225 := n6_; clear n0_ n1_ n2_ n3_ n4_ n5_ n6_; clear hb hbox hg; have hnb12 := NB227_225.out; have hnc12 := NB225_227.out; have hcz13_0 : w11.cell? ⟨gb227, 0, none⟩ = some (.int .i64 0) := (blk_cell BK227.out 0).trans rfl; have hcz13_1 : w11.cell? ⟨gb227, 1, none⟩ = some (.int .i64 0) := (blk_cell BK227.out 1).trans rfl; have hcz13_2 : w11.cell? ⟨gb227, 2, none⟩ = some (.slice none 0 0) := (blk_cell BK227.out 2).trans rfl; have hcz13_3 : w11.cell? ⟨gb227, 3, none⟩ = some (.int .i64 0) := (blk_cell BK227.out 3).trans rfl; have hfz13_0 := blk_frozen BK227.out 0; have hfz13_1 := blk_frozen BK227.out 1; have hfz13_2 := blk_frozen BK227.out 2; have hfz13_3 := blk_frozen BK227.out 3))
       go_roundg k1
       case measure => have := HK1.out; omega
       case rel => exact ⟨(x2_1), (wrap64 (x8_1 + 1)), (by first | rfl | (simp; done) | (simp [*]; done)), (by first | rfl | (simp; done) | (simp [*]; done)), H', ⟨by have := HK1.out; omega⟩, ⟨by (with_reducible repeat (first | refine blk_drewN ?_ _ | refine blk_drew ?_ | refine blk_alloc ?_ _)); refine blk_far ?_ NB225_227.out _; (with_reducible repeat (first | refine blk_drewN ?_ _ | refine blk_drew ?_ | refine blk_alloc ?_ _)); refine blk_far ?_ NB225_227.out _; (with_reducible repeat (first | refine blk_drewN ?_ _ | refine blk_drew ?_ | refine blk_alloc ?_ _)); refine blk_far ?_ NB225_227.out _; (with_reducible repeat (first | refine blk_drewN ?_ _ | refine blk_drew ?_ | refine blk_alloc ?_ _)); refine blk_far ?_ NB225_227.out _; (with_reducible repeat (first | refine blk_drewN ?_ _ | refine blk_drew ?_ | refine blk_alloc ?_ _)); exact BK225.out⟩, ⟨by repeat (first | (with_reducible first | exact HB.out | apply below_alloc | apply pw_below_drewN | apply below_drew1 | refine below_set ?_ GE225.out | refine below_set ?_ GE227.out) | exact HB.out)⟩⟩
     ·rw [if_neg c6] at H
      exact absurd H (by simp)
    ·rw [if_neg c5] at H
     exact absurd H (by simp)
   ·rw [if_neg c4] at H
    have c4b0 : decide (x8_1 < (l0_1.length : Int)) = false := decide_eq_false c4
    clear c4
    obtain rfl := Option.some.inj H
    go_wp2
    go_ret
    exact ⟨by first | rfl | (simp [errW_none, errW_some] <;> rfl) | (simp [*, errW_none, errW_some] <;> rfl), by repeat (first | (with_reducible first | exact HB.out | apply below_alloc | apply pw_below_drewN | apply below_drew1 | refine below_set ?_ GE225.out) | exact HB.out)⟩
-- GIVEN: function 15 (waggonerlaw06_awake)
end Go.Proofs.Ytdgefplbfffenaa.X
namespace Go.Proofs.Ytdgefplbfffenaa.X
open Go.RowKit Go.Proofs.YtdgefplbfffenaaW.PrintWords Go.Proofs.YtdgefplbfffenaaW.PrintLast Go.Proofs.YtdgefplbfffenaaW.PrintMore
def bytes_Clone.f (l0 : List Int) : Option (List Int) := if l0.length < 140737488355328 then some l0 else none
set_option maxHeartbeats 4000000 in
set_option maxRecDepth 100000 in
theorem bytes_Clone.calls (A0 : Option Addr) (c0 : Nat) (l0 : List Int) (r : List Int) (w : World) (hr0 : Kd.C (Kd.int .u8) w A0 l0.length l0) (hc0 : l0.length ≤ c0) (h : bytes_Clone.f l0 = some r) :
    Calls Try.prog 70 #[.slice A0 l0.length c0] w fun e w' => ∃ v0_ : Value, e = .returned (v0_) ∧ Kd.R (Kd.int .u8) 5 w' w.heap.size (fun _ => True) v0_ r ∧ Below w.heap.size w w' := by
  unfold bytes_Clone.f at h
  split at h
  · rename_i hlen
    obtain rfl := Option.some.inj h
    clear h
    have HR0 := Aside0.mk hr0
    have HL := Aside0.mk hlen
    clear hr0 hc0 hlen
    cases A0 with
    | none =>
      have h0 : l0 = [] := by
        rcases Nat.eq_zero_or_pos l0.length with h0 | h0
        · exact List.eq_nil_of_length_eq_zero h0
        · obtain ⟨ad, h, _⟩ := HR0.out.2.2 h0
          cases h
      subst h0
      have qT : ∀ (w : World) (a : Option Addr) (n c n' c' : Nat), (binOp .eql 34 (.slice a n c) (.slice none n' c')).run Try.prog w = .ok (.bool a.isNone) w := fun w a n c n' c' => Lib.run_eql_slice_nil w _ _ a n c n' c' Try.underlying34
      go_enter Try.func70, Try.ntmps70
      go_wp2
      go_ret
      exact ⟨_, rfl, Kd.R_nil _ _ _ _ _, Below.refl _ _⟩
    | some ad =>
      have qT : ∀ (w : World) (a : Option Addr) (n c n' c' : Nat), (binOp .eql 34 (.slice a n c) (.slice none n' c')).run Try.prog w = .ok (.bool a.isNone) w := fun w a n c n' c' => Lib.run_eql_slice_nil w _ _ a n c n' c' Try.underlying34
      go_enter Try.func70, Try.ntmps70
      go_wp2_with (first
        | ((with_reducible refine gate_dst (N := 5) rfl ?_); refine Kd.R_lit (Kd.int .u8) (w0 := w) w.heap.size 5 ?hg (N := 5) ?hd (xs := ([] : List Int)) (inner := []) (ok := fun _ => True) (okp := fun _ => True) ?hr ?hp (fun _ hk => hk) trivial (Below.refl _ _) (Nat.le_refl _) (by simp) ?_; (case hd => rfl); (case hg => rfl); (case hr => first | (go_simp; done) | (go_simp; rfl)); (case hp => exact (Reps.none _ _)); intro v1 w1 hR1 hB1 _ _)
        | (at_builtin; refine Kd.R_append_rows (Kd.int .u8) (w0 := w) w.heap.size rfl (.tmp 5) (.tmp 6) 34 5 (.int .u8 0) 1 rfl Try.underlying34 info5 rfl (by decide) (by omega) v1 [] l0 _ _ _ (fun _ => True) (fun _ => False) rfl rfl hR1 (Kd.C_below HR0.out hB1) (fun _ _ h => h) (fun _ h => h.elim) (fun _ _ => trivial) hB1 hB1.size ?_ ?_; (case _ => have := HL.out; simp; omega); intro v2 w2 hR2 hB2 _ _))
      go_ret
      exact ⟨_, rfl, hR2, hB2⟩
  · cases h
end Go.Proofs.Ytdgefplbfffenaa.X
namespace Go.Proofs.Ytdgefplbfffenaa.X
open Go.RowKit Go.Proofs.YtdgefplbfffenaaW.PrintWords Go.Proofs.YtdgefplbfffenaaW.PrintLast Go.Proofs.YtdgefplbfffenaaW.PrintMore
def halves : Array Value := #[.int .u32 0, .int .u32 274646895, .int .u32 549293790, .int .u32 820201905, .int .u32 1098587580, .int .u32 1361435347, .int .u32 1640403810, .int .u32 1905808397, .int .u32 2197175160, .int .u32 2460548119, .int .u32 2722870694, .int .u32 2987750089, .int .u32 3280807620, .int .u32 3553878443, .int .u32 3811616794, .int .u32 4084100981]
set_option maxHeartbeats 4000000 in
set_option maxRecDepth 100000 in
theorem halves_calls (w : World) : Calls Try.prog 108 #[] w fun e w' => e = .returned (.agg halves) ∧ Below w.heap.size w w' := by
  have hu148 := Try.underlying148
  go_enter Try.func108, Try.ntmps108
  go_wp2
  refine bodyPost_ret (results_cell_row rfl _ _ w.heap.size 148 halves (0, 0) _ rfl (blk_new _ _) Try.underlying148 rfl (by kernel_rfl)) rfl ?_
  exact ⟨rfl, below_alloc (Below.refl _ _) _⟩
end Go.Proofs.Ytdgefplbfffenaa.X
namespace Go.Proofs.Ytdgefplbfffenaa.X
open Go.RowKit Go.Proofs.YtdgefplbfffenaaW.PrintWords Go.Proofs.YtdgefplbfffenaaW.PrintLast Go.Proofs.YtdgefplbfffenaaW.PrintMore
theorem u32_and15 (n : Int) : bits .and .u32 n 15 = n % 16 := by
  have h15 : (BitVec.ofInt 32 15).toNat = 2 ^ 4 - 1 := by decide
  have key : (BitVec.ofInt 32 n &&& BitVec.ofInt 32 15).toNat = (n % ((2 ^ 32 : Nat) : Int)).toNat % 2 ^ 4 := by
    rw [BitVec.toNat_and, BitVec.toNat_ofInt, h15, Nat.and_two_pow_sub_one_eq_mod]
  show IntKind.u32.wrap ((BitVec.ofInt 32 n &&& BitVec.ofInt 32 15).toNat : Nat) = n % 16
  rw [key, IntKind.wrap_u32]
  omega
theorem and15_lo (y : Int) : 0 ≤ bits .and .u32 y 15 := by rw [u32_and15]; omega
theorem and15_hi (y : Int) : bits .and .u32 y 15 < 16 := by rw [u32_and15]; omega
def tabI (k : Nat) : Int := [0, 274646895, 549293790, 820201905, 1098587580, 1361435347, 1640403810, 1905808397, 2197175160, 2460548119, 2722870694, 2987750089, 3280807620, 3553878443, 3811616794, 4084100981].getD k 0
theorem tab_cell {W : World} {T : Nat} (h : W.heap[T]? = some (.cells halves 148 (0, 0))) (y : Int) : W.cell? ⟨T, (bits .and .u32 y 15).toNat, none⟩ = some (.int .u32 (tabI (bits .and .u32 y 15).toNat)) := by
  rw [blk_cell h, u32_and15]
  have hk : ∀ k : Fin 16, halves[k.val]? = some (.int .u32 (tabI k.val)) := by
    intro k
    match k with
    | ⟨0, _⟩ => rfl
    | ⟨1, _⟩ => rfl | ⟨2, _⟩ => rfl | ⟨3, _⟩ => rfl | ⟨4, _⟩ => rfl | ⟨5, _⟩ => rfl | ⟨6, _⟩ => rfl | ⟨7, _⟩ => rfl
    | ⟨8, _⟩ => rfl | ⟨9, _⟩ => rfl | ⟨10, _⟩ => rfl | ⟨11, _⟩ => rfl | ⟨12, _⟩ => rfl | ⟨13, _⟩ => rfl | ⟨14, _⟩ => rfl | ⟨15, _⟩ => rfl | ⟨n + 16, h⟩ => exact absurd h (by omega)
  exact hk ⟨(y % 16).toNat, by omega⟩
def crcHalf (y : Int) : Int := bits .xor .u32 (y / 16) (tabI (bits .and .u32 y 15).toNat)
def crcStep (x u : Int) : Int := crcHalf (crcHalf (bits .xor .u32 x (u % 4294967296)))
def crc_More.f (a0 : Int) (l1 : List Int) : Option Int := some (bits .xor .u32 (l1.foldl crcStep (bits .xor .u32 a0 4294967295)) 4294967295)
theorem cellU8 {w : World} {A : Option Addr} {l : List Int} (h : (Kd.int .u8).C w A l.length l) (i : Nat) (hi : i < l.length) : ∃ ad : Addr, ∃ _x : Unit, A = some ad ∧ w.cell? (ad.add i) = some (.int .u8 l[i]) := by
  obtain ⟨ad, c, hA, _, hK, hc⟩ := Kd.C_get h (0 : Int) (i : Int) (by omega) (by omega)
  have hK' : c = [.int .u8 l[i]] := by
    have h2 : c = [.int .u8 (l.getD (i : Int).toNat 0)] := hK
    rw [h2, Int.toNat_natCast, List.getD_eq_getElem?_getD, List.getElem?_eq_getElem hi]; rfl
  have h3 := hc 0 _ (by rw [hK']; rfl)
  refine ⟨ad, (), hA, ?_⟩
  rw [show (i : Int).toNat * (Kd.int .u8).sz + 0 = i from by show (i : Int).toNat * 1 + 0 = i; omega] at h3
  exact h3
set_option maxHeartbeats 8000000 in
set_option maxRecDepth 100000 in
theorem crc_More.calls (a0 : Int) (A1 : Option Addr) (c1 : Nat) (l1 : List Int) (r : Int) (w : World) (hr1 : Kd.C (Kd.int .u8) w A1 l1.length l1) (hc1 : l1.length ≤ c1) (h : crc_More.f a0 l1 = some r) :
    Calls Try.prog 96 #[.int .u32 a0, .slice A1 l1.length c1] w fun e w' => e = .returned (.int .u32 r) ∧ Below w.heap.size w w' := by
  obtain rfl := Option.some.inj h
  clear h
  have hu148 := Try.underlying148
  go_enter Try.func96, Try.ntmps96
  go_wp2_with fail
  refine (halves_calls w).mono ?_
  rintro e w0 ⟨rfl, hb⟩
  unfold halves
  have HC := Aside0.mk hr1
  have HB := Aside0.mk hb
  have hlen : l1.length ≤ 9223372036854775807 := hr1.2.1
  clear hr1 hb
  go_wp2_with fail
  have bT := Aside0.mk (show (w0.alloc (.cells halves 148)).heap[w0.heap.size]? = some (.cells halves 148 (0, 0)) from blk_new _ _)
  have HB2 := Aside0.mk (HB.out.alloc HB.out.size (.cells halves 148))
  have hTS := Aside0.mk (show w.heap.size ≤ w0.heap.size from HB.out.size)
  have hw : w0.alloc (.cells halves 148) = _ := rfl
  conv at hw => rhs; unfold halves
  rw [← hw]
  clear hw
  generalize w0.alloc (.cells halves 148) = W at *
  generalize w0.heap.size = T at *
  go_loopw [0, 13] (fun v0 v13 wr => ∃ (i : Nat), v13 = .int .i64 i ∧ v0 = .int .u32 ((l1.take i).foldl crcStep (bits .xor .u32 a0 4294967295)) ∧ i ≤ l1.length ∧ wr = W) (fun _ v13 _ => l1.length - (intOf v13).toNat)
  case atStart => exact ⟨0, rfl, rfl, Nat.zero_le _, rfl⟩
  case round =>
    obtain ⟨i, rfl, rfl, hi, rfl⟩ := hrel
    by_cases hlt : i < l1.length
    · obtain ⟨ad, _, rfl, hc⟩ := cellU8 (Kd.C_below HC.out HB2.out) i hlt
      have hst : (l1.take (i + 1)).foldl crcStep (bits .xor .u32 a0 4294967295) = crcStep ((l1.take i).foldl crcStep (bits .xor .u32 a0 4294967295)) l1[i] := by
        rw [List.take_succ_eq_append_getElem hlt, List.foldl_append]; rfl
      have HST := Aside0.mk hst
      clear hst
      generalize (l1.take i).foldl crcStep (bits .xor .u32 a0 4294967295) = x at *
      generalize l1[i] = u at *
      have p1 := and15_lo (bits .xor .u32 x (u % 4294967296))
      have p2 := and15_hi (bits .xor .u32 x (u % 4294967296))
      have p3 := and15_lo (bits .xor .u32 (bits .xor .u32 x (u % 4294967296) / 16) (tabI (bits .and .u32 (bits .xor .u32 x (u % 4294967296)) 15).toNat))
      have p4 := and15_hi (bits .xor .u32 (bits .xor .u32 x (u % 4294967296) / 16) (tabI (bits .and .u32 (bits .xor .u32 x (u % 4294967296)) 15).toNat))
      have t1 := tab_cell bT.out (bits .xor .u32 x (u % 4294967296))
      have t2 := tab_cell bT.out (bits .xor .u32 (bits .xor .u32 x (u % 4294967296) / 16) (tabI (bits .and .u32 (bits .xor .u32 x (u % 4294967296)) 15).toNat))
      go_wp2
      go_roundw
      case rel => exact ⟨i + 1, by go_num, by rw [HST.out]; rfl, by omega, trivial⟩
      case measure => simp [intOf]; omega
    · obtain rfl : i = l1.length := by omega
      rw [List.take_length]
      go_wp2
      go_ret
      exact ⟨rfl, HB2.out⟩
end Go.Proofs.Ytdgefplbfffenaa.X
namespace Go.Proofs.Ytdgefplbfffenaa.X
open Go.RowKit Go.Proofs.YtdgefplbfffenaaW.PrintWords Go.Proofs.YtdgefplbfffenaaW.PrintLast Go.Proofs.YtdgefplbfffenaaW.PrintMore
end Go.Proofs.Ytdgefplbfffenaa.X
namespace Go.Proofs.Ytdgefplbfffenaa.X
open Go.RowKit Go.Proofs.YtdgefplbfffenaaW.PrintWords Go.Proofs.YtdgefplbfffenaaW.PrintLast Go.Proofs.YtdgefplbfffenaaW.PrintMore
attribute [local go_sem] max2_int min2_int max_two min_two max_three min_three max_four min_four   -- for this text's walks alone
set_option linter.unusedVariables false
set_option linter.unusedSimpArgs false
-- NOT PRINTED: function 6 (waggonerlaw06_LogFull)
-- GIVEN: function 25 (log_All)
-- NOT PRINTED: function 8 (waggonerlaw06_LogFinds)
-- GIVEN: function 30 (dev_Crash)
-- NOT PRINTED: function 9 (waggonerlaw06_LogCrash)
def bytes_Equal.f (l0 : List Int) (l1 : List Int) : Option (Bool) := some ((strOfNums l0).toList == (strOfNums l1).toList)
set_option maxHeartbeats 8000000 in
set_option maxRecDepth 100000 in
theorem bytes_Equal.calls (A0 : Option Addr) (c0 : Nat) (l0 : List Int) (A1 : Option Addr) (c1 : Nat) (l1 : List Int) (r : Bool) (w : World) (hr0 : Kd.C (Kd.int .u8) w A0 l0.length l0) (hc0 : l0.length ≤ c0) (hr1 : Kd.C (Kd.int .u8) w A1 l1.length l1) (hc1 : l1.length ≤ c1) (h : bytes_Equal.f l0 l1 = some r) :
  Calls Try.prog 102 #[.slice A0 l0.length c0, .slice A1 l1.length c1] w fun e w' => e = .returned (.bool r) ∧ Drawn0 w w' := by
 have HR0 := Aside0.mk hr0
 have HC0 := Aside0.mk hc0
 clear hr0 hc0
 have HR1 := Aside0.mk hr1
 have HC1 := Aside0.mk hc1
 clear hr1 hc1
 have H : (some ((strOfNums l0).toList == (strOfNums l1).toList)) = some r := h
 clear h
 obtain rfl := Option.some.inj H
 have hcv3 := Kd.C_string (P := Try.prog) (A := A0) (c := c0) Try.underlying34 Try.underlying5 Try.underlying9 HR0.out
 have hcv4 := Kd.C_string (P := Try.prog) (A := A1) (c := c1) Try.underlying34 Try.underlying5 Try.underlying9 HR1.out
 go_enter Try.func102, Try.ntmps102
 go_wp2
 go_ret
 exact ⟨by first | rfl | (simp; done) | (simp [*]; done), by repeat (first | exact Drawn0.refl _ | apply Drawn0.step)⟩
def zone_takes.f (a0_0 : Int) (a0_1 : Int) (l0_2 : List Int) (a0_3 : Int) : Option (Bool) := if a0_0 = 0 then (some true) else (if a0_0 = 1 then (some true) else (if a0_0 = 2 then (some true) else (some false)))
set_option maxHeartbeats 8000000 in
set_option maxRecDepth 100000 in
theorem zone_takes.calls (a0_0 : Int) (a0_1 : Int) (A0_2 : Option Addr) (c0_2 : Nat) (l0_2 : List Int) (a0_3 : Int) (r : Bool) (w : World) (hr0_2 : Kd.C (Kd.int .u8) w A0_2 l0_2.length l0_2) (hc0_2 : l0_2.length ≤ c0_2) (h : zone_takes.f a0_0 a0_1 l0_2 a0_3 = some r) :
  Calls Try.prog 68 #[.agg #[.int .i64 a0_0, .int .i64 a0_1, .slice A0_2 l0_2.length c0_2, .int .i64 a0_3]] w fun e w' => e = .returned (.bool r) ∧ Below w.heap.size w w' := by
 have hu52 := Try.underlying52
 have HR0_2 := Aside0.mk hr0_2
 have HC0_2 := Aside0.mk hc0_2
 clear hr0_2 hc0_2
 have HB := Aside0.mk (Below.refl w.heap.size w)
 have H : (if a0_0 = 0 then (some true) else (if a0_0 = 1 then (some true) else (if a0_0 = 2 then (some true) else (some false)))) = some r := h
 clear h
 by_cases c2 : a0_0 = 0
 ·rw [if_pos c2] at H
  have c2b0 : (a0_0 == 0) = true := beq_iff_eq.mpr c2
  have c2b1 : (a0_0 != 0) = false := bne_eq_false_iff_eq.mpr c2
  clear c2
  obtain rfl := Option.some.inj H
  go_enter Try.func68, Try.ntmps68
  go_wp2_with (first | ((with_reducible refine gate_dst (N := 1) rfl ?_); refine box_event ?hg (N := 1) ?hd (cs := #[.int .i64 a0_0, .int .i64 a0_1, .slice A0_2 l0_2.length c0_2, .int .i64 a0_3]) (t := 52) ?hr ?_; (case hd => rfl); (case hg => rfl); (case hr => first | (go_simp; done) | (go_simp; rfl)); intro gb516 hg w3 hbox hb; have n0_ := Aside0.mk (below_step (by repeat (first | (with_reducible first | exact HB.out | apply below_alloc | apply pw_below_drewN | apply below_drew1) | exact HB.out)) hb); have n1_ := Aside0.mk (hbox); have n2_ := Aside0.mk ((by rw [hg]; exact (below_size (by repeat (first | (with_reducible first | exact HB.out | apply below_alloc | apply pw_below_drewN | apply below_drew1) | exact HB.out))) : w.heap.size ≤ gb516)); have n3_ := Aside0.mk ((by rw [hg]; exact (below_size (by repeat (first | (with_reducible first | exact HB.out | apply below_alloc | apply pw_below_drewN | apply below_drew1) | exact HB.out))) : w.heap.size ≤ gb516)); clear HB; have HB := n0_; have BK516 := n1_; have GW516 := n2_; have GE516 := n3_; clear n0_ n1_ n2_ n3_; clear hb hbox hg; have hcz4_0 : w3.cell? ⟨gb516, 0, none⟩ = some (.int .i64 a0_0) := (blk_cell BK516.out 0).trans rfl; have hcz4_1 : w3.cell? ⟨gb516, 1, none⟩ = some (.int .i64 a0_1) := (blk_cell BK516.out 1).trans rfl; have hcz4_2 : w3.cell? ⟨gb516, 2, none⟩ = some (.slice A0_2 l0_2.length c0_2) := (blk_cell BK516.out 2).trans rfl; have hcz4_3 : w3.cell? ⟨gb516, 3, none⟩ = some (.int .i64 a0_3) := (blk_cell BK516.out 3).trans rfl; have hfz4_0 := blk_frozen BK516.out 0; have hfz4_1 := blk_frozen BK516.out 1; have hfz4_2 := blk_frozen BK516.out 2; have hfz4_3 := blk_frozen BK516.out 3))
  go_ret
  exact ⟨by first | rfl | (simp [errW_none, errW_some] <;> rfl) | (simp [*, errW_none, errW_some] <;> rfl), by repeat (first | (with_reducible first | exact HB.out | apply below_alloc | apply pw_below_drewN | apply below_drew1 | refine below_set ?_ GE516.out) | exact HB.out)⟩
 ·rw [if_neg c2] at H
  have c2b0 : (a0_0 == 0) = false := beq_eq_false_iff_ne.mpr c2
  have c2b1 : (a0_0 != 0) = true := bne_iff_ne.mpr c2
  by_cases c5 : a0_0 = 1
  ·rw [if_pos c5] at H
   have c5b0 : (a0_0 == 1) = true := beq_iff_eq.mpr c5
   have c5b1 : (a0_0 != 1) = false := bne_eq_false_iff_eq.mpr c5
   clear c5
   obtain rfl := Option.some.inj H
   go_enter Try.func68, Try.ntmps68
   go_wp2_with (first | ((with_reducible refine gate_dst (N := 1) rfl ?_); refine box_event ?hg (N := 1) ?hd (cs := #[.int .i64 a0_0, .int .i64 a0_1, .slice A0_2 l0_2.length c0_2, .int .i64 a0_3]) (t := 52) ?hr ?_; (case hd => rfl); (case hg => rfl); (case hr => first | (go_simp; done) | (go_simp; rfl)); intro gb516 hg w6 hbox hb; have n0_ := Aside0.mk (below_step (by repeat (first | (with_reducible first | exact HB.out | apply below_alloc | apply pw_below_drewN | apply below_drew1) | exact HB.out)) hb); have n1_ := Aside0.mk (hbox); have n2_ := Aside0.mk ((by rw [hg]; exact (below_size (by repeat (first | (with_reducible first | exact HB.out | apply below_alloc | apply pw_below_drewN | apply below_drew1) | exact HB.out))) : w.heap.size ≤ gb516)); have n3_ := Aside0.mk ((by rw [hg]; exact (below_size (by repeat (first | (with_reducible first | exact HB.out | apply below_alloc | apply pw_below_drewN | apply below_drew1) | exact HB.out))) : w.heap.size ≤ gb516)); clear HB; have HB := n0_; have BK516 := n1_; have GW516 := n2_; have GE516 := n3_; clear n0_ n1_ n2_ n3_; clear hb hbox hg; have hcz7_0 : w6.cell? ⟨gb516, 0, none⟩ = some (.int .i64 a0_0) := (blk_cell BK516.out 0).trans rfl; have hcz7_1 : w6.cell? ⟨gb516, 1, none⟩ = some (.int .i64 a0_1) := (blk_cell BK516.out 1).trans rfl; have hcz7_2 : w6.cell? ⟨gb516, 2, none⟩ = some (.slice A0_2 l0_2.length c0_2) := (blk_cell BK516.out 2).trans rfl; have hcz7_3 : w6.cell? ⟨gb516, 3, none⟩ = some (.int .i64 a0_3) := (blk_cell BK516.out 3).trans rfl; have hfz7_0 := blk_frozen BK516.out 0; have hfz7_1 := blk_frozen BK516.out 1; have hfz7_2 := blk_frozen BK516.out 2; have hfz7_3 := blk_frozen BK516.out 3))
   go_ret
   exact ⟨by first | rfl | (simp [errW_none, errW_some] <;> rfl) | (simp [*, errW_none, errW_some] <;> rfl), by repeat (first | (with_reducible first | exact HB.out | apply below_alloc | apply pw_below_drewN | apply below_drew1 | refine below_set ?_ GE516.out) | exact HB.out)⟩
  ·rw [if_neg c5] at H
   have c5b0 : (a0_0 == 1) = false := beq_eq_false_iff_ne.mpr c5
   have c5b1 : (a0_0 != 1) = true := bne_iff_ne.mpr c5
   by_cases c8 : a0_0 = 2
   ·rw [if_pos c8] at H
    have c8b0 : (a0_0 == 2) = true := beq_iff_eq.mpr c8
    have c8b1 : (a0_0 != 2) = false := bne_eq_false_iff_eq.mpr c8
    clear c8
    obtain rfl := Option.some.inj H
    go_enter Try.func68, Try.ntmps68
    go_wp2_with (first | ((with_reducible refine gate_dst (N := 1) rfl ?_); refine box_event ?hg (N := 1) ?hd (cs := #[.int .i64 a0_0, .int .i64 a0_1, .slice A0_2 l0_2.length c0_2, .int .i64 a0_3]) (t := 52) ?hr ?_; (case hd => rfl); (case hg => rfl); (case hr => first | (go_simp; done) | (go_simp; rfl)); intro gb516 hg w9 hbox hb; have n0_ := Aside0.mk (below_step (by repeat (first | (with_reducible first | exact HB.out | apply below_alloc | apply pw_below_drewN | apply below_drew1) | exact HB.out)) hb); have n1_ := Aside0.mk (hbox); have n2_ := Aside0.mk ((by rw [hg]; exact (below_size (by repeat (first | (with_reducible first | exact HB.out | apply below_alloc | apply pw_below_drewN | apply below_drew1) | exact HB.out))) : w.heap.size ≤ gb516)); have n3_ := Aside0.mk ((by rw [hg]; exact (below_size (by repeat (first | (with_reducible first | exact HB.out | apply below_alloc | apply pw_below_drewN | apply below_drew1) | exact HB.out))) : w.heap.size ≤ gb516)); clear HB; have HB := n0_; have BK516 := n1_; have GW516 := n2_; have GE516 := n3_; clear n0_ n1_ n2_ n3_; clear hb hbox hg; have hcz10_0 : w9.cell? ⟨gb516, 0, none⟩ = some (.int .i64 a0_0) := (blk_cell BK516.out 0).trans rfl; have hcz10_1 : w9.cell? ⟨gb516, 1, none⟩ = some (.int .i64 a0_1) := (blk_cell BK516.out 1).trans rfl; have hcz10_2 : w9.cell? ⟨gb516, 2, none⟩ = some (.slice A0_2 l0_2.length c0_2) := (blk_cell BK516.out 2).trans rfl; have hcz10_3 : w9.cell? ⟨gb516, 3, none⟩ = some (.int .i64 a0_3) := (blk_cell BK516.out 3).trans rfl; have hfz10_0 := blk_frozen BK516.out 0; have hfz10_1 := blk_frozen BK516.out 1; have hfz10_2 := blk_frozen BK516.out 2; have hfz10_3 := blk_frozen BK516.out 3))
    go_ret
    exact ⟨by first | rfl | (simp [errW_none, errW_some] <;> rfl) | (simp [*, errW_none, errW_some] <;> rfl), by repeat (first | (with_reducible first | exact HB.out | apply below_alloc | apply pw_below_drewN | apply below_drew1 | refine below_set ?_ GE516.out) | exact HB.out)⟩
   ·rw [if_neg c8] at H
    have c8b0 : (a0_0 == 2) = false := beq_eq_false_iff_ne.mpr c8
    have c8b1 : (a0_0 != 2) = true := bne_iff_ne.mpr c8
    obtain rfl := Option.some.inj H
    go_enter Try.func68, Try.ntmps68
    go_wp2_with (first | ((with_reducible refine gate_dst (N := 1) rfl ?_); refine box_event ?hg (N := 1) ?hd (cs := #[.int .i64 a0_0, .int .i64 a0_1, .slice A0_2 l0_2.length c0_2, .int .i64 a0_3]) (t := 52) ?hr ?_; (case hd => rfl); (case hg => rfl); (case hr => first | (go_simp; done) | (go_simp; rfl)); intro gb516 hg w11 hbox hb; have n0_ := Aside0.mk (below_step (by repeat (first | (with_reducible first | exact HB.out | apply below_alloc | apply pw_below_drewN | apply below_drew1) | exact HB.out)) hb); have n1_ := Aside0.mk (hbox); have n2_ := Aside0.mk ((by rw [hg]; exact (below_size (by repeat (first | (with_reducible first | exact HB.out | apply below_alloc | apply pw_below_drewN | apply below_drew1) | exact HB.out))) : w.heap.size ≤ gb516)); have n3_ := Aside0.mk ((by rw [hg]; exact (below_size (by repeat (first | (with_reducible first | exact HB.out | apply below_alloc | apply pw_below_drewN | apply below_drew1) | exact HB.out))) : w.heap.size ≤ gb516)); clear HB; have HB := n0_; have BK516 := n1_; have GW516 := n2_; have GE516 := n3_; clear n0_ n1_ n2_ n3_; clear hb hbox hg; have hcz12_0 : w11.cell? ⟨gb516, 0, none⟩ = some (.int .i64 a0_0) := (blk_cell BK516.out 0).trans rfl; have hcz12_1 : w11.cell? ⟨gb516, 1, none⟩ = some (.int .i64 a0_1) := (blk_cell BK516.out 1).trans rfl; have hcz12_2 : w11.cell? ⟨gb516, 2, none⟩ = some (.slice A0_2 l0_2.length c0_2) := (blk_cell BK516.out 2).trans rfl; have hcz12_3 : w11.cell? ⟨gb516, 3, none⟩ = some (.int .i64 a0_3) := (blk_cell BK516.out 3).trans rfl; have hfz12_0 := blk_frozen BK516.out 0; have hfz12_1 := blk_frozen BK516.out 1; have hfz12_2 := blk_frozen BK516.out 2; have hfz12_3 := blk_frozen BK516.out 3))
    go_ret
    exact ⟨by first | rfl | (simp [errW_none, errW_some] <;> rfl) | (simp [*, errW_none, errW_some] <;> rfl), by repeat (first | (with_reducible first | exact HB.out | apply below_alloc | apply pw_below_drewN | apply below_drew1 | refine below_set ?_ GE516.out) | exact HB.out)⟩
def zone_Check.j0 : Nat → Int → Int → Bool → Int → Int → List Int → Int → Option (Bool)
 | 0, _, _, _, _, _, _, _ => none
 | k + 1, x1, x5, x40, x518000, x518001, x518002, x518003 => if x40 = true then (some false) else (if x518000 = 0 then (some (x5 == 0)) else ((zone_takes.f x518000 x518001 x518002 x518003).bind fun t518 => (if t518 = true then (if x5 > 0 then (some (decide (x5 < x1))) else (some false)) else (some (x518000 == 3)))))
def zone_Check.f (k : Nat) (a0_0 : Int) (a0_1 : Int) (l0_2 : List Int) (a0_3 : Int) (a1 : Int) : Option (Bool) := if a1 < 1 then (zone_Check.j0 k a1 (l0_2.length : Int) true a0_0 a0_1 l0_2 a0_3) else (if a1 > 1048576 then (zone_Check.j0 k a1 (l0_2.length : Int) true a0_0 a0_1 l0_2 a0_3) else (if (l0_2.length : Int) > a1 then (zone_Check.j0 k a1 (l0_2.length : Int) true a0_0 a0_1 l0_2 a0_3) else (if a0_3 < 0 then (zone_Check.j0 k a1 (l0_2.length : Int) true a0_0 a0_1 l0_2 a0_3) else (if a0_3 > (l0_2.length : Int) then (zone_Check.j0 k a1 (l0_2.length : Int) true a0_0 a0_1 l0_2 a0_3) else (if a0_1 < 0 then (zone_Check.j0 k a1 (l0_2.length : Int) true a0_0 a0_1 l0_2 a0_3) else (zone_Check.j0 k a1 (l0_2.length : Int) (decide (a0_1 > 1073741824)) a0_0 a0_1 l0_2 a0_3))))))
set_option maxHeartbeats 8000000 in
set_option maxRecDepth 100000 in
theorem zone_Check.calls (k : Nat) (a0_0 : Int) (a0_1 : Int) (A0_2 : Option Addr) (c0_2 : Nat) (l0_2 : List Int) (a0_3 : Int) (a1 : Int) (r : Bool) (w : World) (hr0_2 : Kd.C (Kd.int .u8) w A0_2 l0_2.length l0_2) (hc0_2 : l0_2.length ≤ c0_2) (h : zone_Check.f k a0_0 a0_1 l0_2 a0_3 a1 = some r) :
  Calls Try.prog 45 #[.agg #[.int .i64 a0_0, .int .i64 a0_1, .slice A0_2 l0_2.length c0_2, .int .i64 a0_3], .int .i64 a1] w fun e w' => e = .returned (.bool r) ∧ Below w.heap.size w w' := by
 have hu52 := Try.underlying52
 have HR0_2 := Aside0.mk hr0_2
 have HC0_2 := Aside0.mk hc0_2
 clear hr0_2 hc0_2
 have HB := Aside0.mk (Below.refl w.heap.size w)
 have H : (if a1 < 1 then (zone_Check.j0 k a1 (l0_2.length : Int) true a0_0 a0_1 l0_2 a0_3) else (if a1 > 1048576 then (zone_Check.j0 k a1 (l0_2.length : Int) true a0_0 a0_1 l0_2 a0_3) else (if (l0_2.length : Int) > a1 then (zone_Check.j0 k a1 (l0_2.length : Int) true a0_0 a0_1 l0_2 a0_3) else (if a0_3 < 0 then (zone_Check.j0 k a1 (l0_2.length : Int) true a0_0 a0_1 l0_2 a0_3) else (if a0_3 > (l0_2.length : Int) then (zone_Check.j0 k a1 (l0_2.length : Int) true a0_0 a0_1 l0_2 a0_3) else (if a0_1 < 0 then (zone_Check.j0 k a1 (l0_2.length : Int) true a0_0 a0_1 l0_2 a0_3) else (zone_Check.j0 k a1 (l0_2.length : Int) (decide (a0_1 > 1073741824)) a0_0 a0_1 l0_2 a0_3))))))) = some r := h
 clear h
 have HC3 := Aside0.mk H
 clear H
 go_enter Try.func45, Try.ntmps45
 go_upto_region 2 with (first | ((with_reducible refine gate_dst (N := 2) rfl ?_); refine box_event ?hg (N := 2) ?hd (cs := #[.int .i64 a0_0, .int .i64 a0_1, .slice A0_2 l0_2.length c0_2, .int .i64 a0_3]) (t := 52) ?hr ?_; (case hd => rfl); (case hg => rfl); (case hr => first | (go_simp; done) | (go_simp; rfl)); intro gb517 hg w4 hbox hb; have n0_ := Aside0.mk (below_step (by repeat (first | (with_reducible first | exact HB.out | apply below_alloc | apply pw_below_drewN | apply below_drew1) | exact HB.out)) hb); have n1_ := Aside0.mk (hbox); have n2_ := Aside0.mk ((by rw [hg]; exact (below_size (by repeat (first | (with_reducible first | exact HB.out | apply below_alloc | apply pw_below_drewN | apply below_drew1) | exact HB.out))) : w.heap.size ≤ gb517)); have n3_ := Aside0.mk ((by rw [hg]; exact (below_size (by repeat (first | (with_reducible first | exact HB.out | apply below_alloc | apply pw_below_drewN | apply below_drew1) | exact HB.out))) : w.heap.size ≤ gb517)); clear HB; have HB := n0_; have BK517 := n1_; have GW517 := n2_; have GE517 := n3_; clear n0_ n1_ n2_ n3_; clear hb hbox hg; have hcz5_0 : w4.cell? ⟨gb517, 0, none⟩ = some (.int .i64 a0_0) := (blk_cell BK517.out 0).trans rfl; have hcz5_1 : w4.cell? ⟨gb517, 1, none⟩ = some (.int .i64 a0_1) := (blk_cell BK517.out 1).trans rfl; have hcz5_2 : w4.cell? ⟨gb517, 2, none⟩ = some (.slice A0_2 l0_2.length c0_2) := (blk_cell BK517.out 2).trans rfl; have hcz5_3 : w4.cell? ⟨gb517, 3, none⟩ = some (.int .i64 a0_3) := (blk_cell BK517.out 3).trans rfl; have hfz5_0 := blk_frozen BK517.out 0; have hfz5_1 := blk_frozen BK517.out 1; have hfz5_2 := blk_frozen BK517.out 2; have hfz5_3 := blk_frozen BK517.out 3))
 (try simp only [Act.put, List.setIfInBounds_toArray, List.set_cons_zero, List.set_cons_succ])
 go_cut [40] (fun v40 wc => ∃ (kq : Nat) (x40_2 : Bool), v40 = .bool x40_2 ∧ Aside0 (zone_Check.j0 kq a1 (l0_2.length : Int) x40_2 a0_0 a0_1 l0_2 a0_3 = some r) ∧ Aside0 (kq ≤ k) ∧ Aside0 (wc.heap[gb517]? = some (.cells #[.int .i64 a0_0, .int .i64 a0_1, (.slice A0_2 l0_2.length c0_2), .int .i64 a0_3] 52 (0, 0))) ∧ Aside0 (Below w.heap.size w wc))
 case first =>
  have H := HC3.out
  clear HC3
  by_cases c6 : a1 < 1
  ·rw [if_pos c6] at H
   have c6b0 : decide (a1 < 1) = true := decide_eq_true c6
   clear c6
   (first | rw [c6b0] | (simp only [i64_w, i32_w]; rw [c6b0]) | skip)
   have H' := Aside0.mk H
   clear H
   go_wp2
   go_meet
   case rel => exact ⟨_, (true), (by first | rfl | (simp; done) | (simp [*]; done)), H', ⟨by first | omega | exact Nat.le_refl _⟩, ⟨by (with_reducible repeat (first | refine blk_drewN ?_ _ | refine blk_drew ?_ | refine blk_alloc ?_ _)); exact BK517.out⟩, ⟨by repeat (first | (with_reducible first | exact HB.out | apply below_alloc | apply pw_below_drewN | apply below_drew1 | refine below_set ?_ GE517.out) | exact HB.out)⟩⟩
  ·rw [if_neg c6] at H
   have c6b0 : decide (a1 < 1) = false := decide_eq_false c6
   clear c6
   (first | rw [c6b0] | (simp only [i64_w, i32_w]; rw [c6b0]) | skip)
   by_cases c7 : a1 > 1048576
   ·rw [if_pos c7] at H
    have c7b0 : decide (1048576 < a1) = true := decide_eq_true c7
    clear c7
    have H' := Aside0.mk H
    clear H
    go_wp2
    go_meet
    case rel => exact ⟨_, (true), (by first | rfl | (simp; done) | (simp [*]; done)), H', ⟨by first | omega | exact Nat.le_refl _⟩, ⟨by (with_reducible repeat (first | refine blk_drewN ?_ _ | refine blk_drew ?_ | refine blk_alloc ?_ _)); exact BK517.out⟩, ⟨by repeat (first | (with_reducible first | exact HB.out | apply below_alloc | apply pw_below_drewN | apply below_drew1 | refine below_set ?_ GE517.out) | exact HB.out)⟩⟩
   ·rw [if_neg c7] at H
    have c7b0 : decide (1048576 < a1) = false := decide_eq_false c7
    clear c7
    by_cases c8 : (l0_2.length : Int) > a1
    ·rw [if_pos c8] at H
     have c8b0 : decide (a1 < (l0_2.length : Int)) = true := decide_eq_true c8
     clear c8
     have H' := Aside0.mk H
     clear H
     go_wp2
     go_meet
     case rel => exact ⟨_, (true), (by first | rfl | (simp; done) | (simp [*]; done)), H', ⟨by first | omega | exact Nat.le_refl _⟩, ⟨by (with_reducible repeat (first | refine blk_drewN ?_ _ | refine blk_drew ?_ | refine blk_alloc ?_ _)); exact BK517.out⟩, ⟨by repeat (first | (with_reducible first | exact HB.out | apply below_alloc | apply pw_below_drewN | apply below_drew1 | refine below_set ?_ GE517.out) | exact HB.out)⟩⟩
    ·rw [if_neg c8] at H
     have c8b0 : decide (a1 < (l0_2.length : Int)) = false := decide_eq_false c8
     clear c8
     by_cases c9 : a0_3 < 0
     ·rw [if_pos c9] at H
      have c9b0 : decide (a0_3 < 0) = true := decide_eq_true c9
      clear c9
      have H' := Aside0.mk H
      clear H
      have hcz10_0 : w4.cell? ⟨gb517, 0, none⟩ = some (.int .i64 a0_0) := (blk_cell BK517.out 0).trans rfl
      have hcz10_1 : w4.cell? ⟨gb517, 1, none⟩ = some (.int .i64 a0_1) := (blk_cell BK517.out 1).trans rfl
      have hcz10_2 : w4.cell? ⟨gb517, 2, none⟩ = some (.slice A0_2 l0_2.length c0_2) := (blk_cell BK517.out 2).trans rfl
      have hcz10_3 : w4.cell? ⟨gb517, 3, none⟩ = some (.int .i64 a0_3) := (blk_cell BK517.out 3).trans rfl
      have hfz10_0 := blk_frozen BK517.out 0
      have hfz10_1 := blk_frozen BK517.out 1
      have hfz10_2 := blk_frozen BK517.out 2
      have hfz10_3 := blk_frozen BK517.out 3
      go_wp2
      go_meet
      case rel => exact ⟨_, (true), (by first | rfl | (simp; done) | (simp [*]; done)), H', ⟨by first | omega | exact Nat.le_refl _⟩, ⟨by (with_reducible repeat (first | refine blk_drewN ?_ _ | refine blk_drew ?_ | refine blk_alloc ?_ _)); exact BK517.out⟩, ⟨by repeat (first | (with_reducible first | exact HB.out | apply below_alloc | apply pw_below_drewN | apply below_drew1 | refine below_set ?_ GE517.out) | exact HB.out)⟩⟩
     ·rw [if_neg c9] at H
      have c9b0 : decide (a0_3 < 0) = false := decide_eq_false c9
      clear c9
      by_cases c11 : a0_3 > (l0_2.length : Int)
      ·rw [if_pos c11] at H
       have c11b0 : decide ((l0_2.length : Int) < a0_3) = true := decide_eq_true c11
       clear c11
       have H' := Aside0.mk H
       clear H
       have hcz12_0 : w4.cell? ⟨gb517, 0, none⟩ = some (.int .i64 a0_0) := (blk_cell BK517.out 0).trans rfl
       have hcz12_1 : w4.cell? ⟨gb517, 1, none⟩ = some (.int .i64 a0_1) := (blk_cell BK517.out 1).trans rfl
       have hcz12_2 : w4.cell? ⟨gb517, 2, none⟩ = some (.slice A0_2 l0_2.length c0_2) := (blk_cell BK517.out 2).trans rfl
       have hcz12_3 : w4.cell? ⟨gb517, 3, none⟩ = some (.int .i64 a0_3) := (blk_cell BK517.out 3).trans rfl
       have hfz12_0 := blk_frozen BK517.out 0
       have hfz12_1 := blk_frozen BK517.out 1
       have hfz12_2 := blk_frozen BK517.out 2
       have hfz12_3 := blk_frozen BK517.out 3
       go_wp2
       go_meet
       case rel => exact ⟨_, (true), (by first | rfl | (simp; done) | (simp [*]; done)), H', ⟨by first | omega | exact Nat.le_refl _⟩, ⟨by (with_reducible repeat (first | refine blk_drewN ?_ _ | refine blk_drew ?_ | refine blk_alloc ?_ _)); exact BK517.out⟩, ⟨by repeat (first | (with_reducible first | exact HB.out | apply below_alloc | apply pw_below_drewN | apply below_drew1 | refine below_set ?_ GE517.out) | exact HB.out)⟩⟩
      ·rw [if_neg c11] at H
       have c11b0 : decide ((l0_2.length : Int) < a0_3) = false := decide_eq_false c11
       clear c11
       by_cases c13 : a0_1 < 0
       ·rw [if_pos c13] at H
        have c13b0 : decide (a0_1 < 0) = true := decide_eq_true c13
        clear c13
        have H' := Aside0.mk H
        clear H
        have hcz14_0 : w4.cell? ⟨gb517, 0, none⟩ = some (.int .i64 a0_0) := (blk_cell BK517.out 0).trans rfl
        have hcz14_1 : w4.cell? ⟨gb517, 1, none⟩ = some (.int .i64 a0_1) := (blk_cell BK517.out 1).trans rfl
        have hcz14_2 : w4.cell? ⟨gb517, 2, none⟩ = some (.slice A0_2 l0_2.length c0_2) := (blk_cell BK517.out 2).trans rfl
        have hcz14_3 : w4.cell? ⟨gb517, 3, none⟩ = some (.int .i64 a0_3) := (blk_cell BK517.out 3).trans rfl
        have hfz14_0 := blk_frozen BK517.out 0
        have hfz14_1 := blk_frozen BK517.out 1
        have hfz14_2 := blk_frozen BK517.out 2
        have hfz14_3 := blk_frozen BK517.out 3
        go_wp2
        go_meet
        case rel => exact ⟨_, (true), (by first | rfl | (simp; done) | (simp [*]; done)), H', ⟨by first | omega | exact Nat.le_refl _⟩, ⟨by (with_reducible repeat (first | refine blk_drewN ?_ _ | refine blk_drew ?_ | refine blk_alloc ?_ _)); exact BK517.out⟩, ⟨by repeat (first | (with_reducible first | exact HB.out | apply below_alloc | apply pw_below_drewN | apply below_drew1 | refine below_set ?_ GE517.out) | exact HB.out)⟩⟩
       ·rw [if_neg c13] at H
        have c13b0 : decide (a0_1 < 0) = false := decide_eq_false c13
        clear c13
        have H' := Aside0.mk H
        clear H
        have hcz15_0 : w4.cell? ⟨gb517, 0, none⟩ = some (.int .i64 a0_0) := (blk_cell BK517.out 0).trans rfl
        have hcz15_1 : w4.cell? ⟨gb517, 1, none⟩ = some (.int .i64 a0_1) := (blk_cell BK517.out 1).trans rfl
        have hcz15_2 : w4.cell? ⟨gb517, 2, none⟩ = some (.slice A0_2 l0_2.length c0_2) := (blk_cell BK517.out 2).trans rfl
        have hcz15_3 : w4.cell? ⟨gb517, 3, none⟩ = some (.int .i64 a0_3) := (blk_cell BK517.out 3).trans rfl
        have hfz15_0 := blk_frozen BK517.out 0
        have hfz15_1 := blk_frozen BK517.out 1
        have hfz15_2 := blk_frozen BK517.out 2
        have hfz15_3 := blk_frozen BK517.out 3
        go_wp2
        go_meet
        case rel => exact ⟨_, (decide (a0_1 > 1073741824)), (by first | rfl | (simp; done) | (simp [*]; done)), H', ⟨by first | omega | exact Nat.le_refl _⟩, ⟨by (with_reducible repeat (first | refine blk_drewN ?_ _ | refine blk_drew ?_ | refine blk_alloc ?_ _)); exact BK517.out⟩, ⟨by repeat (first | (with_reducible first | exact HB.out | apply below_alloc | apply pw_below_drewN | apply below_drew1 | refine below_set ?_ GE517.out) | exact HB.out)⟩⟩
 case rest =>
  clear HC3
  try clear c1
  try clear p2
  try clear c4
  try clear c6
  try clear c6b0
  try clear c7
  try clear c7b0
  try clear c8
  try clear c8b0
  try clear c9
  try clear c9b0
  try clear c11
  try clear c11b0
  try clear c13
  try clear c13b0
  try clear hcz10_0
  try clear hcz10_1
  try clear hcz10_2
  try clear hcz10_3
  try clear hcz12_0
  try clear hcz12_1
  try clear hcz12_2
  try clear hcz12_3
  try clear hcz14_0
  try clear hcz14_1
  try clear hcz14_2
  try clear hcz14_3
  try clear hcz15_0
  try clear hcz15_1
  try clear hcz15_2
  try clear hcz15_3
  try clear hcz5_0
  try clear hcz5_1
  try clear hcz5_2
  try clear hcz5_3
  try clear hfz10_0
  try clear hfz10_1
  try clear hfz10_2
  try clear hfz10_3
  try clear hfz12_0
  try clear hfz12_1
  try clear hfz12_2
  try clear hfz12_3
  try clear hfz14_0
  try clear hfz14_1
  try clear hfz14_2
  try clear hfz14_3
  try clear hfz15_0
  try clear hfz15_1
  try clear hfz15_2
  try clear hfz15_3
  try clear hfz5_0
  try clear hfz5_1
  try clear hfz5_2
  try clear hfz5_3
  obtain ⟨kq, x40_2, rfl, HA, HJ2, BK517, HB⟩ := hcut
  cases kq with
  | zero => exact absurd HA.out (by simp [zone_Check.j0])
  | succ kj2 =>
   have H := HA.out
   clear HA
   simp only [zone_Check.j0] at H
   by_cases c16 : x40_2 = true
   ·subst c16
    have H1 : (some false) = some r := by rw [if_pos rfl] at H; exact H
    clear H
    have H := H1
    clear H1
    obtain rfl := Option.some.inj H
    go_wp2
    go_ret
    exact ⟨by first | rfl | (simp [errW_none, errW_some] <;> rfl) | (simp [*, errW_none, errW_some] <;> rfl), by repeat (first | (with_reducible first | exact HB.out | apply below_alloc | apply pw_below_drewN | apply below_drew1 | refine below_set ?_ GE517.out) | exact HB.out)⟩
   ·replace c16 := Bool.eq_false_iff.mpr c16
    subst c16
    have H1 : (if a0_0 = 0 then (some ((l0_2.length : Int) == 0)) else ((zone_takes.f a0_0 a0_1 l0_2 a0_3).bind fun t518 => (if t518 = true then (if (l0_2.length : Int) > 0 then (some (decide ((l0_2.length : Int) < a1))) else (some false)) else (some (a0_0 == 3))))) = some r := by rw [if_neg (show ¬ (false = true) by decide)] at H; exact H
    clear H
    have H := H1
    clear H1
    by_cases c17 : a0_0 = 0
    ·rw [if_pos c17] at H
     have c17b0 : (a0_0 == 0) = true := beq_iff_eq.mpr c17
     have c17b1 : (a0_0 != 0) = false := bne_eq_false_iff_eq.mpr c17
     clear c17
     obtain rfl := Option.some.inj H
     have hcz18_0 : wc.cell? ⟨gb517, 0, none⟩ = some (.int .i64 a0_0) := (blk_cell BK517.out 0).trans rfl
     have hcz18_1 : wc.cell? ⟨gb517, 1, none⟩ = some (.int .i64 a0_1) := (blk_cell BK517.out 1).trans rfl
     have hcz18_2 : wc.cell? ⟨gb517, 2, none⟩ = some (.slice A0_2 l0_2.length c0_2) := (blk_cell BK517.out 2).trans rfl
     have hcz18_3 : wc.cell? ⟨gb517, 3, none⟩ = some (.int .i64 a0_3) := (blk_cell BK517.out 3).trans rfl
     have hfz18_0 := blk_frozen BK517.out 0
     have hfz18_1 := blk_frozen BK517.out 1
     have hfz18_2 := blk_frozen BK517.out 2
     have hfz18_3 := blk_frozen BK517.out 3
     go_wp2
     go_ret
     exact ⟨by first | rfl | (simp [errW_none, errW_some] <;> rfl) | (simp [*, errW_none, errW_some] <;> rfl), by repeat (first | (with_reducible first | exact HB.out | apply below_alloc | apply pw_below_drewN | apply below_drew1 | refine below_set ?_ GE517.out) | exact HB.out)⟩
    ·rw [if_neg c17] at H
     have c17b0 : (a0_0 == 0) = false := beq_eq_false_iff_ne.mpr c17
     have c17b1 : (a0_0 != 0) = true := bne_iff_ne.mpr c17
     replace H := Option.bind_eq_some_iff.mp H
     obtain ⟨t518, A190, H⟩ := H
     replace H : (if t518 = true then (if (l0_2.length : Int) > 0 then (some (decide ((l0_2.length : Int) < a1))) else (some false)) else (some (a0_0 == 3))) = some r := H
     have A19 := Aside0.mk A190
     clear A190
     by_cases c20 : t518 = true
     ·subst c20
      have H1 : (if (l0_2.length : Int) > 0 then (some (decide ((l0_2.length : Int) < a1))) else (some false)) = some r := by rw [if_pos rfl] at H; exact H
      clear H
      have H := H1
      clear H1
      by_cases c21 : (l0_2.length : Int) > 0
      ·rw [if_pos c21] at H
       have c21b0 : decide (0 < (l0_2.length : Int)) = true := decide_eq_true c21
       have c21b1 : decide (0 < l0_2.length) = true := decide_eq_true (by omega)
       clear c21
       obtain rfl := Option.some.inj H
       have hcz22_0 : wc.cell? ⟨gb517, 0, none⟩ = some (.int .i64 a0_0) := (blk_cell BK517.out 0).trans rfl
       have hcz22_1 : wc.cell? ⟨gb517, 1, none⟩ = some (.int .i64 a0_1) := (blk_cell BK517.out 1).trans rfl
       have hcz22_2 : wc.cell? ⟨gb517, 2, none⟩ = some (.slice A0_2 l0_2.length c0_2) := (blk_cell BK517.out 2).trans rfl
       have hcz22_3 : wc.cell? ⟨gb517, 3, none⟩ = some (.int .i64 a0_3) := (blk_cell BK517.out 3).trans rfl
       have hfz22_0 := blk_frozen BK517.out 0
       have hfz22_1 := blk_frozen BK517.out 1
       have hfz22_2 := blk_frozen BK517.out 2
       have hfz22_3 := blk_frozen BK517.out 3
       go_wp2_with (first | ((with_reducible refine gate_callee (f := 68) rfl ?_); refine goesL_ (some 49) rfl rfl Try.func68 (by kernel_rfl) rfl #[.agg #[.int .i64 a0_0, .int .i64 a0_1, .slice A0_2 l0_2.length c0_2, .int .i64 a0_3]] rfl (by (try simp only [List.map_toArray, List.map_cons, List.map_nil]); first | done | rfl | (simp only [List.length_drop, List.length_take]; rfl)) ?_; (with_reducible refine (zone_takes.calls a0_0 a0_1 _ _ l0_2 a0_3 true _ ?side1 ?side2 A19.out).mono ?_); (case side1 => repeat (first | exact (Kd.C_below HR0_2.out HB.out) | (with_reducible refine Kd.C_alloc ?_ _) | (with_reducible refine Kd.C_drewN ?_ _) | (with_reducible refine Kd.C_drew ?_))); (case side2 => exact HC0_2.out); rintro e w23 ⟨rfl, hb⟩; refine ⟨_, rfl, ?_⟩; have n0_ := Aside0.mk (blk_below (g := gb517) (o := .cells #[.int .i64 a0_0, .int .i64 a0_1, .slice A0_2 l0_2.length c0_2, .int .i64 a0_3] 52 (0, 0)) (by (with_reducible repeat (first | refine blk_drewN ?_ _ | refine blk_drew ?_ | refine blk_alloc ?_ _)); exact BK517.out) hb); have n1_ := Aside0.mk (below_step (by repeat (first | (with_reducible first | exact HB.out | apply below_alloc | apply pw_below_drewN | apply below_drew1 | refine below_set ?_ GE517.out) | exact HB.out)) hb); clear BK517; clear HB; have BK517 := n0_; have HB := n1_; clear n0_ n1_; (try clear hb); (try clear hb2); (try clear hk); (try clear hi)))
       go_ret
       exact ⟨by first | rfl | (simp [errW_none, errW_some] <;> rfl) | (simp [*, errW_none, errW_some] <;> rfl), by repeat (first | (with_reducible first | exact HB.out | apply below_alloc | apply pw_below_drewN | apply below_drew1 | refine below_set ?_ GE517.out) | exact HB.out)⟩
      ·rw [if_neg c21] at H
       have c21b0 : decide (0 < (l0_2.length : Int)) = false := decide_eq_false c21
       have c21b1 : decide (0 < l0_2.length) = false := decide_eq_false (by omega)
       clear c21
       obtain rfl := Option.some.inj H
       have hcz24_0 : wc.cell? ⟨gb517, 0, none⟩ = some (.int .i64 a0_0) := (blk_cell BK517.out 0).trans rfl
       have hcz24_1 : wc.cell? ⟨gb517, 1, none⟩ = some (.int .i64 a0_1) := (blk_cell BK517.out 1).trans rfl
       have hcz24_2 : wc.cell? ⟨gb517, 2, none⟩ = some (.slice A0_2 l0_2.length c0_2) := (blk_cell BK517.out 2).trans rfl
       have hcz24_3 : wc.cell? ⟨gb517, 3, none⟩ = some (.int .i64 a0_3) := (blk_cell BK517.out 3).trans rfl
       have hfz24_0 := blk_frozen BK517.out 0
       have hfz24_1 := blk_frozen BK517.out 1
       have hfz24_2 := blk_frozen BK517.out 2
       have hfz24_3 := blk_frozen BK517.out 3
       go_wp2_with (first | ((with_reducible refine gate_callee (f := 68) rfl ?_); refine goesL_ (some 49) rfl rfl Try.func68 (by kernel_rfl) rfl #[.agg #[.int .i64 a0_0, .int .i64 a0_1, .slice A0_2 l0_2.length c0_2, .int .i64 a0_3]] rfl (by (try simp only [List.map_toArray, List.map_cons, List.map_nil]); first | done | rfl | (simp only [List.length_drop, List.length_take]; rfl)) ?_; (with_reducible refine (zone_takes.calls a0_0 a0_1 _ _ l0_2 a0_3 true _ ?side1 ?side2 A19.out).mono ?_); (case side1 => repeat (first | exact (Kd.C_below HR0_2.out HB.out) | (with_reducible refine Kd.C_alloc ?_ _) | (with_reducible refine Kd.C_drewN ?_ _) | (with_reducible refine Kd.C_drew ?_))); (case side2 => exact HC0_2.out); rintro e w25 ⟨rfl, hb⟩; refine ⟨_, rfl, ?_⟩; have n0_ := Aside0.mk (blk_below (g := gb517) (o := .cells #[.int .i64 a0_0, .int .i64 a0_1, .slice A0_2 l0_2.length c0_2, .int .i64 a0_3] 52 (0, 0)) (by (with_reducible repeat (first | refine blk_drewN ?_ _ | refine blk_drew ?_ | refine blk_alloc ?_ _)); exact BK517.out) hb); have n1_ := Aside0.mk (below_step (by repeat (first | (with_reducible first | exact HB.out | apply below_alloc | apply pw_below_drewN | apply below_drew1 | refine below_set ?_ GE517.out) | exact HB.out)) hb); clear BK517; clear HB; have BK517 := n0_; have HB := n1_; clear n0_ n1_; (try clear hb); (try clear hb2); (try clear hk); (try clear hi)))
       go_ret
       exact ⟨by first | rfl | (simp [errW_none, errW_some] <;> rfl) | (simp [*, errW_none, errW_some] <;> rfl), by repeat (first | (with_reducible first | exact HB.out | apply below_alloc | apply pw_below_drewN | apply below_drew1 | refine below_set ?_ GE517.out) | exact HB.out)⟩
     ·replace c20 := Bool.eq_false_iff.mpr c20
      subst c20
      have H1 : (some (a0_0 == 3)) = some r := by rw [if_neg (show ¬ (false = true) by decide)] at H; exact H
      clear H
      have H := H1
      clear H1
      obtain rfl := Option.some.inj H
      have hcz26_0 : wc.cell? ⟨gb517, 0, none⟩ = some (.int .i64 a0_0) := (blk_cell BK517.out 0).trans rfl
      have hcz26_1 : wc.cell? ⟨gb517, 1, none⟩ = some (.int .i64 a0_1) := (blk_cell BK517.out 1).trans rfl
      have hcz26_2 : wc.cell? ⟨gb517, 2, none⟩ = some (.slice A0_2 l0_2.length c0_2) := (blk_cell BK517.out 2).trans rfl
      have hcz26_3 : wc.cell? ⟨gb517, 3, none⟩ = some (.int .i64 a0_3) := (blk_cell BK517.out 3).trans rfl
      have hfz26_0 := blk_frozen BK517.out 0
      have hfz26_1 := blk_frozen BK517.out 1
      have hfz26_2 := blk_frozen BK517.out 2
      have hfz26_3 := blk_frozen BK517.out 3
      go_wp2_with (first | ((with_reducible refine gate_callee (f := 68) rfl ?_); refine goesL_ (some 49) rfl rfl Try.func68 (by kernel_rfl) rfl #[.agg #[.int .i64 a0_0, .int .i64 a0_1, .slice A0_2 l0_2.length c0_2, .int .i64 a0_3]] rfl (by (try simp only [List.map_toArray, List.map_cons, List.map_nil]); first | done | rfl | (simp only [List.length_drop, List.length_take]; rfl)) ?_; (with_reducible refine (zone_takes.calls a0_0 a0_1 _ _ l0_2 a0_3 false _ ?side1 ?side2 A19.out).mono ?_); (case side1 => repeat (first | exact (Kd.C_below HR0_2.out HB.out) | (with_reducible refine Kd.C_alloc ?_ _) | (with_reducible refine Kd.C_drewN ?_ _) | (with_reducible refine Kd.C_drew ?_))); (case side2 => exact HC0_2.out); rintro e w27 ⟨rfl, hb⟩; refine ⟨_, rfl, ?_⟩; have n0_ := Aside0.mk (blk_below (g := gb517) (o := .cells #[.int .i64 a0_0, .int .i64 a0_1, .slice A0_2 l0_2.length c0_2, .int .i64 a0_3] 52 (0, 0)) (by (with_reducible repeat (first | refine blk_drewN ?_ _ | refine blk_drew ?_ | refine blk_alloc ?_ _)); exact BK517.out) hb); have n1_ := Aside0.mk (below_step (by repeat (first | (with_reducible first | exact HB.out | apply below_alloc | apply pw_below_drewN | apply below_drew1 | refine below_set ?_ GE517.out) | exact HB.out)) hb); clear BK517; clear HB; have BK517 := n0_; have HB := n1_; clear n0_ n1_; (try clear hb); (try clear hb2); (try clear hk); (try clear hi); have hcz28_0 : w27.cell? ⟨gb517, 0, none⟩ = some (.int .i64 a0_0) := (blk_cell BK517.out 0).trans rfl; have hcz28_1 : w27.cell? ⟨gb517, 1, none⟩ = some (.int .i64 a0_1) := (blk_cell BK517.out 1).trans rfl; have hcz28_2 : w27.cell? ⟨gb517, 2, none⟩ = some (.slice A0_2 l0_2.length c0_2) := (blk_cell BK517.out 2).trans rfl; have hcz28_3 : w27.cell? ⟨gb517, 3, none⟩ = some (.int .i64 a0_3) := (blk_cell BK517.out 3).trans rfl; have hfz28_0 := blk_frozen BK517.out 0; have hfz28_1 := blk_frozen BK517.out 1; have hfz28_2 := blk_frozen BK517.out 2; have hfz28_3 := blk_frozen BK517.out 3))
      go_ret
      exact ⟨by first | rfl | (simp [errW_none, errW_some] <;> rfl) | (simp [*, errW_none, errW_some] <;> rfl), by repeat (first | (with_reducible first | exact HB.out | apply below_alloc | apply pw_below_drewN | apply below_drew1 | refine below_set ?_ GE517.out) | exact HB.out)⟩
def zone_Room.f (k : Nat) (a0_0 : Int) (a0_1 : Int) (l0_2 : List Int) (a0_3 : Int) (a1 : Int) : Option (Int) := (zone_Check.f k a0_0 a0_1 l0_2 a0_3 a1).bind fun t520 => (if t520 = true then ((zone_takes.f a0_0 a0_1 l0_2 a0_3).bind fun t521 => (if t521 = true then (some (wrap64 (a1 - (l0_2.length : Int)))) else (some 0))) else (some 0))
set_option maxHeartbeats 8000000 in
set_option maxRecDepth 100000 in
theorem zone_Room.calls (k : Nat) (a0_0 : Int) (a0_1 : Int) (A0_2 : Option Addr) (c0_2 : Nat) (l0_2 : List Int) (a0_3 : Int) (a1 : Int) (r : Int) (w : World) (hr0_2 : Kd.C (Kd.int .u8) w A0_2 l0_2.length l0_2) (hc0_2 : l0_2.length ≤ c0_2) (h : zone_Room.f k a0_0 a0_1 l0_2 a0_3 a1 = some r) :
  Calls Try.prog 84 #[.agg #[.int .i64 a0_0, .int .i64 a0_1, .slice A0_2 l0_2.length c0_2, .int .i64 a0_3], .int .i64 a1] w fun e w' => e = .returned (.int .i64 r) ∧ Below w.heap.size w w' := by
 have hu52 := Try.underlying52
 have HR0_2 := Aside0.mk hr0_2
 have HC0_2 := Aside0.mk hc0_2
 clear hr0_2 hc0_2
 have HB := Aside0.mk (Below.refl w.heap.size w)
 have H : ((zone_Check.f k a0_0 a0_1 l0_2 a0_3 a1).bind fun t520 => (if t520 = true then ((zone_takes.f a0_0 a0_1 l0_2 a0_3).bind fun t521 => (if t521 = true then (some (wrap64 (a1 - (l0_2.length : Int)))) else (some 0))) else (some 0))) = some r := h
 clear h
 replace H := Option.bind_eq_some_iff.mp H
 obtain ⟨t520, A30, H⟩ := H
 replace H : (if t520 = true then ((zone_takes.f a0_0 a0_1 l0_2 a0_3).bind fun t521 => (if t521 = true then (some (wrap64 (a1 - (l0_2.length : Int)))) else (some 0))) else (some 0)) = some r := H
 have A3 := Aside0.mk A30
 clear A30
 by_cases c4 : t520 = true
 ·subst c4
  have H1 : ((zone_takes.f a0_0 a0_1 l0_2 a0_3).bind fun t521 => (if t521 = true then (some (wrap64 (a1 - (l0_2.length : Int)))) else (some 0))) = some r := by rw [if_pos rfl] at H; exact H
  clear H
  have H := H1
  clear H1
  replace H := Option.bind_eq_some_iff.mp H
  obtain ⟨t521, A50, H⟩ := H
  replace H : (if t521 = true then (some (wrap64 (a1 - (l0_2.length : Int)))) else (some 0)) = some r := H
  have A5 := Aside0.mk A50
  clear A50
  by_cases c6 : t521 = true
  ·subst c6
   have H1 : (some (wrap64 (a1 - (l0_2.length : Int)))) = some r := by rw [if_pos rfl] at H; exact H
   clear H
   have H := H1
   clear H1
   obtain rfl := Option.some.inj H
   go_enter Try.func84, Try.ntmps84
   go_wp2_with (first | ((with_reducible refine gate_dst (N := 2) rfl ?_); refine box_event ?hg (N := 2) ?hd (cs := #[.int .i64 a0_0, .int .i64 a0_1, .slice A0_2 l0_2.length c0_2, .int .i64 a0_3]) (t := 52) ?hr ?_; (case hd => rfl); (case hg => rfl); (case hr => first | (go_simp; done) | (go_simp; rfl)); intro gb519 hg w7 hbox hb; have n0_ := Aside0.mk (below_step (by repeat (first | (with_reducible first | exact HB.out | apply below_alloc | apply pw_below_drewN | apply below_drew1) | exact HB.out)) hb); have n1_ := Aside0.mk (hbox); have n2_ := Aside0.mk ((by rw [hg]; exact (below_size (by repeat (first | (with_reducible first | exact HB.out | apply below_alloc | apply pw_below_drewN | apply below_drew1) | exact HB.out))) : w.heap.size ≤ gb519)); have n3_ := Aside0.mk ((by rw [hg]; exact (below_size (by repeat (first | (with_reducible first | exact HB.out | apply below_alloc | apply pw_below_drewN | apply below_drew1) | exact HB.out))) : w.heap.size ≤ gb519)); clear HB; have HB := n0_; have BK519 := n1_; have GW519 := n2_; have GE519 := n3_; clear n0_ n1_ n2_ n3_; clear hb hbox hg; have hcz8_0 : w7.cell? ⟨gb519, 0, none⟩ = some (.int .i64 a0_0) := (blk_cell BK519.out 0).trans rfl; have hcz8_1 : w7.cell? ⟨gb519, 1, none⟩ = some (.int .i64 a0_1) := (blk_cell BK519.out 1).trans rfl; have hcz8_2 : w7.cell? ⟨gb519, 2, none⟩ = some (.slice A0_2 l0_2.length c0_2) := (blk_cell BK519.out 2).trans rfl; have hcz8_3 : w7.cell? ⟨gb519, 3, none⟩ = some (.int .i64 a0_3) := (blk_cell BK519.out 3).trans rfl; have hfz8_0 := blk_frozen BK519.out 0; have hfz8_1 := blk_frozen BK519.out 1; have hfz8_2 := blk_frozen BK519.out 2; have hfz8_3 := blk_frozen BK519.out 3) | ((with_reducible refine gate_callee (f := 45) rfl ?_); refine goesL_ (some 7) rfl rfl Try.func45 (by kernel_rfl) rfl #[.agg #[.int .i64 a0_0, .int .i64 a0_1, .slice A0_2 l0_2.length c0_2, .int .i64 a0_3], .int .i64 a1] rfl (by (try simp only [List.map_toArray, List.map_cons, List.map_nil]); first | done | rfl | (simp only [List.length_drop, List.length_take]; rfl)) ?_; (with_reducible refine (zone_Check.calls k a0_0 a0_1 _ _ l0_2 a0_3 a1 true _ ?side1 ?side2 A3.out).mono ?_); (case side1 => repeat (first | exact (Kd.C_below HR0_2.out HB.out) | (with_reducible refine Kd.C_alloc ?_ _) | (with_reducible refine Kd.C_drewN ?_ _) | (with_reducible refine Kd.C_drew ?_))); (case side2 => exact HC0_2.out); rintro e w9 ⟨rfl, hb⟩; refine ⟨_, rfl, ?_⟩; have n0_ := Aside0.mk (blk_below (g := gb519) (o := .cells #[.int .i64 a0_0, .int .i64 a0_1, .slice A0_2 l0_2.length c0_2, .int .i64 a0_3] 52 (0, 0)) (by (with_reducible repeat (first | refine blk_drewN ?_ _ | refine blk_drew ?_ | refine blk_alloc ?_ _)); exact BK519.out) hb); have n1_ := Aside0.mk (below_step (by repeat (first | (with_reducible first | exact HB.out | apply below_alloc | apply pw_below_drewN | apply below_drew1 | refine below_set ?_ GE519.out) | exact HB.out)) hb); clear BK519; clear HB; have BK519 := n0_; have HB := n1_; clear n0_ n1_; (try clear hb); (try clear hb2); (try clear hk); (try clear hi); have hcz10_0 : w9.cell? ⟨gb519, 0, none⟩ = some (.int .i64 a0_0) := (blk_cell BK519.out 0).trans rfl; have hcz10_1 : w9.cell? ⟨gb519, 1, none⟩ = some (.int .i64 a0_1) := (blk_cell BK519.out 1).trans rfl; have hcz10_2 : w9.cell? ⟨gb519, 2, none⟩ = some (.slice A0_2 l0_2.length c0_2) := (blk_cell BK519.out 2).trans rfl; have hcz10_3 : w9.cell? ⟨gb519, 3, none⟩ = some (.int .i64 a0_3) := (blk_cell BK519.out 3).trans rfl; have hfz10_0 := blk_frozen BK519.out 0; have hfz10_1 := blk_frozen BK519.out 1; have hfz10_2 := blk_frozen BK519.out 2; have hfz10_3 := blk_frozen BK519.out 3) | (go_at_call 68; (with_reducible refine (zone_takes.calls a0_0 a0_1 _ _ l0_2 a0_3 true _ ?side1 ?side2 A5.out).mono ?_); (case side1 => repeat (first | exact (Kd.C_below HR0_2.out HB.out) | (with_reducible refine Kd.C_alloc ?_ _) | (with_reducible refine Kd.C_drewN ?_ _) | (with_reducible refine Kd.C_drew ?_))); (case side2 => exact HC0_2.out); rintro e w11 ⟨rfl, hb⟩; have n0_ := Aside0.mk (blk_below (g := gb519) (o := .cells #[.int .i64 a0_0, .int .i64 a0_1, .slice A0_2 l0_2.length c0_2, .int .i64 a0_3] 52 (0, 0)) (by (with_reducible repeat (first | refine blk_drewN ?_ _ | refine blk_drew ?_ | refine blk_alloc ?_ _)); exact BK519.out) hb); have n1_ := Aside0.mk (below_step (by repeat (first | (with_reducible first | exact HB.out | apply below_alloc | apply pw_below_drewN | apply below_drew1 | refine below_set ?_ GE519.out) | exact HB.out)) hb); clear BK519; clear HB; have BK519 := n0_; have HB := n1_; clear n0_ n1_; (try clear hb); (try clear hb2); (try clear hk); (try clear hi); have hcz12_0 : w11.cell? ⟨gb519, 0, none⟩ = some (.int .i64 a0_0) := (blk_cell BK519.out 0).trans rfl; have hcz12_1 : w11.cell? ⟨gb519, 1, none⟩ = some (.int .i64 a0_1) := (blk_cell BK519.out 1).trans rfl; have hcz12_2 : w11.cell? ⟨gb519, 2, none⟩ = some (.slice A0_2 l0_2.length c0_2) := (blk_cell BK519.out 2).trans rfl; have hcz12_3 : w11.cell? ⟨gb519, 3, none⟩ = some (.int .i64 a0_3) := (blk_cell BK519.out 3).trans rfl; have hfz12_0 := blk_frozen BK519.out 0; have hfz12_1 := blk_frozen BK519.out 1; have hfz12_2 := blk_frozen BK519.out 2; have hfz12_3 := blk_frozen BK519.out 3))
   go_ret
   exact ⟨by first | rfl | (simp [errW_none, errW_some] <;> rfl) | (simp [*, errW_none, errW_some] <;> rfl), by repeat (first | (with_reducible first | exact HB.out | apply below_alloc | apply pw_below_drewN | apply below_drew1 | refine below_set ?_ GE519.out) | exact HB.out)⟩
  ·replace c6 := Bool.eq_false_iff.mpr c6
   subst c6
   have H1 : (some 0) = some r := by rw [if_neg (show ¬ (false = true) by decide)] at H; exact H
   clear H
   have H := H1
   clear H1
   obtain rfl := Option.some.inj H
   go_enter Try.func84, Try.ntmps84
   go_wp2_with (first | ((with_reducible refine gate_dst (N := 2) rfl ?_); refine box_event ?hg (N := 2) ?hd (cs := #[.int .i64 a0_0, .int .i64 a0_1, .slice A0_2 l0_2.length c0_2, .int .i64 a0_3]) (t := 52) ?hr ?_; (case hd => rfl); (case hg => rfl); (case hr => first | (go_simp; done) | (go_simp; rfl)); intro gb519 hg w13 hbox hb; have n0_ := Aside0.mk (below_step (by repeat (first | (with_reducible first | exact HB.out | apply below_alloc | apply pw_below_drewN | apply below_drew1) | exact HB.out)) hb); have n1_ := Aside0.mk (hbox); have n2_ := Aside0.mk ((by rw [hg]; exact (below_size (by repeat (first | (with_reducible first | exact HB.out | apply below_alloc | apply pw_below_drewN | apply below_drew1) | exact HB.out))) : w.heap.size ≤ gb519)); have n3_ := Aside0.mk ((by rw [hg]; exact (below_size (by repeat (first | (with_reducible first | exact HB.out | apply below_alloc | apply pw_below_drewN | apply below_drew1) | exact HB.out))) : w.heap.size ≤ gb519)); clear HB; have HB := n0_; have BK519 := n1_; have GW519 := n2_; have GE519 := n3_; clear n0_ n1_ n2_ n3_; clear hb hbox hg; have hcz14_0 : w13.cell? ⟨gb519, 0, none⟩ = some (.int .i64 a0_0) := (blk_cell BK519.out 0).trans rfl; have hcz14_1 : w13.cell? ⟨gb519, 1, none⟩ = some (.int .i64 a0_1) := (blk_cell BK519.out 1).trans rfl; have hcz14_2 : w13.cell? ⟨gb519, 2, none⟩ = some (.slice A0_2 l0_2.length c0_2) := (blk_cell BK519.out 2).trans rfl; have hcz14_3 : w13.cell? ⟨gb519, 3, none⟩ = some (.int .i64 a0_3) := (blk_cell BK519.out 3).trans rfl; have hfz14_0 := blk_frozen BK519.out 0; have hfz14_1 := blk_frozen BK519.out 1; have hfz14_2 := blk_frozen BK519.out 2; have hfz14_3 := blk_frozen BK519.out 3) | ((with_reducible refine gate_callee (f := 45) rfl ?_); refine goesL_ (some 7) rfl rfl Try.func45 (by kernel_rfl) rfl #[.agg #[.int .i64 a0_0, .int .i64 a0_1, .slice A0_2 l0_2.length c0_2, .int .i64 a0_3], .int .i64 a1] rfl (by (try simp only [List.map_toArray, List.map_cons, List.map_nil]); first | done | rfl | (simp only [List.length_drop, List.length_take]; rfl)) ?_; (with_reducible refine (zone_Check.calls k a0_0 a0_1 _ _ l0_2 a0_3 a1 true _ ?side1 ?side2 A3.out).mono ?_); (case side1 => repeat (first | exact (Kd.C_below HR0_2.out HB.out) | (with_reducible refine Kd.C_alloc ?_ _) | (with_reducible refine Kd.C_drewN ?_ _) | (with_reducible refine Kd.C_drew ?_))); (case side2 => exact HC0_2.out); rintro e w15 ⟨rfl, hb⟩; refine ⟨_, rfl, ?_⟩; have n0_ := Aside0.mk (blk_below (g := gb519) (o := .cells #[.int .i64 a0_0, .int .i64 a0_1, .slice A0_2 l0_2.length c0_2, .int .i64 a0_3] 52 (0, 0)) (by (with_reducible repeat (first | refine blk_drewN ?_ _ | refine blk_drew ?_ | refine blk_alloc ?_ _)); exact BK519.out) hb); have n1_ := Aside0.mk (below_step (by repeat (first | (with_reducible first | exact HB.out | apply below_alloc | apply pw_below_drewN | apply below_drew1 | refine below_set ?_ GE519.out) | exact HB.out)) hb); clear BK519; clear HB; have BK519 := n0_; have HB := n1_; clear n0_ n1_; (try clear hb); (try clear hb2); (try clear hk); (try clear hi); have hcz16_0 : w15.cell? ⟨gb519, 0, none⟩ = some (.int .i64 a0_0) := (blk_cell BK519.out 0).trans rfl; have hcz16_1 : w15.cell? ⟨gb519, 1, none⟩ = some (.int .i64 a0_1) := (blk_cell BK519.out 1).trans rfl; have hcz16_2 : w15.cell? ⟨gb519, 2, none⟩ = some (.slice A0_2 l0_2.length c0_2) := (blk_cell BK519.out 2).trans rfl; have hcz16_3 : w15.cell? ⟨gb519, 3, none⟩ = some (.int .i64 a0_3) := (blk_cell BK519.out 3).trans rfl; have hfz16_0 := blk_frozen BK519.out 0; have hfz16_1 := blk_frozen BK519.out 1; have hfz16_2 := blk_frozen BK519.out 2; have hfz16_3 := blk_frozen BK519.out 3) | (go_at_call 68; (with_reducible refine (zone_takes.calls a0_0 a0_1 _ _ l0_2 a0_3 false _ ?side1 ?side2 A5.out).mono ?_); (case side1 => repeat (first | exact (Kd.C_below HR0_2.out HB.out) | (with_reducible refine Kd.C_alloc ?_ _) | (with_reducible refine Kd.C_drewN ?_ _) | (with_reducible refine Kd.C_drew ?_))); (case side2 => exact HC0_2.out); rintro e w17 ⟨rfl, hb⟩; have n0_ := Aside0.mk (blk_below (g := gb519) (o := .cells #[.int .i64 a0_0, .int .i64 a0_1, .slice A0_2 l0_2.length c0_2, .int .i64 a0_3] 52 (0, 0)) (by (with_reducible repeat (first | refine blk_drewN ?_ _ | refine blk_drew ?_ | refine blk_alloc ?_ _)); exact BK519.out) hb); have n1_ := Aside0.mk (below_step (by repeat (first | (with_reducible first | exact HB.out | apply below_alloc | apply pw_below_drewN | apply below_drew1 | refine below_set ?_ GE519.out) | exact HB.out)) hb); clear BK519; clear HB; have BK519 := n0_; have HB := n1_; clear n0_ n1_; (try clear hb); (try clear hb2); (try clear hk); (try clear hi)))
   go_ret
   exact ⟨by first | rfl | (simp [errW_none, errW_some] <;> rfl) | (simp [*, errW_none, errW_some] <;> rfl), by repeat (first | (with_reducible first | exact HB.out | apply below_alloc | apply pw_below_drewN | apply below_drew1 | refine below_set ?_ GE519.out) | exact HB.out)⟩
 ·replace c4 := Bool.eq_false_iff.mpr c4
  subst c4
  have H1 : (some 0) = some r := by rw [if_neg (show ¬ (false = true) by decide)] at H; exact H
  clear H
  have H := H1
  clear H1
  obtain rfl := Option.some.inj H
  go_enter Try.func84, Try.ntmps84
  go_wp2_with (first | ((with_reducible refine gate_dst (N := 2) rfl ?_); refine box_event ?hg (N := 2) ?hd (cs := #[.int .i64 a0_0, .int .i64 a0_1, .slice A0_2 l0_2.length c0_2, .int .i64 a0_3]) (t := 52) ?hr ?_; (case hd => rfl); (case hg => rfl); (case hr => first | (go_simp; done) | (go_simp; rfl)); intro gb519 hg w18 hbox hb; have n0_ := Aside0.mk (below_step (by repeat (first | (with_reducible first | exact HB.out | apply below_alloc | apply pw_below_drewN | apply below_drew1) | exact HB.out)) hb); have n1_ := Aside0.mk (hbox); have n2_ := Aside0.mk ((by rw [hg]; exact (below_size (by repeat (first | (with_reducible first | exact HB.out | apply below_alloc | apply pw_below_drewN | apply below_drew1) | exact HB.out))) : w.heap.size ≤ gb519)); have n3_ := Aside0.mk ((by rw [hg]; exact (below_size (by repeat (first | (with_reducible first | exact HB.out | apply below_alloc | apply pw_below_drewN | apply below_drew1) | exact HB.out))) : w.heap.size ≤ gb519)); clear HB; have HB := n0_; have BK519 := n1_; have GW519 := n2_; have GE519 := n3_; clear n0_ n1_ n2_ n3_; clear hb hbox hg; have hcz19_0 : w18.cell? ⟨gb519, 0, none⟩ = some (.int .i64 a0_0) := (blk_cell BK519.out 0).trans rfl; have hcz19_1 : w18.cell? ⟨gb519, 1, none⟩ = some (.int .i64 a0_1) := (blk_cell BK519.out 1).trans rfl; have hcz19_2 : w18.cell? ⟨gb519, 2, none⟩ = some (.slice A0_2 l0_2.length c0_2) := (blk_cell BK519.out 2).trans rfl; have hcz19_3 : w18.cell? ⟨gb519, 3, none⟩ = some (.int .i64 a0_3) := (blk_cell BK519.out 3).trans rfl; have hfz19_0 := blk_frozen BK519.out 0; have hfz19_1 := blk_frozen BK519.out 1; have hfz19_2 := blk_frozen BK519.out 2; have hfz19_3 := blk_frozen BK519.out 3) | ((with_reducible refine gate_callee (f := 45) rfl ?_); refine goesL_ (some 7) rfl rfl Try.func45 (by kernel_rfl) rfl #[.agg #[.int .i64 a0_0, .int .i64 a0_1, .slice A0_2 l0_2.length c0_2, .int .i64 a0_3], .int .i64 a1] rfl (by (try simp only [List.map_toArray, List.map_cons, List.map_nil]); first | done | rfl | (simp only [List.length_drop, List.length_take]; rfl)) ?_; (with_reducible refine (zone_Check.calls k a0_0 a0_1 _ _ l0_2 a0_3 a1 false _ ?side1 ?side2 A3.out).mono ?_); (case side1 => repeat (first | exact (Kd.C_below HR0_2.out HB.out) | (with_reducible refine Kd.C_alloc ?_ _) | (with_reducible refine Kd.C_drewN ?_ _) | (with_reducible refine Kd.C_drew ?_))); (case side2 => exact HC0_2.out); rintro e w20 ⟨rfl, hb⟩; refine ⟨_, rfl, ?_⟩; have n0_ := Aside0.mk (blk_below (g := gb519) (o := .cells #[.int .i64 a0_0, .int .i64 a0_1, .slice A0_2 l0_2.length c0_2, .int .i64 a0_3] 52 (0, 0)) (by (with_reducible repeat (first | refine blk_drewN ?_ _ | refine blk_drew ?_ | refine blk_alloc ?_ _)); exact BK519.out) hb); have n1_ := Aside0.mk (below_step (by repeat (first | (with_reducible first | exact HB.out | apply below_alloc | apply pw_below_drewN | apply below_drew1 | refine below_set ?_ GE519.out) | exact HB.out)) hb); clear BK519; clear HB; have BK519 := n0_; have HB := n1_; clear n0_ n1_; (try clear hb); (try clear hb2); (try clear hk); (try clear hi)))
  go_ret
  exact ⟨by first | rfl | (simp [errW_none, errW_some] <;> rfl) | (simp [*, errW_none, errW_some] <;> rfl), by repeat (first | (with_reducible first | exact HB.out | apply below_alloc | apply pw_below_drewN | apply below_drew1 | refine below_set ?_ GE519.out) | exact HB.out)⟩
-- GIVEN: function 74 (record_Read)
-- GIVEN: function 91 (crc_Open)
def zone_filled.f (a0_0 : Int) (a0_1 : Int) (l0_2 : List Int) (a0_3 : Int) (a1 : Int) (a2 : Int) : Option (Int) := if (l0_2.length : Int) = 0 then (some 0) else (if (l0_2.length : Int) = a1 then (some 3) else (some a2))
set_option maxHeartbeats 8000000 in
set_option maxRecDepth 100000 in
theorem zone_filled.calls (a0_0 : Int) (a0_1 : Int) (A0_2 : Option Addr) (c0_2 : Nat) (l0_2 : List Int) (a0_3 : Int) (a1 : Int) (a2 : Int) (r : Int) (w : World) (hr0_2 : Kd.C (Kd.int .u8) w A0_2 l0_2.length l0_2) (hc0_2 : l0_2.length ≤ c0_2) (h : zone_filled.f a0_0 a0_1 l0_2 a0_3 a1 a2 = some r) :
  Calls Try.prog 82 #[.agg #[.int .i64 a0_0, .int .i64 a0_1, .slice A0_2 l0_2.length c0_2, .int .i64 a0_3], .int .i64 a1, .int .i64 a2] w fun e w' => e = .returned (.int .i64 r) ∧ Below w.heap.size w w' := by
 have hu52 := Try.underlying52
 have HR0_2 := Aside0.mk hr0_2
 have HC0_2 := Aside0.mk hc0_2
 clear hr0_2 hc0_2
 have HB := Aside0.mk (Below.refl w.heap.size w)
 have H : (if (l0_2.length : Int) = 0 then (some 0) else (if (l0_2.length : Int) = a1 then (some 3) else (some a2))) = some r := h
 clear h
 by_cases c4 : (l0_2.length : Int) = 0
 ·rw [if_pos c4] at H
  have c4b0 : ((l0_2.length : Int) == 0) = true := beq_iff_eq.mpr c4
  have c4b1 : ((l0_2.length : Int) != 0) = false := bne_eq_false_iff_eq.mpr c4
  clear c4
  obtain rfl := Option.some.inj H
  go_enter Try.func82, Try.ntmps82
  go_wp2_with (first | ((with_reducible refine gate_dst (N := 3) rfl ?_); refine box_event ?hg (N := 3) ?hd (cs := #[.int .i64 a0_0, .int .i64 a0_1, .slice A0_2 l0_2.length c0_2, .int .i64 a0_3]) (t := 52) ?hr ?_; (case hd => rfl); (case hg => rfl); (case hr => first | (go_simp; done) | (go_simp; rfl)); intro gb528 hg w5 hbox hb; have n0_ := Aside0.mk (below_step (by repeat (first | (with_reducible first | exact HB.out | apply below_alloc | apply pw_below_drewN | apply below_drew1) | exact HB.out)) hb); have n1_ := Aside0.mk (hbox); have n2_ := Aside0.mk ((by rw [hg]; exact (below_size (by repeat (first | (with_reducible first | exact HB.out | apply below_alloc | apply pw_below_drewN | apply below_drew1) | exact HB.out))) : w.heap.size ≤ gb528)); have n3_ := Aside0.mk ((by rw [hg]; exact (below_size (by repeat (first | (with_reducible first | exact HB.out | apply below_alloc | apply pw_below_drewN | apply below_drew1) | exact HB.out))) : w.heap.size ≤ gb528)); clear HB; have HB := n0_; have BK528 := n1_; have GW528 := n2_; have GE528 := n3_; clear n0_ n1_ n2_ n3_; clear hb hbox hg; have hcz6_0 : w5.cell? ⟨gb528, 0, none⟩ = some (.int .i64 a0_0) := (blk_cell BK528.out 0).trans rfl; have hcz6_1 : w5.cell? ⟨gb528, 1, none⟩ = some (.int .i64 a0_1) := (blk_cell BK528.out 1).trans rfl; have hcz6_2 : w5.cell? ⟨gb528, 2, none⟩ = some (.slice A0_2 l0_2.length c0_2) := (blk_cell BK528.out 2).trans rfl; have hcz6_3 : w5.cell? ⟨gb528, 3, none⟩ = some (.int .i64 a0_3) := (blk_cell BK528.out 3).trans rfl; have hfz6_0 := blk_frozen BK528.out 0; have hfz6_1 := blk_frozen BK528.out 1; have hfz6_2 := blk_frozen BK528.out 2; have hfz6_3 := blk_frozen BK528.out 3))
  go_ret
  exact ⟨by first | rfl | (simp [errW_none, errW_some] <;> rfl) | (simp [*, errW_none, errW_some] <;> rfl), by repeat (first | (with_reducible first | exact HB.out | apply below_alloc | apply pw_below_drewN | apply below_drew1 | refine below_set ?_ GE528.out) | exact HB.out)⟩
 ·rw [if_neg c4] at H
  have c4b0 : ((l0_2.length : Int) == 0) = false := beq_eq_false_iff_ne.mpr c4
  have c4b1 : ((l0_2.length : Int) != 0) = true := bne_iff_ne.mpr c4
  have c4b2 : ¬ (l0_2 = []) := fun h_ => c4 (by rw [h_]; rfl)
  by_cases c7 : (l0_2.length : Int) = a1
  ·rw [if_pos c7] at H
   have c7b0 : ((l0_2.length : Int) == a1) = true := beq_iff_eq.mpr c7
   have c7b1 : ((l0_2.length : Int) != a1) = false := bne_eq_false_iff_eq.mpr c7
   clear c7
   obtain rfl := Option.some.inj H
   go_enter Try.func82, Try.ntmps82
   go_wp2_with (first | ((with_reducible refine gate_dst (N := 3) rfl ?_); refine box_event ?hg (N := 3) ?hd (cs := #[.int .i64 a0_0, .int .i64 a0_1, .slice A0_2 l0_2.length c0_2, .int .i64 a0_3]) (t := 52) ?hr ?_; (case hd => rfl); (case hg => rfl); (case hr => first | (go_simp; done) | (go_simp; rfl)); intro gb528 hg w8 hbox hb; have n0_ := Aside0.mk (below_step (by repeat (first | (with_reducible first | exact HB.out | apply below_alloc | apply pw_below_drewN | apply below_drew1) | exact HB.out)) hb); have n1_ := Aside0.mk (hbox); have n2_ := Aside0.mk ((by rw [hg]; exact (below_size (by repeat (first | (with_reducible first | exact HB.out | apply below_alloc | apply pw_below_drewN | apply below_drew1) | exact HB.out))) : w.heap.size ≤ gb528)); have n3_ := Aside0.mk ((by rw [hg]; exact (below_size (by repeat (first | (with_reducible first | exact HB.out | apply below_alloc | apply pw_below_drewN | apply below_drew1) | exact HB.out))) : w.heap.size ≤ gb528)); clear HB; have HB := n0_; have BK528 := n1_; have GW528 := n2_; have GE528 := n3_; clear n0_ n1_ n2_ n3_; clear hb hbox hg; have hcz9_0 : w8.cell? ⟨gb528, 0, none⟩ = some (.int .i64 a0_0) := (blk_cell BK528.out 0).trans rfl; have hcz9_1 : w8.cell? ⟨gb528, 1, none⟩ = some (.int .i64 a0_1) := (blk_cell BK528.out 1).trans rfl; have hcz9_2 : w8.cell? ⟨gb528, 2, none⟩ = some (.slice A0_2 l0_2.length c0_2) := (blk_cell BK528.out 2).trans rfl; have hcz9_3 : w8.cell? ⟨gb528, 3, none⟩ = some (.int .i64 a0_3) := (blk_cell BK528.out 3).trans rfl; have hfz9_0 := blk_frozen BK528.out 0; have hfz9_1 := blk_frozen BK528.out 1; have hfz9_2 := blk_frozen BK528.out 2; have hfz9_3 := blk_frozen BK528.out 3))
   go_ret
   exact ⟨by first | rfl | (simp [errW_none, errW_some] <;> rfl) | (simp [*, errW_none, errW_some] <;> rfl), by repeat (first | (with_reducible first | exact HB.out | apply below_alloc | apply pw_below_drewN | apply below_drew1 | refine below_set ?_ GE528.out) | exact HB.out)⟩
  ·rw [if_neg c7] at H
   have c7b0 : ((l0_2.length : Int) == a1) = false := beq_eq_false_iff_ne.mpr c7
   have c7b1 : ((l0_2.length : Int) != a1) = true := bne_iff_ne.mpr c7
   obtain rfl := Option.some.inj H
   go_enter Try.func82, Try.ntmps82
   go_wp2_with (first | ((with_reducible refine gate_dst (N := 3) rfl ?_); refine box_event ?hg (N := 3) ?hd (cs := #[.int .i64 a0_0, .int .i64 a0_1, .slice A0_2 l0_2.length c0_2, .int .i64 a0_3]) (t := 52) ?hr ?_; (case hd => rfl); (case hg => rfl); (case hr => first | (go_simp; done) | (go_simp; rfl)); intro gb528 hg w10 hbox hb; have n0_ := Aside0.mk (below_step (by repeat (first | (with_reducible first | exact HB.out | apply below_alloc | apply pw_below_drewN | apply below_drew1) | exact HB.out)) hb); have n1_ := Aside0.mk (hbox); have n2_ := Aside0.mk ((by rw [hg]; exact (below_size (by repeat (first | (with_reducible first | exact HB.out | apply below_alloc | apply pw_below_drewN | apply below_drew1) | exact HB.out))) : w.heap.size ≤ gb528)); have n3_ := Aside0.mk ((by rw [hg]; exact (below_size (by repeat (first | (with_reducible first | exact HB.out | apply below_alloc | apply pw_below_drewN | apply below_drew1) | exact HB.out))) : w.heap.size ≤ gb528)); clear HB; have HB := n0_; have BK528 := n1_; have GW528 := n2_; have GE528 := n3_; clear n0_ n1_ n2_ n3_; clear hb hbox hg; have hcz11_0 : w10.cell? ⟨gb528, 0, none⟩ = some (.int .i64 a0_0) := (blk_cell BK528.out 0).trans rfl; have hcz11_1 : w10.cell? ⟨gb528, 1, none⟩ = some (.int .i64 a0_1) := (blk_cell BK528.out 1).trans rfl; have hcz11_2 : w10.cell? ⟨gb528, 2, none⟩ = some (.slice A0_2 l0_2.length c0_2) := (blk_cell BK528.out 2).trans rfl; have hcz11_3 : w10.cell? ⟨gb528, 3, none⟩ = some (.int .i64 a0_3) := (blk_cell BK528.out 3).trans rfl; have hfz11_0 := blk_frozen BK528.out 0; have hfz11_1 := blk_frozen BK528.out 1; have hfz11_2 := blk_frozen BK528.out 2; have hfz11_3 := blk_frozen BK528.out 3))
   go_ret
   exact ⟨by first | rfl | (simp [errW_none, errW_some] <;> rfl) | (simp [*, errW_none, errW_some] <;> rfl), by repeat (first | (with_reducible first | exact HB.out | apply below_alloc | apply pw_below_drewN | apply below_drew1 | refine below_set ?_ GE528.out) | exact HB.out)⟩
end Go.Proofs.Ytdgefplbfffenaa.X
namespace Go.Proofs.Ytdgefplbfffenaa.X
open Go.RowKit Go.Proofs.YtdgefplbfffenaaW.PrintWords Go.Proofs.YtdgefplbfffenaaW.PrintLast Go.Proofs.YtdgefplbfffenaaW.PrintMore
/-- The first place at which p holds; -1: none. -/
def fidx (p : S52 → Bool) (l : List S52) : Int := if l.any p then (l.findIdx p : Int) else -1
theorem fidx_hit (p : S52 → Bool) (l : List S52) (i : Nat) (hi : i < l.length) (h0 : ∀ j, j < i → p (l.getD j z52) = false) (h1 : p (l.getD i z52) = true) : fidx p l = (i : Int) := by
  have e1 : l.getD i z52 = l[i] := by simp [List.getD_eq_getElem?_getD, List.getElem?_eq_getElem hi]
  have ha : l.any p = true := List.any_eq_true.2 ⟨l[i], List.getElem_mem hi, by rw [← e1]; exact h1⟩
  have hf : l.findIdx p = i := by
    rw [List.findIdx_eq hi]
    refine ⟨by rw [← e1]; exact h1, fun j hj => ?_⟩
    have := h0 j hj
    have e2 : l.getD j z52 = l[j] := by simp [List.getD_eq_getElem?_getD, List.getElem?_eq_getElem (show j < l.length by omega)]
    rw [← e2]; exact this
  rw [fidx, if_pos ha, hf]
theorem fidx_miss (p : S52 → Bool) (l : List S52) (h0 : ∀ j, j < l.length → p (l.getD j z52) = false) : fidx p l = -1 := by
  have ha : l.any p = false := by
    rw [List.any_eq_false]
    intro x hx
    obtain ⟨j, hj, rfl⟩ := List.getElem_of_mem hx
    have e2 : l.getD j z52 = l[j] := by simp [List.getD_eq_getElem?_getD, List.getElem?_eq_getElem hj]
    have := h0 j hj
    rw [e2] at this; simp [this]
  rw [fidx, if_neg (by simp [ha])]
set_option maxHeartbeats 4000000 in
set_option maxRecDepth 100000 in
theorem indexFunc_zone (g : Nat) (lb : Array Value) (p : S52 → Bool) (A : Option Addr) (c : Nat) (l : List S52) (w : World)
    (eg : ∀ args w, (callFunc g args).run Try.prog w = .ok (.enter g args) w)
    (hp : ∀ (W : World) (z : S52) (cs : List Value), Below w.heap.size w W → k52.K W z cs → Calls Try.prog g (#[.agg cs.toArray] ++ lb) W fun e w' => e = .returned (.bool (p z)) ∧ Below W.heap.size W w')
    (hr : k52.C w A l.length l) :
    Calls Try.prog 67 #[.slice A l.length c, .func (.func g) #[] lb] w fun e w' => e = .returned (.int .i64 (fidx p l)) ∧ Below w.heap.size w w' := by
  have HR := Aside0.mk hr
  have HP := Aside0.mk hp
  have hlen : l.length ≤ 9223372036854775807 := hr.2.1
  clear hr hp
  go_enter Try.func67, Try.ntmps67
  go_wp2
  go_loopw [8] (fun v8 wr => ∃ i : Nat, v8 = .int .i64 i ∧ i ≤ l.length ∧ Aside0 (∀ j, j < i → p (l.getD j z52) = false) ∧ Aside0 (Below w.heap.size w wr)) (fun v8 _ => l.length - (intOf v8).toNat)
  case atStart => exact ⟨0, rfl, Nat.zero_le _, ⟨fun j hj => absurd hj (by omega)⟩, ⟨Below.refl _ _⟩⟩
  case round =>
    obtain ⟨i, rfl, hi, HN, HB⟩ := hrel
    by_cases hlt : i < l.length
    · obtain ⟨ad, A2, c2, rfl, hx0, hx1, hx2, hx3, hl2, hC2⟩ := at_T52 HR.out (i : Int) (by omega) (by omega)
      simp only [Int.toNat_natCast] at hx0 hx1 hx2 hx3
      replace hx0 := (HB.out.cell (World.block_lt_of_cell? w _ hx0)).trans hx0
      replace hx1 := (HB.out.cell (World.block_lt_of_cell? w _ hx1)).trans hx1
      replace hx2 := (HB.out.cell (World.block_lt_of_cell? w _ hx2)).trans hx2
      replace hx3 := (HB.out.cell (World.block_lt_of_cell? w _ hx3)).trans hx3
      have ez : rd_T52 l (i : Int) = l.getD i z52 := rfl
      have hK := Aside0.mk (k52_mk wr (rd_T52 l (i : Int)) hl2 (Kd.C_below hC2 HB.out))
      clear hl2 hC2
      rw [ez] at hx0 hx1 hx2 hx3 hK
      clear ez
      obtain ⟨z, hz⟩ : ∃ z, z = l.getD i z52 := ⟨_, rfl⟩
      rw [← hz] at hx0 hx1 hx2 hx3 hK
      have HZ := Aside0.mk hz
      clear hz
      cases hpz : p z with
      | true =>
        have HPZ := Aside0.mk hpz
        clear hpz
        go_wp2_with fail
        refine (HP.out wr z _ HB.out hK.out).mono ?_
        rw [HPZ.out]
        rintro e w' ⟨rfl, hb⟩
        go_wp2
        go_ret
        refine ⟨?_, HB.out.trans (hb.mono HB.out.size)⟩
        rw [fidx_hit p l i hlt HN.out (by rw [← HZ.out]; exact HPZ.out)]; rfl
      | false =>
        have HPZ := Aside0.mk hpz
        clear hpz
        go_wp2_with fail
        refine (HP.out wr z _ HB.out hK.out).mono ?_
        rw [HPZ.out]
        rintro e w' ⟨rfl, hb⟩
        go_wp2
        go_roundw
        case rel =>
          refine ⟨i + 1, by go_num, by omega, ⟨fun j hj => ?_⟩, ⟨HB.out.trans (hb.mono HB.out.size)⟩⟩
          rcases Nat.lt_or_eq_of_le (Nat.le_of_lt_succ hj) with h | h
          · exact HN.out j h
          · rw [h, ← HZ.out]; exact HPZ.out
        case measure => simp [intOf]; omega
    · obtain rfl : i = l.length := by omega
      go_wp2
      go_ret
      exact ⟨by rw [fidx_miss p l HN.out]; rfl, HB.out⟩
end Go.Proofs.Ytdgefplbfffenaa.X
namespace Go.Proofs.Ytdgefplbfffenaa.X
open Go.RowKit Go.Proofs.YtdgefplbfffenaaW.PrintWords Go.Proofs.YtdgefplbfffenaaW.PrintLast Go.Proofs.YtdgefplbfffenaaW.PrintMore
/-- A zone that may be appended in; one that may be; how many bytes it takes. -/
def ztakes (z : S52) : Bool := z.f0 == 0 || z.f0 == 1 || z.f0 == 2
def zok (z : S52) (size : Int) : Bool :=
  !(decide (size < 1) || decide (size > 1048576) || decide ((z.f2.length : Int) > size) || decide (z.f3 < 0) || decide (z.f3 > (z.f2.length : Int)) || decide (z.f1 < 0) || decide (z.f1 > 1073741824)) &&
  (if z.f0 = 0 then z.f2.length == 0 else if z.f0 = 1 ∨ z.f0 = 2 then decide (0 < z.f2.length) && decide ((z.f2.length : Int) < size) else z.f0 == 3)
def zroom (z : S52) (size : Int) : Int := if zok z size && ztakes z then size - z.f2.length else 0
theorem takes_eq (z : S52) : zone_takes.f z.f0 z.f1 z.f2 z.f3 = some (ztakes z) := by
  unfold zone_takes.f ztakes
  by_cases h0 : z.f0 = 0 <;> by_cases h1 : z.f0 = 1 <;> by_cases h2 : z.f0 = 2 <;> simp [h0, h1, h2]
theorem check_eq (k : Nat) (z : S52) (size : Int) : zone_Check.f (k + 1) z.f0 z.f1 z.f2 z.f3 size = some (zok z size) := by
  unfold zone_Check.f zok
  simp only [zone_Check.j0, takes_eq, if_true, Option.bind_some]
  by_cases c1 : size < 1
  · simp [c1]
  · by_cases c2 : size > 1048576
    · simp [c1, c2]
    · by_cases c3 : (z.f2.length : Int) > size
      · simp [c1, c2, c3]
      · by_cases c4 : z.f3 < 0
        · simp [c1, c2, c3, c4]
        · by_cases c5 : z.f3 > (z.f2.length : Int)
          · simp [c1, c2, c3, c4, c5]
          · by_cases c6 : z.f1 < 0
            · simp [c1, c2, c3, c4, c5, c6]
            · by_cases c7 : z.f1 > 1073741824
              · simp [c1, c2, c3, c4, c5, c6, c7]
              · rw [if_neg c1, if_neg c2, if_neg c3, if_neg c4, if_neg c5, if_neg c6]
                simp only [c1, c2, c3, c4, c5, c6, c7, decide_false, Bool.false_eq_true, if_false, Bool.or_false, Bool.not_false, Bool.true_and]
                unfold ztakes
                by_cases h0 : z.f0 = 0
                · simp only [h0, if_true]; congr 1; rw [Bool.eq_iff_iff]; simp
                · by_cases h1 : z.f0 = 1
                  · simp [h1]; split <;> rename_i h <;> simp_all
                  · by_cases h2 : z.f0 = 2
                    · simp [h2]; split <;> rename_i h <;> simp_all
                    · simp [h0, h1, h2]
theorem room_eq (k : Nat) (z : S52) (size : Int) : zone_Room.f (k + 1) z.f0 z.f1 z.f2 z.f3 size = some (zroom z size) := by
  unfold zone_Room.f zroom
  rw [check_eq]; simp only [Option.bind_some, takes_eq]
  cases hz : zok z size with
  | false => simp
  | true =>
    cases ht : ztakes z with
    | false => simp
    | true =>
      simp only [if_true, Bool.and_true, Option.some.injEq]
      have : 1 ≤ size ∧ size ≤ 1048576 ∧ (z.f2.length : Int) ≤ size := by
        unfold zok at hz
        simp only [Bool.and_eq_true, Bool.not_eq_true', Bool.or_eq_false_iff, decide_eq_false_iff_not] at hz
        omega
      unfold wrap64; omega
theorem zcheck_calls (z : S52) (cs : List Value) (size : Int) (w : World) (hK : k52.K w z cs) : Calls Try.prog 45 #[.agg cs.toArray, .int .i64 size] w fun e w' => e = .returned (.bool (zok z size)) ∧ Below w.heap.size w w' := by
  obtain ⟨A2, c2, rfl, hl, hC⟩ := k52_open hK
  exact zone_Check.calls 1 z.f0 z.f1 A2 c2 z.f2 z.f3 size _ w hC hl (check_eq 0 z size)
theorem zroom_calls (z : S52) (cs : List Value) (size : Int) (w : World) (hK : k52.K w z cs) : Calls Try.prog 84 #[.agg cs.toArray, .int .i64 size] w fun e w' => e = .returned (.int .i64 (zroom z size)) ∧ Below w.heap.size w w' := by
  obtain ⟨A2, c2, rfl, hl, hC⟩ := k52_open hK
  exact zone_Room.calls 1 z.f0 z.f1 A2 c2 z.f2 z.f3 size _ w hC hl (room_eq 0 z size)
set_option maxHeartbeats 4000000 in
set_option maxRecDepth 100000 in
/-- dev.Check's closure: a zone that may not be; the device lies in block B. -/
theorem devCheck1_calls (B : Nat) (size : Int) (w : World) (hs : w.cell? ⟨B, 0, none⟩ = some (.int .i64 size)) (hB : B < w.heap.size) (W : World) (z : S52) (cs : List Value) (hb : Below w.heap.size w W) (hK : k52.K W z cs) :
    Calls Try.prog 44 (#[.agg cs.toArray] ++ #[.pointer (some ⟨B, 0, none⟩)]) W fun e w' => e = .returned (.bool (!zok z size)) ∧ Below W.heap.size W w' := by
  obtain ⟨A2, c2, rfl, hl, hC⟩ := k52_open hK
  have hu52 := Try.underlying52
  have hc : W.cell? ⟨B, 0, none⟩ = some (.int .i64 size) := (hb.cell (p := ⟨B, 0, none⟩) hB).trans hs
  have hBW : B < W.heap.size := Nat.lt_of_lt_of_le hB hb.size
  have hne : B ≠ W.heap.size := by omega
  have hcc := zcheck_calls z _ size (W.alloc (.cells #[.int .i64 z.f0, .int .i64 z.f1, .slice A2 z.f2.length c2, .int .i64 z.f3] 52)) (k52.K_below (below_alloc (Below.refl _ _) _) hK)
  simp only [List.append_toArray, List.cons_append, List.nil_append]
  have HC := Aside0.mk hcc
  clear hcc hs hK hC hl
  go_enter Try.func44, Try.ntmps44
  go_wp2_with fail
  refine HC.out.mono ?_
  rintro e w' ⟨rfl, hb'⟩
  have hb2 := Aside0.mk ((below_alloc (Below.refl W.heap.size W) _).trans (hb'.mono (by simp)))
  clear hb' HC
  go_wp2
  go_ret
  exact ⟨rfl, hb2.out⟩
end Go.Proofs.Ytdgefplbfffenaa.X
