/- The records that follow one another, out of any list of what was found and from any number on, are what the document says; for every input. (This text: part 4 of 5.) -/
import Derived.Test.YtdgefplbfffenaaLogRunsM3
import Derived.Test.YtdgefplbfffenaaLogRunsM2
set_option linter.unusedVariables false
set_option linter.unusedSimpArgs false
namespace Go.Proofs.Ytdgefplbfffenaa.X
open Go.Shelf Go.RowKit Go.Proofs.YtdgefplbfffenaaW.PrintWords Go.Proofs.YtdgefplbfffenaaW.PrintLast Go.Proofs.YtdgefplbfffenaaW.PrintMore
theorem blk_new4' (w : World) (o1 o2 o3 o : Obj) : ((((w.alloc o1).alloc o2).alloc o3).alloc o).heap[w.heap.size + 3]? = some o := by
  have h := blk_new (((w.alloc o1).alloc o2).alloc o3) o
  have e : (((w.alloc o1).alloc o2).alloc o3).heap.size = w.heap.size + 3 := by simp
  rwa [e] at h
theorem cell_far5 {w : World} {p : Addr} {B : Nat} {u y0 y1 y2 y3 y4 : Value} (h : w.cell? p = some u) (hne : p.block ≠ B) : (((((w.setCell ⟨B, 0, none⟩ y0).setCell ⟨B, 1, none⟩ y1).setCell ⟨B, 2, none⟩ y2).setCell ⟨B, 3, none⟩ y3).setCell ⟨B, 4, none⟩ y4).cell? p = some u :=
  cell_far1 (cell_far1 (cell_far1 (cell_far1 (cell_far1 h hne) hne) hne) hne) hne
theorem cell_same {W : World} {E : Nat} {u0 : Value} {t : TypeId} (h : W.heap[E]? = some (.cells #[u0] t (0, 0))) (u : Value) : (W.setCell ⟨E, 0, none⟩ u).cell? ⟨E, 0, none⟩ = some u := (blk_cell (blk_put h 0 _ rfl) 0).trans rfl
theorem set5_Sv {W : World} {B t base : Nat} {x0 x1 x2 x3 x4 v : Value} {ok : Nat → Prop} {xs : List S52} (hS : Kd.S k52 52 W base ok v xs) (h : W.heap[B]? = some (.cells #[x0, x1, x2, x3, x4] t (0, 0))) (ht : t = 27) (y0 y1 y2 y3 y4 : Value) :
    Kd.S k52 52 (((((W.setCell ⟨B, 0, none⟩ y0).setCell ⟨B, 1, none⟩ y1).setCell ⟨B, 2, none⟩ y2).setCell ⟨B, 3, none⟩ y3).setCell ⟨B, 4, none⟩ y4) base ok v xs := by
  subst ht
  have hq : ∀ q, q ∈ 52 :: k52.E → q ≠ 27 := by decide
  exact Kd.S_set (Kd.S_set (Kd.S_set (Kd.S_set (Kd.S_set hS h hq 0 y0) (blk_set h 0 y0) hq 1 y1) (blk_set (blk_set h 0 y0) 1 y1) hq 2 y2) (blk_set (blk_set (blk_set h 0 y0) 1 y1) 2 y2) hq 3 y3) (blk_set (blk_set (blk_set (blk_set h 0 y0) 1 y1) 2 y2) 3 y3) hq 4 y4
theorem below0_drew {W W6 : World} (h : Below 0 W.drew W6) : Below 0 W W6 := ⟨h.os, h.tape, h.output, h.size, fun _ hk => absurd hk (Nat.not_lt_zero _)⟩
theorem below_of0 {B : Nat} {w W W6 : World} (h : Below B w W) (h0 : Below 0 W W6) (hk : ∀ k, k < B → W6.heap[k]? = W.heap[k]?) : Below B w W6 :=
  h.trans ⟨h0.os, h0.tape, h0.output, h0.size, hk⟩
theorem run_loadVar_cell {P : Program} (w : World) (g : Nat) (ty : TypeId) (v : Value) (d : TypeDesc) (hc : w.cell? ⟨g, 0, none⟩ = some v) (hu : P.underlying ty = some d) (hd : (match d with | .struct _ | .array _ _ => true | _ => false) = false) :
    (loadVar ty ⟨g, 0, none⟩).run P w = .ok v w := by
  have hagg : (isAgg ty).run P w = .ok false w := by
    unfold isAgg
    rw [Sem.run_bind, run_underlying hu w]
    cases d <;> simp_all
  simp [loadVar, Sem.run_bind, hagg, hc]
theorem results_cs {P : Program} {fn : Func} {p p' : Tmp} {ty ty' : TypeId} (h : fn.results = #[.cell p ty, .cell p' ty']) (tmps : Array Value) (w : World) (g g' : Nat) (t : TypeId) (cs : Array Value) (v : Value) (fr : Nat × Nat) (d d' : TypeDesc)
    (hp : tmps.getD p undef = .pointer (some ⟨g, 0, none⟩)) (hg : w.heap[g]? = some (.cells cs t fr))
    (hu : P.underlying ty = some d) (hd : (match d with | .struct _ | .array _ _ => true | _ => false) = true) (hi : (P.info? ty).map (·.size) = some cs.size)
    (hp' : tmps.getD p' undef = .pointer (some ⟨g', 0, none⟩)) (hg' : w.cell? ⟨g', 0, none⟩ = some v)
    (hu' : P.underlying ty' = some d') (hd' : (match d' with | .struct _ | .array _ _ => true | _ => false) = false) :
    (results fn tmps).run P w = .ok (.tuple #[.agg cs, v]) w := by
  have h1 : tmps[p]?.getD undef = .pointer (some ⟨g, 0, none⟩) := by simpa using hp
  have h2 : tmps[p']?.getD undef = .pointer (some ⟨g', 0, none⟩) := by simpa using hp'
  simp [results, h, h1, h2, asAddr, run_loadVar_row w g t ty cs fr d hg hu hd hi, run_loadVar_cell w g' ty' v d' hg' hu' hd']
def DoPost (w : World) (size left done er : Int) (down : Bool) (l' : List S52) (e : Ending) (w' : World) : Prop :=
  ∃ v, e = .returned (.tuple #[.agg #[.int .i64 size, v, .int .i64 left, .bool down, .int .i64 done], .int .i64 er]) ∧ Kd.S k52 52 w' w.heap.size (fun _ => True) v l' ∧ Below w.heap.size w w'
set_option maxHeartbeats 8000000 in
set_option maxRecDepth 100000 in
theorem do1_calls (z' : S52) (kn : Int) (Ab : Option Addr) (nb cb : Nat) (size left done : Int) (A : Option Addr) (c : Nat) (l : List S52) (w : World)
    (hC : k52.C w A l.length l) (hl : l.length ≤ c) (hk0 : 0 ≤ kn) (hk1 : kn < l.length) (hok : dok size l = true) (hdat : ∀ z ∈ l, z.f2.length < 140737488355328) (hleft : left ≠ 0) (hlb : -9223372036854775808 < left) (hlu : left < 9223372036854775807)
    (hdo : ∀ (W' : World) (D G cap : Nat) (A2 : Option Addr) (c2 : Nat), W'.heap[D]? = some (.cells #[.int .i64 size, .slice (some ⟨G, 0, none⟩) l.length cap, .int .i64 (dleft left), .bool false, .int .i64 (wrap64 (done + 1))] 27 (0, 0)) → k52.C W' (some ⟨G, 0, none⟩) l.length l → l.length ≤ cap → Below w.heap.size w W' → (Kd.int .u8).C W' A2 (rd_T52 l kn).f2.length (rd_T52 l kn).f2 → (rd_T52 l kn).f2.length ≤ c2 →
      Calls Try.prog 85 #[.agg #[.int .i64 1, .int .i64 kn, .slice Ab nb cb], .pointer (some ⟨D, 0, none⟩), .agg #[.int .i64 (rd_T52 l kn).f0, .int .i64 (rd_T52 l kn).f1, .slice A2 (rd_T52 l kn).f2.length c2, .int .i64 (rd_T52 l kn).f3]] W' (ZonePost W' z' 0)) :
    Calls Try.prog 24 #[.agg #[.int .i64 size, .slice A l.length c, .int .i64 left, .bool false, .int .i64 done], .agg #[.int .i64 1, .int .i64 kn, .slice Ab nb cb]] w (DoPost w size (dleft left) (wrap64 (done + 1)) 0 false (l.set kn.toNat z')) := by
  have hu27 := Try.underlying27
  have hu56 := Try.underlying56
  have hb4 := (((below_alloc (Below.refl w.heap.size w) (.cells #[.int .i64 size, .slice A l.length c, .int .i64 left, .bool false, .int .i64 done] 27)).alloc (by simp) (.cells #[.int .i64 1, .int .i64 kn, .slice Ab nb cb] 56)).alloc (by simp; omega) (.cells #[.int .i64 0, .slice none 0 0, .int .i64 0, .bool false, .int .i64 0] 27)).alloc (by simp; omega) (.cells #[.int .i64 0] 28)
  have b0 := blk_alloc (blk_alloc (blk_alloc (blk_new w (.cells #[.int .i64 size, .slice A l.length c, .int .i64 left, .bool false, .int .i64 done] 27)) (.cells #[.int .i64 1, .int .i64 kn, .slice Ab nb cb] 56)) (.cells #[.int .i64 0, .slice none 0 0, .int .i64 0, .bool false, .int .i64 0] 27)) (.cells #[.int .i64 0] 28)
  have b1 := blk_alloc (blk_alloc (blk_new2 w (.cells #[.int .i64 size, .slice A l.length c, .int .i64 left, .bool false, .int .i64 done] 27) (.cells #[.int .i64 1, .int .i64 kn, .slice Ab nb cb] 56)) (.cells #[.int .i64 0, .slice none 0 0, .int .i64 0, .bool false, .int .i64 0] 27)) (.cells #[.int .i64 0] 28)
  have b2 := blk_alloc (blk_new3 w (.cells #[.int .i64 size, .slice A l.length c, .int .i64 left, .bool false, .int .i64 done] 27) (.cells #[.int .i64 1, .int .i64 kn, .slice Ab nb cb] 56) (.cells #[.int .i64 0, .slice none 0 0, .int .i64 0, .bool false, .int .i64 0] 27)) (.cells #[.int .i64 0] 28)
  have b3 := blk_new4' w (.cells #[.int .i64 size, .slice A l.length c, .int .i64 left, .bool false, .int .i64 done] 27) (.cells #[.int .i64 1, .int .i64 kn, .slice Ab nb cb] 56) (.cells #[.int .i64 0, .slice none 0 0, .int .i64 0, .bool false, .int .i64 0] 27) (.cells #[.int .i64 0] 28)
  have hsz : ((((w.alloc (.cells #[.int .i64 size, .slice A l.length c, .int .i64 left, .bool false, .int .i64 done] 27)).alloc (.cells #[.int .i64 1, .int .i64 kn, .slice Ab nb cb] 56)).alloc (.cells #[.int .i64 0, .slice none 0 0, .int .i64 0, .bool false, .int .i64 0] 27)).alloc (.cells #[.int .i64 0] 28)).heap.size = w.heap.size + 4 := by simp
  have HDK := hok
  have hlen : l.length ≤ 64 := by
    unfold dok at HDK
    simp only [Bool.and_eq_true, decide_eq_true_eq] at HDK
    omega
  clear HDK
  have HC := Aside0.mk (Kd.C_below hC hb4)
  have HL := Aside0.mk hl
  have HK := Aside0.mk (And.intro hk0 (And.intro hk1 hlen))
  have HOK := Aside0.mk hok
  have HDAT := Aside0.mk hdat
  have HLF := Aside0.mk (And.intro hleft (And.intro hlb hlu))
  have HDO := Aside0.mk hdo
  clear hC hl hk0 hk1 hlen hok hdat hleft hlb hlu hdo
  have d0 : ((((w.alloc (.cells #[.int .i64 size, .slice A l.length c, .int .i64 left, .bool false, .int .i64 done] 27)).alloc (.cells #[.int .i64 1, .int .i64 kn, .slice Ab nb cb] 56)).alloc (.cells #[.int .i64 0, .slice none 0 0, .int .i64 0, .bool false, .int .i64 0] 27)).alloc (.cells #[.int .i64 0] 28)).cell? ⟨w.heap.size, 0, none⟩ = some (.int .i64 size) := (blk_cell b0 0).trans rfl
  have d1 : ((((w.alloc (.cells #[.int .i64 size, .slice A l.length c, .int .i64 left, .bool false, .int .i64 done] 27)).alloc (.cells #[.int .i64 1, .int .i64 kn, .slice Ab nb cb] 56)).alloc (.cells #[.int .i64 0, .slice none 0 0, .int .i64 0, .bool false, .int .i64 0] 27)).alloc (.cells #[.int .i64 0] 28)).cell? ⟨w.heap.size, 1, none⟩ = some (.slice A l.length c) := (blk_cell b0 1).trans rfl
  have d2 : ((((w.alloc (.cells #[.int .i64 size, .slice A l.length c, .int .i64 left, .bool false, .int .i64 done] 27)).alloc (.cells #[.int .i64 1, .int .i64 kn, .slice Ab nb cb] 56)).alloc (.cells #[.int .i64 0, .slice none 0 0, .int .i64 0, .bool false, .int .i64 0] 27)).alloc (.cells #[.int .i64 0] 28)).cell? ⟨w.heap.size, 2, none⟩ = some (.int .i64 left) := (blk_cell b0 2).trans rfl
  have d3 : ((((w.alloc (.cells #[.int .i64 size, .slice A l.length c, .int .i64 left, .bool false, .int .i64 done] 27)).alloc (.cells #[.int .i64 1, .int .i64 kn, .slice Ab nb cb] 56)).alloc (.cells #[.int .i64 0, .slice none 0 0, .int .i64 0, .bool false, .int .i64 0] 27)).alloc (.cells #[.int .i64 0] 28)).cell? ⟨w.heap.size, 3, none⟩ = some (.bool false) := (blk_cell b0 3).trans rfl
  have d4 : ((((w.alloc (.cells #[.int .i64 size, .slice A l.length c, .int .i64 left, .bool false, .int .i64 done] 27)).alloc (.cells #[.int .i64 1, .int .i64 kn, .slice Ab nb cb] 56)).alloc (.cells #[.int .i64 0, .slice none 0 0, .int .i64 0, .bool false, .int .i64 0] 27)).alloc (.cells #[.int .i64 0] 28)).cell? ⟨w.heap.size, 4, none⟩ = some (.int .i64 done) := (blk_cell b0 4).trans rfl
  have e0 : ((((w.alloc (.cells #[.int .i64 size, .slice A l.length c, .int .i64 left, .bool false, .int .i64 done] 27)).alloc (.cells #[.int .i64 1, .int .i64 kn, .slice Ab nb cb] 56)).alloc (.cells #[.int .i64 0, .slice none 0 0, .int .i64 0, .bool false, .int .i64 0] 27)).alloc (.cells #[.int .i64 0] 28)).cell? ⟨w.heap.size + 3, 0, none⟩ = some (.int .i64 0) := (blk_cell b3 0).trans rfl
  go_enter Try.func24, Try.ntmps24
  go_wp2_with fail
  generalize ((((w.alloc (.cells #[.int .i64 size, .slice A l.length c, .int .i64 left, .bool false, .int .i64 done] 27)).alloc (.cells #[.int .i64 1, .int .i64 kn, .slice Ab nb cb] 56)).alloc (.cells #[.int .i64 0, .slice none 0 0, .int .i64 0, .bool false, .int .i64 0] 27)).alloc (.cells #[.int .i64 0] 28)) = W at *
  have B0 := Aside0.mk b0
  have B1 := Aside0.mk b1
  have B2 := Aside0.mk b2
  have B3 := Aside0.mk b3
  have HB := Aside0.mk hb4
  have HSZ := Aside0.mk hsz
  clear b0 b1 b2 b3 hb4 hsz
  have ne0 := Aside0.mk (show w.heap.size ≠ w.heap.size + 1 + 1 + 1 by omega)
  have ne2 := Aside0.mk (show w.heap.size + 1 + 1 ≠ w.heap.size + 1 + 1 + 1 by omega)
  have ne02 := Aside0.mk (show w.heap.size ≠ w.heap.size + 1 + 1 by omega)
  have ne32 := Aside0.mk (show w.heap.size + 1 + 1 + 1 ≠ w.heap.size + 1 + 1 by omega)
  have HOW := Aside0.mk (own_calls 49 #[.pointer (some ⟨w.heap.size + 1 + 1 + 1, 0, none⟩), .pointer (some ⟨w.heap.size + 1, 0, none⟩)] eg49 size A c l left false done (w.heap.size + 1 + 1 + 1) (l.set kn.toNat z') size (dleft left) false (wrap64 (done + 1)) (some (.cells #[.int .i64 0] 28 (0, 0))) W.drew
    (Kd.C_below HC.out (below_drew (Below.refl _ _))) HL.out (by have := HK.out; omega) (by have := HK.out; omega) HDAT.out (by show _ < W.heap.size; have := HSZ.out; omega)
    (fun W1 D G cap hD hDev hS hB => doClose1_calls z' kn Ab nb cb size left done l D G cap _ _ _ W.drew W1 HK.out.1 HK.out.2.1 (by have := HK.out; omega) HOK.out HLF.out.1 HLF.out.2.1 HLF.out.2.2 B3.out B1.out rfl hD hDev hS hB
      (fun W' A2 c2 h1 h2 h3 h4 h5 => HDO.out W' D G cap A2 c2 h1 h2 (Kd.S_reads' hS).2.1 (HB.out.trans ((below_drew (Below.refl W.heap.size W)).trans h3 |>.mono HB.out.size)) h4 h5)))
  go_region_held3 (fun w' => w'.cell? ⟨w.heap.size, 0, none⟩ = some (.int .i64 size) ∧ w'.cell? ⟨w.heap.size, 1, none⟩ = some (.slice A l.length c) ∧ w'.cell? ⟨w.heap.size, 2, none⟩ = some (.int .i64 left) ∧ w'.cell? ⟨w.heap.size, 3, none⟩ = some (.bool false) ∧ w'.cell? ⟨w.heap.size, 4, none⟩ = some (.int .i64 done) ∧ w'.cell? ⟨w.heap.size + 1 + 1 + 1, 0, none⟩ = some (.int .i64 0))
    (first
      | with_reducible exact ⟨cell_far1 (cell_far5 q0 ne02.out) ne0.out, cell_far1 (cell_far5 q1 ne02.out) ne0.out, cell_far1 (cell_far5 q2 ne02.out) ne0.out, cell_far1 (cell_far5 q3 ne02.out) ne0.out, cell_far1 (cell_far5 q4 ne02.out) ne0.out, cell_same ((set5_far _ _ _ _ _ ne32.out).trans HE6.out) _⟩
      | with_reducible exact ⟨cell_drew1 (cell_far1 (cell_far5 q0 ne02.out) ne0.out), cell_drew1 (cell_far1 (cell_far5 q1 ne02.out) ne0.out), cell_drew1 (cell_far1 (cell_far5 q2 ne02.out) ne0.out), cell_drew1 (cell_far1 (cell_far5 q3 ne02.out) ne0.out), cell_drew1 (cell_far1 (cell_far5 q4 ne02.out) ne0.out), cell_drew1 (cell_same ((set5_far _ _ _ _ _ ne32.out).trans HE6.out) _)⟩
      | with_reducible exact ⟨cell_far5 q0 ne02.out, cell_far5 q1 ne02.out, cell_far5 q2 ne02.out, cell_far5 q3 ne02.out, cell_far5 q4 ne02.out, cell_far5 qe ne32.out⟩
      | with_reducible exact ⟨q0, q1, q2, q3, q4, qe⟩
      | with_reducible exact ⟨d0, d1, d2, d3, d4, e0⟩
      | exact ⟨d0, d1, d2, d3, d4, e0⟩)
    (first
      | (go_at_call 48; refine HOW.out.mono ?_; rintro e w6 ⟨v, rfl, hS, hb0, hk, hE⟩; obtain ⟨A6, c6, rfl⟩ := Kd.S_slice hS; have HS6 := Aside0.mk hS; have HB6 := Aside0.mk hb0; have HK6 := Aside0.mk hk; have HE6 := Aside0.mk hE; have D6 := Aside0.mk ((hk _ (blk_lt B0.out) ne0.out).trans B0.out); have R6 := Aside0.mk ((hk _ (blk_lt B2.out) ne2.out).trans B2.out); clear hS hb0 hk hE; have q0 : w6.cell? ⟨w.heap.size, 0, none⟩ = some (.int .i64 size) := (blk_cell D6.out 0).trans rfl; have q1 : w6.cell? ⟨w.heap.size, 1, none⟩ = some (.slice A l.length c) := (blk_cell D6.out 1).trans rfl; have q2 : w6.cell? ⟨w.heap.size, 2, none⟩ = some (.int .i64 left) := (blk_cell D6.out 2).trans rfl; have q3 : w6.cell? ⟨w.heap.size, 3, none⟩ = some (.bool false) := (blk_cell D6.out 3).trans rfl; have q4 : w6.cell? ⟨w.heap.size, 4, none⟩ = some (.int .i64 done) := (blk_cell D6.out 4).trans rfl; have qe : w6.cell? ⟨w.heap.size + 1 + 1 + 1, 0, none⟩ = some (.int .i64 0) := (blk_cell HE6.out 0).trans rfl; have qf : w6.frozen? ⟨w.heap.size + 1 + 1 + 1, 0, none⟩ = false := blk_frozen HE6.out 0; have r0 : w6.cell? ⟨w.heap.size + 1 + 1, 0, none⟩ = some (.int .i64 0) := (blk_cell R6.out 0).trans rfl; have r1 : w6.cell? ⟨w.heap.size + 1 + 1, 1, none⟩ = some (.slice none 0 0) := (blk_cell R6.out 1).trans rfl; have r2 : w6.cell? ⟨w.heap.size + 1 + 1, 2, none⟩ = some (.int .i64 0) := (blk_cell R6.out 2).trans rfl; have r3 : w6.cell? ⟨w.heap.size + 1 + 1, 3, none⟩ = some (.bool false) := (blk_cell R6.out 3).trans rfl; have r4 : w6.cell? ⟨w.heap.size + 1 + 1, 4, none⟩ = some (.int .i64 0) := (blk_cell R6.out 4).trans rfl; have g0 : w6.frozen? ⟨w.heap.size + 1 + 1, 0, none⟩ = false := blk_frozen R6.out 0; have g1 : w6.frozen? ⟨w.heap.size + 1 + 1, 1, none⟩ = false := blk_frozen R6.out 1; have g2 : w6.frozen? ⟨w.heap.size + 1 + 1, 2, none⟩ = false := blk_frozen R6.out 2; have g3 : w6.frozen? ⟨w.heap.size + 1 + 1, 3, none⟩ = false := blk_frozen R6.out 3; have g4 : w6.frozen? ⟨w.heap.size + 1 + 1, 4, none⟩ = false := blk_frozen R6.out 4)
      | fail)
  have R7 := put5 R6.out (.int .i64 size) (.slice A6 l.length c6) (.int .i64 (dleft left)) (.bool false) (.int .i64 (wrap64 (done + 1)))
  have R8 := Aside0.mk (blk_far R7 (p := ⟨w.heap.size + 1 + 1 + 1, 0, none⟩) ne2.out (.int .i64 0))
  have E7 := (set5_far (.int .i64 size) (.slice A6 l.length c6) (.int .i64 (dleft left)) (.bool false) (.int .i64 (wrap64 (done + 1))) ne32.out).trans HE6.out
  have E8 := Aside0.mk (cell_same E7 (.int .i64 0))
  have HLS : (l.set kn.toNat z').length = l.length := List.length_set
  rw [HLS] at HS6
  have S8 := Aside0.mk (Kd.S_set (set5_Sv HS6.out R6.out (by decide) (.int .i64 size) (.slice A6 l.length c6) (.int .i64 (dleft left)) (.bool false) (.int .i64 (wrap64 (done + 1)))) E7 (by decide) 0 (.int .i64 0))
  have K8 := Aside0.mk (below_of0 (B := w.heap.size) (W := W) (W6 := w6) HB.out (below0_drew HB6.out) (fun k hk => HK6.out k (Nat.lt_of_lt_of_le hk HB.out.size) (by omega)))
  clear qf g0 g1 g2 g3 g4 r0 r1 r2 r3 r4 q0 q1 q2 q3 q4 qe e0 d0 d1 d2 d3 d4
  go_wp2_with fail
  refine bodyPost_ret (results_cs rfl _ _ (w.heap.size + 1 + 1) (w.heap.size + 1 + 1 + 1) 27 _ _ (0, 0) _ _ rfl R8.out Try.underlying27 rfl (by kernel_rfl) rfl E8.out Try.underlying28 rfl) rfl ?_
  refine ⟨_, rfl, Kd.S_lower S8.out HB.out.size, ?_⟩
  exact ((((((K8.out.setCell (by show _ ≤ w.heap.size + 1 + 1; omega) _).setCell (by show _ ≤ w.heap.size + 1 + 1; omega) _).setCell (by show _ ≤ w.heap.size + 1 + 1; omega) _).setCell (by show _ ≤ w.heap.size + 1 + 1; omega) _).setCell (by show _ ≤ w.heap.size + 1 + 1; omega) _).setCell (by show _ ≤ w.heap.size + 1 + 1 + 1; omega) _)
set_option maxHeartbeats 8000000 in
set_option maxRecDepth 100000 in
theorem do3_calls (z' : S52) (kn : Int) (Ab : Option Addr) (nb cb : Nat) (size left done : Int) (A : Option Addr) (c : Nat) (l : List S52) (w : World)
    (hC : k52.C w A l.length l) (hl : l.length ≤ c) (hk0 : 0 ≤ kn) (hk1 : kn < l.length) (hok : dok size l = true) (hdat : ∀ z ∈ l, z.f2.length < 140737488355328) (hleft : left ≠ 0) (hlb : -9223372036854775808 < left) (hlu : left < 9223372036854775807)
    (hdo : ∀ (W' : World) (D G cap : Nat) (A2 : Option Addr) (c2 : Nat), W'.heap[D]? = some (.cells #[.int .i64 size, .slice (some ⟨G, 0, none⟩) l.length cap, .int .i64 (dleft left), .bool false, .int .i64 (wrap64 (done + 1))] 27 (0, 0)) → k52.C W' (some ⟨G, 0, none⟩) l.length l → l.length ≤ cap → Below w.heap.size w W' → (Kd.int .u8).C W' A2 (rd_T52 l kn).f2.length (rd_T52 l kn).f2 → (rd_T52 l kn).f2.length ≤ c2 →
      Calls Try.prog 87 #[.agg #[.int .i64 3, .int .i64 kn, .slice Ab nb cb], .pointer (some ⟨D, 0, none⟩), .agg #[.int .i64 (rd_T52 l kn).f0, .int .i64 (rd_T52 l kn).f1, .slice A2 (rd_T52 l kn).f2.length c2, .int .i64 (rd_T52 l kn).f3]] W' (ZonePost W' z' 0)) :
    Calls Try.prog 24 #[.agg #[.int .i64 size, .slice A l.length c, .int .i64 left, .bool false, .int .i64 done], .agg #[.int .i64 3, .int .i64 kn, .slice Ab nb cb]] w (DoPost w size (dleft left) (wrap64 (done + 1)) 0 false (l.set kn.toNat z')) := by
  have hu27 := Try.underlying27
  have hu56 := Try.underlying56
  have hb4 := (((below_alloc (Below.refl w.heap.size w) (.cells #[.int .i64 size, .slice A l.length c, .int .i64 left, .bool false, .int .i64 done] 27)).alloc (by simp) (.cells #[.int .i64 3, .int .i64 kn, .slice Ab nb cb] 56)).alloc (by simp; omega) (.cells #[.int .i64 0, .slice none 0 0, .int .i64 0, .bool false, .int .i64 0] 27)).alloc (by simp; omega) (.cells #[.int .i64 0] 28)
  have b0 := blk_alloc (blk_alloc (blk_alloc (blk_new w (.cells #[.int .i64 size, .slice A l.length c, .int .i64 left, .bool false, .int .i64 done] 27)) (.cells #[.int .i64 3, .int .i64 kn, .slice Ab nb cb] 56)) (.cells #[.int .i64 0, .slice none 0 0, .int .i64 0, .bool false, .int .i64 0] 27)) (.cells #[.int .i64 0] 28)
  have b1 := blk_alloc (blk_alloc (blk_new2 w (.cells #[.int .i64 size, .slice A l.length c, .int .i64 left, .bool false, .int .i64 done] 27) (.cells #[.int .i64 3, .int .i64 kn, .slice Ab nb cb] 56)) (.cells #[.int .i64 0, .slice none 0 0, .int .i64 0, .bool false, .int .i64 0] 27)) (.cells #[.int .i64 0] 28)
  have b2 := blk_alloc (blk_new3 w (.cells #[.int .i64 size, .slice A l.length c, .int .i64 left, .bool false, .int .i64 done] 27) (.cells #[.int .i64 3, .int .i64 kn, .slice Ab nb cb] 56) (.cells #[.int .i64 0, .slice none 0 0, .int .i64 0, .bool false, .int .i64 0] 27)) (.cells #[.int .i64 0] 28)
  have b3 := blk_new4' w (.cells #[.int .i64 size, .slice A l.length c, .int .i64 left, .bool false, .int .i64 done] 27) (.cells #[.int .i64 3, .int .i64 kn, .slice Ab nb cb] 56) (.cells #[.int .i64 0, .slice none 0 0, .int .i64 0, .bool false, .int .i64 0] 27) (.cells #[.int .i64 0] 28)
  have hsz : ((((w.alloc (.cells #[.int .i64 size, .slice A l.length c, .int .i64 left, .bool false, .int .i64 done] 27)).alloc (.cells #[.int .i64 3, .int .i64 kn, .slice Ab nb cb] 56)).alloc (.cells #[.int .i64 0, .slice none 0 0, .int .i64 0, .bool false, .int .i64 0] 27)).alloc (.cells #[.int .i64 0] 28)).heap.size = w.heap.size + 4 := by simp
  have HDK := hok
  have hlen : l.length ≤ 64 := by
    unfold dok at HDK
    simp only [Bool.and_eq_true, decide_eq_true_eq] at HDK
    omega
  clear HDK
  have HC := Aside0.mk (Kd.C_below hC hb4)
  have HL := Aside0.mk hl
  have HK := Aside0.mk (And.intro hk0 (And.intro hk1 hlen))
  have HOK := Aside0.mk hok
  have HDAT := Aside0.mk hdat
  have HLF := Aside0.mk (And.intro hleft (And.intro hlb hlu))
  have HDO := Aside0.mk hdo
  clear hC hl hk0 hk1 hlen hok hdat hleft hlb hlu hdo
  have d0 : ((((w.alloc (.cells #[.int .i64 size, .slice A l.length c, .int .i64 left, .bool false, .int .i64 done] 27)).alloc (.cells #[.int .i64 3, .int .i64 kn, .slice Ab nb cb] 56)).alloc (.cells #[.int .i64 0, .slice none 0 0, .int .i64 0, .bool false, .int .i64 0] 27)).alloc (.cells #[.int .i64 0] 28)).cell? ⟨w.heap.size, 0, none⟩ = some (.int .i64 size) := (blk_cell b0 0).trans rfl
  have d1 : ((((w.alloc (.cells #[.int .i64 size, .slice A l.length c, .int .i64 left, .bool false, .int .i64 done] 27)).alloc (.cells #[.int .i64 3, .int .i64 kn, .slice Ab nb cb] 56)).alloc (.cells #[.int .i64 0, .slice none 0 0, .int .i64 0, .bool false, .int .i64 0] 27)).alloc (.cells #[.int .i64 0] 28)).cell? ⟨w.heap.size, 1, none⟩ = some (.slice A l.length c) := (blk_cell b0 1).trans rfl
  have d2 : ((((w.alloc (.cells #[.int .i64 size, .slice A l.length c, .int .i64 left, .bool false, .int .i64 done] 27)).alloc (.cells #[.int .i64 3, .int .i64 kn, .slice Ab nb cb] 56)).alloc (.cells #[.int .i64 0, .slice none 0 0, .int .i64 0, .bool false, .int .i64 0] 27)).alloc (.cells #[.int .i64 0] 28)).cell? ⟨w.heap.size, 2, none⟩ = some (.int .i64 left) := (blk_cell b0 2).trans rfl
  have d3 : ((((w.alloc (.cells #[.int .i64 size, .slice A l.length c, .int .i64 left, .bool false, .int .i64 done] 27)).alloc (.cells #[.int .i64 3, .int .i64 kn, .slice Ab nb cb] 56)).alloc (.cells #[.int .i64 0, .slice none 0 0, .int .i64 0, .bool false, .int .i64 0] 27)).alloc (.cells #[.int .i64 0] 28)).cell? ⟨w.heap.size, 3, none⟩ = some (.bool false) := (blk_cell b0 3).trans rfl
  have d4 : ((((w.alloc (.cells #[.int .i64 size, .slice A l.length c, .int .i64 left, .bool false, .int .i64 done] 27)).alloc (.cells #[.int .i64 3, .int .i64 kn, .slice Ab nb cb] 56)).alloc (.cells #[.int .i64 0, .slice none 0 0, .int .i64 0, .bool false, .int .i64 0] 27)).alloc (.cells #[.int .i64 0] 28)).cell? ⟨w.heap.size, 4, none⟩ = some (.int .i64 done) := (blk_cell b0 4).trans rfl
  have e0 : ((((w.alloc (.cells #[.int .i64 size, .slice A l.length c, .int .i64 left, .bool false, .int .i64 done] 27)).alloc (.cells #[.int .i64 3, .int .i64 kn, .slice Ab nb cb] 56)).alloc (.cells #[.int .i64 0, .slice none 0 0, .int .i64 0, .bool false, .int .i64 0] 27)).alloc (.cells #[.int .i64 0] 28)).cell? ⟨w.heap.size + 3, 0, none⟩ = some (.int .i64 0) := (blk_cell b3 0).trans rfl
  go_enter Try.func24, Try.ntmps24
  go_wp2_with fail
  generalize ((((w.alloc (.cells #[.int .i64 size, .slice A l.length c, .int .i64 left, .bool false, .int .i64 done] 27)).alloc (.cells #[.int .i64 3, .int .i64 kn, .slice Ab nb cb] 56)).alloc (.cells #[.int .i64 0, .slice none 0 0, .int .i64 0, .bool false, .int .i64 0] 27)).alloc (.cells #[.int .i64 0] 28)) = W at *
  have B0 := Aside0.mk b0
  have B1 := Aside0.mk b1
  have B2 := Aside0.mk b2
  have B3 := Aside0.mk b3
  have HB := Aside0.mk hb4
  have HSZ := Aside0.mk hsz
  clear b0 b1 b2 b3 hb4 hsz
  have ne0 := Aside0.mk (show w.heap.size ≠ w.heap.size + 1 + 1 + 1 by omega)
  have ne2 := Aside0.mk (show w.heap.size + 1 + 1 ≠ w.heap.size + 1 + 1 + 1 by omega)
  have ne02 := Aside0.mk (show w.heap.size ≠ w.heap.size + 1 + 1 by omega)
  have ne32 := Aside0.mk (show w.heap.size + 1 + 1 + 1 ≠ w.heap.size + 1 + 1 by omega)
  have HOW := Aside0.mk (own_calls 49 #[.pointer (some ⟨w.heap.size + 1 + 1 + 1, 0, none⟩), .pointer (some ⟨w.heap.size + 1, 0, none⟩)] eg49 size A c l left false done (w.heap.size + 1 + 1 + 1) (l.set kn.toNat z') size (dleft left) false (wrap64 (done + 1)) (some (.cells #[.int .i64 0] 28 (0, 0))) W.drew
    (Kd.C_below HC.out (below_drew (Below.refl _ _))) HL.out (by have := HK.out; omega) (by have := HK.out; omega) HDAT.out (by show _ < W.heap.size; have := HSZ.out; omega)
    (fun W1 D G cap hD hDev hS hB => doClose3_calls z' kn Ab nb cb size left done l D G cap _ _ _ W.drew W1 HK.out.1 HK.out.2.1 (by have := HK.out; omega) HOK.out HLF.out.1 HLF.out.2.1 HLF.out.2.2 B3.out B1.out rfl hD hDev hS hB
      (fun W' A2 c2 h1 h2 h3 h4 h5 => HDO.out W' D G cap A2 c2 h1 h2 (Kd.S_reads' hS).2.1 (HB.out.trans ((below_drew (Below.refl W.heap.size W)).trans h3 |>.mono HB.out.size)) h4 h5)))
  go_region_held3 (fun w' => w'.cell? ⟨w.heap.size, 0, none⟩ = some (.int .i64 size) ∧ w'.cell? ⟨w.heap.size, 1, none⟩ = some (.slice A l.length c) ∧ w'.cell? ⟨w.heap.size, 2, none⟩ = some (.int .i64 left) ∧ w'.cell? ⟨w.heap.size, 3, none⟩ = some (.bool false) ∧ w'.cell? ⟨w.heap.size, 4, none⟩ = some (.int .i64 done) ∧ w'.cell? ⟨w.heap.size + 1 + 1 + 1, 0, none⟩ = some (.int .i64 0))
    (first
      | with_reducible exact ⟨cell_far1 (cell_far5 q0 ne02.out) ne0.out, cell_far1 (cell_far5 q1 ne02.out) ne0.out, cell_far1 (cell_far5 q2 ne02.out) ne0.out, cell_far1 (cell_far5 q3 ne02.out) ne0.out, cell_far1 (cell_far5 q4 ne02.out) ne0.out, cell_same ((set5_far _ _ _ _ _ ne32.out).trans HE6.out) _⟩
      | with_reducible exact ⟨cell_drew1 (cell_far1 (cell_far5 q0 ne02.out) ne0.out), cell_drew1 (cell_far1 (cell_far5 q1 ne02.out) ne0.out), cell_drew1 (cell_far1 (cell_far5 q2 ne02.out) ne0.out), cell_drew1 (cell_far1 (cell_far5 q3 ne02.out) ne0.out), cell_drew1 (cell_far1 (cell_far5 q4 ne02.out) ne0.out), cell_drew1 (cell_same ((set5_far _ _ _ _ _ ne32.out).trans HE6.out) _)⟩
      | with_reducible exact ⟨cell_far5 q0 ne02.out, cell_far5 q1 ne02.out, cell_far5 q2 ne02.out, cell_far5 q3 ne02.out, cell_far5 q4 ne02.out, cell_far5 qe ne32.out⟩
      | with_reducible exact ⟨q0, q1, q2, q3, q4, qe⟩
      | with_reducible exact ⟨d0, d1, d2, d3, d4, e0⟩
      | exact ⟨d0, d1, d2, d3, d4, e0⟩)
    (first
      | (go_at_call 48; refine HOW.out.mono ?_; rintro e w6 ⟨v, rfl, hS, hb0, hk, hE⟩; obtain ⟨A6, c6, rfl⟩ := Kd.S_slice hS; have HS6 := Aside0.mk hS; have HB6 := Aside0.mk hb0; have HK6 := Aside0.mk hk; have HE6 := Aside0.mk hE; have D6 := Aside0.mk ((hk _ (blk_lt B0.out) ne0.out).trans B0.out); have R6 := Aside0.mk ((hk _ (blk_lt B2.out) ne2.out).trans B2.out); clear hS hb0 hk hE; have q0 : w6.cell? ⟨w.heap.size, 0, none⟩ = some (.int .i64 size) := (blk_cell D6.out 0).trans rfl; have q1 : w6.cell? ⟨w.heap.size, 1, none⟩ = some (.slice A l.length c) := (blk_cell D6.out 1).trans rfl; have q2 : w6.cell? ⟨w.heap.size, 2, none⟩ = some (.int .i64 left) := (blk_cell D6.out 2).trans rfl; have q3 : w6.cell? ⟨w.heap.size, 3, none⟩ = some (.bool false) := (blk_cell D6.out 3).trans rfl; have q4 : w6.cell? ⟨w.heap.size, 4, none⟩ = some (.int .i64 done) := (blk_cell D6.out 4).trans rfl; have qe : w6.cell? ⟨w.heap.size + 1 + 1 + 1, 0, none⟩ = some (.int .i64 0) := (blk_cell HE6.out 0).trans rfl; have qf : w6.frozen? ⟨w.heap.size + 1 + 1 + 1, 0, none⟩ = false := blk_frozen HE6.out 0; have r0 : w6.cell? ⟨w.heap.size + 1 + 1, 0, none⟩ = some (.int .i64 0) := (blk_cell R6.out 0).trans rfl; have r1 : w6.cell? ⟨w.heap.size + 1 + 1, 1, none⟩ = some (.slice none 0 0) := (blk_cell R6.out 1).trans rfl; have r2 : w6.cell? ⟨w.heap.size + 1 + 1, 2, none⟩ = some (.int .i64 0) := (blk_cell R6.out 2).trans rfl; have r3 : w6.cell? ⟨w.heap.size + 1 + 1, 3, none⟩ = some (.bool false) := (blk_cell R6.out 3).trans rfl; have r4 : w6.cell? ⟨w.heap.size + 1 + 1, 4, none⟩ = some (.int .i64 0) := (blk_cell R6.out 4).trans rfl; have g0 : w6.frozen? ⟨w.heap.size + 1 + 1, 0, none⟩ = false := blk_frozen R6.out 0; have g1 : w6.frozen? ⟨w.heap.size + 1 + 1, 1, none⟩ = false := blk_frozen R6.out 1; have g2 : w6.frozen? ⟨w.heap.size + 1 + 1, 2, none⟩ = false := blk_frozen R6.out 2; have g3 : w6.frozen? ⟨w.heap.size + 1 + 1, 3, none⟩ = false := blk_frozen R6.out 3; have g4 : w6.frozen? ⟨w.heap.size + 1 + 1, 4, none⟩ = false := blk_frozen R6.out 4)
      | fail)
  have R7 := put5 R6.out (.int .i64 size) (.slice A6 l.length c6) (.int .i64 (dleft left)) (.bool false) (.int .i64 (wrap64 (done + 1)))
  have R8 := Aside0.mk (blk_far R7 (p := ⟨w.heap.size + 1 + 1 + 1, 0, none⟩) ne2.out (.int .i64 0))
  have E7 := (set5_far (.int .i64 size) (.slice A6 l.length c6) (.int .i64 (dleft left)) (.bool false) (.int .i64 (wrap64 (done + 1))) ne32.out).trans HE6.out
  have E8 := Aside0.mk (cell_same E7 (.int .i64 0))
  have HLS : (l.set kn.toNat z').length = l.length := List.length_set
  rw [HLS] at HS6
  have S8 := Aside0.mk (Kd.S_set (set5_Sv HS6.out R6.out (by decide) (.int .i64 size) (.slice A6 l.length c6) (.int .i64 (dleft left)) (.bool false) (.int .i64 (wrap64 (done + 1)))) E7 (by decide) 0 (.int .i64 0))
  have K8 := Aside0.mk (below_of0 (B := w.heap.size) (W := W) (W6 := w6) HB.out (below0_drew HB6.out) (fun k hk => HK6.out k (Nat.lt_of_lt_of_le hk HB.out.size) (by omega)))
  clear qf g0 g1 g2 g3 g4 r0 r1 r2 r3 r4 q0 q1 q2 q3 q4 qe e0 d0 d1 d2 d3 d4
  go_wp2_with fail
  refine bodyPost_ret (results_cs rfl _ _ (w.heap.size + 1 + 1) (w.heap.size + 1 + 1 + 1) 27 _ _ (0, 0) _ _ rfl R8.out Try.underlying27 rfl (by kernel_rfl) rfl E8.out Try.underlying28 rfl) rfl ?_
  refine ⟨_, rfl, Kd.S_lower S8.out HB.out.size, ?_⟩
  exact ((((((K8.out.setCell (by show _ ≤ w.heap.size + 1 + 1; omega) _).setCell (by show _ ≤ w.heap.size + 1 + 1; omega) _).setCell (by show _ ≤ w.heap.size + 1 + 1; omega) _).setCell (by show _ ≤ w.heap.size + 1 + 1; omega) _).setCell (by show _ ≤ w.heap.size + 1 + 1; omega) _).setCell (by show _ ≤ w.heap.size + 1 + 1 + 1; omega) _)
end Go.Proofs.Ytdgefplbfffenaa.X
namespace Go.Proofs.Ytdgefplbfffenaa.X
open Go.Shelf Go.RowKit Go.Proofs.YtdgefplbfffenaaW.PrintWords Go.Proofs.YtdgefplbfffenaaW.PrintLast Go.Proofs.YtdgefplbfffenaaW.PrintMore
theorem eg63 : ∀ args w, (callFunc 63 args).run Try.prog w = .ok (.enter 63 args) w := enters_of Try.func63 (by kernel_rfl) rfl
set_option maxHeartbeats 8000000 in
set_option maxRecDepth 100000 in
theorem limitClose_calls (size left done n : Int) (down : Bool) (l : List S52) (D G cap E b : Nat) (w W : World)
    (hE : w.heap[E]? = some (.cells #[.int .i64 n] 3 (0, 0))) (hbw : b = w.heap.size) (hDw : b ≤ D)
    (hD : W.heap[D]? = some (.cells #[.int .i64 size, .slice (some ⟨G, 0, none⟩) l.length cap, .int .i64 left, .bool down, .int .i64 done] 27 (0, 0))) (hS : Kd.S k52 52 W b (fun _ => True) (.slice (some ⟨G, 0, none⟩) l.length cap) l) (hB : Below b w W) :
    Calls Try.prog 63 (#[.pointer (some ⟨D, 0, none⟩)] ++ #[.pointer (some ⟨E, 0, none⟩)]) W (ClosePost W b D G E cap l size n down done (some (.cells #[.int .i64 n] 3 (0, 0)))) := by
  have hu27 := Try.underlying27
  subst hbw
  have hEl : E < w.heap.size := blk_lt hE
  have hEW : W.heap[E]? = _ := (hB.block E hEl).trans hE
  have hED : E ≠ D := by omega
  have HD := Aside0.mk hD
  have HS := Aside0.mk hS
  have HE := Aside0.mk hEW
  clear hE hD hS hB hEW
  have d2 : W.cell? ⟨D, 2, none⟩ = some (.int .i64 left) := (blk_cell HD.out 2).trans rfl
  have f2 : W.frozen? ⟨D, 2, none⟩ = false := blk_frozen HD.out 2
  have e0 : W.cell? ⟨E, 0, none⟩ = some (.int .i64 n) := (blk_cell HE.out 0).trans rfl
  simp only [List.append_toArray, List.cons_append, List.nil_append]
  go_enter Try.func63, Try.ntmps63
  go_wp2
  go_end0
  exact ⟨rfl, blk_put HD.out 2 _ rfl, Kd.S_set HS.out HD.out (by decide) 2 _, (Below.refl 0 W).setCell (Nat.zero_le _) _, fun k hk h1 h2 h3 => Below.heap_setCell _ _ _ _ h1, blk_far HE.out (p := ⟨D, 2, none⟩) hED _⟩
def LimPost (w : World) (size left done : Int) (down : Bool) (l' : List S52) (e : Ending) (w' : World) : Prop :=
  ∃ v, e = .returned (.agg #[.int .i64 size, v, .int .i64 left, .bool down, .int .i64 done]) ∧ Kd.S k52 52 w' w.heap.size (fun _ => True) v l' ∧ Below w.heap.size w w'
set_option maxHeartbeats 8000000 in
set_option maxRecDepth 100000 in
theorem limit_calls (size left done n : Int) (down : Bool) (A : Option Addr) (c : Nat) (l : List S52) (w : World)
    (hC : k52.C w A l.length l) (hl : l.length ≤ c) (hpos : 0 < l.length) (hlim : l.length * 48 ≤ 140737488355328) (hdat : ∀ z ∈ l, z.f2.length < 140737488355328) :
    Calls Try.prog 37 #[.agg #[.int .i64 size, .slice A l.length c, .int .i64 left, .bool down, .int .i64 done], .int .i64 n] w (LimPost w size n done down l) := by
  have hu27 := Try.underlying27
  have hb4 := ((below_alloc (Below.refl w.heap.size w) (.cells #[.int .i64 size, .slice A l.length c, .int .i64 left, .bool down, .int .i64 done] 27)).alloc (by simp) (.cells #[.int .i64 n] 3)).alloc (by simp; omega) (.cells #[.int .i64 0, .slice none 0 0, .int .i64 0, .bool false, .int .i64 0] 27)
  have b0 := blk_alloc (blk_alloc (blk_new w (.cells #[.int .i64 size, .slice A l.length c, .int .i64 left, .bool down, .int .i64 done] 27)) (.cells #[.int .i64 n] 3)) (.cells #[.int .i64 0, .slice none 0 0, .int .i64 0, .bool false, .int .i64 0] 27)
  have b1 := blk_alloc (blk_new2 w (.cells #[.int .i64 size, .slice A l.length c, .int .i64 left, .bool down, .int .i64 done] 27) (.cells #[.int .i64 n] 3)) (.cells #[.int .i64 0, .slice none 0 0, .int .i64 0, .bool false, .int .i64 0] 27)
  have b2 := blk_new3 w (.cells #[.int .i64 size, .slice A l.length c, .int .i64 left, .bool down, .int .i64 done] 27) (.cells #[.int .i64 n] 3) (.cells #[.int .i64 0, .slice none 0 0, .int .i64 0, .bool false, .int .i64 0] 27)
  have hsz : (((w.alloc (.cells #[.int .i64 size, .slice A l.length c, .int .i64 left, .bool down, .int .i64 done] 27)).alloc (.cells #[.int .i64 n] 3)).alloc (.cells #[.int .i64 0, .slice none 0 0, .int .i64 0, .bool false, .int .i64 0] 27)).heap.size = w.heap.size + 3 := by simp
  have HC := Aside0.mk (Kd.C_below hC hb4)
  have HL := Aside0.mk (And.intro hl (And.intro hpos hlim))
  have HDAT := Aside0.mk hdat
  clear hC hl hpos hlim hdat
  have d0 : (((w.alloc (.cells #[.int .i64 size, .slice A l.length c, .int .i64 left, .bool down, .int .i64 done] 27)).alloc (.cells #[.int .i64 n] 3)).alloc (.cells #[.int .i64 0, .slice none 0 0, .int .i64 0, .bool false, .int .i64 0] 27)).cell? ⟨w.heap.size, 0, none⟩ = some (.int .i64 size) := (blk_cell b0 0).trans rfl
  have d1 : (((w.alloc (.cells #[.int .i64 size, .slice A l.length c, .int .i64 left, .bool down, .int .i64 done] 27)).alloc (.cells #[.int .i64 n] 3)).alloc (.cells #[.int .i64 0, .slice none 0 0, .int .i64 0, .bool false, .int .i64 0] 27)).cell? ⟨w.heap.size, 1, none⟩ = some (.slice A l.length c) := (blk_cell b0 1).trans rfl
  have d2 : (((w.alloc (.cells #[.int .i64 size, .slice A l.length c, .int .i64 left, .bool down, .int .i64 done] 27)).alloc (.cells #[.int .i64 n] 3)).alloc (.cells #[.int .i64 0, .slice none 0 0, .int .i64 0, .bool false, .int .i64 0] 27)).cell? ⟨w.heap.size, 2, none⟩ = some (.int .i64 left) := (blk_cell b0 2).trans rfl
  have d3 : (((w.alloc (.cells #[.int .i64 size, .slice A l.length c, .int .i64 left, .bool down, .int .i64 done] 27)).alloc (.cells #[.int .i64 n] 3)).alloc (.cells #[.int .i64 0, .slice none 0 0, .int .i64 0, .bool false, .int .i64 0] 27)).cell? ⟨w.heap.size, 3, none⟩ = some (.bool down) := (blk_cell b0 3).trans rfl
  have d4 : (((w.alloc (.cells #[.int .i64 size, .slice A l.length c, .int .i64 left, .bool down, .int .i64 done] 27)).alloc (.cells #[.int .i64 n] 3)).alloc (.cells #[.int .i64 0, .slice none 0 0, .int .i64 0, .bool false, .int .i64 0] 27)).cell? ⟨w.heap.size, 4, none⟩ = some (.int .i64 done) := (blk_cell b0 4).trans rfl
  go_enter Try.func37, Try.ntmps37
  go_wp2_with fail
  generalize (((w.alloc (.cells #[.int .i64 size, .slice A l.length c, .int .i64 left, .bool down, .int .i64 done] 27)).alloc (.cells #[.int .i64 n] 3)).alloc (.cells #[.int .i64 0, .slice none 0 0, .int .i64 0, .bool false, .int .i64 0] 27)) = W at *
  have B1 := Aside0.mk b1
  have B2 := Aside0.mk b2
  have HB := Aside0.mk hb4
  have HSZ := Aside0.mk hsz
  clear b0 b1 b2 hb4 hsz
  refine (own_calls 63 #[.pointer (some ⟨w.heap.size + 1, 0, none⟩)] eg63 size A c l left down done (w.heap.size + 1) l size n down done (some (.cells #[.int .i64 n] 3 (0, 0))) W
    HC.out HL.out.1 HL.out.2.1 HL.out.2.2 HDAT.out (by have := HSZ.out; omega)
    (fun W1 D G cap hD hDev hS hB => limitClose_calls size left done n down l D G cap _ _ W W1 B1.out rfl hD hDev hS hB)).mono ?_
  rintro e w6 ⟨v, rfl, hS, hb0, hk, hE⟩
  obtain ⟨A6, c6, rfl⟩ := Kd.S_slice hS
  have HS6 := Aside0.mk hS
  have R6 := Aside0.mk ((hk _ (blk_lt B2.out) (by omega)).trans B2.out)
  have K6 := Aside0.mk (below_of0 HB.out hb0 (fun k hk2 => hk k (Nat.lt_of_lt_of_le hk2 HB.out.size) (by omega)))
  clear hS hb0 hk hE d0 d1 d2 d3 d4
  have r0 : w6.cell? ⟨w.heap.size + 1 + 1, 0, none⟩ = some (.int .i64 0) := (blk_cell R6.out 0).trans rfl
  have g0 : w6.frozen? ⟨w.heap.size + 1 + 1, 0, none⟩ = false := blk_frozen R6.out 0
  have r1 : w6.cell? ⟨w.heap.size + 1 + 1, 1, none⟩ = some (.slice none 0 0) := (blk_cell R6.out 1).trans rfl
  have g1 : w6.frozen? ⟨w.heap.size + 1 + 1, 1, none⟩ = false := blk_frozen R6.out 1
  have r2 : w6.cell? ⟨w.heap.size + 1 + 1, 2, none⟩ = some (.int .i64 0) := (blk_cell R6.out 2).trans rfl
  have g2 : w6.frozen? ⟨w.heap.size + 1 + 1, 2, none⟩ = false := blk_frozen R6.out 2
  have r3 : w6.cell? ⟨w.heap.size + 1 + 1, 3, none⟩ = some (.bool false) := (blk_cell R6.out 3).trans rfl
  have g3 : w6.frozen? ⟨w.heap.size + 1 + 1, 3, none⟩ = false := blk_frozen R6.out 3
  have r4 : w6.cell? ⟨w.heap.size + 1 + 1, 4, none⟩ = some (.int .i64 0) := (blk_cell R6.out 4).trans rfl
  have g4 : w6.frozen? ⟨w.heap.size + 1 + 1, 4, none⟩ = false := blk_frozen R6.out 4
  go_wp2
  refine bodyPost_ret (results_cell_row rfl _ _ (w.heap.size + 2) 27 _ (0, 0) _ rfl (put5 R6.out _ _ _ _ _) Try.underlying27 rfl (by kernel_rfl)) rfl ?_
  refine ⟨_, rfl, Kd.S_lower (set5_Sv HS6.out R6.out (by decide) _ _ _ _ _) HB.out.size, ?_⟩
  exact (((((K6.out.setCell (by show _ ≤ w.heap.size + 2; omega) _).setCell (by show _ ≤ w.heap.size + 2; omega) _).setCell (by show _ ≤ w.heap.size + 2; omega) _).setCell (by show _ ≤ w.heap.size + 2; omega) _).setCell (by show _ ≤ w.heap.size + 2; omega) _)
end Go.Proofs.Ytdgefplbfffenaa.X
namespace Go.Proofs.Ytdgefplbfffenaa.X
open Go.Shelf Go.RowKit Go.Proofs.YtdgefplbfffenaaW.PrintWords Go.Proofs.YtdgefplbfffenaaW.PrintLast Go.Proofs.YtdgefplbfffenaaW.PrintMore
/-- What dev.Do asks ahead of any command's own conditions. -/
def devOk (size : Int) (l : List S52) (left : Int) (down : Bool) : Bool :=
  !down && decide (left ≠ 0) && decide (-9223372036854775808 < left) && decide (left < 9223372036854775807) && dok size l && l.all fun z => decide (z.f2.length < 140737488355328)
/-- dev.Do at the commands append (1) and finish (3), where they succeed. -/
def dev_Do.f (a0_0 : Int) (l0_1 : List (S52)) (a0_2 : Int) (a0_3 : Bool) (a0_4 : Int) (a1_0 : Int) (a1_1 : Int) (l1_2 : List Int) : Option (Int × (List (S52)) × Int × Bool × Int × Int) :=
  if devOk a0_0 l0_1 a0_2 a0_3 = true ∧ 0 ≤ a1_1 ∧ a1_1 < l0_1.length then
    if a1_0 = 1 ∧ ((rd_T52 l0_1 a1_1).f0 = 1 ∨ dopen l0_1 < 3) ∧ 0 < l1_2.length ∧ (l1_2.length : Int) ≤ zroom (rd_T52 l0_1 a1_1) a0_0 ∧ (rd_T52 l0_1 a1_1).f2.length + l1_2.length < 140737488355328 then
      some (a0_0, l0_1.set a1_1.toNat (zappended (rd_T52 l0_1 a1_1) l1_2 a0_0), dleft a0_2, a0_3, wrap64 (a0_4 + 1), 0)
    else if a1_0 = 3 ∧ ztakes (rd_T52 l0_1 a1_1) = true ∧ (rd_T52 l0_1 a1_1).f0 ≠ 0 then
      some (a0_0, l0_1.set a1_1.toNat (zfinished (rd_T52 l0_1 a1_1)), dleft a0_2, a0_3, wrap64 (a0_4 + 1), 0)
    else none
  else none
theorem rd_mem {l : List S52} {n : Int} (h0 : 0 ≤ n) (h1 : n < l.length) : rd_T52 l n ∈ l := by
  have hl : n.toNat < l.length := by omega
  have e : rd_T52 l n = l[n.toNat] := by simp [rd_T52, List.getD_eq_getElem?_getD, List.getElem?_eq_getElem hl]
  rw [e]; exact List.getElem_mem hl
theorem dok_zok {size : Int} {l : List S52} (h : dok size l = true) {z : S52} (hz : z ∈ l) : zok z size = true := by
  unfold dok at h
  simp only [Bool.and_eq_true, Bool.not_eq_true', List.any_eq_false] at h
  have := h.1.1.1.1 z hz
  simpa using this
theorem dok_len {size : Int} {l : List S52} (h : dok size l = true) : 0 < l.length ∧ l.length ≤ 64 := by
  unfold dok at h
  simp only [Bool.and_eq_true, decide_eq_true_eq] at h
  omega
set_option maxHeartbeats 4000000 in
theorem dev_Do.calls (a0_0 : Int) (A0_1 : Option Addr) (c0_1 : Nat) (l0_1 : List (S52)) (a0_2 : Int) (a0_3 : Bool) (a0_4 : Int) (a1_0 : Int) (a1_1 : Int) (A1_2 : Option Addr) (c1_2 : Nat) (l1_2 : List Int) (r1 : Int) (r2 : List (S52)) (r3 : Int) (r4 : Bool) (r5 : Int) (r6 : Int) (w : World) (hr0_1 : Kd.C k52 w A0_1 l0_1.length l0_1) (hc0_1 : l0_1.length ≤ c0_1) (hr1_2 : Kd.C (Kd.int .u8) w A1_2 l1_2.length l1_2) (hc1_2 : l1_2.length ≤ c1_2) (h : dev_Do.f a0_0 l0_1 a0_2 a0_3 a0_4 a1_0 a1_1 l1_2 = some (r1, r2, r3, r4, r5, r6)) :
    Calls Try.prog 24 #[.agg #[.int .i64 a0_0, .slice A0_1 l0_1.length c0_1, .int .i64 a0_2, .bool a0_3, .int .i64 a0_4], .agg #[.int .i64 a1_0, .int .i64 a1_1, .slice A1_2 l1_2.length c1_2]] w fun e w' => ∃ v1_ : Value, e = .returned (.tuple #[.agg #[.int .i64 r1, v1_, .int .i64 r3, .bool r4, .int .i64 r5], .int .i64 r6]) ∧ Kd.S k52 52 w' w.heap.size (fun _ => True) v1_ r2 ∧ Below w.heap.size w w' := by
  unfold dev_Do.f at h
  split at h
  · rename_i hg
    obtain ⟨hdo, hk0, hk1⟩ := hg
    unfold devOk at hdo
    simp only [Bool.and_eq_true, Bool.not_eq_true', decide_eq_true_eq, List.all_eq_true] at hdo
    obtain ⟨⟨⟨⟨⟨rfl, hl0⟩, hlb⟩, hlu⟩, hok⟩, hdat⟩ := hdo
    have hlen := (dok_len hok).2
    have hz := dok_zok hok (rd_mem hk0 hk1)
    split at h
    · rename_i h1
      obtain ⟨rfl, hopen, hpos, hroom, hlim⟩ := h1
      injection h with h; injection h with e1 h; injection h with e2 h; injection h with e3 h; injection h with e4 h; injection h with e5 e6
      subst e1 e2 e3 e4 e5 e6
      exact do1_calls _ a1_1 A1_2 l1_2.length c1_2 a0_0 a0_2 a0_4 A0_1 c0_1 l0_1 w hr0_1 hc0_1 hk0 hk1 hok hdat hl0 hlb hlu
        (fun W' D G cap A2 c2 hD hCl hcap hb hC hl => cmdAppend_calls (rd_T52 l0_1 a1_1) A2 c2 1 a1_1 A1_2 c1_2 l1_2 D a0_0 (some ⟨G, 0, none⟩) cap l0_1 (dleft a0_2) false (wrap64 (a0_4 + 1)) W' hC hl (Kd.C_below hr1_2 hb) hD hCl hcap (by omega) hopen hz hpos hroom hlim)
    · split at h
      · rename_i h1
        obtain ⟨rfl, ht, h0⟩ := h1
        injection h with h; injection h with e1 h; injection h with e2 h; injection h with e3 h; injection h with e4 h; injection h with e5 e6
        subst e1 e2 e3 e4 e5 e6
        exact do3_calls _ a1_1 A1_2 l1_2.length c1_2 a0_0 a0_2 a0_4 A0_1 c0_1 l0_1 w hr0_1 hc0_1 hk0 hk1 hok hdat hl0 hlb hlu
          (fun W' D G cap A2 c2 hD hCl hcap hb hC hl => cmdFinish_calls (rd_T52 l0_1 a1_1) A2 c2 3 a1_1 A1_2 l1_2.length c1_2 D W' hC hl ht h0 (hdat _ (rd_mem hk0 hk1)))
      · cases h
  · cases h
theorem dev_Do_ok {a0_0 : Int} {l0_1 : List S52} {a0_2 : Int} {a0_3 : Bool} {a0_4 a1_0 a1_1 : Int} {l1_2 : List Int} {r1 : Int} {r2 : List S52} {r3 : Int} {r4 : Bool} {r5 r6 : Int} (h : dev_Do.f a0_0 l0_1 a0_2 a0_3 a0_4 a1_0 a1_1 l1_2 = some (r1, r2, r3, r4, r5, r6)) : r6 = 0 := by
  unfold dev_Do.f at h
  split at h
  · split at h
    · injection h with h; injection h with _ h; injection h with _ h; injection h with _ h; injection h with _ h; injection h with _ h; exact h.symm
    · split at h
      · injection h with h; injection h with _ h; injection h with _ h; injection h with _ h; injection h with _ h; injection h with _ h; exact h.symm
      · cases h
  · cases h
/-- dev.Limit at any device with zones. -/
def dev_Limit.f (a0_0 : Int) (l0_1 : List (S52)) (_a0_2 : Int) (a0_3 : Bool) (a0_4 : Int) (a1 : Int) : Option (Int × (List (S52)) × Int × Bool × Int) :=
  if (0 < l0_1.length ∧ l0_1.length * 48 ≤ 140737488355328) ∧ (l0_1.all fun z => decide (z.f2.length < 140737488355328)) = true then some (a0_0, l0_1, a1, a0_3, a0_4) else none
theorem dev_Limit.calls (a0_0 : Int) (A0_1 : Option Addr) (c0_1 : Nat) (l0_1 : List (S52)) (a0_2 : Int) (a0_3 : Bool) (a0_4 : Int) (a1 : Int) (r1 : Int) (r2 : List (S52)) (r3 : Int) (r4 : Bool) (r5 : Int) (w : World) (hr0_1 : Kd.C k52 w A0_1 l0_1.length l0_1) (hc0_1 : l0_1.length ≤ c0_1) (h : dev_Limit.f a0_0 l0_1 a0_2 a0_3 a0_4 a1 = some (r1, r2, r3, r4, r5)) :
    Calls Try.prog 37 #[.agg #[.int .i64 a0_0, .slice A0_1 l0_1.length c0_1, .int .i64 a0_2, .bool a0_3, .int .i64 a0_4], .int .i64 a1] w fun e w' => ∃ v1_ : Value, e = .returned (.agg #[.int .i64 r1, v1_, .int .i64 r3, .bool r4, .int .i64 r5]) ∧ Kd.S k52 52 w' w.heap.size (fun _ => True) v1_ r2 ∧ Below w.heap.size w w' := by
  unfold dev_Limit.f at h
  split at h
  · rename_i hg
    obtain ⟨⟨hpos, hlim⟩, hdat⟩ := hg
    simp only [List.all_eq_true, decide_eq_true_eq] at hdat
    injection h with h; injection h with e1 h; injection h with e2 h; injection h with e3 h; injection h with e4 e5
    subst e1 e2 e3 e4 e5
    exact limit_calls a0_0 a0_2 a0_4 a1 a0_3 A0_1 c0_1 l0_1 w hr0_1 hc0_1 hpos hlim hdat
  · cases h
end Go.Proofs.Ytdgefplbfffenaa.X
namespace Go.Proofs.Ytdgefplbfffenaa.X
open Go.RowKit Go.Proofs.YtdgefplbfffenaaW.PrintWords Go.Proofs.YtdgefplbfffenaaW.PrintLast Go.Proofs.YtdgefplbfffenaaW.PrintMore
attribute [local go_sem] max2_int min2_int max_two min_two max_three min_three max_four min_four   -- for this text's walks alone
set_option linter.unusedVariables false
set_option linter.unusedSimpArgs false
def log_one.l0 : Nat → Int → Cx → List (S56) → Int → Int → Int → List (S52) → Int → Bool → Int → Option (Int × (List (S52)) × Int × Bool × Int × Cx × Int)
 | 0, _, _, _, _, _, _, _, _, _, _ => none
 | k + 1, x8, x11, x51, x52, x53, x177000, x177001, x177002, x177003, x177004 => if x53 < x52 then (if 0 ≤ x53 then (if x53 < (x51.length : Int) then ((dev_Do.f x177000 x177001 x177002 x177003 x177004 ((rd_T56 x51 x53).f0) ((rd_T56 x51 x53).f1) ((rd_T56 x51 x53).f2)).bind fun bt194 => (if bt194.2.2.2.2.2 = 0 then (log_one.l0 k bt194.2.2.2.2.2 x11 x51 x52 (wrap64 (x53 + 1)) bt194.1 bt194.2.1 bt194.2.2.1 bt194.2.2.2.1 bt194.2.2.2.2.1) else (some (bt194.1, bt194.2.1, bt194.2.2.1, bt194.2.2.2.1, bt194.2.2.2.2.1, x11, bt194.2.2.2.2.2)))) else (none)) else (none)) else (some (x177000, x177001, x177002, x177003, x177004, x11, x8))
def log_one.f (k : Nat) (a0_0 : Int) (l0_1 : List (S52)) (a0_2 : Int) (a0_3 : Bool) (a0_4 : Int) (a1_0 : Int) (a1_1 : Int) (l1_2 : List Int) : Option (Int × (List (S52)) × Int × Bool × Int × Cx × Int) := (record_Write.f k a1_0 a1_1 l1_2).bind fun bt179 => (if bt179.2 = 0 then ((log_Place.f k a0_0 l0_1 a0_2 a0_3 a0_4 (bt179.1.length : Int)).bind fun bt183 => (if bt183.2.2 = 0 then (if 0 ≤ bt183.1 then (if bt183.1 < (l0_1.length : Int) then (if bt183.2.1.length < 3518437208883 then ((some (bt183.2.1 ++ [(⟨1, bt183.1, bt179.1⟩ : S56)] : List (S56))).bind fun y189 => (log_one.l0 k bt183.2.2 ((floatOfInt .f64 bt183.1, floatOfInt .f64 (((rd_T52 l0_1 bt183.1).f2).length : Int)) : Cx) y189 (y189.length : Int) 0 a0_0 l0_1 a0_2 a0_3 a0_4)) else (none)) else (none)) else (none)) else (some (a0_0, l0_1, a0_2, a0_3, a0_4, ((0, 0) : Cx), bt183.2.2)))) else (some (a0_0, l0_1, a0_2, a0_3, a0_4, ((0, 0) : Cx), bt179.2)))
set_option maxHeartbeats 8000000 in
set_option maxRecDepth 100000 in
theorem log_one.calls (k : Nat) (a0_0 : Int) (P0_1_ : Nat → Prop) (A0_1 : Option Addr) (c0_1 : Nat) (l0_1 : List (S52)) (a0_2 : Int) (a0_3 : Bool) (a0_4 : Int) (a1_0 : Int) (a1_1 : Int) (A1_2 : Option Addr) (c1_2 : Nat) (l1_2 : List Int) (r1 : Int) (r2 : List (S52)) (r3 : Int) (r4 : Bool) (r5 : Int) (r6 : Cx) (r7 : Int) (w : World) (hs0_1 : Kd.V k52 52 w w.heap.size (fun k_ => P0_1_ k_) (.slice A0_1 l0_1.length c0_1) l0_1) (hr1_2 : Kd.C (Kd.int .u8) w A1_2 l1_2.length l1_2) (hc1_2 : l1_2.length ≤ c1_2) (h : log_one.f k a0_0 l0_1 a0_2 a0_3 a0_4 a1_0 a1_1 l1_2 = some (r1, r2, r3, r4, r5, r6, r7)) :
  Calls Try.prog 38 #[.agg #[.int .i64 a0_0, .slice A0_1 l0_1.length c0_1, .int .i64 a0_2, .bool a0_3, .int .i64 a0_4], .agg #[.int .i64 a1_0, .int .i64 a1_1, .slice A1_2 l1_2.length c1_2]] w fun e w' => ∃ v1_ : Value, e = .returned (.tuple #[.agg #[.int .i64 r1, v1_, .int .i64 r3, .bool r4, .int .i64 r5], .complex .f64 r6.1 r6.2, .int .i64 r7]) ∧ Kd.V k52 52 w' w.heap.size (fun k_ => (P0_1_ k_ ∨ w.heap.size ≤ k_)) v1_ r2 ∧ Below w.heap.size w w' := by
 have hu27 := Try.underlying27
 have hu36 := Try.underlying36
 have hu56 := Try.underlying56
 have HO0_1 := Aside0.mk (show Kd.V k52 52 w w.heap.size (fun k_ => (P0_1_ k_ ∨ w.heap.size ≤ k_)) (.slice A0_1 l0_1.length c0_1) l0_1 from Kd.V_mono hs0_1 (fun k_ hk => .inl hk))
 have HR1_2 := Aside0.mk hr1_2
 have HC1_2 := Aside0.mk hc1_2
 clear hr1_2 hc1_2
 have HB := Aside0.mk (Below.refl w.heap.size w)
 have H : ((record_Write.f k a1_0 a1_1 l1_2).bind fun bt179 => (if bt179.2 = 0 then ((log_Place.f k a0_0 l0_1 a0_2 a0_3 a0_4 (bt179.1.length : Int)).bind fun bt183 => (if bt183.2.2 = 0 then (if 0 ≤ bt183.1 then (if bt183.1 < (l0_1.length : Int) then (if bt183.2.1.length < 3518437208883 then ((some (bt183.2.1 ++ [(⟨1, bt183.1, bt179.1⟩ : S56)] : List (S56))).bind fun y189 => (log_one.l0 k bt183.2.2 ((floatOfInt .f64 bt183.1, floatOfInt .f64 (((rd_T52 l0_1 bt183.1).f2).length : Int)) : Cx) y189 (y189.length : Int) 0 a0_0 l0_1 a0_2 a0_3 a0_4)) else (none)) else (none)) else (none)) else (some (a0_0, l0_1, a0_2, a0_3, a0_4, ((0, 0) : Cx), bt183.2.2)))) else (some (a0_0, l0_1, a0_2, a0_3, a0_4, ((0, 0) : Cx), bt179.2)))) = some (r1, r2, r3, r4, r5, r6, r7) := h
 clear h
 replace H := Option.bind_eq_some_iff.mp H
 obtain ⟨⟨t179, t182⟩, A30, H⟩ := H
 replace H : (if t182 = 0 then ((log_Place.f k a0_0 l0_1 a0_2 a0_3 a0_4 (t179.length : Int)).bind fun bt183 => (if bt183.2.2 = 0 then (if 0 ≤ bt183.1 then (if bt183.1 < (l0_1.length : Int) then (if bt183.2.1.length < 3518437208883 then ((some (bt183.2.1 ++ [(⟨1, bt183.1, t179⟩ : S56)] : List (S56))).bind fun y189 => (log_one.l0 k bt183.2.2 ((floatOfInt .f64 bt183.1, floatOfInt .f64 (((rd_T52 l0_1 bt183.1).f2).length : Int)) : Cx) y189 (y189.length : Int) 0 a0_0 l0_1 a0_2 a0_3 a0_4)) else (none)) else (none)) else (none)) else (some (a0_0, l0_1, a0_2, a0_3, a0_4, ((0, 0) : Cx), bt183.2.2)))) else (some (a0_0, l0_1, a0_2, a0_3, a0_4, ((0, 0) : Cx), t182))) = some (r1, r2, r3, r4, r5, r6, r7) := H
 have A3 := Aside0.mk A30
 clear A30
 by_cases c4 : t182 = 0
 ·rw [if_pos c4] at H
  have c4b0 : (t182 == 0) = true := beq_iff_eq.mpr c4
  have c4b1 : (t182 != 0) = false := bne_eq_false_iff_eq.mpr c4
  clear c4
  replace H := Option.bind_eq_some_iff.mp H
  obtain ⟨⟨t183, t184, t187⟩, A50, H⟩ := H
  replace H : (if t187 = 0 then (if 0 ≤ t183 then (if t183 < (l0_1.length : Int) then (if t184.length < 3518437208883 then ((some (t184 ++ [(⟨1, t183, t179⟩ : S56)] : List (S56))).bind fun y189 => (log_one.l0 k t187 ((floatOfInt .f64 t183, floatOfInt .f64 (((rd_T52 l0_1 t183).f2).length : Int)) : Cx) y189 (y189.length : Int) 0 a0_0 l0_1 a0_2 a0_3 a0_4)) else (none)) else (none)) else (none)) else (some (a0_0, l0_1, a0_2, a0_3, a0_4, ((0, 0) : Cx), t187))) = some (r1, r2, r3, r4, r5, r6, r7) := H
  have A5 := Aside0.mk A50
  clear A50
  by_cases c6 : t187 = 0
  ·rw [if_pos c6] at H
   have c6b0 : (t187 == 0) = true := beq_iff_eq.mpr c6
   have c6b1 : (t187 != 0) = false := bne_eq_false_iff_eq.mpr c6
   clear c6
   by_cases c7 : 0 ≤ t183
   ·rw [if_pos c7] at H
    have c7b0 : decide (0 ≤ t183) = true := decide_eq_true c7
    clear c7
    by_cases c8 : t183 < (l0_1.length : Int)
    ·rw [if_pos c8] at H
     have c8b0 : decide (t183 < (l0_1.length : Int)) = true := decide_eq_true c8
     clear c8
     by_cases c9 : t184.length < 3518437208883
     ·rw [if_pos c9] at H
      have LMc9 := Aside0.mk c9
      clear c9
      obtain ⟨y189, hy189⟩ : ∃ y_ : List (S56), y_ = (t184 ++ [(⟨1, t183, t179⟩ : S56)]) := ⟨_, rfl⟩
      replace H : (log_one.l0 k t187 ((floatOfInt .f64 t183, floatOfInt .f64 (((rd_T52 l0_1 t183).f2).length : Int)) : Cx) y189 (y189.length : Int) 0 a0_0 l0_1 a0_2 a0_3 a0_4) = some (r1, r2, r3, r4, r5, r6, r7) := by first | (rw [hy189]; with_reducible exact H) | (have H2_ := (Option.bind_some _ _).symm.trans H; rw [hy189]; with_reducible exact H2_) | (have H2_ := (Option.bind_some _ _).symm.trans H; with_reducible exact H2_) | with_reducible exact H | (rw [hy189]; exact H) | exact H
      have Ny189 := Aside0.mk hy189
      clear hy189
      have H' := Aside0.mk H
      clear H
      go_enter Try.func38, Try.ntmps38
      have mark_ : True := trivial
      iterate 3 (try ((first | clear mark_ | go_step3); go_wp2_with (first | ((with_reducible refine gate_dst (N := 2) rfl ?_); refine box_event ?hg (N := 2) ?hd (cs := #[.int .i64 a0_0, .slice A0_1 l0_1.length c0_1, .int .i64 a0_2, .bool a0_3, .int .i64 a0_4]) (t := 27) ?hr ?_; (case hd => rfl); (case hg => rfl); (case hr => first | (go_simp; done) | (go_simp; rfl)); intro gb176 hg w10 hbox hb; have n0_ := Aside0.mk (Kd.V_below (Kd.V_elderB (by (with_reducible repeat (first | apply Kd.V_alloc | apply Kd.V_drewN | apply Kd.V_drew)); exact HO0_1.out) gb176 (Nat.le_of_eq hg.symm)) hb); have n1_ := Aside0.mk (below_step (by repeat (first | (with_reducible first | exact HB.out | apply below_alloc | apply pw_below_drewN | apply below_drew1) | exact HB.out)) hb); have n2_ := Aside0.mk (hbox); have n3_ := Aside0.mk ((by rw [hg]; exact (below_size (by repeat (first | (with_reducible first | exact HB.out | apply below_alloc | apply pw_below_drewN | apply below_drew1) | exact HB.out))) : w.heap.size ≤ gb176)); have n4_ := Aside0.mk ((by rw [hg]; exact (below_size (by repeat (first | (with_reducible first | exact HB.out | apply below_alloc | apply pw_below_drewN | apply below_drew1) | exact HB.out))) : w.heap.size ≤ gb176)); clear HO0_1; clear HB; have HO0_1 := n0_; have HB := n1_; have BK176 := n2_; have GW176 := n3_; have GE176 := n4_; clear n0_ n1_ n2_ n3_ n4_; clear hb hbox hg) | ((with_reducible refine gate_dst (N := 3) rfl ?_); refine box_event ?hg (N := 3) ?hd (cs := #[.int .i64 a1_0, .int .i64 a1_1, .slice A1_2 l1_2.length c1_2]) (t := 36) ?hr ?_; (case hd => rfl); (case hg => rfl); (case hr => first | (go_simp; done) | (go_simp; rfl)); intro gb177 hg w11 hbox hb; have n0_ := Aside0.mk (Kd.V_below (Kd.V_elderB (by (with_reducible repeat (first | apply Kd.V_alloc | apply Kd.V_drewN | apply Kd.V_drew)); exact HO0_1.out) gb177 (Nat.le_of_eq hg.symm)) hb); have n1_ := Aside0.mk (blk_below (g := gb176) (o := .cells #[.int .i64 a0_0, .slice A0_1 l0_1.length c0_1, .int .i64 a0_2, .bool a0_3, .int .i64 a0_4] 27 (0, 0)) (by (with_reducible repeat (first | refine blk_drewN ?_ _ | refine blk_drew ?_ | refine blk_alloc ?_ _)); exact BK176.out) hb); have n2_ := Aside0.mk (below_step (by repeat (first | (with_reducible first | exact HB.out | apply below_alloc | apply pw_below_drewN | apply below_drew1 | refine below_set ?_ GE176.out) | exact HB.out)) hb); have n3_ := Aside0.mk (hbox); have n4_ := Aside0.mk ((by rw [hg]; exact (below_size (by repeat (first | (with_reducible first | exact HB.out | apply below_alloc | apply pw_below_drewN | apply below_drew1 | refine below_set ?_ GE176.out) | exact HB.out))) : w.heap.size ≤ gb177)); have n5_ := Aside0.mk ((by rw [hg]; exact (below_size (by repeat (first | (with_reducible first | exact HB.out | apply below_alloc | apply pw_below_drewN | apply below_drew1 | refine below_set ?_ GE176.out) | exact HB.out))) : w.heap.size ≤ gb177)); have n6_ := Aside0.mk ((by rw [hg]; exact Nat.ne_of_lt (blk_lt (g := gb176) (o := .cells #[.int .i64 a0_0, .slice A0_1 l0_1.length c0_1, .int .i64 a0_2, .bool a0_3, .int .i64 a0_4] 27 (0, 0)) (by (with_reducible repeat (first | refine blk_drewN ?_ _ | refine blk_drew ?_ | refine blk_alloc ?_ _)); exact BK176.out)) : gb176 ≠ gb177)); have n7_ := Aside0.mk ((by rw [hg]; exact Nat.ne_of_gt (blk_lt (g := gb176) (o := .cells #[.int .i64 a0_0, .slice A0_1 l0_1.length c0_1, .int .i64 a0_2, .bool a0_3, .int .i64 a0_4] 27 (0, 0)) (by (with_reducible repeat (first | refine blk_drewN ?_ _ | refine blk_drew ?_ | refine blk_alloc ?_ _)); exact BK176.out)) : gb177 ≠ gb176)); clear HO0_1; clear BK176; clear HB; have HO0_1 := n0_; have BK176 := n1_; have HB := n2_; have BK177 := n3_; have GW177 := n4_; have GE177 := n5_; have NB176_177 := n6_; have NB177_176 := n7_; clear n0_ n1_ n2_ n3_ n4_ n5_ n6_ n7_; clear hb hbox hg) | ((with_reducible refine gate_dst (N := 4) rfl ?_); refine box_event ?hg (N := 4) ?hd (cs := #[.int .i64 0, .slice none 0 0, .int .i64 0, .bool false, .int .i64 0]) (t := 27) ?hr ?_; (case hd => rfl); (case hg => rfl); (case hr => first | (go_simp; done) | (go_simp; rfl)); intro gb178 hg w12 hbox hb; have n0_ := Aside0.mk (Kd.V_below (Kd.V_elderB (by (with_reducible repeat (first | apply Kd.V_alloc | apply Kd.V_drewN | apply Kd.V_drew)); exact HO0_1.out) gb178 (Nat.le_of_eq hg.symm)) hb); have n1_ := Aside0.mk (blk_below (g := gb176) (o := .cells #[.int .i64 a0_0, .slice A0_1 l0_1.length c0_1, .int .i64 a0_2, .bool a0_3, .int .i64 a0_4] 27 (0, 0)) (by (with_reducible repeat (first | refine blk_drewN ?_ _ | refine blk_drew ?_ | refine blk_alloc ?_ _)); exact BK176.out) hb); have n2_ := Aside0.mk (blk_below (g := gb177) (o := .cells #[.int .i64 a1_0, .int .i64 a1_1, .slice A1_2 l1_2.length c1_2] 36 (0, 0)) (by (with_reducible repeat (first | refine blk_drewN ?_ _ | refine blk_drew ?_ | refine blk_alloc ?_ _)); exact BK177.out) hb); have n3_ := Aside0.mk (below_step (by repeat (first | (with_reducible first | exact HB.out | apply below_alloc | apply pw_below_drewN | apply below_drew1 | refine below_set ?_ GE176.out | refine below_set ?_ GE177.out) | exact HB.out)) hb); have n4_ := Aside0.mk (hbox); have n5_ := Aside0.mk ((by rw [hg]; exact (below_size (by repeat (first | (with_reducible first | exact HB.out | apply below_alloc | apply pw_below_drewN | apply below_drew1 | refine below_set ?_ GE176.out | refine below_set ?_ GE177.out) | exact HB.out))) : w.heap.size ≤ gb178)); have n6_ := Aside0.mk ((by rw [hg]; exact (below_size (by repeat (first | (with_reducible first | exact HB.out | apply below_alloc | apply pw_below_drewN | apply below_drew1 | refine below_set ?_ GE176.out | refine below_set ?_ GE177.out) | exact HB.out))) : w.heap.size ≤ gb178)); have n7_ := Aside0.mk ((by rw [hg]; exact Nat.ne_of_lt (blk_lt (g := gb176) (o := .cells #[.int .i64 a0_0, .slice A0_1 l0_1.length c0_1, .int .i64 a0_2, .bool a0_3, .int .i64 a0_4] 27 (0, 0)) (by (with_reducible repeat (first | refine blk_drewN ?_ _ | refine blk_drew ?_ | refine blk_alloc ?_ _)); exact BK176.out)) : gb176 ≠ gb178)); have n8_ := Aside0.mk ((by rw [hg]; exact Nat.ne_of_gt (blk_lt (g := gb176) (o := .cells #[.int .i64 a0_0, .slice A0_1 l0_1.length c0_1, .int .i64 a0_2, .bool a0_3, .int .i64 a0_4] 27 (0, 0)) (by (with_reducible repeat (first | refine blk_drewN ?_ _ | refine blk_drew ?_ | refine blk_alloc ?_ _)); exact BK176.out)) : gb178 ≠ gb176)); have n9_ := Aside0.mk ((by rw [hg]; exact Nat.ne_of_lt (blk_lt (g := gb177) (o := .cells #[.int .i64 a1_0, .int .i64 a1_1, .slice A1_2 l1_2.length c1_2] 36 (0, 0)) (by (with_reducible repeat (first | refine blk_drewN ?_ _ | refine blk_drew ?_ | refine blk_alloc ?_ _)); exact BK177.out)) : gb177 ≠ gb178)); have n10_ := Aside0.mk ((by rw [hg]; exact Nat.ne_of_gt (blk_lt (g := gb177) (o := .cells #[.int .i64 a1_0, .int .i64 a1_1, .slice A1_2 l1_2.length c1_2] 36 (0, 0)) (by (with_reducible repeat (first | refine blk_drewN ?_ _ | refine blk_drew ?_ | refine blk_alloc ?_ _)); exact BK177.out)) : gb178 ≠ gb177)); clear HO0_1; clear BK176; clear BK177; clear HB; have HO0_1 := n0_; have BK176 := n1_; have BK177 := n2_; have HB := n3_; have BK178 := n4_; have GW178 := n5_; have GE178 := n6_; have NB176_178 := n7_; have NB178_176 := n8_; have NB177_178 := n9_; have NB178_177 := n10_; clear n0_ n1_ n2_ n3_ n4_ n5_ n6_ n7_ n8_ n9_ n10_; clear hb hbox hg; have hnb13 := NB177_176.out; have hnc13 := NB176_177.out; have hnb14 := NB177_178.out; have hnc14 := NB178_177.out; have hcz15_0 : w12.cell? ⟨gb177, 0, none⟩ = some (.int .i64 a1_0) := (blk_cell BK177.out 0).trans rfl; have hcz15_1 : w12.cell? ⟨gb177, 1, none⟩ = some (.int .i64 a1_1) := (blk_cell BK177.out 1).trans rfl; have hcz15_2 : w12.cell? ⟨gb177, 2, none⟩ = some (.slice A1_2 l1_2.length c1_2) := (blk_cell BK177.out 2).trans rfl; have hfz15_0 := blk_frozen BK177.out 0; have hfz15_1 := blk_frozen BK177.out 1; have hfz15_2 := blk_frozen BK177.out 2) | ((with_reducible refine gate_callee (f := 27) rfl ?_); refine goesL_ (some 16) rfl rfl Try.func27 (by kernel_rfl) rfl #[.agg #[.int .i64 a1_0, .int .i64 a1_1, .slice A1_2 l1_2.length c1_2]] rfl (by (try simp only [List.map_toArray, List.map_cons, List.map_nil]); first | done | rfl | (simp only [List.length_drop, List.length_take]; rfl)) ?_; (with_reducible refine (record_Write.calls k a1_0 a1_1 _ _ l1_2 t179 t182 _ ?side1 ?side2 A3.out).mono ?_); (case side1 => repeat (first | exact (Kd.C_below HR1_2.out HB.out) | (with_reducible refine Kd.C_alloc ?_ _) | (with_reducible refine Kd.C_drewN ?_ _) | (with_reducible refine Kd.C_drew ?_))); (case side2 => exact HC1_2.out); rintro e w16 ⟨v180, rfl, ho0, hb⟩; refine ⟨_, rfl, ?_⟩; have n0_ := Aside0.mk (Kd.V_elder' (by (with_reducible repeat (first | apply Kd.V_alloc | apply Kd.V_drewN | apply Kd.V_drew)); exact HO0_1.out) (Kd.R_base ho0) hb); have n1_ := Aside0.mk (Kd.R_lower (Kd.R_newM (M := fun k_ => (w.heap.size ≤ k_)) ho0 (below_size (by repeat (first | (with_reducible first | exact HB.out | apply below_alloc | apply pw_below_drewN | apply below_drew1 | refine below_set ?_ GE176.out | refine below_set ?_ GE177.out | refine below_set ?_ GE178.out) | exact HB.out))) (fun k_ h_ => h_)) (below_size (by repeat (first | (with_reducible first | exact HB.out | apply below_alloc | apply pw_below_drewN | apply below_drew1 | refine below_set ?_ GE176.out | refine below_set ?_ GE177.out | refine below_set ?_ GE178.out) | exact HB.out)))); have n2_ := Aside0.mk (blk_below (g := gb176) (o := .cells #[.int .i64 a0_0, .slice A0_1 l0_1.length c0_1, .int .i64 a0_2, .bool a0_3, .int .i64 a0_4] 27 (0, 0)) (by (with_reducible repeat (first | refine blk_drewN ?_ _ | refine blk_drew ?_ | refine blk_alloc ?_ _)); exact BK176.out) hb); have n3_ := Aside0.mk (blk_below (g := gb177) (o := .cells #[.int .i64 a1_0, .int .i64 a1_1, .slice A1_2 l1_2.length c1_2] 36 (0, 0)) (by (with_reducible repeat (first | refine blk_drewN ?_ _ | refine blk_drew ?_ | refine blk_alloc ?_ _)); exact BK177.out) hb); have n4_ := Aside0.mk (blk_below (g := gb178) (o := .cells #[.int .i64 0, .slice none 0 0, .int .i64 0, .bool false, .int .i64 0] 27 (0, 0)) (by (with_reducible repeat (first | refine blk_drewN ?_ _ | refine blk_drew ?_ | refine blk_alloc ?_ _)); exact BK178.out) hb); have n5_ := Aside0.mk (below_step (by repeat (first | (with_reducible first | exact HB.out | apply below_alloc | apply pw_below_drewN | apply below_drew1 | refine below_set ?_ GE176.out | refine below_set ?_ GE177.out | refine below_set ?_ GE178.out) | exact HB.out)) hb); clear HO0_1; clear BK176; clear BK177; clear BK178; clear HB; have HO0_1 := n0_; have HO181 := n1_; have BK176 := n2_; have BK177 := n3_; have BK178 := n4_; have HB := n5_; clear n0_ n1_ n2_ n3_ n4_ n5_; (try clear hb); (try clear hb2); (try clear hk); (try clear hi); (try clear ho0); have hnb17 := NB176_178.out; have hnc17 := NB178_176.out; have hcz18_0 : w16.cell? ⟨gb176, 0, none⟩ = some (.int .i64 a0_0) := (blk_cell BK176.out 0).trans rfl; have hcz18_1 : w16.cell? ⟨gb176, 1, none⟩ = some (.slice A0_1 l0_1.length c0_1) := (blk_cell BK176.out 1).trans rfl; have hcz18_2 : w16.cell? ⟨gb176, 2, none⟩ = some (.int .i64 a0_2) := (blk_cell BK176.out 2).trans rfl; have hcz18_3 : w16.cell? ⟨gb176, 3, none⟩ = some (.bool a0_3) := (blk_cell BK176.out 3).trans rfl; have hcz18_4 : w16.cell? ⟨gb176, 4, none⟩ = some (.int .i64 a0_4) := (blk_cell BK176.out 4).trans rfl; have hfz18_0 := blk_frozen BK176.out 0; have hfz18_1 := blk_frozen BK176.out 1; have hfz18_2 := blk_frozen BK176.out 2; have hfz18_3 := blk_frozen BK176.out 3; have hfz18_4 := blk_frozen BK176.out 4; obtain ⟨Ao19, co19, eo19⟩ := Kd.R_slice HO181.out; subst eo19) | ((with_reducible refine gate_callee (f := 41) rfl ?_); refine goesL_ (some 27) rfl rfl Try.func41 (by kernel_rfl) rfl #[.agg #[.int .i64 a0_0, .slice A0_1 l0_1.length c0_1, .int .i64 a0_2, .bool a0_3, .int .i64 a0_4], .int .i64 (t179.length : Int)] rfl (by (try simp only [List.map_toArray, List.map_cons, List.map_nil]); first | done | rfl | (simp only [List.length_drop, List.length_take]; rfl)) ?_; (with_reducible refine (log_Place.calls k a0_0 _ _ l0_1 a0_2 a0_3 a0_4 (t179.length : Int) t183 t184 t187 _ ?side1 ?side2 A5.out).mono ?_); (case side1 => repeat (first | exact (Kd.V_reads' HO0_1.out).2.2 | (with_reducible refine Kd.C_alloc ?_ _) | (with_reducible refine Kd.C_drewN ?_ _) | (with_reducible refine Kd.C_drew ?_))); (case side2 => exact (Kd.V_reads' HO0_1.out).2.1); rintro e w20 ⟨v185, rfl, ho0, hb⟩; refine ⟨_, rfl, ?_⟩; have n0_ := Aside0.mk (Kd.V_elder' (by (with_reducible repeat (first | apply Kd.V_alloc | apply Kd.V_drewN | apply Kd.V_drew)); exact HO0_1.out) (Kd.S_base ho0) hb); have n1_ := Aside0.mk (Kd.R_below (by (with_reducible repeat (first | apply Kd.R_alloc | apply Kd.R_drewN | apply Kd.R_drew)); exact HO181.out) hb); have n2_ := Aside0.mk (Kd.S_lower (Kd.S_new' (Kd.S_newM (M := fun k_ => (w.heap.size ≤ k_)) ho0 (below_size (by repeat (first | (with_reducible first | exact HB.out | apply below_alloc | apply pw_below_drewN | apply below_drew1 | refine below_set ?_ GE176.out | refine below_set ?_ GE177.out | refine below_set ?_ GE178.out) | exact HB.out))) (fun k_ h_ => h_)) (Kd.R_lt (by (with_reducible repeat (first | apply Kd.R_alloc | apply Kd.R_drewN | apply Kd.R_drew)); exact HO181.out))) (below_size (by repeat (first | (with_reducible first | exact HB.out | apply below_alloc | apply pw_below_drewN | apply below_drew1 | refine below_set ?_ GE176.out | refine below_set ?_ GE177.out | refine below_set ?_ GE178.out) | exact HB.out)))); have n3_ := Aside0.mk (blk_below (g := gb176) (o := .cells #[.int .i64 a0_0, .slice A0_1 l0_1.length c0_1, .int .i64 a0_2, .bool a0_3, .int .i64 a0_4] 27 (0, 0)) (by (with_reducible repeat (first | refine blk_drewN ?_ _ | refine blk_drew ?_ | refine blk_alloc ?_ _)); exact BK176.out) hb); have n4_ := Aside0.mk (blk_below (g := gb177) (o := .cells #[.int .i64 a1_0, .int .i64 a1_1, .slice A1_2 l1_2.length c1_2] 36 (0, 0)) (by (with_reducible repeat (first | refine blk_drewN ?_ _ | refine blk_drew ?_ | refine blk_alloc ?_ _)); exact BK177.out) hb); have n5_ := Aside0.mk (blk_below (g := gb178) (o := .cells #[.int .i64 0, .slice none 0 0, .int .i64 0, .bool false, .int .i64 0] 27 (0, 0)) (by (with_reducible repeat (first | refine blk_drewN ?_ _ | refine blk_drew ?_ | refine blk_alloc ?_ _)); exact BK178.out) hb); have n6_ := Aside0.mk (below_step (by repeat (first | (with_reducible first | exact HB.out | apply below_alloc | apply pw_below_drewN | apply below_drew1 | refine below_set ?_ GE176.out | refine below_set ?_ GE177.out | refine below_set ?_ GE178.out) | exact HB.out)) hb); clear HO0_1; clear HO181; clear BK176; clear BK177; clear BK178; clear HB; have HO0_1 := n0_; have HO181 := n1_; have HO186 := n2_; have BK176 := n3_; have BK177 := n4_; have BK178 := n5_; have HB := n6_; clear n0_ n1_ n2_ n3_ n4_ n5_ n6_; (try clear hb); (try clear hb2); (try clear hk); (try clear hi); (try clear ho0); have hcz21_0 : w20.cell? ⟨gb176, 0, none⟩ = some (.int .i64 a0_0) := (blk_cell BK176.out 0).trans rfl; have hcz21_1 : w20.cell? ⟨gb176, 1, none⟩ = some (.slice A0_1 l0_1.length c0_1) := (blk_cell BK176.out 1).trans rfl; have hcz21_2 : w20.cell? ⟨gb176, 2, none⟩ = some (.int .i64 a0_2) := (blk_cell BK176.out 2).trans rfl; have hcz21_3 : w20.cell? ⟨gb176, 3, none⟩ = some (.bool a0_3) := (blk_cell BK176.out 3).trans rfl; have hcz21_4 : w20.cell? ⟨gb176, 4, none⟩ = some (.int .i64 a0_4) := (blk_cell BK176.out 4).trans rfl; have hfz21_0 := blk_frozen BK176.out 0; have hfz21_1 := blk_frozen BK176.out 1; have hfz21_2 := blk_frozen BK176.out 2; have hfz21_3 := blk_frozen BK176.out 3; have hfz21_4 := blk_frozen BK176.out 4; have p188 : 0 ≤ (t183 : Int) := of_decide_eq_true (by first | (with_reducible assumption) | assumption); have q188 : t183 < (l0_1.length : Int) := of_decide_eq_true (by first | (with_reducible assumption) | assumption); obtain ⟨ad188, A188_2, c188_2, e188, hx188_0, hx188_1, hx188_2, hx188_3, hl188_2, hi188_2⟩ := at_T52 (Kd.V_reads' HO0_1.out).2.2 t183 p188 q188; cases e188; obtain ⟨ce188, hce188, hMe188, hcc188⟩ := Kd.V_get HO0_1.out z52 t183 p188 (by first | exact q188 | exact of_decide_eq_true (by first | (with_reducible assumption) | assumption) | (have e_ := (Kd.V_reads' HO0_1.out).1; omega)); obtain ⟨ua188_2, uc188_2, rfl, ul188_2, ge188_2⟩ := k52_openF hMe188; have hv188_2 := hcc188 2 _ rfl; rw [add_field _ _ 2 (by omega)] at hv188_2; replace hv188_2 := Option.some.inj (hv188_2.symm.trans hx188_2); injection hv188_2 with hva_ hvn_ hvc_; rw [hva_] at ge188_2; rw [hvc_] at ul188_2; have HL188_2 := Aside0.mk (show Kd.V (Kd.int .u8) 5 _ w.heap.size _ _ ((rd_T52 l0_1 t183).f2) from Kd.V_mk ul188_2 ge188_2); clear hva_ hvn_ hvc_ ge188_2 ul188_2; clear hcc188 hce188; have HR188_2 := Aside0.mk hi188_2; have HC188_2 := Aside0.mk hl188_2; clear hi188_2 hl188_2; replace p188 := eq_true p188; replace q188 := eq_true q188) | ((with_reducible refine gate_builtin (b := .append) (xs := #[.tmp 46, .tmp 50]) rfl ?_); at_builtin; refine Kd.S_append k56 (w0 := w) w.heap.size rfl (.tmp 46) (.tmp 50) 79 56 (.agg #[(.int .i64 0), (.int .i64 0), (.slice none 0 0)]) 40 rfl Try.underlying79 info56 rfl (by decide) (by omega) v185 t184 (⟨1, t183, t179⟩ : S56) [.int .i64 1, .int .i64 t183, .slice Ao19 t179.length co19] (fun k_ => (w.heap.size ≤ k_)) (fun k_ => some k_ = (.slice Ao19 t179.length co19 : Value).ownBlock) rfl rfl ?aP (fun k_ hk_ => ((Kd.R_mono (ok' := fun k_ => ((fun k_ => (w.heap.size ≤ k_))) k_ ∧ some k_ ≠ (v185 : Value).ownBlock) (Kd.R_apart' (HO181.out) (Kd.S_typed HO186.out) (by decide)) (fun k_ hk => ⟨hk.1.1, hk.2⟩))).1 k_ hk_.symm) ?aF ?aO ?aB ?aS ?aL ?_; (case aP => exact k56_mkM _ _ _ (⟨1, t183, t179⟩ : S56) (Kd.R_mono (Kd.R_tight rfl (Kd.R_mono (ok' := fun k_ => ((fun k_ => (w.heap.size ≤ k_))) k_ ∧ some k_ ≠ (v185 : Value).ownBlock) (Kd.R_apart' (HO181.out) (Kd.S_typed HO186.out) (by decide)) (fun k_ hk => ⟨hk.1.1, hk.2⟩))) (fun _ h_ => h_))); (case aB => exact (by repeat (first | (with_reducible first | exact HB.out | apply below_alloc | apply pw_below_drewN | apply below_drew1 | refine below_set ?_ GE176.out | refine below_set ?_ GE177.out | refine below_set ?_ GE178.out) | exact HB.out))); (case aF => exact (fun k_ hk => (Nat.le_trans (below_size (by repeat (first | (with_reducible first | exact HB.out | apply below_alloc | apply pw_below_drewN | apply below_drew1 | refine below_set ?_ GE176.out | refine below_set ?_ GE177.out | refine below_set ?_ GE178.out) | exact HB.out))) hk))); (case aO => exact (by (with_reducible repeat (first | apply Kd.S_alloc | apply Kd.S_drewN | apply Kd.S_drew)); exact Kd.S_mono HO186.out (fun k_ hk => ⟨hk.1.1, fun e_ => hk.2 e_⟩))); (case aS => exact (below_size (by repeat (first | (with_reducible first | exact HB.out | apply below_alloc | apply pw_below_drewN | apply below_drew1 | refine below_set ?_ GE176.out | refine below_set ?_ GE177.out | refine below_set ?_ GE178.out) | exact HB.out)))); (case aL => have := LMc9.out; omega); intro v190 w22 ho hb hg hat; rw [← Ny189.out] at ho; have n0_ := Aside0.mk (Kd.V_afterv (ok := (fun k_ => (P0_1_ k_ ∨ w.heap.size ≤ k_) ∧ some k_ ≠ (.slice Ao19 t179.length co19 : Value).ownBlock ∧ k_ ≠ gb176 ∧ k_ ≠ gb177 ∧ k_ ≠ gb178)) (by (with_reducible repeat (first | apply Kd.V_alloc | apply Kd.V_drewN | apply Kd.V_drew)); exact Kd.V_mono HO0_1.out (fun _ hk => ⟨⟨hk.1.1.1.1.1, ⟨hk.1.2, ⟨hk.1.1.1.1.2, ⟨hk.1.1.1.2, hk.1.1.2⟩⟩⟩⟩, hk.2⟩)) hg hat); have n1_ := Aside0.mk (blk_grown (g := gb176) (o := .cells #[.int .i64 a0_0, .slice (some ad188) l0_1.length c0_1, .int .i64 a0_2, .bool a0_3, .int .i64 a0_4] 27 (0, 0)) (by (with_reducible repeat (first | refine blk_drewN ?_ _ | refine blk_drew ?_ | refine blk_alloc ?_ _)); exact BK176.out) hg (Kd.S_ne HO186.out BK176.out (by decide))); have n2_ := Aside0.mk (blk_grown (g := gb177) (o := .cells #[.int .i64 a1_0, .int .i64 a1_1, .slice A1_2 l1_2.length c1_2] 36 (0, 0)) (by (with_reducible repeat (first | refine blk_drewN ?_ _ | refine blk_drew ?_ | refine blk_alloc ?_ _)); exact BK177.out) hg (Kd.S_ne HO186.out BK177.out (by decide))); have n3_ := Aside0.mk (blk_grown (g := gb178) (o := .cells #[.int .i64 0, .slice none 0 0, .int .i64 0, .bool false, .int .i64 0] 27 (0, 0)) (by (with_reducible repeat (first | refine blk_drewN ?_ _ | refine blk_drew ?_ | refine blk_alloc ?_ _)); exact BK178.out) hg (Kd.S_ne HO186.out BK178.out (by decide))); have n4_ := Aside0.mk (Kd.V_afterv (ok := (fun k_ => (P0_1_ k_ ∨ w.heap.size ≤ k_) ∧ some k_ ≠ (.slice Ao19 t179.length co19 : Value).ownBlock ∧ k_ ≠ gb176 ∧ k_ ≠ gb177 ∧ k_ ≠ gb178)) (by (with_reducible repeat (first | apply Kd.V_alloc | apply Kd.V_drewN | apply Kd.V_drew)); exact Kd.V_mono HL188_2.out (fun _ hk => ⟨⟨hk.1.1.1.1.1, ⟨hk.1.2, ⟨hk.1.1.1.1.2, ⟨hk.1.1.1.2, hk.1.1.2⟩⟩⟩⟩, hk.2⟩)) hg hat); have n5_ := Aside0.mk (hb); have n6_ := Aside0.mk (ho); clear HO0_1; clear BK176; clear BK177; clear BK178; clear HL188_2; clear HB; clear HO186; clear HO181; have HO0_1 := n0_; have BK176 := n1_; have BK177 := n2_; have BK178 := n3_; have HL188_2 := n4_; have HB := n5_; have HO191 := n6_; clear n0_ n1_ n2_ n3_ n4_ n5_ n6_; clear ho hb hg hat; obtain ⟨Ao23, co23, eo23⟩ := Kd.S_slice HO191.out; subst eo23))))
      go_loopg [8, 53] k (fun kq v8 v53 w' => ∃ (x8_1 : Int) (x53_1 : Int) (x177000_1 : Int) (x177001_1 : List (S52)) (x177002_1 : Int) (x177003_1 : Bool) (x177004_1 : Int) (u177001 : Value), v8 = .int .i64 x8_1 ∧ v53 = .int .i64 x53_1 ∧ Aside0 (log_one.l0 kq x8_1 ((floatOfInt .f64 t183, floatOfInt .f64 (((rd_T52 l0_1 t183).f2).length : Int)) : Cx) y189 (y189.length : Int) x53_1 x177000_1 x177001_1 x177002_1 x177003_1 x177004_1 = some (r1, r2, r3, r4, r5, r6, r7)) ∧ Aside0 (kq ≤ k) ∧ Aside0 (Kd.S k56 56 w' w.heap.size (fun k_ => (w.heap.size ≤ k_)) (.slice Ao23 y189.length co23) y189) ∧ Aside0 (Kd.V k52 52 w' w.heap.size (fun k_ => (P0_1_ k_ ∨ w.heap.size ≤ k_) ∧ some k_ ≠ ((.slice Ao23 y189.length co23) : Value).ownBlock ∧ k_ ≠ gb176 ∧ k_ ≠ gb177 ∧ k_ ≠ gb178) u177001 x177001_1) ∧ Aside0 (w'.heap[gb176]? = some (.cells #[.int .i64 x177000_1, u177001, .int .i64 x177002_1, .bool x177003_1, .int .i64 x177004_1] 27 (0, 0))) ∧ Aside0 (w'.heap[gb177]? = some (.cells #[.int .i64 a1_0, .int .i64 a1_1, (.slice A1_2 l1_2.length c1_2)] 36 (0, 0))) ∧ Aside0 (w'.heap[gb178]? = some (.cells #[.int .i64 0, (.slice none 0 0), .int .i64 0, .bool false, .int .i64 0] 27 (0, 0))) ∧ Aside0 (Below w.heap.size w w'))
      case atStart => exact ⟨(t187), (0), (a0_0), (l0_1), (a0_2), (a0_3), (a0_4), (.slice (some ad188) l0_1.length c0_1), (by first | rfl | (simp; done) | (simp [*]; done)), (by first | rfl | (simp; done) | (simp [*]; done)), H', ⟨Nat.le_refl _⟩, ⟨by (with_reducible repeat (first | apply Kd.S_alloc | apply Kd.S_drewN | apply Kd.S_drew)); exact HO191.out⟩, ⟨by (with_reducible repeat (first | apply Kd.V_alloc | apply Kd.V_drewN | apply Kd.V_drew)); exact Kd.V_mono HO0_1.out (fun _ hk => ⟨hk.1.1, ⟨hk.2, ⟨hk.1.2.2.1, ⟨hk.1.2.2.2.1, hk.1.2.2.2.2⟩⟩⟩⟩)⟩, ⟨by (with_reducible repeat (first | refine blk_drewN ?_ _ | refine blk_drew ?_ | refine blk_alloc ?_ _)); exact BK176.out⟩, ⟨by (with_reducible repeat (first | refine blk_drewN ?_ _ | refine blk_drew ?_ | refine blk_alloc ?_ _)); exact BK177.out⟩, ⟨by (with_reducible repeat (first | refine blk_drewN ?_ _ | refine blk_drew ?_ | refine blk_alloc ?_ _)); exact BK178.out⟩, ⟨by repeat (first | (with_reducible first | exact HB.out | apply below_alloc | apply pw_below_drewN | apply below_drew1 | refine below_set ?_ GE176.out | refine below_set ?_ GE177.out | refine below_set ?_ GE178.out) | exact HB.out)⟩⟩
      case round =>
       clear H'
       try clear c1
       try clear p1
       try clear q1
       try clear hx1
       try clear c2
       try clear p2
       try clear c3
       try clear p3
       try clear c4
       try clear c4b0
       try clear c4b1
       try clear c6
       try clear c6b0
       try clear c6b1
       try clear c7
       try clear c7b0
       try clear c8
       try clear c8b0
       try clear c9
       try clear c13
       try clear c14
       try clear c17
       try clear c18
       try clear p18
       try clear q18
       try clear hx18
       try clear hcz15_0
       try clear hcz15_1
       try clear hcz15_2
       try clear hcz18_0
       try clear hcz18_1
       try clear hcz18_2
       try clear hcz18_3
       try clear hcz18_4
       try clear hcz21_0
       try clear hcz21_1
       try clear hcz21_2
       try clear hcz21_3
       try clear hcz21_4
       try clear hfz15_0
       try clear hfz15_1
       try clear hfz15_2
       try clear hfz18_0
       try clear hfz18_1
       try clear hfz18_2
       try clear hfz18_3
       try clear hfz18_4
       try clear hfz21_0
       try clear hfz21_1
       try clear hfz21_2
       try clear hfz21_3
       try clear hfz21_4
       try clear hx188_0
       try clear hx188_1
       try clear hx188_2
       try clear hx188_3
       try clear p188
       try clear q188
       obtain ⟨x8_1, x53_1, x177000_1, x177001_1, x177002_1, x177003_1, x177004_1, u177001, rfl, rfl, HA, HK1, HO_51, HO_177001, BK176, BK177, BK178, HB⟩ := hrel
       cases gk with
       | zero => exact absurd HA.out (by simp [log_one.l0])
       | succ k1 =>
        have H := HA.out
        clear HA
        simp only [log_one.l0] at H
        by_cases c24 : x53_1 < (y189.length : Int)
        ·rw [if_pos c24] at H
         have c24b0 : decide (x53_1 < (y189.length : Int)) = true := decide_eq_true c24
         clear c24
         by_cases c25 : 0 ≤ x53_1
         ·rw [if_pos c25] at H
          have c25b0 : decide (0 ≤ x53_1) = true := decide_eq_true c25
          clear c25
          by_cases c26 : x53_1 < (y189.length : Int)
          ·rw [if_pos c26] at H
           have c26b0 : decide (x53_1 < (y189.length : Int)) = true := decide_eq_true c26
           clear c26
           replace H := Option.bind_eq_some_iff.mp H
           obtain ⟨⟨t194, t195, t198, t199, t200, t201⟩, A270, H⟩ := H
           replace H : (if t201 = 0 then (log_one.l0 k1 t201 ((floatOfInt .f64 t183, floatOfInt .f64 (((rd_T52 l0_1 t183).f2).length : Int)) : Cx) y189 (y189.length : Int) (wrap64 (x53_1 + 1)) t194 t195 t198 t199 t200) else (some (t194, t195, t198, t199, t200, ((floatOfInt .f64 t183, floatOfInt .f64 (((rd_T52 l0_1 t183).f2).length : Int)) : Cx), t201))) = some (r1, r2, r3, r4, r5, r6, r7) := H
           have A27 := Aside0.mk A270
           clear A270
           by_cases c28 : t201 = 0
           ·rw [if_pos c28] at H
            have c28b0 : (t201 == 0) = true := beq_iff_eq.mpr c28
            have c28b1 : (t201 != 0) = false := bne_eq_false_iff_eq.mpr c28
            clear c28
            have H' := Aside0.mk H
            clear H
            have p192 : 0 ≤ (x53_1 : Int) := of_decide_eq_true (by first | (with_reducible assumption) | assumption)
            have q192 : x53_1 < (y189.length : Int) := of_decide_eq_true (by first | (with_reducible assumption) | assumption)
            obtain ⟨ad192, A192_2, c192_2, e192, hx192_0, hx192_1, hx192_2, hl192_2, hi192_2⟩ := at_T56 (Kd.S_reads' HO_51.out).2.2 x53_1 p192 q192
            cases e192
            obtain ⟨ce192, hce192, hMe192, hcc192⟩ := Kd.S_get HO_51.out z56 x53_1 p192 (by first | exact q192 | exact of_decide_eq_true (by first | (with_reducible assumption) | assumption) | (have e_ := (Kd.S_reads' HO_51.out).1; omega))
            obtain ⟨ve192_2, rfl, ge192_2⟩ := k56_openM hMe192
            have hv192_2 := hcc192 2 _ rfl
            rw [add_field _ _ 2 (by omega)] at hv192_2
            replace hv192_2 := Option.some.inj (hv192_2.symm.trans hx192_2)
            rw [hv192_2] at ge192_2
            have HL192_2 := Aside0.mk (show Kd.R (Kd.int .u8) 5 _ _ _ _ ((rd_T56 y189 x53_1).f2) from ge192_2)
            clear hv192_2 ge192_2
            clear hcc192 hce192
            have HR192_2 := Aside0.mk hi192_2
            have HC192_2 := Aside0.mk hl192_2
            clear hi192_2 hl192_2
            replace p192 := eq_true p192
            replace q192 := eq_true q192
            have mark_ : True := trivial
            iterate 3 (try ((first | clear mark_ | go_step3); go_wp2_with (first | ((with_reducible refine gate_dst (N := 13) rfl ?_); refine box_event ?hg (N := 13) ?hd (cs := #[.int .i64 0, .int .i64 0, .slice none 0 0]) (t := 56) ?hr ?_; (case hd => rfl); (case hg => rfl); (case hr => first | (go_simp; done) | (go_simp; rfl)); intro gb193 hg w29 hbox hb; have n0_ := Aside0.mk (Kd.S_below (Kd.S_elderB (by (with_reducible repeat (first | apply Kd.S_alloc | apply Kd.S_drewN | apply Kd.S_drew)); exact HO_51.out) gb193 (Nat.le_of_eq hg.symm)) hb); have n1_ := Aside0.mk (Kd.V_below (Kd.V_elderB (by (with_reducible repeat (first | apply Kd.V_alloc | apply Kd.V_drewN | apply Kd.V_drew)); exact HO_177001.out) gb193 (Nat.le_of_eq hg.symm)) hb); have n2_ := Aside0.mk (Kd.R_below (by (with_reducible repeat (first | apply Kd.R_alloc | apply Kd.R_drewN | apply Kd.R_drew)); exact HL192_2.out) hb); have n3_ := Aside0.mk (blk_below (g := gb176) (o := .cells #[.int .i64 x177000_1, u177001, .int .i64 x177002_1, .bool x177003_1, .int .i64 x177004_1] 27 (0, 0)) (by (with_reducible repeat (first | refine blk_drewN ?_ _ | refine blk_drew ?_ | refine blk_alloc ?_ _)); exact BK176.out) hb); have n4_ := Aside0.mk (blk_below (g := gb177) (o := .cells #[.int .i64 a1_0, .int .i64 a1_1, .slice A1_2 l1_2.length c1_2] 36 (0, 0)) (by (with_reducible repeat (first | refine blk_drewN ?_ _ | refine blk_drew ?_ | refine blk_alloc ?_ _)); exact BK177.out) hb); have n5_ := Aside0.mk (blk_below (g := gb178) (o := .cells #[.int .i64 0, .slice none 0 0, .int .i64 0, .bool false, .int .i64 0] 27 (0, 0)) (by (with_reducible repeat (first | refine blk_drewN ?_ _ | refine blk_drew ?_ | refine blk_alloc ?_ _)); exact BK178.out) hb); have n6_ := Aside0.mk (Kd.C_below (by repeat (first | (with_reducible exact HR192_2.out) | (with_reducible refine Kd.C_alloc ?_ _) | (with_reducible refine Kd.C_drewN ?_ _) | (with_reducible refine Kd.C_drew ?_) | exact HR192_2.out)) hb); have n7_ := Aside0.mk (below_step (by repeat (first | (with_reducible first | exact HB.out | apply below_alloc | apply pw_below_drewN | apply below_drew1 | refine below_set ?_ GE176.out | refine below_set ?_ GE177.out | refine below_set ?_ GE178.out) | exact HB.out)) hb); have n8_ := Aside0.mk (hbox); have n9_ := Aside0.mk ((by rw [hg]; exact (below_size (by repeat (first | (with_reducible first | exact HB.out | apply below_alloc | apply pw_below_drewN | apply below_drew1 | refine below_set ?_ GE176.out | refine below_set ?_ GE177.out | refine below_set ?_ GE178.out) | exact HB.out))) : w.heap.size ≤ gb193)); have n10_ := Aside0.mk ((by rw [hg]; exact (below_size (by repeat (first | (with_reducible first | exact HB.out | apply below_alloc | apply pw_below_drewN | apply below_drew1 | refine below_set ?_ GE176.out | refine below_set ?_ GE177.out | refine below_set ?_ GE178.out) | exact HB.out))) : w.heap.size ≤ gb193)); have n11_ := Aside0.mk ((by rw [hg]; exact Nat.ne_of_lt (blk_lt (g := gb176) (o := .cells #[.int .i64 x177000_1, u177001, .int .i64 x177002_1, .bool x177003_1, .int .i64 x177004_1] 27 (0, 0)) (by (with_reducible repeat (first | refine blk_drewN ?_ _ | refine blk_drew ?_ | refine blk_alloc ?_ _)); exact BK176.out)) : gb176 ≠ gb193)); have n12_ := Aside0.mk ((by rw [hg]; exact Nat.ne_of_gt (blk_lt (g := gb176) (o := .cells #[.int .i64 x177000_1, u177001, .int .i64 x177002_1, .bool x177003_1, .int .i64 x177004_1] 27 (0, 0)) (by (with_reducible repeat (first | refine blk_drewN ?_ _ | refine blk_drew ?_ | refine blk_alloc ?_ _)); exact BK176.out)) : gb193 ≠ gb176)); have n13_ := Aside0.mk ((by rw [hg]; exact Nat.ne_of_lt (blk_lt (g := gb177) (o := .cells #[.int .i64 a1_0, .int .i64 a1_1, .slice A1_2 l1_2.length c1_2] 36 (0, 0)) (by (with_reducible repeat (first | refine blk_drewN ?_ _ | refine blk_drew ?_ | refine blk_alloc ?_ _)); exact BK177.out)) : gb177 ≠ gb193)); have n14_ := Aside0.mk ((by rw [hg]; exact Nat.ne_of_gt (blk_lt (g := gb177) (o := .cells #[.int .i64 a1_0, .int .i64 a1_1, .slice A1_2 l1_2.length c1_2] 36 (0, 0)) (by (with_reducible repeat (first | refine blk_drewN ?_ _ | refine blk_drew ?_ | refine blk_alloc ?_ _)); exact BK177.out)) : gb193 ≠ gb177)); have n15_ := Aside0.mk ((by rw [hg]; exact Nat.ne_of_lt (blk_lt (g := gb178) (o := .cells #[.int .i64 0, .slice none 0 0, .int .i64 0, .bool false, .int .i64 0] 27 (0, 0)) (by (with_reducible repeat (first | refine blk_drewN ?_ _ | refine blk_drew ?_ | refine blk_alloc ?_ _)); exact BK178.out)) : gb178 ≠ gb193)); have n16_ := Aside0.mk ((by rw [hg]; exact Nat.ne_of_gt (blk_lt (g := gb178) (o := .cells #[.int .i64 0, .slice none 0 0, .int .i64 0, .bool false, .int .i64 0] 27 (0, 0)) (by (with_reducible repeat (first | refine blk_drewN ?_ _ | refine blk_drew ?_ | refine blk_alloc ?_ _)); exact BK178.out)) : gb193 ≠ gb178)); clear HO_51; clear HO_177001; clear HL192_2; clear BK176; clear BK177; clear BK178; clear HR192_2; clear HB; have HO_51 := n0_; have HO_177001 := n1_; have HL192_2 := n2_; have BK176 := n3_; have BK177 := n4_; have BK178 := n5_; have HR192_2 := n6_; have HB := n7_; have BK193 := n8_; have GW193 := n9_; have GE193 := n10_; have NB176_193 := n11_; have NB193_176 := n12_; have NB177_193 := n13_; have NB193_177 := n14_; have NB178_193 := n15_; have NB193_178 := n16_; clear n0_ n1_ n2_ n3_ n4_ n5_ n6_ n7_ n8_ n9_ n10_ n11_ n12_ n13_ n14_ n15_ n16_; clear hb hbox hg; have hnb30 := NB193_176.out; have hnc30 := NB176_193.out; have hnb31 := NB193_177.out; have hnc31 := NB177_193.out; have hnb32 := NB193_178.out; have hnc32 := NB178_193.out; have hcz33_0 : w29.cell? ⟨gb193, 0, none⟩ = some (.int .i64 0) := (blk_cell BK193.out 0).trans rfl; have hcz33_1 : w29.cell? ⟨gb193, 1, none⟩ = some (.int .i64 0) := (blk_cell BK193.out 1).trans rfl; have hcz33_2 : w29.cell? ⟨gb193, 2, none⟩ = some (.slice none 0 0) := (blk_cell BK193.out 2).trans rfl; have hfz33_0 := blk_frozen BK193.out 0; have hfz33_1 := blk_frozen BK193.out 1; have hfz33_2 := blk_frozen BK193.out 2; have hnb34 := NB176_177.out; have hnc34 := NB177_176.out; have hnb35 := NB176_178.out; have hnc35 := NB178_176.out; have hcz36_0 : w29.cell? ⟨gb176, 0, none⟩ = some (.int .i64 x177000_1) := (blk_cell BK176.out 0).trans rfl; have hcz36_1 : w29.cell? ⟨gb176, 1, none⟩ = some (u177001) := (blk_cell BK176.out 1).trans rfl; have hcz36_2 : w29.cell? ⟨gb176, 2, none⟩ = some (.int .i64 x177002_1) := (blk_cell BK176.out 2).trans rfl; have hcz36_3 : w29.cell? ⟨gb176, 3, none⟩ = some (.bool x177003_1) := (blk_cell BK176.out 3).trans rfl; have hcz36_4 : w29.cell? ⟨gb176, 4, none⟩ = some (.int .i64 x177004_1) := (blk_cell BK176.out 4).trans rfl; have hfz36_0 := blk_frozen BK176.out 0; have hfz36_1 := blk_frozen BK176.out 1; have hfz36_2 := blk_frozen BK176.out 2; have hfz36_3 := blk_frozen BK176.out 3; have hfz36_4 := blk_frozen BK176.out 4; obtain ⟨Ao37, co37, eo37⟩ := Kd.V_slice HO_177001.out; subst eo37) | ((with_reducible refine gate_callee (f := 24) rfl ?_); refine goesL_ (some 60) rfl rfl Try.func24 (by kernel_rfl) rfl #[.agg #[.int .i64 x177000_1, .slice Ao37 x177001_1.length co37, .int .i64 x177002_1, .bool x177003_1, .int .i64 x177004_1], .agg #[.int .i64 ((rd_T56 y189 x53_1).f0), .int .i64 ((rd_T56 y189 x53_1).f1), .slice A192_2 ((rd_T56 y189 x53_1).f2).length c192_2]] rfl (by (try simp only [List.map_toArray, List.map_cons, List.map_nil]); first | done | rfl | (simp only [List.length_drop, List.length_take]; rfl)) ?_; (with_reducible refine (dev_Do.calls x177000_1 _ _ x177001_1 x177002_1 x177003_1 x177004_1 ((rd_T56 y189 x53_1).f0) ((rd_T56 y189 x53_1).f1) _ _ ((rd_T56 y189 x53_1).f2) t194 t195 t198 t199 t200 t201 _ ?side1 ?side2 ?side3 ?side4 A27.out).mono ?_); (case side1 => refine (Kd.V_reads' (e := 52) (base := w.heap.size) (ok := fun k_ => (((P0_1_ k_ ∨ w.heap.size ≤ k_) ∧ (some k_ ≠ (.slice (some ad192) y189.length co23 : Value).ownBlock ∧ (k_ ≠ gb176 ∧ (k_ ≠ gb177 ∧ k_ ≠ gb178)))) ∧ k_ ≠ gb193)) (n := x177001_1.length) (c := co37) ?_).2.2; exact (by (with_reducible repeat (first | apply Kd.V_alloc | apply Kd.V_drewN | apply Kd.V_drew)); exact (Kd.V_mono (Kd.V_far (p := ⟨gb193, 2, none⟩) (Kd.V_far (p := ⟨gb193, 1, none⟩) (Kd.V_far (p := ⟨gb193, 0, none⟩) (Kd.V_mono HO_177001.out (fun k_ hk => (⟨hk, hk.2⟩ : _ ∧ k_ ≠ gb193))) (fun _ hk => hk.2) (.int .i64 ((rd_T56 y189 x53_1).f0))) (fun _ hk => hk.2) (.int .i64 ((rd_T56 y189 x53_1).f1))) (fun _ hk => hk.2) (.slice A192_2 ((rd_T56 y189 x53_1).f2).length c192_2)) (fun _ h_ => h_.1)))); (case side2 => exact (Kd.V_reads' HO_177001.out).2.1); (case side3 => repeat (first | exact ((Kd.R_reads' (by (with_reducible repeat (first | apply Kd.R_alloc | apply Kd.R_drewN | apply Kd.R_drew)); exact (Kd.R_mono (Kd.R_far (p := ⟨gb193, 2, none⟩) (Kd.R_far (p := ⟨gb193, 1, none⟩) (Kd.R_far (p := ⟨gb193, 0, none⟩) (Kd.R_types HL192_2.out BK193.out (by decide)) (fun _ hk => hk.2) (.int .i64 ((rd_T56 y189 x53_1).f0))) (fun _ hk => hk.2) (.int .i64 ((rd_T56 y189 x53_1).f1))) (fun _ hk => hk.2) (.slice A192_2 ((rd_T56 y189 x53_1).f2).length c192_2)) (fun _ h_ => h_.1)))).2.2) | (with_reducible refine Kd.C_alloc ?_ _) | (with_reducible refine Kd.C_drewN ?_ _) | (with_reducible refine Kd.C_drew ?_))); (case side4 => exact HC192_2.out); rintro e w38 ⟨v196, rfl, ho0, hb⟩; refine ⟨_, rfl, ?_⟩; have n0_ := Aside0.mk (Kd.S_below (by (with_reducible repeat (first | apply Kd.S_alloc | apply Kd.S_drewN | apply Kd.S_drew)); exact (Kd.S_mono (Kd.S_far (p := ⟨gb193, 2, none⟩) (Kd.S_far (p := ⟨gb193, 1, none⟩) (Kd.S_far (p := ⟨gb193, 0, none⟩) (Kd.S_mono HO_51.out (fun k_ hk => (⟨hk, hk.2⟩ : _ ∧ k_ ≠ gb193))) (fun _ hk => hk.2) (.int .i64 ((rd_T56 y189 x53_1).f0))) (fun _ hk => hk.2) (.int .i64 ((rd_T56 y189 x53_1).f1))) (fun _ hk => hk.2) (.slice A192_2 ((rd_T56 y189 x53_1).f2).length c192_2)) (fun _ h_ => h_.1))) hb); have n1_ := Aside0.mk (Kd.V_elder' (by (with_reducible repeat (first | apply Kd.V_alloc | apply Kd.V_drewN | apply Kd.V_drew)); exact (Kd.V_mono (Kd.V_far (p := ⟨gb193, 2, none⟩) (Kd.V_far (p := ⟨gb193, 1, none⟩) (Kd.V_far (p := ⟨gb193, 0, none⟩) (Kd.V_mono HO_177001.out (fun k_ hk => (⟨hk, hk.2⟩ : _ ∧ k_ ≠ gb193))) (fun _ hk => hk.2) (.int .i64 ((rd_T56 y189 x53_1).f0))) (fun _ hk => hk.2) (.int .i64 ((rd_T56 y189 x53_1).f1))) (fun _ hk => hk.2) (.slice A192_2 ((rd_T56 y189 x53_1).f2).length c192_2)) (fun _ h_ => h_.1))) (Kd.S_base ho0) hb); have n2_ := Aside0.mk (Kd.R_below (by (with_reducible repeat (first | apply Kd.R_alloc | apply Kd.R_drewN | apply Kd.R_drew)); exact (Kd.R_mono (Kd.R_far (p := ⟨gb193, 2, none⟩) (Kd.R_far (p := ⟨gb193, 1, none⟩) (Kd.R_far (p := ⟨gb193, 0, none⟩) (Kd.R_types HL192_2.out BK193.out (by decide)) (fun _ hk => hk.2) (.int .i64 ((rd_T56 y189 x53_1).f0))) (fun _ hk => hk.2) (.int .i64 ((rd_T56 y189 x53_1).f1))) (fun _ hk => hk.2) (.slice A192_2 ((rd_T56 y189 x53_1).f2).length c192_2)) (fun _ h_ => h_.1))) hb); have n3_ := Aside0.mk (Kd.S_lower (Kd.S_new' (Kd.S_newM (M := fun k_ => (w.heap.size ≤ k_)) ho0 (below_size (by repeat (first | (with_reducible first | exact HB.out | apply below_alloc | apply pw_below_drewN | apply below_drew1 | refine below_set ?_ GE176.out | refine below_set ?_ GE177.out | refine below_set ?_ GE178.out | refine below_set ?_ GE193.out) | exact HB.out))) (fun k_ h_ => h_)) (Kd.R_lt (by (with_reducible repeat (first | apply Kd.R_alloc | apply Kd.R_drewN | apply Kd.R_drew)); exact (Kd.R_mono (Kd.R_far (p := ⟨gb193, 2, none⟩) (Kd.R_far (p := ⟨gb193, 1, none⟩) (Kd.R_far (p := ⟨gb193, 0, none⟩) (Kd.R_types HL192_2.out BK193.out (by decide)) (fun _ hk => hk.2) (.int .i64 ((rd_T56 y189 x53_1).f0))) (fun _ hk => hk.2) (.int .i64 ((rd_T56 y189 x53_1).f1))) (fun _ hk => hk.2) (.slice A192_2 ((rd_T56 y189 x53_1).f2).length c192_2)) (fun _ h_ => h_.1))))) (below_size (by repeat (first | (with_reducible first | exact HB.out | apply below_alloc | apply pw_below_drewN | apply below_drew1 | refine below_set ?_ GE176.out | refine below_set ?_ GE177.out | refine below_set ?_ GE178.out | refine below_set ?_ GE193.out) | exact HB.out)))); have n4_ := Aside0.mk (blk_below (g := gb176) (o := .cells #[.int .i64 x177000_1, .slice Ao37 x177001_1.length co37, .int .i64 x177002_1, .bool x177003_1, .int .i64 x177004_1] 27 (0, 0)) (by (with_reducible repeat (first | refine blk_drewN ?_ _ | refine blk_drew ?_ | refine blk_alloc ?_ _)); refine blk_far ?_ NB176_193.out _; (with_reducible repeat (first | refine blk_drewN ?_ _ | refine blk_drew ?_ | refine blk_alloc ?_ _)); refine blk_far ?_ NB176_193.out _; (with_reducible repeat (first | refine blk_drewN ?_ _ | refine blk_drew ?_ | refine blk_alloc ?_ _)); refine blk_far ?_ NB176_193.out _; (with_reducible repeat (first | refine blk_drewN ?_ _ | refine blk_drew ?_ | refine blk_alloc ?_ _)); exact BK176.out) hb); have n5_ := Aside0.mk (blk_below (g := gb177) (o := .cells #[.int .i64 a1_0, .int .i64 a1_1, .slice A1_2 l1_2.length c1_2] 36 (0, 0)) (by (with_reducible repeat (first | refine blk_drewN ?_ _ | refine blk_drew ?_ | refine blk_alloc ?_ _)); refine blk_far ?_ NB177_193.out _; (with_reducible repeat (first | refine blk_drewN ?_ _ | refine blk_drew ?_ | refine blk_alloc ?_ _)); refine blk_far ?_ NB177_193.out _; (with_reducible repeat (first | refine blk_drewN ?_ _ | refine blk_drew ?_ | refine blk_alloc ?_ _)); refine blk_far ?_ NB177_193.out _; (with_reducible repeat (first | refine blk_drewN ?_ _ | refine blk_drew ?_ | refine blk_alloc ?_ _)); exact BK177.out) hb); have n6_ := Aside0.mk (blk_below (g := gb178) (o := .cells #[.int .i64 0, .slice none 0 0, .int .i64 0, .bool false, .int .i64 0] 27 (0, 0)) (by (with_reducible repeat (first | refine blk_drewN ?_ _ | refine blk_drew ?_ | refine blk_alloc ?_ _)); refine blk_far ?_ NB178_193.out _; (with_reducible repeat (first | refine blk_drewN ?_ _ | refine blk_drew ?_ | refine blk_alloc ?_ _)); refine blk_far ?_ NB178_193.out _; (with_reducible repeat (first | refine blk_drewN ?_ _ | refine blk_drew ?_ | refine blk_alloc ?_ _)); refine blk_far ?_ NB178_193.out _; (with_reducible repeat (first | refine blk_drewN ?_ _ | refine blk_drew ?_ | refine blk_alloc ?_ _)); exact BK178.out) hb); have n7_ := Aside0.mk (Kd.C_below ((Kd.R_reads' (by (with_reducible repeat (first | apply Kd.R_alloc | apply Kd.R_drewN | apply Kd.R_drew)); exact (Kd.R_mono (Kd.R_far (p := ⟨gb193, 2, none⟩) (Kd.R_far (p := ⟨gb193, 1, none⟩) (Kd.R_far (p := ⟨gb193, 0, none⟩) (Kd.R_types HL192_2.out BK193.out (by decide)) (fun _ hk => hk.2) (.int .i64 ((rd_T56 y189 x53_1).f0))) (fun _ hk => hk.2) (.int .i64 ((rd_T56 y189 x53_1).f1))) (fun _ hk => hk.2) (.slice A192_2 ((rd_T56 y189 x53_1).f2).length c192_2)) (fun _ h_ => h_.1)))).2.2) hb); have n8_ := Aside0.mk (blk_below (g := gb193) (o := .cells #[.int .i64 ((rd_T56 y189 x53_1).f0), .int .i64 ((rd_T56 y189 x53_1).f1), .slice A192_2 ((rd_T56 y189 x53_1).f2).length c192_2] 56 (0, 0)) (by (with_reducible repeat (first | refine blk_drewN ?_ _ | refine blk_drew ?_ | refine blk_alloc ?_ _)); refine blk_put (cs := #[.int .i64 ((rd_T56 y189 x53_1).f0), .int .i64 ((rd_T56 y189 x53_1).f1), .slice none 0 0]) ?_ 2 _ rfl; (with_reducible repeat (first | refine blk_drewN ?_ _ | refine blk_drew ?_ | refine blk_alloc ?_ _)); refine blk_put (cs := #[.int .i64 ((rd_T56 y189 x53_1).f0), .int .i64 0, .slice none 0 0]) ?_ 1 _ rfl; (with_reducible repeat (first | refine blk_drewN ?_ _ | refine blk_drew ?_ | refine blk_alloc ?_ _)); refine blk_put (cs := #[.int .i64 0, .int .i64 0, .slice none 0 0]) ?_ 0 _ rfl; (with_reducible repeat (first | refine blk_drewN ?_ _ | refine blk_drew ?_ | refine blk_alloc ?_ _)); exact BK193.out) hb); have n9_ := Aside0.mk (below_step (by repeat (first | (with_reducible first | exact HB.out | apply below_alloc | apply pw_below_drewN | apply below_drew1 | refine below_set ?_ GE176.out | refine below_set ?_ GE177.out | refine below_set ?_ GE178.out | refine below_set ?_ GE193.out) | exact HB.out)) hb); clear HO_51; clear HO_177001; clear HL192_2; clear BK176; clear BK177; clear BK178; clear HR192_2; clear BK193; clear HB; have HO_51 := n0_; have HO_177001 := n1_; have HL192_2 := n2_; have HO197 := n3_; have BK176 := n4_; have BK177 := n5_; have BK178 := n6_; have HR192_2 := n7_; have BK193 := n8_; have HB := n9_; clear n0_ n1_ n2_ n3_ n4_ n5_ n6_ n7_ n8_ n9_; (try clear hb); (try clear hb2); (try clear hk); (try clear hi); (try clear ho0); have hcz39_0 : w38.cell? ⟨gb176, 0, none⟩ = some (.int .i64 x177000_1) := (blk_cell BK176.out 0).trans rfl; have hcz39_1 : w38.cell? ⟨gb176, 1, none⟩ = some (.slice Ao37 x177001_1.length co37) := (blk_cell BK176.out 1).trans rfl; have hcz39_2 : w38.cell? ⟨gb176, 2, none⟩ = some (.int .i64 x177002_1) := (blk_cell BK176.out 2).trans rfl; have hcz39_3 : w38.cell? ⟨gb176, 3, none⟩ = some (.bool x177003_1) := (blk_cell BK176.out 3).trans rfl; have hcz39_4 : w38.cell? ⟨gb176, 4, none⟩ = some (.int .i64 x177004_1) := (blk_cell BK176.out 4).trans rfl; have hfz39_0 := blk_frozen BK176.out 0; have hfz39_1 := blk_frozen BK176.out 1; have hfz39_2 := blk_frozen BK176.out 2; have hfz39_3 := blk_frozen BK176.out 3; have hfz39_4 := blk_frozen BK176.out 4; obtain ⟨Ao40, co40, eo40⟩ := Kd.S_slice HO197.out; subst eo40))))
            go_roundg k1
            case measure => have := HK1.out; omega
            case rel => exact ⟨(t201), (wrap64 (x53_1 + 1)), (t194), (t195), (t198), (t199), (t200), (.slice Ao40 t195.length co40), (by first | rfl | (simp; done) | (simp [*]; done)), (by first | rfl | (simp; done) | (simp [*]; done)), H', ⟨by have := HK1.out; omega⟩, ⟨by (with_reducible repeat (first | apply Kd.S_alloc | apply Kd.S_drewN | apply Kd.S_drew)); exact Kd.S_mono (Kd.S_far (p := ⟨gb176, 4, none⟩) (Kd.S_far (p := ⟨gb176, 3, none⟩) (Kd.S_far (p := ⟨gb176, 2, none⟩) (Kd.S_far (p := ⟨gb176, 1, none⟩) (Kd.S_far (p := ⟨gb176, 0, none⟩) (Kd.S_types HO_51.out BK176.out (by decide)) (fun _ hk => hk.2) (.int .i64 t194)) (fun _ hk => hk.2) (.slice Ao40 t195.length co40)) (fun _ hk => hk.2) (.int .i64 t198)) (fun _ hk => hk.2) (.bool t199)) (fun _ hk => hk.2) (.int .i64 t200)) (fun _ hk => hk.1.1)⟩, ⟨Kd.V_mono (ok := fun k_ => (w.heap.size ≤ k_) ∧ (some k_ ≠ (.slice (some ad192) y189.length co23 : Value).ownBlock ∧ (k_ ≠ gb176 ∧ (k_ ≠ gb177 ∧ k_ ≠ gb178)))) (Kd.S_V (by (with_reducible repeat (first | apply Kd.S_alloc | apply Kd.S_drewN | apply Kd.S_drew)); exact Kd.S_mono (Kd.S_far (p := ⟨gb176, 4, none⟩) (Kd.S_far (p := ⟨gb176, 3, none⟩) (Kd.S_far (p := ⟨gb176, 2, none⟩) (Kd.S_far (p := ⟨gb176, 1, none⟩) (Kd.S_far (p := ⟨gb176, 0, none⟩) (Kd.S_types (Kd.S_types (Kd.S_types (Kd.S_types (Kd.S_apart' HO197.out (Kd.S_typed HO_51.out) (by decide)) BK176.out (by decide)) BK177.out (by decide)) BK178.out (by decide)) BK176.out (by decide)) (fun _ hk => hk.2) (.int .i64 t194)) (fun _ hk => hk.2) (.slice Ao40 t195.length co40)) (fun _ hk => hk.2) (.int .i64 t198)) (fun _ hk => hk.2) (.bool t199)) (fun _ hk => hk.2) (.int .i64 t200)) (fun _ hk => ⟨hk.1.1.1.1.1.1.1, ⟨hk.1.1.1.1.2, ⟨hk.1.1.1.2, ⟨hk.1.1.2, hk.1.2⟩⟩⟩⟩))) (fun k_ hk => by first | exact ⟨(.inr (hk.1)), hk.2⟩ | exact (.inr (hk)))⟩, ⟨by (with_reducible repeat (first | refine blk_drewN ?_ _ | refine blk_drew ?_ | refine blk_alloc ?_ _)); refine blk_put (cs := #[.int .i64 t194, .slice Ao40 t195.length co40, .int .i64 t198, .bool t199, .int .i64 x177004_1]) ?_ 4 _ rfl; (with_reducible repeat (first | refine blk_drewN ?_ _ | refine blk_drew ?_ | refine blk_alloc ?_ _)); refine blk_put (cs := #[.int .i64 t194, .slice Ao40 t195.length co40, .int .i64 t198, .bool x177003_1, .int .i64 x177004_1]) ?_ 3 _ rfl; (with_reducible repeat (first | refine blk_drewN ?_ _ | refine blk_drew ?_ | refine blk_alloc ?_ _)); refine blk_put (cs := #[.int .i64 t194, .slice Ao40 t195.length co40, .int .i64 x177002_1, .bool x177003_1, .int .i64 x177004_1]) ?_ 2 _ rfl; (with_reducible repeat (first | refine blk_drewN ?_ _ | refine blk_drew ?_ | refine blk_alloc ?_ _)); refine blk_put (cs := #[.int .i64 t194, .slice Ao37 x177001_1.length co37, .int .i64 x177002_1, .bool x177003_1, .int .i64 x177004_1]) ?_ 1 _ rfl; (with_reducible repeat (first | refine blk_drewN ?_ _ | refine blk_drew ?_ | refine blk_alloc ?_ _)); refine blk_put (cs := #[.int .i64 x177000_1, .slice Ao37 x177001_1.length co37, .int .i64 x177002_1, .bool x177003_1, .int .i64 x177004_1]) ?_ 0 _ rfl; (with_reducible repeat (first | refine blk_drewN ?_ _ | refine blk_drew ?_ | refine blk_alloc ?_ _)); exact BK176.out⟩, ⟨by (with_reducible repeat (first | refine blk_drewN ?_ _ | refine blk_drew ?_ | refine blk_alloc ?_ _)); refine blk_far ?_ NB177_176.out _; (with_reducible repeat (first | refine blk_drewN ?_ _ | refine blk_drew ?_ | refine blk_alloc ?_ _)); refine blk_far ?_ NB177_176.out _; (with_reducible repeat (first | refine blk_drewN ?_ _ | refine blk_drew ?_ | refine blk_alloc ?_ _)); refine blk_far ?_ NB177_176.out _; (with_reducible repeat (first | refine blk_drewN ?_ _ | refine blk_drew ?_ | refine blk_alloc ?_ _)); refine blk_far ?_ NB177_176.out _; (with_reducible repeat (first | refine blk_drewN ?_ _ | refine blk_drew ?_ | refine blk_alloc ?_ _)); refine blk_far ?_ NB177_176.out _; (with_reducible repeat (first | refine blk_drewN ?_ _ | refine blk_drew ?_ | refine blk_alloc ?_ _)); exact BK177.out⟩, ⟨by (with_reducible repeat (first | refine blk_drewN ?_ _ | refine blk_drew ?_ | refine blk_alloc ?_ _)); refine blk_far ?_ NB178_176.out _; (with_reducible repeat (first | refine blk_drewN ?_ _ | refine blk_drew ?_ | refine blk_alloc ?_ _)); refine blk_far ?_ NB178_176.out _; (with_reducible repeat (first | refine blk_drewN ?_ _ | refine blk_drew ?_ | refine blk_alloc ?_ _)); refine blk_far ?_ NB178_176.out _; (with_reducible repeat (first | refine blk_drewN ?_ _ | refine blk_drew ?_ | refine blk_alloc ?_ _)); refine blk_far ?_ NB178_176.out _; (with_reducible repeat (first | refine blk_drewN ?_ _ | refine blk_drew ?_ | refine blk_alloc ?_ _)); refine blk_far ?_ NB178_176.out _; (with_reducible repeat (first | refine blk_drewN ?_ _ | refine blk_drew ?_ | refine blk_alloc ?_ _)); exact BK178.out⟩, ⟨by repeat (first | (with_reducible first | exact HB.out | apply below_alloc | apply pw_below_drewN | apply below_drew1 | refine below_set ?_ GE176.out | refine below_set ?_ GE177.out | refine below_set ?_ GE178.out | refine below_set ?_ GE193.out) | exact HB.out)⟩⟩
           ·exact absurd (dev_Do_ok A27.out) c28
          ·rw [if_neg c26] at H
           exact absurd H (by simp)
         ·rw [if_neg c25] at H
          exact absurd H (by simp)
        ·rw [if_neg c24] at H
         have c24b0 : decide (x53_1 < (y189.length : Int)) = false := decide_eq_false c24
         clear c24
         simp only [Option.some.injEq, Prod.mk.injEq] at H
         obtain ⟨rfl, rfl, rfl, rfl, rfl, rfl, rfl⟩ := H
         have hnb55 := NB176_177.out
         have hnc55 := NB177_176.out
         have hnb56 := NB176_178.out
         have hnc56 := NB178_176.out
         have hcz57_0 : wr.cell? ⟨gb176, 0, none⟩ = some (.int .i64 x177000_1) := (blk_cell BK176.out 0).trans rfl
         have hcz57_1 : wr.cell? ⟨gb176, 1, none⟩ = some (u177001) := (blk_cell BK176.out 1).trans rfl
         have hcz57_2 : wr.cell? ⟨gb176, 2, none⟩ = some (.int .i64 x177002_1) := (blk_cell BK176.out 2).trans rfl
         have hcz57_3 : wr.cell? ⟨gb176, 3, none⟩ = some (.bool x177003_1) := (blk_cell BK176.out 3).trans rfl
         have hcz57_4 : wr.cell? ⟨gb176, 4, none⟩ = some (.int .i64 x177004_1) := (blk_cell BK176.out 4).trans rfl
         have hfz57_0 := blk_frozen BK176.out 0
         have hfz57_1 := blk_frozen BK176.out 1
         have hfz57_2 := blk_frozen BK176.out 2
         have hfz57_3 := blk_frozen BK176.out 3
         have hfz57_4 := blk_frozen BK176.out 4
         have hnb58 := NB178_177.out
         have hnc58 := NB177_178.out
         have hcz59_0 : wr.cell? ⟨gb178, 0, none⟩ = some (.int .i64 0) := (blk_cell BK178.out 0).trans rfl
         have hcz59_1 : wr.cell? ⟨gb178, 1, none⟩ = some (.slice none 0 0) := (blk_cell BK178.out 1).trans rfl
         have hcz59_2 : wr.cell? ⟨gb178, 2, none⟩ = some (.int .i64 0) := (blk_cell BK178.out 2).trans rfl
         have hcz59_3 : wr.cell? ⟨gb178, 3, none⟩ = some (.bool false) := (blk_cell BK178.out 3).trans rfl
         have hcz59_4 : wr.cell? ⟨gb178, 4, none⟩ = some (.int .i64 0) := (blk_cell BK178.out 4).trans rfl
         have hfz59_0 := blk_frozen BK178.out 0
         have hfz59_1 := blk_frozen BK178.out 1
         have hfz59_2 := blk_frozen BK178.out 2
         have hfz59_3 := blk_frozen BK178.out 3
         have hfz59_4 := blk_frozen BK178.out 4
         obtain ⟨Ao60, co60, eo60⟩ := Kd.V_slice HO_177001.out
         subst eo60
         have mark_ : True := trivial
         iterate 3 (try ((first | clear mark_ | go_step3); go_wp2))
         (try simp only [Exit.inBlock, Exit.then])
         (try rw [Exit.noGoto_ret])
         refine bodyPost_ret (results_ctt rfl _ _ gb178 27 #[.int .i64 x177000_1, .slice Ao60 x177001_1.length co60, .int .i64 x177002_1, .bool x177003_1, .int .i64 x177004_1] (0, 0) _ rfl (by (with_reducible repeat (first | refine blk_drewN ?_ _ | refine blk_drew ?_ | refine blk_alloc ?_ _)); refine blk_put (cs := #[.int .i64 x177000_1, .slice Ao60 x177001_1.length co60, .int .i64 x177002_1, .bool x177003_1, .int .i64 0]) ?_ 4 _ rfl; (with_reducible repeat (first | refine blk_drewN ?_ _ | refine blk_drew ?_ | refine blk_alloc ?_ _)); refine blk_put (cs := #[.int .i64 x177000_1, .slice Ao60 x177001_1.length co60, .int .i64 x177002_1, .bool false, .int .i64 0]) ?_ 3 _ rfl; (with_reducible repeat (first | refine blk_drewN ?_ _ | refine blk_drew ?_ | refine blk_alloc ?_ _)); refine blk_put (cs := #[.int .i64 x177000_1, .slice Ao60 x177001_1.length co60, .int .i64 0, .bool false, .int .i64 0]) ?_ 2 _ rfl; (with_reducible repeat (first | refine blk_drewN ?_ _ | refine blk_drew ?_ | refine blk_alloc ?_ _)); refine blk_put (cs := #[.int .i64 x177000_1, .slice none 0 0, .int .i64 0, .bool false, .int .i64 0]) ?_ 1 _ rfl; (with_reducible repeat (first | refine blk_drewN ?_ _ | refine blk_drew ?_ | refine blk_alloc ?_ _)); refine blk_put (cs := #[.int .i64 0, .slice none 0 0, .int .i64 0, .bool false, .int .i64 0]) ?_ 0 _ rfl; (with_reducible repeat (first | refine blk_drewN ?_ _ | refine blk_drew ?_ | refine blk_alloc ?_ _)); exact BK178.out) Try.underlying27 rfl (by kernel_rfl)) rfl ?_
         exact ⟨_, by first | rfl | (simp [errW_none, errW_some] <;> rfl) | (simp [*, errW_none, errW_some] <;> rfl), by (with_reducible repeat (first | apply Kd.V_alloc | apply Kd.V_drewN | apply Kd.V_drew)); exact Kd.V_mono (Kd.V_far (p := ⟨gb178, 4, none⟩) (Kd.V_far (p := ⟨gb178, 3, none⟩) (Kd.V_far (p := ⟨gb178, 2, none⟩) (Kd.V_far (p := ⟨gb178, 1, none⟩) (Kd.V_far (p := ⟨gb178, 0, none⟩) (Kd.V_mono HO_177001.out (fun k_ hk => (⟨hk, hk.2.2.2.2⟩ : _ ∧ k_ ≠ gb178))) (fun _ hk => hk.2) (.int .i64 x177000_1)) (fun _ hk => hk.2) (.slice Ao60 x177001_1.length co60)) (fun _ hk => hk.2) (.int .i64 x177002_1)) (fun _ hk => hk.2) (.bool x177003_1)) (fun _ hk => hk.2) (.int .i64 x177004_1)) (fun _ hk => hk.1.1), by repeat (first | (with_reducible first | exact HB.out | apply below_alloc | apply pw_below_drewN | apply below_drew1 | refine below_set ?_ GE176.out | refine below_set ?_ GE177.out | refine below_set ?_ GE178.out) | exact HB.out)⟩
     ·rw [if_neg c9] at H
      exact absurd H (by simp)
    ·rw [if_neg c8] at H
     exact absurd H (by simp)
   ·rw [if_neg c7] at H
    exact absurd H (by simp)
  ·rw [if_neg c6] at H
   have c6b0 : (t187 == 0) = false := beq_eq_false_iff_ne.mpr c6
   have c6b1 : (t187 != 0) = true := bne_iff_ne.mpr c6
   simp only [Option.some.injEq, Prod.mk.injEq] at H
   obtain ⟨rfl, rfl, rfl, rfl, rfl, rfl, rfl⟩ := H
   go_enter Try.func38, Try.ntmps38
   have mark_ : True := trivial
   iterate 3 (try ((first | clear mark_ | go_step3); go_wp2_with (first | ((with_reducible refine gate_dst (N := 2) rfl ?_); refine box_event ?hg (N := 2) ?hd (cs := #[.int .i64 a0_0, .slice A0_1 l0_1.length c0_1, .int .i64 a0_2, .bool a0_3, .int .i64 a0_4]) (t := 27) ?hr ?_; (case hd => rfl); (case hg => rfl); (case hr => first | (go_simp; done) | (go_simp; rfl)); intro gb176 hg w61 hbox hb; have n0_ := Aside0.mk (Kd.V_below (Kd.V_elderB (by (with_reducible repeat (first | apply Kd.V_alloc | apply Kd.V_drewN | apply Kd.V_drew)); exact HO0_1.out) gb176 (Nat.le_of_eq hg.symm)) hb); have n1_ := Aside0.mk (below_step (by repeat (first | (with_reducible first | exact HB.out | apply below_alloc | apply pw_below_drewN | apply below_drew1) | exact HB.out)) hb); have n2_ := Aside0.mk (hbox); have n3_ := Aside0.mk ((by rw [hg]; exact (below_size (by repeat (first | (with_reducible first | exact HB.out | apply below_alloc | apply pw_below_drewN | apply below_drew1) | exact HB.out))) : w.heap.size ≤ gb176)); have n4_ := Aside0.mk ((by rw [hg]; exact (below_size (by repeat (first | (with_reducible first | exact HB.out | apply below_alloc | apply pw_below_drewN | apply below_drew1) | exact HB.out))) : w.heap.size ≤ gb176)); clear HO0_1; clear HB; have HO0_1 := n0_; have HB := n1_; have BK176 := n2_; have GW176 := n3_; have GE176 := n4_; clear n0_ n1_ n2_ n3_ n4_; clear hb hbox hg) | ((with_reducible refine gate_dst (N := 3) rfl ?_); refine box_event ?hg (N := 3) ?hd (cs := #[.int .i64 a1_0, .int .i64 a1_1, .slice A1_2 l1_2.length c1_2]) (t := 36) ?hr ?_; (case hd => rfl); (case hg => rfl); (case hr => first | (go_simp; done) | (go_simp; rfl)); intro gb177 hg w62 hbox hb; have n0_ := Aside0.mk (Kd.V_below (Kd.V_elderB (by (with_reducible repeat (first | apply Kd.V_alloc | apply Kd.V_drewN | apply Kd.V_drew)); exact HO0_1.out) gb177 (Nat.le_of_eq hg.symm)) hb); have n1_ := Aside0.mk (blk_below (g := gb176) (o := .cells #[.int .i64 a0_0, .slice A0_1 l0_1.length c0_1, .int .i64 a0_2, .bool a0_3, .int .i64 a0_4] 27 (0, 0)) (by (with_reducible repeat (first | refine blk_drewN ?_ _ | refine blk_drew ?_ | refine blk_alloc ?_ _)); exact BK176.out) hb); have n2_ := Aside0.mk (below_step (by repeat (first | (with_reducible first | exact HB.out | apply below_alloc | apply pw_below_drewN | apply below_drew1 | refine below_set ?_ GE176.out) | exact HB.out)) hb); have n3_ := Aside0.mk (hbox); have n4_ := Aside0.mk ((by rw [hg]; exact (below_size (by repeat (first | (with_reducible first | exact HB.out | apply below_alloc | apply pw_below_drewN | apply below_drew1 | refine below_set ?_ GE176.out) | exact HB.out))) : w.heap.size ≤ gb177)); have n5_ := Aside0.mk ((by rw [hg]; exact (below_size (by repeat (first | (with_reducible first | exact HB.out | apply below_alloc | apply pw_below_drewN | apply below_drew1 | refine below_set ?_ GE176.out) | exact HB.out))) : w.heap.size ≤ gb177)); have n6_ := Aside0.mk ((by rw [hg]; exact Nat.ne_of_lt (blk_lt (g := gb176) (o := .cells #[.int .i64 a0_0, .slice A0_1 l0_1.length c0_1, .int .i64 a0_2, .bool a0_3, .int .i64 a0_4] 27 (0, 0)) (by (with_reducible repeat (first | refine blk_drewN ?_ _ | refine blk_drew ?_ | refine blk_alloc ?_ _)); exact BK176.out)) : gb176 ≠ gb177)); have n7_ := Aside0.mk ((by rw [hg]; exact Nat.ne_of_gt (blk_lt (g := gb176) (o := .cells #[.int .i64 a0_0, .slice A0_1 l0_1.length c0_1, .int .i64 a0_2, .bool a0_3, .int .i64 a0_4] 27 (0, 0)) (by (with_reducible repeat (first | refine blk_drewN ?_ _ | refine blk_drew ?_ | refine blk_alloc ?_ _)); exact BK176.out)) : gb177 ≠ gb176)); clear HO0_1; clear BK176; clear HB; have HO0_1 := n0_; have BK176 := n1_; have HB := n2_; have BK177 := n3_; have GW177 := n4_; have GE177 := n5_; have NB176_177 := n6_; have NB177_176 := n7_; clear n0_ n1_ n2_ n3_ n4_ n5_ n6_ n7_; clear hb hbox hg) | ((with_reducible refine gate_dst (N := 4) rfl ?_); refine box_event ?hg (N := 4) ?hd (cs := #[.int .i64 0, .slice none 0 0, .int .i64 0, .bool false, .int .i64 0]) (t := 27) ?hr ?_; (case hd => rfl); (case hg => rfl); (case hr => first | (go_simp; done) | (go_simp; rfl)); intro gb178 hg w63 hbox hb; have n0_ := Aside0.mk (Kd.V_below (Kd.V_elderB (by (with_reducible repeat (first | apply Kd.V_alloc | apply Kd.V_drewN | apply Kd.V_drew)); exact HO0_1.out) gb178 (Nat.le_of_eq hg.symm)) hb); have n1_ := Aside0.mk (blk_below (g := gb176) (o := .cells #[.int .i64 a0_0, .slice A0_1 l0_1.length c0_1, .int .i64 a0_2, .bool a0_3, .int .i64 a0_4] 27 (0, 0)) (by (with_reducible repeat (first | refine blk_drewN ?_ _ | refine blk_drew ?_ | refine blk_alloc ?_ _)); exact BK176.out) hb); have n2_ := Aside0.mk (blk_below (g := gb177) (o := .cells #[.int .i64 a1_0, .int .i64 a1_1, .slice A1_2 l1_2.length c1_2] 36 (0, 0)) (by (with_reducible repeat (first | refine blk_drewN ?_ _ | refine blk_drew ?_ | refine blk_alloc ?_ _)); exact BK177.out) hb); have n3_ := Aside0.mk (below_step (by repeat (first | (with_reducible first | exact HB.out | apply below_alloc | apply pw_below_drewN | apply below_drew1 | refine below_set ?_ GE176.out | refine below_set ?_ GE177.out) | exact HB.out)) hb); have n4_ := Aside0.mk (hbox); have n5_ := Aside0.mk ((by rw [hg]; exact (below_size (by repeat (first | (with_reducible first | exact HB.out | apply below_alloc | apply pw_below_drewN | apply below_drew1 | refine below_set ?_ GE176.out | refine below_set ?_ GE177.out) | exact HB.out))) : w.heap.size ≤ gb178)); have n6_ := Aside0.mk ((by rw [hg]; exact (below_size (by repeat (first | (with_reducible first | exact HB.out | apply below_alloc | apply pw_below_drewN | apply below_drew1 | refine below_set ?_ GE176.out | refine below_set ?_ GE177.out) | exact HB.out))) : w.heap.size ≤ gb178)); have n7_ := Aside0.mk ((by rw [hg]; exact Nat.ne_of_lt (blk_lt (g := gb176) (o := .cells #[.int .i64 a0_0, .slice A0_1 l0_1.length c0_1, .int .i64 a0_2, .bool a0_3, .int .i64 a0_4] 27 (0, 0)) (by (with_reducible repeat (first | refine blk_drewN ?_ _ | refine blk_drew ?_ | refine blk_alloc ?_ _)); exact BK176.out)) : gb176 ≠ gb178)); have n8_ := Aside0.mk ((by rw [hg]; exact Nat.ne_of_gt (blk_lt (g := gb176) (o := .cells #[.int .i64 a0_0, .slice A0_1 l0_1.length c0_1, .int .i64 a0_2, .bool a0_3, .int .i64 a0_4] 27 (0, 0)) (by (with_reducible repeat (first | refine blk_drewN ?_ _ | refine blk_drew ?_ | refine blk_alloc ?_ _)); exact BK176.out)) : gb178 ≠ gb176)); have n9_ := Aside0.mk ((by rw [hg]; exact Nat.ne_of_lt (blk_lt (g := gb177) (o := .cells #[.int .i64 a1_0, .int .i64 a1_1, .slice A1_2 l1_2.length c1_2] 36 (0, 0)) (by (with_reducible repeat (first | refine blk_drewN ?_ _ | refine blk_drew ?_ | refine blk_alloc ?_ _)); exact BK177.out)) : gb177 ≠ gb178)); have n10_ := Aside0.mk ((by rw [hg]; exact Nat.ne_of_gt (blk_lt (g := gb177) (o := .cells #[.int .i64 a1_0, .int .i64 a1_1, .slice A1_2 l1_2.length c1_2] 36 (0, 0)) (by (with_reducible repeat (first | refine blk_drewN ?_ _ | refine blk_drew ?_ | refine blk_alloc ?_ _)); exact BK177.out)) : gb178 ≠ gb177)); clear HO0_1; clear BK176; clear BK177; clear HB; have HO0_1 := n0_; have BK176 := n1_; have BK177 := n2_; have HB := n3_; have BK178 := n4_; have GW178 := n5_; have GE178 := n6_; have NB176_178 := n7_; have NB178_176 := n8_; have NB177_178 := n9_; have NB178_177 := n10_; clear n0_ n1_ n2_ n3_ n4_ n5_ n6_ n7_ n8_ n9_ n10_; clear hb hbox hg; have hnb64 := NB177_176.out; have hnc64 := NB176_177.out; have hnb65 := NB177_178.out; have hnc65 := NB178_177.out; have hcz66_0 : w63.cell? ⟨gb177, 0, none⟩ = some (.int .i64 a1_0) := (blk_cell BK177.out 0).trans rfl; have hcz66_1 : w63.cell? ⟨gb177, 1, none⟩ = some (.int .i64 a1_1) := (blk_cell BK177.out 1).trans rfl; have hcz66_2 : w63.cell? ⟨gb177, 2, none⟩ = some (.slice A1_2 l1_2.length c1_2) := (blk_cell BK177.out 2).trans rfl; have hfz66_0 := blk_frozen BK177.out 0; have hfz66_1 := blk_frozen BK177.out 1; have hfz66_2 := blk_frozen BK177.out 2) | ((with_reducible refine gate_callee (f := 27) rfl ?_); refine goesL_ (some 16) rfl rfl Try.func27 (by kernel_rfl) rfl #[.agg #[.int .i64 a1_0, .int .i64 a1_1, .slice A1_2 l1_2.length c1_2]] rfl (by (try simp only [List.map_toArray, List.map_cons, List.map_nil]); first | done | rfl | (simp only [List.length_drop, List.length_take]; rfl)) ?_; (with_reducible refine (record_Write.calls k a1_0 a1_1 _ _ l1_2 t179 t182 _ ?side1 ?side2 A3.out).mono ?_); (case side1 => repeat (first | exact (Kd.C_below HR1_2.out HB.out) | (with_reducible refine Kd.C_alloc ?_ _) | (with_reducible refine Kd.C_drewN ?_ _) | (with_reducible refine Kd.C_drew ?_))); (case side2 => exact HC1_2.out); rintro e w67 ⟨v180, rfl, ho0, hb⟩; refine ⟨_, rfl, ?_⟩; have n0_ := Aside0.mk (Kd.V_elder' (by (with_reducible repeat (first | apply Kd.V_alloc | apply Kd.V_drewN | apply Kd.V_drew)); exact HO0_1.out) (Kd.R_base ho0) hb); have n1_ := Aside0.mk (Kd.R_lower (Kd.R_newM (M := fun k_ => (w.heap.size ≤ k_)) ho0 (below_size (by repeat (first | (with_reducible first | exact HB.out | apply below_alloc | apply pw_below_drewN | apply below_drew1 | refine below_set ?_ GE176.out | refine below_set ?_ GE177.out | refine below_set ?_ GE178.out) | exact HB.out))) (fun k_ h_ => h_)) (below_size (by repeat (first | (with_reducible first | exact HB.out | apply below_alloc | apply pw_below_drewN | apply below_drew1 | refine below_set ?_ GE176.out | refine below_set ?_ GE177.out | refine below_set ?_ GE178.out) | exact HB.out)))); have n2_ := Aside0.mk (blk_below (g := gb176) (o := .cells #[.int .i64 a0_0, .slice A0_1 l0_1.length c0_1, .int .i64 a0_2, .bool a0_3, .int .i64 a0_4] 27 (0, 0)) (by (with_reducible repeat (first | refine blk_drewN ?_ _ | refine blk_drew ?_ | refine blk_alloc ?_ _)); exact BK176.out) hb); have n3_ := Aside0.mk (blk_below (g := gb177) (o := .cells #[.int .i64 a1_0, .int .i64 a1_1, .slice A1_2 l1_2.length c1_2] 36 (0, 0)) (by (with_reducible repeat (first | refine blk_drewN ?_ _ | refine blk_drew ?_ | refine blk_alloc ?_ _)); exact BK177.out) hb); have n4_ := Aside0.mk (blk_below (g := gb178) (o := .cells #[.int .i64 0, .slice none 0 0, .int .i64 0, .bool false, .int .i64 0] 27 (0, 0)) (by (with_reducible repeat (first | refine blk_drewN ?_ _ | refine blk_drew ?_ | refine blk_alloc ?_ _)); exact BK178.out) hb); have n5_ := Aside0.mk (below_step (by repeat (first | (with_reducible first | exact HB.out | apply below_alloc | apply pw_below_drewN | apply below_drew1 | refine below_set ?_ GE176.out | refine below_set ?_ GE177.out | refine below_set ?_ GE178.out) | exact HB.out)) hb); clear HO0_1; clear BK176; clear BK177; clear BK178; clear HB; have HO0_1 := n0_; have HO181 := n1_; have BK176 := n2_; have BK177 := n3_; have BK178 := n4_; have HB := n5_; clear n0_ n1_ n2_ n3_ n4_ n5_; (try clear hb); (try clear hb2); (try clear hk); (try clear hi); (try clear ho0); have hnb68 := NB176_178.out; have hnc68 := NB178_176.out; have hcz69_0 : w67.cell? ⟨gb176, 0, none⟩ = some (.int .i64 a0_0) := (blk_cell BK176.out 0).trans rfl; have hcz69_1 : w67.cell? ⟨gb176, 1, none⟩ = some (.slice A0_1 l0_1.length c0_1) := (blk_cell BK176.out 1).trans rfl; have hcz69_2 : w67.cell? ⟨gb176, 2, none⟩ = some (.int .i64 a0_2) := (blk_cell BK176.out 2).trans rfl; have hcz69_3 : w67.cell? ⟨gb176, 3, none⟩ = some (.bool a0_3) := (blk_cell BK176.out 3).trans rfl; have hcz69_4 : w67.cell? ⟨gb176, 4, none⟩ = some (.int .i64 a0_4) := (blk_cell BK176.out 4).trans rfl; have hfz69_0 := blk_frozen BK176.out 0; have hfz69_1 := blk_frozen BK176.out 1; have hfz69_2 := blk_frozen BK176.out 2; have hfz69_3 := blk_frozen BK176.out 3; have hfz69_4 := blk_frozen BK176.out 4; obtain ⟨Ao70, co70, eo70⟩ := Kd.R_slice HO181.out; subst eo70) | ((with_reducible refine gate_callee (f := 41) rfl ?_); refine goesL_ (some 27) rfl rfl Try.func41 (by kernel_rfl) rfl #[.agg #[.int .i64 a0_0, .slice A0_1 l0_1.length c0_1, .int .i64 a0_2, .bool a0_3, .int .i64 a0_4], .int .i64 (t179.length : Int)] rfl (by (try simp only [List.map_toArray, List.map_cons, List.map_nil]); first | done | rfl | (simp only [List.length_drop, List.length_take]; rfl)) ?_; (with_reducible refine (log_Place.calls k a0_0 _ _ l0_1 a0_2 a0_3 a0_4 (t179.length : Int) t183 t184 t187 _ ?side1 ?side2 A5.out).mono ?_); (case side1 => repeat (first | exact (Kd.V_reads' HO0_1.out).2.2 | (with_reducible refine Kd.C_alloc ?_ _) | (with_reducible refine Kd.C_drewN ?_ _) | (with_reducible refine Kd.C_drew ?_))); (case side2 => exact (Kd.V_reads' HO0_1.out).2.1); rintro e w71 ⟨v185, rfl, ho0, hb⟩; refine ⟨_, rfl, ?_⟩; have n0_ := Aside0.mk (Kd.V_elder' (by (with_reducible repeat (first | apply Kd.V_alloc | apply Kd.V_drewN | apply Kd.V_drew)); exact HO0_1.out) (Kd.S_base ho0) hb); have n1_ := Aside0.mk (Kd.R_below (by (with_reducible repeat (first | apply Kd.R_alloc | apply Kd.R_drewN | apply Kd.R_drew)); exact HO181.out) hb); have n2_ := Aside0.mk (Kd.S_lower (Kd.S_new' (Kd.S_newM (M := fun k_ => (w.heap.size ≤ k_)) ho0 (below_size (by repeat (first | (with_reducible first | exact HB.out | apply below_alloc | apply pw_below_drewN | apply below_drew1 | refine below_set ?_ GE176.out | refine below_set ?_ GE177.out | refine below_set ?_ GE178.out) | exact HB.out))) (fun k_ h_ => h_)) (Kd.R_lt (by (with_reducible repeat (first | apply Kd.R_alloc | apply Kd.R_drewN | apply Kd.R_drew)); exact HO181.out))) (below_size (by repeat (first | (with_reducible first | exact HB.out | apply below_alloc | apply pw_below_drewN | apply below_drew1 | refine below_set ?_ GE176.out | refine below_set ?_ GE177.out | refine below_set ?_ GE178.out) | exact HB.out)))); have n3_ := Aside0.mk (blk_below (g := gb176) (o := .cells #[.int .i64 a0_0, .slice A0_1 l0_1.length c0_1, .int .i64 a0_2, .bool a0_3, .int .i64 a0_4] 27 (0, 0)) (by (with_reducible repeat (first | refine blk_drewN ?_ _ | refine blk_drew ?_ | refine blk_alloc ?_ _)); exact BK176.out) hb); have n4_ := Aside0.mk (blk_below (g := gb177) (o := .cells #[.int .i64 a1_0, .int .i64 a1_1, .slice A1_2 l1_2.length c1_2] 36 (0, 0)) (by (with_reducible repeat (first | refine blk_drewN ?_ _ | refine blk_drew ?_ | refine blk_alloc ?_ _)); exact BK177.out) hb); have n5_ := Aside0.mk (blk_below (g := gb178) (o := .cells #[.int .i64 0, .slice none 0 0, .int .i64 0, .bool false, .int .i64 0] 27 (0, 0)) (by (with_reducible repeat (first | refine blk_drewN ?_ _ | refine blk_drew ?_ | refine blk_alloc ?_ _)); exact BK178.out) hb); have n6_ := Aside0.mk (below_step (by repeat (first | (with_reducible first | exact HB.out | apply below_alloc | apply pw_below_drewN | apply below_drew1 | refine below_set ?_ GE176.out | refine below_set ?_ GE177.out | refine below_set ?_ GE178.out) | exact HB.out)) hb); clear HO0_1; clear HO181; clear BK176; clear BK177; clear BK178; clear HB; have HO0_1 := n0_; have HO181 := n1_; have HO186 := n2_; have BK176 := n3_; have BK177 := n4_; have BK178 := n5_; have HB := n6_; clear n0_ n1_ n2_ n3_ n4_ n5_ n6_; (try clear hb); (try clear hb2); (try clear hk); (try clear hi); (try clear ho0); have hcz72_0 : w71.cell? ⟨gb176, 0, none⟩ = some (.int .i64 a0_0) := (blk_cell BK176.out 0).trans rfl; have hcz72_1 : w71.cell? ⟨gb176, 1, none⟩ = some (.slice A0_1 l0_1.length c0_1) := (blk_cell BK176.out 1).trans rfl; have hcz72_2 : w71.cell? ⟨gb176, 2, none⟩ = some (.int .i64 a0_2) := (blk_cell BK176.out 2).trans rfl; have hcz72_3 : w71.cell? ⟨gb176, 3, none⟩ = some (.bool a0_3) := (blk_cell BK176.out 3).trans rfl; have hcz72_4 : w71.cell? ⟨gb176, 4, none⟩ = some (.int .i64 a0_4) := (blk_cell BK176.out 4).trans rfl; have hfz72_0 := blk_frozen BK176.out 0; have hfz72_1 := blk_frozen BK176.out 1; have hfz72_2 := blk_frozen BK176.out 2; have hfz72_3 := blk_frozen BK176.out 3; have hfz72_4 := blk_frozen BK176.out 4; have hcz73_0 : w71.cell? ⟨gb178, 0, none⟩ = some (.int .i64 0) := (blk_cell BK178.out 0).trans rfl; have hcz73_1 : w71.cell? ⟨gb178, 1, none⟩ = some (.slice none 0 0) := (blk_cell BK178.out 1).trans rfl; have hcz73_2 : w71.cell? ⟨gb178, 2, none⟩ = some (.int .i64 0) := (blk_cell BK178.out 2).trans rfl; have hcz73_3 : w71.cell? ⟨gb178, 3, none⟩ = some (.bool false) := (blk_cell BK178.out 3).trans rfl; have hcz73_4 : w71.cell? ⟨gb178, 4, none⟩ = some (.int .i64 0) := (blk_cell BK178.out 4).trans rfl; have hfz73_0 := blk_frozen BK178.out 0; have hfz73_1 := blk_frozen BK178.out 1; have hfz73_2 := blk_frozen BK178.out 2; have hfz73_3 := blk_frozen BK178.out 3; have hfz73_4 := blk_frozen BK178.out 4))))
   (try simp only [Exit.inBlock, Exit.then])
   (try rw [Exit.noGoto_ret])
   refine bodyPost_ret (results_ctt rfl _ _ gb178 27 #[.int .i64 a0_0, .slice A0_1 l0_1.length c0_1, .int .i64 a0_2, .bool a0_3, .int .i64 a0_4] (0, 0) _ rfl (by (with_reducible repeat (first | refine blk_drewN ?_ _ | refine blk_drew ?_ | refine blk_alloc ?_ _)); refine blk_put (cs := #[.int .i64 a0_0, .slice A0_1 l0_1.length c0_1, .int .i64 a0_2, .bool a0_3, .int .i64 0]) ?_ 4 _ rfl; (with_reducible repeat (first | refine blk_drewN ?_ _ | refine blk_drew ?_ | refine blk_alloc ?_ _)); refine blk_put (cs := #[.int .i64 a0_0, .slice A0_1 l0_1.length c0_1, .int .i64 a0_2, .bool false, .int .i64 0]) ?_ 3 _ rfl; (with_reducible repeat (first | refine blk_drewN ?_ _ | refine blk_drew ?_ | refine blk_alloc ?_ _)); refine blk_put (cs := #[.int .i64 a0_0, .slice A0_1 l0_1.length c0_1, .int .i64 0, .bool false, .int .i64 0]) ?_ 2 _ rfl; (with_reducible repeat (first | refine blk_drewN ?_ _ | refine blk_drew ?_ | refine blk_alloc ?_ _)); refine blk_put (cs := #[.int .i64 a0_0, .slice none 0 0, .int .i64 0, .bool false, .int .i64 0]) ?_ 1 _ rfl; (with_reducible repeat (first | refine blk_drewN ?_ _ | refine blk_drew ?_ | refine blk_alloc ?_ _)); refine blk_put (cs := #[.int .i64 0, .slice none 0 0, .int .i64 0, .bool false, .int .i64 0]) ?_ 0 _ rfl; (with_reducible repeat (first | refine blk_drewN ?_ _ | refine blk_drew ?_ | refine blk_alloc ?_ _)); exact BK178.out) Try.underlying27 rfl (by kernel_rfl)) rfl ?_
   exact ⟨_, by first | rfl | (simp [errW_none, errW_some] <;> rfl) | (simp [*, errW_none, errW_some] <;> rfl), by (with_reducible repeat (first | apply Kd.V_alloc | apply Kd.V_drewN | apply Kd.V_drew)); exact Kd.V_mono (Kd.V_far (p := ⟨gb178, 4, none⟩) (Kd.V_far (p := ⟨gb178, 3, none⟩) (Kd.V_far (p := ⟨gb178, 2, none⟩) (Kd.V_far (p := ⟨gb178, 1, none⟩) (Kd.V_far (p := ⟨gb178, 0, none⟩) (Kd.V_mono HO0_1.out (fun k_ hk => (⟨hk, hk.1.1.2⟩ : _ ∧ k_ ≠ gb178))) (fun _ hk => hk.2) (.int .i64 a0_0)) (fun _ hk => hk.2) (.slice A0_1 l0_1.length c0_1)) (fun _ hk => hk.2) (.int .i64 a0_2)) (fun _ hk => hk.2) (.bool a0_3)) (fun _ hk => hk.2) (.int .i64 a0_4)) (fun _ hk => hk.1.1.1.1.1.1), by repeat (first | (with_reducible first | exact HB.out | apply below_alloc | apply pw_below_drewN | apply below_drew1 | refine below_set ?_ GE176.out | refine below_set ?_ GE177.out | refine below_set ?_ GE178.out) | exact HB.out)⟩
 ·rw [if_neg c4] at H
  have c4b0 : (t182 == 0) = false := beq_eq_false_iff_ne.mpr c4
  have c4b1 : (t182 != 0) = true := bne_iff_ne.mpr c4
  simp only [Option.some.injEq, Prod.mk.injEq] at H
  obtain ⟨rfl, rfl, rfl, rfl, rfl, rfl, rfl⟩ := H
  go_enter Try.func38, Try.ntmps38
  have mark_ : True := trivial
  iterate 3 (try ((first | clear mark_ | go_step3); go_wp2_with (first | ((with_reducible refine gate_dst (N := 2) rfl ?_); refine box_event ?hg (N := 2) ?hd (cs := #[.int .i64 a0_0, .slice A0_1 l0_1.length c0_1, .int .i64 a0_2, .bool a0_3, .int .i64 a0_4]) (t := 27) ?hr ?_; (case hd => rfl); (case hg => rfl); (case hr => first | (go_simp; done) | (go_simp; rfl)); intro gb176 hg w74 hbox hb; have n0_ := Aside0.mk (Kd.V_below (Kd.V_elderB (by (with_reducible repeat (first | apply Kd.V_alloc | apply Kd.V_drewN | apply Kd.V_drew)); exact HO0_1.out) gb176 (Nat.le_of_eq hg.symm)) hb); have n1_ := Aside0.mk (below_step (by repeat (first | (with_reducible first | exact HB.out | apply below_alloc | apply pw_below_drewN | apply below_drew1) | exact HB.out)) hb); have n2_ := Aside0.mk (hbox); have n3_ := Aside0.mk ((by rw [hg]; exact (below_size (by repeat (first | (with_reducible first | exact HB.out | apply below_alloc | apply pw_below_drewN | apply below_drew1) | exact HB.out))) : w.heap.size ≤ gb176)); have n4_ := Aside0.mk ((by rw [hg]; exact (below_size (by repeat (first | (with_reducible first | exact HB.out | apply below_alloc | apply pw_below_drewN | apply below_drew1) | exact HB.out))) : w.heap.size ≤ gb176)); clear HO0_1; clear HB; have HO0_1 := n0_; have HB := n1_; have BK176 := n2_; have GW176 := n3_; have GE176 := n4_; clear n0_ n1_ n2_ n3_ n4_; clear hb hbox hg) | ((with_reducible refine gate_dst (N := 3) rfl ?_); refine box_event ?hg (N := 3) ?hd (cs := #[.int .i64 a1_0, .int .i64 a1_1, .slice A1_2 l1_2.length c1_2]) (t := 36) ?hr ?_; (case hd => rfl); (case hg => rfl); (case hr => first | (go_simp; done) | (go_simp; rfl)); intro gb177 hg w75 hbox hb; have n0_ := Aside0.mk (Kd.V_below (Kd.V_elderB (by (with_reducible repeat (first | apply Kd.V_alloc | apply Kd.V_drewN | apply Kd.V_drew)); exact HO0_1.out) gb177 (Nat.le_of_eq hg.symm)) hb); have n1_ := Aside0.mk (blk_below (g := gb176) (o := .cells #[.int .i64 a0_0, .slice A0_1 l0_1.length c0_1, .int .i64 a0_2, .bool a0_3, .int .i64 a0_4] 27 (0, 0)) (by (with_reducible repeat (first | refine blk_drewN ?_ _ | refine blk_drew ?_ | refine blk_alloc ?_ _)); exact BK176.out) hb); have n2_ := Aside0.mk (below_step (by repeat (first | (with_reducible first | exact HB.out | apply below_alloc | apply pw_below_drewN | apply below_drew1 | refine below_set ?_ GE176.out) | exact HB.out)) hb); have n3_ := Aside0.mk (hbox); have n4_ := Aside0.mk ((by rw [hg]; exact (below_size (by repeat (first | (with_reducible first | exact HB.out | apply below_alloc | apply pw_below_drewN | apply below_drew1 | refine below_set ?_ GE176.out) | exact HB.out))) : w.heap.size ≤ gb177)); have n5_ := Aside0.mk ((by rw [hg]; exact (below_size (by repeat (first | (with_reducible first | exact HB.out | apply below_alloc | apply pw_below_drewN | apply below_drew1 | refine below_set ?_ GE176.out) | exact HB.out))) : w.heap.size ≤ gb177)); have n6_ := Aside0.mk ((by rw [hg]; exact Nat.ne_of_lt (blk_lt (g := gb176) (o := .cells #[.int .i64 a0_0, .slice A0_1 l0_1.length c0_1, .int .i64 a0_2, .bool a0_3, .int .i64 a0_4] 27 (0, 0)) (by (with_reducible repeat (first | refine blk_drewN ?_ _ | refine blk_drew ?_ | refine blk_alloc ?_ _)); exact BK176.out)) : gb176 ≠ gb177)); have n7_ := Aside0.mk ((by rw [hg]; exact Nat.ne_of_gt (blk_lt (g := gb176) (o := .cells #[.int .i64 a0_0, .slice A0_1 l0_1.length c0_1, .int .i64 a0_2, .bool a0_3, .int .i64 a0_4] 27 (0, 0)) (by (with_reducible repeat (first | refine blk_drewN ?_ _ | refine blk_drew ?_ | refine blk_alloc ?_ _)); exact BK176.out)) : gb177 ≠ gb176)); clear HO0_1; clear BK176; clear HB; have HO0_1 := n0_; have BK176 := n1_; have HB := n2_; have BK177 := n3_; have GW177 := n4_; have GE177 := n5_; have NB176_177 := n6_; have NB177_176 := n7_; clear n0_ n1_ n2_ n3_ n4_ n5_ n6_ n7_; clear hb hbox hg) | ((with_reducible refine gate_dst (N := 4) rfl ?_); refine box_event ?hg (N := 4) ?hd (cs := #[.int .i64 0, .slice none 0 0, .int .i64 0, .bool false, .int .i64 0]) (t := 27) ?hr ?_; (case hd => rfl); (case hg => rfl); (case hr => first | (go_simp; done) | (go_simp; rfl)); intro gb178 hg w76 hbox hb; have n0_ := Aside0.mk (Kd.V_below (Kd.V_elderB (by (with_reducible repeat (first | apply Kd.V_alloc | apply Kd.V_drewN | apply Kd.V_drew)); exact HO0_1.out) gb178 (Nat.le_of_eq hg.symm)) hb); have n1_ := Aside0.mk (blk_below (g := gb176) (o := .cells #[.int .i64 a0_0, .slice A0_1 l0_1.length c0_1, .int .i64 a0_2, .bool a0_3, .int .i64 a0_4] 27 (0, 0)) (by (with_reducible repeat (first | refine blk_drewN ?_ _ | refine blk_drew ?_ | refine blk_alloc ?_ _)); exact BK176.out) hb); have n2_ := Aside0.mk (blk_below (g := gb177) (o := .cells #[.int .i64 a1_0, .int .i64 a1_1, .slice A1_2 l1_2.length c1_2] 36 (0, 0)) (by (with_reducible repeat (first | refine blk_drewN ?_ _ | refine blk_drew ?_ | refine blk_alloc ?_ _)); exact BK177.out) hb); have n3_ := Aside0.mk (below_step (by repeat (first | (with_reducible first | exact HB.out | apply below_alloc | apply pw_below_drewN | apply below_drew1 | refine below_set ?_ GE176.out | refine below_set ?_ GE177.out) | exact HB.out)) hb); have n4_ := Aside0.mk (hbox); have n5_ := Aside0.mk ((by rw [hg]; exact (below_size (by repeat (first | (with_reducible first | exact HB.out | apply below_alloc | apply pw_below_drewN | apply below_drew1 | refine below_set ?_ GE176.out | refine below_set ?_ GE177.out) | exact HB.out))) : w.heap.size ≤ gb178)); have n6_ := Aside0.mk ((by rw [hg]; exact (below_size (by repeat (first | (with_reducible first | exact HB.out | apply below_alloc | apply pw_below_drewN | apply below_drew1 | refine below_set ?_ GE176.out | refine below_set ?_ GE177.out) | exact HB.out))) : w.heap.size ≤ gb178)); have n7_ := Aside0.mk ((by rw [hg]; exact Nat.ne_of_lt (blk_lt (g := gb176) (o := .cells #[.int .i64 a0_0, .slice A0_1 l0_1.length c0_1, .int .i64 a0_2, .bool a0_3, .int .i64 a0_4] 27 (0, 0)) (by (with_reducible repeat (first | refine blk_drewN ?_ _ | refine blk_drew ?_ | refine blk_alloc ?_ _)); exact BK176.out)) : gb176 ≠ gb178)); have n8_ := Aside0.mk ((by rw [hg]; exact Nat.ne_of_gt (blk_lt (g := gb176) (o := .cells #[.int .i64 a0_0, .slice A0_1 l0_1.length c0_1, .int .i64 a0_2, .bool a0_3, .int .i64 a0_4] 27 (0, 0)) (by (with_reducible repeat (first | refine blk_drewN ?_ _ | refine blk_drew ?_ | refine blk_alloc ?_ _)); exact BK176.out)) : gb178 ≠ gb176)); have n9_ := Aside0.mk ((by rw [hg]; exact Nat.ne_of_lt (blk_lt (g := gb177) (o := .cells #[.int .i64 a1_0, .int .i64 a1_1, .slice A1_2 l1_2.length c1_2] 36 (0, 0)) (by (with_reducible repeat (first | refine blk_drewN ?_ _ | refine blk_drew ?_ | refine blk_alloc ?_ _)); exact BK177.out)) : gb177 ≠ gb178)); have n10_ := Aside0.mk ((by rw [hg]; exact Nat.ne_of_gt (blk_lt (g := gb177) (o := .cells #[.int .i64 a1_0, .int .i64 a1_1, .slice A1_2 l1_2.length c1_2] 36 (0, 0)) (by (with_reducible repeat (first | refine blk_drewN ?_ _ | refine blk_drew ?_ | refine blk_alloc ?_ _)); exact BK177.out)) : gb178 ≠ gb177)); clear HO0_1; clear BK176; clear BK177; clear HB; have HO0_1 := n0_; have BK176 := n1_; have BK177 := n2_; have HB := n3_; have BK178 := n4_; have GW178 := n5_; have GE178 := n6_; have NB176_178 := n7_; have NB178_176 := n8_; have NB177_178 := n9_; have NB178_177 := n10_; clear n0_ n1_ n2_ n3_ n4_ n5_ n6_ n7_ n8_ n9_ n10_; clear hb hbox hg; have hnb77 := NB177_176.out; have hnc77 := NB176_177.out; have hnb78 := NB177_178.out; have hnc78 := NB178_177.out; have hcz79_0 : w76.cell? ⟨gb177, 0, none⟩ = some (.int .i64 a1_0) := (blk_cell BK177.out 0).trans rfl; have hcz79_1 : w76.cell? ⟨gb177, 1, none⟩ = some (.int .i64 a1_1) := (blk_cell BK177.out 1).trans rfl; have hcz79_2 : w76.cell? ⟨gb177, 2, none⟩ = some (.slice A1_2 l1_2.length c1_2) := (blk_cell BK177.out 2).trans rfl; have hfz79_0 := blk_frozen BK177.out 0; have hfz79_1 := blk_frozen BK177.out 1; have hfz79_2 := blk_frozen BK177.out 2) | ((with_reducible refine gate_callee (f := 27) rfl ?_); refine goesL_ (some 16) rfl rfl Try.func27 (by kernel_rfl) rfl #[.agg #[.int .i64 a1_0, .int .i64 a1_1, .slice A1_2 l1_2.length c1_2]] rfl (by (try simp only [List.map_toArray, List.map_cons, List.map_nil]); first | done | rfl | (simp only [List.length_drop, List.length_take]; rfl)) ?_; (with_reducible refine (record_Write.calls k a1_0 a1_1 _ _ l1_2 t179 t182 _ ?side1 ?side2 A3.out).mono ?_); (case side1 => repeat (first | exact (Kd.C_below HR1_2.out HB.out) | (with_reducible refine Kd.C_alloc ?_ _) | (with_reducible refine Kd.C_drewN ?_ _) | (with_reducible refine Kd.C_drew ?_))); (case side2 => exact HC1_2.out); rintro e w80 ⟨v180, rfl, ho0, hb⟩; refine ⟨_, rfl, ?_⟩; have n0_ := Aside0.mk (Kd.V_elder' (by (with_reducible repeat (first | apply Kd.V_alloc | apply Kd.V_drewN | apply Kd.V_drew)); exact HO0_1.out) (Kd.R_base ho0) hb); have n1_ := Aside0.mk (Kd.R_lower (Kd.R_newM (M := fun k_ => (w.heap.size ≤ k_)) ho0 (below_size (by repeat (first | (with_reducible first | exact HB.out | apply below_alloc | apply pw_below_drewN | apply below_drew1 | refine below_set ?_ GE176.out | refine below_set ?_ GE177.out | refine below_set ?_ GE178.out) | exact HB.out))) (fun k_ h_ => h_)) (below_size (by repeat (first | (with_reducible first | exact HB.out | apply below_alloc | apply pw_below_drewN | apply below_drew1 | refine below_set ?_ GE176.out | refine below_set ?_ GE177.out | refine below_set ?_ GE178.out) | exact HB.out)))); have n2_ := Aside0.mk (blk_below (g := gb176) (o := .cells #[.int .i64 a0_0, .slice A0_1 l0_1.length c0_1, .int .i64 a0_2, .bool a0_3, .int .i64 a0_4] 27 (0, 0)) (by (with_reducible repeat (first | refine blk_drewN ?_ _ | refine blk_drew ?_ | refine blk_alloc ?_ _)); exact BK176.out) hb); have n3_ := Aside0.mk (blk_below (g := gb177) (o := .cells #[.int .i64 a1_0, .int .i64 a1_1, .slice A1_2 l1_2.length c1_2] 36 (0, 0)) (by (with_reducible repeat (first | refine blk_drewN ?_ _ | refine blk_drew ?_ | refine blk_alloc ?_ _)); exact BK177.out) hb); have n4_ := Aside0.mk (blk_below (g := gb178) (o := .cells #[.int .i64 0, .slice none 0 0, .int .i64 0, .bool false, .int .i64 0] 27 (0, 0)) (by (with_reducible repeat (first | refine blk_drewN ?_ _ | refine blk_drew ?_ | refine blk_alloc ?_ _)); exact BK178.out) hb); have n5_ := Aside0.mk (below_step (by repeat (first | (with_reducible first | exact HB.out | apply below_alloc | apply pw_below_drewN | apply below_drew1 | refine below_set ?_ GE176.out | refine below_set ?_ GE177.out | refine below_set ?_ GE178.out) | exact HB.out)) hb); clear HO0_1; clear BK176; clear BK177; clear BK178; clear HB; have HO0_1 := n0_; have HO181 := n1_; have BK176 := n2_; have BK177 := n3_; have BK178 := n4_; have HB := n5_; clear n0_ n1_ n2_ n3_ n4_ n5_; (try clear hb); (try clear hb2); (try clear hk); (try clear hi); (try clear ho0); have hnb81 := NB176_178.out; have hnc81 := NB178_176.out; have hcz82_0 : w80.cell? ⟨gb176, 0, none⟩ = some (.int .i64 a0_0) := (blk_cell BK176.out 0).trans rfl; have hcz82_1 : w80.cell? ⟨gb176, 1, none⟩ = some (.slice A0_1 l0_1.length c0_1) := (blk_cell BK176.out 1).trans rfl; have hcz82_2 : w80.cell? ⟨gb176, 2, none⟩ = some (.int .i64 a0_2) := (blk_cell BK176.out 2).trans rfl; have hcz82_3 : w80.cell? ⟨gb176, 3, none⟩ = some (.bool a0_3) := (blk_cell BK176.out 3).trans rfl; have hcz82_4 : w80.cell? ⟨gb176, 4, none⟩ = some (.int .i64 a0_4) := (blk_cell BK176.out 4).trans rfl; have hfz82_0 := blk_frozen BK176.out 0; have hfz82_1 := blk_frozen BK176.out 1; have hfz82_2 := blk_frozen BK176.out 2; have hfz82_3 := blk_frozen BK176.out 3; have hfz82_4 := blk_frozen BK176.out 4; have hcz83_0 : w80.cell? ⟨gb178, 0, none⟩ = some (.int .i64 0) := (blk_cell BK178.out 0).trans rfl; have hcz83_1 : w80.cell? ⟨gb178, 1, none⟩ = some (.slice none 0 0) := (blk_cell BK178.out 1).trans rfl; have hcz83_2 : w80.cell? ⟨gb178, 2, none⟩ = some (.int .i64 0) := (blk_cell BK178.out 2).trans rfl; have hcz83_3 : w80.cell? ⟨gb178, 3, none⟩ = some (.bool false) := (blk_cell BK178.out 3).trans rfl; have hcz83_4 : w80.cell? ⟨gb178, 4, none⟩ = some (.int .i64 0) := (blk_cell BK178.out 4).trans rfl; have hfz83_0 := blk_frozen BK178.out 0; have hfz83_1 := blk_frozen BK178.out 1; have hfz83_2 := blk_frozen BK178.out 2; have hfz83_3 := blk_frozen BK178.out 3; have hfz83_4 := blk_frozen BK178.out 4))))
  (try simp only [Exit.inBlock, Exit.then])
  (try rw [Exit.noGoto_ret])
  refine bodyPost_ret (results_ctt rfl _ _ gb178 27 #[.int .i64 a0_0, .slice A0_1 l0_1.length c0_1, .int .i64 a0_2, .bool a0_3, .int .i64 a0_4] (0, 0) _ rfl (by (with_reducible repeat (first | refine blk_drewN ?_ _ | refine blk_drew ?_ | refine blk_alloc ?_ _)); refine blk_put (cs := #[.int .i64 a0_0, .slice A0_1 l0_1.length c0_1, .int .i64 a0_2, .bool a0_3, .int .i64 0]) ?_ 4 _ rfl; (with_reducible repeat (first | refine blk_drewN ?_ _ | refine blk_drew ?_ | refine blk_alloc ?_ _)); refine blk_put (cs := #[.int .i64 a0_0, .slice A0_1 l0_1.length c0_1, .int .i64 a0_2, .bool false, .int .i64 0]) ?_ 3 _ rfl; (with_reducible repeat (first | refine blk_drewN ?_ _ | refine blk_drew ?_ | refine blk_alloc ?_ _)); refine blk_put (cs := #[.int .i64 a0_0, .slice A0_1 l0_1.length c0_1, .int .i64 0, .bool false, .int .i64 0]) ?_ 2 _ rfl; (with_reducible repeat (first | refine blk_drewN ?_ _ | refine blk_drew ?_ | refine blk_alloc ?_ _)); refine blk_put (cs := #[.int .i64 a0_0, .slice none 0 0, .int .i64 0, .bool false, .int .i64 0]) ?_ 1 _ rfl; (with_reducible repeat (first | refine blk_drewN ?_ _ | refine blk_drew ?_ | refine blk_alloc ?_ _)); refine blk_put (cs := #[.int .i64 0, .slice none 0 0, .int .i64 0, .bool false, .int .i64 0]) ?_ 0 _ rfl; (with_reducible repeat (first | refine blk_drewN ?_ _ | refine blk_drew ?_ | refine blk_alloc ?_ _)); exact BK178.out) Try.underlying27 rfl (by kernel_rfl)) rfl ?_
  exact ⟨_, by first | rfl | (simp [errW_none, errW_some] <;> rfl) | (simp [*, errW_none, errW_some] <;> rfl), by (with_reducible repeat (first | apply Kd.V_alloc | apply Kd.V_drewN | apply Kd.V_drew)); exact Kd.V_mono (Kd.V_far (p := ⟨gb178, 4, none⟩) (Kd.V_far (p := ⟨gb178, 3, none⟩) (Kd.V_far (p := ⟨gb178, 2, none⟩) (Kd.V_far (p := ⟨gb178, 1, none⟩) (Kd.V_far (p := ⟨gb178, 0, none⟩) (Kd.V_mono HO0_1.out (fun k_ hk => (⟨hk, hk.1.2⟩ : _ ∧ k_ ≠ gb178))) (fun _ hk => hk.2) (.int .i64 a0_0)) (fun _ hk => hk.2) (.slice A0_1 l0_1.length c0_1)) (fun _ hk => hk.2) (.int .i64 a0_2)) (fun _ hk => hk.2) (.bool a0_3)) (fun _ hk => hk.2) (.int .i64 a0_4)) (fun _ hk => hk.1.1.1.1.1), by repeat (first | (with_reducible first | exact HB.out | apply below_alloc | apply pw_below_drewN | apply below_drew1 | refine below_set ?_ GE176.out | refine below_set ?_ GE177.out | refine below_set ?_ GE178.out) | exact HB.out)⟩
end Go.Proofs.Ytdgefplbfffenaa.X
namespace Go.Proofs.Ytdgefplbfffenaa.X
open Go.RowKit Go.Proofs.YtdgefplbfffenaaW.PrintWords Go.Proofs.YtdgefplbfffenaaW.PrintLast Go.Proofs.YtdgefplbfffenaaW.PrintMore
attribute [local go_sem] max2_int min2_int max_two min_two max_three min_three max_four min_four   -- for this text's walks alone
set_option linter.unusedVariables false
set_option linter.unusedSimpArgs false
def log_Append.l0 : Nat → List Cx → List (S36) → Int → Int → Int → List (S52) → Int → Bool → Int → Option (Int × (List (S52)) × Int × Bool × Int × List Cx × Int)
 | 0, _, _, _, _, _, _, _, _, _ => none
 | k + 1, x5, x14, x15, x16, x204000, x204001, x204002, x204003, x204004 => if x16 < x15 then (if 0 ≤ x16 then (if x16 < (x14.length : Int) then ((log_one.f k x204000 x204001 x204002 x204003 x204004 ((rd_T36 x14 x16).f0) ((rd_T36 x14 x16).f1) ((rd_T36 x14 x16).f2)).bind fun bt213 => (if bt213.2.2.2.2.2.2 = 0 then (if x5.length < 8796093022208 then (log_Append.l0 k (x5 ++ [bt213.2.2.2.2.2.1]) x14 x15 (wrap64 (x16 + 1)) bt213.1 bt213.2.1 bt213.2.2.1 bt213.2.2.2.1 bt213.2.2.2.2.1) else (none)) else (some (bt213.1, bt213.2.1, bt213.2.2.1, bt213.2.2.2.1, bt213.2.2.2.2.1, x5, bt213.2.2.2.2.2.2)))) else (none)) else (none)) else (some (x204000, x204001, x204002, x204003, x204004, x5, 0))
def log_Append.f (k : Nat) (a0_0 : Int) (l0_1 : List (S52)) (a0_2 : Int) (a0_3 : Bool) (a0_4 : Int) (l1 : List (S36)) : Option (Int × (List (S52)) × Int × Bool × Int × List Cx × Int) := (dev_Limit.f a0_0 l0_1 a0_2 a0_3 a0_4 a0_2).bind fun bt204 => (log_Append.l0 k ([] : List Cx) l1 (l1.length : Int) 0 bt204.1 bt204.2.1 bt204.2.2.1 bt204.2.2.2.1 bt204.2.2.2.2)
set_option maxHeartbeats 8000000 in
set_option maxRecDepth 100000 in
theorem log_Append.calls (k : Nat) (a0_0 : Int) (A0_1 : Option Addr) (c0_1 : Nat) (l0_1 : List (S52)) (a0_2 : Int) (a0_3 : Bool) (a0_4 : Int) (A1 : Option Addr) (c1 : Nat) (l1 : List (S36)) (r1 : Int) (r2 : List (S52)) (r3 : Int) (r4 : Bool) (r5 : Int) (r6 : List Cx) (r7 : Int) (w : World) (hr0_1 : Kd.C k52 w A0_1 l0_1.length l0_1) (hc0_1 : l0_1.length ≤ c0_1) (hr1 : Kd.C k36 w A1 l1.length l1) (hc1 : l1.length ≤ c1) (h : log_Append.f k a0_0 l0_1 a0_2 a0_3 a0_4 l1 = some (r1, r2, r3, r4, r5, r6, r7)) :
  Calls Try.prog 12 #[.agg #[.int .i64 a0_0, .slice A0_1 l0_1.length c0_1, .int .i64 a0_2, .bool a0_3, .int .i64 a0_4], .slice A1 l1.length c1] w fun e w' => ∃ v1_ v5_ : Value, e = .returned (.tuple #[.agg #[.int .i64 r1, v1_, .int .i64 r3, .bool r4, .int .i64 r5], v5_, .int .i64 r7]) ∧ Kd.V k52 52 w' w.heap.size (fun k_ => (w.heap.size ≤ k_) ∧ some k_ ≠ (v5_ : Value).ownBlock) v1_ r2 ∧ Kd.R kCx 58 w' w.heap.size (fun k_ => (w.heap.size ≤ k_)) v5_ r6 ∧ Below w.heap.size w w' := by
 have hu27 := Try.underlying27
 have hu36 := Try.underlying36
 have HR0_1 := Aside0.mk hr0_1
 have HC0_1 := Aside0.mk hc0_1
 clear hr0_1 hc0_1
 have HR1 := Aside0.mk hr1
 have HC1 := Aside0.mk hc1
 clear hr1 hc1
 have HB := Aside0.mk (Below.refl w.heap.size w)
 have H : ((dev_Limit.f a0_0 l0_1 a0_2 a0_3 a0_4 a0_2).bind fun bt204 => (log_Append.l0 k ([] : List Cx) l1 (l1.length : Int) 0 bt204.1 bt204.2.1 bt204.2.2.1 bt204.2.2.2.1 bt204.2.2.2.2)) = some (r1, r2, r3, r4, r5, r6, r7) := h
 clear h
 replace H := Option.bind_eq_some_iff.mp H
 obtain ⟨⟨t204, t205, t208, t209, t210⟩, A30, H⟩ := H
 replace H : (log_Append.l0 k ([] : List Cx) l1 (l1.length : Int) 0 t204 t205 t208 t209 t210) = some (r1, r2, r3, r4, r5, r6, r7) := H
 have A3 := Aside0.mk A30
 clear A30
 have H' := Aside0.mk H
 clear H
 go_enter Try.func12, Try.ntmps12
 go_wp2_with (first | ((with_reducible refine gate_dst (N := 2) rfl ?_); refine box_event ?hg (N := 2) ?hd (cs := #[.int .i64 a0_0, .slice A0_1 l0_1.length c0_1, .int .i64 a0_2, .bool a0_3, .int .i64 a0_4]) (t := 27) ?hr ?_; (case hd => rfl); (case hg => rfl); (case hr => first | (go_simp; done) | (go_simp; rfl)); intro gb202 hg w4 hbox hb; have n0_ := Aside0.mk (below_step (by repeat (first | (with_reducible first | exact HB.out | apply below_alloc | apply pw_below_drewN | apply below_drew1) | exact HB.out)) hb); have n1_ := Aside0.mk (hbox); have n2_ := Aside0.mk ((by rw [hg]; exact (below_size (by repeat (first | (with_reducible first | exact HB.out | apply below_alloc | apply pw_below_drewN | apply below_drew1) | exact HB.out))) : w.heap.size ≤ gb202)); have n3_ := Aside0.mk ((by rw [hg]; exact (below_size (by repeat (first | (with_reducible first | exact HB.out | apply below_alloc | apply pw_below_drewN | apply below_drew1) | exact HB.out))) : w.heap.size ≤ gb202)); clear HB; have HB := n0_; have BK202 := n1_; have GW202 := n2_; have GE202 := n3_; clear n0_ n1_ n2_ n3_; clear hb hbox hg) | ((with_reducible refine gate_dst (N := 4) rfl ?_); refine box_event ?hg (N := 4) ?hd (cs := #[.int .i64 0, .slice none 0 0, .int .i64 0, .bool false, .int .i64 0]) (t := 27) ?hr ?_; (case hd => rfl); (case hg => rfl); (case hr => first | (go_simp; done) | (go_simp; rfl)); intro gb203 hg w5 hbox hb; have n0_ := Aside0.mk (blk_below (g := gb202) (o := .cells #[.int .i64 a0_0, .slice A0_1 l0_1.length c0_1, .int .i64 a0_2, .bool a0_3, .int .i64 a0_4] 27 (0, 0)) (by (with_reducible repeat (first | refine blk_drewN ?_ _ | refine blk_drew ?_ | refine blk_alloc ?_ _)); exact BK202.out) hb); have n1_ := Aside0.mk (below_step (by repeat (first | (with_reducible first | exact HB.out | apply below_alloc | apply pw_below_drewN | apply below_drew1 | refine below_set ?_ GE202.out) | exact HB.out)) hb); have n2_ := Aside0.mk (hbox); have n3_ := Aside0.mk ((by rw [hg]; exact (below_size (by repeat (first | (with_reducible first | exact HB.out | apply below_alloc | apply pw_below_drewN | apply below_drew1 | refine below_set ?_ GE202.out) | exact HB.out))) : w.heap.size ≤ gb203)); have n4_ := Aside0.mk ((by rw [hg]; exact (below_size (by repeat (first | (with_reducible first | exact HB.out | apply below_alloc | apply pw_below_drewN | apply below_drew1 | refine below_set ?_ GE202.out) | exact HB.out))) : w.heap.size ≤ gb203)); have n5_ := Aside0.mk ((by rw [hg]; exact Nat.ne_of_lt (blk_lt (g := gb202) (o := .cells #[.int .i64 a0_0, .slice A0_1 l0_1.length c0_1, .int .i64 a0_2, .bool a0_3, .int .i64 a0_4] 27 (0, 0)) (by (with_reducible repeat (first | refine blk_drewN ?_ _ | refine blk_drew ?_ | refine blk_alloc ?_ _)); exact BK202.out)) : gb202 ≠ gb203)); have n6_ := Aside0.mk ((by rw [hg]; exact Nat.ne_of_gt (blk_lt (g := gb202) (o := .cells #[.int .i64 a0_0, .slice A0_1 l0_1.length c0_1, .int .i64 a0_2, .bool a0_3, .int .i64 a0_4] 27 (0, 0)) (by (with_reducible repeat (first | refine blk_drewN ?_ _ | refine blk_drew ?_ | refine blk_alloc ?_ _)); exact BK202.out)) : gb203 ≠ gb202)); clear BK202; clear HB; have BK202 := n0_; have HB := n1_; have BK203 := n2_; have GW203 := n3_; have GE203 := n4_; have NB202_203 := n5_; have NB203_202 := n6_; clear n0_ n1_ n2_ n3_ n4_ n5_ n6_; clear hb hbox hg; have hnb6 := NB202_203.out; have hnc6 := NB203_202.out; have hcz7_0 : w5.cell? ⟨gb202, 0, none⟩ = some (.int .i64 a0_0) := (blk_cell BK202.out 0).trans rfl; have hcz7_1 : w5.cell? ⟨gb202, 1, none⟩ = some (.slice A0_1 l0_1.length c0_1) := (blk_cell BK202.out 1).trans rfl; have hcz7_2 : w5.cell? ⟨gb202, 2, none⟩ = some (.int .i64 a0_2) := (blk_cell BK202.out 2).trans rfl; have hcz7_3 : w5.cell? ⟨gb202, 3, none⟩ = some (.bool a0_3) := (blk_cell BK202.out 3).trans rfl; have hcz7_4 : w5.cell? ⟨gb202, 4, none⟩ = some (.int .i64 a0_4) := (blk_cell BK202.out 4).trans rfl; have hfz7_0 := blk_frozen BK202.out 0; have hfz7_1 := blk_frozen BK202.out 1; have hfz7_2 := blk_frozen BK202.out 2; have hfz7_3 := blk_frozen BK202.out 3; have hfz7_4 := blk_frozen BK202.out 4) | ((with_reducible refine gate_callee (f := 37) rfl ?_); refine goesL_ (some 13) rfl rfl Try.func37 (by kernel_rfl) rfl #[.agg #[.int .i64 a0_0, .slice A0_1 l0_1.length c0_1, .int .i64 a0_2, .bool a0_3, .int .i64 a0_4], .int .i64 a0_2] rfl (by (try simp only [List.map_toArray, List.map_cons, List.map_nil]); first | done | rfl | (simp only [List.length_drop, List.length_take]; rfl)) ?_; (with_reducible refine (dev_Limit.calls a0_0 _ _ l0_1 a0_2 a0_3 a0_4 a0_2 t204 t205 t208 t209 t210 _ ?side1 ?side2 A3.out).mono ?_); (case side1 => repeat (first | exact (Kd.C_below HR0_1.out HB.out) | (with_reducible refine Kd.C_alloc ?_ _) | (with_reducible refine Kd.C_drewN ?_ _) | (with_reducible refine Kd.C_drew ?_))); (case side2 => exact HC0_1.out); rintro e w8 ⟨v206, rfl, ho0, hb⟩; refine ⟨_, rfl, ?_⟩; have n0_ := Aside0.mk (Kd.S_lower (Kd.S_newM (M := fun k_ => (w.heap.size ≤ k_)) ho0 (below_size (by repeat (first | (with_reducible first | exact HB.out | apply below_alloc | apply pw_below_drewN | apply below_drew1 | refine below_set ?_ GE202.out | refine below_set ?_ GE203.out) | exact HB.out))) (fun k_ h_ => h_)) (below_size (by repeat (first | (with_reducible first | exact HB.out | apply below_alloc | apply pw_below_drewN | apply below_drew1 | refine below_set ?_ GE202.out | refine below_set ?_ GE203.out) | exact HB.out)))); have n1_ := Aside0.mk (blk_below (g := gb202) (o := .cells #[.int .i64 a0_0, .slice A0_1 l0_1.length c0_1, .int .i64 a0_2, .bool a0_3, .int .i64 a0_4] 27 (0, 0)) (by (with_reducible repeat (first | refine blk_drewN ?_ _ | refine blk_drew ?_ | refine blk_alloc ?_ _)); exact BK202.out) hb); have n2_ := Aside0.mk (blk_below (g := gb203) (o := .cells #[.int .i64 0, .slice none 0 0, .int .i64 0, .bool false, .int .i64 0] 27 (0, 0)) (by (with_reducible repeat (first | refine blk_drewN ?_ _ | refine blk_drew ?_ | refine blk_alloc ?_ _)); exact BK203.out) hb); have n3_ := Aside0.mk (below_step (by repeat (first | (with_reducible first | exact HB.out | apply below_alloc | apply pw_below_drewN | apply below_drew1 | refine below_set ?_ GE202.out | refine below_set ?_ GE203.out) | exact HB.out)) hb); clear BK202; clear BK203; clear HB; have HO207 := n0_; have BK202 := n1_; have BK203 := n2_; have HB := n3_; clear n0_ n1_ n2_ n3_; (try clear hb); (try clear hb2); (try clear hk); (try clear hi); (try clear ho0); have hcz9_0 : w8.cell? ⟨gb203, 0, none⟩ = some (.int .i64 0) := (blk_cell BK203.out 0).trans rfl; have hcz9_1 : w8.cell? ⟨gb203, 1, none⟩ = some (.slice none 0 0) := (blk_cell BK203.out 1).trans rfl; have hcz9_2 : w8.cell? ⟨gb203, 2, none⟩ = some (.int .i64 0) := (blk_cell BK203.out 2).trans rfl; have hcz9_3 : w8.cell? ⟨gb203, 3, none⟩ = some (.bool false) := (blk_cell BK203.out 3).trans rfl; have hcz9_4 : w8.cell? ⟨gb203, 4, none⟩ = some (.int .i64 0) := (blk_cell BK203.out 4).trans rfl; have hfz9_0 := blk_frozen BK203.out 0; have hfz9_1 := blk_frozen BK203.out 1; have hfz9_2 := blk_frozen BK203.out 2; have hfz9_3 := blk_frozen BK203.out 3; have hfz9_4 := blk_frozen BK203.out 4; obtain ⟨Ao10, co10, eo10⟩ := Kd.S_slice HO207.out; subst eo10))
 go_loopg [5, 16] k (fun kq v5 v16 w' => ∃ (x5_1 : List Cx) (x16_1 : Int) (x204000_1 : Int) (x204001_1 : List (S52)) (x204002_1 : Int) (x204003_1 : Bool) (x204004_1 : Int) (u204001 : Value), v16 = .int .i64 x16_1 ∧ Aside0 (log_Append.l0 kq x5_1 l1 (l1.length : Int) x16_1 x204000_1 x204001_1 x204002_1 x204003_1 x204004_1 = some (r1, r2, r3, r4, r5, r6, r7)) ∧ Aside0 (kq ≤ k) ∧ Aside0 (Kd.R kCx 58 w' w.heap.size (fun k_ => (w.heap.size ≤ k_)) v5 x5_1) ∧ Aside0 (Kd.V k52 52 w' w.heap.size (fun k_ => (w.heap.size ≤ k_) ∧ some k_ ≠ (v5 : Value).ownBlock ∧ k_ ≠ gb202 ∧ k_ ≠ gb203) u204001 x204001_1) ∧ Aside0 (w'.heap[gb202]? = some (.cells #[.int .i64 a0_0, (.slice A0_1 l0_1.length c0_1), .int .i64 a0_2, .bool a0_3, .int .i64 a0_4] 27 (0, 0))) ∧ Aside0 (w'.heap[gb203]? = some (.cells #[.int .i64 x204000_1, u204001, .int .i64 x204002_1, .bool x204003_1, .int .i64 x204004_1] 27 (0, 0))) ∧ Aside0 (Below w.heap.size w w'))
 case atStart => exact ⟨(([] : List Cx)), (0), (t204), (t205), (t208), (t209), (t210), (.slice Ao10 t205.length co10), (by first | rfl | (simp; done) | (simp [*]; done)), H', ⟨Nat.le_refl _⟩, ⟨by first | exact Kd.R_nil _ _ _ _ _ | exact Kd.N_nil _ _ _ _ _ | exact Kd.V_nil _ _ _ _ _ | exact Kd.Q_nil _ _ _ _ _ | exact Kd.S_nil _ _ _ _ _⟩, ⟨Kd.S_V (by (with_reducible repeat (first | apply Kd.S_alloc | apply Kd.S_drewN | apply Kd.S_drew)); exact Kd.S_mono (Kd.S_far (p := ⟨gb203, 4, none⟩) (Kd.S_far (p := ⟨gb203, 3, none⟩) (Kd.S_far (p := ⟨gb203, 2, none⟩) (Kd.S_far (p := ⟨gb203, 1, none⟩) (Kd.S_far (p := ⟨gb203, 0, none⟩) (Kd.S_types (Kd.S_types (Kd.S_types HO207.out BK202.out (by decide)) BK203.out (by decide)) BK203.out (by decide)) (fun _ hk => hk.2) (.int .i64 t204)) (fun _ hk => hk.2) (.slice Ao10 t205.length co10)) (fun _ hk => hk.2) (.int .i64 t208)) (fun _ hk => hk.2) (.bool t209)) (fun _ hk => hk.2) (.int .i64 t210)) (fun _ hk => ⟨hk.1.1.1.1, ⟨(by simp [Value.ownBlock]), ⟨hk.1.1.2, hk.1.2⟩⟩⟩))⟩, ⟨by (with_reducible repeat (first | refine blk_drewN ?_ _ | refine blk_drew ?_ | refine blk_alloc ?_ _)); refine blk_far ?_ NB202_203.out _; (with_reducible repeat (first | refine blk_drewN ?_ _ | refine blk_drew ?_ | refine blk_alloc ?_ _)); refine blk_far ?_ NB202_203.out _; (with_reducible repeat (first | refine blk_drewN ?_ _ | refine blk_drew ?_ | refine blk_alloc ?_ _)); refine blk_far ?_ NB202_203.out _; (with_reducible repeat (first | refine blk_drewN ?_ _ | refine blk_drew ?_ | refine blk_alloc ?_ _)); refine blk_far ?_ NB202_203.out _; (with_reducible repeat (first | refine blk_drewN ?_ _ | refine blk_drew ?_ | refine blk_alloc ?_ _)); refine blk_far ?_ NB202_203.out _; (with_reducible repeat (first | refine blk_drewN ?_ _ | refine blk_drew ?_ | refine blk_alloc ?_ _)); exact BK202.out⟩, ⟨by (with_reducible repeat (first | refine blk_drewN ?_ _ | refine blk_drew ?_ | refine blk_alloc ?_ _)); refine blk_put (cs := #[.int .i64 t204, .slice Ao10 t205.length co10, .int .i64 t208, .bool t209, .int .i64 0]) ?_ 4 _ rfl; (with_reducible repeat (first | refine blk_drewN ?_ _ | refine blk_drew ?_ | refine blk_alloc ?_ _)); refine blk_put (cs := #[.int .i64 t204, .slice Ao10 t205.length co10, .int .i64 t208, .bool false, .int .i64 0]) ?_ 3 _ rfl; (with_reducible repeat (first | refine blk_drewN ?_ _ | refine blk_drew ?_ | refine blk_alloc ?_ _)); refine blk_put (cs := #[.int .i64 t204, .slice Ao10 t205.length co10, .int .i64 0, .bool false, .int .i64 0]) ?_ 2 _ rfl; (with_reducible repeat (first | refine blk_drewN ?_ _ | refine blk_drew ?_ | refine blk_alloc ?_ _)); refine blk_put (cs := #[.int .i64 t204, .slice none 0 0, .int .i64 0, .bool false, .int .i64 0]) ?_ 1 _ rfl; (with_reducible repeat (first | refine blk_drewN ?_ _ | refine blk_drew ?_ | refine blk_alloc ?_ _)); refine blk_put (cs := #[.int .i64 0, .slice none 0 0, .int .i64 0, .bool false, .int .i64 0]) ?_ 0 _ rfl; (with_reducible repeat (first | refine blk_drewN ?_ _ | refine blk_drew ?_ | refine blk_alloc ?_ _)); exact BK203.out⟩, ⟨by repeat (first | (with_reducible first | exact HB.out | apply below_alloc | apply pw_below_drewN | apply below_drew1 | refine below_set ?_ GE202.out | refine below_set ?_ GE203.out) | exact HB.out)⟩⟩
 case round =>
  clear H'
  try clear c1
  try clear p2
  try clear c3
  try clear c6
  try clear hcz7_0
  try clear hcz7_1
  try clear hcz7_2
  try clear hcz7_3
  try clear hcz7_4
  try clear hcz9_0
  try clear hcz9_1
  try clear hcz9_2
  try clear hcz9_3
  try clear hcz9_4
  try clear hfz7_0
  try clear hfz7_1
  try clear hfz7_2
  try clear hfz7_3
  try clear hfz7_4
  try clear hfz9_0
  try clear hfz9_1
  try clear hfz9_2
  try clear hfz9_3
  try clear hfz9_4
  obtain ⟨x5_1, x16_1, x204000_1, x204001_1, x204002_1, x204003_1, x204004_1, u204001, rfl, HA, HK1, HO_5, HO_204001, BK202, BK203, HB⟩ := hrel
  cases gk with
  | zero => exact absurd HA.out (by simp [log_Append.l0])
  | succ k1 =>
   have H := HA.out
   clear HA
   simp only [log_Append.l0] at H
   by_cases c11 : x16_1 < (l1.length : Int)
   ·rw [if_pos c11] at H
    have c11b0 : decide (x16_1 < (l1.length : Int)) = true := decide_eq_true c11
    clear c11
    by_cases c12 : 0 ≤ x16_1
    ·rw [if_pos c12] at H
     have c12b0 : decide (0 ≤ x16_1) = true := decide_eq_true c12
     clear c12
     by_cases c13 : x16_1 < (l1.length : Int)
     ·rw [if_pos c13] at H
      have c13b0 : decide (x16_1 < (l1.length : Int)) = true := decide_eq_true c13
      clear c13
      replace H := Option.bind_eq_some_iff.mp H
      obtain ⟨⟨t213, t214, t217, t218, t219, t220, t221⟩, A140, H⟩ := H
      replace H : (if t221 = 0 then (if x5_1.length < 8796093022208 then (log_Append.l0 k1 (x5_1 ++ [t220]) l1 (l1.length : Int) (wrap64 (x16_1 + 1)) t213 t214 t217 t218 t219) else (none)) else (some (t213, t214, t217, t218, t219, x5_1, t221))) = some (r1, r2, r3, r4, r5, r6, r7) := H
      have A14 := Aside0.mk A140
      clear A140
      by_cases c15 : t221 = 0
      ·rw [if_pos c15] at H
       have c15b0 : (t221 == 0) = true := beq_iff_eq.mpr c15
       have c15b1 : (t221 != 0) = false := bne_eq_false_iff_eq.mpr c15
       clear c15
       by_cases c16 : x5_1.length < 8796093022208
       ·rw [if_pos c16] at H
        have LMc16 := Aside0.mk c16
        clear c16
        obtain ⟨y222, hy222⟩ : ∃ y_ : List Cx, y_ = (x5_1 ++ [t220]) := ⟨_, rfl⟩
        replace H : (log_Append.l0 k1 y222 l1 (l1.length : Int) (wrap64 (x16_1 + 1)) t213 t214 t217 t218 t219) = some (r1, r2, r3, r4, r5, r6, r7) := by first | (rw [hy222]; with_reducible exact H) | (have H2_ := (Option.bind_some _ _).symm.trans H; rw [hy222]; with_reducible exact H2_) | (have H2_ := (Option.bind_some _ _).symm.trans H; with_reducible exact H2_) | with_reducible exact H | (rw [hy222]; exact H) | exact H
        have Ny222 := Aside0.mk hy222
        clear hy222
        have H' := Aside0.mk H
        clear H
        have p211 : 0 ≤ (x16_1 : Int) := of_decide_eq_true (by first | (with_reducible assumption) | assumption)
        have q211 : x16_1 < (l1.length : Int) := of_decide_eq_true (by first | (with_reducible assumption) | assumption)
        obtain ⟨ad211, A211_2, c211_2, e211, hx211_0, hx211_1, hx211_2, hl211_2, hi211_2⟩ := at_T36 HR1.out x16_1 p211 q211
        cases e211
        replace hx211_0 := (HB.out.cell (World.block_lt_of_cell? w _ hx211_0)).trans hx211_0
        replace hx211_1 := (HB.out.cell (World.block_lt_of_cell? w _ hx211_1)).trans hx211_1
        replace hx211_2 := (HB.out.cell (World.block_lt_of_cell? w _ hx211_2)).trans hx211_2
        have HR211_2 := Aside0.mk hi211_2
        have HC211_2 := Aside0.mk hl211_2
        clear hi211_2 hl211_2
        replace p211 := eq_true p211
        replace q211 := eq_true q211
        go_wp2_with (first | ((with_reducible refine gate_dst (N := 8) rfl ?_); refine box_event ?hg (N := 8) ?hd (cs := #[.int .i64 0, .int .i64 0, .slice none 0 0]) (t := 36) ?hr ?_; (case hd => rfl); (case hg => rfl); (case hr => first | (go_simp; done) | (go_simp; rfl)); intro gb212 hg w17 hbox hb; have n0_ := Aside0.mk (Kd.R_below (by (with_reducible repeat (first | apply Kd.R_alloc | apply Kd.R_drewN | apply Kd.R_drew)); exact HO_5.out) hb); have n1_ := Aside0.mk (Kd.V_below (Kd.V_elderB (by (with_reducible repeat (first | apply Kd.V_alloc | apply Kd.V_drewN | apply Kd.V_drew)); exact HO_204001.out) gb212 (Nat.le_of_eq hg.symm)) hb); have n2_ := Aside0.mk (blk_below (g := gb202) (o := .cells #[.int .i64 a0_0, .slice A0_1 l0_1.length c0_1, .int .i64 a0_2, .bool a0_3, .int .i64 a0_4] 27 (0, 0)) (by (with_reducible repeat (first | refine blk_drewN ?_ _ | refine blk_drew ?_ | refine blk_alloc ?_ _)); exact BK202.out) hb); have n3_ := Aside0.mk (blk_below (g := gb203) (o := .cells #[.int .i64 x204000_1, u204001, .int .i64 x204002_1, .bool x204003_1, .int .i64 x204004_1] 27 (0, 0)) (by (with_reducible repeat (first | refine blk_drewN ?_ _ | refine blk_drew ?_ | refine blk_alloc ?_ _)); exact BK203.out) hb); have n4_ := Aside0.mk (below_step (by repeat (first | (with_reducible first | exact HB.out | apply below_alloc | apply pw_below_drewN | apply below_drew1 | refine below_set ?_ GE202.out | refine below_set ?_ GE203.out) | exact HB.out)) hb); have n5_ := Aside0.mk (hbox); have n6_ := Aside0.mk ((by rw [hg]; exact (below_size (by repeat (first | (with_reducible first | exact HB.out | apply below_alloc | apply pw_below_drewN | apply below_drew1 | refine below_set ?_ GE202.out | refine below_set ?_ GE203.out) | exact HB.out))) : w.heap.size ≤ gb212)); have n7_ := Aside0.mk ((by rw [hg]; exact (below_size (by repeat (first | (with_reducible first | exact HB.out | apply below_alloc | apply pw_below_drewN | apply below_drew1 | refine below_set ?_ GE202.out | refine below_set ?_ GE203.out) | exact HB.out))) : w.heap.size ≤ gb212)); have n8_ := Aside0.mk ((by rw [hg]; exact Nat.ne_of_lt (blk_lt (g := gb202) (o := .cells #[.int .i64 a0_0, .slice A0_1 l0_1.length c0_1, .int .i64 a0_2, .bool a0_3, .int .i64 a0_4] 27 (0, 0)) (by (with_reducible repeat (first | refine blk_drewN ?_ _ | refine blk_drew ?_ | refine blk_alloc ?_ _)); exact BK202.out)) : gb202 ≠ gb212)); have n9_ := Aside0.mk ((by rw [hg]; exact Nat.ne_of_gt (blk_lt (g := gb202) (o := .cells #[.int .i64 a0_0, .slice A0_1 l0_1.length c0_1, .int .i64 a0_2, .bool a0_3, .int .i64 a0_4] 27 (0, 0)) (by (with_reducible repeat (first | refine blk_drewN ?_ _ | refine blk_drew ?_ | refine blk_alloc ?_ _)); exact BK202.out)) : gb212 ≠ gb202)); have n10_ := Aside0.mk ((by rw [hg]; exact Nat.ne_of_lt (blk_lt (g := gb203) (o := .cells #[.int .i64 x204000_1, u204001, .int .i64 x204002_1, .bool x204003_1, .int .i64 x204004_1] 27 (0, 0)) (by (with_reducible repeat (first | refine blk_drewN ?_ _ | refine blk_drew ?_ | refine blk_alloc ?_ _)); exact BK203.out)) : gb203 ≠ gb212)); have n11_ := Aside0.mk ((by rw [hg]; exact Nat.ne_of_gt (blk_lt (g := gb203) (o := .cells #[.int .i64 x204000_1, u204001, .int .i64 x204002_1, .bool x204003_1, .int .i64 x204004_1] 27 (0, 0)) (by (with_reducible repeat (first | refine blk_drewN ?_ _ | refine blk_drew ?_ | refine blk_alloc ?_ _)); exact BK203.out)) : gb212 ≠ gb203)); clear HO_5; clear HO_204001; clear BK202; clear BK203; clear HB; have HO_5 := n0_; have HO_204001 := n1_; have BK202 := n2_; have BK203 := n3_; have HB := n4_; have BK212 := n5_; have GW212 := n6_; have GE212 := n7_; have NB202_212 := n8_; have NB212_202 := n9_; have NB203_212 := n10_; have NB212_203 := n11_; clear n0_ n1_ n2_ n3_ n4_ n5_ n6_ n7_ n8_ n9_ n10_ n11_; clear hb hbox hg; have hnb18 := NB212_202.out; have hnc18 := NB202_212.out; have hnb19 := NB212_203.out; have hnc19 := NB203_212.out; have hcz20_0 : w17.cell? ⟨gb212, 0, none⟩ = some (.int .i64 0) := (blk_cell BK212.out 0).trans rfl; have hcz20_1 : w17.cell? ⟨gb212, 1, none⟩ = some (.int .i64 0) := (blk_cell BK212.out 1).trans rfl; have hcz20_2 : w17.cell? ⟨gb212, 2, none⟩ = some (.slice none 0 0) := (blk_cell BK212.out 2).trans rfl; have hfz20_0 := blk_frozen BK212.out 0; have hfz20_1 := blk_frozen BK212.out 1; have hfz20_2 := blk_frozen BK212.out 2) | ((with_reducible refine gate_store (t := 36) (p := 8) rfl ?_); refine store_event (t := 36) (p := 8) (v := ?vo_w21) (w1 := (((w17.setCell ⟨gb212, 0, none⟩ (.int .i64 ((rd_T36 l1 x16_1).f0))).setCell ⟨gb212, 1, none⟩ (.int .i64 ((rd_T36 l1 x16_1).f1))).setCell ⟨gb212, 2, none⟩ (.slice A211_2 ((rd_T36 l1 x16_1).f2).length c211_2))) ?hg ?ho ?hn ?hr ?_; (case ho => rfl); (case hg => rfl); (case hn => rfl); (case hr => first | (go_simp; done) | (go_simp; rfl)); intro w21 hw; have n0_ : Aside0 (Kd.R kCx 58 w21 w.heap.size (fun k_ => (w.heap.size ≤ k_)) u5 x5_1) := ⟨(by rw [hw]; exact (by (with_reducible repeat (first | apply Kd.R_alloc | apply Kd.R_drewN | apply Kd.R_drew)); exact Kd.R_mono (Kd.R_far (p := ⟨gb212, 2, none⟩) (Kd.R_far (p := ⟨gb212, 1, none⟩) (Kd.R_far (p := ⟨gb212, 0, none⟩) (Kd.R_types HO_5.out BK212.out (by decide)) (fun _ hk => hk.2) (.int .i64 ((rd_T36 l1 x16_1).f0))) (fun _ hk => hk.2) (.int .i64 ((rd_T36 l1 x16_1).f1))) (fun _ hk => hk.2) (.slice A211_2 ((rd_T36 l1 x16_1).f2).length c211_2)) (fun _ hk => hk.1)))⟩; have n1_ : Aside0 (Kd.V k52 52 w21 w.heap.size (fun k_ => (w.heap.size ≤ k_) ∧ some k_ ≠ (u5 : Value).ownBlock ∧ k_ ≠ gb202 ∧ k_ ≠ gb203 ∧ k_ ≠ gb212) u204001 x204001_1) := ⟨(by rw [hw]; exact (by (with_reducible repeat (first | apply Kd.V_alloc | apply Kd.V_drewN | apply Kd.V_drew)); exact Kd.V_mono (Kd.V_far (p := ⟨gb212, 2, none⟩) (Kd.V_far (p := ⟨gb212, 1, none⟩) (Kd.V_far (p := ⟨gb212, 0, none⟩) (Kd.V_mono HO_204001.out (fun k_ hk => (⟨hk, hk.2⟩ : _ ∧ k_ ≠ gb212))) (fun _ hk => hk.2) (.int .i64 ((rd_T36 l1 x16_1).f0))) (fun _ hk => hk.2) (.int .i64 ((rd_T36 l1 x16_1).f1))) (fun _ hk => hk.2) (.slice A211_2 ((rd_T36 l1 x16_1).f2).length c211_2)) (fun _ hk => ⟨hk.1.1.1, ⟨hk.1.1.2.1, ⟨hk.1.1.2.2.1, ⟨hk.1.1.2.2.2, hk.1.2⟩⟩⟩⟩)))⟩; have n2_ : Aside0 (w21.heap[gb202]? = some (.cells #[.int .i64 a0_0, .slice A0_1 l0_1.length c0_1, .int .i64 a0_2, .bool a0_3, .int .i64 a0_4] 27 (0, 0))) := ⟨(by rw [hw]; exact (by (with_reducible repeat (first | refine blk_drewN ?_ _ | refine blk_drew ?_ | refine blk_alloc ?_ _)); refine blk_far ?_ NB202_212.out _; (with_reducible repeat (first | refine blk_drewN ?_ _ | refine blk_drew ?_ | refine blk_alloc ?_ _)); refine blk_far ?_ NB202_212.out _; (with_reducible repeat (first | refine blk_drewN ?_ _ | refine blk_drew ?_ | refine blk_alloc ?_ _)); refine blk_far ?_ NB202_212.out _; (with_reducible repeat (first | refine blk_drewN ?_ _ | refine blk_drew ?_ | refine blk_alloc ?_ _)); exact BK202.out))⟩; have n3_ : Aside0 (w21.heap[gb203]? = some (.cells #[.int .i64 x204000_1, u204001, .int .i64 x204002_1, .bool x204003_1, .int .i64 x204004_1] 27 (0, 0))) := ⟨(by rw [hw]; exact (by (with_reducible repeat (first | refine blk_drewN ?_ _ | refine blk_drew ?_ | refine blk_alloc ?_ _)); refine blk_far ?_ NB203_212.out _; (with_reducible repeat (first | refine blk_drewN ?_ _ | refine blk_drew ?_ | refine blk_alloc ?_ _)); refine blk_far ?_ NB203_212.out _; (with_reducible repeat (first | refine blk_drewN ?_ _ | refine blk_drew ?_ | refine blk_alloc ?_ _)); refine blk_far ?_ NB203_212.out _; (with_reducible repeat (first | refine blk_drewN ?_ _ | refine blk_drew ?_ | refine blk_alloc ?_ _)); exact BK203.out))⟩; have n4_ : Aside0 (w21.heap[gb212]? = some (.cells #[.int .i64 ((rd_T36 l1 x16_1).f0), .int .i64 ((rd_T36 l1 x16_1).f1), .slice A211_2 ((rd_T36 l1 x16_1).f2).length c211_2] 36 (0, 0))) := ⟨(by rw [hw]; exact (by (with_reducible repeat (first | refine blk_drewN ?_ _ | refine blk_drew ?_ | refine blk_alloc ?_ _)); refine blk_put (cs := #[.int .i64 ((rd_T36 l1 x16_1).f0), .int .i64 ((rd_T36 l1 x16_1).f1), .slice none 0 0]) ?_ 2 _ rfl; (with_reducible repeat (first | refine blk_drewN ?_ _ | refine blk_drew ?_ | refine blk_alloc ?_ _)); refine blk_put (cs := #[.int .i64 ((rd_T36 l1 x16_1).f0), .int .i64 0, .slice none 0 0]) ?_ 1 _ rfl; (with_reducible repeat (first | refine blk_drewN ?_ _ | refine blk_drew ?_ | refine blk_alloc ?_ _)); refine blk_put (cs := #[.int .i64 0, .int .i64 0, .slice none 0 0]) ?_ 0 _ rfl; (with_reducible repeat (first | refine blk_drewN ?_ _ | refine blk_drew ?_ | refine blk_alloc ?_ _)); exact BK212.out))⟩; have n5_ : Aside0 (Below w.heap.size w w21) := ⟨(by rw [hw]; exact (by repeat (first | (with_reducible first | exact HB.out | apply below_alloc | apply pw_below_drewN | apply below_drew1 | refine below_set ?_ GE202.out | refine below_set ?_ GE203.out | refine below_set ?_ GE212.out) | exact HB.out)))⟩; clear hw; clear HO_5; clear HO_204001; clear BK202; clear BK203; clear BK212; clear HB; have HO_5 := n0_; have HO_204001 := n1_; have BK202 := n2_; have BK203 := n3_; have BK212 := n4_; have HB := n5_; clear n0_ n1_ n2_ n3_ n4_ n5_; have hnb22 := NB203_202.out; have hnc22 := NB202_203.out; have hcz23_0 : w21.cell? ⟨gb203, 0, none⟩ = some (.int .i64 x204000_1) := (blk_cell BK203.out 0).trans rfl; have hcz23_1 : w21.cell? ⟨gb203, 1, none⟩ = some (u204001) := (blk_cell BK203.out 1).trans rfl; have hcz23_2 : w21.cell? ⟨gb203, 2, none⟩ = some (.int .i64 x204002_1) := (blk_cell BK203.out 2).trans rfl; have hcz23_3 : w21.cell? ⟨gb203, 3, none⟩ = some (.bool x204003_1) := (blk_cell BK203.out 3).trans rfl; have hcz23_4 : w21.cell? ⟨gb203, 4, none⟩ = some (.int .i64 x204004_1) := (blk_cell BK203.out 4).trans rfl; have hfz23_0 := blk_frozen BK203.out 0; have hfz23_1 := blk_frozen BK203.out 1; have hfz23_2 := blk_frozen BK203.out 2; have hfz23_3 := blk_frozen BK203.out 3; have hfz23_4 := blk_frozen BK203.out 4; have hcz24_0 : w21.cell? ⟨gb212, 0, none⟩ = some (.int .i64 ((rd_T36 l1 x16_1).f0)) := (blk_cell BK212.out 0).trans rfl; have hcz24_1 : w21.cell? ⟨gb212, 1, none⟩ = some (.int .i64 ((rd_T36 l1 x16_1).f1)) := (blk_cell BK212.out 1).trans rfl; have hcz24_2 : w21.cell? ⟨gb212, 2, none⟩ = some (.slice A211_2 ((rd_T36 l1 x16_1).f2).length c211_2) := (blk_cell BK212.out 2).trans rfl; have hfz24_0 := blk_frozen BK212.out 0; have hfz24_1 := blk_frozen BK212.out 1; have hfz24_2 := blk_frozen BK212.out 2; obtain ⟨Ao25, co25, eo25⟩ := Kd.V_slice HO_204001.out; subst eo25) | ((with_reducible refine gate_callee (f := 38) rfl ?_); refine goesL_ (some 23) rfl rfl Try.func38 (by kernel_rfl) rfl #[.agg #[.int .i64 x204000_1, .slice Ao25 x204001_1.length co25, .int .i64 x204002_1, .bool x204003_1, .int .i64 x204004_1], .agg #[.int .i64 ((rd_T36 l1 x16_1).f0), .int .i64 ((rd_T36 l1 x16_1).f1), .slice A211_2 ((rd_T36 l1 x16_1).f2).length c211_2]] rfl (by (try simp only [List.map_toArray, List.map_cons, List.map_nil]); first | done | rfl | (simp only [List.length_drop, List.length_take]; rfl)) ?_; (with_reducible refine (log_one.calls k1 x204000_1 (fun k_ => ((w.heap.size ≤ k_) ∧ (some k_ ≠ (u5 : Value).ownBlock ∧ (k_ ≠ gb202 ∧ (k_ ≠ gb203 ∧ k_ ≠ gb212))))) _ _ x204001_1 x204002_1 x204003_1 x204004_1 ((rd_T36 l1 x16_1).f0) ((rd_T36 l1 x16_1).f1) _ _ ((rd_T36 l1 x16_1).f2) t213 t214 t217 t218 t219 t220 t221 _ ?side1 ?side2 ?side3 A14.out).mono ?_); (case side1 => exact HO_204001.out); (case side2 => repeat (first | exact (Kd.C_below HR211_2.out HB.out) | (with_reducible refine Kd.C_alloc ?_ _) | (with_reducible refine Kd.C_drewN ?_ _) | (with_reducible refine Kd.C_drew ?_))); (case side3 => exact HC211_2.out); rintro e w26 ⟨v215, rfl, ho0, hb⟩; refine ⟨_, rfl, ?_⟩; have n0_ := Aside0.mk (Kd.R_below (by (with_reducible repeat (first | apply Kd.R_alloc | apply Kd.R_drewN | apply Kd.R_drew)); exact HO_5.out) hb); have n1_ := Aside0.mk (Kd.V_below (by (with_reducible repeat (first | apply Kd.V_alloc | apply Kd.V_drewN | apply Kd.V_drew)); exact HO_204001.out) hb); have n2_ := Aside0.mk (Kd.V_lower (Kd.V_mono (ok' := fun k_ => (w.heap.size ≤ k_) ∧ some k_ ≠ (u5 : Value).ownBlock ∧ k_ ≠ gb202 ∧ k_ ≠ gb203 ∧ k_ ≠ gb212) ho0 (fun k_ hk_ => ⟨Or.elim hk_ (fun hs_ => hs_.1) (fun hn_ => (Nat.le_trans (below_size (by repeat (first | (with_reducible first | exact HB.out | apply below_alloc | apply pw_below_drewN | apply below_drew1 | refine below_set ?_ GE202.out | refine below_set ?_ GE203.out | refine below_set ?_ GE212.out) | exact HB.out))) hn_)), Or.elim hk_ (fun hs_ => hs_.2.1) (fun hn_ => (Kd.fresh' (Kd.R_lt (by (with_reducible repeat (first | apply Kd.R_alloc | apply Kd.R_drewN | apply Kd.R_drew)); exact HO_5.out)) k_ hn_)), Or.elim hk_ (fun hs_ => hs_.2.2.1) (fun hn_ => (Kd.freshB (g := gb202) (o := .cells #[.int .i64 a0_0, .slice A0_1 l0_1.length c0_1, .int .i64 a0_2, .bool a0_3, .int .i64 a0_4] 27 (0, 0)) (by (with_reducible repeat (first | refine blk_drewN ?_ _ | refine blk_drew ?_ | refine blk_alloc ?_ _)); exact BK202.out) k_ hn_)), Or.elim hk_ (fun hs_ => hs_.2.2.2.1) (fun hn_ => (Kd.freshB (g := gb203) (o := .cells #[.int .i64 x204000_1, .slice Ao25 x204001_1.length co25, .int .i64 x204002_1, .bool x204003_1, .int .i64 x204004_1] 27 (0, 0)) (by (with_reducible repeat (first | refine blk_drewN ?_ _ | refine blk_drew ?_ | refine blk_alloc ?_ _)); exact BK203.out) k_ hn_)), Or.elim hk_ (fun hs_ => hs_.2.2.2.2) (fun hn_ => (Kd.freshB (g := gb212) (o := .cells #[.int .i64 ((rd_T36 l1 x16_1).f0), .int .i64 ((rd_T36 l1 x16_1).f1), .slice A211_2 ((rd_T36 l1 x16_1).f2).length c211_2] 36 (0, 0)) (by (with_reducible repeat (first | refine blk_drewN ?_ _ | refine blk_drew ?_ | refine blk_alloc ?_ _)); exact BK212.out) k_ hn_))⟩)) (below_size (by repeat (first | (with_reducible first | exact HB.out | apply below_alloc | apply pw_below_drewN | apply below_drew1 | refine below_set ?_ GE202.out | refine below_set ?_ GE203.out | refine below_set ?_ GE212.out) | exact HB.out)))); have n3_ := Aside0.mk (blk_below (g := gb202) (o := .cells #[.int .i64 a0_0, .slice A0_1 l0_1.length c0_1, .int .i64 a0_2, .bool a0_3, .int .i64 a0_4] 27 (0, 0)) (by (with_reducible repeat (first | refine blk_drewN ?_ _ | refine blk_drew ?_ | refine blk_alloc ?_ _)); exact BK202.out) hb); have n4_ := Aside0.mk (blk_below (g := gb203) (o := .cells #[.int .i64 x204000_1, .slice Ao25 x204001_1.length co25, .int .i64 x204002_1, .bool x204003_1, .int .i64 x204004_1] 27 (0, 0)) (by (with_reducible repeat (first | refine blk_drewN ?_ _ | refine blk_drew ?_ | refine blk_alloc ?_ _)); exact BK203.out) hb); have n5_ := Aside0.mk (blk_below (g := gb212) (o := .cells #[.int .i64 ((rd_T36 l1 x16_1).f0), .int .i64 ((rd_T36 l1 x16_1).f1), .slice A211_2 ((rd_T36 l1 x16_1).f2).length c211_2] 36 (0, 0)) (by (with_reducible repeat (first | refine blk_drewN ?_ _ | refine blk_drew ?_ | refine blk_alloc ?_ _)); exact BK212.out) hb); have n6_ := Aside0.mk (below_step (by repeat (first | (with_reducible first | exact HB.out | apply below_alloc | apply pw_below_drewN | apply below_drew1 | refine below_set ?_ GE202.out | refine below_set ?_ GE203.out | refine below_set ?_ GE212.out) | exact HB.out)) hb); clear HO_5; clear HO_204001; clear BK202; clear BK203; clear BK212; clear HB; have HO_5 := n0_; have HO_204001 := n1_; have HO216 := n2_; have BK202 := n3_; have BK203 := n4_; have BK212 := n5_; have HB := n6_; clear n0_ n1_ n2_ n3_ n4_ n5_ n6_; (try clear hb); (try clear hb2); (try clear hk); (try clear hi); (try clear ho0); have hcz27_0 : w26.cell? ⟨gb203, 0, none⟩ = some (.int .i64 x204000_1) := (blk_cell BK203.out 0).trans rfl; have hcz27_1 : w26.cell? ⟨gb203, 1, none⟩ = some (.slice Ao25 x204001_1.length co25) := (blk_cell BK203.out 1).trans rfl; have hcz27_2 : w26.cell? ⟨gb203, 2, none⟩ = some (.int .i64 x204002_1) := (blk_cell BK203.out 2).trans rfl; have hcz27_3 : w26.cell? ⟨gb203, 3, none⟩ = some (.bool x204003_1) := (blk_cell BK203.out 3).trans rfl; have hcz27_4 : w26.cell? ⟨gb203, 4, none⟩ = some (.int .i64 x204004_1) := (blk_cell BK203.out 4).trans rfl; have hfz27_0 := blk_frozen BK203.out 0; have hfz27_1 := blk_frozen BK203.out 1; have hfz27_2 := blk_frozen BK203.out 2; have hfz27_3 := blk_frozen BK203.out 3; have hfz27_4 := blk_frozen BK203.out 4; obtain ⟨Ao28, co28, eo28⟩ := Kd.V_slice HO216.out; subst eo28) | ((with_reducible refine gate_builtin (b := .append) (xs := #[.tmp 32, .tmp 34]) rfl ?_); at_builtin; refine Kd.R_append kCx (w0 := w) w.heap.size rfl (.tmp 32) (.tmp 34) 31 58 (.complex .f64 0 0) 16 rfl Try.underlying31 info58 rfl (by decide) (by omega) u5 x5_1 t220 [.complex .f64 t220.1 t220.2] (fun k_ => (w.heap.size ≤ k_)) (fun _ => False) rfl (by first | (go_simp; done) | (go_simp; rfl)) ?aP (fun _ hk => hk.elim) ?aF ?aO ?aB ?aS ?aL ?_; (case aP => exact rfl); (case aB => exact (by repeat (first | (with_reducible first | exact HB.out | apply below_alloc | apply pw_below_drewN | apply below_drew1 | refine below_set ?_ GE202.out | refine below_set ?_ GE203.out | refine below_set ?_ GE212.out) | exact HB.out))); (case aF => exact (fun k_ hk => (Nat.le_trans (below_size (by repeat (first | (with_reducible first | exact HB.out | apply below_alloc | apply pw_below_drewN | apply below_drew1 | refine below_set ?_ GE202.out | refine below_set ?_ GE203.out | refine below_set ?_ GE212.out) | exact HB.out))) hk))); (case aO => exact (by (with_reducible repeat (first | apply Kd.R_alloc | apply Kd.R_drewN | apply Kd.R_drew)); exact Kd.R_mono (Kd.R_far (p := ⟨gb203, 4, none⟩) (Kd.R_far (p := ⟨gb203, 3, none⟩) (Kd.R_far (p := ⟨gb203, 2, none⟩) (Kd.R_far (p := ⟨gb203, 1, none⟩) (Kd.R_far (p := ⟨gb203, 0, none⟩) (Kd.R_types HO_5.out BK203.out (by decide)) (fun _ hk => hk.2) (.int .i64 t213)) (fun _ hk => hk.2) (.slice Ao28 t214.length co28)) (fun _ hk => hk.2) (.int .i64 t217)) (fun _ hk => hk.2) (.bool t218)) (fun _ hk => hk.2) (.int .i64 t219)) (fun _ hk => hk.1))); (case aS => exact (below_size (by repeat (first | (with_reducible first | exact HB.out | apply below_alloc | apply pw_below_drewN | apply below_drew1 | refine below_set ?_ GE202.out | refine below_set ?_ GE203.out | refine below_set ?_ GE212.out) | exact HB.out)))); (case aL => have := LMc16.out; omega); intro v223 w29 ho hb hg hat; rw [← Ny222.out] at ho; have n0_ := Aside0.mk (Kd.V_afterv (ok := (fun k_ => (w.heap.size ≤ k_) ∧ k_ ≠ gb202 ∧ k_ ≠ gb203 ∧ k_ ≠ gb212)) (by (with_reducible repeat (first | apply Kd.V_alloc | apply Kd.V_drewN | apply Kd.V_drew)); exact Kd.V_mono (Kd.V_far (p := ⟨gb203, 4, none⟩) (Kd.V_far (p := ⟨gb203, 3, none⟩) (Kd.V_far (p := ⟨gb203, 2, none⟩) (Kd.V_far (p := ⟨gb203, 1, none⟩) (Kd.V_far (p := ⟨gb203, 0, none⟩) (Kd.V_mono HO_204001.out (fun k_ hk => (⟨hk, hk.2.2.2.1⟩ : _ ∧ k_ ≠ gb203))) (fun _ hk => hk.2) (.int .i64 t213)) (fun _ hk => hk.2) (.slice Ao28 t214.length co28)) (fun _ hk => hk.2) (.int .i64 t217)) (fun _ hk => hk.2) (.bool t218)) (fun _ hk => hk.2) (.int .i64 t219)) (fun _ hk => ⟨⟨hk.1.1, ⟨hk.1.2.2.1, ⟨hk.1.2.2.2.1, hk.1.2.2.2.2⟩⟩⟩, hk.1.2.1⟩)) hg hat); have n1_ := Aside0.mk (blk_grown (g := gb202) (o := .cells #[.int .i64 a0_0, .slice A0_1 l0_1.length c0_1, .int .i64 a0_2, .bool a0_3, .int .i64 a0_4] 27 (0, 0)) (by (with_reducible repeat (first | refine blk_drewN ?_ _ | refine blk_drew ?_ | refine blk_alloc ?_ _)); refine blk_far ?_ NB202_203.out _; (with_reducible repeat (first | refine blk_drewN ?_ _ | refine blk_drew ?_ | refine blk_alloc ?_ _)); refine blk_far ?_ NB202_203.out _; (with_reducible repeat (first | refine blk_drewN ?_ _ | refine blk_drew ?_ | refine blk_alloc ?_ _)); refine blk_far ?_ NB202_203.out _; (with_reducible repeat (first | refine blk_drewN ?_ _ | refine blk_drew ?_ | refine blk_alloc ?_ _)); refine blk_far ?_ NB202_203.out _; (with_reducible repeat (first | refine blk_drewN ?_ _ | refine blk_drew ?_ | refine blk_alloc ?_ _)); refine blk_far ?_ NB202_203.out _; (with_reducible repeat (first | refine blk_drewN ?_ _ | refine blk_drew ?_ | refine blk_alloc ?_ _)); exact BK202.out) hg (Kd.R_ne HO_5.out BK202.out (by decide))); have n2_ := Aside0.mk (blk_grown (g := gb203) (o := .cells #[.int .i64 t213, .slice Ao28 t214.length co28, .int .i64 t217, .bool t218, .int .i64 t219] 27 (0, 0)) (by (with_reducible repeat (first | refine blk_drewN ?_ _ | refine blk_drew ?_ | refine blk_alloc ?_ _)); refine blk_put (cs := #[.int .i64 t213, .slice Ao28 t214.length co28, .int .i64 t217, .bool t218, .int .i64 x204004_1]) ?_ 4 _ rfl; (with_reducible repeat (first | refine blk_drewN ?_ _ | refine blk_drew ?_ | refine blk_alloc ?_ _)); refine blk_put (cs := #[.int .i64 t213, .slice Ao28 t214.length co28, .int .i64 t217, .bool x204003_1, .int .i64 x204004_1]) ?_ 3 _ rfl; (with_reducible repeat (first | refine blk_drewN ?_ _ | refine blk_drew ?_ | refine blk_alloc ?_ _)); refine blk_put (cs := #[.int .i64 t213, .slice Ao28 t214.length co28, .int .i64 x204002_1, .bool x204003_1, .int .i64 x204004_1]) ?_ 2 _ rfl; (with_reducible repeat (first | refine blk_drewN ?_ _ | refine blk_drew ?_ | refine blk_alloc ?_ _)); refine blk_put (cs := #[.int .i64 t213, .slice Ao25 x204001_1.length co25, .int .i64 x204002_1, .bool x204003_1, .int .i64 x204004_1]) ?_ 1 _ rfl; (with_reducible repeat (first | refine blk_drewN ?_ _ | refine blk_drew ?_ | refine blk_alloc ?_ _)); refine blk_put (cs := #[.int .i64 x204000_1, .slice Ao25 x204001_1.length co25, .int .i64 x204002_1, .bool x204003_1, .int .i64 x204004_1]) ?_ 0 _ rfl; (with_reducible repeat (first | refine blk_drewN ?_ _ | refine blk_drew ?_ | refine blk_alloc ?_ _)); exact BK203.out) hg (Kd.R_ne HO_5.out BK203.out (by decide))); have n3_ := Aside0.mk (blk_grown (g := gb212) (o := .cells #[.int .i64 ((rd_T36 l1 x16_1).f0), .int .i64 ((rd_T36 l1 x16_1).f1), .slice A211_2 ((rd_T36 l1 x16_1).f2).length c211_2] 36 (0, 0)) (by (with_reducible repeat (first | refine blk_drewN ?_ _ | refine blk_drew ?_ | refine blk_alloc ?_ _)); refine blk_far ?_ NB212_203.out _; (with_reducible repeat (first | refine blk_drewN ?_ _ | refine blk_drew ?_ | refine blk_alloc ?_ _)); refine blk_far ?_ NB212_203.out _; (with_reducible repeat (first | refine blk_drewN ?_ _ | refine blk_drew ?_ | refine blk_alloc ?_ _)); refine blk_far ?_ NB212_203.out _; (with_reducible repeat (first | refine blk_drewN ?_ _ | refine blk_drew ?_ | refine blk_alloc ?_ _)); refine blk_far ?_ NB212_203.out _; (with_reducible repeat (first | refine blk_drewN ?_ _ | refine blk_drew ?_ | refine blk_alloc ?_ _)); refine blk_far ?_ NB212_203.out _; (with_reducible repeat (first | refine blk_drewN ?_ _ | refine blk_drew ?_ | refine blk_alloc ?_ _)); exact BK212.out) hg (Kd.R_ne HO_5.out BK212.out (by decide))); have n4_ := Aside0.mk (Kd.V_afterv (ok := (fun k_ => (w.heap.size ≤ k_) ∧ k_ ≠ gb202 ∧ k_ ≠ gb203 ∧ k_ ≠ gb212)) (by (with_reducible repeat (first | apply Kd.V_alloc | apply Kd.V_drewN | apply Kd.V_drew)); exact Kd.V_mono (Kd.V_far (p := ⟨gb203, 4, none⟩) (Kd.V_far (p := ⟨gb203, 3, none⟩) (Kd.V_far (p := ⟨gb203, 2, none⟩) (Kd.V_far (p := ⟨gb203, 1, none⟩) (Kd.V_far (p := ⟨gb203, 0, none⟩) (Kd.V_mono HO216.out (fun k_ hk => (⟨hk, hk.2.2.2.1⟩ : _ ∧ k_ ≠ gb203))) (fun _ hk => hk.2) (.int .i64 t213)) (fun _ hk => hk.2) (.slice Ao28 t214.length co28)) (fun _ hk => hk.2) (.int .i64 t217)) (fun _ hk => hk.2) (.bool t218)) (fun _ hk => hk.2) (.int .i64 t219)) (fun _ hk => ⟨⟨hk.1.1, ⟨hk.1.2.2.1, ⟨hk.1.2.2.2.1, hk.1.2.2.2.2⟩⟩⟩, hk.1.2.1⟩)) hg hat); have n5_ := Aside0.mk (hb); have n6_ := Aside0.mk (ho); clear HO_204001; clear BK202; clear BK203; clear BK212; clear HO216; clear HB; clear HO_5; have HO_204001 := n0_; have BK202 := n1_; have BK203 := n2_; have BK212 := n3_; have HO216 := n4_; have HB := n5_; have HO224 := n6_; clear n0_ n1_ n2_ n3_ n4_ n5_ n6_; clear ho hb hg hat))
        go_roundg k1
        case measure => have := HK1.out; omega
        case rel => exact ⟨(y222), (wrap64 (x16_1 + 1)), (t213), (t214), (t217), (t218), (t219), (.slice Ao28 t214.length co28), (by first | rfl | (simp; done) | (simp [*]; done)), H', ⟨by have := HK1.out; omega⟩, ⟨by (with_reducible repeat (first | apply Kd.R_alloc | apply Kd.R_drewN | apply Kd.R_drew)); exact HO224.out⟩, ⟨by (with_reducible repeat (first | apply Kd.V_alloc | apply Kd.V_drewN | apply Kd.V_drew)); exact Kd.V_mono HO216.out (fun _ hk => ⟨hk.1.1, ⟨hk.2, ⟨hk.1.2.1, hk.1.2.2.1⟩⟩⟩)⟩, ⟨by (with_reducible repeat (first | refine blk_drewN ?_ _ | refine blk_drew ?_ | refine blk_alloc ?_ _)); exact BK202.out⟩, ⟨by (with_reducible repeat (first | refine blk_drewN ?_ _ | refine blk_drew ?_ | refine blk_alloc ?_ _)); exact BK203.out⟩, ⟨by repeat (first | (with_reducible first | exact HB.out | apply below_alloc | apply pw_below_drewN | apply below_drew1 | refine below_set ?_ GE202.out | refine below_set ?_ GE203.out | refine below_set ?_ GE212.out) | exact HB.out)⟩⟩
       ·rw [if_neg c16] at H
        exact absurd H (by simp)
      ·rw [if_neg c15] at H
       have c15b0 : (t221 == 0) = false := beq_eq_false_iff_ne.mpr c15
       have c15b1 : (t221 != 0) = true := bne_iff_ne.mpr c15
       simp only [Option.some.injEq, Prod.mk.injEq] at H
       obtain ⟨rfl, rfl, rfl, rfl, rfl, rfl, rfl⟩ := H
       have p211 : 0 ≤ (x16_1 : Int) := of_decide_eq_true (by first | (with_reducible assumption) | assumption)
       have q211 : x16_1 < (l1.length : Int) := of_decide_eq_true (by first | (with_reducible assumption) | assumption)
       obtain ⟨ad211, A211_2, c211_2, e211, hx211_0, hx211_1, hx211_2, hl211_2, hi211_2⟩ := at_T36 HR1.out x16_1 p211 q211
       cases e211
       replace hx211_0 := (HB.out.cell (World.block_lt_of_cell? w _ hx211_0)).trans hx211_0
       replace hx211_1 := (HB.out.cell (World.block_lt_of_cell? w _ hx211_1)).trans hx211_1
       replace hx211_2 := (HB.out.cell (World.block_lt_of_cell? w _ hx211_2)).trans hx211_2
       have HR211_2 := Aside0.mk hi211_2
       have HC211_2 := Aside0.mk hl211_2
       clear hi211_2 hl211_2
       replace p211 := eq_true p211
       replace q211 := eq_true q211
       go_wp2_with (first | ((with_reducible refine gate_dst (N := 8) rfl ?_); refine box_event ?hg (N := 8) ?hd (cs := #[.int .i64 0, .int .i64 0, .slice none 0 0]) (t := 36) ?hr ?_; (case hd => rfl); (case hg => rfl); (case hr => first | (go_simp; done) | (go_simp; rfl)); intro gb212 hg w30 hbox hb; have n0_ := Aside0.mk (Kd.R_below (by (with_reducible repeat (first | apply Kd.R_alloc | apply Kd.R_drewN | apply Kd.R_drew)); exact HO_5.out) hb); have n1_ := Aside0.mk (Kd.V_below (Kd.V_elderB (by (with_reducible repeat (first | apply Kd.V_alloc | apply Kd.V_drewN | apply Kd.V_drew)); exact HO_204001.out) gb212 (Nat.le_of_eq hg.symm)) hb); have n2_ := Aside0.mk (blk_below (g := gb202) (o := .cells #[.int .i64 a0_0, .slice A0_1 l0_1.length c0_1, .int .i64 a0_2, .bool a0_3, .int .i64 a0_4] 27 (0, 0)) (by (with_reducible repeat (first | refine blk_drewN ?_ _ | refine blk_drew ?_ | refine blk_alloc ?_ _)); exact BK202.out) hb); have n3_ := Aside0.mk (blk_below (g := gb203) (o := .cells #[.int .i64 x204000_1, u204001, .int .i64 x204002_1, .bool x204003_1, .int .i64 x204004_1] 27 (0, 0)) (by (with_reducible repeat (first | refine blk_drewN ?_ _ | refine blk_drew ?_ | refine blk_alloc ?_ _)); exact BK203.out) hb); have n4_ := Aside0.mk (below_step (by repeat (first | (with_reducible first | exact HB.out | apply below_alloc | apply pw_below_drewN | apply below_drew1 | refine below_set ?_ GE202.out | refine below_set ?_ GE203.out) | exact HB.out)) hb); have n5_ := Aside0.mk (hbox); have n6_ := Aside0.mk ((by rw [hg]; exact (below_size (by repeat (first | (with_reducible first | exact HB.out | apply below_alloc | apply pw_below_drewN | apply below_drew1 | refine below_set ?_ GE202.out | refine below_set ?_ GE203.out) | exact HB.out))) : w.heap.size ≤ gb212)); have n7_ := Aside0.mk ((by rw [hg]; exact (below_size (by repeat (first | (with_reducible first | exact HB.out | apply below_alloc | apply pw_below_drewN | apply below_drew1 | refine below_set ?_ GE202.out | refine below_set ?_ GE203.out) | exact HB.out))) : w.heap.size ≤ gb212)); have n8_ := Aside0.mk ((by rw [hg]; exact Nat.ne_of_lt (blk_lt (g := gb202) (o := .cells #[.int .i64 a0_0, .slice A0_1 l0_1.length c0_1, .int .i64 a0_2, .bool a0_3, .int .i64 a0_4] 27 (0, 0)) (by (with_reducible repeat (first | refine blk_drewN ?_ _ | refine blk_drew ?_ | refine blk_alloc ?_ _)); exact BK202.out)) : gb202 ≠ gb212)); have n9_ := Aside0.mk ((by rw [hg]; exact Nat.ne_of_gt (blk_lt (g := gb202) (o := .cells #[.int .i64 a0_0, .slice A0_1 l0_1.length c0_1, .int .i64 a0_2, .bool a0_3, .int .i64 a0_4] 27 (0, 0)) (by (with_reducible repeat (first | refine blk_drewN ?_ _ | refine blk_drew ?_ | refine blk_alloc ?_ _)); exact BK202.out)) : gb212 ≠ gb202)); have n10_ := Aside0.mk ((by rw [hg]; exact Nat.ne_of_lt (blk_lt (g := gb203) (o := .cells #[.int .i64 x204000_1, u204001, .int .i64 x204002_1, .bool x204003_1, .int .i64 x204004_1] 27 (0, 0)) (by (with_reducible repeat (first | refine blk_drewN ?_ _ | refine blk_drew ?_ | refine blk_alloc ?_ _)); exact BK203.out)) : gb203 ≠ gb212)); have n11_ := Aside0.mk ((by rw [hg]; exact Nat.ne_of_gt (blk_lt (g := gb203) (o := .cells #[.int .i64 x204000_1, u204001, .int .i64 x204002_1, .bool x204003_1, .int .i64 x204004_1] 27 (0, 0)) (by (with_reducible repeat (first | refine blk_drewN ?_ _ | refine blk_drew ?_ | refine blk_alloc ?_ _)); exact BK203.out)) : gb212 ≠ gb203)); clear HO_5; clear HO_204001; clear BK202; clear BK203; clear HB; have HO_5 := n0_; have HO_204001 := n1_; have BK202 := n2_; have BK203 := n3_; have HB := n4_; have BK212 := n5_; have GW212 := n6_; have GE212 := n7_; have NB202_212 := n8_; have NB212_202 := n9_; have NB203_212 := n10_; have NB212_203 := n11_; clear n0_ n1_ n2_ n3_ n4_ n5_ n6_ n7_ n8_ n9_ n10_ n11_; clear hb hbox hg; have hnb31 := NB212_202.out; have hnc31 := NB202_212.out; have hnb32 := NB212_203.out; have hnc32 := NB203_212.out; have hcz33_0 : w30.cell? ⟨gb212, 0, none⟩ = some (.int .i64 0) := (blk_cell BK212.out 0).trans rfl; have hcz33_1 : w30.cell? ⟨gb212, 1, none⟩ = some (.int .i64 0) := (blk_cell BK212.out 1).trans rfl; have hcz33_2 : w30.cell? ⟨gb212, 2, none⟩ = some (.slice none 0 0) := (blk_cell BK212.out 2).trans rfl; have hfz33_0 := blk_frozen BK212.out 0; have hfz33_1 := blk_frozen BK212.out 1; have hfz33_2 := blk_frozen BK212.out 2) | ((with_reducible refine gate_store (t := 36) (p := 8) rfl ?_); refine store_event (t := 36) (p := 8) (v := ?vo_w34) (w1 := (((w30.setCell ⟨gb212, 0, none⟩ (.int .i64 ((rd_T36 l1 x16_1).f0))).setCell ⟨gb212, 1, none⟩ (.int .i64 ((rd_T36 l1 x16_1).f1))).setCell ⟨gb212, 2, none⟩ (.slice A211_2 ((rd_T36 l1 x16_1).f2).length c211_2))) ?hg ?ho ?hn ?hr ?_; (case ho => rfl); (case hg => rfl); (case hn => rfl); (case hr => first | (go_simp; done) | (go_simp; rfl)); intro w34 hw; have n0_ : Aside0 (Kd.R kCx 58 w34 w.heap.size (fun k_ => (w.heap.size ≤ k_)) u5 x5_1) := ⟨(by rw [hw]; exact (by (with_reducible repeat (first | apply Kd.R_alloc | apply Kd.R_drewN | apply Kd.R_drew)); exact Kd.R_mono (Kd.R_far (p := ⟨gb212, 2, none⟩) (Kd.R_far (p := ⟨gb212, 1, none⟩) (Kd.R_far (p := ⟨gb212, 0, none⟩) (Kd.R_types HO_5.out BK212.out (by decide)) (fun _ hk => hk.2) (.int .i64 ((rd_T36 l1 x16_1).f0))) (fun _ hk => hk.2) (.int .i64 ((rd_T36 l1 x16_1).f1))) (fun _ hk => hk.2) (.slice A211_2 ((rd_T36 l1 x16_1).f2).length c211_2)) (fun _ hk => hk.1)))⟩; have n1_ : Aside0 (Kd.V k52 52 w34 w.heap.size (fun k_ => (w.heap.size ≤ k_) ∧ some k_ ≠ (u5 : Value).ownBlock ∧ k_ ≠ gb202 ∧ k_ ≠ gb203 ∧ k_ ≠ gb212) u204001 x204001_1) := ⟨(by rw [hw]; exact (by (with_reducible repeat (first | apply Kd.V_alloc | apply Kd.V_drewN | apply Kd.V_drew)); exact Kd.V_mono (Kd.V_far (p := ⟨gb212, 2, none⟩) (Kd.V_far (p := ⟨gb212, 1, none⟩) (Kd.V_far (p := ⟨gb212, 0, none⟩) (Kd.V_mono HO_204001.out (fun k_ hk => (⟨hk, hk.2⟩ : _ ∧ k_ ≠ gb212))) (fun _ hk => hk.2) (.int .i64 ((rd_T36 l1 x16_1).f0))) (fun _ hk => hk.2) (.int .i64 ((rd_T36 l1 x16_1).f1))) (fun _ hk => hk.2) (.slice A211_2 ((rd_T36 l1 x16_1).f2).length c211_2)) (fun _ hk => ⟨hk.1.1.1, ⟨hk.1.1.2.1, ⟨hk.1.1.2.2.1, ⟨hk.1.1.2.2.2, hk.1.2⟩⟩⟩⟩)))⟩; have n2_ : Aside0 (w34.heap[gb202]? = some (.cells #[.int .i64 a0_0, .slice A0_1 l0_1.length c0_1, .int .i64 a0_2, .bool a0_3, .int .i64 a0_4] 27 (0, 0))) := ⟨(by rw [hw]; exact (by (with_reducible repeat (first | refine blk_drewN ?_ _ | refine blk_drew ?_ | refine blk_alloc ?_ _)); refine blk_far ?_ NB202_212.out _; (with_reducible repeat (first | refine blk_drewN ?_ _ | refine blk_drew ?_ | refine blk_alloc ?_ _)); refine blk_far ?_ NB202_212.out _; (with_reducible repeat (first | refine blk_drewN ?_ _ | refine blk_drew ?_ | refine blk_alloc ?_ _)); refine blk_far ?_ NB202_212.out _; (with_reducible repeat (first | refine blk_drewN ?_ _ | refine blk_drew ?_ | refine blk_alloc ?_ _)); exact BK202.out))⟩; have n3_ : Aside0 (w34.heap[gb203]? = some (.cells #[.int .i64 x204000_1, u204001, .int .i64 x204002_1, .bool x204003_1, .int .i64 x204004_1] 27 (0, 0))) := ⟨(by rw [hw]; exact (by (with_reducible repeat (first | refine blk_drewN ?_ _ | refine blk_drew ?_ | refine blk_alloc ?_ _)); refine blk_far ?_ NB203_212.out _; (with_reducible repeat (first | refine blk_drewN ?_ _ | refine blk_drew ?_ | refine blk_alloc ?_ _)); refine blk_far ?_ NB203_212.out _; (with_reducible repeat (first | refine blk_drewN ?_ _ | refine blk_drew ?_ | refine blk_alloc ?_ _)); refine blk_far ?_ NB203_212.out _; (with_reducible repeat (first | refine blk_drewN ?_ _ | refine blk_drew ?_ | refine blk_alloc ?_ _)); exact BK203.out))⟩; have n4_ : Aside0 (w34.heap[gb212]? = some (.cells #[.int .i64 ((rd_T36 l1 x16_1).f0), .int .i64 ((rd_T36 l1 x16_1).f1), .slice A211_2 ((rd_T36 l1 x16_1).f2).length c211_2] 36 (0, 0))) := ⟨(by rw [hw]; exact (by (with_reducible repeat (first | refine blk_drewN ?_ _ | refine blk_drew ?_ | refine blk_alloc ?_ _)); refine blk_put (cs := #[.int .i64 ((rd_T36 l1 x16_1).f0), .int .i64 ((rd_T36 l1 x16_1).f1), .slice none 0 0]) ?_ 2 _ rfl; (with_reducible repeat (first | refine blk_drewN ?_ _ | refine blk_drew ?_ | refine blk_alloc ?_ _)); refine blk_put (cs := #[.int .i64 ((rd_T36 l1 x16_1).f0), .int .i64 0, .slice none 0 0]) ?_ 1 _ rfl; (with_reducible repeat (first | refine blk_drewN ?_ _ | refine blk_drew ?_ | refine blk_alloc ?_ _)); refine blk_put (cs := #[.int .i64 0, .int .i64 0, .slice none 0 0]) ?_ 0 _ rfl; (with_reducible repeat (first | refine blk_drewN ?_ _ | refine blk_drew ?_ | refine blk_alloc ?_ _)); exact BK212.out))⟩; have n5_ : Aside0 (Below w.heap.size w w34) := ⟨(by rw [hw]; exact (by repeat (first | (with_reducible first | exact HB.out | apply below_alloc | apply pw_below_drewN | apply below_drew1 | refine below_set ?_ GE202.out | refine below_set ?_ GE203.out | refine below_set ?_ GE212.out) | exact HB.out)))⟩; clear hw; clear HO_5; clear HO_204001; clear BK202; clear BK203; clear BK212; clear HB; have HO_5 := n0_; have HO_204001 := n1_; have BK202 := n2_; have BK203 := n3_; have BK212 := n4_; have HB := n5_; clear n0_ n1_ n2_ n3_ n4_ n5_; have hnb35 := NB203_202.out; have hnc35 := NB202_203.out; have hcz36_0 : w34.cell? ⟨gb203, 0, none⟩ = some (.int .i64 x204000_1) := (blk_cell BK203.out 0).trans rfl; have hcz36_1 : w34.cell? ⟨gb203, 1, none⟩ = some (u204001) := (blk_cell BK203.out 1).trans rfl; have hcz36_2 : w34.cell? ⟨gb203, 2, none⟩ = some (.int .i64 x204002_1) := (blk_cell BK203.out 2).trans rfl; have hcz36_3 : w34.cell? ⟨gb203, 3, none⟩ = some (.bool x204003_1) := (blk_cell BK203.out 3).trans rfl; have hcz36_4 : w34.cell? ⟨gb203, 4, none⟩ = some (.int .i64 x204004_1) := (blk_cell BK203.out 4).trans rfl; have hfz36_0 := blk_frozen BK203.out 0; have hfz36_1 := blk_frozen BK203.out 1; have hfz36_2 := blk_frozen BK203.out 2; have hfz36_3 := blk_frozen BK203.out 3; have hfz36_4 := blk_frozen BK203.out 4; have hcz37_0 : w34.cell? ⟨gb212, 0, none⟩ = some (.int .i64 ((rd_T36 l1 x16_1).f0)) := (blk_cell BK212.out 0).trans rfl; have hcz37_1 : w34.cell? ⟨gb212, 1, none⟩ = some (.int .i64 ((rd_T36 l1 x16_1).f1)) := (blk_cell BK212.out 1).trans rfl; have hcz37_2 : w34.cell? ⟨gb212, 2, none⟩ = some (.slice A211_2 ((rd_T36 l1 x16_1).f2).length c211_2) := (blk_cell BK212.out 2).trans rfl; have hfz37_0 := blk_frozen BK212.out 0; have hfz37_1 := blk_frozen BK212.out 1; have hfz37_2 := blk_frozen BK212.out 2; obtain ⟨Ao38, co38, eo38⟩ := Kd.V_slice HO_204001.out; subst eo38) | ((with_reducible refine gate_callee (f := 38) rfl ?_); refine goesL_ (some 23) rfl rfl Try.func38 (by kernel_rfl) rfl #[.agg #[.int .i64 x204000_1, .slice Ao38 x204001_1.length co38, .int .i64 x204002_1, .bool x204003_1, .int .i64 x204004_1], .agg #[.int .i64 ((rd_T36 l1 x16_1).f0), .int .i64 ((rd_T36 l1 x16_1).f1), .slice A211_2 ((rd_T36 l1 x16_1).f2).length c211_2]] rfl (by (try simp only [List.map_toArray, List.map_cons, List.map_nil]); first | done | rfl | (simp only [List.length_drop, List.length_take]; rfl)) ?_; (with_reducible refine (log_one.calls k1 x204000_1 (fun k_ => ((w.heap.size ≤ k_) ∧ (some k_ ≠ (u5 : Value).ownBlock ∧ (k_ ≠ gb202 ∧ (k_ ≠ gb203 ∧ k_ ≠ gb212))))) _ _ x204001_1 x204002_1 x204003_1 x204004_1 ((rd_T36 l1 x16_1).f0) ((rd_T36 l1 x16_1).f1) _ _ ((rd_T36 l1 x16_1).f2) t213 t214 t217 t218 t219 t220 t221 _ ?side1 ?side2 ?side3 A14.out).mono ?_); (case side1 => exact HO_204001.out); (case side2 => repeat (first | exact (Kd.C_below HR211_2.out HB.out) | (with_reducible refine Kd.C_alloc ?_ _) | (with_reducible refine Kd.C_drewN ?_ _) | (with_reducible refine Kd.C_drew ?_))); (case side3 => exact HC211_2.out); rintro e w39 ⟨v215, rfl, ho0, hb⟩; refine ⟨_, rfl, ?_⟩; have n0_ := Aside0.mk (Kd.R_below (by (with_reducible repeat (first | apply Kd.R_alloc | apply Kd.R_drewN | apply Kd.R_drew)); exact HO_5.out) hb); have n1_ := Aside0.mk (Kd.V_below (by (with_reducible repeat (first | apply Kd.V_alloc | apply Kd.V_drewN | apply Kd.V_drew)); exact HO_204001.out) hb); have n2_ := Aside0.mk (Kd.V_lower (Kd.V_mono (ok' := fun k_ => (w.heap.size ≤ k_) ∧ some k_ ≠ (u5 : Value).ownBlock ∧ k_ ≠ gb202 ∧ k_ ≠ gb203 ∧ k_ ≠ gb212) ho0 (fun k_ hk_ => ⟨Or.elim hk_ (fun hs_ => hs_.1) (fun hn_ => (Nat.le_trans (below_size (by repeat (first | (with_reducible first | exact HB.out | apply below_alloc | apply pw_below_drewN | apply below_drew1 | refine below_set ?_ GE202.out | refine below_set ?_ GE203.out | refine below_set ?_ GE212.out) | exact HB.out))) hn_)), Or.elim hk_ (fun hs_ => hs_.2.1) (fun hn_ => (Kd.fresh' (Kd.R_lt (by (with_reducible repeat (first | apply Kd.R_alloc | apply Kd.R_drewN | apply Kd.R_drew)); exact HO_5.out)) k_ hn_)), Or.elim hk_ (fun hs_ => hs_.2.2.1) (fun hn_ => (Kd.freshB (g := gb202) (o := .cells #[.int .i64 a0_0, .slice A0_1 l0_1.length c0_1, .int .i64 a0_2, .bool a0_3, .int .i64 a0_4] 27 (0, 0)) (by (with_reducible repeat (first | refine blk_drewN ?_ _ | refine blk_drew ?_ | refine blk_alloc ?_ _)); exact BK202.out) k_ hn_)), Or.elim hk_ (fun hs_ => hs_.2.2.2.1) (fun hn_ => (Kd.freshB (g := gb203) (o := .cells #[.int .i64 x204000_1, .slice Ao38 x204001_1.length co38, .int .i64 x204002_1, .bool x204003_1, .int .i64 x204004_1] 27 (0, 0)) (by (with_reducible repeat (first | refine blk_drewN ?_ _ | refine blk_drew ?_ | refine blk_alloc ?_ _)); exact BK203.out) k_ hn_)), Or.elim hk_ (fun hs_ => hs_.2.2.2.2) (fun hn_ => (Kd.freshB (g := gb212) (o := .cells #[.int .i64 ((rd_T36 l1 x16_1).f0), .int .i64 ((rd_T36 l1 x16_1).f1), .slice A211_2 ((rd_T36 l1 x16_1).f2).length c211_2] 36 (0, 0)) (by (with_reducible repeat (first | refine blk_drewN ?_ _ | refine blk_drew ?_ | refine blk_alloc ?_ _)); exact BK212.out) k_ hn_))⟩)) (below_size (by repeat (first | (with_reducible first | exact HB.out | apply below_alloc | apply pw_below_drewN | apply below_drew1 | refine below_set ?_ GE202.out | refine below_set ?_ GE203.out | refine below_set ?_ GE212.out) | exact HB.out)))); have n3_ := Aside0.mk (blk_below (g := gb202) (o := .cells #[.int .i64 a0_0, .slice A0_1 l0_1.length c0_1, .int .i64 a0_2, .bool a0_3, .int .i64 a0_4] 27 (0, 0)) (by (with_reducible repeat (first | refine blk_drewN ?_ _ | refine blk_drew ?_ | refine blk_alloc ?_ _)); exact BK202.out) hb); have n4_ := Aside0.mk (blk_below (g := gb203) (o := .cells #[.int .i64 x204000_1, .slice Ao38 x204001_1.length co38, .int .i64 x204002_1, .bool x204003_1, .int .i64 x204004_1] 27 (0, 0)) (by (with_reducible repeat (first | refine blk_drewN ?_ _ | refine blk_drew ?_ | refine blk_alloc ?_ _)); exact BK203.out) hb); have n5_ := Aside0.mk (blk_below (g := gb212) (o := .cells #[.int .i64 ((rd_T36 l1 x16_1).f0), .int .i64 ((rd_T36 l1 x16_1).f1), .slice A211_2 ((rd_T36 l1 x16_1).f2).length c211_2] 36 (0, 0)) (by (with_reducible repeat (first | refine blk_drewN ?_ _ | refine blk_drew ?_ | refine blk_alloc ?_ _)); exact BK212.out) hb); have n6_ := Aside0.mk (below_step (by repeat (first | (with_reducible first | exact HB.out | apply below_alloc | apply pw_below_drewN | apply below_drew1 | refine below_set ?_ GE202.out | refine below_set ?_ GE203.out | refine below_set ?_ GE212.out) | exact HB.out)) hb); clear HO_5; clear HO_204001; clear BK202; clear BK203; clear BK212; clear HB; have HO_5 := n0_; have HO_204001 := n1_; have HO216 := n2_; have BK202 := n3_; have BK203 := n4_; have BK212 := n5_; have HB := n6_; clear n0_ n1_ n2_ n3_ n4_ n5_ n6_; (try clear hb); (try clear hb2); (try clear hk); (try clear hi); (try clear ho0); have hcz40_0 : w39.cell? ⟨gb203, 0, none⟩ = some (.int .i64 x204000_1) := (blk_cell BK203.out 0).trans rfl; have hcz40_1 : w39.cell? ⟨gb203, 1, none⟩ = some (.slice Ao38 x204001_1.length co38) := (blk_cell BK203.out 1).trans rfl; have hcz40_2 : w39.cell? ⟨gb203, 2, none⟩ = some (.int .i64 x204002_1) := (blk_cell BK203.out 2).trans rfl; have hcz40_3 : w39.cell? ⟨gb203, 3, none⟩ = some (.bool x204003_1) := (blk_cell BK203.out 3).trans rfl; have hcz40_4 : w39.cell? ⟨gb203, 4, none⟩ = some (.int .i64 x204004_1) := (blk_cell BK203.out 4).trans rfl; have hfz40_0 := blk_frozen BK203.out 0; have hfz40_1 := blk_frozen BK203.out 1; have hfz40_2 := blk_frozen BK203.out 2; have hfz40_3 := blk_frozen BK203.out 3; have hfz40_4 := blk_frozen BK203.out 4; obtain ⟨Ao41, co41, eo41⟩ := Kd.V_slice HO216.out; subst eo41))
       refine bodyPost_ret (results_ctt rfl _ _ gb203 27 #[.int .i64 t213, .slice Ao41 t214.length co41, .int .i64 t217, .bool t218, .int .i64 t219] (0, 0) _ rfl (by (with_reducible repeat (first | refine blk_drewN ?_ _ | refine blk_drew ?_ | refine blk_alloc ?_ _)); refine blk_put (cs := #[.int .i64 t213, .slice Ao41 t214.length co41, .int .i64 t217, .bool t218, .int .i64 t219]) ?_ 4 _ rfl; (with_reducible repeat (first | refine blk_drewN ?_ _ | refine blk_drew ?_ | refine blk_alloc ?_ _)); refine blk_put (cs := #[.int .i64 t213, .slice Ao41 t214.length co41, .int .i64 t217, .bool t218, .int .i64 t219]) ?_ 3 _ rfl; (with_reducible repeat (first | refine blk_drewN ?_ _ | refine blk_drew ?_ | refine blk_alloc ?_ _)); refine blk_put (cs := #[.int .i64 t213, .slice Ao41 t214.length co41, .int .i64 t217, .bool t218, .int .i64 t219]) ?_ 2 _ rfl; (with_reducible repeat (first | refine blk_drewN ?_ _ | refine blk_drew ?_ | refine blk_alloc ?_ _)); refine blk_put (cs := #[.int .i64 t213, .slice Ao41 t214.length co41, .int .i64 t217, .bool t218, .int .i64 t219]) ?_ 1 _ rfl; (with_reducible repeat (first | refine blk_drewN ?_ _ | refine blk_drew ?_ | refine blk_alloc ?_ _)); refine blk_put (cs := #[.int .i64 t213, .slice Ao41 t214.length co41, .int .i64 t217, .bool t218, .int .i64 t219]) ?_ 0 _ rfl; (with_reducible repeat (first | refine blk_drewN ?_ _ | refine blk_drew ?_ | refine blk_alloc ?_ _)); refine blk_put (cs := #[.int .i64 t213, .slice Ao41 t214.length co41, .int .i64 t217, .bool t218, .int .i64 x204004_1]) ?_ 4 _ rfl; (with_reducible repeat (first | refine blk_drewN ?_ _ | refine blk_drew ?_ | refine blk_alloc ?_ _)); refine blk_put (cs := #[.int .i64 t213, .slice Ao41 t214.length co41, .int .i64 t217, .bool x204003_1, .int .i64 x204004_1]) ?_ 3 _ rfl; (with_reducible repeat (first | refine blk_drewN ?_ _ | refine blk_drew ?_ | refine blk_alloc ?_ _)); refine blk_put (cs := #[.int .i64 t213, .slice Ao41 t214.length co41, .int .i64 x204002_1, .bool x204003_1, .int .i64 x204004_1]) ?_ 2 _ rfl; (with_reducible repeat (first | refine blk_drewN ?_ _ | refine blk_drew ?_ | refine blk_alloc ?_ _)); refine blk_put (cs := #[.int .i64 t213, .slice Ao38 x204001_1.length co38, .int .i64 x204002_1, .bool x204003_1, .int .i64 x204004_1]) ?_ 1 _ rfl; (with_reducible repeat (first | refine blk_drewN ?_ _ | refine blk_drew ?_ | refine blk_alloc ?_ _)); refine blk_put (cs := #[.int .i64 x204000_1, .slice Ao38 x204001_1.length co38, .int .i64 x204002_1, .bool x204003_1, .int .i64 x204004_1]) ?_ 0 _ rfl; (with_reducible repeat (first | refine blk_drewN ?_ _ | refine blk_drew ?_ | refine blk_alloc ?_ _)); exact BK203.out) Try.underlying27 rfl (by kernel_rfl)) rfl ?_
       exact ⟨_, _, by first | rfl | (simp [errW_none, errW_some] <;> rfl) | (simp [*, errW_none, errW_some] <;> rfl), by (with_reducible repeat (first | apply Kd.V_alloc | apply Kd.V_drewN | apply Kd.V_drew)); exact Kd.V_mono (Kd.V_far (p := ⟨gb203, 4, none⟩) (Kd.V_far (p := ⟨gb203, 3, none⟩) (Kd.V_far (p := ⟨gb203, 2, none⟩) (Kd.V_far (p := ⟨gb203, 1, none⟩) (Kd.V_far (p := ⟨gb203, 0, none⟩) (Kd.V_far (p := ⟨gb203, 4, none⟩) (Kd.V_far (p := ⟨gb203, 3, none⟩) (Kd.V_far (p := ⟨gb203, 2, none⟩) (Kd.V_far (p := ⟨gb203, 1, none⟩) (Kd.V_far (p := ⟨gb203, 0, none⟩) (Kd.V_mono HO216.out (fun k_ hk => (⟨hk, hk.2.2.2.1⟩ : _ ∧ k_ ≠ gb203))) (fun _ hk => hk.2) (.int .i64 t213)) (fun _ hk => hk.2) (.slice Ao41 t214.length co41)) (fun _ hk => hk.2) (.int .i64 t217)) (fun _ hk => hk.2) (.bool t218)) (fun _ hk => hk.2) (.int .i64 t219)) (fun _ hk => hk.2) (.int .i64 t213)) (fun _ hk => hk.2) (.slice Ao41 t214.length co41)) (fun _ hk => hk.2) (.int .i64 t217)) (fun _ hk => hk.2) (.bool t218)) (fun _ hk => hk.2) (.int .i64 t219)) (fun _ hk => ⟨hk.1.1, hk.1.2.1⟩), by (with_reducible repeat (first | apply Kd.R_alloc | apply Kd.R_drewN | apply Kd.R_drew)); exact Kd.R_mono (Kd.R_far (p := ⟨gb203, 4, none⟩) (Kd.R_far (p := ⟨gb203, 3, none⟩) (Kd.R_far (p := ⟨gb203, 2, none⟩) (Kd.R_far (p := ⟨gb203, 1, none⟩) (Kd.R_far (p := ⟨gb203, 0, none⟩) (Kd.R_far (p := ⟨gb203, 4, none⟩) (Kd.R_far (p := ⟨gb203, 3, none⟩) (Kd.R_far (p := ⟨gb203, 2, none⟩) (Kd.R_far (p := ⟨gb203, 1, none⟩) (Kd.R_far (p := ⟨gb203, 0, none⟩) (Kd.R_types HO_5.out BK203.out (by decide)) (fun _ hk => hk.2) (.int .i64 t213)) (fun _ hk => hk.2) (.slice Ao41 t214.length co41)) (fun _ hk => hk.2) (.int .i64 t217)) (fun _ hk => hk.2) (.bool t218)) (fun _ hk => hk.2) (.int .i64 t219)) (fun _ hk => hk.2) (.int .i64 t213)) (fun _ hk => hk.2) (.slice Ao41 t214.length co41)) (fun _ hk => hk.2) (.int .i64 t217)) (fun _ hk => hk.2) (.bool t218)) (fun _ hk => hk.2) (.int .i64 t219)) (fun _ hk => hk.1), by repeat (first | (with_reducible first | exact HB.out | apply below_alloc | apply pw_below_drewN | apply below_drew1 | refine below_set ?_ GE202.out | refine below_set ?_ GE203.out | refine below_set ?_ GE212.out) | exact HB.out)⟩
     ·rw [if_neg c13] at H
      exact absurd H (by simp)
    ·rw [if_neg c12] at H
     exact absurd H (by simp)
   ·rw [if_neg c11] at H
    have c11b0 : decide (x16_1 < (l1.length : Int)) = false := decide_eq_false c11
    clear c11
    simp only [Option.some.injEq, Prod.mk.injEq] at H
    obtain ⟨rfl, rfl, rfl, rfl, rfl, rfl, rfl⟩ := H
    have hnb42 := NB203_202.out
    have hnc42 := NB202_203.out
    have hcz43_0 : wr.cell? ⟨gb203, 0, none⟩ = some (.int .i64 x204000_1) := (blk_cell BK203.out 0).trans rfl
    have hcz43_1 : wr.cell? ⟨gb203, 1, none⟩ = some (u204001) := (blk_cell BK203.out 1).trans rfl
    have hcz43_2 : wr.cell? ⟨gb203, 2, none⟩ = some (.int .i64 x204002_1) := (blk_cell BK203.out 2).trans rfl
    have hcz43_3 : wr.cell? ⟨gb203, 3, none⟩ = some (.bool x204003_1) := (blk_cell BK203.out 3).trans rfl
    have hcz43_4 : wr.cell? ⟨gb203, 4, none⟩ = some (.int .i64 x204004_1) := (blk_cell BK203.out 4).trans rfl
    have hfz43_0 := blk_frozen BK203.out 0
    have hfz43_1 := blk_frozen BK203.out 1
    have hfz43_2 := blk_frozen BK203.out 2
    have hfz43_3 := blk_frozen BK203.out 3
    have hfz43_4 := blk_frozen BK203.out 4
    obtain ⟨Ao44, co44, eo44⟩ := Kd.V_slice HO_204001.out
    subst eo44
    go_wp2
    refine bodyPost_ret (results_ctt rfl _ _ gb203 27 #[.int .i64 x204000_1, .slice Ao44 x204001_1.length co44, .int .i64 x204002_1, .bool x204003_1, .int .i64 x204004_1] (0, 0) _ rfl (by (with_reducible repeat (first | refine blk_drewN ?_ _ | refine blk_drew ?_ | refine blk_alloc ?_ _)); refine blk_put (cs := #[.int .i64 x204000_1, .slice Ao44 x204001_1.length co44, .int .i64 x204002_1, .bool x204003_1, .int .i64 x204004_1]) ?_ 4 _ rfl; (with_reducible repeat (first | refine blk_drewN ?_ _ | refine blk_drew ?_ | refine blk_alloc ?_ _)); refine blk_put (cs := #[.int .i64 x204000_1, .slice Ao44 x204001_1.length co44, .int .i64 x204002_1, .bool x204003_1, .int .i64 x204004_1]) ?_ 3 _ rfl; (with_reducible repeat (first | refine blk_drewN ?_ _ | refine blk_drew ?_ | refine blk_alloc ?_ _)); refine blk_put (cs := #[.int .i64 x204000_1, .slice Ao44 x204001_1.length co44, .int .i64 x204002_1, .bool x204003_1, .int .i64 x204004_1]) ?_ 2 _ rfl; (with_reducible repeat (first | refine blk_drewN ?_ _ | refine blk_drew ?_ | refine blk_alloc ?_ _)); refine blk_put (cs := #[.int .i64 x204000_1, .slice Ao44 x204001_1.length co44, .int .i64 x204002_1, .bool x204003_1, .int .i64 x204004_1]) ?_ 1 _ rfl; (with_reducible repeat (first | refine blk_drewN ?_ _ | refine blk_drew ?_ | refine blk_alloc ?_ _)); refine blk_put (cs := #[.int .i64 x204000_1, .slice Ao44 x204001_1.length co44, .int .i64 x204002_1, .bool x204003_1, .int .i64 x204004_1]) ?_ 0 _ rfl; (with_reducible repeat (first | refine blk_drewN ?_ _ | refine blk_drew ?_ | refine blk_alloc ?_ _)); exact BK203.out) Try.underlying27 rfl (by kernel_rfl)) rfl ?_
    exact ⟨_, _, by first | rfl | (simp [errW_none, errW_some] <;> rfl) | (simp [*, errW_none, errW_some] <;> rfl), by (with_reducible repeat (first | apply Kd.V_alloc | apply Kd.V_drewN | apply Kd.V_drew)); exact Kd.V_mono (Kd.V_far (p := ⟨gb203, 4, none⟩) (Kd.V_far (p := ⟨gb203, 3, none⟩) (Kd.V_far (p := ⟨gb203, 2, none⟩) (Kd.V_far (p := ⟨gb203, 1, none⟩) (Kd.V_far (p := ⟨gb203, 0, none⟩) (Kd.V_mono HO_204001.out (fun k_ hk => (⟨hk, hk.2.2.2⟩ : _ ∧ k_ ≠ gb203))) (fun _ hk => hk.2) (.int .i64 x204000_1)) (fun _ hk => hk.2) (.slice Ao44 x204001_1.length co44)) (fun _ hk => hk.2) (.int .i64 x204002_1)) (fun _ hk => hk.2) (.bool x204003_1)) (fun _ hk => hk.2) (.int .i64 x204004_1)) (fun _ hk => ⟨hk.1.1, hk.1.2.1⟩), by (with_reducible repeat (first | apply Kd.R_alloc | apply Kd.R_drewN | apply Kd.R_drew)); exact Kd.R_mono (Kd.R_far (p := ⟨gb203, 4, none⟩) (Kd.R_far (p := ⟨gb203, 3, none⟩) (Kd.R_far (p := ⟨gb203, 2, none⟩) (Kd.R_far (p := ⟨gb203, 1, none⟩) (Kd.R_far (p := ⟨gb203, 0, none⟩) (Kd.R_types HO_5.out BK203.out (by decide)) (fun _ hk => hk.2) (.int .i64 x204000_1)) (fun _ hk => hk.2) (.slice Ao44 x204001_1.length co44)) (fun _ hk => hk.2) (.int .i64 x204002_1)) (fun _ hk => hk.2) (.bool x204003_1)) (fun _ hk => hk.2) (.int .i64 x204004_1)) (fun _ hk => hk.1), by repeat (first | (with_reducible first | exact HB.out | apply below_alloc | apply pw_below_drewN | apply below_drew1 | refine below_set ?_ GE202.out | refine below_set ?_ GE203.out) | exact HB.out)⟩
end Go.Proofs.Ytdgefplbfffenaa.X
namespace Go.Proofs.Ytdgefplbfffenaa.X
open Go.RowKit Go.Proofs.YtdgefplbfffenaaW.PrintWords Go.Proofs.YtdgefplbfffenaaW.PrintLast Go.Proofs.YtdgefplbfffenaaW.PrintMore
attribute [local go_sem] max2_int min2_int max_two min_two max_three min_three max_four min_four   -- for this text's walks alone
set_option linter.unusedVariables false
set_option linter.unusedSimpArgs false
mutual
def le_Take.j0 : Nat → List Int → Int → Int → Bool → Option (Int × List Int × Int)
 | 0, _, _, _, _ => none
 | k + 1, x0, x1, x4, x16 => if x16 = true then (some (0, ([] : List Int), 10)) else (le_Take.l0 k x0 x1 x4 x1 0)
def le_Take.l0 : Nat → List Int → Int → Int → Int → Int → Option (Int × List Int × Int)
 | 0, _, _, _, _, _ => none
 | k + 1, x0, x1, x4, x17, x18 => if x18 < x17 then (if 0 ≤ x18 then (if x18 < (x0.length : Int) then (if 0 ≤ (wrap64 (8 * x18)) then (le_Take.l0 k x0 x1 (Go.bits .or .u64 x4 (shl .u64 (IntKind.u64.wrap (rd x0 x18)) (wrap64 (8 * x18)))) x17 (wrap64 (x18 + 1))) else (none)) else (none)) else (none)) else (if 0 ≤ x1 then (if x1 ≤ (x0.length : Int) then ((bytes_Clone.f (x0.drop (x1 : Int).toNat)).bind fun t525 => (some (x4, t525, 0))) else (none)) else (none))
end
def le_Take.f (k : Nat) (l0 : List Int) (a1 : Int) : Option (Int × List Int × Int) := (le_may.f 0 a1).bind fun t522 => (if t522 = true then (le_Take.j0 k l0 a1 0 (decide ((l0.length : Int) < a1))) else (le_Take.j0 k l0 a1 0 true))
set_option maxHeartbeats 8000000 in
set_option maxRecDepth 100000 in
theorem le_Take.calls (k : Nat) (A0 : Option Addr) (c0 : Nat) (l0 : List Int) (a1 : Int) (r1 : Int) (r2 : List Int) (r3 : Int) (w : World) (hr0 : Kd.C (Kd.int .u8) w A0 l0.length l0) (hc0 : l0.length ≤ c0) (h : le_Take.f k l0 a1 = some (r1, r2, r3)) :
  Calls Try.prog 101 #[.slice A0 l0.length c0, .int .i64 a1] w fun e w' => ∃ v1_ : Value, e = .returned (.tuple #[.int .u64 r1, v1_, .int .i64 r3]) ∧ Kd.R (Kd.int .u8) 5 w' w.heap.size (fun _ => True) v1_ r2 ∧ Below w.heap.size w w' := by
 have HR0 := Aside0.mk hr0
 have HC0 := Aside0.mk hc0
 clear hr0 hc0
 have HB := Aside0.mk (Below.refl w.heap.size w)
 have H : ((le_may.f 0 a1).bind fun t522 => (if t522 = true then (le_Take.j0 k l0 a1 0 (decide ((l0.length : Int) < a1))) else (le_Take.j0 k l0 a1 0 true))) = some (r1, r2, r3) := h
 clear h
 have HC3 := Aside0.mk H
 clear H
 go_enter Try.func101, Try.ntmps101
 go_upto_region 1 with (fail)
 go_cut [16] (fun v16 wc => ∃ (kq : Nat) (x16_2 : Bool), v16 = .bool x16_2 ∧ Aside0 (le_Take.j0 kq l0 a1 0 x16_2 = some (r1, r2, r3)) ∧ Aside0 (kq ≤ k) ∧ Aside0 (Below w.heap.size w wc))
 case first =>
  have H := HC3.out
  clear HC3
  replace H := Option.bind_eq_some_iff.mp H
  obtain ⟨t522, A40, H⟩ := H
  replace H : (if t522 = true then (le_Take.j0 k l0 a1 0 (decide ((l0.length : Int) < a1))) else (le_Take.j0 k l0 a1 0 true)) = some (r1, r2, r3) := H
  have A4 := Aside0.mk A40
  clear A40
  by_cases c5 : t522 = true
  ·subst c5
   have H1 : (le_Take.j0 k l0 a1 0 (decide ((l0.length : Int) < a1))) = some (r1, r2, r3) := by rw [if_pos rfl] at H; exact H
   clear H
   have H := H1
   clear H1
   have H' := Aside0.mk H
   clear H
   go_wp2_with (first | ((with_reducible refine gate_callee (f := 94) rfl ?_); refine goesL_ (some 9) rfl rfl Try.func94 (by kernel_rfl) rfl #[.int .u64 0, .int .i64 a1] rfl (by (try simp only [List.map_toArray, List.map_cons, List.map_nil]); first | done | rfl | (simp only [List.length_drop, List.length_take]; rfl)) ?_; (with_reducible refine (le_may.calls 0 a1 true _ A4.out).mono ?_); rintro e w' ⟨rfl, ⟨nd, rfl⟩⟩; refine ⟨_, rfl, ?_⟩))
   go_meet
   case rel => exact ⟨_, (decide ((l0.length : Int) < a1)), (by first | rfl | (simp; done) | (simp [*]; done)), H', ⟨by first | omega | exact Nat.le_refl _⟩, ⟨by repeat (first | (with_reducible first | exact HB.out | apply below_alloc | apply pw_below_drewN | apply below_drew1) | exact HB.out)⟩⟩
  ·replace c5 := Bool.eq_false_iff.mpr c5
   subst c5
   have H1 : (le_Take.j0 k l0 a1 0 true) = some (r1, r2, r3) := by rw [if_neg (show ¬ (false = true) by decide)] at H; exact H
   clear H
   have H := H1
   clear H1
   have H' := Aside0.mk H
   clear H
   go_wp2_with (first | ((with_reducible refine gate_callee (f := 94) rfl ?_); refine goesL_ (some 9) rfl rfl Try.func94 (by kernel_rfl) rfl #[.int .u64 0, .int .i64 a1] rfl (by (try simp only [List.map_toArray, List.map_cons, List.map_nil]); first | done | rfl | (simp only [List.length_drop, List.length_take]; rfl)) ?_; (with_reducible refine (le_may.calls 0 a1 false _ A4.out).mono ?_); rintro e w' ⟨rfl, ⟨nd, rfl⟩⟩; refine ⟨_, rfl, ?_⟩))
   go_meet
   case rel => exact ⟨_, (true), (by first | rfl | (simp; done) | (simp [*]; done)), H', ⟨by first | omega | exact Nat.le_refl _⟩, ⟨by repeat (first | (with_reducible first | exact HB.out | apply below_alloc | apply pw_below_drewN | apply below_drew1) | exact HB.out)⟩⟩
 case rest =>
  clear HC3
  try clear c1
  try clear p2
  try clear c5
  obtain ⟨kq, x16_2, rfl, HA, HJ2, HB⟩ := hcut
  cases kq with
  | zero => exact absurd HA.out (by simp [le_Take.j0])
  | succ kj2 =>
   have H := HA.out
   clear HA
   simp only [le_Take.j0] at H
   by_cases c6 : x16_2 = true
   ·subst c6
    have H1 : (some (0, ([] : List Int), 10)) = some (r1, r2, r3) := by rw [if_pos rfl] at H; exact H
    clear H
    have H := H1
    clear H1
    simp only [Option.some.injEq, Prod.mk.injEq] at H
    obtain ⟨rfl, rfl, rfl⟩ := H
    go_wp2
    go_ret3
    exact ⟨_, by first | rfl | (simp [errW_none, errW_some] <;> rfl) | (simp [*, errW_none, errW_some] <;> rfl), by first | exact Kd.R_nil _ _ _ _ _ | exact Kd.N_nil _ _ _ _ _ | exact Kd.V_nil _ _ _ _ _ | exact Kd.Q_nil _ _ _ _ _ | exact Kd.S_nil _ _ _ _ _, by repeat (first | (with_reducible first | exact HB.out | apply below_alloc | apply pw_below_drewN | apply below_drew1) | exact HB.out)⟩
   ·replace c6 := Bool.eq_false_iff.mpr c6
    subst c6
    have H1 : (le_Take.l0 kj2 l0 a1 0 a1 0) = some (r1, r2, r3) := by rw [if_neg (show ¬ (false = true) by decide)] at H; exact H
    clear H
    have H := H1
    clear H1
    have H' := Aside0.mk H
    clear H
    go_wp2
    go_loopg [4, 18] kj2 (fun kq v4 v18 w' => ∃ (x4_2 : Int) (x18_2 : Int), v4 = .int .u64 x4_2 ∧ v18 = .int .i64 x18_2 ∧ Aside0 (le_Take.l0 kq l0 a1 x4_2 a1 x18_2 = some (r1, r2, r3)) ∧ Aside0 (kq ≤ kj2) ∧ Aside0 (Below w.heap.size w w'))
    case atStart => exact ⟨(0), (0), (by first | rfl | (simp; done) | (simp [*]; done)), (by first | rfl | (simp; done) | (simp [*]; done)), H', ⟨Nat.le_refl _⟩, ⟨by repeat (first | (with_reducible first | exact HB.out | apply below_alloc | apply pw_below_drewN | apply below_drew1) | exact HB.out)⟩⟩
    case round =>
     clear H'
     try clear c1
     try clear p2
     try clear c5
     try clear c6
     try clear p2
     obtain ⟨x4_2, x18_2, rfl, rfl, HA, HK2, HB⟩ := hrel
     cases gk with
     | zero => exact absurd HA.out (by simp [le_Take.l0])
     | succ k2 =>
      have H := HA.out
      clear HA
      simp only [le_Take.l0] at H
      by_cases c7 : x18_2 < a1
      ·rw [if_pos c7] at H
       have c7b0 : decide (x18_2 < a1) = true := decide_eq_true c7
       clear c7
       by_cases c8 : 0 ≤ x18_2
       ·rw [if_pos c8] at H
        have c8b0 : decide (0 ≤ x18_2) = true := decide_eq_true c8
        clear c8
        by_cases c9 : x18_2 < (l0.length : Int)
        ·rw [if_pos c9] at H
         have c9b0 : decide (x18_2 < (l0.length : Int)) = true := decide_eq_true c9
         clear c9
         obtain ⟨ji10, hji10⟩ : ∃ j_ : Int, (wrap64 (8 * x18_2)) = j_ := ⟨_, rfl⟩
         replace H : (if 0 ≤ (ji10) then (le_Take.l0 k2 l0 a1 (Go.bits .or .u64 x4_2 (shl .u64 (IntKind.u64.wrap (rd l0 x18_2)) (ji10))) a1 (wrap64 (x18_2 + 1))) else (none)) = some (r1, r2, r3) := by first | (rw [hji10] at H; exact H) | (simp only [hji10] at H ⊢; exact H)
         have hji10w : (IntKind.i64.wrap (8 * x18_2)) = ji10 := (i64_w _).trans hji10
         by_cases c11 : 0 ≤ (ji10)
         ·rw [if_pos c11] at H
          have c11b0 := eq_true c11
          have c11b1 : decide (0 ≤ (ji10)) = true := decide_eq_true c11
          clear c11
          obtain ⟨ji12, hji12⟩ : ∃ j_ : Int, (shl .u64 (IntKind.u64.wrap (rd l0 x18_2)) (ji10)) = j_ := ⟨_, rfl⟩
          replace H : (le_Take.l0 k2 l0 a1 (Go.bits .or .u64 x4_2 (ji12)) a1 (wrap64 (x18_2 + 1))) = some (r1, r2, r3) := by first | (rw [hji12] at H; exact H) | (simp only [hji12] at H ⊢; exact H)
          have hji12_ : (IntKind.u64.wrap ((IntKind.u64.wrap (rd l0 x18_2)) * 2 ^ min (ji10).toNat 64)) = ji12 := hji12
          have hji12z : (ji10) ≤ 64 → (IntKind.u64.wrap ((IntKind.u64.wrap (rd l0 x18_2)) * 2 ^ (ji10).toNat)) = ji12 := shl_small hji12
          have H' := Aside0.mk H
          clear H
          have p523 : 0 ≤ (x18_2 : Int) := of_decide_eq_true (by first | (with_reducible assumption) | assumption)
          have q523 : x18_2 < (l0.length : Int) := of_decide_eq_true (by first | (with_reducible assumption) | assumption)
          obtain ⟨ad523, e523, hx523_0⟩ := Kd.at_int HR0.out x18_2 p523 q523
          cases e523
          replace hx523_0 := (HB.out.cell (World.block_lt_of_cell? w _ hx523_0)).trans hx523_0
          replace p523 := eq_true p523
          replace q523 := eq_true q523
          go_wp2
          go_roundg k2
          case measure => have := HJ2.out; have := HK2.out; omega
          case rel => exact ⟨(Go.bits .or .u64 x4_2 (ji12)), (wrap64 (x18_2 + 1)), (by first | rfl | (simp; done) | (simp only [← hji12] <;> (first | rfl | simp)) | (simp [*]; done)), (by first | rfl | (simp; done) | (simp [*]; done)), H', ⟨by have := HJ2.out; have := HK2.out; omega⟩, ⟨by repeat (first | (with_reducible first | exact HB.out | apply below_alloc | apply pw_below_drewN | apply below_drew1) | exact HB.out)⟩⟩
         ·rw [if_neg c11] at H
          exact absurd H (by simp)
        ·rw [if_neg c9] at H
         exact absurd H (by simp)
       ·rw [if_neg c8] at H
        exact absurd H (by simp)
      ·rw [if_neg c7] at H
       have c7b0 : decide (x18_2 < a1) = false := decide_eq_false c7
       clear c7
       by_cases c13 : 0 ≤ a1
       ·rw [if_pos c13] at H
        have c13b0 := eq_true c13
        have c13b1 : decide (0 ≤ a1) = true := decide_eq_true c13
        clear c13
        by_cases c14 : a1 ≤ (l0.length : Int)
        ·rw [if_pos c14] at H
         have c14b0 := eq_true c14
         have c14b1 : decide (a1 ≤ (l0.length : Int)) = true := decide_eq_true c14
         clear c14
         replace H := Option.bind_eq_some_iff.mp H
         obtain ⟨t525, A150, H⟩ := H
         replace H : (some (x4_2, t525, 0)) = some (r1, r2, r3) := H
         have A15 := Aside0.mk A150
         clear A150
         simp only [Option.some.injEq, Prod.mk.injEq] at H
         obtain ⟨rfl, rfl, rfl⟩ := H
         obtain ⟨i016, hi016, _, hsz16, _⟩ := info_parts info5
         obtain ⟨A16, hcut16, hA16, hC16⟩ := print_drop_of (P := Try.prog) (Value.int .u8) 0 34 5 .i64 Try.underlying34 hi016 hsz16 A0 c0 l0 a1 (of_decide_eq_true (by first | (with_reducible assumption) | assumption)) (of_decide_eq_true (by first | (with_reducible assumption) | assumption)) HC0.out
         have HR524 := Aside0.mk (Kd.C_of_reads (h1 := fun _ => rfl) (hA16 _ (Kd.reads_of_C HR0.out)))
         have HC524 := Aside0.mk hC16
         clear hA16 hC16 hi016 hsz16
         go_wp2_with (first | ((with_reducible refine gate_callee (f := 70) rfl ?_); refine goesL_ (some 36) rfl rfl Try.func70 (by kernel_rfl) rfl #[.slice A16 (l0.drop (a1 : Int).toNat).length (c0 - a1.toNat)] rfl (by (try simp only [List.map_toArray, List.map_cons, List.map_nil]); first | done | (rw [show (l0.drop (a1 : Int).toNat).length = (l0.length - a1.toNat) from List.length_drop] <;> rfl) | rfl | (simp only [List.length_drop, List.length_take]; rfl)) ?_; (with_reducible refine (bytes_Clone.calls _ _ (l0.drop (a1 : Int).toNat) t525 _ ?side1 ?side2 A15.out).mono ?_); (case side1 => repeat (first | exact (Kd.C_below HR524.out HB.out) | (with_reducible refine Kd.C_alloc ?_ _) | (with_reducible refine Kd.C_drewN ?_ _) | (with_reducible refine Kd.C_drew ?_))); (case side2 => exact HC524.out); rintro e w17 ⟨v526, rfl, ho0, hb⟩; refine ⟨_, rfl, ?_⟩; have n0_ := Aside0.mk (Kd.R_lower ho0 (below_size (by repeat (first | (with_reducible first | exact HB.out | apply below_alloc | apply pw_below_drewN | apply below_drew1) | exact HB.out)))); have n1_ := Aside0.mk (below_step (by repeat (first | (with_reducible first | exact HB.out | apply below_alloc | apply pw_below_drewN | apply below_drew1) | exact HB.out)) hb); clear HB; have HO527 := n0_; have HB := n1_; clear n0_ n1_; (try clear hb); (try clear hb2); (try clear hk); (try clear hi); (try clear ho0)))
         go_ret3
         exact ⟨_, by first | rfl | (simp [errW_none, errW_some] <;> rfl) | (simp [*, errW_none, errW_some] <;> rfl), by (with_reducible repeat (first | apply Kd.R_alloc | apply Kd.R_drewN | apply Kd.R_drew)); exact HO527.out, by repeat (first | (with_reducible first | exact HB.out | apply below_alloc | apply pw_below_drewN | apply below_drew1) | exact HB.out)⟩
        ·rw [if_neg c14] at H
         exact absurd H (by simp)
       ·rw [if_neg c13] at H
        exact absurd H (by simp)
end Go.Proofs.Ytdgefplbfffenaa.X
namespace Go.Proofs.Ytdgefplbfffenaa.X
open Go.RowKit Go.Proofs.YtdgefplbfffenaaW.PrintWords Go.Proofs.YtdgefplbfffenaaW.PrintLast Go.Proofs.YtdgefplbfffenaaW.PrintMore
/-- le.Unpack, from a place of its form on: the numbers so far go before. -/
def unpackL : List UInt8 → List Int → List Int → Option (List Int × Int)
  | [], b, acc => if 0 < b.length then some ([], 10) else some (acc, 0)
  | c :: cs, b, acc => if c.toNat < 128 then (match le_Take.f 12 b (le_size c.toNat) with | none => none | some (n, b2, e) => if e = 0 then (if acc.length < 17592186044416 then unpackL cs b2 (acc ++ [n]) else none) else some ([], e)) else none
def le_Unpack.f (a0 : ByteArray) (l1 : List Int) : Option (List Int × Int) := unpackL a0.data.toList l1 []
theorem rowIter64 {w : World} {base k : Nat} {v : Value} {xs : List Int} {s : ByteArray} {p : Nat} (hR : (Kd.int .u64).R 101 w base (fun _ => True) v xs) (hk : w.heap[k]? = some (.stringIter s p)) (p' : Nat) : (Kd.int .u64).R 101 (w.iterAt k s p') base (fun _ => True) v xs :=
  Kd.R_mono (Kd.R_move (Kd.R_bound hR) (fun j hj => Lib.iterAt_other w k j s p' (fun he => by obtain ⟨_, _, _, q, _, cs, hc⟩ := hj; rw [he, hk] at hc; cases hc))) (fun _ _ => trivial)
/-- The bytes that are left: the argument's row, or one of the call's own. -/
def LeftRow (w wr : World) (A1 : Option Addr) (c1 : Nat) (l1 : List Int) (v : Value) (b : List Int) : Prop :=
  (v = .slice A1 l1.length c1 ∧ b = l1) ∨ (Kd.int .u8).R 5 wr w.heap.size (fun _ => True) v b
theorem leftReads {w wr : World} {A1 : Option Addr} {c1 : Nat} {l1 : List Int} {v : Value} {b : List Int} (h : LeftRow w wr A1 c1 l1 v b) (hC : (Kd.int .u8).C w A1 l1.length l1 ∧ l1.length ≤ c1) (hB : Below w.heap.size w wr) :
    ∃ A c, v = .slice A b.length c ∧ b.length ≤ c ∧ (Kd.int .u8).C wr A b.length b := by
  rcases h with ⟨rfl, rfl⟩ | h
  · exact ⟨A1, c1, rfl, hC.2, Kd.C_below hC.1 hB⟩
  · exact Kd.R_reads h
theorem leftIter {w wr : World} {A1 : Option Addr} {c1 : Nat} {l1 : List Int} {v : Value} {b : List Int} {k : Nat} {s : ByteArray} {p : Nat} (h : LeftRow w wr A1 c1 l1 v b) (hk : wr.heap[k]? = some (.stringIter s p)) (p' : Nat) : LeftRow w (wr.iterAt k s p') A1 c1 l1 v b := by
  rcases h with h | h
  · exact .inl h
  · exact .inr (rowIter h hk p')
theorem leftGrown {w w6 w7 : World} {A1 : Option Addr} {c1 : Nat} {l1 : List Int} {v u : Value} {b acc : List Int} {base : Nat} {ok : Nat → Prop} (h : LeftRow w w6 A1 c1 l1 v b) (hR : (Kd.int .u64).R 101 w6 base ok u acc) (hg : w6.grownBy w7 u.ownBlock) : LeftRow w w7 A1 c1 l1 v b := by
  rcases h with h | h
  · exact .inl h
  · refine .inr (Kd.R_mono (Kd.R_grown (Kd.R_bound h) hg (fun k hk he => ?_)) (fun _ _ => trivial))
    obtain ⟨_, _, _, q, hq, cells, hc⟩ := hk
    obtain ⟨inner, ho⟩ := Kd.R_own hR
    obtain ⟨cells', hc'⟩ := own_typed ho k he.symm
    rw [hc] at hc'
    injection hc' with hc'
    injection hc' with _ hc'
    have hq5 : q = 5 := List.mem_singleton.1 hq
    rw [hq5] at hc'
    exact absurd hc' (by decide)
theorem iterGrown {w6 w7 : World} {u : Value} {acc : List Int} {base k p : Nat} {ok : Nat → Prop} {s : ByteArray} (h : w6.heap[k]? = some (.stringIter s p)) (hR : (Kd.int .u64).R 101 w6 base ok u acc) (hg : w6.grownBy w7 u.ownBlock) : w7.heap[k]? = some (.stringIter s p) := by
  rw [hg.block k (blk_lt h) (fun he => ?_), h]
  obtain ⟨inner, ho⟩ := Kd.R_own hR
  obtain ⟨cells', hc'⟩ := own_typed ho k he.symm
  rw [h] at hc'
  cases hc'
def iterLeft (w : World) (k : Nat) (s : ByteArray) : Nat := match w.heap[k]? with | some (.stringIter _ p) => s.size - p | _ => 0
theorem iterLeft_at {w : World} {k : Nat} {s s' : ByteArray} {p : Nat} (h : w.heap[k]? = some (.stringIter s' p)) : iterLeft w k s = s.size - p := by unfold iterLeft; rw [h]
set_option maxHeartbeats 8000000 in
set_option maxRecDepth 100000 in
theorem le_Unpack.calls (a0 : ByteArray) (A1 : Option Addr) (c1 : Nat) (l1 : List Int) (r1 : List Int) (r2 : Int) (w : World) (hr1 : Kd.C (Kd.int .u8) w A1 l1.length l1) (hc1 : l1.length ≤ c1) (h : le_Unpack.f a0 l1 = some (r1, r2)) :
    Calls Try.prog 90 #[.string a0, .slice A1 l1.length c1] w fun e w' => ∃ v0_ : Value, e = .returned (.tuple #[v0_, .int .i64 r2]) ∧ Kd.R (Kd.int .u64) 101 w' w.heap.size (fun _ => True) v0_ r1 ∧ Below w.heap.size w w' := by
  unfold le_Unpack.f at h
  have HC := Aside0.mk (And.intro hr1 hc1)
  have HP := Aside0.mk h
  clear hr1 hc1 h
  go_enter Try.func90, Try.ntmps90
  go_wp2
  go_loopw [1, 4, 5] (fun v1 v4 v5 wr => ∃ (i : Nat) (b acc : List Int), v5 = .int .i64 0 ∧ i ≤ a0.size ∧ Aside0 (LeftRow w wr A1 c1 l1 v1 b) ∧ Aside0 (Kd.R (Kd.int .u64) 101 wr w.heap.size (fun _ => True) v4 acc) ∧ Aside0 (wr.heap[w.heap.size]? = some (.stringIter a0 i)) ∧ Aside0 (Below w.heap.size w wr) ∧ Aside0 (unpackL (a0.data.toList.drop i) b acc = some (r1, r2))) (fun _ _ _ wr => iterLeft wr w.heap.size a0)
  case atStart => exact ⟨0, l1, [], rfl, Nat.zero_le _, ⟨.inl ⟨rfl, rfl⟩⟩, ⟨Kd.R_nil _ _ _ _ _⟩, ⟨World.iter_heap w a0 0⟩, ⟨(Below.refl _ w).alloc (Nat.le_refl _) _⟩, ⟨HP.out⟩⟩
  case round =>
    obtain ⟨i, b, acc, rfl, hi, HL, HR, HI, HB, HU⟩ := hrel
    obtain ⟨A4, c4, rfl⟩ := Kd.R_slice HR.out
    by_cases hps : i < a0.size
    · have hdr : a0.data.toList.drop i = a0[i] :: a0.data.toList.drop (i + 1) := List.drop_eq_getElem_cons (by simpa using hps)
      have hq := HU.out
      rw [hdr] at hq
      unfold unpackL at hq
      split at hq
      · rename_i hasc
        have hnx : ∀ ty, (Instr.next (.pointer (some ⟨w.heap.size, 0, none⟩)) true ty).run Try.prog wr = _ := fun ty => Lib.run_next_ascii_at wr w.heap.size a0 i ty HI.out hps hasc
        have HM := Aside0.mk (iterLeft_at (s := a0) HI.out)
        have HI2 := Aside0.mk (Lib.iterAt_heap wr w.heap.size a0 i (i + 1) HI.out)
        have HB2 := Aside0.mk (Lib.below_iterAt HB.out (k := w.heap.size) (Nat.le_refl _) a0 (i + 1))
        have HR2 := Aside0.mk (rowIter64 HR.out HI.out (i + 1))
        have HL2 := Aside0.mk (leftIter HL.out HI.out (i + 1))
        generalize wr.iterAt w.heap.size a0 (i + 1) = W at *
        obtain ⟨A, c, hv, hbc, hCb⟩ := leftReads HL2.out HC.out HB2.out
        subst hv
        have HCB := Aside0.mk (And.intro hbc hCb)
        clear hbc hCb
        have hc0 : (0 : Int) ≤ (a0[i].toNat : Int) := by omega
        have hc1 : (a0[i].toNat : Int) < 128 := by omega
        have HS := Aside0.mk (size_calls (a0[i].toNat : Int) W hc0 hc1)
        generalize (a0[i].toNat : Int) = ch at *
        have HQ := Aside0.mk hq
        clear hq
        have Hle := Aside0.mk (And.intro hi hps)
        clear hi hps hdr hc0 hc1 hasc
        go_wp2_with fail
        refine HS.out.mono ?_
        rintro e w5 ⟨rfl, hw⟩
        rw [hw]
        clear hw
        go_wp2_with fail
        cases htk : le_Take.f 12 b (le_size ch) with
        | none => have hq := HQ.out; rw [htk] at hq; cases hq
        | some ae =>
          obtain ⟨tn, tb, te⟩ := ae
          have HT := Aside0.mk htk
          have hq := HQ.out
          rw [htk] at hq
          replace HQ := Aside0.mk hq
          clear hq htk
          refine (le_Take.calls 12 A c b (le_size ch) tn tb te W HCB.out.2 HCB.out.1 HT.out).mono ?_
          rintro e w6 ⟨v6, rfl, hR6, hb6⟩
          have HL6 := Aside0.mk (show LeftRow w w6 A1 c1 l1 v6 tb from .inr (Kd.R_lower hR6 HB2.out.size))
          obtain ⟨A6, c6, rfl⟩ := Kd.R_slice hR6
          have HR6 := Aside0.mk (Kd.R_below HR2.out hb6)
          have HI6 := Aside0.mk (blkAny_below HI2.out hb6)
          have HB6 := Aside0.mk (HB2.out.trans (hb6.mono HB2.out.size))
          clear hR6 hb6
          by_cases hte : te = 0
          · subst hte
            have hq := HQ.out
            simp only [if_true] at hq
            split at hq
            · rename_i hlim
              replace HQ := Aside0.mk hq
              have HLM := Aside0.mk hlim
              clear hq hlim
              go_wp2_with (first | ((with_reducible refine gate_builtin (b := .append) rfl ?_); at_builtin; refine Kd.R_append (Kd.int .u64) (w0 := w) w.heap.size rfl (.tmp 25) (.tmp 27) 120 101 (.int .u64 0) 8 rfl Try.underlying120 info101 rfl (by decide) (by omega) _ acc tn [.int .u64 tn] (fun _ => True) (fun _ => False) rfl rfl ?aP (fun _ hk => hk.elim) ?aF ?aO ?aB ?aS ?aL ?_; (case aP => exact rfl); (case aB => exact HB6.out); (case aF => exact (fun _ _ => trivial)); (case aO => exact HR6.out); (case aS => exact (HB6.out.size)); (case aL => have := HLM.out; omega); intro v7 w7 ho hb hg hat; have HR7 := Aside0.mk ho; have HB7 := Aside0.mk hb; have HG7 := Aside0.mk hg; clear ho hb hg hat))
              have HL7 := Aside0.mk (leftGrown HL6.out HR6.out HG7.out)
              have HI7 := Aside0.mk (iterGrown HI6.out HR6.out HG7.out)
              go_roundw
              case rel => exact ⟨i + 1, tb, acc ++ [tn], rfl, by have := Hle.out; omega, HL7, HR7, HI7, HB7, HQ⟩
              case measure => rw [HM.out, iterLeft_at HI7.out]; have := Hle.out; omega
            · cases hq
          · have hrn : (te != 0) = true := bne_iff_ne.mpr hte
            have hq := HQ.out
            simp only [if_neg hte] at hq
            obtain ⟨hr1, hr2⟩ := Prod.mk.inj (Option.some.inj hq)
            subst hr1 hr2
            go_wp2
            refine bodyPost_ret (results_tmp2 rfl _ _ _) rfl ?_
            exact ⟨_, rfl, Kd.R_nil _ _ _ _ _, HB6.out⟩
      · cases hq
    · obtain rfl : i = a0.size := by omega
      have hnx : ∀ ty, (Instr.next (.pointer (some ⟨w.heap.size, 0, none⟩)) true ty).run Try.prog wr = _ := fun ty => Lib.run_next_end_at wr w.heap.size a0 a0.size ty HI.out hps
      obtain ⟨A, c, hv, hbc, hCb⟩ := leftReads HL.out HC.out HB.out
      subst hv
      clear hbc hCb
      have hq := HU.out
      rw [List.drop_eq_nil_of_le (by simp)] at hq
      unfold unpackL at hq
      by_cases hv : 0 < b.length
      · rw [if_pos hv] at hq
        obtain ⟨hr1, hr2⟩ := Prod.mk.inj (Option.some.inj hq)
        subst hr1 hr2
        have hd : decide ((b.length : Int) > 0) = true := decide_eq_true (by omega)
        have hd2 : decide (0 < (b.length : Int)) = true := decide_eq_true (by omega)
        have hd3 : decide (0 < b.length) = true := decide_eq_true hv
        clear hq hv
        go_wp2
        refine bodyPost_ret (results_tmp2 rfl _ _ _) rfl ?_
        exact ⟨_, rfl, Kd.R_nil _ _ _ _ _, HB.out⟩
      · rw [if_neg hv] at hq
        obtain ⟨hr1, hr2⟩ := Prod.mk.inj (Option.some.inj hq)
        subst hr1 hr2
        have hd : decide ((b.length : Int) > 0) = false := decide_eq_false (by omega)
        have hd2 : decide (0 < (b.length : Int)) = false := decide_eq_false (by omega)
        have hd3 : decide (0 < b.length) = false := decide_eq_false hv
        clear hq hv
        go_wp2
        refine bodyPost_ret (results_tmp2 rfl _ _ _) rfl ?_
        exact ⟨_, rfl, HR.out, HB.out⟩
end Go.Proofs.Ytdgefplbfffenaa.X
namespace Go.Proofs.Ytdgefplbfffenaa.X
open Go.RowKit Go.Proofs.YtdgefplbfffenaaW.PrintWords Go.Proofs.YtdgefplbfffenaaW.PrintLast Go.Proofs.YtdgefplbfffenaaW.PrintMore
def crc_Open.f (l0 : List Int) : Option (List Int × Int) :=
  if l0.length < 4 then some ([], 20) else
  match crc_Seal.f 12 (l0.take (l0.length - 4)) with
  | none => none
  | some t => if ((strOfNums t).toList == (strOfNums l0).toList) = true then (if l0.length < 140737488355328 then some (l0.take (l0.length - 4), 0) else none) else some ([], 20)
set_option maxHeartbeats 8000000 in
set_option maxRecDepth 100000 in
theorem crc_Open.calls (A0 : Option Addr) (c0 : Nat) (l0 : List Int) (r1 : List Int) (r2 : Int) (w : World) (hr0 : Kd.C (Kd.int .u8) w A0 l0.length l0) (hc0 : l0.length ≤ c0) (h : crc_Open.f l0 = some (r1, r2)) :
    Calls Try.prog 91 #[.slice A0 l0.length c0] w fun e w' => ∃ v0_ : Value, e = .returned (.tuple #[v0_, .int .i64 r2]) ∧ Kd.R (Kd.int .u8) 5 w' w.heap.size (fun _ => True) v0_ r1 ∧ Below w.heap.size w w' := by
  unfold crc_Open.f at h
  have hlen : l0.length ≤ 9223372036854775807 := hr0.2.1
  by_cases h4 : l0.length < 4
  · rw [if_pos h4] at h
    obtain ⟨rfl, rfl⟩ := Prod.mk.inj (Option.some.inj h)
    have e1 : wrap64 ((l0.length : Int) - 4) = (l0.length : Int) - 4 := by unfold wrap64; omega
    have d1 : decide (wrap64 ((l0.length : Int) - 4) < 0) = true := decide_eq_true (by omega)
    have d2 : decide ((l0.length : Int) - 4 < 0) = true := decide_eq_true (by omega)
    clear h hr0 hc0 e1 h4
    go_enter Try.func91, Try.ntmps91
    go_wp2
    refine bodyPost_ret (results_tmp2 rfl _ _ _) rfl ?_
    exact ⟨_, rfl, Kd.R_nil _ _ _ _ _, Below.refl _ _⟩
  · rw [if_neg h4] at h
    obtain ⟨m, hm⟩ : ∃ m : Nat, l0.length = m + 4 := ⟨l0.length - 4, by omega⟩
    rw [show l0.length - 4 = m by omega] at h
    obtain ⟨j, hj⟩ : ∃ j : Int, wrap64 ((l0.length : Int) - 4) = j := ⟨_, rfl⟩
    have hjm : j = (m : Int) := by rw [← hj]; unfold wrap64; omega
    have hj2 : IntKind.i64.wrap ((l0.length : Int) - 4) = j := (i64_w _).trans hj
    obtain ⟨i0, hi0, _, hsz, _⟩ := info_parts info5
    obtain ⟨hcut, hA, hC⟩ := print_take_of (P := Try.prog) (Value.int .u8) 0 34 5 .i64 Try.underlying34 hi0 hsz A0 c0 l0 j (by omega) (by omega) hc0
    have HR := Aside0.mk (Kd.C_of_reads (h1 := fun _ => rfl) (hA _ (Kd.reads_of_C hr0)))
    have HC := Aside0.mk hC
    have hjt : j.toNat = m := by omega
    rw [hjt] at HR HC hcut
    obtain ⟨lt, hlt⟩ : ∃ lt, lt = l0.take m := ⟨_, rfl⟩
    rw [← hlt] at HR HC hcut h
    have HLT := Aside0.mk hlt
    clear hlt
    have hd : decide (j < 0) = false := decide_eq_false (by omega)
    have HR0 := Aside0.mk (And.intro hr0 hc0)
    clear hA hC hi0 hsz hr0 hc0 h4
    have HJ := Aside0.mk (And.intro hm (And.intro hjm (And.intro hjt hlen)))
    clear hm hjm hjt hlen
    cases hs : crc_Seal.f 12 lt with
    | none => rw [hs] at h; cases h
    | some t =>
      rw [hs] at h
      have HS := Aside0.mk hs
      have H := Aside0.mk h
      clear hs h
      have hce := crc_Seal.calls 12 A0 c0 lt t w HR.out HC.out HS.out
      have HCE := Aside0.mk hce
      clear hce
      cases hq : ((strOfNums t).toList == (strOfNums l0).toList) with
      | true =>
        have HQ := Aside0.mk (show bytes_Equal.f t l0 = some true from congrArg some hq)
        have h := H.out
        simp only [hq, if_true] at h
        clear hq
        split at h
        · rename_i hlim
          obtain ⟨rfl, rfl⟩ := Prod.mk.inj (Option.some.inj h)
          have HL := Aside0.mk hlim
          clear h hlim
          go_enter Try.func91, Try.ntmps91
          go_wp2_with fail
          refine HCE.out.mono ?_
          rintro e w1 ⟨v1, rfl, hR1, hb1⟩
          obtain ⟨A1, c1, rfl⟩ := Kd.R_slice hR1
          have HR1 := Aside0.mk (Kd.R_reads' hR1)
          have HB1 := Aside0.mk hb1
          clear hR1 hb1
          go_wp2_with fail
          refine (bytes_Equal.calls A1 c1 t A0 c0 l0 true w1 HR1.out.2.2 HR1.out.2.1 (Kd.C_below HR0.out.1 HB1.out) HR0.out.2 HQ.out).mono ?_
          rintro e w2 ⟨rfl, ⟨nd, rfl⟩⟩
          have HB2 := Aside0.mk (pw_below_drewN HB1.out nd)
          have HLC := Aside0.mk (Kd.C_below HR.out HB2.out)
          have HLL : lt.length < 140737488355328 := by have := HLT.out; have := HJ.out; have h2 : lt.length = m := by rw [HLT.out, List.length_take]; omega
                                                       have := HL.out; omega
          have HLL2 := Aside0.mk HLL
          clear HLL
          generalize w1.drewN nd = w2 at *
          go_wp2_with (first
            | ((with_reducible refine gate_dst (N := 19) rfl ?_); refine Kd.R_lit (Kd.int .u8) (w0 := w2) w2.heap.size 5 ?hg (N := 19) ?hd (xs := ([] : List Int)) (inner := []) (ok := fun _ => True) (okp := fun _ => True) ?hr ?hp (fun _ hk => hk) trivial (Below.refl _ _) (Nat.le_refl _) (by simp) ?_; (case hd => rfl); (case hg => rfl); (case hr => first | (go_simp; done) | (go_simp; rfl)); (case hp => exact (Reps.none _ _)); intro v3 w3 hR3 hB3 _ _)
            | (at_builtin; refine Kd.R_append_rows (Kd.int .u8) (w0 := w) w.heap.size rfl (.tmp 19) (.tmp 22) 34 5 (.int .u8 0) 1 rfl Try.underlying34 info5 rfl (by decide) (by omega) v3 [] lt _ _ _ (fun _ => True) (fun _ => False) rfl rfl (Kd.R_lower hR3 HB2.out.size) (Kd.C_below HLC.out hB3) (fun _ _ h => h) (fun _ h => h.elim) (fun _ _ => trivial) (HB2.out.trans (hB3.mono HB2.out.size)) (Nat.le_trans HB2.out.size hB3.size) ?_ ?_; (case _ => have := HLL2.out; simp; omega); intro v4 w4 hR4 hB4 _ _))
          refine bodyPost_ret (results_tmp2 rfl _ _ _) rfl ?_
          exact ⟨_, rfl, hR4, hB4⟩
        · cases h
      | false =>
        have HQ := Aside0.mk (show bytes_Equal.f t l0 = some false from congrArg some hq)
        have h := H.out
        simp only [hq, Bool.false_eq_true, if_false] at h
        obtain ⟨rfl, rfl⟩ := Prod.mk.inj (Option.some.inj h)
        clear h hq
        go_enter Try.func91, Try.ntmps91
        go_wp2_with fail
        refine HCE.out.mono ?_
        rintro e w1 ⟨v1, rfl, hR1, hb1⟩
        obtain ⟨A1, c1, rfl⟩ := Kd.R_slice hR1
        have HR1 := Aside0.mk (Kd.R_reads' hR1)
        have HB1 := Aside0.mk hb1
        clear hR1 hb1
        go_wp2_with fail
        refine (bytes_Equal.calls A1 c1 t A0 c0 l0 false w1 HR1.out.2.2 HR1.out.2.1 (Kd.C_below HR0.out.1 HB1.out) HR0.out.2 HQ.out).mono ?_
        rintro e w2 ⟨rfl, ⟨nd, rfl⟩⟩
        have HB2 := Aside0.mk (pw_below_drewN HB1.out nd)
        go_wp2
        refine bodyPost_ret (results_tmp2 rfl _ _ _) rfl ?_
        exact ⟨_, rfl, Kd.R_nil _ _ _ _ _, HB2.out⟩
end Go.Proofs.Ytdgefplbfffenaa.X
namespace Go.Proofs.Ytdgefplbfffenaa.X
open Go.RowKit Go.Proofs.YtdgefplbfffenaaW.PrintWords Go.Proofs.YtdgefplbfffenaaW.PrintLast Go.Proofs.YtdgefplbfffenaaW.PrintMore
def rform : ByteArray := ⟨#[119, 104, 104, 113]⟩
def record_Read.f (l : List Int) : Option (Int × Int × List Int × Int × Int) :=
  if l.length < 16 then some (0, 0, [], 0, 50) else
  match le_Unpack.f rform (l.take 16) with
  | none => none
  | some (n, e) =>
    if e ≠ 0 then some (0, 0, [], 0, 50) else
    if n.length ≠ 4 then none else
    if rd n 0 ≠ 1196184151 then some (0, 0, [], 0, 50) else
    if rd n 3 > 4611686018427387903 then some (0, 0, [], 0, 50) else
    match record_Size.f (wrap64 (rd n 2)) with
    | none => none
    | some size =>
      if size = 0 then some (0, 0, [], 0, 50) else
      if (l.length : Int) < size then some (0, 0, [], 0, 50) else
      if size < 0 then none else
      match crc_Open.f (l.take size.toNat) with
      | none => none
      | some (text, e2) =>
        if e2 ≠ 0 then some (0, 0, [], 0, 50) else
        if text.length < 16 then none else
        if 140737488355328 ≤ (text.drop 16).length then none else
        match record_Check.f (wrap64 (rd n 1)) (wrap64 (rd n 3)) (text.drop 16) with
        | none => none
        | some e3 => if e3 ≠ 0 then some (0, 0, [], 0, 50) else some (wrap64 (rd n 1), wrap64 (rd n 3), text.drop 16, size, 0)
def ReadPost (w : World) (r1 r2 : Int) (r3 : List Int) (r4 r5 : Int) (e : Ending) (w' : World) : Prop :=
  ∃ v2_ : Value, e = .returned (.tuple #[.agg #[.int .i64 r1, .int .i64 r2, v2_], .int .i64 r4, .int .i64 r5]) ∧ Kd.R (Kd.int .u8) 5 w' w.heap.size (fun _ => True) v2_ r3 ∧ Below w.heap.size w w'
set_option maxHeartbeats 400000 in
set_option maxRecDepth 100000 in
theorem record_Read.walk_ (A0 : Option Addr) (c0 : Nat) (l0 : List Int) (r1 : Int) (r2 : Int) (r3 : List Int) (r4 : Int) (r5 : Int) (w : World) (hr0 : Kd.C (Kd.int .u8) w A0 l0.length l0) (hc0 : l0.length ≤ c0) (h : record_Read.f l0 = some (r1, r2, r3, r4, r5)) :
    Calls Try.prog 74 #[.slice A0 l0.length c0] w (ReadPost w r1 r2 r3 r4 r5) := by
  have hu36 := Try.underlying36
  unfold record_Read.f at h
  have hlen : l0.length ≤ 9223372036854775807 := hr0.2.1
  have hb0 := below_alloc (Below.refl w.heap.size w) (.cells #[.int .i64 0, .int .i64 0, .slice none 0 0] 36)
  have k0 := blk_new w (.cells #[.int .i64 0, .int .i64 0, .slice none 0 0] 36)
  have HB := Aside0.mk hb0
  have HK := Aside0.mk k0
  clear hb0
  by_cases h16 : l0.length < 16
  · rw [if_pos h16] at h
    simp only [Option.some.injEq, Prod.mk.injEq] at h
    obtain ⟨rfl, rfl, rfl, rfl, rfl⟩ := h
    have d1 : decide ((l0.length : Int) < 16) = true := decide_eq_true (by omega)
    have d2 : decide (l0.length < 16) = true := decide_eq_true h16
    clear h16 hr0 hc0 hlen k0
    go_enter Try.func74, Try.ntmps74
    go_wp2
    refine bodyPost_ret (results_ctt rfl _ _ w.heap.size 36 #[.int .i64 0, .int .i64 0, .slice none 0 0] (0, 0) _ rfl HK.out Try.underlying36 rfl (by kernel_rfl)) rfl ?_
    exact ⟨_, rfl, Kd.R_nil _ _ _ _ _, HB.out⟩
  · rw [if_neg h16] at h
    have d1 : decide ((l0.length : Int) < 16) = false := decide_eq_false (by omega)
    have d2 : decide (l0.length < 16) = false := decide_eq_false h16
    obtain ⟨i0, hi0, _, hsz, _⟩ := info_parts info5
    obtain ⟨hcut, hA, hC⟩ := print_take_of (P := Try.prog) (Value.int .u8) 0 34 5 .i64 Try.underlying34 hi0 hsz A0 c0 l0 16 (by omega) (by omega) hc0
    have HR := Aside0.mk (Kd.C_of_reads (h1 := fun _ => rfl) (hA _ (Kd.reads_of_C hr0)))
    have HC := Aside0.mk hC
    rw [show (16 : Int).toNat = 16 from rfl] at HR HC hcut
    obtain ⟨lt, hlt⟩ : ∃ lt, lt = l0.take 16 := ⟨_, rfl⟩
    rw [← hlt] at HR HC hcut h
    have HR0 := Aside0.mk (And.intro hr0 hc0)
    have HL0 := Aside0.mk (And.intro h16 hlen)
    have HLT := Aside0.mk hlt
    clear hA hC hr0 hc0 h16 hlen hlt k0
    cases hu : le_Unpack.f rform lt with
    | none => rw [hu] at h; cases h
    | some ne =>
      obtain ⟨n, ue⟩ := ne
      rw [hu] at h
      have HU := Aside0.mk (le_Unpack.calls rform A0 c0 lt n ue _ (Kd.C_below HR.out HB.out) HC.out hu)
      have H := Aside0.mk h
      clear h hu
      go_enter Try.func74, Try.ntmps74
      go_wp2_with fail
      refine HU.out.mono ?_
      rintro e w1 ⟨v1, rfl, hR1, hb1⟩
      have HK1 := Aside0.mk (blk_below HK.out hb1)
      have HB1 := Aside0.mk (HB.out.trans (hb1.mono HB.out.size))
      have HN := Aside0.mk (Kd.R_lower hR1 HB.out.size)
      clear hb1 HU
      have b0 : w1.cell? ⟨w.heap.size, 0, none⟩ = some (.int .i64 0) := (blk_cell HK1.out 0).trans rfl
      have b1 : w1.cell? ⟨w.heap.size, 1, none⟩ = some (.int .i64 0) := (blk_cell HK1.out 1).trans rfl
      have b2 : w1.cell? ⟨w.heap.size, 2, none⟩ = some (.slice none 0 0) := (blk_cell HK1.out 2).trans rfl
      have f0 : w1.frozen? ⟨w.heap.size, 0, none⟩ = false := blk_frozen HK1.out 0
      have f1 : w1.frozen? ⟨w.heap.size, 1, none⟩ = false := blk_frozen HK1.out 1
      have f2 : w1.frozen? ⟨w.heap.size, 2, none⟩ = false := blk_frozen HK1.out 2
      by_cases hue : ue = 0
      · subst hue
        have h := H.out
        simp only [ne_eq, not_true_eq_false, if_false] at h
        by_cases hn4 : n.length = 4
        · rw [if_neg (by omega)] at h
          replace H := Aside0.mk h
          clear h
          obtain ⟨G, c1, rfl, hGb, hGl, cg, hcg⟩ := Kd.R_form hR1 (by omega)
          obtain ⟨_, e0, x0⟩ := Kd.at_int (Kd.R_reads' HN.out).2.2 0 (by omega) (by omega)
          cases e0
          obtain ⟨_, e3, x3⟩ := Kd.at_int (Kd.R_reads' HN.out).2.2 3 (by omega) (by omega)
          cases e3
          obtain ⟨_, e2, x2⟩ := Kd.at_int (Kd.R_reads' HN.out).2.2 2 (by omega) (by omega)
          cases e2
          obtain ⟨_, e1, x1⟩ := Kd.at_int (Kd.R_reads' HN.out).2.2 1 (by omega) (by omega)
          cases e1
          replace x0 : w1.cell? ⟨G, 0, none⟩ = some (.int .u64 (rd n 0)) := x0
          replace x1 : w1.cell? ⟨G, 1, none⟩ = some (.int .u64 (rd n 1)) := x1
          replace x2 : w1.cell? ⟨G, 2, none⟩ = some (.int .u64 (rd n 2)) := x2
          replace x3 : w1.cell? ⟨G, 3, none⟩ = some (.int .u64 (rd n 3)) := x3
          clear hR1 hGb hGl hcg
          generalize rd n 0 = n0 at *
          generalize rd n 1 = n1 at *
          generalize rd n 2 = n2 at *
          generalize rd n 3 = n3 at *
          have g0 : decide (0 < n.length) = true := decide_eq_true (by omega)
          have g1 : decide (1 < n.length) = true := decide_eq_true (by omega)
          have g2 : decide (2 < n.length) = true := decide_eq_true (by omega)
          have g3 : decide (3 < n.length) = true := decide_eq_true (by omega)
          have p3 : 3 < n.length := by omega
          have HN4 := Aside0.mk hn4
          clear hn4
          by_cases c0' : n0 = 1196184151
          · subst c0'
            by_cases c3 : n3 > 4611686018427387903
            · have q3 : decide (n3 > 4611686018427387903) = true := decide_eq_true c3
              have q3' : decide (4611686018427387903 < n3) = true := decide_eq_true c3
              have h := H.out
              rw [if_neg (by simp), if_pos c3] at h
              simp only [Option.some.injEq, Prod.mk.injEq] at h
              obtain ⟨rfl, rfl, rfl, rfl, rfl⟩ := h
              clear c3
              go_wp2
              refine bodyPost_ret (results_ctt rfl _ _ w.heap.size 36 #[.int .i64 0, .int .i64 0, .slice none 0 0] (0, 0) _ rfl (blk_put (blk_put (blk_put HK1.out 0 _ rfl) 1 _ rfl) 2 _ rfl) Try.underlying36 rfl (by kernel_rfl)) rfl ?_
              exact ⟨_, rfl, Kd.R_nil _ _ _ _ _, ((HB1.out.setCell (Nat.le_refl _) _).setCell (Nat.le_refl _) _).setCell (Nat.le_refl _) _⟩
            · have q3 : decide (n3 > 4611686018427387903) = false := decide_eq_false c3
              have q3' : decide (4611686018427387903 < n3) = false := decide_eq_false c3
              have h := H.out
              rw [if_neg (by simp), if_neg c3] at h
              replace H := Aside0.mk h
              clear h c3
              go_wp2_with fail
              cases hsz : record_Size.f (wrap64 n2) with
              | none => have h := H.out; rw [hsz] at h; cases h
              | some size =>
                have h := H.out
                rw [hsz] at h
                dsimp only at h
                refine (record_Size.calls (wrap64 n2) size w1 hsz).mono ?_
                rintro e w2 ⟨rfl, ⟨nd, rfl⟩⟩
                have y1 : (w1.drewN nd).cell? ⟨G, 1, none⟩ = some (.int .u64 n1) := x1
                have y3 : (w1.drewN nd).cell? ⟨G, 3, none⟩ = some (.int .u64 n3) := x3
                have HK2 := Aside0.mk (show (w1.drewN nd).heap[w.heap.size]? = _ from blk_drewN HK1.out nd)
                have HB2 := Aside0.mk (pw_below_drewN HB1.out nd)
                have HC2 := Aside0.mk (Kd.C_below HR0.out.1 HB2.out)
                clear x0 x1 x2 x3 b0 b1 b2 f0 f1 f2 hsz
                generalize w1.drewN nd = w2 at *
                have b0 : w2.cell? ⟨w.heap.size, 0, none⟩ = some (.int .i64 0) := (blk_cell HK2.out 0).trans rfl
                have b1 : w2.cell? ⟨w.heap.size, 1, none⟩ = some (.int .i64 0) := (blk_cell HK2.out 1).trans rfl
                have b2 : w2.cell? ⟨w.heap.size, 2, none⟩ = some (.slice none 0 0) := (blk_cell HK2.out 2).trans rfl
                have f0 : w2.frozen? ⟨w.heap.size, 0, none⟩ = false := blk_frozen HK2.out 0
                have f1 : w2.frozen? ⟨w.heap.size, 1, none⟩ = false := blk_frozen HK2.out 1
                have f2 : w2.frozen? ⟨w.heap.size, 2, none⟩ = false := blk_frozen HK2.out 2
                by_cases cz : size = 0
                · subst cz
                  rw [if_pos rfl] at h
                  simp only [Option.some.injEq, Prod.mk.injEq] at h
                  obtain ⟨rfl, rfl, rfl, rfl, rfl⟩ := h
                  go_wp2
                  refine bodyPost_ret (results_ctt rfl _ _ w.heap.size 36 #[.int .i64 0, .int .i64 0, .slice none 0 0] (0, 0) _ rfl (blk_put (blk_put (blk_put HK2.out 0 _ rfl) 1 _ rfl) 2 _ rfl) Try.underlying36 rfl (by kernel_rfl)) rfl ?_
                  exact ⟨_, rfl, Kd.R_nil _ _ _ _ _, ((HB2.out.setCell (Nat.le_refl _) _).setCell (Nat.le_refl _) _).setCell (Nat.le_refl _) _⟩
                · have qz : (size == 0) = false := beq_eq_false_iff_ne.mpr cz
                  rw [if_neg cz] at h
                  by_cases cl : (l0.length : Int) < size
                  · have ql : decide ((l0.length : Int) < size) = true := decide_eq_true cl
                    rw [if_pos cl] at h
                    simp only [Option.some.injEq, Prod.mk.injEq] at h
                    obtain ⟨rfl, rfl, rfl, rfl, rfl⟩ := h
                    clear cz cl
                    go_wp2
                    refine bodyPost_ret (results_ctt rfl _ _ w.heap.size 36 #[.int .i64 0, .int .i64 0, .slice none 0 0] (0, 0) _ rfl (blk_put (blk_put (blk_put HK2.out 0 _ rfl) 1 _ rfl) 2 _ rfl) Try.underlying36 rfl (by kernel_rfl)) rfl ?_
                    exact ⟨_, rfl, Kd.R_nil _ _ _ _ _, ((HB2.out.setCell (Nat.le_refl _) _).setCell (Nat.le_refl _) _).setCell (Nat.le_refl _) _⟩
                  · have ql : decide ((l0.length : Int) < size) = false := decide_eq_false cl
                    rw [if_neg cl] at h
                    by_cases cn : size < 0
                    · rw [if_pos cn] at h; cases h
                    · rw [if_neg cn] at h
                      obtain ⟨i0, hi0, _, hsz, _⟩ := info_parts info5
                      obtain ⟨hcut2, hA, hC⟩ := print_take_of (P := Try.prog) (Value.int .u8) 0 34 5 .i64 Try.underlying34 hi0 hsz A0 c0 l0 size (by omega) (by omega) HR0.out.2
                      have HRs := Aside0.mk (Kd.C_of_reads (h1 := fun _ => rfl) (hA _ (Kd.reads_of_C HC2.out)))
                      have HCs := Aside0.mk hC
                      obtain ⟨ls, hls⟩ : ∃ ls, ls = l0.take size.toNat := ⟨_, rfl⟩
                      rw [← hls] at HRs HCs hcut2 h
                      have HLS := Aside0.mk hls
                      have HZ := Aside0.mk (And.intro cz (And.intro cl cn))
                      clear hA hC hls cz cl cn hi0 hsz
                      cases ho : crc_Open.f ls with
                      | none => rw [ho] at h; cases h
                      | some te =>
                        obtain ⟨text, e2⟩ := te
                        rw [ho] at h
                        dsimp only at h
                        have HO := Aside0.mk (crc_Open.calls A0 c0 ls text e2 w2 HRs.out HCs.out ho)
                        replace H := Aside0.mk h
                        clear h ho
                        go_wp2_with fail
                        refine HO.out.mono ?_
                        rintro e w3 ⟨v3, rfl, hR3, hb3⟩
                        have z1 : w3.cell? ⟨G, 1, none⟩ = some (.int .u64 n1) := pw_cell_below hb3 y1
                        have z3 : w3.cell? ⟨G, 3, none⟩ = some (.int .u64 n3) := pw_cell_below hb3 y3
                        have HK3 := Aside0.mk (blk_below HK2.out hb3)
                        have HB3 := Aside0.mk (HB2.out.trans (hb3.mono HB2.out.size))
                        obtain ⟨A3, c3, rfl⟩ := Kd.R_slice hR3
                        have HR3 := Aside0.mk (Kd.R_reads' hR3)
                        clear hR3 hb3 y1 y3 b0 b1 b2 f0 f1 f2 HO
                        by_cases ce : e2 = 0
                        · subst ce
                          have h := H.out
                          simp only [ne_eq, not_true_eq_false, if_false] at h
                          by_cases ct : text.length < 16
                          · rw [if_pos ct] at h; cases h
                          · rw [if_neg ct] at h
                            by_cases cb : 140737488355328 ≤ (text.drop 16).length
                            · rw [if_pos cb] at h; cases h
                            · rw [if_neg cb] at h
                              obtain ⟨i1, hi1, _, hsz1, _⟩ := info_parts info5
                              obtain ⟨A3c, hcut3, hA3, hC3⟩ := print_cut_int (P := Try.prog) (k := .u8) 34 5 Try.underlying34 hi1 hsz1 A3 c3 text 16 (by omega) (by omega) HR3.out.2.1
                              rw [show (16 : Int).toNat = 16 from rfl] at hcut3 hA3 hC3
                              have HA3 := Aside0.mk (Kd.C_of_reads (h1 := fun _ => rfl) (hA3 _ (Kd.reads_of_C HR3.out.2.2)))
                              obtain ⟨bd, hbd⟩ : ∃ bd, bd = text.drop 16 := ⟨_, rfl⟩
                              rw [← hbd] at HA3 hcut3 h hC3 cb
                              have HC3c := Aside0.mk (show (Kd.int .u8).C w3 A3c bd.length bd from HA3.out)
                              have HL3c := Aside0.mk hC3
                              have HF3 := Aside0.mk (show bytes_Clone.f bd = some bd from if_pos (by omega))
                              have HBD := Aside0.mk hbd
                              clear hA3 hC3 hbd ct cb hi1 hsz1 HA3
                              replace H := Aside0.mk h
                              clear h
                              go_wp2_with fail
                              have u1 : ((1 : Int) < (n.length : Int)) = True := eq_true (by have := HN4.out; omega)
                              have u3 : ((3 : Int) < (n.length : Int)) = True := eq_true (by have := HN4.out; omega)
                              refine start_ (n := 13) (S := fun w' => w'.cell? ⟨G, 1, none⟩ = some (.int .u64 n1) ∧ w'.cell? ⟨G, 3, none⟩ = some (.int .u64 n3)) (ds := [12]) #[false, false, false, false, false, false, false, false, false, false, false, false, false] (by kernel_rfl) rfl rfl ⟨pw_cell_below (below_drew (Below.refl w3.heap.size w3)) z1, pw_cell_below (below_drew (Below.refl w3.heap.size w3)) z3⟩ (fun hHeld => ?_)
                              refine pure_ (i := 0) (N := some 56) (v := ?_) (a' := ?_) #[true, false, false, false, false, false, false, false, false, false, false, false, false] rfl rfl (by kernel_rfl) (fun _ _ _ h => h) (Or.inl ⟨by rfl, ?_⟩) ?_ ?_
                              rotate_left
                              · intro w'
                                go_simp
                                with_reducible rfl
                              rotate_left
                              · simp only [Act.put, List.setIfInBounds_toArray, List.set_cons_zero, List.set_cons_succ, i64_w, i32_w]
                                rfl
                              refine pure_ (i := 1) (N := some 57) (v := ?_) (a' := ?_) #[true, true, false, false, false, false, false, false, false, false, false, false, false] rfl rfl (by kernel_rfl) (fun _ _ _ h => h) (Or.inl ⟨by rfl, ?_⟩) ?_ ?_
                              rotate_left
                              · intro w'
                                go_simp
                                with_reducible rfl
                              rotate_left
                              · simp only [Act.put, List.setIfInBounds_toArray, List.set_cons_zero, List.set_cons_succ, i64_w, i32_w]
                                rfl
                              refine pure_ (i := 4) (N := some 60) (v := ?_) (a' := ?_) #[true, true, false, false, true, false, false, false, false, false, false, false, false] rfl rfl (by kernel_rfl) (fun _ _ _ h => h) (Or.inl ⟨by rfl, ?_⟩) ?_ ?_
                              rotate_left
                              · intro w'
                                go_simp
                                with_reducible rfl
                              rotate_left
                              · simp only [Act.put, List.setIfInBounds_toArray, List.set_cons_zero, List.set_cons_succ, i64_w, i32_w]
                                rfl
                              refine pure_ (i := 5) (N := some 61) (v := ?_) (a' := ?_) #[true, true, false, false, true, true, false, false, false, false, false, false, false] rfl rfl (by kernel_rfl) (fun _ _ _ h => h) (Or.inl ⟨by rfl, ?_⟩) ?_ ?_
                              rotate_left
                              · intro w'
                                go_simp
                                with_reducible rfl
                              rotate_left
                              · simp only [Act.put, List.setIfInBounds_toArray, List.set_cons_zero, List.set_cons_succ, i64_w, i32_w]
                                rfl
                              refine pure_ (i := 8) (N := some 64) (v := ?_) (a' := ?_) #[true, true, false, false, true, true, false, false, true, false, false, false, false] rfl rfl (by kernel_rfl) (fun _ _ _ h => h) (Or.inl ⟨by rfl, ?_⟩) ?_ ?_
                              rotate_left
                              · intro w'
                                go_simp
                                with_reducible rfl
                              rotate_left
                              · simp only [Act.put, List.setIfInBounds_toArray, List.set_cons_zero, List.set_cons_succ, i64_w, i32_w]
                                rfl
                              refine pure_ (i := 9) (N := some 65) (v := ?_) (a' := ?_) #[true, true, false, false, true, true, false, false, true, true, false, false, false] rfl rfl (by kernel_rfl) (fun _ _ _ h => h) (Or.inl ⟨by rfl, ?_⟩) ?_ ?_
                              rotate_left
                              · intro w'
                                go_simp
                                with_reducible rfl
                              rotate_left
                              · simp only [Act.put, List.setIfInBounds_toArray, List.set_cons_zero, List.set_cons_succ, i64_w, i32_w]
                                rfl
                              refine take_ (i := 2) (N := some 58) (v := ?_) (a' := ?_) #[true, true, true, false, true, true, false, false, true, true, false, false, false] rfl rfl (by kernel_rfl) (fun _ _ _ h => h) (Or.inl ⟨by rfl, ?_⟩) hHeld ?_ ?_
                              rotate_left
                              · rintro w' ⟨s0, s1⟩
                                go_simp
                                with_reducible rfl
                              rotate_left
                              · simp only [Act.put, List.setIfInBounds_toArray, List.set_cons_zero, List.set_cons_succ, i64_w, i32_w]
                                rfl
                              refine pure_ (i := 3) (N := some 59) (v := ?_) (a' := ?_) #[true, true, true, true, true, true, false, false, true, true, false, false, false] rfl rfl (by kernel_rfl) (fun _ _ _ h => h) (Or.inl ⟨by rfl, ?_⟩) ?_ ?_
                              rotate_left
                              · intro w'
                                go_simp
                                with_reducible rfl
                              rotate_left
                              · simp only [Act.put, List.setIfInBounds_toArray, List.set_cons_zero, List.set_cons_succ, i64_w, i32_w]
                                rfl
                              refine take_ (i := 6) (N := some 62) (v := ?_) (a' := ?_) #[true, true, true, true, true, true, true, false, true, true, false, false, false] rfl rfl (by kernel_rfl) (fun _ _ _ h => h) (Or.inl ⟨by rfl, ?_⟩) hHeld ?_ ?_
                              rotate_left
                              · rintro w' ⟨s0, s1⟩
                                go_simp
                                with_reducible rfl
                              rotate_left
                              · simp only [Act.put, List.setIfInBounds_toArray, List.set_cons_zero, List.set_cons_succ, i64_w, i32_w]
                                rfl
                              refine pure_ (i := 7) (N := some 63) (v := ?_) (a' := ?_) #[true, true, true, true, true, true, true, true, true, true, false, false, false] rfl rfl (by kernel_rfl) (fun _ _ _ h => h) (Or.inl ⟨by rfl, ?_⟩) ?_ ?_
                              rotate_left
                              · intro w'
                                go_simp
                                with_reducible rfl
                              rotate_left
                              · simp only [Act.put, List.setIfInBounds_toArray, List.set_cons_zero, List.set_cons_succ, i64_w, i32_w]
                                rfl
                              refine one_ (i := 10) (N := some 66) #[true, true, true, true, true, true, true, true, true, true, true, false, false] rfl rfl (by kernel_rfl) (by decide) (fun K hK => ?_)
                              refine goes_ Try.func70 (by kernel_rfl) rfl #[.slice A3c bd.length (c3 - 16)] (by rfl) rfl rfl (by simp only [List.map_toArray, List.map_cons, List.map_nil]; rfl) ?_
                              with_reducible refine (bytes_Clone.calls A3c (c3 - 16) bd bd w3.drew (Kd.C_below HC3c.out (below_drew (Below.refl _ _))) HL3c.out HF3.out).mono ?_
                              rintro e w4 ⟨v4, rfl, hR4, hb⟩
                              refine ⟨_, rfl, ?_⟩
                              have hb4 := Aside0.mk (show Below w3.heap.size w3 w4 from (below_drew (Below.refl _ _)).trans hb)
                              have HR4 := Aside0.mk (show (Kd.int .u8).R 5 w4 w3.heap.size (fun _ => True) _ _ from hR4)
                              obtain ⟨A4, c4, rfl⟩ := Kd.R_slice hR4
                              clear hR4 hb
                              have HK4 := Aside0.mk (blk_below HK3.out hb4.out)
                              have b0 : w4.cell? ⟨w.heap.size, 0, none⟩ = some (.int .i64 0) := (blk_cell HK4.out 0).trans rfl
                              have f0 : w4.frozen? ⟨w.heap.size, 0, none⟩ = false := blk_frozen HK4.out 0
                              have b1 : w4.cell? ⟨w.heap.size, 1, none⟩ = some (.int .i64 0) := (blk_cell HK4.out 1).trans rfl
                              have f1 : w4.frozen? ⟨w.heap.size, 1, none⟩ = false := blk_frozen HK4.out 1
                              have b2 : w4.cell? ⟨w.heap.size, 2, none⟩ = some (.slice none 0 0) := (blk_cell HK4.out 2).trans rfl
                              have f2 : w4.frozen? ⟨w.heap.size, 2, none⟩ = false := blk_frozen HK4.out 2
                              refine hK.out _ _ ⟨pw_cell_below hb4.out z1, pw_cell_below hb4.out z3⟩ (fun hHeld => ?_)
                              clear hK K
                              refine norm_ (a' := ?_) ?_ ?_
                              rotate_left
                              · show Act.put _ (some 66) _ = _
                                simp only [Act.put, List.setIfInBounds_toArray, List.set_cons_zero, List.set_cons_succ, i64_w, i32_w]
                                rfl
                              refine pure_ (i := 11) (N := some 67) (v := ?_) (a' := ?_) #[true, true, true, true, true, true, true, true, true, true, true, true, false] rfl rfl (by kernel_rfl) (fun _ _ _ h => h) (Or.inl ⟨by rfl, ?_⟩) ?_ ?_
                              rotate_left
                              · intro w'
                                go_simp
                                with_reducible rfl
                              rotate_left
                              · simp only [Act.put, List.setIfInBounds_toArray, List.set_cons_zero, List.set_cons_succ, i64_w, i32_w]
                                rfl
                              refine last_ (i := 12) (N := none) #[true, true, true, true, true, true, true, true, true, true, true, true, true] rfl rfl (by kernel_rfl) (by decide) (fun K hK => ?_)
                              refine skip_ (w1 := ?_) (by rfl) rfl ?_ ?_
                              rotate_left
                              · go_simp
                                rfl
                              refine hK.out _ _ ?_
                              clear hK K
                              refine done_ (by kernel_rfl) ?_
                              have HK5 := Aside0.mk (blk_put (blk_put (blk_put HK4.out 0 (.int .i64 (wrap64 n1)) rfl) 1 (.int .i64 (wrap64 n3)) rfl) 2 (.slice A4 bd.length c4) rfl)
                              have HB4 := Aside0.mk (HB3.out.trans (hb4.out.mono HB3.out.size))
                              have HB5 := Aside0.mk (((HB4.out.setCell (Nat.le_refl _) (.int .i64 (wrap64 n1)) (p := ⟨w.heap.size, 0, none⟩)).setCell (Nat.le_refl _) (.int .i64 (wrap64 n3)) (p := ⟨w.heap.size, 1, none⟩)).setCell (Nat.le_refl _) (.slice A4 bd.length c4) (p := ⟨w.heap.size, 2, none⟩))
                              have HR5 := Aside0.mk (Kd.R_lower (Kd.R_set (Kd.R_set (Kd.R_set HR4.out HK4.out (by decide) 0 (.int .i64 (wrap64 n1))) (blk_set HK4.out 0 (.int .i64 (wrap64 n1))) (by decide) 1 (.int .i64 (wrap64 n3))) (blk_set (blk_set HK4.out 0 (.int .i64 (wrap64 n1))) 1 (.int .i64 (wrap64 n3))) (by decide) 2 (.slice A4 bd.length c4)) HB3.out.size)
                              clear b0 b1 b2 f0 f1 f2 z1 z3 HR4 HK4 hb4
                              generalize (((w4.setCell ⟨w.heap.size, 0, none⟩ (.int .i64 (wrap64 n1))).setCell ⟨w.heap.size, 1, none⟩ (.int .i64 (wrap64 n3))).setCell ⟨w.heap.size, 2, none⟩ (.slice A4 bd.length c4)) = w5 at *
                              have HR5r := Aside0.mk (Kd.R_reads' HR5.out)
                              have b0 : w5.cell? ⟨w.heap.size, 0, none⟩ = some (.int .i64 (wrap64 n1)) := (blk_cell HK5.out 0).trans rfl
                              have b1 : w5.cell? ⟨w.heap.size, 1, none⟩ = some (.int .i64 (wrap64 n3)) := (blk_cell HK5.out 1).trans rfl
                              have b2 : w5.cell? ⟨w.heap.size, 2, none⟩ = some (.slice A4 bd.length c4) := (blk_cell HK5.out 2).trans rfl
                              have f0 : w5.frozen? ⟨w.heap.size, 0, none⟩ = false := blk_frozen HK5.out 0
                              have f1 : w5.frozen? ⟨w.heap.size, 1, none⟩ = false := blk_frozen HK5.out 1
                              have f2 : w5.frozen? ⟨w.heap.size, 2, none⟩ = false := blk_frozen HK5.out 2
                              generalize wrap64 n1 = m1 at *
                              generalize wrap64 n3 = m3 at *
                              cases hk : record_Check.f m1 m3 bd with
                              | none => have h := H.out; rw [hk] at h; cases h
                              | some e3 =>
                                have h := H.out
                                rw [hk] at h
                                dsimp only at h
                                have HCK := Aside0.mk (record_Check.calls m1 m3 A4 c4 bd e3 w5 HR5r.out.2.2 HR5r.out.2.1 hk)
                                clear hk
                                go_wp2_with fail
                                refine HCK.out.mono ?_
                                rintro e w6 ⟨rfl, hb6⟩
                                have HK6 := Aside0.mk (blk_below HK5.out hb6)
                                have HB6 := Aside0.mk (HB5.out.trans (hb6.mono HB5.out.size))
                                have HR6 := Aside0.mk (Kd.R_below HR5.out hb6)
                                clear hb6 b0 b1 b2 f0 f1 f2 HCK
                                have b0 : w6.cell? ⟨w.heap.size, 0, none⟩ = some (.int .i64 m1) := (blk_cell HK6.out 0).trans rfl
                                have b1 : w6.cell? ⟨w.heap.size, 1, none⟩ = some (.int .i64 m3) := (blk_cell HK6.out 1).trans rfl
                                have b2 : w6.cell? ⟨w.heap.size, 2, none⟩ = some (.slice A4 bd.length c4) := (blk_cell HK6.out 2).trans rfl
                                have f0 : w6.frozen? ⟨w.heap.size, 0, none⟩ = false := blk_frozen HK6.out 0
                                have f1 : w6.frozen? ⟨w.heap.size, 1, none⟩ = false := blk_frozen HK6.out 1
                                have f2 : w6.frozen? ⟨w.heap.size, 2, none⟩ = false := blk_frozen HK6.out 2
                                by_cases ck : e3 = 0
                                · subst ck
                                  simp only [ne_eq, not_true_eq_false, if_false, Option.some.injEq, Prod.mk.injEq] at h
                                  obtain ⟨rfl, rfl, rfl, rfl, rfl⟩ := h
                                  go_wp2
                                  refine bodyPost_ret (results_ctt rfl _ _ w.heap.size 36 #[.int .i64 m1, .int .i64 m3, .slice A4 bd.length c4] (0, 0) _ rfl (blk_put (blk_put (blk_put HK6.out 0 _ rfl) 1 _ rfl) 2 _ rfl) Try.underlying36 rfl (by kernel_rfl)) rfl ?_
                                  exact ⟨_, rfl, Kd.R_set (Kd.R_set (Kd.R_set HR6.out HK6.out (by decide) 0 _) (blk_set HK6.out 0 _) (by decide) 1 _) (blk_set (blk_set HK6.out 0 _) 1 _) (by decide) 2 _, ((HB6.out.setCell (Nat.le_refl _) _).setCell (Nat.le_refl _) _).setCell (Nat.le_refl _) _⟩
                                · have q6 : (e3 != 0) = true := bne_iff_ne.mpr ck
                                  rw [if_pos ck] at h
                                  simp only [Option.some.injEq, Prod.mk.injEq] at h
                                  obtain ⟨rfl, rfl, rfl, rfl, rfl⟩ := h
                                  clear ck
                                  go_wp2
                                  refine bodyPost_ret (results_ctt rfl _ _ w.heap.size 36 #[.int .i64 0, .int .i64 0, .slice none 0 0] (0, 0) _ rfl (blk_put (blk_put (blk_put HK6.out 0 _ rfl) 1 _ rfl) 2 _ rfl) Try.underlying36 rfl (by kernel_rfl)) rfl ?_
                                  exact ⟨_, rfl, Kd.R_nil _ _ _ _ _, ((HB6.out.setCell (Nat.le_refl _) _).setCell (Nat.le_refl _) _).setCell (Nat.le_refl _) _⟩
                        · have q2 : (e2 != 0) = true := bne_iff_ne.mpr ce
                          have h := H.out
                          rw [if_pos ce] at h
                          simp only [Option.some.injEq, Prod.mk.injEq] at h
                          obtain ⟨rfl, rfl, rfl, rfl, rfl⟩ := h
                          clear ce
                          have b0 : w3.cell? ⟨w.heap.size, 0, none⟩ = some (.int .i64 0) := (blk_cell HK3.out 0).trans rfl
                          have f0 : w3.frozen? ⟨w.heap.size, 0, none⟩ = false := blk_frozen HK3.out 0
                          have b1 : w3.cell? ⟨w.heap.size, 1, none⟩ = some (.int .i64 0) := (blk_cell HK3.out 1).trans rfl
                          have f1 : w3.frozen? ⟨w.heap.size, 1, none⟩ = false := blk_frozen HK3.out 1
                          have b2 : w3.cell? ⟨w.heap.size, 2, none⟩ = some (.slice none 0 0) := (blk_cell HK3.out 2).trans rfl
                          have f2 : w3.frozen? ⟨w.heap.size, 2, none⟩ = false := blk_frozen HK3.out 2
                          go_wp2
                          refine bodyPost_ret (results_ctt rfl _ _ w.heap.size 36 #[.int .i64 0, .int .i64 0, .slice none 0 0] (0, 0) _ rfl (blk_put (blk_put (blk_put HK3.out 0 _ rfl) 1 _ rfl) 2 _ rfl) Try.underlying36 rfl (by kernel_rfl)) rfl ?_
                          exact ⟨_, rfl, Kd.R_nil _ _ _ _ _, ((HB3.out.setCell (Nat.le_refl _) _).setCell (Nat.le_refl _) _).setCell (Nat.le_refl _) _⟩
          · have q0 : (n0 != 1196184151) = true := bne_iff_ne.mpr c0'
            have h := H.out
            rw [if_pos c0'] at h
            simp only [Option.some.injEq, Prod.mk.injEq] at h
            obtain ⟨rfl, rfl, rfl, rfl, rfl⟩ := h
            clear c0'
            go_wp2
            refine bodyPost_ret (results_ctt rfl _ _ w.heap.size 36 #[.int .i64 0, .int .i64 0, .slice none 0 0] (0, 0) _ rfl (blk_put (blk_put (blk_put HK1.out 0 _ rfl) 1 _ rfl) 2 _ rfl) Try.underlying36 rfl (by kernel_rfl)) rfl ?_
            exact ⟨_, rfl, Kd.R_nil _ _ _ _ _, ((HB1.out.setCell (Nat.le_refl _) _).setCell (Nat.le_refl _) _).setCell (Nat.le_refl _) _⟩
        · rw [if_pos hn4] at h
          cases h
      · have q0 : (ue != 0) = true := bne_iff_ne.mpr hue
        have h := H.out
        rw [if_pos hue] at h
        simp only [Option.some.injEq, Prod.mk.injEq] at h
        obtain ⟨rfl, rfl, rfl, rfl, rfl⟩ := h
        obtain ⟨A1, c1, rfl⟩ := Kd.R_slice hR1
        clear hue hR1
        go_wp2
        refine bodyPost_ret (results_ctt rfl _ _ w.heap.size 36 #[.int .i64 0, .int .i64 0, .slice none 0 0] (0, 0) _ rfl (blk_put (blk_put (blk_put HK1.out 0 _ rfl) 1 _ rfl) 2 _ rfl) Try.underlying36 rfl (by kernel_rfl)) rfl ?_
        exact ⟨_, rfl, Kd.R_nil _ _ _ _ _, ((HB1.out.setCell (Nat.le_refl _) _).setCell (Nat.le_refl _) _).setCell (Nat.le_refl _) _⟩
end Go.Proofs.Ytdgefplbfffenaa.X
