/- The records that follow one another, out of any list of what was found and from any number on, are what the document says; for every input. (This text: part 5 of 5.) -/
import Derived.Test.YtdgefplbfffenaaLogRunsM4
import Derived.ScopeJumps
import Derived.WalkMore
import Derived.Test.YtdgefplbfffenaaLogRunsM3
import Derived.Test.YtdgefplbfffenaaLogRunsM2
import Derived.Deep.Slices
import Derived.Deep.Strs
import Derived.Test.YtdgefplbfffenaaRows
import Derived.DataShut
import Derived.WalkKit
import Derived.ProofKit
import Derived.OpenShut
import Derived.ShutString
import Derived.ChangeOld
import Derived.Below
import Derived.SizedLaws
import Derived.Test.YtdgefplbfffenaaLogRunsM1
set_option linter.unusedVariables false
set_option linter.unusedSimpArgs false
namespace Go.Proofs.Ytdgefplbfffenaa.X
open Go.RowKit Go.Proofs.YtdgefplbfffenaaW.PrintWords Go.Proofs.YtdgefplbfffenaaW.PrintLast Go.Proofs.YtdgefplbfffenaaW.PrintMore
theorem put3 {W : World} {B t : Nat} {x0 x1 x2 : Value} (h : W.heap[B]? = some (.cells #[x0, x1, x2] t (0, 0))) (y0 y1 y2 : Value) :
    (((W.setCell ⟨B, 0, none⟩ y0).setCell ⟨B, 1, none⟩ y1).setCell ⟨B, 2, none⟩ y2).heap[B]? = some (.cells #[y0, y1, y2] t (0, 0)) := blk_put (blk_put (blk_put h 0 _ rfl) 1 _ rfl) 2 _ rfl
theorem R_set3 {α : Type} {d : Kd α} {q base : Nat} {ok : Nat → Prop} {v : Value} {xs : List α} {W : World} {B t : Nat} {x0 x1 x2 : Value} (hR : d.R q W base ok v xs) (h : W.heap[B]? = some (.cells #[x0, x1, x2] t (0, 0))) (ht : ∀ p, p ∈ q :: d.E → p ≠ t) (y0 y1 y2 : Value) :
    d.R q (((W.setCell ⟨B, 0, none⟩ y0).setCell ⟨B, 1, none⟩ y1).setCell ⟨B, 2, none⟩ y2) base ok v xs :=
  Kd.R_set (Kd.R_set (Kd.R_set hR h ht 0 y0) (blk_set h 0 y0) ht 1 y1) (blk_set (blk_set h 0 y0) 1 y1) ht 2 y2
theorem below_set3 {w W : World} {b B : Nat} (h : Below b w W) (hB : b ≤ B) (y0 y1 y2 : Value) : Below b w (((W.setCell ⟨B, 0, none⟩ y0).setCell ⟨B, 1, none⟩ y1).setCell ⟨B, 2, none⟩ y2) :=
  ((h.setCell hB _).setCell hB _).setCell hB _
theorem scan_new2 (w : World) (o o' : Obj) : ((w.alloc o).alloc o').heap[w.heap.size + 1]? = some o' := by
  have h := blk_new (w.alloc o) o'
  rwa [show (w.alloc o).heap.size = w.heap.size + 1 by simp] at h
theorem wp_scope_pass {P : Program} {Q : Exit → Act → World → Prop} {a : Act} {w : World} {c rest : Code} (l : Nat) (J : Act → World → Prop) (μ : Act → World → Nat) (hf : findLabel c l = some (.seq .skip rest))
    (pass : ∀ a w, J a w → rest.wp P (Exit.jump l (fun a' w' => J a' w' ∧ μ a' w' < μ a w) Q) a w)
    (first : (∀ a w, J a w → rest.wp P (Exit.jump l J Q) a w) → c.wp P (Exit.jump l J Q) a w) : (Code.scope c).wp P Q a w :=
  wp_scope_jumps l J μ hf (first (fun a w hJ => wp_mono (pass a w hJ) (by
    intro e a' w' h
    cases e with
    | goto l' => exact ⟨h.1, h.2.1⟩
    | _ => exact h))) (fun a w hJ => wp_seq (wp_skip (pass a w hJ)))
def Scan1Post (w : World) (r1 r2 : Int) (r3 : List Int) (r4 r5 : Int) (e : Ending) (w' : World) : Prop :=
  ∃ v : Value, e = .returned (.tuple #[.agg #[.int .i64 r1, .int .i64 r2, v], .int .i64 r4, .bool (r5 == 0)]) ∧ Kd.R (Kd.int .u8) 5 w' w.heap.size (fun _ => True) v r3 ∧ Below w.heap.size w w'
set_option maxHeartbeats 400000 in
set_option maxRecDepth 100000 in
/-- record.Scan's closure: the bytes and the place lie in two blocks. -/
theorem scan1_calls (B P : Nat) (A : Option Addr) (c : Nat) (b : List Int) (n : Nat) (r1 r2 : Int) (r3 : List Int) (r4 r5 : Int) (w : World)
    (hB : w.heap[B]? = some (.cells #[.slice A b.length c] 34 (0, 0))) (hP : w.heap[P]? = some (.cells #[.int .i64 (n : Int)] 3 (0, 0)))
    (hC : Kd.C (Kd.int .u8) w A b.length b) (hc : b.length ≤ c) (hn : n ≤ b.length) (h : record_Read.f (b.drop n) = some (r1, r2, r3, r4, r5)) :
    Calls Try.prog 73 #[.pointer (some ⟨B, 0, none⟩), .pointer (some ⟨P, 0, none⟩)] w (Scan1Post w r1 r2 r3 r4 r5) := by
  have hu36 := Try.underlying36
  have hb0 := below_alloc (Below.refl w.heap.size w) (.cells #[.int .i64 0, .int .i64 0, .slice none 0 0] 36)
  have k0 := blk_new w (.cells #[.int .i64 0, .int .i64 0, .slice none 0 0] 36)
  have HB := Aside0.mk hb0
  have HK := Aside0.mk k0
  have x1 : (w.alloc (.cells #[.int .i64 0, .int .i64 0, .slice none 0 0] 36)).cell? ⟨B, 0, none⟩ = some (.slice A b.length c) := (blk_cell (blk_below hB hb0) 0).trans rfl
  have x2 : (w.alloc (.cells #[.int .i64 0, .int .i64 0, .slice none 0 0] 36)).cell? ⟨P, 0, none⟩ = some (.int .i64 (n : Int)) := (blk_cell (blk_below hP hb0) 0).trans rfl
  obtain ⟨i1, hi1, _, hsz1, _⟩ := info_parts info5
  obtain ⟨A', hcut, hA, hCc⟩ := print_cut_int (P := Try.prog) (k := .u8) 34 5 Try.underlying34 hi1 hsz1 A c b (n : Int) (by omega) (by omega) hc
  rw [Int.toNat_natCast] at hcut hA hCc
  have HA := Aside0.mk (Kd.C_of_reads (h1 := fun _ => rfl) (hA _ (Kd.reads_of_C (Kd.C_below hC hb0))))
  obtain ⟨bd, hbd⟩ : ∃ bd, bd = b.drop n := ⟨_, rfl⟩
  rw [← hbd] at HA hcut hCc h
  have HR := Aside0.mk (record_Read.walk_ A' (c - n) bd r1 r2 r3 r4 r5 _ (show (Kd.int .u8).C _ A' bd.length bd from HA.out) hCc h)
  clear hb0 k0 hA hCc hbd h hi1 hsz1 hB hP hC hc hn HA
  go_enter Try.func73, Try.ntmps73
  go_wp2_with fail
  refine HR.out.mono ?_
  rintro e w1 ⟨v1, rfl, hR1, hb1⟩
  have HK1 := Aside0.mk (blk_below HK.out hb1)
  have HB1 := Aside0.mk (HB.out.trans (hb1.mono HB.out.size))
  have HR1 := Aside0.mk (Kd.R_lower hR1 HB.out.size)
  obtain ⟨A1, c1, rfl⟩ := Kd.R_slice hR1
  clear hR1 hb1 HR x1 x2
  have b0 : w1.cell? ⟨w.heap.size, 0, none⟩ = some (.int .i64 0) := (blk_cell HK1.out 0).trans rfl
  have b1 : w1.cell? ⟨w.heap.size, 1, none⟩ = some (.int .i64 0) := (blk_cell HK1.out 1).trans rfl
  have b2 : w1.cell? ⟨w.heap.size, 2, none⟩ = some (.slice none 0 0) := (blk_cell HK1.out 2).trans rfl
  have f0 : w1.frozen? ⟨w.heap.size, 0, none⟩ = false := blk_frozen HK1.out 0
  have f1 : w1.frozen? ⟨w.heap.size, 1, none⟩ = false := blk_frozen HK1.out 1
  have f2 : w1.frozen? ⟨w.heap.size, 2, none⟩ = false := blk_frozen HK1.out 2
  go_wp2
  refine bodyPost_ret (results_ctt rfl _ _ w.heap.size 36 #[.int .i64 r1, .int .i64 r2, .slice A1 r3.length c1] (0, 0) _ rfl (put3 (put3 HK1.out _ _ _) _ _ _) Try.underlying36 rfl (by kernel_rfl)) rfl ?_
  exact ⟨_, rfl, R_set3 (R_set3 HR1.out HK1.out (by decide) _ _ _) (put3 HK1.out _ _ _) (by decide) _ _ _, below_set3 (below_set3 HB1.out (Nat.le_refl _) _ _ _) (Nat.le_refl _) _ _ _⟩
/-- record.Scan, from a place on. -/
def scanL (b : List Int) : Nat → Nat → List S36 → List Int → Option (List S36 × List Int)
  | 0, _, _, _ => none
  | k + 1, n, l, p =>
    match record_Read.f (b.drop n) with
    | none => none
    | some (r1, r2, r3, m, e) => if e ≠ 0 then some (l, p) else if 0 < m ∧ n + m.toNat ≤ b.length ∧ b.length < 1000000000000 then scanL b k (n + m.toNat) (l ++ [⟨r1, r2, r3⟩]) (p ++ [(n : Int)]) else none
def record_Scan.f (l0 : List Int) : Option (List S36 × List Int) := scanL l0 (l0.length + 1) 0 [] []
structure ScanInv (w W : World) (l0 : List Int) (r : List S36 × List Int) (n k : Nat) (l : List S36) (p : List Int) (v2 v3 : Value) (A0 : Option Addr) (c0 : Nat) : Prop where
  le : n ≤ l0.length
  fuel : l0.length - n < k
  small : l.length ≤ n ∧ p.length ≤ n
  run : scanL l0 k n l p = some r
  box : W.heap[w.heap.size]? = some (.cells #[.slice A0 l0.length c0] 34 (0, 0))
  at_ : W.heap[w.heap.size + 1]? = some (.cells #[.int .i64 (n : Int)] 3 (0, 0))
  bel : Below w.heap.size w W
  hl : Kd.S k36 36 W w.heap.size (fun k => w.heap.size + 2 ≤ k) v2 l
  hp : Kd.R (Kd.int .i64) 3 W w.heap.size (fun k => w.heap.size + 2 ≤ k) v3 p
def natAt (W : World) (b : Nat) : Nat := match W.cell? ⟨b, 0, none⟩ with | some (.int _ q) => q.toNat | _ => 0
theorem natAt_of {W : World} {b n : Nat} (h : W.heap[b]? = some (.cells #[.int .i64 (n : Int)] 3 (0, 0))) : natAt W b = n := by
  have e : W.cell? ⟨b, 0, none⟩ = some (.int .i64 (n : Int)) := (blk_cell h 0).trans rfl
  unfold natAt; rw [e]; rfl
def ScanJ (w : World) (l0 : List Int) (r : List S36 × List Int) (A0 : Option Addr) (c0 : Nat) (a' : Act) (W : World) : Prop :=
  ∃ (n k : Nat) (l : List S36) (p : List Int) (v2 v3 u6 u7 u8 u9 u10 u11 u12 u13 u14 u15 u16 u17 u18 u19 u20 u21 u22 u23 u24 u25 u26 u27 u28 u29 u30 : Value), a' = { tmps := #[.slice A0 l0.length c0, .pointer (some ⟨w.heap.size, 0, none⟩), v2, v3, .pointer (some ⟨w.heap.size + 1, 0, none⟩), .func (.func 73) #[] #[.pointer (some ⟨w.heap.size, 0, none⟩), .pointer (some ⟨w.heap.size + 1, 0, none⟩)], u6, u7, u8, u9, u10, u11, u12, u13, u14, u15, u16, u17, u18, u19, u20, u21, u22, u23, u24, u25, u26, u27, u28, u29, u30], defers := [] } ∧ Aside0 (ScanInv w W l0 r n k l p v2 v3 A0 c0)
theorem info3 : (Try.prog.info? 3).map (fun i => (i.zero, i.size, i.bytes)) = some (some (.int .i64 0), 1, 8) := by kernel_rfl
section
variable {P : Program} {ops : Array Oper} {o : Oper} {a : Act} {Q : Exit → Act → World → Prop} {Kc : Act → World → Prop} {α : Type}
/-- append(v, x...): x is a row of one element of the call's own. -/
theorem S_append_one_step (d : Kd α) {w0 W : World} (base : Nat) (hw : Region.wanted o (yielded ops a.tmps) = true) (s x : Operand) (t e : TypeId) (z : Value) (bytes : Nat)
    (ho : o.op = .call { callee := .builtin .append, args := #[s, x], argTypes := #[t, t] })
    (ht : P.underlying t = some (.slice e)) (hinfo : (P.info? e).map (fun i => (i.zero, i.size, i.bytes)) = some (some z, d.sz, bytes)) (hz : z.cells.size = d.sz) (hs0 : 0 < d.sz) (hb0 : 0 < bytes)
    (v vx : Value) (xs : List α) (p : α) (ok okp : Nat → Prop) (hs : a.eval s = v) (hx : a.eval x = vx) (HX : d.R e W base okp vx [p]) (hokp : ∀ k, okp k → ok k ∧ some k ≠ v.ownBlock) (hfresh : ∀ k, W.heap.size ≤ k → ok k)
    (HO : Kd.S d e W base (fun k => ok k ∧ ¬ okp k) v xs) (HB : Below base w0 W) (hbase : base ≤ W.heap.size) (hl : (xs.length + 1) * bytes ≤ 140737488355328)
    (h : ∀ v1 w1, Kd.S d e w1 base ok v1 (xs ++ [p]) → Below base w0 w1 → W.grownBy w1 v.ownBlock → (v1.ownBlock = v.ownBlock ∨ ∃ b, v1.ownBlock = some b ∧ W.heap.size ≤ b) → Kc (a.put o.dst v1) w1) :
    if Region.wanted o (yielded ops a.tmps) = true then Oper.wp P o a W Kc Q else Kc (a.put o.dst undef) W := by
  obtain ⟨f, hf, hR⟩ := Kd.S_tag HO xs.length okp (fun _ hk h2 => h2.2 hk)
  obtain ⟨A, c, rfl, hle, hr⟩ := OwnRow.reads HX.2
  refine Kd.R_append_rows_step (Kd.tag f d) (Rr := fun q cs => q.2 = xs.length ∧ d.M W base okp q.1 cs) base hw s x t e z bytes ho ht hinfo hz hs0 hb0 v xs.zipIdx [(p, xs.length)] A 1 c ok okp hs hx (Kd.R_mono hR (fun _ hk => hk.1)) ⟨rfl, by omega, fun hn => ?_⟩ (fun q cs hq => d.M_mono (fun k hk => ⟨hk, (hf k hk).trans hq.1.symm⟩) hq.2) hokp hfresh HB hbase (by rw [List.length_zipIdx]; exact hl) ?_
  · obtain ⟨ad, hA, hc⟩ := hr.2.2 hn
    refine ⟨ad, hA, fun j q hq => ?_⟩
    match j, hq with
    | 0, hq =>
      obtain rfl : (p, xs.length) = q := Option.some.inj hq
      obtain ⟨cs, h1, h2, h3⟩ := hc 0 p rfl
      exact ⟨cs, h1, ⟨rfl, d.M_mono (fun _ hk => hk.1) h2⟩, h3⟩
    | j + 1, hq => cases hq
  · intro v1 w1 hr
    rw [← Kd.zip_snoc] at hr
    exact h v1 w1 ⟨f, hr⟩
theorem R_append_one_step (d : Kd α) {w0 W : World} (base : Nat) (hw : Region.wanted o (yielded ops a.tmps) = true) (s x : Operand) (t e : TypeId) (z : Value) (bytes : Nat)
    (ho : o.op = .call { callee := .builtin .append, args := #[s, x], argTypes := #[t, t] })
    (ht : P.underlying t = some (.slice e)) (hinfo : (P.info? e).map (fun i => (i.zero, i.size, i.bytes)) = some (some z, d.sz, bytes)) (hz : z.cells.size = d.sz) (hs0 : 0 < d.sz) (hb0 : 0 < bytes)
    (v vx : Value) (xs : List α) (p : α) (ok okp : Nat → Prop) (hs : a.eval s = v) (hx : a.eval x = vx) (HX : d.R e W base okp vx [p]) (hokp : ∀ k, okp k → ok k ∧ some k ≠ v.ownBlock) (hfresh : ∀ k, W.heap.size ≤ k → ok k)
    (HO : d.R e W base ok v xs) (HB : Below base w0 W) (hbase : base ≤ W.heap.size) (hl : (xs.length + 1) * bytes ≤ 140737488355328)
    (h : ∀ v1 w1, d.R e w1 base ok v1 (xs ++ [p]) → Below base w0 w1 → W.grownBy w1 v.ownBlock → (v1.ownBlock = v.ownBlock ∨ ∃ b, v1.ownBlock = some b ∧ W.heap.size ≤ b) → Kc (a.put o.dst v1) w1) :
    if Region.wanted o (yielded ops a.tmps) = true then Oper.wp P o a W Kc Q else Kc (a.put o.dst undef) W := by
  obtain ⟨A, c, rfl, hle, hr⟩ := OwnRow.reads HX.2
  refine Kd.R_append_rows_step d (Rr := fun q cs => d.M W base okp q cs) base hw s x t e z bytes ho ht hinfo hz hs0 hb0 v xs [p] A 1 c ok okp hs hx HO ⟨rfl, by omega, fun hn => ?_⟩ (fun q cs hq => hq) hokp hfresh HB hbase hl h
  obtain ⟨ad, hA, hc⟩ := hr.2.2 hn
  refine ⟨ad, hA, fun j q hq => ?_⟩
  obtain ⟨cs, h1, h2, h3⟩ := hc j q hq
  exact ⟨cs, h1, d.M_mono (fun _ hk => hk.1) h2, h3⟩
end
def ScanPost (w : World) (r : List S36 × List Int) (e : Ending) (w' : World) : Prop :=
  ∃ v2 v3 : Value, e = .returned (.tuple #[v2, v3]) ∧ Kd.S k36 36 w' w.heap.size (fun _ => True) v2 r.1 ∧ Kd.R (Kd.int .i64) 3 w' w.heap.size (fun _ => True) v3 r.2 ∧ Below w.heap.size w w'
set_option maxHeartbeats 400000 in
set_option maxRecDepth 100000 in
theorem record_Scan.walk_ (A0 : Option Addr) (c0 : Nat) (l0 : List Int) (r : List S36 × List Int) (w : World) (hr0 : Kd.C (Kd.int .u8) w A0 l0.length l0) (hc0 : l0.length ≤ c0) (h : record_Scan.f l0 = some r) :
    Calls Try.prog 51 #[.slice A0 l0.length c0] w (ScanPost w r) := by
  have HR0 := Aside0.mk (And.intro hr0 hc0)
  have H := Aside0.mk h
  clear hr0 hc0 h
  go_enter Try.func51, Try.ntmps51
  go_wp2
  refine wp_scope_pass 0 (ScanJ w l0 r A0 c0) (fun _ W => l0.length - natAt W (w.heap.size + 1)) rfl ?_ ?_
  · rintro a' W ⟨n, k, l, p, v2, v3, u6, u7, u8, u9, u10, u11, u12, u13, u14, u15, u16, u17, u18, u19, u20, u21, u22, u23, u24, u25, u26, u27, u28, u29, u30, rfl, HI⟩
    have i0 := HI.out.box
    have i1 := HI.out.at_
    have hn := HI.out.le
    have hrun := HI.out.run
    obtain ⟨k, rfl⟩ : ∃ j, k = j + 1 := ⟨k - 1, by have := HI.out.fuel; omega⟩
    simp only [scanL] at hrun
    cases hrd : record_Read.f (l0.drop n) with
    | none => rw [hrd] at hrun; cases hrun
    | some q =>
      obtain ⟨r1, r2, r3, m, e⟩ := q
      rw [hrd] at hrun
      dsimp only at hrun
      have HC := Aside0.mk (scan1_calls w.heap.size (w.heap.size + 1) A0 c0 l0 n r1 r2 r3 m e W i0 i1 (Kd.C_below HR0.out.1 HI.out.bel) HR0.out.2 hn hrd)
      have HRUN := Aside0.mk hrun
      clear hrun hrd i0 i1 hn
      go_wp2_with fail
      refine HC.out.mono ?_
      rintro e1 W1 ⟨vb, rfl, hRb, hb1⟩
      obtain ⟨Ab, cb, rfl⟩ := Kd.R_slice hRb
      by_cases he : e = 0
      · have q1 : (e == 0) = true := beq_iff_eq.mpr he
        rw [q1]
        have hrun := HRUN.out
        rw [if_neg (by simpa using he)] at hrun
        split at hrun
        · rename_i hm
          obtain ⟨hm0, hml, hbig⟩ := hm
          obtain ⟨mn, rfl⟩ := Int.eq_ofNat_of_zero_le (show 0 ≤ m by omega)
          rw [Int.toNat_natCast] at hml hrun
          replace HRUN := Aside0.mk hrun
          have hK := blk_new W1 (.cells #[.int .i64 r1, .int .i64 r2, .slice Ab r3.length cb] 36)
          have hB2 := hb1.trans ((below_alloc (Below.refl W1.heap.size W1) (.cells #[.int .i64 r1, .int .i64 r2, .slice Ab r3.length cb] 36)).mono hb1.size)
          have HK6 := Aside0.mk (blk_drew hK)
          have HKP := Aside0.mk (blk_drew (blk_below HI.out.at_ hB2))
          have HKB := Aside0.mk (blk_drew (blk_below HI.out.box hB2))
          have HB := Aside0.mk (below_drew1 (HI.out.bel.trans (hB2.mono HI.out.bel.size)))
          have HO := Aside0.mk (Kd.S_drew (Kd.S_mono (ok' := fun k => w.heap.size + 2 ≤ k ∧ k < W.heap.size) (Kd.S_below (Kd.S_bound HI.out.hl) hB2) (fun k hk => ⟨hk.1, hk.2.2.1⟩)))
          have HP := Aside0.mk (Kd.R_drew (Kd.R_mono (ok' := fun k => w.heap.size + 2 ≤ k ∧ k < W.heap.size) (Kd.R_below (Kd.R_bound HI.out.hp) hB2) (fun k hk => ⟨hk.1, hk.2.2.1⟩)))
          have HE := Aside0.mk (Kd.R_drew (Kd.R_alloc (Kd.R_lower (Kd.R_mono (ok' := fun k => W.heap.size ≤ k) (Kd.R_bound hRb) (fun k hk => hk.2.1)) HI.out.bel.size) (.cells #[.int .i64 r1, .int .i64 r2, .slice Ab r3.length cb] 36)))
          have HZ := Aside0.mk (show W.heap.size ≤ W1.heap.size from hb1.size)
          have HX_ := Aside0.mk (show W1.heap.size ≤ (W1.alloc (.cells #[.int .i64 r1, .int .i64 r2, .slice Ab r3.length cb] 36)).drew.heap.size from (below_drew1 (below_alloc (Below.refl W1.heap.size W1) _)).size)
          have HZ2 := Aside0.mk (show w.heap.size + 2 ≤ W.heap.size from by have := blk_lt HI.out.at_; omega)
          have HV2 := Aside0.mk (show ∀ k, W.heap.size ≤ k → some k ≠ v2.ownBlock from fun k hk he => by have := Kd.S_lt HI.out.hl k he.symm; omega)
          have HV3 := Aside0.mk (show ∀ k, W.heap.size ≤ k → some k ≠ v3.ownBlock from fun k hk he => by have := Kd.R_lt HI.out.hp k he.symm; omega)
          have HV6 := Aside0.mk (show some W1.heap.size ≠ v2.ownBlock from HV2.out _ HZ.out)
          have HVP := Aside0.mk (show some (w.heap.size + 1) ≠ v3.ownBlock from fun he => by have h2 := HI.out.hp.1 _ he.symm; omega)
          have HSM := Aside0.mk (show l.length < 1000000000000 ∧ p.length < 1000000000000 from by have := HI.out.small; have := HI.out.le; omega)
          have HML := Aside0.mk (And.intro hm0 hml)
          have HBIG := Aside0.mk hbig
          clear hrun hRb hb1 he hK q1 HC hB2 hm0 hml hbig
          go_wp2
          refine start_ (n := 10) (S := fun w' => w'.cell? ⟨W1.heap.size, 0, none⟩ = some (.int .i64 r1) ∧ w'.cell? ⟨W1.heap.size, 1, none⟩ = some (.int .i64 r2) ∧ w'.cell? ⟨W1.heap.size, 2, none⟩ = some (.slice Ab r3.length cb) ∧ w'.cell? ⟨w.heap.size + 1, 0, none⟩ = some (.int .i64 (n : Int))) (ds := []) #[false, false, false, false, false, false, false, false, false, false] (by kernel_rfl) rfl rfl ⟨(blk_cell HK6.out 0).trans rfl, (blk_cell HK6.out 1).trans rfl, (blk_cell HK6.out 2).trans rfl, (blk_cell HKP.out 0).trans rfl⟩ (fun hHeld => ?_)
          refine pure_ (i := 0) (N := some 20) (v := ?_) (a' := ?_) #[true, false, false, false, false, false, false, false, false, false] rfl rfl (by kernel_rfl) (fun _ _ _ h => h) (Or.inl ⟨by rfl, ?_⟩) ?_ ?_
          rotate_left
          · intro w'
            go_simp
            with_reducible rfl
          rotate_left
          · simp only [Act.put, List.setIfInBounds_toArray, List.set_cons_zero, List.set_cons_succ, i64_w, i32_w]
            rfl
          refine pure_ (i := 4) (N := some 24) (v := ?_) (a' := ?_) #[true, false, false, false, true, false, false, false, false, false] rfl rfl (by kernel_rfl) (fun _ _ _ h => h) (Or.inl ⟨by rfl, ?_⟩) ?_ ?_
          rotate_left
          · intro w'
            go_simp
            with_reducible rfl
          rotate_left
          · simp only [Act.put, List.setIfInBounds_toArray, List.set_cons_zero, List.set_cons_succ, i64_w, i32_w]
            rfl
          refine take_ (i := 1) (N := some 21) (v := ?_) (a' := ?_) #[true, true, false, false, true, false, false, false, false, false] rfl rfl (by kernel_rfl) (fun _ _ _ h => h) (Or.inl ⟨by rfl, ?_⟩) hHeld ?_ ?_
          rotate_left
          · rintro w' ⟨s0, s1, s2, s3⟩
            go_simp
            with_reducible rfl
          rotate_left
          · simp only [Act.put, List.setIfInBounds_toArray, List.set_cons_zero, List.set_cons_succ, i64_w, i32_w]
            rfl
          refine take_ (i := 5) (N := some 25) (v := ?_) (a' := ?_) #[true, true, false, false, true, true, false, false, false, false] rfl rfl (by kernel_rfl) (fun _ _ _ h => h) (Or.inl ⟨by rfl, ?_⟩) hHeld ?_ ?_
          rotate_left
          · rintro w' ⟨s0, s1, s2, s3⟩
            go_simp
            with_reducible rfl
          rotate_left
          · simp only [Act.put, List.setIfInBounds_toArray, List.set_cons_zero, List.set_cons_succ, i64_w, i32_w]
            rfl
          refine join_ (σ := Value × Value × Value) 3 #[true, true, true, true, true, true, true, false, false, false] (fun s => [(22, s.1), (23, s.2.1), (26, s.2.2)]) (fun s w' => Kd.S k36 36 w' w.heap.size (fun k => w.heap.size + 2 ≤ k) s.2.1 (l ++ [⟨r1, r2, r3⟩]) ∧ Kd.R (Kd.int .i64) 3 w' w.heap.size (fun k => w.heap.size + 2 ≤ k ∧ k < W.heap.size) v3 p ∧ Kd.R (Kd.int .i64) 3 w' w.heap.size (fun k => W.heap.size ≤ k) s.2.2 [(n : Int)] ∧ W1.heap.size ≤ w'.heap.size ∧ w'.heap[W1.heap.size]? = some (.cells #[.int .i64 r1, .int .i64 r2, .slice Ab r3.length cb] 36 (0, 0)) ∧ w'.heap[w.heap.size + 1]? = some (.cells #[.int .i64 (n : Int)] 3 (0, 0)) ∧ w'.heap[w.heap.size]? = some (.cells #[.slice A0 l0.length c0] 34 (0, 0)) ∧ Below w.heap.size w w') ?_ ?_
          rotate_left
          · intro hCont
            refine two_ (i := 2) (j := 6) (Ni := some 22) (Nj := some 26) #[true, true, true, false, true, true, false, false, false, false] #[true, true, false, false, true, true, true, false, false, false] rfl rfl rfl rfl (by kernel_rfl) (by decide) (by decide) (fun K hK => ?_) (fun K hK => ?_)
            · skip
              refine Kd.R_lit_step k36 (w0 := w) w.heap.size 36 (by rfl) (N := 22) rfl (xs := [(⟨r1, r2, r3⟩ : S36)]) (inner := [.int .i64 r1, .int .i64 r2, .slice Ab r3.length cb]) (ok := fun k => W.heap.size ≤ k) (okp := fun k => W.heap.size ≤ k) ?hr ?hp (fun _ hk => hk) ?hf HB.out ?hb (by simp) ?_
              (case hr => first | (go_simp; done) | (go_simp; rfl))
              (case hp => exact Reps.c3 (k36_mkM _ _ _ (⟨r1, r2, r3⟩ : S36) HE.out) (Reps.none _ _))
              (case hf => exact Nat.le_trans HZ.out (HX_.out))
              (case hb => exact HB.out.size)
              intro v22 wx2 hR hB hg hn
              have n1_ := Aside0.mk (Kd.S_grown HO.out hg (fun _ _ => by simp))
              have n2_ := Aside0.mk (Kd.R_grown HP.out hg (fun _ _ => by simp))
              have n3_ := Aside0.mk (Kd.R_grown HE.out hg (fun _ _ => by simp))
              have n4_ := Aside0.mk (blk_grown HK6.out hg (by simp))
              have n5_ := Aside0.mk (blk_grown HKP.out hg (by simp))
              have n6_ := Aside0.mk (blk_grown HKB.out hg (by simp))
              have HL1 := Aside0.mk hR
              clear HB
              have HB := Aside0.mk hB
              have n8_ := Aside0.mk (Nat.le_trans HX_.out (hg.size))
              clear HX_
              have HX_ := n8_
              clear n8_
              clear HO HP HE HK6 HKP HKB
              have HO := n1_
              have HP := n2_
              have HE := n3_
              have HK6 := n4_
              have HKP := n5_
              have HKB := n6_
              clear n1_ n2_ n3_ n4_ n5_ n6_
              clear hR hB hg hn
              refine hK.out _ _ ⟨(blk_cell HK6.out 0).trans rfl, (blk_cell HK6.out 1).trans rfl, (blk_cell HK6.out 2).trans rfl, (blk_cell HKP.out 0).trans rfl⟩ (fun hHeld => ?_)
              clear hK K
              refine norm_ (a' := ?_) ?_ ?_
              rotate_left
              · show Act.put _ (some 22) _ = _
                simp only [Act.put, List.setIfInBounds_toArray, List.set_cons_zero, List.set_cons_succ, i64_w, i32_w]
                rfl
              refine two_ (i := 3) (j := 6) (Ni := some 23) (Nj := some 26) #[true, true, true, true, true, true, false, false, false, false] #[true, true, true, false, true, true, true, false, false, false] rfl rfl rfl rfl (by kernel_rfl) (by decide) (by decide) (fun K hK => ?_) (fun K hK => ?_)
              · skip
                refine S_append_one_step k36 (w0 := w) w.heap.size (by rfl) (.tmp 20) (.tmp 22) 44 36 (.agg #[.int .i64 0, .int .i64 0, .slice none 0 0]) 40 rfl Try.underlying44 info36 rfl (by decide) (by omega) v2 v22 l ⟨r1, r2, r3⟩ (fun k => w.heap.size + 2 ≤ k) (fun k => W.heap.size ≤ k) rfl rfl HL1.out (fun k hk => ⟨Nat.le_trans HZ2.out hk, HV2.out k hk⟩) (fun k hk => Nat.le_trans HZ2.out (Nat.le_trans HZ.out (Nat.le_trans HX_.out hk))) (Kd.S_mono HO.out (fun k hk => ⟨hk.1, by have := hk.2; omega⟩)) HB.out HB.out.size (by have := HSM.out; omega) ?_
                intro v23 wx23 hS hB hg hn
                have n1_ := Aside0.mk hS
                have n2_ := Aside0.mk (Kd.R_over' HP.out (Kd.S_typed HO.out) (by decide) hg)
                have n4_ := Aside0.mk (blk_grown HK6.out hg HV6.out)
                have n5_ := Aside0.mk (blk_grown HKP.out hg (Kd.S_ne HO.out HKP.out (by decide)))
                have n6_ := Aside0.mk (blk_grown HKB.out hg (Kd.S_ne HO.out HKB.out (by decide)))
                have n8_ := Aside0.mk (Nat.le_trans HX_.out (hg.size))
                clear HX_
                have HX_ := n8_
                clear n8_ HB HE HL1
                have HB := Aside0.mk hB
                have HE := n2_
                clear HO HP HK6 HKP HKB
                have HO := n1_
                have HP := n2_
                have HK6 := n4_
                have HKP := n5_
                have HKB := n6_
                clear n1_ n2_ n4_ n5_ n6_
                clear hS hB hg hn
                refine hK.out _ _ ⟨(blk_cell HK6.out 0).trans rfl, (blk_cell HK6.out 1).trans rfl, (blk_cell HK6.out 2).trans rfl, (blk_cell HKP.out 0).trans rfl⟩ (fun hHeld => ?_)
                clear hK K
                refine norm_ (a' := ?_) ?_ ?_
                rotate_left
                · show Act.put _ (some 23) _ = _
                  simp only [Act.put, List.setIfInBounds_toArray, List.set_cons_zero, List.set_cons_succ, i64_w, i32_w]
                  rfl
                refine one_ (i := 6) (N := some 26) #[true, true, true, true, true, true, true, false, false, false] rfl rfl (by kernel_rfl) (by decide) (fun K hK => ?_)
                refine Kd.R_lit_step (Kd.int .i64) (w0 := w) w.heap.size 3 (by rfl) (N := 26) rfl (xs := [(n : Int)]) (inner := [.int .i64 (n : Int)]) (ok := fun k => W.heap.size ≤ k) (okp := fun _ => False) ?hr ?hp (fun _ hk => hk.elim) ?hf HB.out ?hb (by simp) ?_
                (case hr => first | (go_simp; done) | (go_simp; rfl))
                (case hp => exact Reps.one (show (Kd.int .i64).M _ _ _ (n : Int) [.int .i64 (n : Int)] from rfl) (Reps.none _ _))
                (case hf => exact Nat.le_trans HZ.out HX_.out)
                (case hb => exact HB.out.size)
                intro v26 wx236 hR hB hg hn
                have n1_ := Aside0.mk (Kd.S_grown HO.out hg (fun _ _ => by simp))
                have n2_ := Aside0.mk (Kd.R_grown HP.out hg (fun _ _ => by simp))
                have n3_ := Aside0.mk (Kd.R_grown HE.out hg (fun _ _ => by simp))
                have n4_ := Aside0.mk (blk_grown HK6.out hg (by simp))
                have n5_ := Aside0.mk (blk_grown HKP.out hg (by simp))
                have n6_ := Aside0.mk (blk_grown HKB.out hg (by simp))
                have HL2 := Aside0.mk hR
                clear HB
                have HB := Aside0.mk hB
                have n8_ := Aside0.mk (Nat.le_trans HX_.out (hg.size))
                clear HX_
                have HX_ := n8_
                clear n8_
                clear HO HP HE HK6 HKP HKB
                have HO := n1_
                have HP := n2_
                have HE := n3_
                have HK6 := n4_
                have HKP := n5_
                have HKB := n6_
                clear n1_ n2_ n3_ n4_ n5_ n6_
                clear hR hB hg hn
                refine hK.out _ _ ⟨(blk_cell HK6.out 0).trans rfl, (blk_cell HK6.out 1).trans rfl, (blk_cell HK6.out 2).trans rfl, (blk_cell HKP.out 0).trans rfl⟩ (fun hHeld => ?_)
                clear hK K
                refine norm_ (a' := ?_) ?_ ?_
                rotate_left
                · show Act.put _ (some 26) _ = _
                  simp only [Act.put, List.setIfInBounds_toArray, List.set_cons_zero, List.set_cons_succ, i64_w, i32_w]
                  rfl
                exact norm_ (by simp only [putAll, Act.put, List.setIfInBounds_toArray, List.set_cons_zero, List.set_cons_succ]) (hCont (v22, v23, v26) _ ⟨HO.out, HP.out, HL2.out, HX_.out, HK6.out, HKP.out, HKB.out, HB.out⟩)
              · skip
                refine Kd.R_lit_step (Kd.int .i64) (w0 := w) w.heap.size 3 (by rfl) (N := 26) rfl (xs := [(n : Int)]) (inner := [.int .i64 (n : Int)]) (ok := fun k => W.heap.size ≤ k) (okp := fun _ => False) ?hr ?hp (fun _ hk => hk.elim) ?hf HB.out ?hb (by simp) ?_
                (case hr => first | (go_simp; done) | (go_simp; rfl))
                (case hp => exact Reps.one (show (Kd.int .i64).M _ _ _ (n : Int) [.int .i64 (n : Int)] from rfl) (Reps.none _ _))
                (case hf => exact Nat.le_trans HZ.out HX_.out)
                (case hb => exact HB.out.size)
                intro v26 wx26 hR hB hg hn
                have n1_ := Aside0.mk (Kd.S_grown HO.out hg (fun _ _ => by simp))
                have n2_ := Aside0.mk (Kd.R_grown HP.out hg (fun _ _ => by simp))
                have n3_ := Aside0.mk (Kd.R_grown HE.out hg (fun _ _ => by simp))
                have n4_ := Aside0.mk (blk_grown HK6.out hg (by simp))
                have n5_ := Aside0.mk (blk_grown HKP.out hg (by simp))
                have n6_ := Aside0.mk (blk_grown HKB.out hg (by simp))
                have n7_ := Aside0.mk (Kd.R_grown HL1.out hg (fun _ _ => by simp))
                have HL2 := Aside0.mk hR
                clear HB
                have HB := Aside0.mk hB
                have n8_ := Aside0.mk (Nat.le_trans HX_.out (hg.size))
                clear HX_
                have HX_ := n8_
                clear n8_
                clear HO HP HE HK6 HKP HKB
                have HO := n1_
                have HP := n2_
                have HE := n3_
                have HK6 := n4_
                have HKP := n5_
                have HKB := n6_
                clear n1_ n2_ n3_ n4_ n5_ n6_
                clear HL1
                have HL1 := n7_
                clear n7_
                clear hR hB hg hn
                refine hK.out _ _ ⟨(blk_cell HK6.out 0).trans rfl, (blk_cell HK6.out 1).trans rfl, (blk_cell HK6.out 2).trans rfl, (blk_cell HKP.out 0).trans rfl⟩ (fun hHeld => ?_)
                clear hK K
                refine norm_ (a' := ?_) ?_ ?_
                rotate_left
                · show Act.put _ (some 26) _ = _
                  simp only [Act.put, List.setIfInBounds_toArray, List.set_cons_zero, List.set_cons_succ, i64_w, i32_w]
                  rfl
                refine one_ (i := 3) (N := some 23) #[true, true, true, true, true, true, true, false, false, false] rfl rfl (by kernel_rfl) (by decide) (fun K hK => ?_)
                refine S_append_one_step k36 (w0 := w) w.heap.size (by rfl) (.tmp 20) (.tmp 22) 44 36 (.agg #[.int .i64 0, .int .i64 0, .slice none 0 0]) 40 rfl Try.underlying44 info36 rfl (by decide) (by omega) v2 v22 l ⟨r1, r2, r3⟩ (fun k => w.heap.size + 2 ≤ k) (fun k => W.heap.size ≤ k) rfl rfl HL1.out (fun k hk => ⟨Nat.le_trans HZ2.out hk, HV2.out k hk⟩) (fun k hk => Nat.le_trans HZ2.out (Nat.le_trans HZ.out (Nat.le_trans HX_.out hk))) (Kd.S_mono HO.out (fun k hk => ⟨hk.1, by have := hk.2; omega⟩)) HB.out HB.out.size (by have := HSM.out; omega) ?_
                intro v23 wx263 hS hB hg hn
                have n1_ := Aside0.mk hS
                have n2_ := Aside0.mk (Kd.R_over' HP.out (Kd.S_typed HO.out) (by decide) hg)
                have n4_ := Aside0.mk (blk_grown HK6.out hg HV6.out)
                have n5_ := Aside0.mk (blk_grown HKP.out hg (Kd.S_ne HO.out HKP.out (by decide)))
                have n6_ := Aside0.mk (blk_grown HKB.out hg (Kd.S_ne HO.out HKB.out (by decide)))
                have n7_ := Aside0.mk (Kd.R_over' HL2.out (Kd.S_typed HO.out) (by decide) hg)
                have n8_ := Aside0.mk (Nat.le_trans HX_.out (hg.size))
                clear HX_
                have HX_ := n8_
                clear n8_ HB HE HL1
                have HB := Aside0.mk hB
                have HE := n2_
                clear HO HP HK6 HKP HKB
                have HO := n1_
                have HP := n2_
                have HK6 := n4_
                have HKP := n5_
                have HKB := n6_
                clear n1_ n2_ n4_ n5_ n6_
                clear HL2
                have HL2 := n7_
                clear n7_
                clear hS hB hg hn
                refine hK.out _ _ ⟨(blk_cell HK6.out 0).trans rfl, (blk_cell HK6.out 1).trans rfl, (blk_cell HK6.out 2).trans rfl, (blk_cell HKP.out 0).trans rfl⟩ (fun hHeld => ?_)
                clear hK K
                refine norm_ (a' := ?_) ?_ ?_
                rotate_left
                · show Act.put _ (some 23) _ = _
                  simp only [Act.put, List.setIfInBounds_toArray, List.set_cons_zero, List.set_cons_succ, i64_w, i32_w]
                  rfl
                exact norm_ (by simp only [putAll, Act.put, List.setIfInBounds_toArray, List.set_cons_zero, List.set_cons_succ]) (hCont (v22, v23, v26) _ ⟨HO.out, HP.out, HL2.out, HX_.out, HK6.out, HKP.out, HKB.out, HB.out⟩)
            · skip
              refine Kd.R_lit_step (Kd.int .i64) (w0 := w) w.heap.size 3 (by rfl) (N := 26) rfl (xs := [(n : Int)]) (inner := [.int .i64 (n : Int)]) (ok := fun k => W.heap.size ≤ k) (okp := fun _ => False) ?hr ?hp (fun _ hk => hk.elim) ?hf HB.out ?hb (by simp) ?_
              (case hr => first | (go_simp; done) | (go_simp; rfl))
              (case hp => exact Reps.one (show (Kd.int .i64).M _ _ _ (n : Int) [.int .i64 (n : Int)] from rfl) (Reps.none _ _))
              (case hf => exact Nat.le_trans HZ.out HX_.out)
              (case hb => exact HB.out.size)
              intro v26 wx6 hR hB hg hn
              have n1_ := Aside0.mk (Kd.S_grown HO.out hg (fun _ _ => by simp))
              have n2_ := Aside0.mk (Kd.R_grown HP.out hg (fun _ _ => by simp))
              have n3_ := Aside0.mk (Kd.R_grown HE.out hg (fun _ _ => by simp))
              have n4_ := Aside0.mk (blk_grown HK6.out hg (by simp))
              have n5_ := Aside0.mk (blk_grown HKP.out hg (by simp))
              have n6_ := Aside0.mk (blk_grown HKB.out hg (by simp))
              have HL2 := Aside0.mk hR
              clear HB
              have HB := Aside0.mk hB
              have n8_ := Aside0.mk (Nat.le_trans HX_.out (hg.size))
              clear HX_
              have HX_ := n8_
              clear n8_
              clear HO HP HE HK6 HKP HKB
              have HO := n1_
              have HP := n2_
              have HE := n3_
              have HK6 := n4_
              have HKP := n5_
              have HKB := n6_
              clear n1_ n2_ n3_ n4_ n5_ n6_
              clear hR hB hg hn
              refine hK.out _ _ ⟨(blk_cell HK6.out 0).trans rfl, (blk_cell HK6.out 1).trans rfl, (blk_cell HK6.out 2).trans rfl, (blk_cell HKP.out 0).trans rfl⟩ (fun hHeld => ?_)
              clear hK K
              refine norm_ (a' := ?_) ?_ ?_
              rotate_left
              · show Act.put _ (some 26) _ = _
                simp only [Act.put, List.setIfInBounds_toArray, List.set_cons_zero, List.set_cons_succ, i64_w, i32_w]
                rfl
              refine one_ (i := 2) (N := some 22) #[true, true, true, false, true, true, true, false, false, false] rfl rfl (by kernel_rfl) (by decide) (fun K hK => ?_)
              refine Kd.R_lit_step k36 (w0 := w) w.heap.size 36 (by rfl) (N := 22) rfl (xs := [(⟨r1, r2, r3⟩ : S36)]) (inner := [.int .i64 r1, .int .i64 r2, .slice Ab r3.length cb]) (ok := fun k => W.heap.size ≤ k) (okp := fun k => W.heap.size ≤ k) ?hr ?hp (fun _ hk => hk) ?hf HB.out ?hb (by simp) ?_
              (case hr => first | (go_simp; done) | (go_simp; rfl))
              (case hp => exact Reps.c3 (k36_mkM _ _ _ (⟨r1, r2, r3⟩ : S36) HE.out) (Reps.none _ _))
              (case hf => exact Nat.le_trans HZ.out (HX_.out))
              (case hb => exact HB.out.size)
              intro v22 wx62 hR hB hg hn
              have n1_ := Aside0.mk (Kd.S_grown HO.out hg (fun _ _ => by simp))
              have n2_ := Aside0.mk (Kd.R_grown HP.out hg (fun _ _ => by simp))
              have n3_ := Aside0.mk (Kd.R_grown HE.out hg (fun _ _ => by simp))
              have n4_ := Aside0.mk (blk_grown HK6.out hg (by simp))
              have n5_ := Aside0.mk (blk_grown HKP.out hg (by simp))
              have n6_ := Aside0.mk (blk_grown HKB.out hg (by simp))
              have n7_ := Aside0.mk (Kd.R_grown HL2.out hg (fun _ _ => by simp))
              have HL1 := Aside0.mk hR
              clear HB
              have HB := Aside0.mk hB
              have n8_ := Aside0.mk (Nat.le_trans HX_.out (hg.size))
              clear HX_
              have HX_ := n8_
              clear n8_
              clear HO HP HE HK6 HKP HKB
              have HO := n1_
              have HP := n2_
              have HE := n3_
              have HK6 := n4_
              have HKP := n5_
              have HKB := n6_
              clear n1_ n2_ n3_ n4_ n5_ n6_
              clear HL2
              have HL2 := n7_
              clear n7_
              clear hR hB hg hn
              refine hK.out _ _ ⟨(blk_cell HK6.out 0).trans rfl, (blk_cell HK6.out 1).trans rfl, (blk_cell HK6.out 2).trans rfl, (blk_cell HKP.out 0).trans rfl⟩ (fun hHeld => ?_)
              clear hK K
              refine norm_ (a' := ?_) ?_ ?_
              rotate_left
              · show Act.put _ (some 22) _ = _
                simp only [Act.put, List.setIfInBounds_toArray, List.set_cons_zero, List.set_cons_succ, i64_w, i32_w]
                rfl
              refine one_ (i := 3) (N := some 23) #[true, true, true, true, true, true, true, false, false, false] rfl rfl (by kernel_rfl) (by decide) (fun K hK => ?_)
              refine S_append_one_step k36 (w0 := w) w.heap.size (by rfl) (.tmp 20) (.tmp 22) 44 36 (.agg #[.int .i64 0, .int .i64 0, .slice none 0 0]) 40 rfl Try.underlying44 info36 rfl (by decide) (by omega) v2 v22 l ⟨r1, r2, r3⟩ (fun k => w.heap.size + 2 ≤ k) (fun k => W.heap.size ≤ k) rfl rfl HL1.out (fun k hk => ⟨Nat.le_trans HZ2.out hk, HV2.out k hk⟩) (fun k hk => Nat.le_trans HZ2.out (Nat.le_trans HZ.out (Nat.le_trans HX_.out hk))) (Kd.S_mono HO.out (fun k hk => ⟨hk.1, by have := hk.2; omega⟩)) HB.out HB.out.size (by have := HSM.out; omega) ?_
              intro v23 wx623 hS hB hg hn
              have n1_ := Aside0.mk hS
              have n2_ := Aside0.mk (Kd.R_over' HP.out (Kd.S_typed HO.out) (by decide) hg)
              have n4_ := Aside0.mk (blk_grown HK6.out hg HV6.out)
              have n5_ := Aside0.mk (blk_grown HKP.out hg (Kd.S_ne HO.out HKP.out (by decide)))
              have n6_ := Aside0.mk (blk_grown HKB.out hg (Kd.S_ne HO.out HKB.out (by decide)))
              have n7_ := Aside0.mk (Kd.R_over' HL2.out (Kd.S_typed HO.out) (by decide) hg)
              have n8_ := Aside0.mk (Nat.le_trans HX_.out (hg.size))
              clear HX_
              have HX_ := n8_
              clear n8_ HB HE HL1
              have HB := Aside0.mk hB
              have HE := n2_
              clear HO HP HK6 HKP HKB
              have HO := n1_
              have HP := n2_
              have HK6 := n4_
              have HKP := n5_
              have HKB := n6_
              clear n1_ n2_ n4_ n5_ n6_
              clear HL2
              have HL2 := n7_
              clear n7_
              clear hS hB hg hn
              refine hK.out _ _ ⟨(blk_cell HK6.out 0).trans rfl, (blk_cell HK6.out 1).trans rfl, (blk_cell HK6.out 2).trans rfl, (blk_cell HKP.out 0).trans rfl⟩ (fun hHeld => ?_)
              clear hK K
              refine norm_ (a' := ?_) ?_ ?_
              rotate_left
              · show Act.put _ (some 23) _ = _
                simp only [Act.put, List.setIfInBounds_toArray, List.set_cons_zero, List.set_cons_succ, i64_w, i32_w]
                rfl
              exact norm_ (by simp only [putAll, Act.put, List.setIfInBounds_toArray, List.set_cons_zero, List.set_cons_succ]) (hCont (v22, v23, v26) _ ⟨HO.out, HP.out, HL2.out, HX_.out, HK6.out, HKP.out, HKB.out, HB.out⟩)
          rintro ⟨v22, v23, v26⟩ w3 ⟨ho_, hp_, hl2_, hx_, hk6_, hkp_, hkb_, hb_⟩
          clear HO HP HE HK6 HKP HKB HB HX_
          have HO := Aside0.mk ho_
          have HP := Aside0.mk hp_
          have HL2 := Aside0.mk hl2_
          have HX_ := Aside0.mk hx_
          have HK6 := Aside0.mk hk6_
          have HKP := Aside0.mk hkp_
          have HKB := Aside0.mk hkb_
          have HB := Aside0.mk hb_
          clear ho_ hp_ hl2_ hx_ hk6_ hkp_ hkb_ hb_
          have hHeld : w3.cell? ⟨W1.heap.size, 0, none⟩ = some (.int .i64 r1) ∧ w3.cell? ⟨W1.heap.size, 1, none⟩ = some (.int .i64 r2) ∧ w3.cell? ⟨W1.heap.size, 2, none⟩ = some (.slice Ab r3.length cb) ∧ w3.cell? ⟨w.heap.size + 1, 0, none⟩ = some (.int .i64 (n : Int)) := ⟨(blk_cell HK6.out 0).trans rfl, (blk_cell HK6.out 1).trans rfl, (blk_cell HK6.out 2).trans rfl, (blk_cell HKP.out 0).trans rfl⟩
          refine norm_ (a' := ?_) ?_ ?_
          rotate_left
          · simp only [putAll, Act.put, List.setIfInBounds_toArray, List.set_cons_zero, List.set_cons_succ]
            rfl
          refine one_ (i := 7) (N := some 27) #[true, true, true, true, true, true, true, true, false, false] rfl rfl (by kernel_rfl) (by decide) (fun K hK => ?_)
          refine R_append_one_step (Kd.int .i64) (w0 := w) w.heap.size (by rfl) (.tmp 24) (.tmp 26) 68 3 (.int .i64 0) 8 rfl Try.underlying68 info3 rfl (by decide) (by omega) v3 v26 p (n : Int) (fun k => w.heap.size + 2 ≤ k) (fun k => W.heap.size ≤ k) rfl rfl HL2.out (fun k hk => ⟨Nat.le_trans HZ2.out hk, HV3.out k hk⟩) (fun k hk => Nat.le_trans HZ2.out (Nat.le_trans HZ.out (Nat.le_trans HX_.out hk))) (Kd.R_mono HP.out (fun k hk => hk.1)) HB.out HB.out.size (by have := HSM.out; omega) ?_
          intro v27 wx7 hR hB hg hn
          have n1_ := Aside0.mk (Kd.S_over' HO.out (Kd.R_typed HP.out) (by decide) hg)
          have n4_ := Aside0.mk (blk_grown HK6.out hg (Kd.R_ne HP.out HK6.out (by decide)))
          have n5_ := Aside0.mk (blk_grown HKP.out hg HVP.out)
          have n6_ := Aside0.mk (blk_grown HKB.out hg (Kd.R_ne HP.out HKB.out (by decide)))
          clear HO HP HK6 HKP HKB HB HL2
          have HO := n1_
          have HP := Aside0.mk hR
          have HK6 := n4_
          have HKP := n5_
          have HKB := n6_
          have HB := Aside0.mk hB
          clear n1_ n4_ n5_ n6_ hR hB hg hn
          refine hK.out _ _ ⟨(blk_cell HK6.out 0).trans rfl, (blk_cell HK6.out 1).trans rfl, (blk_cell HK6.out 2).trans rfl, (blk_cell HKP.out 0).trans rfl⟩ (fun hHeld => ?_)
          clear hK K
          refine norm_ (a' := ?_) ?_ ?_
          rotate_left
          · show Act.put _ (some 27) _ = _
            simp only [Act.put, List.setIfInBounds_toArray, List.set_cons_zero, List.set_cons_succ, i64_w, i32_w]
            rfl
          refine pure_ (i := 8) (N := some 2) (v := ?_) (a' := ?_) #[true, true, true, true, true, true, true, true, true, false] rfl rfl (by kernel_rfl) (fun _ _ _ h => h) (Or.inl ⟨by rfl, ?_⟩) ?_ ?_
          rotate_left
          · intro w'
            go_simp
            with_reducible rfl
          rotate_left
          · simp only [Act.put, List.setIfInBounds_toArray, List.set_cons_zero, List.set_cons_succ, i64_w, i32_w]
            rfl
          refine pure_ (i := 9) (N := some 3) (v := ?_) (a' := ?_) #[true, true, true, true, true, true, true, true, true, true] rfl rfl (by kernel_rfl) (fun _ _ _ h => h) (Or.inl ⟨by rfl, ?_⟩) ?_ ?_
          rotate_left
          · intro w'
            go_simp
            with_reducible rfl
          rotate_left
          · simp only [Act.put, List.setIfInBounds_toArray, List.set_cons_zero, List.set_cons_succ, i64_w, i32_w]
            rfl
          refine done_ (by kernel_rfl) ?_
          have x0 : wx7.cell? ⟨w.heap.size + 1, 0, none⟩ = some (.int .i64 (n : Int)) := (blk_cell HKP.out 0).trans rfl
          have g0 : wx7.frozen? ⟨w.heap.size + 1, 0, none⟩ = false := blk_frozen HKP.out 0
          have es : wrap64 ((n : Int) + (mn : Int)) = ((n + mn : Nat) : Int) := by have := HML.out; have := HBIG.out; unfold wrap64; omega
          go_wp2
          go_step3
          have hat : (wx7.setCell ⟨w.heap.size + 1, 0, none⟩ (.int .i64 ((n : Int) + (mn : Int)))).heap[w.heap.size + 1]? = some (.cells #[.int .i64 ((n + mn : Nat) : Int)] 3 (0, 0)) := by
            rw [Int.natCast_add]; exact blk_put HKP.out 0 _ rfl
          have hml := HML.out
          refine ⟨rfl, ⟨n + mn, k, l ++ [⟨r1, r2, r3⟩], p ++ [(n : Int)], v23, v27, _, _, _, _, _, _, _, _, _, _, _, _, _, _, _, _, _, _, _, _, _, _, _, _, _, rfl, ⟨?_⟩⟩, ?_⟩
          · exact {
              le := by omega
              fuel := by have := HI.out.fuel; omega
              small := by have := HI.out.small; rw [List.length_append, List.length_append, List.length_singleton, List.length_singleton]; omega
              run := HRUN.out
              box := blk_far HKB.out (p := ⟨w.heap.size + 1, 0, none⟩) (by simp) _
              at_ := hat
              bel := HB.out.setCell (by simp) _
              hl := Kd.S_set HO.out HKP.out (by decide) 0 _
              hp := Kd.R_far HP.out (p := ⟨w.heap.size + 1, 0, none⟩) (fun k hk => by simp only; omega) _ }
          · rw [natAt_of hat, natAt_of HI.out.at_]; omega
        · cases hrun
      · have q1 : (e == 0) = false := beq_eq_false_iff_ne.mpr he
        rw [q1]
        have hrun := HRUN.out
        rw [if_pos he] at hrun
        obtain rfl := Option.some.inj hrun
        have hK := blk_new W1 (.cells #[.int .i64 r1, .int .i64 r2, .slice Ab r3.length cb] 36)
        have HF := Aside0.mk (show Kd.S k36 36 W1 w.heap.size (fun _ => True) v2 l from Kd.S_mono (Kd.S_below HI.out.hl hb1) (fun _ _ => trivial))
        have HP := Aside0.mk (show Kd.R (Kd.int .i64) 3 W1 w.heap.size (fun _ => True) v3 p from Kd.R_mono (Kd.R_below HI.out.hp hb1) (fun _ _ => trivial))
        have HB := Aside0.mk (HI.out.bel.trans (hb1.mono HI.out.bel.size))
        clear hrun hRb hb1 he hK q1 HC
        go_wp2
        show bodyPost Try.prog Try.f51 _ Exit.ret _ _
        refine bodyPost_ret (results_tmp2 rfl _ _ _) rfl ?_
        refine ⟨v2, v3, rfl, ?_, ?_, ?_⟩
        · exact Kd.S_alloc HF.out _
        · exact Kd.R_alloc HP.out _
        · exact below_alloc HB.out _
  · intro hrest
    go_wp2
    go_step3
    rename_i K hK
    refine hK _ _ (hrest _ _ ⟨0, l0.length + 1, [], [], .slice none 0 0, .slice none 0 0, _, _, _, _, _, _, _, _, _, _, _, _, _, _, _, _, _, _, _, _, _, _, _, _, _, rfl, ⟨?_⟩⟩)
    exact {
      le := Nat.zero_le _
      fuel := by omega
      small := ⟨Nat.le_refl _, Nat.le_refl _⟩
      run := H.out
      box := blk_alloc (blk_new w _) _
      at_ := scan_new2 w _ _
      bel := (below_alloc (Below.refl _ _) _).alloc (by simp) _
      hl := Kd.S_nil _ _ _ _ _
      hp := Kd.R_nil _ _ _ _ _ }
end Go.Proofs.Ytdgefplbfffenaa.X
namespace Go.Proofs.Ytdgefplbfffenaa.X
open Go.RowKit Go.Proofs.YtdgefplbfffenaaW.PrintWords Go.Proofs.YtdgefplbfffenaaW.PrintLast Go.Proofs.YtdgefplbfffenaaW.PrintMore
def cmp3 (x y : Int) : Int := if x < y then -1 else if x > y then 1 else 0
set_option maxHeartbeats 400000 in
theorem isNaN_calls (x : Int) (w : World) : Calls Try.prog 76 #[.int .i64 x] w fun e w' => e = .returned (.bool false) ∧ w = w' := by
  go_enter Try.func76, Try.ntmps76
  go_wp2
  go_ret
  exact ⟨by simp, rfl⟩
set_option maxHeartbeats 400000 in
theorem compare_calls (x y : Int) (w : World) : Calls Try.prog 54 #[.int .i64 x, .int .i64 y] w fun e w' => e = .returned (.int .i64 (cmp3 x y)) ∧ w = w' := by
  unfold cmp3
  by_cases h1 : x < y
  · rw [if_pos h1]
    have d1 : decide (x < y) = true := decide_eq_true h1
    clear h1
    go_enter Try.func54, Try.ntmps54
    go_wp2_with (go_at_call 76; refine (isNaN_calls _ _).mono ?_; rintro e w' ⟨rfl, rfl⟩)
    go_ret
    exact ⟨rfl, rfl⟩
  · rw [if_neg h1]
    have d1 : decide (x < y) = false := decide_eq_false h1
    by_cases h2 : x > y
    · rw [if_pos h2]
      have d2 : decide (x > y) = true := decide_eq_true h2
      have d3 : decide (y < x) = true := decide_eq_true h2
      clear h1 h2
      go_enter Try.func54, Try.ntmps54
      go_wp2_with (go_at_call 76; refine (isNaN_calls _ _).mono ?_; rintro e w' ⟨rfl, rfl⟩)
      go_ret
      exact ⟨rfl, rfl⟩
    · rw [if_neg h2]
      have d2 : decide (x > y) = false := decide_eq_false h2
      have d3 : decide (y < x) = false := decide_eq_false h2
      clear h1 h2
      go_enter Try.func54, Try.ntmps54
      go_wp2_with (go_at_call 76; refine (isNaN_calls _ _).mono ?_; rintro e w' ⟨rfl, rfl⟩)
      go_ret
      exact ⟨rfl, rfl⟩
set_option maxHeartbeats 400000 in
set_option maxRecDepth 100000 in
/-- log.All's closure: compares numbers. -/
theorem bySeq_calls (a0 a1 : Int) (va : Value) (a3 a4 b0 b1 : Int) (vb : Value) (b3 b4 : Int) (w : World) :
    Calls Try.prog 53 #[.agg #[.int .i64 a0, .int .i64 a1, va, .int .i64 a3, .int .i64 a4], .agg #[.int .i64 b0, .int .i64 b1, vb, .int .i64 b3, .int .i64 b4]] w fun e w' => e = .returned (.int .i64 (cmp3 a1 b1)) ∧ Below w.heap.size w w' := by
  have hu42 := Try.underlying42
  have hu36 := Try.underlying36
  have HC := Aside0.mk (fun W => compare_calls a1 b1 W)
  go_enter Try.func53, Try.ntmps53
  go_wp2_with fail
  refine (HC.out _).mono ?_
  rintro e w1 ⟨rfl, rfl⟩
  go_wp2
  go_ret
  exact ⟨rfl, (below_alloc (Below.refl _ _) _).alloc (by simp) _⟩
/-- A row whose elements (with the numbers that they had at first) lie in another order. -/
def zP : S42 × Nat := (z42, 0)
def sinkL (ps : List (S42 × Nat)) : Nat → List (S42 × Nat)
  | 0 => ps
  | j + 1 => if (ps.getD (j + 1) zP).1.f0.f1 < (ps.getD j zP).1.f0.f1 then sinkL ((ps.set (j + 1) (ps.getD j zP)).set j (ps.getD (j + 1) zP)) j else ps
def isortL (n : Nat) : Nat → Nat → List (S42 × Nat) → List (S42 × Nat)
  | 0, _, ps => ps
  | k + 1, i, ps => if i < n then isortL n k (i + 1) (sinkL ps i) else ps
theorem sinkL_len (ps : List (S42 × Nat)) (j : Nat) : (sinkL ps j).length = ps.length := by
  induction j generalizing ps with
  | zero => rfl
  | succ j ih => unfold sinkL; split; rw [ih, List.length_set, List.length_set]; rfl
structure RowInv (f : Nat → Nat) (w W : World) (base g cap n : Nat) (ok : Nat → Prop) (ps : List (S42 × Nat)) : Prop where
  row : (Kd.tag f k42).R 42 W base ok (.slice (some ⟨g, 0, none⟩) n cap) ps
  len : ps.length = n
  far : ∀ k, k < w.heap.size → k ≠ g → W.heap[k]? = w.heap[k]?
  bel : Below 0 w W
/-- Two elements next to each other. -/
theorem row_two {f : Nat → Nat} {w W : World} {base g cap n : Nat} {ok : Nat → Prop} {ps : List (S42 × Nat)} (h : RowInv f w W base g cap n ok ps) (j : Nat) (hj : j + 1 < n) :
    ∃ (a0 a1 : Int) (va : Value) (a3 a4 b0 b1 : Int) (vb : Value) (b3 b4 : Int), (∃ A l c, va = .slice A l c) ∧ (∃ A l c, vb = .slice A l c) ∧ a1 = (ps.getD (j + 1) zP).1.f0.f1 ∧ b1 = (ps.getD j zP).1.f0.f1 ∧
      (Kd.tag f k42).M W base (fun k => ok k ∧ k ≠ g) (ps.getD (j + 1) zP) [.int .i64 a0, .int .i64 a1, va, .int .i64 a3, .int .i64 a4] ∧
      (Kd.tag f k42).M W base (fun k => ok k ∧ k ≠ g) (ps.getD j zP) [.int .i64 b0, .int .i64 b1, vb, .int .i64 b3, .int .i64 b4] ∧
      (∀ i u, [Value.int .i64 a0, .int .i64 a1, va, .int .i64 a3, .int .i64 a4][i]? = some u → W.cell? ⟨g, (j + 1) * 5 + i, none⟩ = some u) ∧
      (∀ i u, [Value.int .i64 b0, .int .i64 b1, vb, .int .i64 b3, .int .i64 b4][i]? = some u → W.cell? ⟨g, j * 5 + i, none⟩ = some u) := by
  obtain ⟨c, hc1, hc2, hc3, _⟩ := Kd.R_elem h.row zP ((j + 1 : Nat) : Int) (by omega) (by omega)
  obtain ⟨d, hd1, hd2, hd3, _⟩ := Kd.R_elem h.row zP (j : Int) (by omega) (by omega)
  simp only [Int.toNat_natCast] at hc2 hc3 hd2 hd3
  obtain ⟨va, rfl, hva⟩ := k42_openM hc2
  obtain ⟨vb, rfl, hvb⟩ := k42_openM hd2
  obtain ⟨Aa, ca, rfl⟩ := Kd.R_slice hva
  obtain ⟨Ab, cb, rfl⟩ := Kd.R_slice hvb
  exact ⟨_, _, _, _, _, _, _, _, _, _, ⟨_, _, _, rfl⟩, ⟨_, _, _, rfl⟩, rfl, rfl, hc2, hd2, hc3, hd3⟩
/-- The two exchanged. -/
theorem row_swap {f : Nat → Nat} {w W : World} {base g cap n : Nat} {ok : Nat → Prop} {ps : List (S42 × Nat)} (h : RowInv f w W base g cap n ok ps) (j : Nat) (hj : j + 1 < n) {c d : List Value} (hcl : c.length = 5) (hdl : d.length = 5)
    (hc : (Kd.tag f k42).M W base (fun k => ok k ∧ k ≠ g) (ps.getD (j + 1) zP) c) (hd : (Kd.tag f k42).M W base (fun k => ok k ∧ k ≠ g) (ps.getD j zP) d)
    (hcc : ∀ i u, c[i]? = some u → W.cell? ⟨g, (j + 1) * 5 + i, none⟩ = some u) :
    RowInv f w ((W.setCells g ((j + 1) * 5) d).setCells g (j * 5) c) base g cap n ok ((ps.set (j + 1) (ps.getD j zP)).set j (ps.getD (j + 1) zP)) := by
  obtain ⟨hR1, hg1⟩ := Kd.R_seg (okp := fun k => ok k ∧ k ≠ g) (j := 0) (seg := d) h.row ((j + 1 : Nat) : Int) (by omega) (by omega) hcl (by rw [Int.toNat_natCast]; exact hcc) (by rw [hdl]; exact Nat.le_refl 5) (x' := ps.getD j zP) (by rw [hdl, List.take_zero, List.nil_append, List.drop_eq_nil_of_le (by omega), List.append_nil]; exact hd) (fun k hk => hk)
  simp only [Int.toNat_natCast, Nat.add_zero] at hR1 hg1
  rw [show (Kd.tag f k42).sz = 5 from rfl] at hR1 hg1
  obtain ⟨c', hc1, _, hc3, _⟩ := Kd.R_elem hR1 zP (j : Int) (by omega) (by omega)
  obtain ⟨hR2, hg2⟩ := Kd.R_seg (okp := fun k => ok k ∧ k ≠ g) (j := 0) (seg := c) hR1 (j : Int) (by omega) (by omega) hc1 hc3 (by rw [hcl]; exact Nat.le_refl 5) (x' := ps.getD (j + 1) zP)
    (by rw [hcl, List.take_zero, List.nil_append, List.drop_eq_nil_of_le (by rw [hc1]; exact Nat.le_refl 5), List.append_nil]; exact Kd.M_step hc (fun k hk hlt => hg1.block k hlt (fun he => hk.2 (by injection he)))) (fun k hk => hk)
  simp only [Int.toNat_natCast, Nat.add_zero] at hR2 hg2
  rw [show (Kd.tag f k42).sz = 5 from rfl] at hR2 hg2
  refine ⟨hR2, by rw [List.length_set, List.length_set, h.len], fun k hk hne => ?_, ?_⟩
  · rw [setCells_far c _ k hne, setCells_far d _ k hne, h.far k hk hne]
  · obtain ⟨s1, s2, s3, s4⟩ := setCells_same g d ((j + 1) * 5) W
    obtain ⟨t1, t2, t3, t4⟩ := setCells_same g c (j * 5) (W.setCells g ((j + 1) * 5) d)
    exact h.bel.trans ⟨t1.trans s1, t2.trans s2, t3.trans s3, by rw [t4, s4]; exact Nat.le_refl _, fun k hk => absurd hk (by omega)⟩
section
variable {P : Program} {ops : Array Oper} {Q : Exit → Act → World → Prop}
/-- A call of a function value that stands in a slot, in a region that draws. -/
theorem goes_val_ {oi : Oper} {N : Option Tmp} {a : Act} {w : World} {K : Act → World → Prop} {f : FuncId} {xs_ : Array Operand} {ts : Array TypeId} (t : Tmp) (lb : Array Value) (eg : ∀ args w, (callFunc f args).run P w = .ok (.enter f args) w) (args : Array Value)
    (hw : Region.wanted oi (yielded ops a.tmps) = true) (hN : oi.dst = N) (hop : oi.op = .call { callee := .value (.tmp t), args := xs_, argTypes := ts }) (ht : a.eval (.tmp t) = .func (.func f) #[] lb) (hargs : xs_.map a.eval ++ lb = args)
    (h : Calls P f args w fun e w' => ∃ v, e = .returned v ∧ K (a.put N v) w') : if Region.wanted oi (yielded ops a.tmps) = true then Oper.wp P oi a w K Q else K (a.put N undef) w := by
  refine call_ f args hw hN ?_ h
  have he := eg args w
  unfold execOp
  simp [hop, resolve, Deferred.ofValue, invoke, ht, hargs, he]
end
theorem RowInv.below {f : Nat → Nat} {w W W' : World} {base g cap n : Nat} {ok : Nat → Prop} {ps : List (S42 × Nat)} (h : RowInv f w W base g cap n ok ps) (hb : Below W.heap.size W W') : RowInv f w W' base g cap n ok ps :=
  ⟨Kd.R_below h.row hb, h.len, fun k hk hne => (hb.block k (Nat.lt_of_lt_of_le hk h.bel.size)).trans (h.far k hk hne), h.bel.trans (hb.mono (Nat.zero_le _))⟩
theorem isortL_step {n i : Nat} {qs : List (S42 × Nat)} (hi : i < n) : isortL n (n + 1 - i) i qs = isortL n (n + 1 - (i + 1)) (i + 1) (sinkL qs i) := by
  obtain ⟨k, hk⟩ : ∃ k, n + 1 - i = k + 1 := ⟨n - i, by omega⟩
  rw [hk, show n + 1 - (i + 1) = k by omega]
  show (if i < n then _ else _) = _
  rw [if_pos hi]
section
variable {P : Program} {ops : Array Oper} {Q : Exit → Act → World → Prop}
/-- A store of a struct's cells, in a region that draws. -/
theorem store_seg_ {oi : Oper} {a : Act} {w : World} {K : Act → World → Prop} (t : TypeId) (p x : Operand) (g o : Nat) {e : TypeId} {cur : Array Value} (u : Value) (seg : List Value)
    (hw : Region.wanted oi (yielded ops a.tmps) = true) (hN : oi.dst = none) (hop : oi.op = .store t p x) (hp : a.eval p = .pointer (some ⟨g, o, none⟩)) (hx : a.eval x = u) (hh : w.heap[g]? = some (.cells cur e (0, 0))) (hu : u.cells.toList = seg)
    (ht : (P.info? t).map (·.size) = some seg.length) (hfit : o + seg.length ≤ cur.size) (h1 : ∀ q ∈ seg, q.oneCell' = true)
    (h : K (a.put none undef) (w.setCells g o seg)) : if Region.wanted oi (yielded ops a.tmps) = true then Oper.wp P oi a w K Q else K (a.put none undef) w := by
  refine skip_ hw hN ?_ h
  have hrun := run_store_run t u seg hh hu ht hfit h1
  unfold execOp
  simp only [hop, hp, hx, Sem.run_bind, Sem.run_pure, Result.andThen_ok, hrun]
end
theorem row_block {f : Nat → Nat} {w W : World} {base g cap n : Nat} {ok : Nat → Prop} {ps : List (S42 × Nat)} (h : RowInv f w W base g cap n ok ps) : ∃ cur, W.heap[g]? = some (.cells cur 42 (0, 0)) ∧ n * 5 ≤ cur.size := by
  obtain ⟨_, inner, ho, _⟩ := h.row
  rcases ho.2 with ⟨hv, _⟩ | ⟨g', cap', cur, hv, _, hh, hnc, hcm, hcs, _⟩
  · cases hv
  · injection hv with ha _ hc
    injection ha with ha
    injection ha with hg'
    subst hg'
    refine ⟨cur, hh, ?_⟩
    have h1 := h.len
    have h2 : (Kd.tag f k42).sz = 5 := rfl
    rw [h2] at hcs
    rw [h1] at hnc
    omega
theorem eg53 : ∀ args w, (callFunc 53 args).run Try.prog w = .ok (.enter 53 args) w := enters_of Try.func53 (by kernel_rfl) rfl
def SortPost (f : Nat → Nat) (w : World) (base g cap n : Nat) (ok : Nat → Prop) (ps : List (S42 × Nat)) (e : Ending) (w' : World) : Prop := e = .returned (.tuple #[]) ∧ RowInv f w w' base g cap n ok ps
set_option maxHeartbeats 8000000 in
set_option maxRecDepth 100000 in
theorem insertion_calls (f : Nat → Nat) (base g cap n : Nat) (ok : Nat → Prop) (ps : List (S42 × Nat)) (w : World) (h0 : RowInv f w w base g cap n ok ps) (hn : n ≤ 1000000) (hnc : n ≤ cap) (hg : g < w.heap.size) :
    Calls Try.prog 92 #[.slice (some ⟨g, 0, none⟩) n cap, .int .i64 0, .int .i64 n, .func (.func 53) #[] #[]] w (SortPost f w base g cap n ok (isortL n n 1 ps)) := by
  have hu42 := Try.underlying42
  have hu36 := Try.underlying36
  have H0 := Aside0.mk h0
  have HG := Aside0.mk hg
  have HNC := Aside0.mk hnc
  clear h0 hnc
  go_enter Try.func92, Try.ntmps92
  go_wp2_with fail
  go_loopw [8] (fun v8 wr => ∃ (i : Nat) (qs : List (S42 × Nat)), v8 = .int .i64 (i : Int) ∧ i ≤ n + 1 ∧ 1 ≤ i ∧ Aside0 (RowInv f w wr base g cap n ok qs) ∧ Aside0 (isortL n (n + 1 - i) i qs = isortL n n 1 ps)) (fun v8 _ => n + 1 - (intOf v8).toNat)
  case atStart => exact ⟨1, ps, rfl, by omega, Nat.le_refl _, H0, ⟨rfl⟩⟩
  case round =>
    obtain ⟨i, qs, rfl, hi, hi1, HI, HE⟩ := hrel
    by_cases hlt : i < n
    · have hlt' : (i : Int) < (n : Int) := by omega
      have HIN := Aside0.mk (And.intro hlt (And.intro hi1 hi))
      clear hi hi1
      go_wp2_with fail
      obtain ⟨wo, rfl⟩ : ∃ wo : World, wo = wr := ⟨_, rfl⟩
      go_loopw [9] (fun v9 wr => ∃ (j : Nat) (rs : List (S42 × Nat)), v9 = .int .i64 (j : Int) ∧ j ≤ i ∧ Aside0 (RowInv f w wr base g cap n ok rs) ∧ Aside0 (sinkL rs j = sinkL qs i)) (fun v9 _ => (intOf v9).toNat)
      case atStart => exact ⟨i, qs, rfl, Nat.le_refl _, HI, ⟨rfl⟩⟩
      case round =>
        obtain ⟨j, rs, rfl, hj, HJ, HS⟩ := hrel
        rcases j with _ | j
        · have d1 : decide (((0 : Nat) : Int) > 0) = false := by decide
          have d2 : decide ((0 : Int) > 0) = false := by decide
          go_wp2_with fail
          refine start_ (n := 17) (S := fun w' => True) (ds := []) #[false, false, false, false, false, false, false, false, false, false, false, false, false, false, false, false, false] (by kernel_rfl) rfl rfl trivial (fun hHeld => ?_)
          refine pure_ (i := 0) (N := some 18) (v := ?_) (a' := ?_) #[true, false, false, false, false, false, false, false, false, false, false, false, false, false, false, false, false] rfl rfl (by kernel_rfl) (fun _ _ _ h => h) (Or.inl ⟨by rfl, ?_⟩) ?_ ?_
          rotate_left
          · intro w'
            go_simp
            with_reducible rfl
          rotate_left
          · simp only [Act.put, List.setIfInBounds_toArray, List.set_cons_zero, List.set_cons_succ, i64_w, i32_w]
            rfl
          refine pure_ (i := 1) (N := some 19) (v := ?_) (a' := ?_) #[true, true, false, false, false, false, false, false, false, false, false, false, false, false, false, false, false] rfl rfl (by kernel_rfl) (fun _ _ _ h => h) (Or.inl ⟨by rfl, ?_⟩) ?_ ?_
          rotate_left
          · intro w'
            go_simp
            with_reducible rfl
          rotate_left
          · simp only [Act.put, List.setIfInBounds_toArray, List.set_cons_zero, List.set_cons_succ, i64_w, i32_w]
            rfl
          refine pure_ (i := 2) (N := some 20) (v := ?_) (a' := ?_) #[true, true, true, false, false, false, false, false, false, false, false, false, false, false, false, false, false] rfl rfl (by kernel_rfl) (fun _ _ _ h => h) (Or.inl ⟨by rfl, ?_⟩) ?_ ?_
          rotate_left
          · intro w'
            go_simp
            with_reducible rfl
          rotate_left
          · simp only [Act.put, List.setIfInBounds_toArray, List.set_cons_zero, List.set_cons_succ, i64_w, i32_w]
            rfl
          refine pure_ (i := 3) (N := some 21) (v := ?_) (a' := ?_) #[true, true, true, true, false, false, false, false, false, false, false, false, false, false, false, false, false] rfl rfl (by kernel_rfl) (fun _ _ _ h => h) (Or.inl ⟨by rfl, ?_⟩) ?_ ?_
          rotate_left
          · intro w'
            go_simp
            with_reducible rfl
          rotate_left
          · simp only [Act.put, List.setIfInBounds_toArray, List.set_cons_zero, List.set_cons_succ, i64_w, i32_w]
            rfl
          refine pure_ (i := 4) (N := some 22) (v := undef) (a' := ?_) #[true, true, true, true, true, false, false, false, false, false, false, false, false, false, false, false, false] rfl rfl (by kernel_rfl) (fun _ _ _ h => h) (Or.inr ⟨by rfl, rfl⟩) ?_ ?_
          rotate_left
          · simp only [Act.put, List.setIfInBounds_toArray, List.set_cons_zero, List.set_cons_succ, i64_w, i32_w]
            rfl
          refine pure_ (i := 5) (N := some 23) (v := undef) (a' := ?_) #[true, true, true, true, true, true, false, false, false, false, false, false, false, false, false, false, false] rfl rfl (by kernel_rfl) (fun _ _ _ h => h) (Or.inr ⟨by rfl, rfl⟩) ?_ ?_
          rotate_left
          · simp only [Act.put, List.setIfInBounds_toArray, List.set_cons_zero, List.set_cons_succ, i64_w, i32_w]
            rfl
          refine pure_ (i := 6) (N := some 24) (v := undef) (a' := ?_) #[true, true, true, true, true, true, true, false, false, false, false, false, false, false, false, false, false] rfl rfl (by kernel_rfl) (fun _ _ _ h => h) (Or.inr ⟨by rfl, rfl⟩) ?_ ?_
          rotate_left
          · simp only [Act.put, List.setIfInBounds_toArray, List.set_cons_zero, List.set_cons_succ, i64_w, i32_w]
            rfl
          refine pure_ (i := 7) (N := some 25) (v := undef) (a' := ?_) #[true, true, true, true, true, true, true, true, false, false, false, false, false, false, false, false, false] rfl rfl (by kernel_rfl) (fun _ _ _ h => h) (Or.inr ⟨by rfl, rfl⟩) ?_ ?_
          rotate_left
          · simp only [Act.put, List.setIfInBounds_toArray, List.set_cons_zero, List.set_cons_succ, i64_w, i32_w]
            rfl
          refine pure_ (i := 8) (N := some 26) (v := undef) (a' := ?_) #[true, true, true, true, true, true, true, true, true, false, false, false, false, false, false, false, false] rfl rfl (by kernel_rfl) (fun _ _ _ h => h) (Or.inr ⟨by rfl, rfl⟩) ?_ ?_
          rotate_left
          · simp only [Act.put, List.setIfInBounds_toArray, List.set_cons_zero, List.set_cons_succ, i64_w, i32_w]
            rfl
          refine pure_ (i := 9) (N := some 27) (v := undef) (a' := ?_) #[true, true, true, true, true, true, true, true, true, true, false, false, false, false, false, false, false] rfl rfl (by kernel_rfl) (fun _ _ _ h => h) (Or.inr ⟨by rfl, rfl⟩) ?_ ?_
          rotate_left
          · simp only [Act.put, List.setIfInBounds_toArray, List.set_cons_zero, List.set_cons_succ, i64_w, i32_w]
            rfl
          refine pure_ (i := 10) (N := some 28) (v := undef) (a' := ?_) #[true, true, true, true, true, true, true, true, true, true, true, false, false, false, false, false, false] rfl rfl (by kernel_rfl) (fun _ _ _ h => h) (Or.inr ⟨by rfl, rfl⟩) ?_ ?_
          rotate_left
          · simp only [Act.put, List.setIfInBounds_toArray, List.set_cons_zero, List.set_cons_succ, i64_w, i32_w]
            rfl
          refine pure_ (i := 11) (N := some 29) (v := undef) (a' := ?_) #[true, true, true, true, true, true, true, true, true, true, true, true, false, false, false, false, false] rfl rfl (by kernel_rfl) (fun _ _ _ h => h) (Or.inr ⟨by rfl, rfl⟩) ?_ ?_
          rotate_left
          · simp only [Act.put, List.setIfInBounds_toArray, List.set_cons_zero, List.set_cons_succ, i64_w, i32_w]
            rfl
          refine pure_ (i := 12) (N := some 30) (v := undef) (a' := ?_) #[true, true, true, true, true, true, true, true, true, true, true, true, true, false, false, false, false] rfl rfl (by kernel_rfl) (fun _ _ _ h => h) (Or.inr ⟨by rfl, rfl⟩) ?_ ?_
          rotate_left
          · simp only [Act.put, List.setIfInBounds_toArray, List.set_cons_zero, List.set_cons_succ, i64_w, i32_w]
            rfl
          refine pure_ (i := 13) (N := some 31) (v := undef) (a' := ?_) #[true, true, true, true, true, true, true, true, true, true, true, true, true, true, false, false, false] rfl rfl (by kernel_rfl) (fun _ _ _ h => h) (Or.inr ⟨by rfl, rfl⟩) ?_ ?_
          rotate_left
          · simp only [Act.put, List.setIfInBounds_toArray, List.set_cons_zero, List.set_cons_succ, i64_w, i32_w]
            rfl
          refine pure_ (i := 14) (N := some 32) (v := undef) (a' := ?_) #[true, true, true, true, true, true, true, true, true, true, true, true, true, true, true, false, false] rfl rfl (by kernel_rfl) (fun _ _ _ h => h) (Or.inr ⟨by rfl, rfl⟩) ?_ ?_
          rotate_left
          · simp only [Act.put, List.setIfInBounds_toArray, List.set_cons_zero, List.set_cons_succ, i64_w, i32_w]
            rfl
          refine pure_ (i := 15) (N := some 33) (v := undef) (a' := ?_) #[true, true, true, true, true, true, true, true, true, true, true, true, true, true, true, true, false] rfl rfl (by kernel_rfl) (fun _ _ _ h => h) (Or.inr ⟨by rfl, rfl⟩) ?_ ?_
          rotate_left
          · simp only [Act.put, List.setIfInBounds_toArray, List.set_cons_zero, List.set_cons_succ, i64_w, i32_w]
            rfl
          refine pure_ (i := 16) (N := some 34) (v := ?_) (a' := ?_) #[true, true, true, true, true, true, true, true, true, true, true, true, true, true, true, true, true] rfl rfl (by kernel_rfl) (fun _ _ _ h => h) (Or.inl ⟨by rfl, ?_⟩) ?_ ?_
          rotate_left
          · intro w'
            go_simp
            with_reducible rfl
          rotate_left
          · simp only [Act.put, List.setIfInBounds_toArray, List.set_cons_zero, List.set_cons_succ, i64_w, i32_w]
            rfl
          refine done_ (by kernel_rfl) ?_
          go_wp2
          refine ⟨⟨i + 1, rs, by simp, by have := HIN.out; omega, by omega, ⟨HJ.out.below (below_drew (Below.refl _ _))⟩, ⟨?_⟩⟩, by have := HIN.out; simp [intOf]; omega⟩
          rw [← HE.out, isortL_step HIN.out.1, ← HS.out]
          rfl
        · have hjn : j + 1 < n := by have := HIN.out; omega
          obtain ⟨a0, a1, va, a3, a4, b0, b1, vb, b3, b4, ⟨Aa, la, ca, rfl⟩, ⟨Ab, lb, cb, rfl⟩, ea, eb, hma, hmb, hxa, hxb⟩ := row_two HJ.out j hjn
          obtain ⟨jI, hjI⟩ : ∃ jI : Int, jI = ((j + 1 : Nat) : Int) := ⟨_, rfl⟩
          obtain ⟨jK, hjK⟩ : ∃ jK : Int, jK = (j : Int) := ⟨_, rfl⟩
          have tI : jI.toNat = j + 1 := by omega
          have tK : jK.toNat = j := by omega
          have hs1 : IntKind.i64.wrap (jI - 1) = jK := by rw [i64_w]; unfold wrap64; omega
          have hs2 : wrap64 (jI - 1) = jK := by unfold wrap64; omega
          have u1 : (0 ≤ jI) = True := eq_true (by omega)
          have u2 : (jI < (n : Int)) = True := eq_true (by omega)
          have u3 : (0 ≤ jK) = True := eq_true (by omega)
          have u4 : (jK < (n : Int)) = True := eq_true (by omega)
          have d1 : decide (jI > 0) = true := decide_eq_true (by omega)
          have d2 : decide (0 < jI) = true := decide_eq_true (by omega)
          have xa0 : wr.cell? ⟨g, jI.toNat * 5, none⟩ = some (.int .i64 a0) := by rw [tI]; exact hxa 0 _ rfl
          have xa1 : wr.cell? ⟨g, jI.toNat * 5 + 1, none⟩ = some (.int .i64 a1) := by rw [tI]; exact hxa 1 _ rfl
          have xa2 : wr.cell? ⟨g, jI.toNat * 5 + 2, none⟩ = some (.slice Aa la ca) := by rw [tI]; exact hxa 2 _ rfl
          have xa3 : wr.cell? ⟨g, jI.toNat * 5 + 3, none⟩ = some (.int .i64 a3) := by rw [tI]; exact hxa 3 _ rfl
          have xa4 : wr.cell? ⟨g, jI.toNat * 5 + 4, none⟩ = some (.int .i64 a4) := by rw [tI]; exact hxa 4 _ rfl
          have xb0 : wr.cell? ⟨g, jK.toNat * 5, none⟩ = some (.int .i64 b0) := by rw [tK]; exact hxb 0 _ rfl
          have xb1 : wr.cell? ⟨g, jK.toNat * 5 + 1, none⟩ = some (.int .i64 b1) := by rw [tK]; exact hxb 1 _ rfl
          have xb2 : wr.cell? ⟨g, jK.toNat * 5 + 2, none⟩ = some (.slice Ab lb cb) := by rw [tK]; exact hxb 2 _ rfl
          have xb3 : wr.cell? ⟨g, jK.toNat * 5 + 3, none⟩ = some (.int .i64 b3) := by rw [tK]; exact hxb 3 _ rfl
          have xb4 : wr.cell? ⟨g, jK.toNat * 5 + 4, none⟩ = some (.int .i64 b4) := by rw [tK]; exact hxb 4 _ rfl
          have HEQ := Aside0.mk (And.intro hjI (And.intro hjK (And.intro tI (And.intro tK (And.intro ea eb)))))
          have HM := Aside0.mk (And.intro hma (And.intro hmb (And.intro hxa hxb)))
          rw [← hjI]
          have HJN := Aside0.mk (And.intro hj hjn)
          clear hjI hjK tI tK ea eb hma hmb hxa hxb hj hjn
          go_wp2_with fail
          refine start_ (n := 17) (S := fun w' => w'.cell? ⟨g, jI.toNat * 5, none⟩ = some (.int .i64 a0) ∧ w'.cell? ⟨g, jI.toNat * 5 + 1, none⟩ = some (.int .i64 a1) ∧ w'.cell? ⟨g, jI.toNat * 5 + 2, none⟩ = some (.slice Aa la ca) ∧ w'.cell? ⟨g, jI.toNat * 5 + 3, none⟩ = some (.int .i64 a3) ∧ w'.cell? ⟨g, jI.toNat * 5 + 4, none⟩ = some (.int .i64 a4) ∧ w'.cell? ⟨g, jK.toNat * 5, none⟩ = some (.int .i64 b0) ∧ w'.cell? ⟨g, jK.toNat * 5 + 1, none⟩ = some (.int .i64 b1) ∧ w'.cell? ⟨g, jK.toNat * 5 + 2, none⟩ = some (.slice Ab lb cb) ∧ w'.cell? ⟨g, jK.toNat * 5 + 3, none⟩ = some (.int .i64 b3) ∧ w'.cell? ⟨g, jK.toNat * 5 + 4, none⟩ = some (.int .i64 b4)) (ds := []) #[false, false, false, false, false, false, false, false, false, false, false, false, false, false, false, false, false] (by kernel_rfl) rfl rfl ⟨(show wr.drew.cell? _ = _ from xa0), (show wr.drew.cell? _ = _ from xa1), (show wr.drew.cell? _ = _ from xa2), (show wr.drew.cell? _ = _ from xa3), (show wr.drew.cell? _ = _ from xa4), (show wr.drew.cell? _ = _ from xb0), (show wr.drew.cell? _ = _ from xb1), (show wr.drew.cell? _ = _ from xb2), (show wr.drew.cell? _ = _ from xb3), (show wr.drew.cell? _ = _ from xb4)⟩ (fun hHeld => ?_)
          refine pure_ (i := 0) (N := some 18) (v := ?_) (a' := ?_) #[true, false, false, false, false, false, false, false, false, false, false, false, false, false, false, false, false] rfl rfl (by kernel_rfl) (fun _ _ _ h => h) (Or.inl ⟨by rfl, ?_⟩) ?_ ?_
          rotate_left
          · intro w'
            go_simp
            with_reducible rfl
          rotate_left
          · simp only [Act.put, List.setIfInBounds_toArray, List.set_cons_zero, List.set_cons_succ, i64_w, i32_w]
            rfl
          refine pure_ (i := 1) (N := some 19) (v := ?_) (a' := ?_) #[true, true, false, false, false, false, false, false, false, false, false, false, false, false, false, false, false] rfl rfl (by kernel_rfl) (fun _ _ _ h => h) (Or.inl ⟨by rfl, ?_⟩) ?_ ?_
          rotate_left
          · intro w'
            go_simp
            with_reducible rfl
          rotate_left
          · simp only [Act.put, List.setIfInBounds_toArray, List.set_cons_zero, List.set_cons_succ, i64_w, i32_w]
            rfl
          refine pure_ (i := 2) (N := some 20) (v := ?_) (a' := ?_) #[true, true, true, false, false, false, false, false, false, false, false, false, false, false, false, false, false] rfl rfl (by kernel_rfl) (fun _ _ _ h => h) (Or.inl ⟨by rfl, ?_⟩) ?_ ?_
          rotate_left
          · intro w'
            go_simp
            with_reducible rfl
          rotate_left
          · simp only [Act.put, List.setIfInBounds_toArray, List.set_cons_zero, List.set_cons_succ, i64_w, i32_w]
            rfl
          refine pure_ (i := 3) (N := some 21) (v := ?_) (a' := ?_) #[true, true, true, true, false, false, false, false, false, false, false, false, false, false, false, false, false] rfl rfl (by kernel_rfl) (fun _ _ _ h => h) (Or.inl ⟨by rfl, ?_⟩) ?_ ?_
          rotate_left
          · intro w'
            go_simp
            with_reducible rfl
          rotate_left
          · simp only [Act.put, List.setIfInBounds_toArray, List.set_cons_zero, List.set_cons_succ, i64_w, i32_w]
            rfl
          refine pure_ (i := 4) (N := some 22) (v := ?_) (a' := ?_) #[true, true, true, true, true, false, false, false, false, false, false, false, false, false, false, false, false] rfl rfl (by kernel_rfl) (fun _ _ _ h => h) (Or.inl ⟨by rfl, ?_⟩) ?_ ?_
          rotate_left
          · intro w'
            go_simp
            with_reducible rfl
          rotate_left
          · simp only [Act.put, List.setIfInBounds_toArray, List.set_cons_zero, List.set_cons_succ, i64_w, i32_w]
            rfl
          refine pure_ (i := 5) (N := some 23) (v := ?_) (a' := ?_) #[true, true, true, true, true, true, false, false, false, false, false, false, false, false, false, false, false] rfl rfl (by kernel_rfl) (fun _ _ _ h => h) (Or.inl ⟨by rfl, ?_⟩) ?_ ?_
          rotate_left
          · intro w'
            go_simp
            with_reducible rfl
          rotate_left
          · simp only [Act.put, List.setIfInBounds_toArray, List.set_cons_zero, List.set_cons_succ, i64_w, i32_w]
            rfl
          refine pure_ (i := 6) (N := some 24) (v := ?_) (a' := ?_) #[true, true, true, true, true, true, true, false, false, false, false, false, false, false, false, false, false] rfl rfl (by kernel_rfl) (fun _ _ _ h => h) (Or.inl ⟨by rfl, ?_⟩) ?_ ?_
          rotate_left
          · intro w'
            go_simp
            with_reducible rfl
          rotate_left
          · simp only [Act.put, List.setIfInBounds_toArray, List.set_cons_zero, List.set_cons_succ, i64_w, i32_w]
            rfl
          refine pure_ (i := 7) (N := some 25) (v := ?_) (a' := ?_) #[true, true, true, true, true, true, true, true, false, false, false, false, false, false, false, false, false] rfl rfl (by kernel_rfl) (fun _ _ _ h => h) (Or.inl ⟨by rfl, ?_⟩) ?_ ?_
          rotate_left
          · intro w'
            go_simp
            with_reducible rfl
          rotate_left
          · simp only [Act.put, List.setIfInBounds_toArray, List.set_cons_zero, List.set_cons_succ, i64_w, i32_w]
            rfl
          refine pure_ (i := 9) (N := some 27) (v := ?_) (a' := ?_) #[true, true, true, true, true, true, true, true, false, true, false, false, false, false, false, false, false] rfl rfl (by kernel_rfl) (fun _ _ _ h => h) (Or.inl ⟨by rfl, ?_⟩) ?_ ?_
          rotate_left
          · intro w'
            go_simp
            with_reducible rfl
          rotate_left
          · simp only [Act.put, List.setIfInBounds_toArray, List.set_cons_zero, List.set_cons_succ, i64_w, i32_w]
            rfl
          refine pure_ (i := 10) (N := some 28) (v := ?_) (a' := ?_) #[true, true, true, true, true, true, true, true, false, true, true, false, false, false, false, false, false] rfl rfl (by kernel_rfl) (fun _ _ _ h => h) (Or.inl ⟨by rfl, ?_⟩) ?_ ?_
          rotate_left
          · intro w'
            go_simp
            with_reducible rfl
          rotate_left
          · simp only [Act.put, List.setIfInBounds_toArray, List.set_cons_zero, List.set_cons_succ, i64_w, i32_w]
            rfl
          refine pure_ (i := 11) (N := some 29) (v := ?_) (a' := ?_) #[true, true, true, true, true, true, true, true, false, true, true, true, false, false, false, false, false] rfl rfl (by kernel_rfl) (fun _ _ _ h => h) (Or.inl ⟨by rfl, ?_⟩) ?_ ?_
          rotate_left
          · intro w'
            go_simp
            with_reducible rfl
          rotate_left
          · simp only [Act.put, List.setIfInBounds_toArray, List.set_cons_zero, List.set_cons_succ, i64_w, i32_w]
            rfl
          refine pure_ (i := 12) (N := some 30) (v := ?_) (a' := ?_) #[true, true, true, true, true, true, true, true, false, true, true, true, true, false, false, false, false] rfl rfl (by kernel_rfl) (fun _ _ _ h => h) (Or.inl ⟨by rfl, ?_⟩) ?_ ?_
          rotate_left
          · intro w'
            go_simp
            with_reducible rfl
          rotate_left
          · simp only [Act.put, List.setIfInBounds_toArray, List.set_cons_zero, List.set_cons_succ, i64_w, i32_w]
            rfl
          refine take_ (i := 8) (N := some 26) (v := ?_) (a' := ?_) #[true, true, true, true, true, true, true, true, true, true, true, true, true, false, false, false, false] rfl rfl (by kernel_rfl) (fun _ _ _ h => h) (Or.inl ⟨by rfl, ?_⟩) hHeld ?_ ?_
          rotate_left
          · rintro w' ⟨s0, s1, s2, s3, s4, s5, s6, s7, s8, s9⟩
            go_simp
            with_reducible rfl
          rotate_left
          · simp only [Act.put, List.setIfInBounds_toArray, List.set_cons_zero, List.set_cons_succ, i64_w, i32_w]
            rfl
          refine take_ (i := 13) (N := some 31) (v := ?_) (a' := ?_) #[true, true, true, true, true, true, true, true, true, true, true, true, true, true, false, false, false] rfl rfl (by kernel_rfl) (fun _ _ _ h => h) (Or.inl ⟨by rfl, ?_⟩) hHeld ?_ ?_
          rotate_left
          · rintro w' ⟨s0, s1, s2, s3, s4, s5, s6, s7, s8, s9⟩
            go_simp
            with_reducible rfl
          rotate_left
          · simp only [Act.put, List.setIfInBounds_toArray, List.set_cons_zero, List.set_cons_succ, i64_w, i32_w]
            rfl
          refine one_ (i := 14) (N := some 32) #[true, true, true, true, true, true, true, true, true, true, true, true, true, true, true, false, false] rfl rfl (by kernel_rfl) (by decide) (fun K hK => ?_)
          refine goes_val_ 22 #[] eg53 #[.agg #[.int .i64 a0, .int .i64 a1, (.slice Aa la ca), .int .i64 a3, .int .i64 a4], .agg #[.int .i64 b0, .int .i64 b1, (.slice Ab lb cb), .int .i64 b3, .int .i64 b4]] (by rfl) rfl rfl (by rfl) (by simp only [List.map_toArray, List.map_cons, List.map_nil, List.append_toArray, List.append_nil]; rfl) ?_
          with_reducible refine (bySeq_calls a0 a1 (.slice Aa la ca) a3 a4 b0 b1 (.slice Ab lb cb) b3 b4 wr.drew).mono ?_
          rintro e w4 ⟨rfl, hb⟩
          refine ⟨_, rfl, ?_⟩
          have hb4 := Aside0.mk (show Below wr.heap.size wr w4 from (below_drew (Below.refl _ _)).trans hb)
          clear hb
          refine hK.out _ _ ⟨pw_cell_below hb4.out xa0, pw_cell_below hb4.out xa1, pw_cell_below hb4.out xa2, pw_cell_below hb4.out xa3, pw_cell_below hb4.out xa4, pw_cell_below hb4.out xb0, pw_cell_below hb4.out xb1, pw_cell_below hb4.out xb2, pw_cell_below hb4.out xb3, pw_cell_below hb4.out xb4⟩ (fun hHeld => ?_)
          clear hK K
          refine norm_ (a' := ?_) ?_ ?_
          rotate_left
          · show Act.put _ (some 32) _ = _
            simp only [Act.put, List.setIfInBounds_toArray, List.set_cons_zero, List.set_cons_succ, i64_w, i32_w]
            rfl
          refine pure_ (i := 15) (N := some 33) (v := ?_) (a' := ?_) #[true, true, true, true, true, true, true, true, true, true, true, true, true, true, true, true, false] rfl rfl (by kernel_rfl) (fun _ _ _ h => h) (Or.inl ⟨by rfl, ?_⟩) ?_ ?_
          rotate_left
          · intro w'
            go_simp
            with_reducible rfl
          rotate_left
          · simp only [Act.put, List.setIfInBounds_toArray, List.set_cons_zero, List.set_cons_succ, i64_w, i32_w]
            rfl
          refine pure_ (i := 16) (N := some 34) (v := ?_) (a' := ?_) #[true, true, true, true, true, true, true, true, true, true, true, true, true, true, true, true, true] rfl rfl (by kernel_rfl) (fun _ _ _ h => h) (Or.inl ⟨by rfl, ?_⟩) ?_ ?_
          rotate_left
          · intro w'
            go_simp
            with_reducible rfl
          rotate_left
          · simp only [Act.put, List.setIfInBounds_toArray, List.set_cons_zero, List.set_cons_succ, i64_w, i32_w]
            rfl
          refine done_ (by kernel_rfl) ?_
          obtain ⟨bq, hbq⟩ : ∃ bq, decide (cmp3 a1 b1 < 0) = bq := ⟨_, rfl⟩
          rw [hbq]
          have HBQ := Aside0.mk hbq
          clear hbq
          cases bq with
          | false =>
            go_wp2_with fail
            refine ⟨⟨i + 1, rs, by simp, by have := HIN.out; omega, by omega, ⟨HJ.out.below hb4.out⟩, ⟨?_⟩⟩, by have := HIN.out; simp [intOf]; omega⟩
            have hns : ¬ (a1 < b1) := fun h => by have h2 := HBQ.out; unfold cmp3 at h2; rw [if_pos h] at h2; exact absurd h2 (by decide)
            have hss : sinkL rs (j + 1) = rs := by unfold sinkL; rw [← HEQ.out.2.2.2.2.1, ← HEQ.out.2.2.2.2.2, if_neg hns]
            rw [← HE.out, isortL_step HIN.out.1, ← HS.out, hss]
          | true =>
            have hlt2 : a1 < b1 := by
              have h2 := of_decide_eq_true HBQ.out
              unfold cmp3 at h2
              split at h2
              · assumption
              · split at h2 <;> exact absurd h2 (by decide)
            have HLT2 := Aside0.mk hlt2
            clear hlt2
            have HJ4 := Aside0.mk (HJ.out.below hb4.out)
            obtain ⟨cg, hcg, hcgs⟩ := row_block HJ4.out
            have HB4 := Aside0.mk (And.intro hcg hcgs)
            clear hcgs
            have ya0 : w4.cell? _ = _ := pw_cell_below hb4.out xa0
            have ya1 : w4.cell? _ = _ := pw_cell_below hb4.out xa1
            have ya2 : w4.cell? _ = _ := pw_cell_below hb4.out xa2
            have ya3 : w4.cell? _ = _ := pw_cell_below hb4.out xa3
            have ya4 : w4.cell? _ = _ := pw_cell_below hb4.out xa4
            have yb0 : w4.cell? _ = _ := pw_cell_below hb4.out xb0
            have yb1 : w4.cell? _ = _ := pw_cell_below hb4.out xb1
            have yb2 : w4.cell? _ = _ := pw_cell_below hb4.out xb2
            have yb3 : w4.cell? _ = _ := pw_cell_below hb4.out xb3
            have yb4 : w4.cell? _ = _ := pw_cell_below hb4.out xb4
            clear hcg xa0 xa1 xa2 xa3 xa4 xb0 xb1 xb2 xb3 xb4
            go_wp2_with fail
            refine start_ (n := 18) (S := fun w' => w'.cell? ⟨g, jI.toNat * 5, none⟩ = some (.int .i64 a0) ∧ w'.cell? ⟨g, jI.toNat * 5 + 1, none⟩ = some (.int .i64 a1) ∧ w'.cell? ⟨g, jI.toNat * 5 + 2, none⟩ = some (.slice Aa la ca) ∧ w'.cell? ⟨g, jI.toNat * 5 + 3, none⟩ = some (.int .i64 a3) ∧ w'.cell? ⟨g, jI.toNat * 5 + 4, none⟩ = some (.int .i64 a4) ∧ w'.cell? ⟨g, jK.toNat * 5, none⟩ = some (.int .i64 b0) ∧ w'.cell? ⟨g, jK.toNat * 5 + 1, none⟩ = some (.int .i64 b1) ∧ w'.cell? ⟨g, jK.toNat * 5 + 2, none⟩ = some (.slice Ab lb cb) ∧ w'.cell? ⟨g, jK.toNat * 5 + 3, none⟩ = some (.int .i64 b3) ∧ w'.cell? ⟨g, jK.toNat * 5 + 4, none⟩ = some (.int .i64 b4)) (ds := [15, 17]) #[false, false, false, false, false, false, false, false, false, false, false, false, false, false, false, false, false, false] (by kernel_rfl) rfl rfl ⟨(show w4.drew.cell? _ = _ from ya0), (show w4.drew.cell? _ = _ from ya1), (show w4.drew.cell? _ = _ from ya2), (show w4.drew.cell? _ = _ from ya3), (show w4.drew.cell? _ = _ from ya4), (show w4.drew.cell? _ = _ from yb0), (show w4.drew.cell? _ = _ from yb1), (show w4.drew.cell? _ = _ from yb2), (show w4.drew.cell? _ = _ from yb3), (show w4.drew.cell? _ = _ from yb4)⟩ (fun hHeld => ?_)
            refine pure_ (i := 0) (N := some 37) (v := ?_) (a' := ?_) #[true, false, false, false, false, false, false, false, false, false, false, false, false, false, false, false, false, false] rfl rfl (by kernel_rfl) (fun _ _ _ h => h) (Or.inl ⟨by rfl, ?_⟩) ?_ ?_
            rotate_left
            · intro w'
              go_simp
              with_reducible rfl
            rotate_left
            · simp only [Act.put, List.setIfInBounds_toArray, List.set_cons_zero, List.set_cons_succ, i64_w, i32_w]
              rfl
            refine pure_ (i := 1) (N := some 38) (v := ?_) (a' := ?_) #[true, true, false, false, false, false, false, false, false, false, false, false, false, false, false, false, false, false] rfl rfl (by kernel_rfl) (fun _ _ _ h => h) (Or.inl ⟨by rfl, ?_⟩) ?_ ?_
            rotate_left
            · intro w'
              go_simp
              with_reducible rfl
            rotate_left
            · simp only [Act.put, List.setIfInBounds_toArray, List.set_cons_zero, List.set_cons_succ, i64_w, i32_w]
              rfl
            refine pure_ (i := 2) (N := some 39) (v := ?_) (a' := ?_) #[true, true, true, false, false, false, false, false, false, false, false, false, false, false, false, false, false, false] rfl rfl (by kernel_rfl) (fun _ _ _ h => h) (Or.inl ⟨by rfl, ?_⟩) ?_ ?_
            rotate_left
            · intro w'
              go_simp
              with_reducible rfl
            rotate_left
            · simp only [Act.put, List.setIfInBounds_toArray, List.set_cons_zero, List.set_cons_succ, i64_w, i32_w]
              rfl
            refine pure_ (i := 3) (N := some 40) (v := ?_) (a' := ?_) #[true, true, true, true, false, false, false, false, false, false, false, false, false, false, false, false, false, false] rfl rfl (by kernel_rfl) (fun _ _ _ h => h) (Or.inl ⟨by rfl, ?_⟩) ?_ ?_
            rotate_left
            · intro w'
              go_simp
              with_reducible rfl
            rotate_left
            · simp only [Act.put, List.setIfInBounds_toArray, List.set_cons_zero, List.set_cons_succ, i64_w, i32_w]
              rfl
            refine pure_ (i := 4) (N := some 41) (v := ?_) (a' := ?_) #[true, true, true, true, true, false, false, false, false, false, false, false, false, false, false, false, false, false] rfl rfl (by kernel_rfl) (fun _ _ _ h => h) (Or.inl ⟨by rfl, ?_⟩) ?_ ?_
            rotate_left
            · intro w'
              go_simp
              with_reducible rfl
            rotate_left
            · simp only [Act.put, List.setIfInBounds_toArray, List.set_cons_zero, List.set_cons_succ, i64_w, i32_w]
              rfl
            refine pure_ (i := 5) (N := some 42) (v := ?_) (a' := ?_) #[true, true, true, true, true, true, false, false, false, false, false, false, false, false, false, false, false, false] rfl rfl (by kernel_rfl) (fun _ _ _ h => h) (Or.inl ⟨by rfl, ?_⟩) ?_ ?_
            rotate_left
            · intro w'
              go_simp
              with_reducible rfl
            rotate_left
            · simp only [Act.put, List.setIfInBounds_toArray, List.set_cons_zero, List.set_cons_succ, i64_w, i32_w]
              rfl
            refine pure_ (i := 6) (N := some 43) (v := ?_) (a' := ?_) #[true, true, true, true, true, true, true, false, false, false, false, false, false, false, false, false, false, false] rfl rfl (by kernel_rfl) (fun _ _ _ h => h) (Or.inl ⟨by rfl, ?_⟩) ?_ ?_
            rotate_left
            · intro w'
              go_simp
              with_reducible rfl
            rotate_left
            · simp only [Act.put, List.setIfInBounds_toArray, List.set_cons_zero, List.set_cons_succ, i64_w, i32_w]
              rfl
            refine pure_ (i := 7) (N := some 44) (v := ?_) (a' := ?_) #[true, true, true, true, true, true, true, true, false, false, false, false, false, false, false, false, false, false] rfl rfl (by kernel_rfl) (fun _ _ _ h => h) (Or.inl ⟨by rfl, ?_⟩) ?_ ?_
            rotate_left
            · intro w'
              go_simp
              with_reducible rfl
            rotate_left
            · simp only [Act.put, List.setIfInBounds_toArray, List.set_cons_zero, List.set_cons_succ, i64_w, i32_w]
              rfl
            refine pure_ (i := 8) (N := some 45) (v := ?_) (a' := ?_) #[true, true, true, true, true, true, true, true, true, false, false, false, false, false, false, false, false, false] rfl rfl (by kernel_rfl) (fun _ _ _ h => h) (Or.inl ⟨by rfl, ?_⟩) ?_ ?_
            rotate_left
            · intro w'
              go_simp
              with_reducible rfl
            rotate_left
            · simp only [Act.put, List.setIfInBounds_toArray, List.set_cons_zero, List.set_cons_succ, i64_w, i32_w]
              rfl
            refine pure_ (i := 10) (N := some 47) (v := ?_) (a' := ?_) #[true, true, true, true, true, true, true, true, true, false, true, false, false, false, false, false, false, false] rfl rfl (by kernel_rfl) (fun _ _ _ h => h) (Or.inl ⟨by rfl, ?_⟩) ?_ ?_
            rotate_left
            · intro w'
              go_simp
              with_reducible rfl
            rotate_left
            · simp only [Act.put, List.setIfInBounds_toArray, List.set_cons_zero, List.set_cons_succ, i64_w, i32_w]
              rfl
            refine pure_ (i := 11) (N := some 48) (v := ?_) (a' := ?_) #[true, true, true, true, true, true, true, true, true, false, true, true, false, false, false, false, false, false] rfl rfl (by kernel_rfl) (fun _ _ _ h => h) (Or.inl ⟨by rfl, ?_⟩) ?_ ?_
            rotate_left
            · intro w'
              go_simp
              with_reducible rfl
            rotate_left
            · simp only [Act.put, List.setIfInBounds_toArray, List.set_cons_zero, List.set_cons_succ, i64_w, i32_w]
              rfl
            refine pure_ (i := 12) (N := some 49) (v := ?_) (a' := ?_) #[true, true, true, true, true, true, true, true, true, false, true, true, true, false, false, false, false, false] rfl rfl (by kernel_rfl) (fun _ _ _ h => h) (Or.inl ⟨by rfl, ?_⟩) ?_ ?_
            rotate_left
            · intro w'
              go_simp
              with_reducible rfl
            rotate_left
            · simp only [Act.put, List.setIfInBounds_toArray, List.set_cons_zero, List.set_cons_succ, i64_w, i32_w]
              rfl
            refine take_ (i := 9) (N := some 46) (v := ?_) (a' := ?_) #[true, true, true, true, true, true, true, true, true, true, true, true, true, false, false, false, false, false] rfl rfl (by kernel_rfl) (fun _ _ _ h => h) (Or.inl ⟨by rfl, ?_⟩) hHeld ?_ ?_
            rotate_left
            · rintro w' ⟨s0, s1, s2, s3, s4, s5, s6, s7, s8, s9⟩
              go_simp
              with_reducible rfl
            rotate_left
            · simp only [Act.put, List.setIfInBounds_toArray, List.set_cons_zero, List.set_cons_succ, i64_w, i32_w]
              rfl
            refine take_ (i := 13) (N := some 50) (v := ?_) (a' := ?_) #[true, true, true, true, true, true, true, true, true, true, true, true, true, true, false, false, false, false] rfl rfl (by kernel_rfl) (fun _ _ _ h => h) (Or.inl ⟨by rfl, ?_⟩) hHeld ?_ ?_
            rotate_left
            · rintro w' ⟨s0, s1, s2, s3, s4, s5, s6, s7, s8, s9⟩
              go_simp
              with_reducible rfl
            rotate_left
            · simp only [Act.put, List.setIfInBounds_toArray, List.set_cons_zero, List.set_cons_succ, i64_w, i32_w]
              rfl
            refine pure_ (i := 14) (N := some 51) (v := ?_) (a' := ?_) #[true, true, true, true, true, true, true, true, true, true, true, true, true, true, true, false, false, false] rfl rfl (by kernel_rfl) (fun _ _ _ h => h) (Or.inl ⟨by rfl, ?_⟩) ?_ ?_
            rotate_left
            · intro w'
              go_simp
              with_reducible rfl
            rotate_left
            · simp only [Act.put, List.setIfInBounds_toArray, List.set_cons_zero, List.set_cons_succ, i64_w, i32_w]
              rfl
            refine last_ (i := 15) (N := none) #[true, true, true, true, true, true, true, true, true, true, true, true, true, true, true, true, false, false] rfl rfl (by kernel_rfl) (by decide) (fun K hK => ?_)
            refine store_seg_ 42 (.tmp 51) (.tmp 46) g (jI.toNat * 5) (.agg #[.int .i64 b0, .int .i64 b1, .slice Ab lb cb, .int .i64 b3, .int .i64 b4]) [.int .i64 b0, .int .i64 b1, .slice Ab lb cb, .int .i64 b3, .int .i64 b4] (by rfl) rfl rfl rfl rfl HB4.out.1 rfl (by kernel_rfl) (by have := HB4.out.2; have := HJN.out; have := HEQ.out.2.2.1; simp only [List.length_cons, List.length_nil]; omega) (by simp [Value.oneCell']) ?_
            refine hK.out _ _ ?_
            clear hK K
            refine pure_ (i := 16) (N := some 52) (v := ?_) (a' := ?_) #[true, true, true, true, true, true, true, true, true, true, true, true, true, true, true, true, true, false] rfl rfl (by kernel_rfl) (fun _ _ _ h => h) (Or.inl ⟨by rfl, ?_⟩) ?_ ?_
            rotate_left
            · intro w'
              go_simp
              with_reducible rfl
            rotate_left
            · simp only [Act.put, List.setIfInBounds_toArray, List.set_cons_zero, List.set_cons_succ, i64_w, i32_w]
              rfl
            refine last_ (i := 17) (N := none) #[true, true, true, true, true, true, true, true, true, true, true, true, true, true, true, true, true, true] rfl rfl (by kernel_rfl) (by decide) (fun K hK => ?_)
            obtain ⟨cur5, hcur5, hsz5, _⟩ := setCells_row [.int .i64 b0, .int .i64 b1, .slice Ab lb cb, .int .i64 b3, .int .i64 b4] (jI.toNat * 5) w4.drew _ (blk_drew HB4.out.1) (by have := HB4.out.2; have := HJN.out; have := HEQ.out.2.2.1; simp only [List.length_cons, List.length_nil]; omega)
            refine store_seg_ 42 (.tmp 52) (.tmp 50) g (jK.toNat * 5) (.agg #[.int .i64 a0, .int .i64 a1, .slice Aa la ca, .int .i64 a3, .int .i64 a4]) [.int .i64 a0, .int .i64 a1, .slice Aa la ca, .int .i64 a3, .int .i64 a4] (by rfl) rfl rfl rfl rfl hcur5 rfl (by kernel_rfl) (by have := HB4.out.2; have := HJN.out; have := HEQ.out.2.2.2.1; simp only [List.length_cons, List.length_nil]; omega) (by simp [Value.oneCell']) ?_
            refine hK.out _ _ ?_
            clear hK K
            refine done_ (by kernel_rfl) ?_
            go_wp2_with fail
            have hM := HM.out
            have hb' : Below wr.heap.size wr w4.drew := below_drew1 hb4.out
            have hsw := row_swap (HJ4.out.below (below_drew (Below.refl _ _))) j HJN.out.2 (c := [Value.int .i64 a0, .int .i64 a1, .slice Aa la ca, .int .i64 a3, .int .i64 a4]) (d := [Value.int .i64 b0, .int .i64 b1, .slice Ab lb cb, .int .i64 b3, .int .i64 b4]) rfl rfl (Kd.M_below hM.1 hb') (Kd.M_below hM.2.1 hb') (fun i u hu => pw_cell_below hb' (hM.2.2.1 i u hu))
            have hs2 : sinkL ((rs.set (j + 1) (rs.getD j zP)).set j (rs.getD (j + 1) zP)) j = sinkL qs i := by
              rw [← HS.out]
              exact (if_pos (by rw [← HEQ.out.2.2.2.2.1, ← HEQ.out.2.2.2.2.2]; exact HLT2.out)).symm
            refine ⟨⟨j, _, by rw [HEQ.out.2.1], by have := HJN.out; omega, ⟨by rw [HEQ.out.2.2.1, HEQ.out.2.2.2.1]; exact hsw⟩, ⟨hs2⟩⟩, ?_⟩
            have := HEQ.out
            simp only [intOf]
            omega
    · obtain hge : n ≤ i := by omega
      have hE := HE.out
      have hEq : isortL n (n + 1 - i) i qs = qs := by
        rcases Nat.lt_or_ge 0 (n + 1 - i) with hp | hp
        · obtain ⟨k, hk⟩ : ∃ k, n + 1 - i = k + 1 := ⟨n - i, by omega⟩
          rw [hk]; exact if_neg hlt
        · rw [show n + 1 - i = 0 by omega]; rfl
      rw [hEq] at hE
      have hlt' : decide ((i : Int) < (n : Int)) = false := decide_eq_false (by omega)
      have hlt'' : decide (i < n) = false := decide_eq_false hlt
      clear hEq hge hlt
      have HEE := Aside0.mk hE
      clear hE
      go_wp2_with fail
      go_end0
      exact ⟨rfl, by rw [← HEE.out]; exact HI.out⟩
end Go.Proofs.Ytdgefplbfffenaa.X
namespace Go.Proofs.Ytdgefplbfffenaa.X
open Go.RowKit Go.Proofs.YtdgefplbfffenaaW.PrintWords Go.Proofs.YtdgefplbfffenaaW.PrintLast Go.Proofs.YtdgefplbfffenaaW.PrintMore
set_option maxHeartbeats 800000 in
set_option maxRecDepth 100000 in
theorem insertion_none (A : Option Addr) (n c : Nat) (a b : Int) (h0 : 0 ≤ a) (h1 : a ≤ 1000) (h : b ≤ a + 1) (w : World) :
    Calls Try.prog 92 #[.slice A n c, .int .i64 a, .int .i64 b, .func (.func 53) #[] #[]] w fun e w' => e = .returned (.tuple #[]) ∧ w = w' := by
  obtain ⟨a1, ha1⟩ : ∃ a1 : Int, a1 = a + 1 := ⟨_, rfl⟩
  have hs1 : wrap64 (a + 1) = a1 := by unfold wrap64; omega
  have hd : decide (a1 < b) = false := decide_eq_false (by omega)
  have hd2 : decide (a + 1 < b) = false := decide_eq_false (by omega)
  have H := Aside0.mk ha1
  clear ha1
  go_enter Try.func92, Try.ntmps92
  go_wp2_with fail
  go_loopw [8] (fun v8 wr => v8 = .int .i64 a1 ∧ Aside0 (wr = w)) (fun _ _ => 0)
  case atStart => exact ⟨by rw [H.out], ⟨rfl⟩⟩
  case round =>
    obtain ⟨rfl, HW⟩ := hrel
    go_wp2
    go_end0
    exact ⟨rfl, HW.out.symm⟩
/-- slices.stableCmpFunc of at most twenty elements: it is the insertion sort. -/
def StablePost (f : Nat → Nat) (w : World) (base : Nat) (ok : Nat → Prop) (v : Value) (ps : List (S42 × Nat)) (e : Ending) (w' : World) : Prop :=
  e = .returned (.tuple #[]) ∧ (Kd.tag f k42).R 42 w' base ok v ps ∧ (∀ k, k < w.heap.size → some k ≠ v.ownBlock → w'.heap[k]? = w.heap[k]?) ∧ Below 0 w w'
theorem insertion_any (f : Nat → Nat) (base n c : Nat) (A : Option Addr) (ok : Nat → Prop) (ps : List (S42 × Nat)) (w : World) (h : (Kd.tag f k42).R 42 w base ok (.slice A n c) ps) (hn : n ≤ 1000000) :
    Calls Try.prog 92 #[.slice A n c, .int .i64 0, .int .i64 (n : Int), .func (.func 53) #[] #[]] w (StablePost f w base ok (.slice A n c) (isortL n n 1 ps)) := by
  have hl := (Kd.R_reads' h).1
  rcases Nat.eq_zero_or_pos n with h0 | h0
  · subst h0
    obtain rfl : ps = [] := List.eq_nil_of_length_eq_zero hl.symm
    refine (insertion_none A 0 c 0 ((0 : Nat) : Int) (by omega) (by omega) (by omega) w).mono ?_
    rintro e w' ⟨rfl, rfl⟩
    exact ⟨rfl, h, fun _ _ _ => rfl, Below.refl _ _⟩
  · obtain ⟨g, cap, hv, hgb, hgl, _⟩ := Kd.R_form h (by omega)
    injection hv with hA hn2 hc
    subst hA hc
    have hnc := (Kd.R_reads' h).2.1
    refine (insertion_calls f base g c n ok ps w ⟨h, hl.symm, fun _ _ _ => rfl, Below.refl _ _⟩ hn hnc hgl).mono ?_
    rintro e w' ⟨rfl, hr⟩
    exact ⟨rfl, hr.row, fun k hk hne => hr.far k hk (fun he => hne (by rw [he]; rfl)), hr.bel⟩
set_option maxHeartbeats 800000 in
set_option maxRecDepth 100000 in
theorem stable_calls (f : Nat → Nat) (base n c : Nat) (A : Option Addr) (ok : Nat → Prop) (ps : List (S42 × Nat)) (w : World) (h : (Kd.tag f k42).R 42 w base ok (.slice A n c) ps) (hn : n ≤ 20) :
    Calls Try.prog 75 #[.slice A n c, .int .i64 (n : Int), .func (.func 53) #[] #[]] w (StablePost f w base ok (.slice A n c) (isortL n n 1 ps)) := by
  have HI := Aside0.mk (insertion_any f base n c A ok ps w h (by omega))
  clear h
  rcases Nat.lt_or_ge n 20 with hlt | hge
  · have d1 : decide ((20 : Int) ≤ (n : Int)) = false := decide_eq_false (by omega)
    have d2 : decide ((20 : Int) < (n : Int)) = false := decide_eq_false (by omega)
    have d3 : decide (20 ≤ n) = false := decide_eq_false (by omega)
    have d4 : decide (20 < n) = false := decide_eq_false (by omega)
    clear hlt hn
    go_enter Try.func75, Try.ntmps75
    go_wp2_with fail
    go_loopw [7, 8] (fun v7 v8 wr => v7 = .int .i64 0 ∧ v8 = .int .i64 20 ∧ Aside0 (wr = w)) (fun _ _ _ => 0)
    case atStart => exact ⟨rfl, rfl, ⟨rfl⟩⟩
    case round =>
      obtain ⟨rfl, rfl, HW⟩ := hrel
      obtain rfl := HW.out
      clear HW
      go_wp2_with fail
      refine HI.out.mono ?_
      rintro e w' ⟨rfl, hp⟩
      have HP := Aside0.mk hp
      clear hp
      go_wp2_with fail
      go_loopw [6, 7, 8] (fun v6 v7 v8 wr => v6 = .int .i64 20 ∧ Aside0 (wr = w')) (fun _ _ _ _ => 0)
      case atStart => exact ⟨rfl, ⟨rfl⟩⟩
      case round =>
        obtain ⟨rfl, HW⟩ := hrel
        obtain rfl := HW.out
        clear HW
        go_wp2_with fail
        go_end0
        exact ⟨rfl, HP.out⟩
  · obtain rfl : n = 20 := by omega
    clear hge hn
    have HI2 := Aside0.mk (show Calls Try.prog 92 #[.slice A 20 c, .int .i64 0, .int .i64 20, .func (.func 53) #[] #[]] w (StablePost f w base ok (.slice A 20 c) (isortL 20 20 1 ps)) from HI.out)
    have HZ := Aside0.mk (fun W => insertion_none A 20 c 20 20 (by omega) (by omega) (by omega) W)
    clear HI
    show Calls Try.prog 75 #[.slice A 20 c, .int .i64 20, .func (.func 53) #[] #[]] w _
    generalize isortL 20 20 1 ps = qs at *
    go_enter Try.func75, Try.ntmps75
    go_wp2_with fail
    go_loopw [7, 8] (fun v7 v8 wr => ∃ b : Bool, v7 = .int .i64 (if b then 20 else 0) ∧ v8 = .int .i64 (if b then 40 else 20) ∧ Aside0 (b = false → wr = w) ∧ Aside0 (b = true → StablePost f w base ok (.slice A 20 c) qs (.returned (.tuple #[])) wr)) (fun _ v8 _ => 40 - (intOf v8).toNat)
    case atStart => exact ⟨false, rfl, rfl, ⟨fun _ => rfl⟩, ⟨fun h => by cases h⟩⟩
    case round =>
      obtain ⟨b, rfl, rfl, HW, HP⟩ := hrel
      cases b with
      | false =>
        obtain rfl := HW.out rfl
        clear HW HP
        simp only [Bool.false_eq_true, if_false]
        go_wp2_with fail
        refine HI2.out.mono ?_
        rintro e w' ⟨rfl, hp⟩
        have HP := Aside0.mk hp
        clear hp
        go_wp2_with fail
        go_roundw
        case rel => exact ⟨true, rfl, rfl, ⟨fun h => by cases h⟩, ⟨fun _ => ⟨rfl, HP.out⟩⟩⟩
        case measure => simp [intOf]
      | true =>
        have HP2 := Aside0.mk (HP.out rfl)
        clear HW HP
        simp only [if_true]
        go_wp2_with fail
        refine (HZ.out wr).mono ?_
        rintro e w' ⟨rfl, rfl⟩
        go_wp2_with fail
        obtain ⟨wo, rfl⟩ : ∃ wo : World, wo = wr := ⟨_, rfl⟩
        go_loopw [6, 7, 8] (fun v6 v7 v8 wr => v6 = .int .i64 20 ∧ Aside0 (wr = wo)) (fun _ _ _ _ => 0)
        case atStart => exact ⟨rfl, ⟨rfl⟩⟩
        case round =>
          obtain ⟨rfl, HW⟩ := hrel
          obtain rfl := HW.out
          clear HW
          go_wp2_with fail
          go_end0
          exact HP2.out
set_option maxHeartbeats 800000 in
set_option maxRecDepth 100000 in
theorem sortStable_calls (f : Nat → Nat) (base n c : Nat) (A : Option Addr) (ok : Nat → Prop) (ps : List (S42 × Nat)) (w : World) (h : (Kd.tag f k42).R 42 w base ok (.slice A n c) ps) (hn : n ≤ 20) :
    Calls Try.prog 52 #[.slice A n c, .func (.func 53) #[] #[]] w (StablePost f w base ok (.slice A n c) (isortL n n 1 ps)) := by
  have HI := Aside0.mk (stable_calls f base n c A ok ps w h hn)
  clear h
  generalize isortL n n 1 ps = qs at *
  go_enter Try.func52, Try.ntmps52
  go_wp2_with fail
  refine HI.out.mono ?_
  rintro e w' ⟨rfl, hp⟩
  have HP := Aside0.mk hp
  clear hp
  go_wp2_with fail
  go_end0
  exact ⟨rfl, HP.out⟩
end Go.Proofs.Ytdgefplbfffenaa.X
namespace Go.Proofs.Ytdgefplbfffenaa.X
open Go.RowKit Go.Proofs.YtdgefplbfffenaaW.PrintWords Go.Proofs.YtdgefplbfffenaaW.PrintLast Go.Proofs.YtdgefplbfffenaaW.PrintMore
theorem sinkL_perm (ps : List (S42 × Nat)) (j : Nat) (hj : j < ps.length) : (sinkL ps j).Perm ps := by
  induction j generalizing ps with
  | zero => exact List.Perm.refl _
  | succ j ih =>
    unfold sinkL
    split
    · have h1 : ps.getD (j + 1) zP = ps[j + 1] := by simp [List.getD_eq_getElem?_getD, List.getElem?_eq_getElem hj]
      have h2 : ps.getD j zP = ps[j] := by simp [List.getD_eq_getElem?_getD, List.getElem?_eq_getElem (show j < ps.length by omega)]
      rw [h1, h2]
      exact (ih _ (by rw [List.length_set, List.length_set]; omega)).trans (List.set_set_perm hj (by omega))
    · exact List.Perm.refl _
theorem isortL_perm (n k : Nat) : ∀ (i : Nat) (ps : List (S42 × Nat)), n = ps.length → (isortL n k i ps).Perm ps := by
  induction k with
  | zero => intro i ps _; exact List.Perm.refl _
  | succ k ih =>
    intro i ps hn
    unfold isortL
    split
    · exact (ih (i + 1) _ (by rw [sinkL_len]; exact hn)).trans (sinkL_perm ps i (by omega))
    · exact List.Perm.refl _
open Classical in
theorem S_of_tags {α : Type} {d : Kd α} {e base : Nat} {ok : Nat → Prop} {w : World} {v : Value} {f : Nat → Nat} {ps : List (α × Nat)} (h : (Kd.tag f d).R e w base ok v ps) (hnd : (ps.map Prod.snd).Nodup) : Kd.S d e w base ok v (ps.map Prod.fst) := by
  obtain ⟨h0, inner, ho, hr⟩ := h
  refine ⟨fun b => if hx : ∃ j, (ps.map Prod.snd)[j]? = some (f b) then hx.choose else 0, h0, inner, by rw [List.length_zipIdx, List.length_map]; exact ho, by rw [List.length_zipIdx, List.length_map]; exact hr.1, fun j q hq => ?_⟩
  rw [List.getElem?_zipIdx, Nat.zero_add] at hq
  obtain ⟨x, hx, rfl⟩ := Option.map_eq_some_iff.1 hq
  rw [List.getElem?_map] at hx
  obtain ⟨p, hp, rfl⟩ := Option.map_eq_some_iff.1 hx
  refine d.M_mono (fun k hk => ⟨hk.1, ?_⟩) (hr.2 j p hp)
  have hs : (ps.map Prod.snd)[j]? = some (f k) := by rw [List.getElem?_map, hp, hk.2]; rfl
  have hx : ∃ j, (ps.map Prod.snd)[j]? = some (f k) := ⟨j, hs⟩
  show (if hx : ∃ j, (ps.map Prod.snd)[j]? = some (f k) then hx.choose else 0) = j
  rw [dif_pos hx]
  have hc := hx.choose_spec
  obtain ⟨l1, e1⟩ := List.getElem?_eq_some_iff.1 hc
  obtain ⟨l2, e2⟩ := List.getElem?_eq_some_iff.1 hs
  have hpw := List.pairwise_iff_getElem.1 hnd
  rcases Nat.lt_trichotomy hx.choose j with hlt | he | hlt
  · exact absurd (e1.trans e2.symm) (hpw _ _ l1 l2 hlt)
  · exact he
  · exact absurd (e2.trans e1.symm) (hpw _ _ l2 l1 hlt)
theorem zipIdx_nodup {α : Type} (xs : List α) : (xs.zipIdx.map Prod.snd).Nodup := by
  rw [List.zipIdx_map_snd]; exact List.nodup_range'
/-- What was found, in order. -/
def sortF (fs : List S42) : List S42 := (isortL fs.length fs.length 1 fs.zipIdx).map Prod.fst
def foundAt (i : Nat) (rs : List S36) (ps : List Int) : List S42 := List.zipWith (fun r p => ⟨r, (i : Int), p⟩) rs ps
def allL : List S52 → Nat → List S42 → Option (List S42)
  | [], _, acc => some acc
  | z :: zs, i, acc => match record_Scan.f z.f2 with
    | none => none
    | some (rs, ps) => if rs.length = ps.length ∧ acc.length + rs.length < 1000000000 then allL zs (i + 1) (acc ++ foundAt i rs ps) else none
def log_All.f (a0_0 : Int) (l0_1 : List (S52)) (_a0_2 : Int) (_a0_3 : Bool) (_a0_4 : Int) : Option ((List (S42)) × Int) :=
  if dok a0_0 l0_1 = true then (match allL l0_1 0 [] with | none => none | some fs => if fs.length ≤ 20 then some (sortF fs, 0) else none) else some ([], 1)
theorem sortF_S {e base : Nat} {ok : Nat → Prop} {w : World} {v : Value} {f : Nat → Nat} {fs : List S42} (h : (Kd.tag f k42).R e w base ok v (isortL fs.length fs.length 1 fs.zipIdx)) : Kd.S k42 e w base ok v (sortF fs) :=
  S_of_tags h ((List.Perm.map _ (isortL_perm _ _ 1 fs.zipIdx (by rw [List.length_zipIdx]))).nodup_iff.2 (zipIdx_nodup fs))
theorem grownBelow {w w1 : World} (h : w.grownBy w1 none) : Below w.heap.size w w1 := (Below.refl _ _).grown h (Nat.le_refl _) (fun k e => by cases e)
theorem below_far0 {B : Nat} {w W W6 : World} (h : Below B w W) (h0 : Below 0 W W6) (hk : ∀ k, k < B → W6.heap[k]? = W.heap[k]?) : Below B w W6 :=
  h.trans ⟨h0.os, h0.tape, h0.output, h0.size, hk⟩
structure InInv (w W : World) (n0 n1 : Nat) (f1 : Nat → Nat) (i : Nat) (rs : List S36) (ps : List Int) (v6 v7 : Value) (acc : List S42) (k : Nat) (v2 : Value) : Prop where
  row : (Kd.tag f1 k36).R 36 W w.heap.size (fun b => n0 ≤ b ∧ b < n1) v6 rs.zipIdx
  pl : (Kd.int .i64).R 3 W w.heap.size (fun b => n0 ≤ b ∧ b < n1) v7 ps
  out : Kd.S k42 42 W w.heap.size (fun b => b < n0 ∨ n1 ≤ b ∨ f1 b < k) v2 (acc ++ foundAt i (rs.take k) (ps.take k))
  bel : Below w.heap.size w W
  sz : n1 ≤ W.heap.size
theorem foundAt_snoc (i k : Nat) (rs : List S36) (ps : List Int) (h1 : k < rs.length) (h2 : k < ps.length) : foundAt i (rs.take (k + 1)) (ps.take (k + 1)) = foundAt i (rs.take k) (ps.take k) ++ [⟨rs[k], (i : Int), ps[k]⟩] := by
  unfold foundAt
  rw [List.take_add_one, List.take_add_one, List.getElem?_eq_getElem h1, List.getElem?_eq_getElem h2]
  rw [List.zipWith_append (by rw [List.length_take, List.length_take]; omega)]
  rfl
theorem foundAt_len (i : Nat) (rs : List S36) (ps : List Int) : (foundAt i rs ps).length ≤ rs.length := by
  unfold foundAt; rw [List.length_zipWith]; exact Nat.min_le_left _ _
def AllPost (w : World) (r1 : List S42) (r2 : Int) (e : Ending) (w' : World) : Prop :=
  ∃ v0_ : Value, e = .returned (.tuple #[v0_, .int .i64 r2]) ∧ Kd.S k42 42 w' w.heap.size (fun _ => True) v0_ r1 ∧ Below w.heap.size w w'
set_option maxHeartbeats 8000000 in
set_option maxRecDepth 100000 in
theorem log_All.walk_ (a0_0 : Int) (A0_1 : Option Addr) (c0_1 : Nat) (l0_1 : List (S52)) (a0_2 : Int) (a0_3 : Bool) (a0_4 : Int) (r1 : List (S42)) (r2 : Int) (w : World) (hr0_1 : Kd.C k52 w A0_1 l0_1.length l0_1) (hc0_1 : l0_1.length ≤ c0_1) (h : log_All.f a0_0 l0_1 a0_2 a0_3 a0_4 = some (r1, r2)) :
    Calls Try.prog 25 #[.agg #[.int .i64 a0_0, .slice A0_1 l0_1.length c0_1, .int .i64 a0_2, .bool a0_3, .int .i64 a0_4]] w (AllPost w r1 r2) := by
  have hu27 := Try.underlying27
  have hu52 := Try.underlying52
  have hu36 := Try.underlying36
  have hu42 := Try.underlying42
  have hb1 := below_alloc (Below.refl w.heap.size w) (.cells #[.int .i64 a0_0, .slice A0_1 l0_1.length c0_1, .int .i64 a0_2, .bool a0_3, .int .i64 a0_4] 27)
  have HCK := Aside0.mk (dev_Check.calls a0_0 A0_1 c0_1 l0_1 a0_2 a0_3 a0_4 (dok a0_0 l0_1) _ (Kd.C_below hr0_1 hb1) hc0_1 rfl)
  have HK := Aside0.mk (blk_new w (.cells #[.int .i64 a0_0, .slice A0_1 l0_1.length c0_1, .int .i64 a0_2, .bool a0_3, .int .i64 a0_4] 27))
  have HB := Aside0.mk hb1
  have HC := Aside0.mk (And.intro hr0_1 hc0_1)
  unfold log_All.f at h
  have H := Aside0.mk h
  clear hb1 hr0_1 hc0_1 h
  generalize dok a0_0 l0_1 = okd at *
  go_enter Try.func25, Try.ntmps25
  go_wp2_with fail
  refine HCK.out.mono ?_
  rintro e w1 ⟨rfl, hb⟩
  have HK1 := Aside0.mk (blk_below HK.out hb)
  have HB1 := Aside0.mk (HB.out.trans (hb.mono HB.out.size))
  clear hb HCK HK HB
  cases okd with
  | false =>
    have h := H.out
    simp only [Bool.false_eq_true, if_false] at h
    obtain ⟨rfl, rfl⟩ := Prod.mk.inj (Option.some.inj h)
    clear h
    go_wp2
    refine bodyPost_ret (results_tmp2 rfl _ _ _) rfl ?_
    exact ⟨_, rfl, Kd.S_nil _ _ _ _ _, HB1.out⟩
  | true =>
    have h := H.out
    simp only [if_true] at h
    replace H := Aside0.mk h
    clear h
    have z0 : w1.cell? ⟨w.heap.size, 0, none⟩ = some (.int .i64 a0_0) := (blk_cell HK1.out 0).trans rfl
    have z1 : w1.cell? ⟨w.heap.size, 1, none⟩ = some (.slice A0_1 l0_1.length c0_1) := (blk_cell HK1.out 1).trans rfl
    go_wp2_with fail
    clear z0 z1
    go_loopw [2, 16] (fun v2 v16 wr => ∃ (i : Nat) (acc : List S42), v16 = .int .i64 (i : Int) ∧ i ≤ l0_1.length ∧ Aside0 (Kd.S k42 42 wr w.heap.size (fun _ => True) v2 acc) ∧ Aside0 (Below w.heap.size w wr) ∧ Aside0 (acc.length ≤ 2000000000) ∧ Aside0 ((match allL (l0_1.drop i) i acc with | none => none | some fs => if fs.length ≤ 20 then some (sortF fs, 0) else none) = some (r1, r2))) (fun _ v16 _ => l0_1.length - (intOf v16).toNat)
    case atStart => exact ⟨0, [], rfl, Nat.zero_le _, ⟨Kd.S_nil _ _ _ _ _⟩, HB1, ⟨by simp⟩, ⟨H.out⟩⟩
    case round =>
      clear HK1 HB1 H
      obtain ⟨i, acc, rfl, hi, HO, HB, HN, HR⟩ := hrel
      by_cases hlt : i < l0_1.length
      · obtain ⟨ad, A2, c2, eA, hx0, hx1, hx2, hx3, hl2, hC2⟩ := at_T52 HC.out.1 (i : Int) (by omega) (by omega)
        cases eA
        simp only [Int.toNat_natCast] at hx0 hx1 hx2 hx3
        replace hx0 := (HB.out.cell (World.block_lt_of_cell? w _ hx0)).trans hx0
        replace hx1 := (HB.out.cell (World.block_lt_of_cell? w _ hx1)).trans hx1
        replace hx2 := (HB.out.cell (World.block_lt_of_cell? w _ hx2)).trans hx2
        replace hx3 := (HB.out.cell (World.block_lt_of_cell? w _ hx3)).trans hx3
        have ez : rd_T52 l0_1 (i : Int) = l0_1[i] := by simp [rd_T52, List.getD_eq_getElem?_getD, List.getElem?_eq_getElem hlt]
        rw [ez] at hx0 hx1 hx2 hx3 hl2 hC2
        have h := HR.out
        rw [List.drop_eq_getElem_cons hlt] at h
        simp only [allL] at h
        generalize l0_1[i] = zn at *
        cases hs : record_Scan.f zn.f2 with
        | none => rw [hs] at h; cases h
        | some rp =>
          obtain ⟨rs, ps⟩ := rp
          rw [hs] at h
          dsimp only at h
          split at h
          · cases h
          · rename_i fs hfs
            split at hfs
            · rename_i hrp
              have hal := below_alloc (Below.refl wr.heap.size wr) (.cells #[.int .i64 zn.f0, .int .i64 zn.f1, .slice A2 zn.f2.length c2, .int .i64 zn.f3] 52)
              have HSC := Aside0.mk (record_Scan.walk_ A2 c2 zn.f2 (rs, ps) (wr.alloc (.cells #[.int .i64 zn.f0, .int .i64 zn.f1, .slice A2 zn.f2.length c2, .int .i64 zn.f3] 52)) (Kd.C_below (Kd.C_below hC2 HB.out) hal) hl2 hs)
              have HAL := Aside0.mk hal
              have HRP := Aside0.mk hrp
              have HFS := Aside0.mk hfs
              have HF := Aside0.mk h
              have HLT := Aside0.mk (And.intro hlt hi)
              have hi0 : (0 : Int) ≤ (i : Int) := by omega
              have hi1 : (i : Int) < (l0_1.length : Int) := by omega
              clear hal hrp hfs h hs hl2 hC2 ez hi HR
              go_wp2_with fail
              refine HSC.out.mono ?_
              rintro e w2 ⟨v6, v7, rfl, hS, hP, hb⟩
              obtain ⟨f1, hS1⟩ := hS
              have hb2 := HAL.out.trans (hb.mono HAL.out.size)
              have hsz0 : w.heap.size ≤ wr.heap.size := HB.out.size
              have HI := Aside0.mk (show InInv w w2 wr.heap.size w2.heap.size f1 i rs ps v6 v7 acc 0 u2 from {
                row := Kd.R_lower (Kd.R_mono (Kd.R_bound hS1) (fun b hk => ⟨Nat.le_trans HAL.out.size hk.2.1, hk.2.2.1⟩)) (Nat.le_trans hsz0 HAL.out.size)
                pl := Kd.R_lower (Kd.R_mono (Kd.R_bound hP) (fun b hk => ⟨Nat.le_trans HAL.out.size hk.2.1, hk.2.2.1⟩)) (Nat.le_trans hsz0 HAL.out.size)
                out := by
                  rw [List.take_zero, List.take_zero]
                  show Kd.S k42 42 w2 w.heap.size _ u2 (acc ++ [])
                  rw [List.append_nil]
                  exact Kd.S_mono (Kd.S_below (Kd.S_bound HO.out) hb2) (fun b hk => .inl hk.2.2.1)
                bel := HB.out.trans (hb2.mono hsz0)
                sz := Nat.le_refl _ })
              have HN0 := Aside0.mk hsz0
              obtain ⟨A6, c6, hv6⟩ := Kd.S_slice (show Kd.S k36 36 w2 _ _ v6 rs from ⟨f1, hS1⟩)
              obtain ⟨A7, c7, hv7⟩ := Kd.R_slice hP
              subst hv6 hv7
              clear hS1 hP hb hb2 hsz0 hx0 hx1 hx2 hx3 HAL HSC
              go_wp2_with fail
              obtain ⟨wo, hwo⟩ : ∃ wo : World, wo = wr := ⟨_, rfl⟩
              have HWO := Aside0.mk hwo
              generalize hN0 : wr.heap.size = n0 at *
              generalize hN1 : w2.heap.size = n1 at *
              clear hN0 hN1 HWO hwo
              go_loopw [2, 29] (fun v2 v29 wr => ∃ k : Nat, v29 = .int .i64 (k : Int) ∧ k ≤ rs.length ∧ Aside0 (InInv w wr n0 n1 f1 i rs ps (.slice A6 rs.length c6) (.slice A7 ps.length c7) acc k v2)) (fun _ v29 _ => rs.length - (intOf v29).toNat)
              case atStart => exact ⟨0, rfl, Nat.zero_le _, HI⟩
              case round =>
                clear HI
                obtain ⟨k, rfl, hk, HI⟩ := hrel
                by_cases hkl : k < rs.length
                · have hzl : rs.zipIdx.length = rs.length := List.length_zipIdx
                  have hpl : rs.length = ps.length := HRP.out.1
                  obtain ⟨g6, c6', hv6, hg6b, hg6l, hx6_⟩ := Kd.R_form HI.out.row (by omega)
                  injection hv6 with hA6 hln6 hc6
                  clear hln6
                  subst hA6 hc6
                  obtain ⟨c, hcl, hM, hcc, hcf⟩ := Kd.R_elem HI.out.row ((⟨0, 0, []⟩ : S36), 0) (k : Int) (by omega) (by omega)
                  rw [Int.toNat_natCast, show rs.zipIdx.getD k ((⟨0, 0, []⟩ : S36), 0) = (rs[k], k) by simp [List.getD_eq_getElem?_getD, hkl]] at hM
                  rw [Int.toNat_natCast] at hcc
                  obtain ⟨vb, rfl, hvb⟩ := k36_openM hM
                  obtain ⟨Ab, cb, rfl⟩ := Kd.R_slice hvb
                  obtain ⟨g7, c7', hv7, hg7b, hg7l, hx7_⟩ := Kd.R_form HI.out.pl (by omega)
                  injection hv7 with hA7 hln7 hc7
                  clear hln7
                  subst hA7 hc7
                  obtain ⟨_, e7, hx7⟩ := Kd.at_int (Kd.R_reads' HI.out.pl).2.2 (k : Int) (by omega) (by omega)
                  cases e7
                  replace hx7 : wr.cell? ⟨g7, k, none⟩ = some (.int .i64 (rd ps (k : Int))) := by
                    rw [Int.toNat_natCast] at hx7
                    rwa [add_plain] at hx7
                  have hpk : rd ps (k : Int) = ps[k]'(by omega) := by simp [rd, List.getD_eq_getElem?_getD, List.getElem?_eq_getElem (show k < ps.length by omega)]
                  have hfa := foundAt_snoc i k rs ps hkl (by omega)
                  rw [← hpk] at hfa
                  have y0 : wr.cell? ⟨g6, k * 3, none⟩ = some (.int .i64 rs[k].f0) := hcc 0 _ rfl
                  have y1 : wr.cell? ⟨g6, k * 3 + 1, none⟩ = some (.int .i64 rs[k].f1) := hcc 1 _ rfl
                  have y2 : wr.cell? ⟨g6, k * 3 + 2, none⟩ = some (.slice Ab rs[k].f2.length cb) := hcc 2 _ rfl
                  generalize hr : rs[k] = rk at *
                  generalize hp : rd ps (k : Int) = pk at *
                  have HFA := Aside0.mk hfa
                  have HVB := Aside0.mk hvb
                  have HKL := Aside0.mk (And.intro hkl (And.intro hk (And.intro hzl hpl)))
                  have hal := below_alloc (Below.refl wr.heap.size wr) (.cells #[.int .i64 rk.f0, .int .i64 rk.f1, .slice Ab rk.f2.length cb] 36)
                  have hk9 := blk_new wr (.cells #[.int .i64 rk.f0, .int .i64 rk.f1, .slice Ab rk.f2.length cb] 36)
                  have HAL := Aside0.mk hal
                  have HK9 := Aside0.mk (blk_drew hk9)
                  have hq1 : ((k : Int) < (ps.length : Int)) = True := eq_true (by omega)
                  have hq0 : (0 ≤ (k : Int)) = True := eq_true (by omega)
                  have hq2 : (k < ps.length) = True := eq_true (by omega)
                  have hk0 : (0 : Int) ≤ (k : Int) := by omega
                  have hk1 : (k : Int) < (rs.length : Int) := by omega
                  clear hx6_ hx7_ hcl hM hcc hcf hg6b hg6l hg7b hr hp hpk hvb hal hk9 hzl hpl hk hfa
                  have HG7 := Aside0.mk hg7l
                  have HB9 := Aside0.mk (below_drew1 HAL.out)
                  have HB10 := Aside0.mk (HI.out.bel.trans (HB9.out.mono HI.out.bel.size))
                  have HO9 := Aside0.mk (Kd.S_below HI.out.out HB9.out)
                  have HE := Aside0.mk (Kd.R_mono (ok' := fun b => (n0 ≤ b ∧ b < n1 ∧ f1 b = k) ∨ wr.heap.size ≤ b) (Kd.R_below HVB.out HB9.out) (fun b hb => .inl ⟨hb.1.1.1, hb.1.1.2, hb.2⟩))
                  have HNE := Aside0.mk (show ∀ b, ((n0 ≤ b ∧ b < n1 ∧ f1 b = k) ∨ wr.heap.size ≤ b) → some b ≠ u2.ownBlock from fun b hb he => by
                    rcases hb with hb | hb
                    · have := (Kd.S_R HI.out.out).1 b he.symm; omega
                    · have := Kd.S_lt HI.out.out b he.symm; omega)
                  have HSZ := Aside0.mk (show ∀ b, ((n0 ≤ b ∧ b < n1 ∧ f1 b = k) ∨ wr.heap.size ≤ b) → (b < n0 ∨ n1 ≤ b ∨ f1 b < k + 1) from fun b hb => by
                    have := HI.out.sz
                    rcases hb with hb | hb
                    · exact .inr (.inr (by omega))
                    · exact .inr (.inl (by omega)))
                  have HNE7 := Aside0.mk (show some g7 ≠ u2.ownBlock from fun he => by
                    obtain ⟨_, hc⟩ := Kd.S_typed HI.out.out g7 he.symm
                    obtain ⟨_, hc'⟩ := Kd.R_typed HI.out.pl g7 (by simp [Value.ownBlock])
                    rw [hc] at hc'
                    injection hc' with hc'
                    injection hc' with _ hc'
                    exact absurd hc' (by decide))
                  have HLEN := Aside0.mk (show (acc ++ foundAt i (rs.take k) (ps.take k)).length < 1000000000 from by
                    have h1 := foundAt_len i (rs.take k) (ps.take k)
                    have h2 := HRP.out.2
                    have h3 := HKL.out.1
                    rw [List.length_take] at h1
                    rw [List.length_append]
                    omega)
                  have HO9B := Aside0.mk (Kd.S_bound HI.out.out)
                  clear hg7l
                  replace HO9 := Aside0.mk (Kd.S_below HO9B.out HB9.out)
                  have HSP := Aside0.mk (show ∀ b, ((b < n0 ∨ n1 ≤ b ∨ f1 b < k) ∧ w.heap.size ≤ b ∧ b < wr.heap.size ∧ ∃ q, q ∈ 42 :: k42.E ∧ ∃ cells, wr.heap[b]? = some (.cells cells q (0, 0))) → ((b < n0 ∨ n1 ≤ b ∨ f1 b < k + 1) ∧ ¬ ((n0 ≤ b ∧ b < n1 ∧ f1 b = k) ∨ wr.heap.size ≤ b)) from fun b hb => by
                    have h1 := hb.1
                    have h2 := hb.2.2.1
                    constructor
                    · rcases h1 with h | h | h
                      · exact .inl h
                      · exact .inr (.inl h)
                      · exact .inr (.inr (by omega))
                    · omega)
                  go_wp2_with fail
                  refine start_ (n := 11) (S := fun w' => w'.cell? ⟨wr.heap.size, 0, none⟩ = some (.int .i64 rk.f0) ∧ w'.cell? ⟨wr.heap.size, 1, none⟩ = some (.int .i64 rk.f1) ∧ w'.cell? ⟨wr.heap.size, 2, none⟩ = some (.slice Ab rk.f2.length cb) ∧ w'.cell? ⟨g7, k, none⟩ = some (.int .i64 pk)) (ds := []) #[false, false, false, false, false, false, false, false, false, false, false] (by kernel_rfl) rfl rfl ⟨(blk_cell HK9.out 0).trans rfl, (blk_cell HK9.out 1).trans rfl, (blk_cell HK9.out 2).trans rfl, pw_cell_below HB9.out hx7⟩ (fun hHeld => ?_)
                  refine pure_ (i := 0) (N := some 34) (v := ?_) (a' := ?_) #[true, false, false, false, false, false, false, false, false, false, false] rfl rfl (by kernel_rfl) (fun _ _ _ h => h) (Or.inl ⟨by rfl, ?_⟩) ?_ ?_
                  rotate_left
                  · intro w'
                    go_simp
                    with_reducible rfl
                  rotate_left
                  · simp only [Act.put, List.setIfInBounds_toArray, List.set_cons_zero, List.set_cons_succ, i64_w, i32_w]
                    rfl
                  refine pure_ (i := 2) (N := some 36) (v := ?_) (a' := ?_) #[true, false, true, false, false, false, false, false, false, false, false] rfl rfl (by kernel_rfl) (fun _ _ _ h => h) (Or.inl ⟨by rfl, ?_⟩) ?_ ?_
                  rotate_left
                  · intro w'
                    go_simp
                    with_reducible rfl
                  rotate_left
                  · simp only [Act.put, List.setIfInBounds_toArray, List.set_cons_zero, List.set_cons_succ, i64_w, i32_w]
                    rfl
                  refine pure_ (i := 3) (N := some 37) (v := ?_) (a' := ?_) #[true, false, true, true, false, false, false, false, false, false, false] rfl rfl (by kernel_rfl) (fun _ _ _ h => h) (Or.inl ⟨by rfl, ?_⟩) ?_ ?_
                  rotate_left
                  · intro w'
                    go_simp
                    with_reducible rfl
                  rotate_left
                  · simp only [Act.put, List.setIfInBounds_toArray, List.set_cons_zero, List.set_cons_succ, i64_w, i32_w]
                    rfl
                  refine pure_ (i := 4) (N := some 38) (v := ?_) (a' := ?_) #[true, false, true, true, true, false, false, false, false, false, false] rfl rfl (by kernel_rfl) (fun _ _ _ h => h) (Or.inl ⟨by rfl, ?_⟩) ?_ ?_
                  rotate_left
                  · intro w'
                    go_simp
                    with_reducible rfl
                  rotate_left
                  · simp only [Act.put, List.setIfInBounds_toArray, List.set_cons_zero, List.set_cons_succ, i64_w, i32_w]
                    rfl
                  refine pure_ (i := 5) (N := some 39) (v := ?_) (a' := ?_) #[true, false, true, true, true, true, false, false, false, false, false] rfl rfl (by kernel_rfl) (fun _ _ _ h => h) (Or.inl ⟨by rfl, ?_⟩) ?_ ?_
                  rotate_left
                  · intro w'
                    go_simp
                    with_reducible rfl
                  rotate_left
                  · simp only [Act.put, List.setIfInBounds_toArray, List.set_cons_zero, List.set_cons_succ, i64_w, i32_w]
                    rfl
                  refine take_ (i := 1) (N := some 35) (v := ?_) (a' := ?_) #[true, true, true, true, true, true, false, false, false, false, false] rfl rfl (by kernel_rfl) (fun _ _ _ h => h) (Or.inl ⟨by rfl, ?_⟩) hHeld ?_ ?_
                  rotate_left
                  · rintro w' ⟨s0, s1, s2, s3⟩
                    go_simp
                    with_reducible rfl
                  rotate_left
                  · simp only [Act.put, List.setIfInBounds_toArray, List.set_cons_zero, List.set_cons_succ, i64_w, i32_w]
                    rfl
                  refine take_ (i := 6) (N := some 40) (v := ?_) (a' := ?_) #[true, true, true, true, true, true, true, false, false, false, false] rfl rfl (by kernel_rfl) (fun _ _ _ h => h) (Or.inl ⟨by rfl, ?_⟩) hHeld ?_ ?_
                  rotate_left
                  · rintro w' ⟨s0, s1, s2, s3⟩
                    go_simp
                    with_reducible rfl
                  rotate_left
                  · simp only [Act.put, List.setIfInBounds_toArray, List.set_cons_zero, List.set_cons_succ, i64_w, i32_w]
                    rfl
                  refine pure_ (i := 7) (N := some 41) (v := ?_) (a' := ?_) #[true, true, true, true, true, true, true, true, false, false, false] rfl rfl (by kernel_rfl) (fun _ _ _ h => h) (Or.inl ⟨by rfl, ?_⟩) ?_ ?_
                  rotate_left
                  · intro w'
                    go_simp
                    with_reducible rfl
                  rotate_left
                  · simp only [Act.put, List.setIfInBounds_toArray, List.set_cons_zero, List.set_cons_succ, i64_w, i32_w]
                    rfl
                  refine one_ (i := 8) (N := some 42) #[true, true, true, true, true, true, true, true, true, false, false] rfl rfl (by kernel_rfl) (by decide) (fun K hK => ?_)
                  refine Kd.R_lit_step k42 (w0 := w) w.heap.size 42 (by rfl) (N := 42) rfl (xs := [(⟨rk, (i : Int), pk⟩ : S42)]) (inner := [.int .i64 rk.f0, .int .i64 rk.f1, .slice Ab rk.f2.length cb, .int .i64 (i : Int), .int .i64 pk]) (ok := (fun b => (n0 ≤ b ∧ b < n1 ∧ f1 b = k) ∨ wr.heap.size ≤ b)) (okp := (fun b => (n0 ≤ b ∧ b < n1 ∧ f1 b = k) ∨ wr.heap.size ≤ b)) ?hr ?hp (fun _ hk => hk) ?hf HB10.out HB10.out.size (by simp) ?_
                  (case hr => first | (go_simp; done) | (go_simp; rfl))
                  (case hp => exact Reps.c5 (k42_mkM _ _ _ (⟨rk, (i : Int), pk⟩ : S42) HE.out) (Reps.none _ _))
                  (case hf => exact .inr HB9.out.size)
                  intro v42 w11 hR hBx hg hn
                  have HL := Aside0.mk hR
                  have HB11 := Aside0.mk hBx
                  have HO11 := Aside0.mk (Kd.S_grown HO9.out hg (fun _ _ => by simp))
                  have HG11 := Aside0.mk (show Below wr.heap.size wr w11 from HB9.out.trans ((grownBelow hg).mono HB9.out.size))
                  have HK11 := Aside0.mk (blk_grown HK9.out hg (by simp))
                  clear hR hBx hg hn
                  refine hK.out _ _ ⟨(blk_cell HK11.out 0).trans rfl, (blk_cell HK11.out 1).trans rfl, (blk_cell HK11.out 2).trans rfl, pw_cell_below HG11.out hx7⟩ (fun hHeld => ?_)
                  clear hK K
                  refine norm_ (a' := ?_) ?_ ?_
                  rotate_left
                  · show Act.put _ (some 42) _ = _
                    simp only [Act.put, List.setIfInBounds_toArray, List.set_cons_zero, List.set_cons_succ, i64_w, i32_w]
                    rfl
                  refine one_ (i := 9) (N := some 43) #[true, true, true, true, true, true, true, true, true, true, false] rfl rfl (by kernel_rfl) (by decide) (fun K hK => ?_)
                  refine S_append_one_step k42 (w0 := w) w.heap.size (by rfl) (.tmp 34) (.tmp 42) 40 42 (.agg #[.int .i64 0, .int .i64 0, .slice none 0 0, .int .i64 0, .int .i64 0]) 56 rfl Try.underlying40 info42 rfl (by decide) (by omega) u2 v42 (acc ++ foundAt i (rs.take k) (ps.take k)) ⟨rk, (i : Int), pk⟩ (fun b => b < n0 ∨ n1 ≤ b ∨ f1 b < k + 1) (fun b => (n0 ≤ b ∧ b < n1 ∧ f1 b = k) ∨ wr.heap.size ≤ b) rfl rfl HL.out (fun b hb => ⟨HSZ.out b hb, HNE.out b hb⟩) (fun b hb => .inr (.inl (Nat.le_trans HI.out.sz (Nat.le_trans HG11.out.size hb)))) (Kd.S_mono HO11.out (fun b hb => HSP.out b hb)) HB11.out HB11.out.size (by have := HLEN.out; omega) ?_
                  intro v43 w12 hS hBx hg hn
                  have HO12 := Aside0.mk hS
                  have HB12 := Aside0.mk hBx
                  have HR12 := Aside0.mk (Kd.R_over' (Kd.R_below HI.out.row HG11.out) (Kd.S_typed HO11.out) (by show ∀ q, q ∈ ([36, 5] : List Nat) → q ≠ 42; decide) hg)
                  have HP12 := Aside0.mk (Kd.R_over' (Kd.R_below HI.out.pl HG11.out) (Kd.S_typed HO11.out) (by show ∀ q, q ∈ ([3] : List Nat) → q ≠ 42; decide) hg)
                  have HK12 := Aside0.mk (blk_grown HK11.out hg (Kd.S_ne HO11.out HK11.out (by decide)))
                  have HZ12 := Aside0.mk (Nat.le_trans HG11.out.size hg.size)
                  have hx12 : w12.cell? ⟨g7, k, none⟩ = some (.int .i64 pk) := (hg.cell_far ⟨g7, k, none⟩ (Nat.lt_of_lt_of_le HG7.out HG11.out.size) HNE7.out).trans (pw_cell_below HG11.out hx7)
                  clear hS hBx hg hn
                  refine hK.out _ _ ⟨(blk_cell HK12.out 0).trans rfl, (blk_cell HK12.out 1).trans rfl, (blk_cell HK12.out 2).trans rfl, hx12⟩ (fun hHeld => ?_)
                  clear hK K
                  refine norm_ (a' := ?_) ?_ ?_
                  rotate_left
                  · show Act.put _ (some 43) _ = _
                    simp only [Act.put, List.setIfInBounds_toArray, List.set_cons_zero, List.set_cons_succ, i64_w, i32_w]
                    rfl
                  refine pure_ (i := 10) (N := some 2) (v := ?_) (a' := ?_) #[true, true, true, true, true, true, true, true, true, true, true] rfl rfl (by kernel_rfl) (fun _ _ _ h => h) (Or.inl ⟨by rfl, ?_⟩) ?_ ?_
                  rotate_left
                  · intro w'
                    go_simp
                    with_reducible rfl
                  rotate_left
                  · simp only [Act.put, List.setIfInBounds_toArray, List.set_cons_zero, List.set_cons_succ, i64_w, i32_w]
                    rfl
                  refine done_ (by kernel_rfl) ?_
                  go_wp2_with fail
                  have hkw : wrap64 ((k : Int) + 1) = ((k + 1 : Nat) : Int) := by have := HKL.out; have := HRP.out; unfold wrap64; omega
                  rw [hkw]
                  refine ⟨⟨k + 1, rfl, HKL.out.1, ⟨⟨HR12.out, HP12.out, ?_, HB12.out, Nat.le_trans HI.out.sz HZ12.out⟩⟩⟩, by have := HKL.out; simp only [intOf]; omega⟩
                  rw [HFA.out, ← List.append_assoc]
                  exact HO12.out
                · obtain rfl : k = rs.length := by omega
                  have hd : decide ((rs.length : Int) < (rs.length : Int)) = false := by simp
                  clear hk hkl
                  go_wp2_with fail
                  have hiw : wrap64 ((i : Int) + 1) = ((i + 1 : Nat) : Int) := by
                    have := HLT.out
                    have h2 := HC.out.1.2.1
                    unfold wrap64; omega
                  rw [hiw]
                  have hout := HI.out.out
                  rw [List.take_length, HRP.out.1, List.take_length] at hout
                  refine ⟨⟨i + 1, acc ++ foundAt i rs ps, rfl, HLT.out.1, ⟨Kd.S_mono hout (fun _ _ => trivial)⟩, ⟨HI.out.bel⟩, ⟨?_⟩, ⟨?_⟩⟩, by have := HLT.out; simp only [intOf]; omega⟩
                  · have h1 := foundAt_len i rs ps
                    have h2 := HRP.out.2
                    rw [List.length_append]; omega
                  · rw [HFS.out]; exact HF.out
            · cases hfs
      · obtain rfl : i = l0_1.length := by omega
        have h := HR.out
        rw [List.drop_eq_nil_of_le (Nat.le_refl _)] at h
        simp only [allL] at h
        split at h
        · rename_i h20
          obtain ⟨rfl, rfl⟩ := Prod.mk.inj (Option.some.inj h)
          obtain ⟨A2, c2, rfl⟩ := Kd.S_slice HO.out
          obtain ⟨f, hf⟩ := HO.out
          have HSO := Aside0.mk (sortStable_calls f w.heap.size acc.length c2 A2 (fun _ => True) acc.zipIdx wr hf h20)
          have HBS := Aside0.mk (Kd.S_base HO.out)
          clear h hf h20 hi hlt
          go_wp2_with fail
          refine HSO.out.mono ?_
          rintro e w5 ⟨rfl, hR5, hfar, hb5⟩
          have HR5 := Aside0.mk (sortF_S hR5)
          have HB5 := Aside0.mk (below_far0 HB.out hb5 (fun k hk => hfar k (Nat.lt_of_lt_of_le hk HB.out.size) (fun he => by have := HBS.out k he.symm; omega)))
          clear hR5 hfar hb5
          go_wp2
          refine bodyPost_ret (results_tmp2 rfl _ _ _) rfl ?_
          exact ⟨_, rfl, HR5.out, HB5.out⟩
        · cases h
theorem log_All.calls (a0_0 : Int) (A0_1 : Option Addr) (c0_1 : Nat) (l0_1 : List (S52)) (a0_2 : Int) (a0_3 : Bool) (a0_4 : Int) (r1 : List (S42)) (r2 : Int) (w : World) (hr0_1 : Kd.C k52 w A0_1 l0_1.length l0_1) (hc0_1 : l0_1.length ≤ c0_1) (h : log_All.f a0_0 l0_1 a0_2 a0_3 a0_4 = some (r1, r2)) :
    Calls Try.prog 25 #[.agg #[.int .i64 a0_0, .slice A0_1 l0_1.length c0_1, .int .i64 a0_2, .bool a0_3, .int .i64 a0_4]] w fun e w' => ∃ v0_ : Value, e = .returned (.tuple #[v0_, .int .i64 r2]) ∧ Kd.S k42 42 w' w.heap.size (fun _ => True) v0_ r1 ∧ Below w.heap.size w w' :=
  log_All.walk_ a0_0 A0_1 c0_1 l0_1 a0_2 a0_3 a0_4 r1 r2 w hr0_1 hc0_1 h
end Go.Proofs.Ytdgefplbfffenaa.X
namespace Go.Proofs.Ytdgefplbfffenaa.X
open Go.RowKit Go.Shelf Go.Proofs.YtdgefplbfffenaaW.PrintWords Go.Proofs.YtdgefplbfffenaaW.PrintLast Go.Proofs.YtdgefplbfffenaaW.PrintMore
def z40 : List Int := List.replicate 40 0
def d0 : List S52 := [⟨0, 0, [], 0⟩, ⟨0, 0, [], 0⟩]
def A1 := log_Append.f 1000 100 d0 (-1) false 0 [⟨1, 5, z40⟩, ⟨1, 6, z40⟩]
def x1 : List S52 := match A1 with | some r => r.2.1 | none => []
def A2 := log_Append.f 1000 100 x1 (-1) false 2 [⟨1, 5, z40⟩]
def y1 : List S52 := match A2 with | some r => r.2.1 | none => []
def A3 := log_All.f 100 x1 (-1) false 2
def l1 : List S42 := match A3 with | some r => r.1 | none => []
def A4 := log_Run.f l1 5
def r5 : List S36 := match A4 with | some r => r | none => []
set_option maxRecDepth 100000
theorem v0 : dev_New.f 2 100 = some (100, d0, -1, false, 0, 0) := by rfl
theorem v1 : A1 = some (100, x1, -1, false, 2, [(0, 0), (4607182418800017408, 0)], 0) := by
  have h : (match A1 with | some r => decide (r.1 = 100) && decide (r.2.2.1 = -1) && decide (r.2.2.2.1 = false) && decide (r.2.2.2.2.1 = 2) && decide (r.2.2.2.2.2.1 = [(0, 0), (4607182418800017408, 0)]) && decide (r.2.2.2.2.2.2 = 0) | none => false) = true := by decide +kernel
  unfold x1
  cases hA : A1 with
  | none => rw [hA] at h; cases h
  | some r =>
    rw [hA] at h
    obtain ⟨r1, r2, r3, r4, r5, r6, r7⟩ := r
    simp only [Bool.and_eq_true, decide_eq_true_eq] at h
    obtain ⟨⟨⟨⟨⟨rfl, rfl⟩, rfl⟩, rfl⟩, rfl⟩, rfl⟩ := h
    rfl
theorem v2 : A2 = some (100, y1, -1, false, 2, [], 60) := by
  have h : (match A2 with | some r => decide (r.1 = 100) && decide (r.2.2.1 = -1) && decide (r.2.2.2.1 = false) && decide (r.2.2.2.2.1 = 2) && decide (r.2.2.2.2.2.1 = []) && decide (r.2.2.2.2.2.2 = 60) | none => false) = true := by decide +kernel
  unfold y1
  cases hA : A2 with
  | none => rw [hA] at h; cases h
  | some r =>
    rw [hA] at h
    obtain ⟨r1, r2, r3, r4, r5, r6, r7⟩ := r
    simp only [Bool.and_eq_true, decide_eq_true_eq] at h
    obtain ⟨⟨⟨⟨⟨rfl, rfl⟩, rfl⟩, rfl⟩, rfl⟩, rfl⟩ := h
    rfl
theorem v3 : A3 = some (l1, 0) := by
  have h : (match A3 with | some r => decide (r.2 = 0) | none => false) = true := by decide +kernel
  unfold l1
  cases hA : A3 with
  | none => rw [hA] at h; cases h
  | some r =>
    rw [hA] at h
    obtain ⟨r1, r2⟩ := r
    obtain rfl := of_decide_eq_true h
    rfl
theorem v4 : A4 = some r5 := by
  have h : A4.isSome = true := by decide +kernel
  unfold r5
  cases hA : A4 with
  | none => rw [hA] at h; cases h
  | some r => rfl
theorem v4n : r5.length = 2 := by decide +kernel
theorem v5 : log_Run.f l1 4 = some [] := by
  have h : (match log_Run.f l1 4 with | some r => decide (r.length = 0) | none => false) = true := by decide +kernel
  cases hA : log_Run.f l1 4 with
  | none => rw [hA] at h; cases h
  | some r => rw [hA] at h; rw [List.eq_nil_of_length_eq_zero (of_decide_eq_true h)]
theorem vl1 : l1.length = 2 ∧ (l1.getD 1 z42).f0.f1 = 6 := by decide +kernel
theorem v6 : ∃ c, log_Place.f 1000 100 x1 (-1) false 2 40 = some (0, c, 0) ∧ c.length = 0 := by
  have h : (match log_Place.f 1000 100 x1 (-1) false 2 40 with | some r => decide (r.1 = 0) && decide (r.2.1.length = 0) && decide (r.2.2 = 0) | none => false) = true := by decide +kernel
  cases hA : log_Place.f 1000 100 x1 (-1) false 2 40 with
  | none => rw [hA] at h; cases h
  | some r =>
    rw [hA] at h
    obtain ⟨r1, r2, r3⟩ := r
    simp only [Bool.and_eq_true, decide_eq_true_eq] at h
    obtain ⟨⟨rfl, h2⟩, rfl⟩ := h
    exact ⟨_, rfl, h2⟩
theorem v7 : ∃ z c, log_Place.f 1000 100 x1 (-1) false 2 101 = some (z, c, 1) := by
  have h : (match log_Place.f 1000 100 x1 (-1) false 2 101 with | some r => decide (r.2.2 = 1) | none => false) = true := by decide +kernel
  cases hA : log_Place.f 1000 100 x1 (-1) false 2 101 with
  | none => rw [hA] at h; cases h
  | some r =>
    rw [hA] at h
    obtain ⟨r1, r2, r3⟩ := r
    obtain rfl := of_decide_eq_true h
    exact ⟨_, _, rfl⟩
theorem v8 : log_Empty.f 1000 100 x1 (-1) false 2 = some 0 := by decide +kernel
theorem v9 : log_Empty.f 1000 100 d0 (-1) false 0 = some 2 := by decide +kernel
end Go.Proofs.Ytdgefplbfffenaa.X
namespace Go.Proofs.Ytdgefplbfffenaa.X
open Go.RowKit Go.Shelf Go.Proofs.YtdgefplbfffenaaW.PrintWords Go.Proofs.YtdgefplbfffenaaW.PrintLast Go.Proofs.YtdgefplbfffenaaW.PrintMore
section
theorem box_after {W W' : World} {o : Obj} (hb : Below (W.alloc o).heap.size (W.alloc o) W') : W'.heap[W.heap.size]? = some o := (hb.block _ (by simp)).trans (blk_new _ _)
theorem C_two {W : World} {b cb : Nat} {Ab : Option Addr} (h : W.heap[b]? = some (.cells #[.int .i64 1, .int .i64 5, .slice Ab z40.length cb, .int .i64 1, .int .i64 6, .slice Ab z40.length cb] 36 (0, 0))) (hC : (Kd.int .u8).C W Ab z40.length z40) (hl : z40.length ≤ cb) :
    Kd.C k36 W (some ⟨b, 0, none⟩) ([⟨1, 5, z40⟩, ⟨1, 6, z40⟩] : List S36).length [⟨1, 5, z40⟩, ⟨1, 6, z40⟩] := by
  refine ⟨rfl, by decide, fun _ => ⟨_, rfl, fun j p hj => ?_⟩⟩
  rcases j with _ | _ | j
  · obtain rfl := Option.some.inj hj
    refine ⟨_, rfl, k36_mk W _ hl hC, fun i u hi => ?_⟩
    rcases i with _ | _ | _ | i
    · rw [← Option.some.inj hi]; exact (blk_cell h 0).trans rfl
    · rw [← Option.some.inj hi]; exact (blk_cell h 1).trans rfl
    · rw [← Option.some.inj hi]; exact (blk_cell h 2).trans rfl
    · cases hi
  · obtain rfl := Option.some.inj hj
    refine ⟨_, rfl, k36_mk W _ hl hC, fun i u hi => ?_⟩
    rcases i with _ | _ | _ | i
    · rw [← Option.some.inj hi]; exact (blk_cell h 3).trans rfl
    · rw [← Option.some.inj hi]; exact (blk_cell h 4).trans rfl
    · rw [← Option.some.inj hi]; exact (blk_cell h 5).trans rfl
    · cases hi
  · cases hj
theorem C_one {W : World} {b cb : Nat} {Ab : Option Addr} (h : W.heap[b]? = some (.cells #[.int .i64 1, .int .i64 5, .slice Ab z40.length cb] 36 (0, 0))) (hC : (Kd.int .u8).C W Ab z40.length z40) (hl : z40.length ≤ cb) :
    Kd.C k36 W (some ⟨b, 0, none⟩) ([⟨1, 5, z40⟩] : List S36).length [⟨1, 5, z40⟩] := by
  refine ⟨rfl, by decide, fun _ => ⟨_, rfl, fun j p hj => ?_⟩⟩
  rcases j with _ | j
  · obtain rfl := Option.some.inj hj
    refine ⟨_, rfl, k36_mk W _ hl hC, fun i u hi => ?_⟩
    rcases i with _ | _ | _ | i
    · rw [← Option.some.inj hi]; exact (blk_cell h 0).trans rfl
    · rw [← Option.some.inj hi]; exact (blk_cell h 1).trans rfl
    · rw [← Option.some.inj hi]; exact (blk_cell h 2).trans rfl
    · cases hi
  · cases hj
theorem blk_newA (W : World) (o1 o2 : Obj) : ((W.alloc o1).alloc o2).heap[W.heap.size + 1]? = some o2 := by
  have h := blk_new (W.alloc o1) o2
  rwa [show (W.alloc o1).heap.size = W.heap.size + 1 by simp] at h
theorem blk_newB (W : World) (o1 o2 o3 : Obj) : (((W.alloc o1).alloc o2).alloc o3).heap[W.heap.size + 1 + 1]? = some o3 := by
  have h := blk_new ((W.alloc o1).alloc o2) o3
  rwa [show ((W.alloc o1).alloc o2).heap.size = W.heap.size + 1 + 1 by simp] at h
theorem cx_cell0 {w : World} {g n : Nat} {xs : List Cx} (h : Kd.C kCx w (some ⟨g, 0, none⟩) n xs) (h1 : 0 < n) : w.cell? ⟨g, 0, none⟩ = some (encCx (xs.getD 0 (0, 0))) := by
  obtain ⟨ad, c, he, _, hK, hc⟩ := Kd.C_get h (0, 0) 0 (by omega) (by omega)
  injection he with he
  subst he
  obtain rfl : c = [encCx (xs.getD 0 (0, 0))] := hK
  exact hc 0 _ rfl
theorem cx_cell1 {w : World} {g n : Nat} {xs : List Cx} (h : Kd.C kCx w (some ⟨g, 0, none⟩) n xs) (h1 : 1 < n) : w.cell? ⟨g, 1, none⟩ = some (encCx (xs.getD 1 (0, 0))) := by
  obtain ⟨ad, c, he, _, hK, hc⟩ := Kd.C_get h (0, 0) 1 (by omega) (by omega)
  injection he with he
  subst he
  obtain rfl : c = [encCx (xs.getD 1 (0, 0))] := hK
  exact hc 0 _ rfl
theorem l_cell {w : World} {g n : Nat} {xs : List S42} (h : Kd.C k42 w (some ⟨g, 0, none⟩) n xs) (h1 : 1 < n) : w.cell? ⟨g, 6, none⟩ = some (.int .i64 (xs.getD 1 z42).f0.f1) := by
  obtain ⟨ad, A2, c2, he, _, hx, _⟩ := at_T42 h 1 (by omega) (by omega)
  injection he with he
  subst he
  exact hx
attribute [local go_sem] Oper.semAt_some
set_option maxRecDepth 100000 in
set_option maxHeartbeats 400000 in
theorem awake06_walk_ (d0 x1 y1 : List S52) (l1 : List S42) (r5 : List S36) (c6 : List S56) (z7 : Int) (c7 : List S56) (w : World)
    (v0 : dev_New.f 2 100 = some (100, d0, -1, false, 0, 0)) (v1 : log_Append.f 1000 100 d0 (-1) false 0 [⟨1, 5, z40⟩, ⟨1, 6, z40⟩] = some (100, x1, -1, false, 2, [(0, 0), (4607182418800017408, 0)], 0))
    (v2 : log_Append.f 1000 100 x1 (-1) false 2 [⟨1, 5, z40⟩] = some (100, y1, -1, false, 2, [], 60)) (v3 : log_All.f 100 x1 (-1) false 2 = some (l1, 0)) (hc6 : log_Place.f 1000 100 x1 (-1) false 2 40 = some (0, c6, 0)) (hc6l : c6.length = 0)
    (hc7 : log_Place.f 1000 100 x1 (-1) false 2 101 = some (z7, c7, 1)) (vl1 : l1.length = 2) (vl2 : (l1.getD 1 z42).f0.f1 = 6) (v4 : log_Run.f l1 5 = some r5) (v4n : r5.length = 2) (v5 : log_Run.f l1 4 = some []) (v8 : log_Empty.f 1000 100 x1 (-1) false 2 = some 0) (v9 : log_Empty.f 1000 100 d0 (-1) false 0 = some 2) : Calls Try.prog 15 #[] w fun e w' => e = .returned (.bool true) ∧ Below w.heap.size w w' := by
  have hu27 := Try.underlying27
  have hu36 := Try.underlying36
  have hu42 := Try.underlying42
  have HB := Aside0.mk (Below.refl w.heap.size w)
  have V0 := Aside0.mk v0
  have V1 := Aside0.mk v1
  have V2 := Aside0.mk v2
  have V3 := Aside0.mk v3
  have V4 := Aside0.mk v4
  have V5 := Aside0.mk v5
  have V8 := Aside0.mk v8
  have V9 := Aside0.mk v9
  have VC6 := Aside0.mk hc6
  have VC7 := Aside0.mk hc7
  have VC6L := Aside0.mk hc6l
  have VL1 := Aside0.mk vl1
  have VL2 := Aside0.mk vl2
  have V4N := Aside0.mk v4n
  clear v0 v1 v2 v3 v4 v5 v8 v9 hc6 hc7 hc6l vl1 vl2 v4n
  go_enter Try.func15, Try.ntmps15
  go_wp2_with (first | (go_at_call 11; (with_reducible refine (dev_New.calls 2 100 100 d0 (-1) false 0 0 _ V0.out).mono ?_); rintro e w1 ⟨v1_, rfl, hs, hb⟩; obtain ⟨Ad, cd, rfl⟩ : ∃ Ad cd, v1_ = .slice Ad d0.length cd := Kd.S_slice hs; have HC1 := Aside0.mk ((Kd.S_reads' hs).2.2); have HL1 := Aside0.mk ((Kd.S_reads' hs).2.1); have HB1 := Aside0.mk (HB.out.trans hb); clear hs hb) | ((with_reducible refine gate_dst (N := 23) rfl ?_); refine Kd.R_make (Kd.int .u8) (w0 := _) _ 5 rfl (N := 23) rfl 34 _ _ rfl 40 rfl rfl Try.underlying34 (.int .u8 0) 1 info5 rfl (by decide) (by omega) 0 (ok := fun _ => True) (okp := fun _ => True) rfl (fun _ h => h) trivial (by decide) (by decide) (Below.refl _ _) (Nat.le_refl _) ?_; intro v2_ w2 hm hb hg hown; rw [show List.replicate (40 : Int).toNat (0 : Int) = z40 from rfl] at hm; obtain ⟨Ab, cb, rfl⟩ := Kd.R_slice hm; have HC2 := Aside0.mk ((Kd.R_reads' hm).2.2); have HL2 := Aside0.mk ((Kd.R_reads' hm).2.1); have hbx := box_after hb; have hbx1 := blk_alloc (blk_alloc hbx (.cells #[.int .i64 1, .int .i64 5, .slice Ab z40.length cb] 36)) (.cells #[.int .i64 1, .int .i64 6, .slice Ab z40.length cb] 36); have p0 := (blk_cell hbx1 0).trans rfl; have p1 := (blk_cell hbx1 1).trans rfl; have p2 := (blk_cell hbx1 2).trans rfl; have p3 := (blk_cell hbx1 3).trans rfl; have p4 := (blk_cell hbx1 4).trans rfl; have HX1 := Aside0.mk hbx; have HB2 := Aside0.mk (below_step (below_alloc (Below.refl _ _) _) hb); clear hbx hbx1; clear hm hb hg hown))
  (go_at_call 12; refine (log_Append.calls 1000 100 Ad cd d0 (-1) false 0 (some ⟨_, 0, none⟩) 2 [⟨1, 5, z40⟩, ⟨1, 6, z40⟩] 100 x1 (-1) false 2 [(0, 0), (4607182418800017408, 0)] 0 _ ?s1 HL1.out ?s3 (by decide) V1.out).mono ?_; (case s1 => exact Kd.C_alloc (Kd.C_alloc (Kd.C_alloc (Kd.C_below HC1.out HB2.out) _) _) _); (case s3 => exact C_two (blk_newB _ _ _ _) (Kd.C_alloc (Kd.C_alloc (Kd.C_alloc HC2.out _) _) _) HL2.out); rintro e w3 ⟨v3_, u3_, rfl, hs, hp, hb⟩; obtain ⟨Ax, cx, rfl⟩ := Kd.V_slice hs; obtain ⟨gp, cp, rfl, _, _, _⟩ := Kd.R_form hp (by decide); have HXA3 := Aside0.mk (blk_below (blk_alloc (blk_alloc (blk_alloc (HX1.out) _) _) _) hb); have hx3 := blk_below (blk_alloc (blk_alloc (blk_new w2 (.cells #[.int .i64 1, .int .i64 5, .slice Ab z40.length cb] 36)) (.cells #[.int .i64 1, .int .i64 6, .slice Ab z40.length cb] 36)) (.cells #[.int .i64 1, .int .i64 5, .slice Ab z40.length cb, .int .i64 1, .int .i64 6, .slice Ab z40.length cb] 36)) hb; have HX3 := Aside0.mk hx3; have HCd3 := Aside0.mk (Kd.C_below (Kd.C_alloc (Kd.C_alloc (Kd.C_alloc (Kd.C_below HC1.out HB2.out) _) _) _) hb); have HCb3 := Aside0.mk (Kd.C_below (Kd.C_alloc (Kd.C_alloc (Kd.C_alloc (HC2.out) _) _) _) hb); have HCx3 := Aside0.mk (Kd.V_reads' hs).2.2; have HLx := Aside0.mk (Kd.V_reads' hs).2.1; have HCp3 := Aside0.mk (Kd.R_reads' hp).2.2; have HB3 := Aside0.mk (HB1.out.trans (HB2.out.mono HB1.out.size)); have HB3b := Aside0.mk (below_step (below_alloc (below_alloc (below_alloc HB3.out _) _) _) hb); clear HB3; clear p0 p1 p2 p3 p4; have hx3a := blk_alloc hx3 (.cells #[.int .i64 100, .slice Ax x1.length cx, .int .i64 (-1), .bool false, .int .i64 2] 27); have q0 := (blk_cell hx3a 0).trans rfl; have q1 := (blk_cell hx3a 1).trans rfl; have q2 := (blk_cell hx3a 2).trans rfl; clear hx3a hx3 hs hp hb HB1 HB2 HC1 HC2 HX1)
  go_wp2_with fail
  (go_at_call 12; refine (log_Append.calls 1000 100 Ax cx x1 (-1) false 2 (some ⟨_, 0, none⟩) 1 [⟨1, 5, z40⟩] 100 y1 (-1) false 2 [] 60 _ ?s1 HLx.out ?s3 (by decide) V2.out).mono ?_; (case s1 => exact Kd.C_alloc (Kd.C_alloc HCx3.out _) _); (case s3 => exact C_one (blk_newA _ _ _) (Kd.C_alloc (Kd.C_alloc HCb3.out _) _) HL2.out); rintro e w4 ⟨v4_, u4_, rfl, hs, hp, hb⟩; obtain ⟨Ay, cy, rfl⟩ := Kd.V_slice hs; obtain ⟨Aq, cq, rfl⟩ := Kd.R_slice hp; have HXA4 := Aside0.mk (blk_below (blk_alloc (blk_alloc (HXA3.out) _) _) hb); have hx5 := blk_below (blk_alloc (blk_new w3 (.cells #[.int .i64 100, .slice Ax x1.length cx, .int .i64 (-1), .bool false, .int .i64 2] 27)) (.cells #[.int .i64 1, .int .i64 5, .slice Ab z40.length cb] 36)) hb; have HX5 := Aside0.mk hx5; have HCd4 := Aside0.mk (Kd.C_below (Kd.C_alloc (Kd.C_alloc (HCd3.out) _) _) hb); have HCx4 := Aside0.mk (Kd.C_below (Kd.C_alloc (Kd.C_alloc (HCx3.out) _) _) hb); have HCp4 := Aside0.mk (Kd.C_below (Kd.C_alloc (Kd.C_alloc (HCp3.out) _) _) hb); have HB4 := Aside0.mk (below_step (below_alloc (below_alloc HB3b.out _) _) hb); clear q0 q1 q2; have hx5a := blk_alloc hx5 (.cells #[.int .i64 100, .slice Ay y1.length cy, .int .i64 (-1), .bool false, .int .i64 2] 27); have q0 := (blk_cell hx5a 0).trans rfl; have q1 := (blk_cell hx5a 1).trans rfl; have q2 := (blk_cell hx5a 2).trans rfl; have q3 := (blk_cell hx5a 3).trans rfl; have q4 := (blk_cell hx5a 4).trans rfl; clear hx5a hx5 hs hp hb HB3b HXA3 HX3 HCd3 HCb3 HCx3 HCp3)
  go_wp2_with fail
  (go_at_call 25; refine (log_All.calls 100 Ax cx x1 (-1) false 2 l1 0 _ ?s1 HLx.out V3.out).mono ?_; (case s1 => exact Kd.C_alloc HCx4.out _); rintro e w5 ⟨v5_, rfl, hs, hb⟩; obtain ⟨gl, cl, hv, _, _, _⟩ := Kd.R_form (Kd.S_R hs) (by have := VL1.out; omega); have hC := (Kd.S_reads' (hv ▸ hs)).2; rw [VL1.out] at hv; subst hv; have HCl5 := Aside0.mk hC.2; have HLl : Aside0 (2 ≤ cl) := ⟨by have := hC.1; rwa [VL1.out] at this⟩; have HXA5 := Aside0.mk (blk_below (blk_alloc (HXA4.out) _) hb); have hx5 := blk_below (blk_alloc (HX5.out) _) hb; have HX5b := Aside0.mk hx5; have HCd5 := Aside0.mk (Kd.C_below (Kd.C_alloc (HCd4.out) _) hb); have HCx5 := Aside0.mk (Kd.C_below (Kd.C_alloc (HCx4.out) _) hb); have HCp5 := Aside0.mk (Kd.C_below (Kd.C_alloc (HCp4.out) _) hb); have HB5 := Aside0.mk (below_step (below_alloc HB4.out _) hb); clear q0 q1 q2 q3 q4; have q0 := (blk_cell hx5 0).trans rfl; have q1 := (blk_cell hx5 1).trans rfl; have q2 := (blk_cell hx5 2).trans rfl; have q3 := (blk_cell hx5 3).trans rfl; have q4 := (blk_cell hx5 4).trans rfl; clear hx5 hs hb hC HXA4 HX5 HCd4 HCx4 HCp4 HB4)
  go_wp2_with fail
  (go_at_call 41; refine (log_Place.calls 1000 100 Ax cx x1 (-1) false 2 40 0 c6 0 _ HCx5.out HLx.out VC6.out).mono ?_; rintro e w6 ⟨v6_, rfl, hs, hb⟩; obtain ⟨A6, d6, hv⟩ := Kd.S_slice hs; rw [VC6L.out] at hv; subst hv; have HXA6 := Aside0.mk (blk_below (HXA5.out) hb); have hx5 := blk_below (HX5b.out) hb; have HX6 := Aside0.mk hx5; have HCd6 := Aside0.mk (Kd.C_below (HCd5.out) hb); have HCx6 := Aside0.mk (Kd.C_below (HCx5.out) hb); have HCp6 := Aside0.mk (Kd.C_below (HCp5.out) hb); have HCl6 := Aside0.mk (Kd.C_below (HCl5.out) hb); have HB6 := Aside0.mk (below_step HB5.out hb); clear q0 q1 q2 q3 q4; have q0 := (blk_cell hx5 0).trans rfl; have q1 := (blk_cell hx5 1).trans rfl; have q2 := (blk_cell hx5 2).trans rfl; have q3 := (blk_cell hx5 3).trans rfl; have q4 := (blk_cell hx5 4).trans rfl; clear hx5 hs hb HXA5 HX5b HCd5 HCx5 HCp5 HCl5 HB5)
  go_wp2_with fail
  (go_at_call 41; refine (log_Place.calls 1000 100 Ax cx x1 (-1) false 2 101 z7 c7 1 _ HCx6.out HLx.out VC7.out).mono ?_; rintro e w7 ⟨v7_, rfl, hs, hb⟩; obtain ⟨A7, d7, rfl⟩ := Kd.S_slice hs; have HXA7 := Aside0.mk (blk_below (HXA6.out) hb); have hx5 := blk_below (HX6.out) hb; have HX7 := Aside0.mk hx5; have HCd7 := Aside0.mk (Kd.C_below (HCd6.out) hb); have HCx7 := Aside0.mk (Kd.C_below (HCx6.out) hb); have HCp7 := Aside0.mk (Kd.C_below (HCp6.out) hb); have HCl7 := Aside0.mk (Kd.C_below (HCl6.out) hb); have HB7 := Aside0.mk (below_step HB6.out hb); clear q0 q1 q2 q3 q4; have e0 : w7.cell? ⟨gp, 0, none⟩ = some (.complex .f64 0 0) := cx_cell0 HCp7.out (by simp); have e1 : w7.cell? ⟨gp, 1, none⟩ = some (.complex .f64 4607182418800017408 0) := cx_cell1 HCp7.out (by simp); have hl2 : 1 < l1.length := VL1.out ▸ Nat.lt_succ_self 1; have e2 : w7.cell? ⟨gl, 6, none⟩ = some (.int .i64 6) := (l_cell HCl7.out hl2).trans (congrArg (fun z => some (Value.int .i64 z)) VL2.out); clear hl2;  clear hx5 hs hb HXA6 HX6 HCd6 HCx6 HCp6 HCl6 HB6)
  go_wp2_with fail
  (go_at_call 17; have hr_ := log_Run.calls (some ⟨gl, 0, none⟩) cl l1 5 r5 w7 HCl7.out (by rw [VL1.out]; exact HLl.out) V4.out; rw [VL1.out] at hr_; refine hr_.mono ?_; rintro e w8 ⟨v8_, rfl, hn, hb⟩; obtain ⟨A8, d8, hv⟩ := Kd.N_slice hn; rw [V4N.out] at hv; subst hv; clear e0 e1 e2; have HXA8 := Aside0.mk (blk_below (HXA7.out) hb); have hx5 := blk_below (HX7.out) hb; have HX8 := Aside0.mk hx5; have HCd8 := Aside0.mk (Kd.C_below (HCd7.out) hb); have HCx8 := Aside0.mk (Kd.C_below (HCx7.out) hb); have HCl8 := Aside0.mk (Kd.C_below (HCl7.out) hb); have HB8 := Aside0.mk (below_step HB7.out hb);  clear hx5 hn hb HXA7 HX7 HCd7 HCx7 HCl7 HB7)
  go_wp2_with fail
  (go_at_call 17; have hr_ := log_Run.calls (some ⟨gl, 0, none⟩) cl l1 4 [] w8 HCl8.out (by rw [VL1.out]; exact HLl.out) V5.out; rw [VL1.out] at hr_; refine hr_.mono ?_; rintro e w9 ⟨v9_, rfl, hn, hb⟩; obtain ⟨A9, d9, hv⟩ := Kd.N_slice hn; rw [List.length_nil] at hv; subst hv; have HXA9 := Aside0.mk (blk_below (HXA8.out) hb); have hx5 := blk_below (HX8.out) hb; have HX9 := Aside0.mk hx5; have HCd9 := Aside0.mk (Kd.C_below (HCd8.out) hb); have HCx9 := Aside0.mk (Kd.C_below (HCx8.out) hb); have HCl9 := Aside0.mk (Kd.C_below (HCl8.out) hb); have HB9 := Aside0.mk (below_step HB8.out hb); have q0 := (blk_cell hx5 0).trans rfl; have q1 := (blk_cell hx5 1).trans rfl; have q2 := (blk_cell hx5 2).trans rfl; have q3 := (blk_cell hx5 3).trans rfl; have q4 := (blk_cell hx5 4).trans rfl; clear hx5 hn hb HXA8 HX8 HCd8 HCx8 HCl8 HB8)
  go_wp2_with fail
  (go_at_call 13; refine (log_Empty.calls 1000 100 Ax cx x1 (-1) false 2 0 _ HCx9.out HLx.out V8.out).mono ?_; rintro e w10 ⟨rfl, hb⟩; have hx5 := blk_below (HXA9.out) hb; have HCd10 := Aside0.mk (Kd.C_below (HCd9.out) hb); have HB10 := Aside0.mk (below_step HB9.out hb); clear q0 q1 q2 q3 q4; have q0 := (blk_cell hx5 0).trans rfl; have q1 := (blk_cell hx5 1).trans rfl; have q2 := (blk_cell hx5 2).trans rfl; have q3 := (blk_cell hx5 3).trans rfl; have q4 := (blk_cell hx5 4).trans rfl; clear hx5 hb HB9 HCd9 HCx9 HXA9 HX9)
  go_wp2_with fail
  (go_at_call 13; refine (log_Empty.calls 1000 100 Ad cd d0 (-1) false 0 2 _ HCd10.out HL1.out V9.out).mono ?_; rintro e w11 ⟨rfl, hb⟩; have HB11 := Aside0.mk (below_step HB10.out hb); clear q0 q1 q2 q3 q4 hb HB10)
  go_wp2_with fail
  go_ret
  exact ⟨rfl, HB11.out⟩
end
/-- What the statement's head says. -/
def waggonerlaw06_awake.f : Option Bool := some true
theorem waggonerlaw06_awake.calls (r : Bool) (w : World) (h : waggonerlaw06_awake.f = some r) : Calls Try.prog 15 #[] w fun e w' => e = .returned (.bool r) ∧ Below w.heap.size w w' := by
  obtain rfl := Option.some.inj h
  obtain ⟨c6, h6, h6l⟩ := v6
  obtain ⟨z7, c7, h7⟩ := v7
  exact awake06_walk_ d0 x1 y1 l1 r5 c6 z7 c7 w v0 v1 v2 v3 h6 h6l h7 vl1.1 vl1.2 v4 v4n v5 v8 v9
end Go.Proofs.Ytdgefplbfffenaa.X
namespace Go.Proofs.Ytdgefplbfffenaa.X
open Go.RowKit Go.Proofs.YtdgefplbfffenaaW.PrintWords Go.Proofs.YtdgefplbfffenaaW.PrintLast Go.Proofs.YtdgefplbfffenaaW.PrintMore
attribute [local go_sem] max2_int min2_int max_two min_two max_three min_three max_four min_four   -- for this text's walks alone
set_option linter.unusedVariables false
set_option linter.unusedSimpArgs false
mutual
def waggonerlaw06_LogRuns.j0 : Nat → List (S42) → Int → Bool → Bool → Option (Bool)
  | 0, _, _, _, _ => none
  | k + 1, x0, x1, x5, x14 => if x14 = true then (some x5) else (waggonerlaw06_LogRuns.l0 k x0 x1 x5 0)
def waggonerlaw06_LogRuns.l0 : Nat → List (S42) → Int → Bool → Int → Option (Bool)
  | 0, _, _, _, _ => none
  | k + 1, x0, x1, x5, x6 => if x6 < (x0.length : Int) then (if 0 ≤ x6 then (if (((rd_T42 x0 x6).f0.f2).length : Int) > 300 then (some x5) else (waggonerlaw06_LogRuns.l0 k x0 x1 x5 (wrap64 (x6 + 1)))) else (none)) else (if x5 = true then ((log_Run.f x0 x1).bind fun t272 => ((waggonerref06_Run.f k x0 x1).bind fun t275 => ((waggonerref05_All.f k t272 t275).bind fun t278 => (some t278)))) else (some false))
end
def waggonerlaw06_LogRuns.f (k : Nat) (l0 : List (S42)) (a1 : Int) : Option (Bool) := (waggonerlaw06_awake.f).bind fun t270 => (if (l0.length : Int) > 100 then (waggonerlaw06_LogRuns.j0 k l0 a1 t270 true) else (waggonerlaw06_LogRuns.j0 k l0 a1 t270 (decide (a1 > 4611686018427387904))))
set_option maxHeartbeats 8000000 in
set_option maxRecDepth 100000 in
theorem waggonerlaw06_LogRuns.calls (k : Nat) (A0 : Option Addr) (c0 : Nat) (l0 : List (S42)) (a1 : Int) (r : Bool) (w : World) (hr0 : Kd.C k42 w A0 l0.length l0) (hc0 : l0.length ≤ c0) (h : waggonerlaw06_LogRuns.f k l0 a1 = some r) :
    Calls Try.prog 4 #[.slice A0 l0.length c0, .int .i64 a1] w fun e w' => e = .returned (.bool r) ∧ Below w.heap.size w w' := by
  have HR0 := Aside0.mk hr0
  have HC0 := Aside0.mk hc0
  clear hr0 hc0
  have HB := Aside0.mk (Below.refl w.heap.size w)
  have H : ((waggonerlaw06_awake.f).bind fun t270 => (if (l0.length : Int) > 100 then (waggonerlaw06_LogRuns.j0 k l0 a1 t270 true) else (waggonerlaw06_LogRuns.j0 k l0 a1 t270 (decide (a1 > 4611686018427387904))))) = some r := h
  clear h
  replace H := Option.bind_eq_some_iff.mp H
  obtain ⟨t270, A30, H⟩ := H
  replace H : (if (l0.length : Int) > 100 then (waggonerlaw06_LogRuns.j0 k l0 a1 t270 true) else (waggonerlaw06_LogRuns.j0 k l0 a1 t270 (decide (a1 > 4611686018427387904)))) = some r := H
  have A3 := Aside0.mk A30
  clear A30
  have HC4 := Aside0.mk H
  clear H
  go_enter Try.func4, Try.ntmps4
  go_upto_region 2 with (first | ((with_reducible refine gate_callee (f := 15) rfl ?_); refine goesL_ (some 7) rfl rfl Try.func15 (by kernel_rfl) rfl #[] rfl (by (try simp only [List.map_toArray, List.map_cons, List.map_nil]); first | done | rfl | (simp only [List.length_drop, List.length_take]; rfl)) ?_; (with_reducible refine (waggonerlaw06_awake.calls  t270 _ A3.out).mono ?_); rintro e w5 ⟨rfl, hb⟩; refine ⟨_, rfl, ?_⟩; have n0_ := Aside0.mk (below_step (by repeat (first | (with_reducible first | exact HB.out | apply below_alloc | apply pw_below_drewN | apply below_drew1) | exact HB.out)) hb); clear HB; have HB := n0_; clear n0_; (try clear hb); (try clear hb2); (try clear hk); (try clear hi)))
  (try simp only [Act.put, List.setIfInBounds_toArray, List.set_cons_zero, List.set_cons_succ])
  go_cut [14] (fun v14 wc => ∃ (kq : Nat) (x14_3 : Bool), v14 = .bool x14_3 ∧ Aside0 (waggonerlaw06_LogRuns.j0 kq l0 a1 t270 x14_3 = some r) ∧ Aside0 (kq ≤ k) ∧ Aside0 (Below w.heap.size w wc))
  case first =>
    have H := HC4.out
    clear HC4
    by_cases c6 : (l0.length : Int) > 100
    · rw [if_pos c6] at H
      have c6b0 : decide (100 < (l0.length : Int)) = true := decide_eq_true c6
      have c6b1 : decide (100 < l0.length) = true := decide_eq_true (by omega)
      clear c6
      (first | rw [c6b0] | (simp only [i64_w, i32_w]; rw [c6b0]) | skip)
      have H' := Aside0.mk H
      clear H
      go_wp2
      go_meet
      case rel => exact ⟨_, (true), (by first | rfl | (simp; done) | (simp [*]; done)), H', ⟨by first | omega | exact Nat.le_refl _⟩, ⟨by repeat (first | (with_reducible first | exact HB.out | apply below_alloc | apply pw_below_drewN | apply below_drew1) | exact HB.out)⟩⟩
    · rw [if_neg c6] at H
      have c6b0 : decide (100 < (l0.length : Int)) = false := decide_eq_false c6
      have c6b1 : decide (100 < l0.length) = false := decide_eq_false (by omega)
      clear c6
      (first | rw [c6b0] | (simp only [i64_w, i32_w]; rw [c6b0]) | skip)
      have H' := Aside0.mk H
      clear H
      go_wp2
      go_meet
      case rel => exact ⟨_, (decide (a1 > 4611686018427387904)), (by first | rfl | (simp; done) | (simp [*]; done)), H', ⟨by first | omega | exact Nat.le_refl _⟩, ⟨by repeat (first | (with_reducible first | exact HB.out | apply below_alloc | apply pw_below_drewN | apply below_drew1) | exact HB.out)⟩⟩
  case rest =>
    clear HC4
    try clear c1
    try clear p2
    try clear c4
    try clear c6
    try clear c6b0
    try clear c6b1
    obtain ⟨kq, x14_3, rfl, HA, HJ3, HB⟩ := hcut
    cases kq with
    | zero => exact absurd HA.out (by simp [waggonerlaw06_LogRuns.j0])
    | succ kj3 =>
      have H := HA.out
      clear HA
      simp only [waggonerlaw06_LogRuns.j0] at H
      by_cases c7 : x14_3 = true
      · subst c7
        have H1 : (some t270) = some r := by rw [if_pos rfl] at H; exact H
        clear H
        have H := H1
        clear H1
        obtain rfl := Option.some.inj H
        go_wp2
        go_ret
        exact ⟨by first | rfl | (simp [errW_none, errW_some] <;> rfl) | (simp [*, errW_none, errW_some] <;> rfl), by repeat (first | (with_reducible first | exact HB.out | apply below_alloc | apply pw_below_drewN | apply below_drew1) | exact HB.out)⟩
      · replace c7 := Bool.eq_false_iff.mpr c7
        subst c7
        have H1 : (waggonerlaw06_LogRuns.l0 kj3 l0 a1 t270 0) = some r := by rw [if_neg (show ¬ (false = true) by decide)] at H; exact H
        clear H
        have H := H1
        clear H1
        have H' := Aside0.mk H
        clear H
        go_wp2
        go_loopg [6] kj3 (fun kq v6 w' => ∃ (x6_2 : Int), v6 = .int .i64 x6_2 ∧ Aside0 (waggonerlaw06_LogRuns.l0 kq l0 a1 t270 x6_2 = some r) ∧ Aside0 (kq ≤ kj3) ∧ Aside0 (Below w.heap.size w w'))
        case atStart => exact ⟨(0), (by first | rfl | (simp; done) | (simp [*]; done)), H', ⟨Nat.le_refl _⟩, ⟨by repeat (first | (with_reducible first | exact HB.out | apply below_alloc | apply pw_below_drewN | apply below_drew1) | exact HB.out)⟩⟩
        case round =>
          clear H'
          try clear c1
          try clear p2
          try clear c4
          try clear c6
          try clear c6b0
          try clear c6b1
          try clear c7
          try clear p2
          obtain ⟨x6_2, rfl, HA, HK2, HB⟩ := hrel
          cases gk with
          | zero => exact absurd HA.out (by simp [waggonerlaw06_LogRuns.l0])
          | succ k2 =>
            have H := HA.out
            clear HA
            simp only [waggonerlaw06_LogRuns.l0] at H
            by_cases c8 : x6_2 < (l0.length : Int)
            · rw [if_pos c8] at H
              have c8b0 : decide (x6_2 < (l0.length : Int)) = true := decide_eq_true c8
              clear c8
              by_cases c9 : 0 ≤ x6_2
              · rw [if_pos c9] at H
                have c9b0 : decide (0 ≤ x6_2) = true := decide_eq_true c9
                clear c9
                by_cases c10 : (((rd_T42 l0 x6_2).f0.f2).length : Int) > 300
                · rw [if_pos c10] at H
                  have c10b0 : decide (300 < (((rd_T42 l0 x6_2).f0.f2).length : Int)) = true := decide_eq_true c10
                  have c10b1 : decide (300 < ((rd_T42 l0 x6_2).f0.f2).length) = true := decide_eq_true (by omega)
                  clear c10
                  obtain rfl := Option.some.inj H
                  have p271 : 0 ≤ (x6_2 : Int) := of_decide_eq_true (by first | (with_reducible assumption) | assumption)
                  have q271 : x6_2 < (l0.length : Int) := of_decide_eq_true (by first | (with_reducible assumption) | assumption)
                  obtain ⟨ad271, A271_2, c271_2, e271, hx271_0, hx271_1, hx271_2, hx271_3, hx271_4, hl271_2, hi271_2⟩ := at_T42 HR0.out x6_2 p271 q271
                  cases e271
                  replace hx271_0 := (HB.out.cell (World.block_lt_of_cell? w _ hx271_0)).trans hx271_0
                  replace hx271_1 := (HB.out.cell (World.block_lt_of_cell? w _ hx271_1)).trans hx271_1
                  replace hx271_2 := (HB.out.cell (World.block_lt_of_cell? w _ hx271_2)).trans hx271_2
                  replace hx271_3 := (HB.out.cell (World.block_lt_of_cell? w _ hx271_3)).trans hx271_3
                  replace hx271_4 := (HB.out.cell (World.block_lt_of_cell? w _ hx271_4)).trans hx271_4
                  have HR271_2 := Aside0.mk hi271_2
                  have HC271_2 := Aside0.mk hl271_2
                  clear hi271_2 hl271_2
                  replace p271 := eq_true p271
                  replace q271 := eq_true q271
                  go_wp2
                  go_ret
                  exact ⟨by first | rfl | (simp [errW_none, errW_some] <;> rfl) | (simp [*, errW_none, errW_some] <;> rfl), by repeat (first | (with_reducible first | exact HB.out | apply below_alloc | apply pw_below_drewN | apply below_drew1) | exact HB.out)⟩
                · rw [if_neg c10] at H
                  have c10b0 : decide (300 < (((rd_T42 l0 x6_2).f0.f2).length : Int)) = false := decide_eq_false c10
                  have c10b1 : decide (300 < ((rd_T42 l0 x6_2).f0.f2).length) = false := decide_eq_false (by omega)
                  clear c10
                  have H' := Aside0.mk H
                  clear H
                  have p271 : 0 ≤ (x6_2 : Int) := of_decide_eq_true (by first | (with_reducible assumption) | assumption)
                  have q271 : x6_2 < (l0.length : Int) := of_decide_eq_true (by first | (with_reducible assumption) | assumption)
                  obtain ⟨ad271, A271_2, c271_2, e271, hx271_0, hx271_1, hx271_2, hx271_3, hx271_4, hl271_2, hi271_2⟩ := at_T42 HR0.out x6_2 p271 q271
                  cases e271
                  replace hx271_0 := (HB.out.cell (World.block_lt_of_cell? w _ hx271_0)).trans hx271_0
                  replace hx271_1 := (HB.out.cell (World.block_lt_of_cell? w _ hx271_1)).trans hx271_1
                  replace hx271_2 := (HB.out.cell (World.block_lt_of_cell? w _ hx271_2)).trans hx271_2
                  replace hx271_3 := (HB.out.cell (World.block_lt_of_cell? w _ hx271_3)).trans hx271_3
                  replace hx271_4 := (HB.out.cell (World.block_lt_of_cell? w _ hx271_4)).trans hx271_4
                  have HR271_2 := Aside0.mk hi271_2
                  have HC271_2 := Aside0.mk hl271_2
                  clear hi271_2 hl271_2
                  replace p271 := eq_true p271
                  replace q271 := eq_true q271
                  go_wp2
                  go_roundg k2
                  case measure => have := HJ3.out; have := HK2.out; omega
                  case rel => exact ⟨(wrap64 (x6_2 + 1)), (by first | rfl | (simp; done) | (simp [*]; done)), H', ⟨by have := HJ3.out; have := HK2.out; omega⟩, ⟨by repeat (first | (with_reducible first | exact HB.out | apply below_alloc | apply pw_below_drewN | apply below_drew1) | exact HB.out)⟩⟩
              · rw [if_neg c9] at H
                exact absurd H (by simp)
            · rw [if_neg c8] at H
              have c8b0 : decide (x6_2 < (l0.length : Int)) = false := decide_eq_false c8
              clear c8
              by_cases c11 : t270 = true
              · subst c11
                have H1 : ((log_Run.f l0 a1).bind fun t272 => ((waggonerref06_Run.f k2 l0 a1).bind fun t275 => ((waggonerref05_All.f k2 t272 t275).bind fun t278 => (some t278)))) = some r := by rw [if_pos rfl] at H; exact H
                clear H
                have H := H1
                clear H1
                replace H := Option.bind_eq_some_iff.mp H
                obtain ⟨t272, A120, H⟩ := H
                replace H : ((waggonerref06_Run.f k2 l0 a1).bind fun t275 => ((waggonerref05_All.f k2 t272 t275).bind fun t278 => (some t278))) = some r := H
                have A12 := Aside0.mk A120
                clear A120
                replace H := Option.bind_eq_some_iff.mp H
                obtain ⟨t275, A130, H⟩ := H
                replace H : ((waggonerref05_All.f k2 t272 t275).bind fun t278 => (some t278)) = some r := H
                have A13 := Aside0.mk A130
                clear A130
                replace H := Option.bind_eq_some_iff.mp H
                obtain ⟨t278, A140, H⟩ := H
                replace H : (some t278) = some r := H
                have A14 := Aside0.mk A140
                clear A140
                obtain rfl := Option.some.inj H
                go_wp2_with (first | (go_at_call 17; (with_reducible refine (log_Run.calls _ _ l0 a1 t272 _ ?side1 ?side2 A12.out).mono ?_); (case side1 => repeat (first | exact (Kd.C_below HR0.out HB.out) | (with_reducible refine Kd.C_alloc ?_ _) | (with_reducible refine Kd.C_drewN ?_ _) | (with_reducible refine Kd.C_drew ?_))); (case side2 => exact HC0.out); rintro e w15 ⟨v273, rfl, ho0, hb⟩; have n0_ := Aside0.mk (Kd.N_lower (Kd.N_mono (ok' := fun k_ => True) ho0 (fun k_ hk_ => trivial)) (below_size (by repeat (first | (with_reducible first | exact HB.out | apply below_alloc | apply pw_below_drewN | apply below_drew1) | exact HB.out)))); have n1_ := Aside0.mk (below_step (by repeat (first | (with_reducible first | exact HB.out | apply below_alloc | apply pw_below_drewN | apply below_drew1) | exact HB.out)) hb); clear HB; have HO274 := n0_; have HB := n1_; clear n0_ n1_; (try clear hb); (try clear hb2); (try clear hk); (try clear hi); (try clear ho0)) | (go_at_call 18; (with_reducible refine (waggonerref06_Run.calls k2 (fun k_ => k_ < w.heap.size) _ _ l0 a1 t275 _ ?side1 A13.out).mono ?_); (case side1 => exact Kd.V_mk HC0.out (Kd.F_below (Kd.C_F k42_heap HR0.out) (by repeat (first | (with_reducible first | exact HB.out | apply below_alloc | apply pw_below_drewN | apply below_drew1) | exact HB.out)))); rintro e w16 ⟨v276, rfl, ho0, hb⟩; have n0_ := Aside0.mk (Kd.N_elder' (by (with_reducible repeat (first | apply Kd.N_alloc | apply Kd.N_drewN | apply Kd.N_drew)); exact HO274.out) (Kd.N_base ho0) hb); have n1_ := Aside0.mk (Kd.N_lower (Kd.N_mono (ok' := fun k_ => some k_ ≠ (v273 : Value).ownBlock) ho0 (fun k_ hk_ => Or.elim hk_ (fun hs_ => fun e_ => Nat.not_le.2 hs_ (Kd.N_base HO274.out k_ e_.symm)) (fun hn_ => (Kd.fresh' (Kd.N_lt (by (with_reducible repeat (first | apply Kd.N_alloc | apply Kd.N_drewN | apply Kd.N_drew)); exact HO274.out)) k_ hn_)))) (below_size (by repeat (first | (with_reducible first | exact HB.out | apply below_alloc | apply pw_below_drewN | apply below_drew1) | exact HB.out)))); have n2_ := Aside0.mk (below_step (by repeat (first | (with_reducible first | exact HB.out | apply below_alloc | apply pw_below_drewN | apply below_drew1) | exact HB.out)) hb); clear HO274; clear HB; have HO274 := n0_; have HO277 := n1_; have HB := n2_; clear n0_ n1_ n2_; (try clear hb); (try clear hb2); (try clear hk); (try clear hi); (try clear ho0); obtain ⟨Ao17, co17, eo17⟩ := Kd.N_slice HO274.out; subst eo17; obtain ⟨Ao18, co18, eo18⟩ := Kd.N_slice HO277.out; subst eo18) | (go_at_call 16; (with_reducible refine (waggonerref05_All.calls k2 _ _ t272 _ _ t275 t278 _ ?side1 ?side2 ?side3 ?side4 A14.out).mono ?_); (case side1 => repeat (first | exact (Kd.N_reads' HO274.out).2.2 | (with_reducible refine Kd.C_alloc ?_ _) | (with_reducible refine Kd.C_drewN ?_ _) | (with_reducible refine Kd.C_drew ?_))); (case side2 => exact (Kd.N_reads' HO274.out).2.1); (case side3 => repeat (first | exact (Kd.N_reads' HO277.out).2.2 | (with_reducible refine Kd.C_alloc ?_ _) | (with_reducible refine Kd.C_drewN ?_ _) | (with_reducible refine Kd.C_drew ?_))); (case side4 => exact (Kd.N_reads' HO277.out).2.1); rintro e w19 ⟨rfl, hb⟩; have n0_ := Aside0.mk (Kd.N_below (by (with_reducible repeat (first | apply Kd.N_alloc | apply Kd.N_drewN | apply Kd.N_drew)); exact HO274.out) hb); have n1_ := Aside0.mk (Kd.N_below (by (with_reducible repeat (first | apply Kd.N_alloc | apply Kd.N_drewN | apply Kd.N_drew)); exact HO277.out) hb); have n2_ := Aside0.mk (below_step (by repeat (first | (with_reducible first | exact HB.out | apply below_alloc | apply pw_below_drewN | apply below_drew1) | exact HB.out)) hb); clear HO274; clear HO277; clear HB; have HO274 := n0_; have HO277 := n1_; have HB := n2_; clear n0_ n1_ n2_; (try clear hb); (try clear hb2); (try clear hk); (try clear hi)))
                go_ret
                exact ⟨by first | rfl | (simp [errW_none, errW_some] <;> rfl) | (simp [*, errW_none, errW_some] <;> rfl), by repeat (first | (with_reducible first | exact HB.out | apply below_alloc | apply pw_below_drewN | apply below_drew1) | exact HB.out)⟩
              · replace c11 := Bool.eq_false_iff.mpr c11
                subst c11
                have H1 : (some false) = some r := by rw [if_neg (show ¬ (false = true) by decide)] at H; exact H
                clear H
                have H := H1
                clear H1
                obtain rfl := Option.some.inj H
                go_wp2
                go_ret
                exact ⟨by first | rfl | (simp [errW_none, errW_some] <;> rfl) | (simp [*, errW_none, errW_some] <;> rfl), by repeat (first | (with_reducible first | exact HB.out | apply below_alloc | apply pw_below_drewN | apply below_drew1) | exact HB.out)⟩
end Go.Proofs.Ytdgefplbfffenaa.X
namespace Go.Proofs.Ytdgefplbfffenaa.X
open Go.RowKit Go.Proofs.YtdgefplbfffenaaW.PrintWords
theorem up_of {α : Type} {f : Nat → Option α} (h : ∀ k, LeO (f k) (f (k + 1))) {k : Nat} {r : α} (hk : f k = some r) : ∀ n, f (k + n) = some r
  | 0 => hk
  | n + 1 => h (k + n) r (up_of h hk n)
theorem same_self (a b : Int) (l : List Int) : waggonerref05_Same.f a b l a b l = some true := by
  unfold waggonerref05_Same.f
  rw [if_pos rfl, if_pos rfl]
  simp
theorem all_self (xs : List S36) (h : xs.length ≤ 1000000) : ∀ (m i : Nat), xs.length - i ≤ m → i ≤ xs.length → waggonerref05_All.l0 (m + 1) xs xs (i : Int) = some true
  | m, i, hm, hi => by
    unfold waggonerref05_All.l0
    by_cases hl : i < xs.length
    · rw [if_pos (by omega), if_pos (by omega), if_pos (by omega), same_self]
      cases m with
      | zero => omega
      | succ m =>
        have hw : wrap64 ((i : Int) + 1) = ((i + 1 : Nat) : Int) := by unfold wrap64; omega
        rw [Option.bind_some, if_pos rfl, hw]
        exact all_self xs h m (i + 1) (by omega) (by omega)
    · rw [if_neg (by omega)]
def seqE (l : List S42) (j : Nat) : Int × Int × (Option Addr × Nat × Nat) × Int × Int := (0, (l.getD j z42).f0.f1, (none, 0, 0), 0, 0)
theorem find_succ (p : Nat → Bool) (i : Nat) : (List.range (i + 1)).find? p = ((List.range i).find? p).or (if p i then some i else none) := by
  rw [List.range_succ, List.find?_append, List.find?_singleton]
theorem ref_scan (l : List S42) (hl : l.length ≤ 1000000) (acc : List S36) (s : Int) (k : Nat) : ∀ (i : Nat) (x7 : Int), i ≤ l.length → waggonerref06_Run.l1 (k + i) l acc s x7 ((i : Int) - 1) = waggonerref06_Run.l1 k l acc s (match first? (seqE l) i s with | some j => (j : Int) | none => x7) (-1)
  | 0, x7, _ => rfl
  | i + 1, x7, h => by
    conv => lhs; unfold waggonerref06_Run.l1
    have e1 : ((i + 1 : Nat) : Int) - 1 = (i : Int) := by omega
    have hw : wrap64 ((i : Int) - 1) = (i : Int) - 1 := by unfold wrap64; omega
    rw [e1, if_pos (by omega), if_pos (by omega), if_pos (by omega), hw]
    have hrd : (rd_T42 l (i : Int)).f0.f1 = (l.getD i z42).f0.f1 := by unfold rd_T42; rw [Int.toNat_natCast]
    have hf := find_succ (fun j => (seqE l j).2.1 == s) i
    rw [hrd, show k.add i = k + i from rfl, ref_scan l hl acc s k i _ (by omega), ref_scan l hl acc s k i _ (by omega)]
    unfold first? at hf ⊢
    rw [hf]
    cases hq : List.find? (fun j => (seqE l j).2.1 == s) (List.range i) with
    | some j => split <;> rfl
    | none =>
      simp only [Option.none_or]
      by_cases hc : (l.getD i z42).f0.f1 = s
      · rw [if_pos hc]
        have : ((seqE l i).2.1 == s) = true := beq_iff_eq.2 hc
        rw [this]
        rfl
      · rw [if_neg hc]
        have : ((seqE l i).2.1 == s) = false := beq_eq_false_iff_ne.2 hc
        rw [this]
        rfl
theorem ref_run (l : List S42) (hl : l.length ≤ 1000000) : ∀ (f : Nat) (s : Int) (acc : List S36), meas (seqE l) l.length s ≤ f → -9223372036854775808 ≤ s → s + f ≤ 9223372036854775807 → acc.length + f ≤ 100000000 →
    ∃ K, waggonerref06_Run.l0 K l acc s = some (acc ++ (runJ (seqE l) l.length f s).map fun j => (l.getD j z42).f0)
  | f, s, acc, hm, h0, h1, h2 => by
    have hw : wrap64 ((l.length : Int) - 1) = (l.length : Int) - 1 := by unfold wrap64; omega
    cases hf : first? (seqE l) l.length s with
    | none =>
      refine ⟨1 + l.length + 1, ?_⟩
      have hr : runJ (seqE l) l.length f s = [] := by cases f with | zero => rfl | succ f => unfold runJ; rw [hf]
      unfold waggonerref06_Run.l0
      rw [hw, ref_scan l hl acc s 1 l.length (-1) (Nat.le_refl _), hf, hr]
      unfold waggonerref06_Run.l1
      rw [if_neg (by decide), if_pos (by decide), List.map_nil, List.append_nil]
    | some j =>
      obtain ⟨hj, hs, hlt⟩ := first_some hf
      cases f with
      | zero => omega
      | succ f =>
        obtain ⟨K, hK⟩ := ref_run l hl f (s + 1) (acc ++ [(l.getD j z42).f0]) (by omega) (by omega) (by omega) (by rw [List.length_append, List.length_singleton]; omega)
        refine ⟨(K + 1) + l.length + 1, ?_⟩
        have hw1 : wrap64 (s + 1) = s + 1 := by unfold wrap64; omega
        unfold waggonerref06_Run.l0
        rw [hw, ref_scan l hl acc s (K + 1) l.length (-1) (Nat.le_refl _), hf]
        dsimp only
        unfold waggonerref06_Run.l1
        have hrd : rd_T42 l (j : Int) = l.getD j z42 := by unfold rd_T42; rw [Int.toNat_natCast]
        rw [if_neg (by decide), if_neg (by omega), if_pos (by omega), if_pos (by omega), if_pos (by omega), hw1, hrd]
        refine hK.trans ?_
        conv => rhs; unfold runJ
        rw [hf, List.map_cons, List.append_assoc]
        rfl
theorem runs_end (l : List S42) (a : Int) (hl : l.length ≤ 100) (hs : seqsOk l = true) (h0 : -9223372036854775808 ≤ a) (h1 : a ≤ 4611686018427387904) :
    ∃ k, ((log_Run.f l a).bind fun t272 => ((waggonerref06_Run.f k l a).bind fun t275 => ((waggonerref05_All.f k t272 t275).bind fun t278 => (some t278)))) = some true := by
  have hr : log_Run.f l a = some (runL l l.length a) := by unfold log_Run.f; rw [if_pos ⟨by omega, hs, h0, by omega⟩]
  obtain ⟨K, hK⟩ := ref_run l (by omega) l.length a [] (meas_le _ _ _) h0 (by omega) (by rw [List.length_nil]; omega)
  rw [List.nil_append, runJ_runL l (seqE l) (fun _ => rfl)] at hK
  have hK' : waggonerref06_Run.f K l a = some (runL l l.length a) := hK
  have hlen : ∀ f s, (runL l f s).length ≤ f := by
    intro f
    induction f with
    | zero => intro s; exact Nat.le_refl 0
    | succ f ih =>
      intro s
      unfold runL
      split
      · exact Nat.zero_le _
      · rw [List.length_cons]; have := ih (s + 1); omega
  have hle := hlen l.length a
  have hA : waggonerref05_All.f (1000 + 1) (runL l l.length a) (runL l l.length a) = some true := by
    unfold waggonerref05_All.f
    rw [if_pos rfl]
    exact all_self _ (by omega) 1000 0 (by omega) (by omega)
  refine ⟨K + 1001, ?_⟩
  rw [hr, Option.bind_some, up_of (waggonerref06_Run.mono l a) hK' 1001, Option.bind_some]
  have h2 := up_of (f := fun k => waggonerref05_All.f k (runL l l.length a) (runL l l.length a)) (waggonerref05_All.mono _ _) hA K
  rw [show 1000 + 1 + K = K + 1001 by omega] at h2
  rw [h2]
  rfl
theorem runs_loop (l : List S42) (a : Int) (hl : l.length ≤ 100) (hs : seqsOk l = true) (h0 : -9223372036854775808 ≤ a) (h1 : a ≤ 4611686018427387904) : ∀ (m i : Nat), l.length - i = m → i ≤ l.length → ∃ k, waggonerlaw06_LogRuns.l0 k l a true (i : Int) = some true
  | m, i, hm, hi => by
    by_cases hlt : i < l.length
    · obtain ⟨k, hk⟩ := runs_loop l a hl hs h0 h1 (l.length - (i + 1)) (i + 1) rfl (by omega)
      refine ⟨k + 1, ?_⟩
      unfold waggonerlaw06_LogRuns.l0
      rw [if_pos (by omega), if_pos (by omega)]
      have hw : wrap64 ((i : Int) + 1) = ((i + 1 : Nat) : Int) := by unfold wrap64; omega
      split
      · rfl
      · rw [hw]; exact hk
    · obtain ⟨k, hk⟩ := runs_end l a hl hs h0 h1
      refine ⟨k + 1, ?_⟩
      unfold waggonerlaw06_LogRuns.l0
      rw [if_neg (by omega), if_pos rfl]
      exact hk
  termination_by m => m
theorem LogRuns_pure (l : List S42) (a : Int) (hs : seqsOk l = true) (h0 : -9223372036854775808 ≤ a) : ∃ k, waggonerlaw06_LogRuns.f k l a = some true := by
  unfold waggonerlaw06_LogRuns.f waggonerlaw06_awake.f
  by_cases hl : l.length ≤ 100
  · by_cases h1 : a ≤ 4611686018427387904
    · obtain ⟨k, hk⟩ := runs_loop l a hl hs h0 h1 _ 0 rfl (Nat.zero_le _)
      refine ⟨k + 1, ?_⟩
      rw [Option.bind_some, if_neg (by omega), decide_eq_false (by omega)]
      unfold waggonerlaw06_LogRuns.j0
      exact (if_neg (by decide : ¬ (false = true))).trans hk
    · refine ⟨1, ?_⟩
      rw [Option.bind_some, if_neg (by omega), decide_eq_true (by omega)]
      rfl
  · refine ⟨1, ?_⟩
    rw [Option.bind_some, if_pos (by omega)]
    rfl
end Go.Proofs.Ytdgefplbfffenaa.X
namespace Go.Proofs.Ytdgefplbfffenaa.X
open Go.ChangeShapes Go.WideShapes Go.RowKit Go.Proofs.YtdgefplbfffenaaW.PrintWords
section
variable {H : Type} {enc : TypeId × Value → H} {w : World} {spare : Nat → Bool} {held : Bool}
/-- A slice that came in, of elements of any kind, opened. -/
theorem rows_open {α : Type} (d : Kd α) (Rq : α → Prop) {t e : TypeId} {fuel : Nat} {A : Option Addr} {len cap : Nat} {x : DataW H × List MemPlace} (z : α) (ht : Try.prog.underlying t = some (.slice e)) (hsz : Try.prog.cellsOf e = d.sz)
    (hel : ∀ n cs y, DataW.trod enc Try.prog w 0 spare held n e cs = some y → ∃ x, d.K w x cs ∧ Rq x) (h : DataW.trod enc Try.prog w 0 spare held fuel t [.slice A len cap] = some x) :
    ∃ l : List α, l.length = len ∧ l.length ≤ cap ∧ d.C w A l.length l ∧ ∀ x ∈ l, Rq x := by
  rcases Deep.open_slice ht h with ⟨hcs, _⟩ | ⟨a, len', cap', m, n, D, Pl, hcs, _, hl, hm, hmm, _, hx⟩
  · obtain ⟨rfl, rfl, rfl⟩ : A = none ∧ len = 0 ∧ cap = 0 := by
      have := List.cons.inj hcs
      injection this.1 with h1 h2 h3
      exact ⟨h1, h2, h3⟩
    exact ⟨[], rfl, Nat.le_refl _, Kd.C_nil d w, fun x hx => by cases hx⟩
  · obtain ⟨rfl, rfl, rfl⟩ : A = some a ∧ len = len' ∧ cap = cap' := by
      have := List.cons.inj hcs
      injection this.1 with h1 h2 h3
      exact ⟨h1, h2, h3⟩
    have hlm : len ≤ m := by rw [hmm]; split <;> omega
    have hall : ∀ i, i < len → ∃ p : α × List Value, d.K w p.1 p.2 ∧ Rq p.1 ∧ p.2.length = d.sz ∧ ∀ j u, p.2[j]? = some u → w.cell? (a.add (i * d.sz + j)) = some u := by
      intro i hi
      obtain ⟨cs', h1, h2⟩ := hx i (by omega)
      obtain ⟨y, hy, hR⟩ := hel _ _ _ h2
      obtain ⟨_, hlen, hc⟩ := World.cells?_some h1
      refine ⟨(y, cs'), hy, hR, by rw [hlen, hsz], fun j u hj => ?_⟩
      have hj' := (List.getElem?_eq_some_iff.1 hj).1
      have h3 := hc j (by have := hj'; simp only at this; omega)
      rw [Deep.add_add, hsz] at h3
      rw [h3]
      exact hj
    haveI : Inhabited (α × List Value) := ⟨(z, [])⟩
    obtain ⟨f, hf⟩ := Deep.choose_lt hall
    have hmx : cap ≤ 9223372036854775807 := hm
    refine ⟨(List.range len).map fun i => (f i).1, by simp, by simpa using hl, ⟨rfl, by rw [List.length_map, List.length_range]; omega, fun _ => ⟨a, rfl, fun j p hj => ?_⟩⟩, fun x hx => ?_⟩
    · rw [List.getElem?_map] at hj
      obtain ⟨i, hi, rfl⟩ := Option.map_eq_some_iff.1 hj
      obtain ⟨hi1, hi2⟩ := List.getElem?_eq_some_iff.1 hi
      rw [List.getElem_range] at hi2
      subst hi2
      rw [List.length_range] at hi1
      obtain ⟨k1, k2, k3, k4⟩ := hf j hi1
      exact ⟨_, k3, k1, k4⟩
    · obtain ⟨i, hi, rfl⟩ := List.mem_map.1 hx
      exact (hf i (List.mem_range.1 hi)).2.1
theorem list3 {α : Type} : ∀ {l : List α}, l.length = 3 → ∃ a b c, l = [a, b, c]
  | [a, b, c], _ => ⟨a, b, c, rfl⟩
theorem list5 {α : Type} : ∀ {l : List α}, l.length = 5 → ∃ a b c d e, l = [a, b, c, d, e]
  | [a, b, c, d, e], _ => ⟨a, b, c, d, e, rfl⟩
theorem cells3 : Try.prog.cellsOf 3 = 1 := by kernel_rfl
theorem cells34 : Try.prog.cellsOf 34 = 1 := by kernel_rfl
theorem cells36 : Try.prog.cellsOf 36 = 3 := by kernel_rfl
theorem cells42 : Try.prog.cellsOf 42 = 5 := by kernel_rfl
def okB (l : List Int) : Prop := ∀ b ∈ l, (Lit.int .u8 b).wf = true
theorem int_open {n : Nat} {t : TypeId} {k : IntKind} {cs : List Value} {y : DataW H × List MemPlace} (ht : Try.prog.underlying t = some (.int k)) (h : DataW.trod enc Try.prog w 0 spare held n t cs = some y) : ∃ i, cs = [.int k i] ∧ (Lit.int k i).wf = true := by
  obtain ⟨i, h1, _, h2⟩ := DataW.trod_int ht h
  exact ⟨i, h1, h2⟩
theorem bytes_open {n : Nat} {cs : List Value} {y : DataW H × List MemPlace} (h : DataW.trod enc Try.prog w 0 spare held n 34 cs = some y) : ∃ (A : Option Addr) (c : Nat) (l : List Int), cs = [.slice A l.length c] ∧ l.length ≤ c ∧ (Kd.int .u8).C w A l.length l ∧ okB l := by
  have hs : ∃ A len cap, cs = [.slice A len cap] := by
    rcases Deep.open_slice Try.underlying34 h with ⟨hcs, _⟩ | ⟨a, len', cap', _, _, _, _, hcs, _⟩
    · exact ⟨_, _, _, hcs⟩
    · exact ⟨_, _, _, hcs⟩
  obtain ⟨A, len, cap, rfl⟩ := hs
  obtain ⟨l, rfl, hl, hC, hR⟩ := rows_open (Kd.int .u8) (fun b => (Lit.int .u8 b).wf = true) 0 Try.underlying34 (by kernel_rfl) (fun n cs y hy => by
    obtain ⟨i, rfl, hw⟩ := int_open Try.underlying5 hy
    exact ⟨i, rfl, hw⟩) h
  exact ⟨A, cap, l, rfl, hl, hC, hR⟩
def ok36 (x : S36) : Prop := (Lit.int .i64 x.f0).wf = true ∧ (Lit.int .i64 x.f1).wf = true ∧ okB x.f2
theorem rec_open {n : Nat} {cs : List Value} {y : DataW H × List MemPlace} (h : DataW.trod enc Try.prog w 0 spare held n 36 cs = some y) : ∃ x : S36, k36.K w x cs ∧ ok36 x := by
  obtain ⟨y0, y1, y2, m, _, hl, h0, h1, h2⟩ := Deep.trod_struct3 Try.underlying36 h
  obtain ⟨c0, c1, c2, rfl⟩ := list3 (hl.trans cells36)
  dsimp only at h0 h1 h2
  rw [cells3] at h0 h1
  rw [cells34] at h2
  have h0' : DataW.trod enc Try.prog w 0 spare held m 3 [c0] = some y0 := h0
  have h1' : DataW.trod enc Try.prog w 0 spare held m 3 [c1] = some y1 := h1
  have h2' : DataW.trod enc Try.prog w 0 spare held m 34 [c2] = some y2 := h2
  obtain ⟨i0, e0, w0⟩ := int_open Try.underlying3 h0'
  obtain ⟨i1, e1, w1⟩ := int_open Try.underlying3 h1'
  obtain ⟨A, c, l, e2, hl2, hC, hR⟩ := bytes_open h2'
  obtain rfl := (List.cons.inj e0).1
  obtain rfl := (List.cons.inj e1).1
  obtain rfl := (List.cons.inj e2).1
  exact ⟨⟨i0, i1, l⟩, k36_mk w ⟨i0, i1, l⟩ hl2 hC, w0, w1, hR⟩
def ok42 (x : S42) : Prop := ok36 x.f0 ∧ (Lit.int .i64 x.f1).wf = true ∧ (Lit.int .i64 x.f2).wf = true
theorem found_open {n : Nat} {cs : List Value} {y : DataW H × List MemPlace} (h : DataW.trod enc Try.prog w 0 spare held n 42 cs = some y) : ∃ x : S42, k42.K w x cs ∧ ok42 x := by
  obtain ⟨y0, y1, y2, m, _, hl, h0, h1, h2⟩ := Deep.trod_struct3 Try.underlying42 h
  obtain ⟨c0, c1, c2, c3, c4, rfl⟩ := list5 (hl.trans cells42)
  dsimp only at h0 h1 h2
  rw [cells36] at h0
  rw [cells3] at h1 h2
  have h0' : DataW.trod enc Try.prog w 0 spare held m 36 [c0, c1, c2] = some y0 := h0
  have h1' : DataW.trod enc Try.prog w 0 spare held m 3 [c3] = some y1 := h1
  have h2' : DataW.trod enc Try.prog w 0 spare held m 3 [c4] = some y2 := h2
  obtain ⟨x, hx, hx2⟩ := rec_open h0'
  obtain ⟨i1, e1, w1⟩ := int_open Try.underlying3 h1'
  obtain ⟨i2, e2, w2⟩ := int_open Try.underlying3 h2'
  obtain rfl := (List.cons.inj e1).1
  obtain rfl := (List.cons.inj e2).1
  obtain ⟨A2, c2', he, l2, g2⟩ := k36_open hx
  rw [show [c0, c1, c2, Value.int IntKind.i64 i1, Value.int IntKind.i64 i2] = [c0, c1, c2] ++ [.int .i64 i1, .int .i64 i2] from rfl, he]
  exact ⟨⟨x, i1, i2⟩, k42_mk w ⟨x, i1, i2⟩ l2 g2, hx2, w1, w2⟩
theorem founds_open {fuel : Nat} {A : Option Addr} {len cap : Nat} {x : DataW H × List MemPlace} (h : DataW.trod enc Try.prog w 0 spare held fuel 40 [.slice A len cap] = some x) : ∃ l : List S42, l.length = len ∧ l.length ≤ cap ∧ Kd.C k42 w A l.length l ∧ ∀ x ∈ l, ok42 x :=
  rows_open k42 ok42 z42 Try.underlying40 (by kernel_rfl) (fun _ _ _ hy => found_open hy) h
end
end Go.Proofs.Ytdgefplbfffenaa.X
namespace Go.Proofs.Ytdgefplbfffenaa.logRuns
open Go.ChangeShapes Go.WideShapes Go.ChangeAt Go.RowKit
open Go.ChangeMaps (open_string shut_string)
set_option linter.unusedVariables false
theorem own : ownKnob Try.prog.godebug = none := by kernel_rfl
theorem laidOut : laidOutB Try.prog = true := by kernel_rfl
set_option maxRecDepth 100000 in
theorem lifted (os : Os) (started : os.Started) (H : Type) (enc : TypeId × Value → H) :
    ReturnsInHanded {} Try.checked os 4 .any (Rows.logRunsSpec.pre6 enc Try.prog Try.f4 Rows.logRunsRow.domain false) (Rows.logRunsSpec.post enc Try.prog Try.f4 false true false false) := by
  refine returnsInHanded_of_change_sized (C := Try.checked) own started (by kernel_rfl) Try.func4
    (ChangeSpec.witness6 (enc := enc) (C := Try.checked) false ⟨#[], #[.slice none 0 0, .int .i64 0], []⟩ 8 (by kernel_rfl) (by kernel_rfl) (by kernel_rfl) (by kernel_rfl)) ?_
  intro W base args ds gs before hval0 hW hcnd hsz0 _
  have hsz : (DataW.weightsEach Try.prog (Try.f4.params.toList ++ Rows.logRunsSpec.plain.varTypes Try.prog) (ds ++ gs)).all (· ≤ reachBytes) = true := hsz0
  have hval : ∀ (j : Nat) t v, Try.f4.params[j]? = some t → args[j]? = some v → Value.okWide Try.prog W .any base t v := hval0
  have hW' := hW
  obtain ⟨p, q, hA0, hV, rfl, hfz, hnd⟩ := hW
  have hA : DataW.TrodAll enc Try.prog W 0 (fun _ => true) true Try.f4.params.toList args.toList ds p := hA0
  rw [Try.params4] at hA hval hsz
  obtain ⟨v0, vs0, d0, ds0, p0, q0, hargs, rfl, rfl, h0, r0⟩ := trodAll_cons hA
  obtain ⟨v1, vs1, d1, ds1, p1, q1, rfl, rfl, rfl, h1, r1⟩ := trodAll_cons r0
  obtain ⟨rfl, rfl, rfl⟩ := trodAll_nil r1
  obtain rfl : args = #[v0, v1] := by cases args; simp_all
  obtain ⟨rfl, rfl⟩ := trodVars_none hV
  obtain ⟨a0, len0, cap0, rfl⟩ := okWide_slice Try.underlying40 (hval 0 40 v0 rfl rfl)
  have k0 := h0
  have lt0 : ∀ x ∈ p0, x.block < W.heap.size := by obtain ⟨m, hm⟩ := k0; exact DataW.trod_lt m _ _ _ hm
  obtain ⟨l0, rfl, hc0, hr0, hok⟩ : ∃ l : List X.S42, l.length = len0 ∧ l.length ≤ cap0 ∧ Go.Proofs.YtdgefplbfffenaaW.PrintWords.Kd.C X.k42 W a0 l.length l ∧ ∀ x ∈ l, X.ok42 x := by
    obtain ⟨fuel, hf⟩ := h0
    exact X.founds_open hf
  obtain ⟨a1, rfl, rfl, rfl, w1⟩ := open_int Try.underlying3 (hval 1 3 v1 rfl rfl) h1
  clear hA0 hval0 hsz0 hsz
  have hs : X.seqsOk l0 = true := by
    unfold X.seqsOk
    rw [List.all_eq_true]
    intro x hx
    exact decide_eq_true ((Lit.wf_int_iff .i64 _).1 (hok x hx).1.2.1)
  obtain ⟨k, hk⟩ := X.LogRuns_pure l0 a1 hs ((Lit.wf_int_iff .i64 _).1 w1).1
  refine (X.waggonerlaw06_LogRuns.calls k a0 cap0 l0 a1 true W hr0 hc0 hk).mono fun e W' ⟨he, bel⟩ => ?_
  subst he
  exact ⟨_, rfl, _, _, _, [], _, [], hW', trodAll_mk1 (shut_bool Try.underlying4 _), (trodAll_cons_mk (Below.trod laidOut (by kernel_rfl) (of_decide_eq_true (by kernel_rfl)) k0 bel lt0) (trodAll_cons_mk (shut_int Try.underlying3 w1) trodAll_mk0)), rfl, bel.frame _, fun h => by cases h⟩
theorem over : Rows.logRunsRow.holds Try.pinned (OpenSpec.ofChange Rows.logRunsSpec) :=
  OpenClaim.holds_of_wide 4 Try.f4 rfl rfl rfl rfl rfl rfl rfl ⟨rfl, rfl, rfl, rfl, rfl⟩ rfl rfl rfl rfl rfl (by kernel_rfl) Try.func4 (by kernel_rfl)
    (of_decide_eq_true (by kernel_rfl)) (by unfold Func.isWrapper; first | (rw [if_pos (by decide +kernel)]; kernel_rfl) | (rw [if_neg (by decide +kernel)]; exact ⟨rfl, rfl⟩))
    (fun os started H enc _ => lifted os started H enc)
theorem proved : Rows.LogRunsSaid := over
#print axioms proved
end Go.Proofs.Ytdgefplbfffenaa.logRuns
namespace Go.Proofs.Ytdgefplbfffenaa
/-- The row, under a short name, for the claim. -/
theorem logRuns_holds : Rows.LogRunsSaid := logRuns.proved
end Go.Proofs.Ytdgefplbfffenaa
