/- THE STATEMENT TreeTwice: for every input the law returns true, and each argument reads behind the call as it read before. No condition. -/
import Derived.ProofKit
import Derived.Below
import Derived.Carry
import Derived.Lib.SmallJoins
import Derived.OpenShut
import Derived.Test.YtijgbppkdaiikaaGreatRows
import Derived.Test.YtijgbppkdaiikaaGreatCw6
set_option linter.unusedSimpArgs false
set_option linter.unusedVariables false
namespace Go.Tk
open Go.ChangeShapes Go.WideShapes Go.ChangeAt Go.RowKit Go.Joins

/-- All that lies in memory, sealed. -/
def sealedAll (w : World) : Store := fun b => w.heap[b]?

theorem Hp.start (w : World) : Hp w (fun _ => False) (sealedAll w) [] w :=
 ⟨rfl, rfl, rfl, Nat.le_refl _, fun _ _ _ => rfl, fun _ _ h => h, (fun _ h => by cases h), List.Pairwise.nil, (fun _ h => by cases h)⟩

theorem Hp.below {W w : World} {S : Store} {H : Heap} (h : Hp W (fun _ => False) S H w) : Below W.heap.size W w :=
 ⟨h.os, h.tape, h.output, h.size, fun k hk => h.frame k hk id⟩

theorem u8_of_wf {n : Int} (h : (Lit.int .u8 n).wf = true) : ∃ x : UInt8, n = (x.toNat : Int) := by
 have hb : 0 ≤ n ∧ n ≤ 255 := by
  simp [Lit.wf, IntKind.min, IntKind.max, IntKind.bits, IntKind.signed] at h; omega
 refine ⟨UInt8.ofNat n.toNat, ?_⟩
 have : (UInt8.ofNat n.toNat).toNat = n.toNat := by simp; omega
 rw [this]; omega

theorem u8s_of_wf : ∀ (l : List Int), (∀ n ∈ l, (Lit.int .u8 n).wf = true) → ∃ bs : List UInt8, l = bs.map fun x => (x.toNat : Int)
 | [], _ => ⟨[], rfl⟩
 | n :: l, h => by
   obtain ⟨x, hx⟩ := u8_of_wf (h n (List.mem_cons_self ..))
   obtain ⟨bs, hbs⟩ := u8s_of_wf l fun m hm => h m (List.mem_cons_of_mem _ hm)
   exact ⟨x :: bs, by rw [hx, hbs]; rfl⟩

theorem block_of_cell {w : World} {a : Addr} {v : Value} (h : w.cell? a = some v) : ∃ cs T fz, w.heap[a.block]? = some (.cells cs T fz) := by
 unfold World.cell? at h
 split at h
 ·exact ⟨_, _, _, by assumption⟩
 ·cases h

theorem block_of_has {P : Program} {w : World} {r : Reach} {b : Nat} {a : Addr} {e : TypeId} {n : Nat} (h : World.has P w r b a e n) : a.spot = none ∧ ∃ cs T fz, w.heap[a.block]? = some (.cells cs T fz) := by
 obtain ⟨_, h1, row, cells, h2, _⟩ := h
 refine ⟨h1, ?_⟩
 unfold World.shape? at h2
 split at h2
 ·exact ⟨_, _, _, by assumption⟩
 ·cases h2

/-- A []byte that came in: the cell fits its type, and it was read. -/
theorem bytes_of {H : Type} {enc : TypeId × Value → H} {P : Program} {t e : TypeId} {w : World} {r : Reach} {b0 fuel : Nat} {v : Value} {y : DataW H × List MemPlace} (ht : P.underlying t = some (.slice e)) (he : P.underlying e = some (.int .u8)) (hc : P.cellsOf e = 1)
 (hk : Cell.okWide P w r b0 t v) (h : DataW.trod enc P w 0 (fun _ => true) true fuel t [v] = some y) : ∃ l, Bs (sealedAll w) [] v l := by
 rcases open_ints ht he hc h with ⟨hcs, _⟩ | ⟨x, m, c, zs, hcs, _, hl, hm, hz, _, hcell, hwz⟩
 ·injection hcs with hv _; subst hv
  exact ⟨[], Rd.nil ..⟩
 ·injection hcs with hv _; subst hv
  have hz' : zs.length = c := by simpa using hz
  simp only [Cell.okWide, ht, Cell.ok] at hk
  obtain ⟨_, hmax, hhas⟩ := hk
  obtain ⟨hs, cs, T, fz, hb⟩ := block_of_has hhas
  obtain ⟨xb, xo, xs⟩ := x
  simp only at hs hb; subst hs
  obtain ⟨bs, rfl⟩ := u8s_of_wf zs hwz
  simp only [List.length_map] at hz' hcell
  have hlen : (bs.take m).length = m := by rw [List.length_take, Nat.min_eq_left (by omega)]
  refine ⟨bs.take m, ?_, .inr ⟨xb, xo, c, cs, T, fz, ?_, ⟨?_, ?_⟩, .imm hb, fun j hj => ?_⟩⟩
  ·simp
  ·rw [hlen]
  ·omega
  ·have e : (IntKind.i64).max = 9223372036854775807 := by decide
   omega
  ·simp only [List.length_map, List.length_take] at hj
   have hc' := hcell j (by omega)
   unfold World.cell? at hc'
   have ea : (⟨xb, xo, none⟩ : Addr).add j = ⟨xb, xo + j, none⟩ := by
    unfold Addr.add; split <;> simp_all
   rw [ea] at hc'
   simp only [hb] at hc'
   simp only [Option.isSome_none] at hc'
   simp only [List.getElem?_map, List.getElem?_take]
   rw [if_pos (by omega)]
   have e1 : bs[j]? = some bs[j] := List.getElem?_eq_getElem (by omega)
   rw [e1]
   simp only [List.getD_eq_getElem?_getD, List.getElem?_map, e1] at hc'
   simpa [bv] using hc'

/-- A struct that came in by value: each of its cells fits its type. -/
theorem agg_cells {P : Program} {w : World} {r : Reach} {b0 : Nat} {t : TypeId} {fs : Array Field} {ts : List TypeId} {v : Value} (hs : P.underlying t = some (.struct fs)) (ct : P.cellTypes P.depth t = some ts) (h : Value.okWide P w r b0 t v) :
 ∃ cs, v = .agg cs ∧ cs.size = P.cellsOf t ∧ ∀ i x, cs[i]? = some x → ∃ u, ts[i % ts.length]? = some u ∧ Cell.okWide P w r b0 u x := by
 unfold Value.okWide at h
 rw [hs] at h
 obtain ⟨cs, h1, h2, ts', h3, _, h4⟩ := h
 rw [ct] at h3; injection h3 with h3; subst h3
 exact ⟨cs, h1, h2, h4⟩

end Go.Tk

set_option linter.unusedSimpArgs false
set_option linter.unusedVariables false
namespace Go.Proofs.YtijgbppkdaiikaaGreat
open Go.Proofs.Tryz Go.Tk Go.ChangeShapes Go.WideShapes Go.ChangeAt Go.RowKit Go.Joins

theorem Tryz.ownK : ownKnob Tryz.prog.godebug = none := by kernel_rfl
theorem Tryz.laidK : laidOutB Tryz.prog = true := by kernel_rfl
theorem Tryz.cellsU8 : Tryz.prog.cellsOf 5 = 1 := by kernel_rfl
theorem Tryz.cellsAct : Tryz.prog.cellsOf 24 = 4 := by kernel_rfl
theorem Tryz.typesAct : Tryz.prog.cellTypes Tryz.prog.depth 24 = some [4, 22, 3, 5] := by kernel_rfl

set_option maxRecDepth 100000 in
/-- An Act that came in by value. -/
theorem act_of {H : Type} {enc : TypeId × Value → H} {w : World} {r : Reach} {b0 : Nat} {v : Value} {d : DataW H} {p : List MemPlace} (hv : Value.okWide Tryz.prog w r b0 24 v) (h : DataW.Trod enc Tryz.prog w 0 (fun _ => true) true 24 v d p) :
 ∃ (del : Bool) (kv : Value) (n x : Int) (key : List UInt8), v = .agg #[.bool del, kv, .int .i64 n, .int .u8 x] ∧ Bs (sealedAll w) [] kv key ∧ (Lit.int .i64 n).wf = true ∧ (Lit.int .u8 x).wf = true := by
 obtain ⟨c0, c1, c2, c3, y0, y1, y2, y3, m, rfl, _, _, h0, h1, h2, h3⟩ := open_agg4 underlying24 (by kernel_rfl) Tryz.cellsAct hv h
 obtain ⟨cs, hcs, _, hcell⟩ := agg_cells underlying24 Tryz.typesAct hv
 injection hcs with hcs; subst hcs
 obtain ⟨del, e0, _⟩ := DataW.trod_bool underlying4 h0
 obtain ⟨n, e2, _, w2⟩ := DataW.trod_int underlying3 h2
 obtain ⟨x, e3, _, w3⟩ := DataW.trod_int underlying5 h3
 obtain ⟨u, hu, hk⟩ := hcell 1 c1 rfl
 injection hu with hu; subst hu
 obtain ⟨key, hkey⟩ := bytes_of underlying22 underlying5 Tryz.cellsU8 hk h1
 injection e0 with e0; injection e2 with e2; injection e3 with e3
 subst e0; subst e2; subst e3
 exact ⟨del, c1, n, x, key, rfl, hkey, w2, w3⟩

theorem bs_cell {S : Store} {H : Heap} {v : Value} {l : List UInt8} (h : Bs S H v l) : v.oneCell' = true := by
 obtain ⟨_, _, rfl, _⟩ := h.form; rfl

set_option maxRecDepth 100000 in
theorem treeTwice_lifted (os : Os) (started : os.Started) (H : Type) (enc : TypeId × Value → H) :
 ReturnsInHanded {} Tryz.checked os 3 .any (Rows.treeTwiceSpec.pre6 enc Tryz.prog Tryz.f3 Rows.treeTwiceRow.domain false) (Rows.treeTwiceSpec.post enc Tryz.prog Tryz.f3 false true false false) := by
 refine returnsInHanded_of_change (C := Tryz.checked) Tryz.ownK started (by kernel_rfl) func3
  (ChangeSpec.witness6 (enc := enc) (C := Tryz.checked) false ⟨#[], #[.int .i64 0, .slice none 0 0, .agg #[.bool false, .slice none 0 0, .int .i64 0, .int .u8 0], .agg #[.bool false, .slice none 0 0, .int .i64 0, .int .u8 0]], []⟩ 8 (by kernel_rfl) (by kernel_rfl) (by kernel_rfl) (by kernel_rfl)) ?_
 intro W base args ds gs before hval0 hW hcnd _
 have hval : ∀ (j : Nat) t v, Tryz.f3.params[j]? = some t → args[j]? = some v → Value.okWide Tryz.prog W .any base t v := hval0
 have hW' := hW
 obtain ⟨p, q, hA0, hV, rfl, hfz, hnd⟩ := hW
 have hA : DataW.TrodAll enc Tryz.prog W 0 (fun _ => true) true Tryz.f3.params.toList args.toList ds p := hA0
 rw [Tryz.params3] at hA hval
 obtain ⟨v0, v1, v2, v3, d0, d1, d2, d3, p0, p1, p2, p3, rfl, rfl, rfl, h0, h1, h2, h3⟩ := trodAll_four hA
 obtain ⟨rfl, rfl⟩ := trodVars_none hV
 have lt0 : ∀ x ∈ p0, x.block < W.heap.size := by obtain ⟨m, hm⟩ := h0; exact DataW.trod_lt m _ _ _ hm
 have lt1 : ∀ x ∈ p1, x.block < W.heap.size := by obtain ⟨m, hm⟩ := h1; exact DataW.trod_lt m _ _ _ hm
 have lt2 : ∀ x ∈ p2, x.block < W.heap.size := by obtain ⟨m, hm⟩ := h2; exact DataW.trod_lt m _ _ _ hm
 have lt3 : ∀ x ∈ p3, x.block < W.heap.size := by obtain ⟨m, hm⟩ := h3; exact DataW.trod_lt m _ _ _ hm
 have k0 := h0
 obtain ⟨z, rfl, _, _, w0⟩ := open_int underlying3 (hval 0 3 v0 rfl rfl) k0
 obtain ⟨key, hkey⟩ : ∃ l, Bs (sealedAll W) [] v1 l := by
  obtain ⟨fuel, hf⟩ := h1
  have hv1 := hval 1 22 v1 rfl rfl
  have hcells : v1.cells.toList = [v1] := by
   obtain ⟨_, _, _, rfl⟩ := okWide_slice underlying22 hv1; rfl
  unfold Value.okWide at hv1
  rw [underlying22] at hv1
  rw [hcells] at hf
  exact bytes_of underlying22 underlying5 Tryz.cellsU8 hv1 hf
 obtain ⟨del1, kv1, n1, x1, key1, rfl, hk1, _⟩ := act_of (hval 2 24 v2 rfl rfl) h2
 obtain ⟨del2, kv2, n2, x2, key2, rfl, hk2, _⟩ := act_of (hval 3 24 v3 rfl rfl) h3
 clear hA0 hval0
 refine (treeTwice_ok hkey rfl (bs_cell hk1) rfl (bs_cell hk2) (Hp.start W)).mono fun e W' ⟨he, S', _, hw⟩ => ?_
 subst he
 have bel := hw.below
 exact ⟨_, rfl, _, _, _, [], _, [], hW', trodAll_mk1 (shut_bool underlying4 _), (trodAll_cons_mk (Below.trod Tryz.laidK (by kernel_rfl) (of_decide_eq_true (by kernel_rfl)) h0 bel lt0) (trodAll_cons_mk (Below.trod Tryz.laidK (by kernel_rfl) (of_decide_eq_true (by kernel_rfl)) h1 bel lt1)
  (trodAll_cons_mk (Below.trod Tryz.laidK (by kernel_rfl) (of_decide_eq_true (by kernel_rfl)) h2 bel lt2) (trodAll_cons_mk (Below.trod Tryz.laidK (by kernel_rfl) (of_decide_eq_true (by kernel_rfl)) h3 bel lt3) trodAll_mk0)))), rfl, bel.frame _, fun h => by cases h⟩

/-- The statement. -/
theorem treeTwice_holds : Rows.TreeTwiceSaid :=
 OpenClaim.holds_of_wide 3 Tryz.f3 rfl rfl rfl rfl rfl rfl rfl ⟨rfl, rfl, rfl, rfl, rfl⟩ rfl rfl rfl rfl rfl (by kernel_rfl) func3 (by kernel_rfl)
  (of_decide_eq_true (by kernel_rfl)) (by unfold Func.isWrapper; rw [if_neg (of_decide_eq_false (by kernel_rfl))]; exact ⟨rfl, rfl⟩)
  (fun os started H enc _ => treeTwice_lifted os started H enc)

#print axioms treeTwice_holds
end Go.Proofs.YtijgbppkdaiikaaGreat
